/- Part 2 of the texts behind the last one: rules and contracts. No condition. -/
import Derived.Test.YtonampcmhhhffaaGreatKR1
namespace Go.Sx
structure Iv where
  lo : Int
  hi : Int
@[simp] theorem Iv.eta (x : Iv) : (⟨x.lo, x.hi⟩ : Iv) = x := rfl
def iv (x : Iv) : Value := .agg #[.int .i64 x.lo, .int .i64 x.hi]
def vI (x : Int) : Value := .int .i64 x
def vB (b : Bool) : Value := .bool b
def ivB (x : Iv × Bool) : Value := .tuple #[iv x.1, .bool x.2]
def In64 (a : Int) : Prop := -9223372036854775808 ≤ a ∧ a ≤ 9223372036854775807
def clampI (a : Int) : Int := min (max a (-2147483648)) 2147483648
def ceilI (a b : Int) : Int := -((-a) / b)
def Iv.valid (a : Iv) : Bool := decide (-2147483648 ≤ a.lo) && decide (a.lo ≤ a.hi) && decide (a.hi ≤ 2147483648)
def Iv.limited (lo hi : Int) : Iv := ⟨clampI lo, clampI hi⟩
def Iv.of (x : Int) : Iv := ⟨clampI x, clampI x⟩
def Iv.neg (a : Iv) : Iv := bif a.valid then ⟨-a.hi, -a.lo⟩ else ⟨0, 0⟩
def Iv.add (a b : Iv) : Iv := bif a.valid && b.valid then ⟨clampI (a.lo + b.lo), clampI (a.hi + b.hi)⟩ else ⟨0, 0⟩
def Iv.sub (a b : Iv) : Iv := bif a.valid && b.valid then ⟨clampI (a.lo - b.hi), clampI (a.hi - b.lo)⟩ else ⟨0, 0⟩
def min4 (a b c d : Int) : Int := min (min (min a b) c) d
def max4 (a b c d : Int) : Int := max (max (max a b) c) d
def Iv.mul (a b : Iv) : Iv := bif a.valid && b.valid then
  ⟨clampI (min4 (a.lo * b.lo) (a.lo * b.hi) (a.hi * b.lo) (a.hi * b.hi) / 65536), clampI (ceilI (max4 (a.lo * b.lo) (a.lo * b.hi) (a.hi * b.lo) (a.hi * b.hi)) 65536)⟩ else ⟨0, 0⟩
def Iv.hasZero (a : Iv) : Bool := decide (a.lo ≤ 0) && decide (0 ≤ a.hi)
def Iv.square (a : Iv) : Iv := bif a.valid then
  ⟨clampI ((bif a.hasZero then 0 else min (a.lo * a.lo) (a.hi * a.hi)) / 65536), clampI (ceilI (max (a.lo * a.lo) (a.hi * a.hi)) 65536)⟩ else ⟨0, 0⟩
def Iv.hull (a b : Iv) : Iv := bif a.valid && b.valid then ⟨min a.lo b.lo, max a.hi b.hi⟩ else ⟨0, 0⟩
def Iv.meetB (a b : Iv) : Bool := a.valid && b.valid && decide (max a.lo b.lo ≤ min a.hi b.hi)
def Iv.meet (a b : Iv) : Iv × Bool := bif a.meetB b then (⟨max a.lo b.lo, min a.hi b.hi⟩, true) else (⟨0, 0⟩, false)
def Iv.has (a : Iv) (x : Int) : Bool := a.valid && decide (a.lo ≤ x) && decide (x ≤ a.hi)
def Iv.width (a : Iv) : Int := bif a.valid then a.hi - a.lo else 0
theorem Iv.valid_spec {a : Iv} (h : a.valid = true) : -2147483648 ≤ a.lo ∧ a.lo ≤ a.hi ∧ a.hi ≤ 2147483648 := by
  simp [Iv.valid] at h; omega
theorem valid_mk {x y : Int} (h : Iv.valid ⟨x, y⟩ = true) : -2147483648 ≤ x ∧ x ≤ y ∧ y ≤ 2147483648 := Iv.valid_spec h
theorem neg_in {x : Int} (h : -9223372036854775808 ≤ -x ∧ -x ≤ 9223372036854775807) : IntKind.i64.wrap (0 - x) = -x := by
  rw [Int.zero_sub]; exact i64_in h
theorem mul_bnd {a b : Int} (ha : -2147483648 ≤ a ∧ a ≤ 2147483648) (hb : -2147483648 ≤ b ∧ b ≤ 2147483648) : -4611686018427387904 ≤ a * b ∧ a * b ≤ 4611686018427387904 := by
  have h1 : a.natAbs * b.natAbs ≤ 2147483648 * 2147483648 := Nat.mul_le_mul (by omega) (by omega)
  have h2 : (a * b).natAbs = a.natAbs * b.natAbs := Int.natAbs_mul a b
  rw [← h2] at h1
  omega
theorem mul_in {a b : Int} (ha : -2147483648 ≤ a ∧ a ≤ 2147483648) (hb : -2147483648 ≤ b ∧ b ≤ 2147483648) : IntKind.i64.wrap (a * b) = a * b :=
  i64_in (by have := mul_bnd ha hb; omega)
theorem tdiv_bnd {a b : Int} (ha : In64 a) (hb : 0 < b) : In64 (a.tdiv b) := by
  unfold In64 at *
  rcases Int.le_total 0 a with h | h
  · rw [Int.tdiv_eq_ediv_of_nonneg h]
    have h1 := Int.ediv_le_self b h
    have h2 : 0 ≤ a / b := Int.ediv_nonneg h (Int.le_of_lt hb)
    omega
  · have e : a.tdiv b = -((-a) / b) := by
      rw [← Int.tdiv_eq_ediv_of_nonneg (by omega : 0 ≤ -a), Int.neg_tdiv, Int.neg_neg]
    rw [e]
    have h1 := Int.ediv_le_self b (by omega : 0 ≤ -a)
    have h2 : 0 ≤ (-a) / b := Int.ediv_nonneg (by omega) (Int.le_of_lt hb)
    omega
theorem floor_neg {a b : Int} (hb : 0 < b) (h : a.tmod b < 0) : a.tdiv b - 1 = a / b := by
  have h1 := Int.tdiv_mul_add_tmod a b
  have h3 : -b < a.tmod b := by
    have := Int.lt_tmod_of_pos a hb
    omega
  have : a / b = a.tdiv b - 1 := by
    rw [Int.ediv_eq_iff_of_pos hb]
    have e : (a.tdiv b - 1) * b = a.tdiv b * b - b := by rw [Int.sub_mul]; omega
    rw [e]
    omega
  omega
theorem floor_pos {a b : Int} (hb : 0 < b) (h : ¬ a.tmod b < 0) : a.tdiv b = a / b := by
  have h1 := Int.tdiv_mul_add_tmod a b
  have h3 : a.tmod b < b := Int.tmod_lt_of_pos a hb
  have : a / b = a.tdiv b := by
    rw [Int.ediv_eq_iff_of_pos hb]
    omega
  omega
theorem ceil_iff {a b q : Int} (hb : 0 < b) (h1 : a ≤ q * b) (h2 : q * b < a + b) : ceilI a b = q := by
  unfold ceilI
  have : -a / b = -q := by
    rw [Int.ediv_eq_iff_of_pos hb, Int.neg_mul]
    omega
  omega
theorem ceil_pos {a b : Int} (hb : 0 < b) (h : 0 < a.tmod b) : a.tdiv b + 1 = ceilI a b := by
  have h1 := Int.tdiv_mul_add_tmod a b
  have h3 : a.tmod b < b := Int.tmod_lt_of_pos a hb
  refine (ceil_iff hb ?_ ?_).symm <;> rw [Int.add_mul] <;> omega
theorem ceil_neg {a b : Int} (hb : 0 < b) (h : ¬ 0 < a.tmod b) : a.tdiv b = ceilI a b := by
  have h1 := Int.tdiv_mul_add_tmod a b
  have h3 : -b < a.tmod b := by
    have := Int.lt_tmod_of_pos a hb
    omega
  refine (ceil_iff hb ?_ ?_).symm <;> omega
theorem shr_eq {a k : Int} (h0 : 0 ≤ k) (h1 : k ≤ 62) : a.fdiv (2 ^ min k.toNat IntKind.i64.bits) = a / 2 ^ k.toNat := by
  have : min k.toNat IntKind.i64.bits = k.toNat := by
    have hb : IntKind.i64.bits = 64 := rfl
    omega
  rw [this, Int.fdiv_eq_ediv_of_nonneg _ (by exact Int.le_of_lt (Int.pow_pos (by decide)))]
theorem pow_split {k : Nat} (h : k ≤ 62) : (2 : Int) ^ (63 - k) * 2 ^ k = 9223372036854775808 := by
  rw [← Int.pow_add, show 63 - k + k = 63 by omega]; rfl
theorem shl_eq {a k : Int} (ha : In64 a) (h0 : 0 ≤ k) (h1 : k ≤ 62) : IntKind.i64.wrap (a / 2 ^ k.toNat * 2 ^ min k.toNat IntKind.i64.bits) = a / 2 ^ k.toNat * 2 ^ k.toNat := by
  have hm : min k.toNat IntKind.i64.bits = k.toNat := by
    have hb : IntKind.i64.bits = 64 := rfl
    omega
  rw [hm]
  have hp : (0 : Int) < 2 ^ k.toNat := Int.pow_pos (by decide)
  have h2 := Int.ediv_mul_le a (Int.ne_of_gt hp)
  have h3 : -(2 ^ (63 - k.toNat)) ≤ a / 2 ^ k.toNat := by
    rw [Int.le_ediv_iff_mul_le hp, Int.neg_mul, pow_split (by omega)]
    exact ha.1
  have h4 : -(2 ^ (63 - k.toNat)) * 2 ^ k.toNat ≤ a / 2 ^ k.toNat * 2 ^ k.toNat := Int.mul_le_mul_of_nonneg_right h3 (Int.le_of_lt hp)
  rw [Int.neg_mul, pow_split (by omega)] at h4
  exact i64_in ⟨h4, by unfold In64 at ha; omega⟩
theorem ceil_of_mul {a b : Int} (hb : 0 < b) (h : a / b * b = a) : a / b = ceilI a b := (ceil_iff hb (by omega) (by omega)).symm
theorem ceil_of_ne {a b : Int} (hb : 0 < b) (h : ¬ a / b * b = a) : a / b + 1 = ceilI a b := by
  have h1 := Int.ediv_mul_le a (Int.ne_of_gt hb)
  have h2 := Int.lt_ediv_add_one_mul_self a hb
  refine (ceil_iff hb ?_ ?_).symm <;> rw [Int.add_mul] at * <;> omega
theorem mul_le_neg {a b : Int} (ha : a ≤ 0) (hb : 1 ≤ b) : a * b ≤ a := by
  have := Int.mul_le_mul_of_nonneg_left (c := -a) hb (by omega)
  rw [Int.neg_mul, Int.neg_mul] at this
  omega
theorem div_nonpos {a b : Int} (ha : a ≤ 0) (hb : 0 < b) : a / b ≤ 0 := by
  rcases Int.lt_or_le 0 (a / b) with h | h
  · have h1 := Int.ediv_mul_le a (Int.ne_of_gt hb)
    have h2 : 1 * b ≤ a / b * b := Int.mul_le_mul_of_nonneg_right (by omega) (Int.le_of_lt hb)
    omega
  · exact h
theorem shiftUp_bnd {a k : Int} (ha : In64 a) (h : ¬ a / 2 ^ k.toNat * 2 ^ k.toNat = a) : -9223372036854775808 ≤ a / 2 ^ k.toNat + 1 ∧ a / 2 ^ k.toNat + 1 ≤ 9223372036854775807 := by
  have hp : (0 : Int) < 2 ^ k.toNat := Int.pow_pos (by decide)
  unfold In64 at ha
  rcases Int.le_total 0 a with h' | h'
  · have h1 := Int.ediv_le_self (2 ^ k.toNat) h'
    have h2 : 0 ≤ a / 2 ^ k.toNat := Int.ediv_nonneg h' (Int.le_of_lt hp)
    refine ⟨by omega, ?_⟩
    rcases Int.lt_or_le (a / 2 ^ k.toNat) a with h3 | h3
    · omega
    · have e : a / 2 ^ k.toNat = a := by omega
      have h4 := Int.ediv_mul_le a (Int.ne_of_gt hp)
      rw [e] at h4 h
      have h5 : a * 1 ≤ a * 2 ^ k.toNat := Int.mul_le_mul_of_nonneg_left (by omega) h'
      omega
  · have h1 : a / 2 ^ k.toNat ≤ 0 := div_nonpos h' hp
    have h2 : a ≤ a / 2 ^ k.toNat := by
      rw [Int.le_ediv_iff_mul_le hp]
      exact mul_le_neg h' (by omega)
    omega
theorem floor_bnd {a b : Int} (ha : In64 a) (hb : 0 < b) (h : a.tmod b < 0) : -9223372036854775808 ≤ a.tdiv b - 1 ∧ a.tdiv b - 1 ≤ 9223372036854775807 := by
  have h1 := tdiv_bnd ha hb
  have e := floor_neg hb h
  have h2 : a ≤ a / b := by
    have ha0 : a ≤ 0 := by
      rcases Int.le_total a 0 with h' | h'
      · exact h'
      · have := Int.tmod_nonneg b h'
        omega
    rw [Int.le_ediv_iff_mul_le hb]
    exact mul_le_neg ha0 (by omega)
  unfold In64 at *
  omega
theorem ceil_bnd {a b : Int} (ha : In64 a) (hb : 0 < b) (h : 0 < a.tmod b) : -9223372036854775808 ≤ a.tdiv b + 1 ∧ a.tdiv b + 1 ≤ 9223372036854775807 := by
  have h1 := tdiv_bnd ha hb
  have ha0 : 0 ≤ a := by
    rcases Int.le_total 0 a with h' | h'
    · exact h'
    · have h2 := Int.tmod_nonneg b (show 0 ≤ -a by omega)
      rw [Int.neg_tmod] at h2
      omega
  have e := Int.tdiv_mul_add_tmod a b
  have h2 : 0 ≤ a.tdiv b := by rw [Int.tdiv_eq_ediv_of_nonneg ha0]; exact Int.ediv_nonneg ha0 (Int.le_of_lt hb)
  have h3 : a.tdiv b * 1 ≤ a.tdiv b * b := Int.mul_le_mul_of_nonneg_left (by omega) h2
  unfold In64 at *
  omega
theorem clampI_id {a : Int} (h : -2147483648 ≤ a ∧ a ≤ 2147483648) : clampI a = a := by unfold clampI; omega
theorem and_mask {a : Int} : IntKind.i64.wrap ((BitVec.ofInt IntKind.i64.bits a &&& BitVec.ofInt IntKind.i64.bits 65535).toNat) = a % 65536 := by
  have hb : IntKind.i64.bits = 64 := rfl
  have h1 : (BitVec.ofInt IntKind.i64.bits a &&& BitVec.ofInt IntKind.i64.bits 65535).toNat = (a % 65536).toNat := by
    rw [hb, BitVec.toNat_and]
    have e1 : (BitVec.ofInt 64 65535).toNat = 2 ^ 16 - 1 := by decide
    rw [e1, Nat.and_two_pow_sub_one_eq_mod, BitVec.toNat_ofInt]
    omega
  rw [h1]
  refine (i64_in ?_).trans ?_ <;> omega
section
variable {P : Program} {n : Nat} {w0 : Base} {ops : Array Oper} {Q : Exit → Act → World → Prop} {S : Slots} {H : Heap}
theorem doL_vg {α : Type} {F : α → Value} {x : α} {o : Oper} {rest : List Oper} {d : Nat} (ho : OpV P w0 S H o (F x)) (hw : wantedS ops S o = some true) (hd : o.dst = some d) (hn : Nat.blt d n = true)
    (next : ∀ r, r = x → DoL P n w0 ops Q rest ((d, F r) :: S) H) : DoL P n w0 ops Q (o :: rest) S H := doL_v ho hw hd hn (next x rfl)
theorem doG_vg {α : Type} {F : α → Value} {x : α} {o : Oper} {rest : List Oper} {d : Nat} {K : Slots → Ghosts → Prop} {G : Ghosts} (ho : OpV P w0 S H o (F x)) (hw : wantedS ops S o = some true) (hd : o.dst = some d) (hn : Nat.blt d n = true)
    (next : ∀ r, r = x → DoG P n w0 ops H K rest ((d, F r) :: S) G) : DoG P n w0 ops H K (o :: rest) S G := doG_v ho hw hd hn (next x rfl)
theorem fits_lit {a : Act} {d : Nat} {b c : Bool} (f : Fits n S a) (hb : look S d = some (.bool b)) (e : b = c) : Fits n ((d, .bool c) :: S) a := by
  subst e; exact fits_more f (f.has _ _ hb)
theorem doL_split {l : List Oper} (d : Nat) {b : Bool} (hb : look S d = some (.bool b)) (ht : b = true → DoL P n w0 ops Q l ((d, .bool true) :: S) H) (hf : b = false → DoL P n w0 ops Q l ((d, .bool false) :: S) H) :
    DoL P n w0 ops Q l S H := fun a w f k => by
  cases hbb : b with
  | true => exact ht hbb a w (fits_lit f hb hbb) k
  | false => exact hf hbb a w (fits_lit f hb hbb) k
theorem doL_true {l : List Oper} (d : Nat) {b : Bool} (hb : look S d = some (.bool b)) (h : b = true) (next : DoL P n w0 ops Q l ((d, .bool true) :: S) H) : DoL P n w0 ops Q l S H :=
  fun a w f k => next a w (fits_lit f hb h) k
end
end Go.Sx
namespace Go.Sx
open Go.RowKit Go.ChangeShapes Go.WideShapes
section
variable {P : Program} {W : World} {r : Reach} {base : Nat}
theorem open_i64 {t : TypeId} {v : Value} (hu : P.underlying t = some (.int .i64)) (h : Value.okWide P W r base t v) : ∃ n, v = .int .i64 n ∧ In64 n := by
  simp only [Value.okWide, hu, Cell.okWide] at h
  cases v <;> simp [Cell.ok, hu] at h
  obtain ⟨rfl, h1⟩ := h
  exact ⟨_, rfl, by simpa [IntKind.has, IntKind.min, IntKind.max, IntKind.signed, IntKind.bits, In64] using h1⟩
variable {H : Type} {enc : TypeId × Value → H}
def readB (P : Program) (ts : List TypeId) : Bool := ts.all fun t => P.readableRec t && decide (t < P.types.size)
theorem trodAll_below (hl : laidOutB P = true) {W' : World} (hb : Below W.heap.size W W') : ∀ {ts : List TypeId} {vs : List Value} {ds : List (DataW H)} {ps : List MemPlace}, readB P ts = true →
    DataW.TrodAll enc P W 0 (fun _ => true) true ts vs ds ps → (∀ x ∈ ps, x.block < W.heap.size) → DataW.TrodAll enc P W' 0 (fun b => decide (b < W.heap.size)) true ts vs ds ps
  | [], vs, ds, ps, _, h, _ => by
    obtain ⟨rfl, rfl, rfl⟩ := trodAll_nil h
    exact trodAll_mk0
  | t :: ts, vs, ds, ps, hr, h, hlt => by
    obtain ⟨v, vs', d, ds', p, q, rfl, rfl, rfl, h1, h2⟩ := trodAll_cons h
    simp only [readB, List.all_cons, Bool.and_eq_true, decide_eq_true_eq] at hr
    exact trodAll_cons_mk (Below.trod hl hr.1.1 hr.1.2 h1 hb fun x hx => hlt x (List.mem_append_left _ hx))
      (trodAll_below hl hb hr.2 h2 fun x hx => hlt x (List.mem_append_right _ hx))
theorem law_post {f : Func} {s : ChangeSpec} {apart fresh handsOn : Bool} {W' : World} {args : Array Value} {ds : List (DataW H)} {before : List MemPlace} {tb : TypeId}
    (hW : DataW.Whole enc P f.params.toList s.vars apart W args.toList ds [] before) (hvs : s.vars = []) (hl : laidOutB P = true) (hr : readB P f.params.toList = true) (hargs : (s.fn H (ds ++ [])).args = ds)
    (hres : (s.fn H (ds ++ [])).results = [.lit (.bool true)]) (hv : (s.fn H (ds ++ [])).vars = []) (hrt : f.resultTypes = #[tb]) (hub : P.underlying tb = some .bool) (hb : Below W.heap.size W W') :
    s.post enc P f apart fresh handsOn false W args (.bool true) W' := by
  have hlt : ∀ p ∈ before, p.block < W.heap.size := fun p hp => hW.lt p hp
  have hW2 := hW
  obtain ⟨p, q, hA, hV, rfl, _, _⟩ := hW2
  rw [hvs] at hV
  obtain ⟨_, rfl⟩ := trodVars_none hV
  refine ⟨ds, [], p ++ [], [], p, [], hW, ?_, ?_, ?_, World.keptBut_mono (fun x hx => ⟨hx, Or.inr (Or.inl (by simpa using hx))⟩) (hb.frame (· ∈ p ++ [])), fun h => by cases h⟩
  · rw [hres, hrt]
    exact trodAll_mk1 (shut_bool hub true)
  · rw [hargs]
    exact trodAll_below hl hb hr hA fun x hx => hlt x (by simpa using hx)
  · rw [hv, hvs]
    exact rfl
end
end Go.Sx
namespace Go.Sx
open Go.RowKit
section
variable {P : Program} {n : Nat} {w0 : Base} {ops : Array Oper} {Q : Exit → Act → World → Prop} {H : Heap}
variable {S0 : Slots}
theorem step_next {N : Nat} {cs : List Cert} {listed : Array Bool} {a : Act} {w : World} (hlen : cs.length = N) (hdep : depB ops N = true) (hself : selfB ops N = true)
    (hcs : ∀ i o c, ops[i]? = some o → cs[i]? = some c → CertOk P n w0 ops H o c ∧ Stems S0 (cs.take i) c.S c.G)
    (inv : Inv S0 w0 n H cs listed a w) {i : Nat} (hi : i ∈ Region.ready .any ops listed) (hin : i < N) (hsz : listed.size = ops.size) (hops : N ≤ ops.size) :
    ∃ o c, ops[i]? = some o ∧ cs[i]? = some c ∧ CertOk P n w0 ops H o c ∧ (∀ t ∈ o.looksAt ops, KnowAt c.S c.G a w t) ∧
      (∀ (u : Value) (w' : World), Grow w w' → c.T u w' → (c.al = true → u = .pointer (some ⟨w.heap.size, 0, none⟩)) → Inv S0 w0 n H cs (listed.setIfInBounds i true) (a.put o.dst u) w') := by
  obtain ⟨hun, o, ho, hall⟩ := mem_ready.1 hi
  have hil : i < cs.length := by omega
  obtain ⟨c, hc⟩ : ∃ c, cs[i]? = some c := ⟨cs[i], List.getElem?_eq_getElem hil⟩
  obtain ⟨ok, st⟩ := hcs i o c ho hc
  have ops_at : ∀ j c', cs[j]? = some c' → j < N ∧ ∃ oj, ops[j]? = some oj ∧ oj.dst = some c'.d := fun j c' hj => by
    have hjl := (List.getElem?_eq_some_iff.1 hj).1
    have hjo : j < ops.size := by omega
    exact ⟨by omega, ops[j], Array.getElem?_eq_getElem hjo, (hcs j ops[j] c' (Array.getElem?_eq_getElem hjo) hj).1.dst⟩
  have waits : ∀ j c', cs[j]? = some c' → j ≠ i → c'.d ∈ o.looksAt ops → j < i ∧ listed.getD j false = true := fun j c' hj hne hm => by
    obtain ⟨hjN, oj, hoj, hdj⟩ := ops_at j c' hj
    obtain ⟨h1, h2⟩ := (depB_spec hdep hjN hin hne hoj ho).2 c'.d hdj hm
    refine ⟨h1, ?_⟩
    obtain ⟨o', ho', e, he, hb, hon⟩ := Region.waitsFor_spec h2
    rw [ho] at ho'
    cases ho'
    have := hall e he hb
    rwa [hon] at this
  have know : ∀ t ∈ o.looksAt ops, KnowAt c.S c.G a w t := fun t ht => by
    have hself' : c.d ≠ t := fun e => selfB_spec hself hin ho ok.dst (e ▸ ht)
    refine ⟨fun v hv => ?_, fun T hT => ?_⟩
    · rcases st.slots t v hv with ⟨c', hm, hd, hTc⟩ | ⟨h0, hno⟩
      · obtain ⟨j, hj⟩ := List.mem_iff_getElem?.1 hm
        rw [List.getElem?_take] at hj
        split at hj
        · rename_i hji
          obtain ⟨_, hdone⟩ := waits j c' hj (by omega) (hd ▸ ht)
          obtain ⟨u, hu, hTu⟩ := inv.done j c' hj hdone
          rw [hTc] at hTu
          rw [← hd, hu]
          exact congrArg some hTu
        · cases hj
      · refine inv.old t v h0 fun j c' hj hd => ?_
        by_cases e : j = i
        · subst e
          rw [hc] at hj
          cases hj
          exact absurd hd hself'
        · obtain ⟨hlt, _⟩ := waits j c' hj e (hd ▸ ht)
          exact absurd hd (hno c' (List.mem_of_getElem? (by rw [List.getElem?_take, if_pos hlt]; exact hj)))
    · obtain ⟨c', hm, hd, hTc⟩ := st.ghosts t T hT
      obtain ⟨j, hj⟩ := List.mem_iff_getElem?.1 hm
      rw [List.getElem?_take] at hj
      split at hj
      · rename_i hji
        obtain ⟨_, hdone⟩ := waits j c' hj (by omega) (hd ▸ ht)
        obtain ⟨u, hu, hTu⟩ := inv.done j c' hj hdone
        exact ⟨u, by rw [← hd]; exact hu, hTc ▸ hTu⟩
      · cases hj
  have hlt : i < listed.size := by omega
  have put_ne : ∀ (u : Value) (t : Nat), c.d ≠ t → (a.put (some c.d) u).tmps[t]? = a.tmps[t]? := fun u t hne => by simp [Act.put, Array.getElem?_setIfInBounds_ne hne]
  have put_eq : ∀ (u : Value), (a.put (some c.d) u).tmps[c.d]? = some u := fun u => by
    have := ok.lt
    have hs := inv.size
    simp [Act.put, hs, this]
  have done_iff : ∀ j, j ≠ i → (listed.setIfInBounds i true).getD j false = listed.getD j false := fun j hj => getD_set_ne false (Ne.symm hj)
  have dne : ∀ j c', cs[j]? = some c' → j ≠ i → c'.d ≠ c.d := fun j c' hj hne e => by
    obtain ⟨hjN, oj, hoj, hdj⟩ := ops_at j c' hj
    exact (depB_spec hdep hjN hin hne hoj ho).1 (by rw [hdj, ok.dst, e])
  have next : ∀ (u : Value) (w' : World), Grow w w' → c.T u w' → (c.al = true → u = .pointer (some ⟨w.heap.size, 0, none⟩)) →
      Inv S0 w0 n H cs (listed.setIfInBounds i true) (a.put o.dst u) w' := fun u w' gr hT hal => by
    rw [ok.dst]
    refine ⟨by simp [Act.put, inv.size], inv.defers, fun t v hv hno => ?_, fun j c' hj hd => ?_, fun j k c' c'' hj hk hne h1 h2 hd1 hd2 => ?_, inv.knows.next gr⟩
    · have hne : c.d ≠ t := fun e => by
        have := hno i c hc e
        simp [hlt] at this
      rw [put_ne u t hne]
      refine inv.old t v hv fun j c' hj hd => ?_
      by_cases e : j = i
      · subst e; rw [hc] at hj; cases hj; exact absurd hd hne
      · rw [← done_iff j e]; exact hno j c' hj hd
    · by_cases e : j = i
      · subst e; rw [hc] at hj; cases hj
        exact ⟨u, put_eq u, hT⟩
      · rw [done_iff j e] at hd
        obtain ⟨u', hu, hTu⟩ := inv.done j c' hj hd
        obtain ⟨_, oj, hoj, _⟩ := ops_at j c' hj
        exact ⟨u', by rw [put_ne u _ (Ne.symm (dne j c' hj e))]; exact hu, (hcs j oj c' hoj hj).1.stable _ _ _ hTu gr⟩
    · have fresh : ∀ j c', cs[j]? = some c' → j ≠ i → c'.al = true → listed.getD j false = true → a.tmps[c'.d]? ≠ some (.pointer (some ⟨w.heap.size, 0, none⟩)) := fun j c' hj e ha hd he => by
        obtain ⟨u', hu, hTu⟩ := inv.done j c' hj hd
        obtain ⟨_, oj, hoj, _⟩ := ops_at j c' hj
        obtain ⟨b, hb, hbl, _⟩ := ((hcs j oj c' hoj hj).1.al ha).2 _ _ hTu
        rw [hu, hb] at he
        simp only [Option.some.injEq, Value.pointer.injEq, Addr.mk.injEq, and_true] at he
        omega
      by_cases e1 : j = i
      · subst e1; rw [hc] at hj; cases hj
        have e2 : k ≠ j := Ne.symm hne
        rw [put_eq, put_ne u _ (Ne.symm (dne k c'' hk e2)), hal h1]
        rw [done_iff k e2] at hd2
        exact Ne.symm (fresh k c'' hk e2 h2 hd2)
      · by_cases e2 : k = i
        · subst e2; rw [hc] at hk; cases hk
          rw [put_eq, put_ne u _ (Ne.symm (dne j c' hj e1)), hal h2]
          rw [done_iff j e1] at hd1
          exact fresh j c' hj e1 h1 hd1
        · rw [put_ne u _ (Ne.symm (dne j c' hj e1)), put_ne u _ (Ne.symm (dne k c'' hk e2))]
          rw [done_iff j e1] at hd1
          rw [done_iff k e2] at hd2
          exact inv.apart j k c' c'' hj hk hne h1 h2 hd1 hd2
  exact ⟨o, c, ho, hc, ok, know, next⟩
def exB (ops : Array Oper) (L : Nat) : Bool := match ops[L]? with
  | some o => (match o.op, o.guard with | .extract _ _, none => true | _, _ => false)
  | none => false
theorem exB_spec {L : Nat} {o : Oper} (h : exB ops L = true) (ho : ops[L]? = some o) : (∃ x k, o.op = .extract x k) ∧ o.guard = none := by
  simp only [exB, ho] at h
  cases h1 : o.op <;> cases h2 : o.guard <;> simp [h1, h2] at h ⊢
def freeB (ops : Array Oper) (L : Nat) : Bool := match ops[L]? with
  | none => false
  | some oi => (List.range ops.size).all fun j => j == L || oi.after.any (fun e => Region.binds .any e && e.on == j) || match ops[j]? with
      | some oj => oj.after.any (fun e => Region.binds .any e && e.on == L) || oi.apart ops oj
      | none => true
theorem freeB_spec {i : Nat} {oi : Oper} {listed : Array Bool} (hi : ops[i]? = some oi) (h : freeB ops i = true) (hr : i ∈ Region.ready .any ops listed) (j : Nat) (oj : Oper)
    (hj : ops[j]? = some oj) (hne : j ≠ i) (hun : listed.getD j true = false) (hno : ∀ e ∈ oj.after, Region.binds .any e = true → e.on ≠ i) :
    oi.apart ops oj = true := by
  simp only [freeB, hi, List.all_eq_true, List.mem_range] at h
  have h1 := h j (Array.getElem?_eq_some_iff.1 hj).1
  simp only [hj, Bool.or_eq_true, beq_iff_eq, hne, false_or] at h1
  rcases h1 with h1 | h1 | h1
  · obtain ⟨e, he, hb⟩ := Array.any_eq_true'.1 h1
    simp only [Bool.and_eq_true, beq_iff_eq] at hb
    obtain ⟨_, o', ho', hall⟩ := mem_ready.1 hr
    have : o' = oi := Option.some.inj (ho'.symm.trans hi)
    subst this
    have h2 := hall e he hb.1
    rw [hb.2, getD_both hun] at h2
    cases h2
  · obtain ⟨e, he, hb⟩ := Array.any_eq_true'.1 h1
    simp only [Bool.and_eq_true, beq_iff_eq] at hb
    exact absurd hb.2 (hno e he hb.1)
  · exact h1
def directB (ops : Array Oper) (N L : Nat) : Bool := (List.range N).all fun i => i == L || Region.waitsFor .any ops N i
def lateB (ops : Array Oper) (N L : Nat) : Bool :=
  depB ops N && selfB ops N && backB ops && decide (N < ops.size) && directB ops N L && Region.chainB .any ops N && decide (L < N) && exB ops L && Region.noSelect ops && freeB ops L &&
    Region.seqB .any ops (ops.size - N) N (Array.replicate N true ++ Array.replicate (ops.size - N) false)
theorem wpAny_late {N L : Nat} {cs : List Cert} {l : List Oper} {S' : Slots} {G' : Ghosts} (hQ : ∀ c a d v w, Q (.panic c) (a.put d v) w → Q (.panic c) a w) (hB : lateB l.toArray N L = true) (hlen : cs.length = N)
    (hcs : ∀ i o c, l.toArray[i]? = some o → cs[i]? = some c → CertOk P n w0 l.toArray H o c ∧ Stems S0 (cs.take i) c.S c.G)
    (hst : Stems S0 cs S' G') (hG : ∀ x ∈ G', ∃ c ∈ cs, x = (c.d, c.al, c.T)) (hK : Tail P n w0 l.toArray Q (l.drop N) (fun _ => True) S' H G') :
    ∀ (f : Nat) (listed : Array Bool) (a : Act) (w : World), HeadInv .any l.toArray N listed → undone listed N = f → Inv S0 w0 n H cs listed a w →
      wpAny P .any l.toArray Q (f + (l.toArray.size - N)) listed a w := by
  simp only [lateB, Bool.and_eq_true, decide_eq_true_eq] at hB
  obtain ⟨⟨⟨⟨⟨⟨⟨⟨⟨⟨hdep, hself⟩, hback⟩, hN⟩, hdir⟩, hchain⟩, hLN⟩, hex⟩, hsel⟩, hfree⟩, hseq⟩ := hB
  intro f
  induction f with
  | zero =>
    intro listed a w hh hu inv
    rw [Nat.zero_add]
    have hall := undone_zero hu
    have hcan : listed = Array.replicate N true ++ Array.replicate (l.toArray.size - N) false := by
      apply Array.ext
      · simp [hh.size]; simp at hN; omega
      · intro i h1 h2
        rw [Array.getElem_append]
        split
        · rename_i hi
          simp at hi
          have := hall i hi
          simp [h1] at this
          simp [this]
        · rename_i hi
          simp at hi
          have := hh.tail i hi (by rw [← hh.size]; exact h1)
          simp [h1] at this
          simp [this]
    have hdone : ∀ i, i < N → listed.getD i false = true := fun i hi => by
      have h1 := hall i hi
      have : i < listed.size := by rw [hh.size]; omega
      simp [this] at h1 ⊢
      exact h1
    have hcN : ∀ i c, cs[i]? = some c → i < N := fun i c hc => by have := (List.getElem?_eq_some_iff.1 hc).1; omega
    have fits : Fits n S' a := ⟨inv.size, inv.defers, fun t v ht => by
      rcases hst.slots t v ht with ⟨c, hc, hd, hT⟩ | ⟨h0, hno⟩
      · obtain ⟨i, hi⟩ := List.mem_iff_getElem?.1 hc
        obtain ⟨u, hu, hTu⟩ := inv.done i c hi (hdone i (hcN i c hi))
        rw [hT] at hTu
        rw [← hd, hu]
        exact congrArg some hTu
      · exact inv.old t v h0 fun i c hi hd => absurd hd (hno c (List.mem_of_getElem? hi))⟩
    have := hK a w fits inv.knows (fun x hx => by
        obtain ⟨c, hc, rfl⟩ := hG x hx
        obtain ⟨i, hi⟩ := List.mem_iff_getElem?.1 hc
        exact inv.done i c hi (hdone i (hcN i c hi)))
      (fun x hx y hy hne hx1 hy1 => by
        obtain ⟨c, hc, rfl⟩ := hG x hx
        obtain ⟨c', hc', rfl⟩ := hG y hy
        obtain ⟨i, hi⟩ := List.mem_iff_getElem?.1 hc
        obtain ⟨j, hj⟩ := List.mem_iff_getElem?.1 hc'
        exact inv.apart i j c c' hi hj (fun e => by subst e; rw [hi] at hj; cases hj; exact hne rfl) hx1 hy1 (hdone i (hcN i c hi)) (hdone j (hcN j c' hj)))
      (fun x hx hx1 y hy he => by
        obtain ⟨c, hc, rfl⟩ := hG x hx
        obtain ⟨i, hi⟩ := List.mem_iff_getElem?.1 hc
        obtain ⟨u, hu, hTu⟩ := inv.done i c hi (hdone i (hcN i c hi))
        have hio : i < l.toArray.size := by have := hcN i c hi; omega
        obtain ⟨b, hb, _, hno⟩ := ((hcs i _ c (Array.getElem?_eq_getElem hio) hi).1.al hx1).2 _ _ hTu
        rw [hu, hb] at he
        simp only [Option.some.injEq, Value.pointer.injEq, Addr.mk.injEq, and_true] at he
        exact hno y hy he.symm) trivial
    have hl : (l.drop N).length = l.toArray.size - N := by simp
    rw [← hl]
    exact wpAny_of_seq (l.drop N) N listed a w (fun j => by simp [List.getElem?_drop]) (by rw [hl, hcan]; exact hseq) this
  | succ f ih =>
    intro listed a w hh hu inv
    rw [show f + 1 + (l.toArray.size - N) = (f + (l.toArray.size - N)) + 1 by omega]
    by_cases hL : L ∈ Region.ready .any l.toArray listed
    · obtain ⟨o, c, ho, hc, ok, know, next⟩ := step_next hlen hdep hself hcs inv hL hLN hh.size (by omega)
      obtain ⟨⟨x, k, hop⟩, hgd⟩ := exB_spec hex ho
      have hun := (mem_ready.1 hL).1
      have hw : Region.wanted o (yielded l.toArray a.tmps) = true := by simp [Region.wanted, hgd]
      have hrun := ok.op a w inv.size know inv.knows
      rw [if_pos hw] at hrun
      have hv : ∃ v, (∀ w : World, (execOp a.eval o).run P w = .ok (.value v) w) ∧ c.T v w := by
        cases hv : a.eval x
        case tuple vs =>
          cases hk : vs[k]? with
          | none => simp [execOp, hop, hv, Instr.extract, hk, stuck, Yields] at hrun
          | some v =>
            have e : ∀ w : World, (execOp a.eval o).run P w = .ok (.value v) w := fun w => by simp [execOp, hop, hv, Instr.extract, hk]
            rw [e w] at hrun
            exact ⟨v, e, hrun.2⟩
        all_goals (exfalso; simp [execOp, hop, hv, Instr.extract, stuck, Yields] at hrun)
      obtain ⟨v, e, hT⟩ := hv
      have hnext := next v w (Grow.refl _) hT fun hal => by
        obtain ⟨_, ob, hr⟩ := (ok.al hal).1 a w inv.size know inv.knows
        rw [e w] at hr
        simp only [Result.ok.injEq, Next.value.injEq] at hr
        exact hr.1
      have := undone_set hun hLN
      refine wpAny_first ho (Region.noSelect_spec hsel) (fun c a w => hQ c a _ _ w) _ listed a w (freeB_spec ho hfree hL) hL (.inl ⟨hw, e⟩) (ih _ _ _ (hh.set hL hLN) (by omega) hnext)
    · obtain ⟨i0, hi0, hun0, hbefore⟩ := undone_first (listed := listed) (N := N) (by omega)
      have hready : i0 ∈ Region.ready .any l.toArray listed := by
        have hlt : i0 < l.toArray.size := by omega
        refine mem_ready.2 ⟨hun0, l.toArray[i0], Array.getElem?_eq_getElem hlt, fun e he hb => ?_⟩
        have h1 := List.all_eq_true.1 hback i0 (List.mem_range.2 hlt)
        simp only [Array.getElem?_eq_getElem hlt] at h1
        have h2 := Array.all_eq_true_iff_forall_mem.1 h1 e he
        simp only [hb, Bool.not_true, Bool.false_or, decide_eq_true_eq] at h2
        have h3 := hbefore e.on h2
        have : e.on < listed.size := by rw [hh.size]; omega
        simp [this] at h3 ⊢
        exact h3
      have hi0L : i0 ≠ L := fun h => hL (h ▸ hready)
      refine ⟨fun h0 => (by rw [h0] at hready; cases hready), fun i hi => ?_⟩
      have hiN : i < N := by
        rcases Nat.lt_or_ge i N with h | h
        · exact h
        · exfalso
          obtain ⟨_, ot, hot, hall⟩ := mem_ready.1 hi
          have htlt : i < l.toArray.size := (Array.getElem?_eq_some_iff.1 hot).1
          by_cases hiN : i = N
          · subst hiN
            have h1 := List.all_eq_true.1 hdir i0 (List.mem_range.2 hi0)
            simp only [Bool.or_eq_true, beq_iff_eq, hi0L, false_or] at h1
            obtain ⟨o', ho', e, he, hb, hon⟩ := Region.waitsFor_spec h1
            have : o' = ot := Option.some.inj (ho'.symm.trans hot)
            subst this
            have h2 := hall e he hb
            rw [hon, getD_both hun0] at h2
            cases h2
          · have h1 := List.all_eq_true.1 hchain i (List.mem_range.2 htlt)
            simp only [Bool.or_eq_true, decide_eq_true_eq] at h1
            rcases h1 with h1 | h1
            · omega
            · obtain ⟨o', ho', e, he, hb, hon⟩ := Region.waitsFor_spec h1
              have : o' = ot := Option.some.inj (ho'.symm.trans hot)
              subst this
              have h2 := hall e he hb
              rw [hon, getD_both (hh.tail (i - 1) (by omega) (by omega))] at h2
              cases h2
      have hun := (mem_ready.1 hi).1
      refine wpOp_mono (fun a' w' h => ?_) (step_inv hlen hdep hself hcs inv hi hiN hh.size (by omega))
      have := undone_set hun hiN
      exact ih _ a' w' (hh.set hi hiN) (by omega) h
theorem doC_late {S : Slots} {l : List Oper} {id : Nat} (N L : Nat) (hQ : ∀ c a d v w, Q (.panic c) (a.put d v) w → Q (.panic c) a w) (hm : P.follows .mixedOrders = true) (hB : lateB l.toArray N L = true)
    (h : DoG P n w0 l.toArray H (fun S' G' => Tail P n w0 l.toArray Q (l.drop N) (fun _ => True) S' H G') (l.take N) S []) : DoC P n w0 Q (.region id l.toArray true) S H := by
  intro a w fa ka
  have hN : N < l.toArray.size := by
    simp only [lateB, Bool.and_eq_true, decide_eq_true_eq] at hB
    exact hB.1.1.1.1.1.1.1.2
  obtain ⟨cs, hlen, hcs, S', G', hst, hK, hG⟩ := doG_certs (S0 := S) (l.take N) S [] [] ⟨fun t v ht => .inr ⟨ht, fun c hc => by cases hc⟩, fun t T ht => by cases ht⟩ h
  have hlen' : cs.length = N := by rw [hlen]; simp; simp at hN; omega
  refine wp_region_any hm ?_
  have inv0 : HeadInv .any l.toArray N (Array.replicate l.toArray.size false) :=
    ⟨by simp, fun j oj _ hl => (by rw [getD_replicate_false] at hl; cases hl), fun t _ ht => getD_in (by simpa using ht) (getD_replicate_false _ _)⟩
  have hund : undone (Array.replicate l.toArray.size false) N = N := by
    have : ∀ k, k ≤ l.toArray.size → undone (Array.replicate l.toArray.size false) k = k := by
      intro k
      induction k with
      | zero => intro _; rfl
      | succ k ih =>
        intro hk
        have h1 := getD_in (listed := Array.replicate l.toArray.size false) (i := k) (by simp; simp at hk; omega) (getD_replicate_false _ _)
        simp only [undone, ih (by omega), h1]
        rfl
    exact this N (by omega)
  have := wpAny_late (P := P) (n := n) (w0 := w0) (H := H) (S0 := S) (Q := Q) hQ hB hlen' (fun i o c hi hc => by
      have hil := (List.getElem?_eq_some_iff.1 hc).1
      have := hcs i o c (by rw [List.getElem?_take, if_pos (by omega)]; simpa using hi) hc
      simpa using this) (by simpa using hst) (fun x hx => by
        rcases hG x hx with h | h
        · cases h
        · exact h) hK N _ a { w with drawn := w.drawn + 1 } inv0 hund
      ⟨fa.size, fa.defers, fun t v ht _ => fa.has t v ht, fun i c _ hd => (by rw [getD_replicate_false] at hd; cases hd), fun i j c c' _ _ _ _ _ hd => (by rw [getD_replicate_false] at hd; cases hd), ka.next (Grow.refl w).drew⟩
  rwa [show N + (l.toArray.size - N) = l.toArray.size by omega] at this
theorem putP_body {fn : Func} {R : Ending → World → Prop} : ∀ c a d v w, bodyPost P fn R (.panic c) (a.put d v) w → bodyPost P fn R (.panic c) a w := fun c a d v w h => by
  cases d <;> exact h
theorem putP_then {K : Act → World → Prop} (h : ∀ c a d v w, Q (.panic c) (a.put d v) w → Q (.panic c) a w) : ∀ c a d v w, Exit.then K Q (.panic c) (a.put d v) w → Exit.then K Q (.panic c) a w := h
theorem putP_block {id : Nat} (h : ∀ c a d v w, Q (.panic c) (a.put d v) w → Q (.panic c) a w) : ∀ c a d v w, Exit.inBlock id Q (.panic c) (a.put d v) w → Exit.inBlock id Q (.panic c) a w := h
end
end Go.Sx
namespace Go.Sx
open Go.RowKit
structure GrowB (b : Nat → Prop) (w w' : World) : Prop where
  os : w'.os = w.os
  tape : w'.tape = w.tape
  output : w'.output = w.output
  size : w.heap.size ≤ w'.heap.size
  block : ∀ k, k < w.heap.size → ¬ b k → w'.heap[k]? = w.heap[k]?
theorem GrowB.of {b : Nat → Prop} {w w' : World} (g : Grow w w') : GrowB b w w' := ⟨g.os, g.tape, g.output, g.size, fun k hk _ => g.block k hk⟩
theorem GrowB.refl (b : Nat → Prop) (w : World) : GrowB b w w := .of (Grow.refl w)
theorem GrowB.trans {b : Nat → Prop} {x y z : World} (h : GrowB b x y) (k : GrowB b y z) : GrowB b x z :=
  ⟨k.os.trans h.os, k.tape.trans h.tape, k.output.trans h.output, Nat.le_trans h.size k.size, fun i hi hb => (k.block i (Nat.lt_of_lt_of_le hi h.size) hb).trans (h.block i hi hb)⟩
theorem GrowB.set (b : Nat) (w : World) (cs : Array Value) : GrowB (· = b) w (w.setRow b cs) := ⟨rfl, rfl, rfl, by simp, fun k _ hb => setRow_other w b k cs hb⟩
def StableB (b : Nat → Prop) (T : Pred) : Prop := ∀ v w w', T v w → GrowB b w w' → T v w'
theorem stableB_isV (b : Nat → Prop) (v : Value) : StableB b (isV v) := fun _ _ _ h _ => h
section
variable {P : Program} {n : Nat} {ops : Array Oper} {Q : Exit → Act → World → Prop} {σ : Type}
def YieldsE (P : Program) (b : Nat → Prop) (w : World) (T : Pred) (K : World → Prop) : Result Next → Prop
  | .ok (.value v) w' => GrowB b w w' ∧ T v w' ∧ K w'
  | .ok (.enter f args) w' => GrowB b w w' ∧ Calls P f args w' (fun e w'' => ∃ v, e = .returned v ∧ GrowB b w' w'' ∧ T v w'' ∧ K w'')
  | _ => False
def OpE (P : Program) (n : Nat) (ops : Array Oper) (K1 K2 : World → Prop) (b : Nat → Prop) (S : Slots) (G : Ghosts) (o : Oper) (T : Pred) : Prop :=
  ∀ a w, a.tmps.size = n → (∀ t ∈ o.looksAt ops, KnowAt S G a w t) → K1 w →
    Region.wanted o (yielded ops a.tmps) = true ∧ YieldsE P b w T K2 ((execOp a.eval o).run P w)
structure Fam (b : Nat → Prop) (w1 : Base) (H0 : Heap) (Wf : σ → Base) (Hf : σ → Heap) : Prop where
  size : ∀ s, (Wf s).w.heap.size = w1.w.heap.size
  told : ∀ s, (Wf s).R = w1.R
  adr : ∀ s, (Hf s).map (·.2.1) = H0.map (·.2.1)
  here : ∀ k, b k → k < w1.w.heap.size ∨ k ∈ H0.map (·.2.1)
def PureAt (P : Program) (n : Nat) (ops : Array Oper) (Wf : σ → Base) (Hf : σ → Heap) (S : Slots) (G : Ghosts) (o : Oper) (T : Pred) : Prop := ∀ s', OpA P n (Wf s') ops (Hf s') S G o T
def DoM (P : Program) (n : Nat) (ops : Array Oper) (b : Nat → Prop) (Wf : σ → Base) (Hf : σ → Heap) (H0 : Heap) (es : List Nat) (K : σ → Slots → Ghosts → Prop) : List Oper → Nat → σ → Slots → Ghosts → Prop
  | [], _, s, S, G => K s S G
  | o :: l, i, s, S, G => ∃ d T s2, o.dst = some d ∧ d < n ∧ noSel o = true ∧ StableB b T ∧
      ((es.contains i = false ∧ s2 = s ∧ PureAt P n ops Wf Hf S G o T) ∨ (es.contains i = true ∧ OpE P n ops (Knows (Wf s) (Hf s)) (Knows (Wf s2) (Hf s2)) b S G o T)) ∧
      ((∃ v, T = isV v ∧ DoM P n ops b Wf Hf H0 es K l (i + 1) s2 ((d, v) :: S) G) ∨ (look S d = none ∧ DoM P n ops b Wf Hf H0 es K l (i + 1) s2 S ((d, false, T) :: G)) ∨
       (look S d = none ∧ es.contains i = false ∧ (∀ s', Allocs P n (Wf s') ops (Hf s') S G o) ∧ PtrIn H0 T ∧ DoM P n ops b Wf Hf H0 es K l (i + 1) s2 S ((d, true, T) :: G)))
structure CertOkM (P : Program) (n : Nat) (ops : Array Oper) (b : Nat → Prop) (Wf : σ → Base) (Hf : σ → Heap) (H0 : Heap) (es : List Nat) (i : Nat) (s s2 : σ) (o : Oper) (c : Cert) : Prop where
  dst : o.dst = some c.d
  lt : c.d < n
  nosel : noSel o = true
  stable : StableB b c.T
  op : (es.contains i = false ∧ s2 = s ∧ PureAt P n ops Wf Hf c.S c.G o c.T) ∨ (es.contains i = true ∧ OpE P n ops (Knows (Wf s) (Hf s)) (Knows (Wf s2) (Hf s2)) b c.S c.G o c.T)
  al : c.al = true → (es.contains i = false ∧ ∀ s', Allocs P n (Wf s') ops (Hf s') c.S c.G o) ∧ PtrIn H0 c.T
variable {b : Nat → Prop} {Wf : σ → Base} {Hf : σ → Heap} {H0 : Heap} {es : List Nat} {w1 : Base}
theorem doM_certs {K : σ → Slots → Ghosts → Prop} {S0 : Slots} : ∀ (l : List Oper) (i0 : Nat) (s : σ) (S : Slots) (G : Ghosts) (pre : List Cert), Stems S0 pre S G → DoM P n ops b Wf Hf H0 es K l i0 s S G →
    ∃ (cs : List Cert) (ss : Nat → σ), cs.length = l.length ∧ ss i0 = s ∧ (∀ i o c, l[i]? = some o → cs[i]? = some c → CertOkM P n ops b Wf Hf H0 es (i0 + i) (ss (i0 + i)) (ss (i0 + i + 1)) o c ∧ Stems S0 (pre ++ cs.take i) c.S c.G) ∧
      ∃ S' G', Stems S0 (pre ++ cs) S' G' ∧ K (ss (i0 + l.length)) S' G' ∧ (∀ x ∈ G', x ∈ G ∨ ∃ c ∈ cs, x = (c.d, c.al, c.T))
  | [], i0, s, S, G, pre, hs, h => ⟨[], fun _ => s, rfl, rfl, fun i o c hi => by simp at hi, S, G, by simpa using hs, h, fun x hx => .inl hx⟩
  | o :: l, i0, s, S, G, pre, hs, h => by
    obtain ⟨d, T, s2, hd, hn, hsel, hst, hop, hk⟩ := h
    have main : ∀ (c : Cert) (S1 : Slots) (G1 : Ghosts), c.S = S → c.G = G → CertOkM P n ops b Wf Hf H0 es i0 s s2 o c → Stems S0 (pre ++ [c]) S1 G1 → (∀ x ∈ G1, x ∈ G ∨ x = (c.d, c.al, c.T)) → DoM P n ops b Wf Hf H0 es K l (i0 + 1) s2 S1 G1 →
        ∃ (cs : List Cert) (ss : Nat → σ), cs.length = (o :: l).length ∧ ss i0 = s ∧ (∀ i o' c, (o :: l)[i]? = some o' → cs[i]? = some c → CertOkM P n ops b Wf Hf H0 es (i0 + i) (ss (i0 + i)) (ss (i0 + i + 1)) o' c ∧ Stems S0 (pre ++ cs.take i) c.S c.G) ∧
          ∃ S' G', Stems S0 (pre ++ cs) S' G' ∧ K (ss (i0 + (o :: l).length)) S' G' ∧ (∀ x ∈ G', x ∈ G ∨ ∃ c ∈ cs, x = (c.d, c.al, c.T)) := by
      intro c S1 G1 e1 e2 hc hst1 hG1 hrest
      obtain ⟨cs, ss, hl, h0, hall, S', G', h1, h2, h3⟩ := doM_certs l (i0 + 1) s2 S1 G1 (pre ++ [c]) hst1 hrest
      have hss : ∀ k, i0 < k → (if k = i0 then s else ss k) = ss k := fun k hk => if_neg (by omega)
      refine ⟨c :: cs, fun k => if k = i0 then s else ss k, by simp [hl], if_pos rfl, fun i o' c' hi hc' => ?_, S', G', by simpa using h1, ?_, fun x hx => ?_⟩
      · cases i with
        | zero =>
          simp at hi hc'
          subst hi; subst hc'
          refine ⟨?_, by simpa [e1, e2] using hs⟩
          show CertOkM P n ops b Wf Hf H0 es i0 (if i0 = i0 then s else ss i0) (if i0 + 1 = i0 then s else ss (i0 + 1)) o c
          rw [if_pos rfl, hss _ (by omega), h0]
          exact hc
        | succ i =>
          simp at hi hc'
          obtain ⟨q1, q2⟩ := hall i o' c' hi hc'
          refine ⟨?_, by simpa using q2⟩
          show CertOkM P n ops b Wf Hf H0 es (i0 + (i + 1)) (if i0 + (i + 1) = i0 then s else ss (i0 + (i + 1))) (if i0 + (i + 1) + 1 = i0 then s else ss (i0 + (i + 1) + 1)) o' c'
          rw [hss _ (by omega), hss _ (by omega), show i0 + (i + 1) = i0 + 1 + i by omega]
          exact q1
      · show K (if i0 + (o :: l).length = i0 then s else ss (i0 + (o :: l).length)) S' G'
        rw [hss _ (by simp), show i0 + (o :: l).length = i0 + 1 + l.length by simp; omega]
        exact h2
      · rcases h3 x hx with h | ⟨c', hc', he⟩
        · rcases hG1 x h with h | h
          · exact .inl h
          · exact .inr ⟨c, by simp, h⟩
        · exact .inr ⟨c', by simp [hc'], he⟩
    have gh : ∀ (al : Bool), look S d = none → Stems S0 (pre ++ [⟨d, T, al, S, G⟩]) S ((d, al, T) :: G) := fun al hno => ⟨fun t u ht => by
        have hdt : d ≠ t := fun e => by subst e; rw [hno] at ht; cases ht
        rcases hs.slots t u ht with ⟨c, hc, h⟩ | ⟨h, h'⟩
        · exact .inl ⟨c, by simp [hc], h⟩
        · refine .inr ⟨h, fun c hc => ?_⟩
          rcases List.mem_append.1 hc with hc | hc
          · exact h' c hc
          · simp at hc; subst hc; exact hdt, fun t U ht => by
        by_cases e : d = t
        · subst e
          rw [lookG_cons_same] at ht
          cases ht
          exact ⟨⟨d, T, al, S, G⟩, by simp, rfl, rfl⟩
        · rw [lookG_cons_ne _ _ _ e] at ht
          obtain ⟨c, hc, h⟩ := hs.ghosts t U ht
          exact ⟨c, by simp [hc], h⟩⟩
    have gm : ∀ (al : Bool), ∀ x ∈ ((d, al, T) :: G : Ghosts), x ∈ G ∨ x = (d, al, T) := fun al x hx => by
      rcases List.mem_cons.1 hx with h | h
      · exact .inr h
      · exact .inl h
    rcases hk with ⟨v, rfl, hrest⟩ | ⟨hno, hrest⟩ | ⟨hno, hne, hal, hp, hrest⟩
    · refine main ⟨d, isV v, false, S, G⟩ ((d, v) :: S) G rfl rfl ⟨hd, hn, hsel, hst, hop, fun h => by cases h⟩ ⟨fun t u ht => ?_, fun t T ht => ?_⟩ (fun x hx => .inl hx) hrest
      · by_cases e : d = t
        · subst e
          rw [look_cons_same] at ht
          cases ht
          exact .inl ⟨⟨d, isV v, false, S, G⟩, by simp, rfl, rfl⟩
        · rw [look_cons_ne _ _ e] at ht
          rcases hs.slots t u ht with ⟨c, hc, h⟩ | ⟨h, h'⟩
          · exact .inl ⟨c, by simp [hc], h⟩
          · refine .inr ⟨h, fun c hc => ?_⟩
            rcases List.mem_append.1 hc with hc | hc
            · exact h' c hc
            · simp at hc; subst hc; exact e
      · obtain ⟨c, hc, h⟩ := hs.ghosts t T ht
        exact ⟨c, by simp [hc], h⟩
    · exact main ⟨d, T, false, S, G⟩ S ((d, false, T) :: G) rfl rfl ⟨hd, hn, hsel, hst, hop, fun h => by cases h⟩ (gh false hno) (gm false) hrest
    · exact main ⟨d, T, true, S, G⟩ S ((d, true, T) :: G) rfl rfl ⟨hd, hn, hsel, hst, hop, fun _ => ⟨⟨hne, hal⟩, hp⟩⟩ (gh true hno) (gm true) hrest
def depsB (ops : Array Oper) : Nat → Nat → Nat → Bool
  | 0, _, _ => false
  | f + 1, i, j => match ops[i]? with
    | some o => o.after.any fun e => Region.binds .any e && (e.on == j || depsB ops f e.on j)
    | none => false
def esB (ops : Array Oper) (es : List Nat) : Bool := es.all fun i => es.all fun j => Nat.ble i j || depsB ops ops.size i j
theorem deps_listed {listed : Array Bool} (hcl : ∀ j oj, ops[j]? = some oj → listed.getD j false = true → ∀ e ∈ oj.after, Region.binds .any e = true → listed.getD e.on false = true) :
    ∀ f i j, depsB ops f i j = true → (∀ o, ops[i]? = some o → ∀ e ∈ o.after, Region.binds .any e = true → listed.getD e.on false = true) → listed.getD j false = true
  | 0, _, _, h, _ => by cases h
  | f + 1, i, j, h, hi => by
    unfold depsB at h
    cases ho : ops[i]? with
    | none => simp [ho] at h
    | some o =>
      simp only [ho] at h
      obtain ⟨e, he, hb⟩ := Array.any_eq_true'.1 h
      simp only [Bool.and_eq_true, Bool.or_eq_true, beq_iff_eq] at hb
      have hl := hi o ho e he hb.1
      rcases hb.2 with h2 | h2
      · rw [← h2]; exact hl
      · exact deps_listed hcl f e.on j h2 fun o' ho' e' he' hb' => hcl e.on o' ho' hl e' he' hb'
structure InvM (S0 : Slots) (Wf : σ → Base) (Hf : σ → Heap) (es : List Nat) (ss : Nat → σ) (N n : Nat) (cs : List Cert) (listed : Array Bool) (a : Act) (w : World) : Prop where
  size : a.tmps.size = n
  defers : a.defers = []
  old : ∀ t v, look S0 t = some v → (∀ i c, cs[i]? = some c → c.d = t → listed.getD i false = false) → a.tmps[t]? = some v
  done : ∀ i c, cs[i]? = some c → listed.getD i false = true → ∃ u, a.tmps[c.d]? = some u ∧ c.T u w
  apart : ∀ i j c c', cs[i]? = some c → cs[j]? = some c' → i ≠ j → c.al = true → c'.al = true → listed.getD i false = true → listed.getD j false = true → a.tmps[c.d]? ≠ a.tmps[c'.d]?
  knows : ∃ m, m ≤ N ∧ Knows (Wf (ss m)) (Hf (ss m)) w ∧ ∀ i, i < N → es.contains i = true → (listed.getD i false = true ↔ i < m)
variable {S0 : Slots}
theorem ss_same {N : Nat} {ss : Nat → σ} (h : ∀ i, i < N → es.contains i = false → ss (i + 1) = ss i) : ∀ (k m : Nat), m + k ≤ N → (∀ i, m ≤ i → i < m + k → es.contains i = false) → ss (m + k) = ss m
  | 0, _, _, _ => rfl
  | k + 1, m, hle, hno => by
    rw [← Nat.add_assoc, h (m + k) (by omega) (hno _ (by omega) (by omega))]
    exact ss_same h k m (by omega) fun i h1 h2 => hno i h1 (by omega)
theorem step_invM {N : Nat} {cs : List Cert} {ss : Nat → σ} {listed : Array Bool} {a : Act} {w : World} (hlen : cs.length = N) (hdep : depB ops N = true) (hself : selfB ops N = true) (hes : esB ops es = true)
    (hcl : ∀ j oj, ops[j]? = some oj → listed.getD j false = true → ∀ e ∈ oj.after, Region.binds .any e = true → listed.getD e.on false = true)
    (hcs : ∀ i o c, ops[i]? = some o → cs[i]? = some c → CertOkM P n ops b Wf Hf H0 es i (ss i) (ss (i + 1)) o c ∧ Stems S0 (cs.take i) c.S c.G)
    (inv : InvM S0 Wf Hf es ss N n cs listed a w) {i : Nat} (hi : i ∈ Region.ready .any ops listed) (hin : i < N) (hsz : listed.size = ops.size) (hops : N ≤ ops.size) :
    wpOp P ops Q i (fun a' w' => InvM S0 Wf Hf es ss N n cs (listed.setIfInBounds i true) a' w') a w := by
  obtain ⟨hun, o, ho, hall⟩ := mem_ready.1 hi
  have hil : i < cs.length := by omega
  obtain ⟨c, hc⟩ : ∃ c, cs[i]? = some c := ⟨cs[i], List.getElem?_eq_getElem hil⟩
  obtain ⟨ok, st⟩ := hcs i o c ho hc
  have ops_at : ∀ j c', cs[j]? = some c' → j < N ∧ ∃ oj, ops[j]? = some oj ∧ oj.dst = some c'.d := fun j c' hj => by
    have hjl := (List.getElem?_eq_some_iff.1 hj).1
    have hjo : j < ops.size := by omega
    exact ⟨by omega, ops[j], Array.getElem?_eq_getElem hjo, (hcs j ops[j] c' (Array.getElem?_eq_getElem hjo) hj).1.dst⟩
  have waits : ∀ j c', cs[j]? = some c' → j ≠ i → c'.d ∈ o.looksAt ops → j < i ∧ listed.getD j false = true := fun j c' hj hne hm => by
    obtain ⟨hjN, oj, hoj, hdj⟩ := ops_at j c' hj
    obtain ⟨h1, h2⟩ := (depB_spec hdep hjN hin hne hoj ho).2 c'.d hdj hm
    refine ⟨h1, ?_⟩
    obtain ⟨o', ho', e, he, hb, hon⟩ := Region.waitsFor_spec h2
    rw [ho] at ho'
    cases ho'
    have := hall e he hb
    rwa [hon] at this
  have know : ∀ t ∈ o.looksAt ops, KnowAt c.S c.G a w t := fun t ht => by
    have hself' : c.d ≠ t := fun e => selfB_spec hself hin ho ok.dst (e ▸ ht)
    refine ⟨fun v hv => ?_, fun T hT => ?_⟩
    · rcases st.slots t v hv with ⟨c', hm, hd, hTc⟩ | ⟨h0, hno⟩
      · obtain ⟨j, hj⟩ := List.mem_iff_getElem?.1 hm
        rw [List.getElem?_take] at hj
        split at hj
        · rename_i hji
          obtain ⟨_, hdone⟩ := waits j c' hj (by omega) (hd ▸ ht)
          obtain ⟨u, hu, hTu⟩ := inv.done j c' hj hdone
          rw [hTc] at hTu
          rw [← hd, hu]
          exact congrArg some hTu
        · cases hj
      · refine inv.old t v h0 fun j c' hj hd => ?_
        by_cases e : j = i
        · subst e
          rw [hc] at hj
          cases hj
          exact absurd hd hself'
        · obtain ⟨hlt, _⟩ := waits j c' hj e (hd ▸ ht)
          exact absurd hd (hno c' (List.mem_of_getElem? (by rw [List.getElem?_take, if_pos hlt]; exact hj)))
    · obtain ⟨c', hm, hd, hTc⟩ := st.ghosts t T hT
      obtain ⟨j, hj⟩ := List.mem_iff_getElem?.1 hm
      rw [List.getElem?_take] at hj
      split at hj
      · rename_i hji
        obtain ⟨_, hdone⟩ := waits j c' hj (by omega) (hd ▸ ht)
        obtain ⟨u, hu, hTu⟩ := inv.done j c' hj hdone
        exact ⟨u, by rw [← hd]; exact hu, hTc ▸ hTu⟩
      · cases hj
  have hlt : i < listed.size := by omega
  have put_ne : ∀ (u : Value) (t : Nat), c.d ≠ t → (a.put (some c.d) u).tmps[t]? = a.tmps[t]? := fun u t hne => by simp [Act.put, Array.getElem?_setIfInBounds_ne hne]
  have put_eq : ∀ (u : Value), (a.put (some c.d) u).tmps[c.d]? = some u := fun u => by
    have := ok.lt
    have hs := inv.size
    simp [Act.put, hs, this]
  have done_iff : ∀ j, j ≠ i → (listed.setIfInBounds i true).getD j false = listed.getD j false := fun j hj => getD_set_ne false (Ne.symm hj)
  have dne : ∀ j c', cs[j]? = some c' → j ≠ i → c'.d ≠ c.d := fun j c' hj hne e => by
    obtain ⟨hjN, oj, hoj, hdj⟩ := ops_at j c' hj
    exact (depB_spec hdep hjN hin hne hoj ho).1 (by rw [hdj, ok.dst, e])
  have next : ∀ (u : Value) (w' : World), GrowB b w w' → c.T u w' → (c.al = true → u = .pointer (some ⟨w.heap.size, 0, none⟩)) →
      (∃ m, m ≤ N ∧ Knows (Wf (ss m)) (Hf (ss m)) w' ∧ ∀ i', i' < N → es.contains i' = true → ((listed.setIfInBounds i true).getD i' false = true ↔ i' < m)) →
      InvM S0 Wf Hf es ss N n cs (listed.setIfInBounds i true) (a.put o.dst u) w' := fun u w' gr hT hal hkn => by
    rw [ok.dst]
    refine ⟨by simp [Act.put, inv.size], inv.defers, fun t v hv hno => ?_, fun j c' hj hd => ?_, fun j k c' c'' hj hk hne h1 h2 hd1 hd2 => ?_, hkn⟩
    · have hne : c.d ≠ t := fun e => by
        have := hno i c hc e
        simp [hlt] at this
      rw [put_ne u t hne]
      refine inv.old t v hv fun j c' hj hd => ?_
      by_cases e : j = i
      · subst e; rw [hc] at hj; cases hj; exact absurd hd hne
      · rw [← done_iff j e]; exact hno j c' hj hd
    · by_cases e : j = i
      · subst e; rw [hc] at hj; cases hj
        exact ⟨u, put_eq u, hT⟩
      · rw [done_iff j e] at hd
        obtain ⟨u', hu, hTu⟩ := inv.done j c' hj hd
        obtain ⟨_, oj, hoj, _⟩ := ops_at j c' hj
        exact ⟨u', by rw [put_ne u _ (Ne.symm (dne j c' hj e))]; exact hu, (hcs j oj c' hoj hj).1.stable _ _ _ hTu gr⟩
    · have fresh : ∀ j c', cs[j]? = some c' → j ≠ i → c'.al = true → listed.getD j false = true → a.tmps[c'.d]? ≠ some (.pointer (some ⟨w.heap.size, 0, none⟩)) := fun j c' hj e ha hd he => by
        obtain ⟨u', hu, hTu⟩ := inv.done j c' hj hd
        obtain ⟨_, oj, hoj, _⟩ := ops_at j c' hj
        obtain ⟨bb, hb, hbl, _⟩ := ((hcs j oj c' hoj hj).1.al ha).2 _ _ hTu
        rw [hu, hb] at he
        simp only [Option.some.injEq, Value.pointer.injEq, Addr.mk.injEq, and_true] at he
        omega
      by_cases e1 : j = i
      · subst e1; rw [hc] at hj; cases hj
        have e2 : k ≠ j := Ne.symm hne
        rw [put_eq, put_ne u _ (Ne.symm (dne k c'' hk e2)), hal h1]
        rw [done_iff k e2] at hd2
        exact Ne.symm (fresh k c'' hk e2 h2 hd2)
      · by_cases e2 : k = i
        · subst e2; rw [hc] at hk; cases hk
          rw [put_eq, put_ne u _ (Ne.symm (dne j c' hj e1)), hal h2]
          rw [done_iff j e1] at hd1
          exact fresh j c' hj e1 h1 hd1
        · rw [put_ne u _ (Ne.symm (dne j c' hj e1)), put_ne u _ (Ne.symm (dne k c'' hk e2))]
          rw [done_iff j e1] at hd1
          rw [done_iff k e2] at hd2
          exact inv.apart j k c' c'' hj hk hne h1 h2 hd1 hd2
  obtain ⟨m, hmN, hkm, hm⟩ := inv.knows
  rcases ok.op with ⟨hpure, _, hop⟩ | ⟨heff, hop⟩
  · have hrun := hop _ a w inv.size know hkm
    have kn : ∀ w', Grow w w' → ∃ m, m ≤ N ∧ Knows (Wf (ss m)) (Hf (ss m)) w' ∧ ∀ i', i' < N → es.contains i' = true → ((listed.setIfInBounds i true).getD i' false = true ↔ i' < m) := fun w' gr =>
      ⟨m, hmN, hkm.next gr, fun i' h1 h2 => by
        have : i' ≠ i := fun e => by rw [e, hpure] at h2; cases h2
        rw [done_iff i' this]; exact hm i' h1 h2⟩
    unfold wpOp
    simp only [ho]
    split
    · rename_i hw
      rw [if_pos hw] at hrun
      refine .inl ?_
      unfold Oper.wp
      by_cases hal : c.al = true
      · obtain ⟨_, ob, hr⟩ := (ok.al hal).1.2 _ a w inv.size know hkm
        rw [hr] at hrun ⊢
        simp only [Yields] at hrun
        simp only [Oper.upon]
        exact next _ _ (.of hrun.1) hrun.2 (fun _ => rfl) (kn _ hrun.1)
      · have hnal : c.al = true → ∀ u : Value, u = .pointer (some ⟨w.heap.size, 0, none⟩) := fun h => absurd h hal
        generalize (execOp a.eval o).run P w = r at *
        cases r with
        | ok x w' =>
          cases x <;> simp only [Yields] at hrun <;> simp only [Oper.upon]
          case value v => exact next _ _ (.of hrun.1) hrun.2 (fun h => hnal h _) (kn _ hrun.1)
          case skip => exact next _ _ (.of hrun.1) hrun.2 (fun h => hnal h _) (kn _ hrun.1)
          case enter fn args =>
            refine hrun.2.mono fun e w'' ⟨v, he, hg, ht⟩ => ?_
            subst he
            exact next _ _ (.of (hrun.1.trans hg)) ht (fun h => hnal h _) (kn _ (hrun.1.trans hg))
        | halt x w' => simp only [Yields] at hrun
    · rename_i hw
      rw [if_neg hw] at hrun
      refine next _ _ (GrowB.refl _ _) hrun (fun hal => ?_) (kn _ (Grow.refl _))
      have := ((ok.al hal).1.2 _ a w inv.size know hkm).1
      exact absurd this hw
  · have hnal : ¬ c.al = true := fun h => by rw [(ok.al h).1.1] at heff; cases heff
    have hmi : m ≤ i := by
      rcases Nat.lt_or_ge i m with h | h
      · have := (hm i hin heff).2 h
        rw [getD_both hun] at this
        cases this
      · exact h
    have before : ∀ j, m ≤ j → j < i → es.contains j = false := fun j h1 h2 => by
      cases hej : es.contains j with
      | false => rfl
      | true =>
        have hd : depsB ops ops.size i j = true := by
          have h3 := List.all_eq_true.1 (List.all_eq_true.1 hes i (by simpa using heff)) j (by simpa using hej)
          simp only [Bool.or_eq_true, Nat.ble_eq] at h3
          rcases h3 with h3 | h3
          · omega
          · exact h3
        have hl := deps_listed hcl _ i j hd fun o' ho' e he hb => by
          rw [ho] at ho'
          cases ho'
          exact hall e he hb
        have := (hm j (by omega) hej).1 hl
        omega
    have hpure' : ∀ j, j < N → es.contains j = false → ss (j + 1) = ss j := fun j hj hno => by
      have hjo : j < ops.size := by omega
      have hjl : j < cs.length := by omega
      rcases (hcs j ops[j] cs[j] (Array.getElem?_eq_getElem hjo) (List.getElem?_eq_getElem hjl)).1.op with h | h
      · exact h.2.1
      · rw [hno] at h; cases h.1
    have hse : ss i = ss m := by
      have := ss_same hpure' (i - m) m (by omega) fun j h1 h2 => before j h1 (by omega)
      rwa [show m + (i - m) = i by omega] at this
    rw [← hse] at hkm
    obtain ⟨hw, hrun⟩ := hop a w inv.size know hkm
    have kn : ∀ w', Knows (Wf (ss (i + 1))) (Hf (ss (i + 1))) w' → ∃ m, m ≤ N ∧ Knows (Wf (ss m)) (Hf (ss m)) w' ∧ ∀ i', i' < N → es.contains i' = true → ((listed.setIfInBounds i true).getD i' false = true ↔ i' < m) := fun w' hk' =>
      ⟨i + 1, by omega, hk', fun i' h1 h2 => by
        by_cases e : i' = i
        · subst e
          simp [hlt]
        · rw [done_iff i' e, hm i' h1 h2]
          constructor
          · intro h; omega
          · intro h
            rcases Nat.lt_or_ge i' m with h3 | h3
            · exact h3
            · rw [before i' h3 (by omega)] at h2; cases h2⟩
    unfold wpOp
    simp only [ho, hw, if_true]
    refine .inl ?_
    unfold Oper.wp
    generalize (execOp a.eval o).run P w = r at *
    cases r with
    | ok x w' =>
      cases x <;> simp only [YieldsE] at hrun <;> simp only [Oper.upon]
      case value v => exact next _ _ hrun.1 hrun.2.1 (fun h => absurd h hnal) (kn _ hrun.2.2)
      case enter fn args =>
        refine hrun.2.mono fun e w'' ⟨v, he, hg, ht, hk'⟩ => ?_
        subst he
        exact next _ _ (hrun.1.trans hg) ht (fun h => absurd h hnal) (kn _ hk')
    | halt x w' => simp only [YieldsE] at hrun
theorem wpAny_mainM {N : Nat} {cs : List Cert} {ss : Nat → σ} {l : List Oper} {S' : Slots} {G' : Ghosts} (fam : Fam b w1 H0 Wf Hf) (hB : drawB l.toArray N = true) (hes : esB l.toArray es = true) (hen : es.all (Nat.blt · N) = true) (hlen : cs.length = N)
    (hcs : ∀ i o c, l.toArray[i]? = some o → cs[i]? = some c → CertOkM P n l.toArray b Wf Hf H0 es i (ss i) (ss (i + 1)) o c ∧ Stems S0 (cs.take i) c.S c.G)
    (hst : Stems S0 cs S' G') (hG : ∀ x ∈ G', ∃ c ∈ cs, x = (c.d, c.al, c.T)) (hK : Tail P n (Wf (ss N)) l.toArray Q (l.drop N) (fun _ => True) S' (Hf (ss N)) G') :
    ∀ (f : Nat) (listed : Array Bool) (a : Act) (w : World), HeadInv .any l.toArray N listed → undone listed N = f → InvM S0 Wf Hf es ss N n cs listed a w →
      wpAny P .any l.toArray Q (f + (l.toArray.size - N)) listed a w := by
  simp only [drawB, Bool.and_eq_true, decide_eq_true_eq] at hB
  obtain ⟨⟨⟨⟨⟨⟨hdep, hself⟩, hback⟩, hN⟩, hsink⟩, hchain⟩, hseq⟩ := hB
  intro f
  induction f with
  | zero =>
    intro listed a w hh hu inv
    rw [Nat.zero_add]
    have hall := undone_zero hu
    have hcan : listed = Array.replicate N true ++ Array.replicate (l.toArray.size - N) false := by
      apply Array.ext
      · simp [hh.size]; simp at hN; omega
      · intro i h1 h2
        rw [Array.getElem_append]
        split
        · rename_i hi
          simp at hi
          have := hall i hi
          simp [h1] at this
          simp [this]
        · rename_i hi
          simp at hi
          have := hh.tail i hi (by rw [← hh.size]; exact h1)
          simp [h1] at this
          simp [this]
    have hdone : ∀ i, i < N → listed.getD i false = true := fun i hi => by
      have h1 := hall i hi
      have : i < listed.size := by rw [hh.size]; omega
      simp [this] at h1 ⊢
      exact h1
    have hcN : ∀ i c, cs[i]? = some c → i < N := fun i c hc => by have := (List.getElem?_eq_some_iff.1 hc).1; omega
    have fits : Fits n S' a := ⟨inv.size, inv.defers, fun t v ht => by
      rcases hst.slots t v ht with ⟨c, hc, hd, hT⟩ | ⟨h0, hno⟩
      · obtain ⟨i, hi⟩ := List.mem_iff_getElem?.1 hc
        obtain ⟨u, hu, hTu⟩ := inv.done i c hi (hdone i (hcN i c hi))
        rw [hT] at hTu
        rw [← hd, hu]
        exact congrArg some hTu
      · exact inv.old t v h0 fun i c hi hd => absurd hd (hno c (List.mem_of_getElem? hi))⟩
    have hkn : Knows (Wf (ss N)) (Hf (ss N)) w := by
      obtain ⟨m, hmN, hkm, hm⟩ := inv.knows
      have hpure' : ∀ j, j < N → es.contains j = false → ss (j + 1) = ss j := fun j hj hno => by
        have hjo : j < l.toArray.size := by omega
        have hjl : j < cs.length := by omega
        rcases (hcs j _ cs[j] (Array.getElem?_eq_getElem hjo) (List.getElem?_eq_getElem hjl)).1.op with h | h
        · exact h.2.1
        · rw [hno] at h; cases h.1
      have := ss_same hpure' (N - m) m (by omega) fun j h1 h2 => by
        cases hej : es.contains j with
        | false => rfl
        | true =>
          have := (hm j (by omega) hej).1 (hdone j (by omega))
          omega
      rw [show m + (N - m) = N by omega] at this
      rw [this]
      exact hkm
    have := hK a w fits hkn (fun x hx => by
        obtain ⟨c, hc, rfl⟩ := hG x hx
        obtain ⟨i, hi⟩ := List.mem_iff_getElem?.1 hc
        exact inv.done i c hi (hdone i (hcN i c hi)))
      (fun x hx y hy hne hx1 hy1 => by
        obtain ⟨c, hc, rfl⟩ := hG x hx
        obtain ⟨c', hc', rfl⟩ := hG y hy
        obtain ⟨i, hi⟩ := List.mem_iff_getElem?.1 hc
        obtain ⟨j, hj⟩ := List.mem_iff_getElem?.1 hc'
        exact inv.apart i j c c' hi hj (fun e => by subst e; rw [hi] at hj; cases hj; exact hne rfl) hx1 hy1 (hdone i (hcN i c hi)) (hdone j (hcN j c' hj)))
      (fun x hx hx1 y hy he => by
        obtain ⟨c, hc, rfl⟩ := hG x hx
        obtain ⟨i, hi⟩ := List.mem_iff_getElem?.1 hc
        obtain ⟨u, hu, hTu⟩ := inv.done i c hi (hdone i (hcN i c hi))
        have hio : i < l.toArray.size := by have := hcN i c hi; omega
        obtain ⟨bb, hb, _, hno⟩ := ((hcs i _ c (Array.getElem?_eq_getElem hio) hi).1.al hx1).2 _ _ hTu
        rw [hu, hb] at he
        simp only [Option.some.injEq, Value.pointer.injEq, Addr.mk.injEq, and_true] at he
        have hmem : y.2.1 ∈ (Hf (ss N)).map (·.2.1) := List.mem_map.2 ⟨y, hy, rfl⟩
        rw [fam.adr] at hmem
        obtain ⟨z, hz, hze⟩ := List.mem_map.1 hmem
        exact hno z hz (by omega)) trivial
    have hl : (l.drop N).length = l.toArray.size - N := by simp
    rw [← hl]
    exact wpAny_of_seq (l.drop N) N listed a w (fun j => by simp [List.getElem?_drop]) (by rw [hl, hcan]; exact hseq) this
  | succ f ih =>
    intro listed a w hh hu inv
    rw [show f + 1 + (l.toArray.size - N) = (f + (l.toArray.size - N)) + 1 by omega]
    obtain ⟨i0, hi0, hun0, hbefore⟩ := undone_first (listed := listed) (N := N) (by omega)
    have hready : i0 ∈ Region.ready .any l.toArray listed := by
      have hlt : i0 < l.toArray.size := by omega
      refine mem_ready.2 ⟨hun0, l.toArray[i0], Array.getElem?_eq_getElem hlt, fun e he hb => ?_⟩
      have h1 := List.all_eq_true.1 hback i0 (List.mem_range.2 hlt)
      simp only [Array.getElem?_eq_getElem hlt] at h1
      have h2 := Array.all_eq_true_iff_forall_mem.1 h1 e he
      simp only [hb, Bool.not_true, Bool.false_or, decide_eq_true_eq] at h2
      have h3 := hbefore e.on h2
      have : e.on < listed.size := by rw [hh.size]; omega
      simp [this] at h3 ⊢
      exact h3
    refine ⟨fun h0 => (by rw [h0] at hready; cases hready), fun i hi => ?_⟩
    have hiN : i < N := by
      rcases Nat.lt_or_ge i N with h | h
      · exact h
      · exact absurd hi (tail_waits hsink hchain hN hh _ i0 rfl hi0 hun0 i h)
    have hun := (mem_ready.1 hi).1
    refine wpOp_mono (fun a' w' h => ?_) (step_invM hlen hdep hself hes hh.closed hcs inv hi hiN hh.size (by omega))
    have := undone_set hun hiN
    exact ih _ a' w' (hh.set hi hiN) (by omega) h
theorem doC_drawnM {S : Slots} {l : List Oper} {id : Nat} (N : Nat) (es : List Nat) {s : σ} (fam : Fam b w1 H0 Wf Hf) (hm : P.follows .mixedOrders = true) (hB : (drawB l.toArray N && esB l.toArray es && es.all (Nat.blt · N)) = true)
    (h : DoM P n l.toArray b Wf Hf H0 es (fun s' S' G' => Tail P n (Wf s') l.toArray Q (l.drop N) (fun _ => True) S' (Hf s') G') (l.take N) 0 s S []) : DoC P n (Wf s) Q (.region id l.toArray true) S (Hf s) := by
  intro a w fa ka
  simp only [Bool.and_eq_true] at hB
  obtain ⟨⟨hB, hes⟩, hen⟩ := hB
  have hN : N < l.toArray.size := by
    simp only [drawB, Bool.and_eq_true, decide_eq_true_eq] at hB
    exact hB.1.1.1.2
  obtain ⟨cs, ss, hlen, h0, hcs, S', G', hst, hK, hG⟩ := doM_certs (S0 := S) (l.take N) 0 s S [] [] ⟨fun t v ht => .inr ⟨ht, fun c hc => by cases hc⟩, fun t T ht => by cases ht⟩ h
  have hlen' : cs.length = N := by rw [hlen]; simp; simp at hN; omega
  refine wp_region_any hm ?_
  have inv0 : HeadInv .any l.toArray N (Array.replicate l.toArray.size false) :=
    ⟨by simp, fun j oj _ hl => (by rw [getD_replicate_false] at hl; cases hl), fun t _ ht => getD_in (by simpa using ht) (getD_replicate_false _ _)⟩
  have hund : undone (Array.replicate l.toArray.size false) N = N := by
    have : ∀ k, k ≤ l.toArray.size → undone (Array.replicate l.toArray.size false) k = k := by
      intro k
      induction k with
      | zero => intro _; rfl
      | succ k ih =>
        intro hk
        have h1 := getD_in (listed := Array.replicate l.toArray.size false) (i := k) (by simp; simp at hk; omega) (getD_replicate_false _ _)
        simp only [undone, ih (by omega), h1]
        rfl
    exact this N (by omega)
  have hK' : Tail P n (Wf (ss N)) l.toArray Q (l.drop N) (fun _ => True) S' (Hf (ss N)) G' := by
    have e : 0 + (l.take N).length = N := by simp; simp at hN; omega
    rw [e] at hK
    exact hK
  have := wpAny_mainM (P := P) (n := n) (S0 := S) (Q := Q) (ss := ss) fam hB hes hen hlen' (fun i o c hi hc => by
      have hil := (List.getElem?_eq_some_iff.1 hc).1
      have := hcs i o c (by rw [List.getElem?_take, if_pos (by omega)]; simpa using hi) hc
      simpa using this) (by simpa using hst) (fun x hx => by
        rcases hG x hx with h | h
        · cases h
        · exact h) hK' N _ a { w with drawn := w.drawn + 1 } inv0 hund
      ⟨fa.size, fa.defers, fun t v ht _ => fa.has t v ht, fun i c _ hd => (by rw [getD_replicate_false] at hd; cases hd), fun i j c c' _ _ _ _ _ hd => (by rw [getD_replicate_false] at hd; cases hd),
        ⟨0, by omega, by rw [h0]; exact ka.next (Grow.refl w).drew, fun i _ _ => by rw [getD_replicate_false]; simp⟩⟩
  rwa [show N + (l.toArray.size - N) = l.toArray.size by omega] at this
variable {S : Slots} {G : Ghosts} {K : σ → Slots → Ghosts → Prop} {o : Oper} {l : List Oper} {d i : Nat} {s : σ}
theorem doM_nil (h : K s S G) : DoM P n ops b Wf Hf H0 es K [] i s S G := h
theorem doM_v {v : Value} (ho : ∀ s', OpV P (Wf s') S (Hf s') o v) (hw : wantedS ops S o = some true) (hd : o.dst = some d) (hn : Nat.blt d n = true) (he : es.contains i = false) (next : DoM P n ops b Wf Hf H0 es K l (i + 1) s ((d, v) :: S) G) :
    DoM P n ops b Wf Hf H0 es K (o :: l) i s S G :=
  ⟨d, isV v, s, hd, by simpa using hn, (ho s).nosel, stableB_isV b v, .inl ⟨he, rfl, fun s' => opA_of_opT (ho s') hw⟩, .inl ⟨v, rfl, next⟩⟩
theorem doM_callE {α : Type} {F : α → Value} {x : α} {s2 : σ} {f : FuncId} {xs : List Operand} {ats : Array TypeId} {ty : TypeId} {pos : String} {af : Array Edge} {g : Option (Nat × Bool)} {vs : List Value} (he : Enters P f) (ha : evs S xs = some vs)
    (hc : ∀ w, Knows (Wf s) (Hf s) w → Calls P f vs.toArray w (fun e w' => e = .returned (F x) ∧ GrowB b w w' ∧ Knows (Wf s2) (Hf s2) w')) (hw : wantedS ops S ⟨some d, .call ⟨.value (.func f), xs.toArray, ats⟩, ty, pos, af, g⟩ = some true)
    (hn : Nat.blt d n = true) (hi : es.contains i = true) (next : ∀ r, r = x → DoM P n ops b Wf Hf H0 es K l (i + 1) s2 ((d, F r) :: S) G) :
    DoM P n ops b Wf Hf H0 es K (⟨some d, .call ⟨.value (.func f), xs.toArray, ats⟩, ty, pos, af, g⟩ :: l) i s S G := by
  refine ⟨d, isV (F x), s2, rfl, by simpa using hn, rfl, stableB_isV b _, .inr ⟨hi, fun a w _ hkn k => ?_⟩, .inl ⟨F x, rfl, next x rfl⟩⟩
  obtain ⟨e, hk⟩ := evs_spec ha
  have hknown : knownB S ⟨some d, .call ⟨.value (.func f), xs.toArray, ats⟩, ty, pos, af, g⟩ = true := by
    simp only [knownB, Op.operands, Call.operands]
    rw [Array.all_eq_true_iff_forall_mem]
    intro y hy
    simp at hy
    rcases hy with rfl | hy
    · rfl
    · exact hk y hy
  have h1 : ∀ t' ∈ Oper.looksAt ops ⟨some d, .call ⟨.value (.func f), xs.toArray, ats⟩, ty, pos, af, g⟩, ∀ v, look S t' = some v → a.tmps[t']? = some v := fun t' ht => (hkn t' ht).1
  refine ⟨wanted_know hw h1, ?_⟩
  rw [exec_know hknown rfl h1]
  have hrun : (execOp (evD S) ⟨some d, .call ⟨.value (.func f), xs.toArray, ats⟩, ty, pos, af, g⟩).run P w = .ok (.enter f vs.toArray) w := by
    have h2 : evD S (.func f) = .func (.func f) #[] #[] := rfl
    have h3 := he vs.toArray w
    simp [execOp, resolve, h2, Deferred.ofValue, invoke, e, h3]
  rw [hrun]
  exact ⟨GrowB.refl _ _, (hc w k).mono fun e w' ⟨h1, h2, h3⟩ => ⟨F x, h1, h2, rfl, h3⟩⟩
end
end Go.Sx
namespace Go.Sx
section
variable {P : Program} {n : Nat} {w0 : Base} {ops : Array Oper} {Q : Exit → Act → World → Prop} {S : Slots} {H : Heap}
variable {d : Option Tmp} {ty : TypeId} {pos : String} {af : Array Edge} {g : Option (Nat × Bool)}
theorem opV_index {t : Nat} {x y : Operand} {a i v : Value} (hx : ev S x = some a) (hy : ev S y = some i) (h : ∀ w : World, (Instr.index t a i).run P w = .ok v w) : OpV P w0 S H ⟨d, .index t x y, ty, pos, af, g⟩ v :=
  opV_of (by simp [knownB, Op.operands, hx, hy]) rfl fun w _ => by simp [execOp, evD_of hx, evD_of hy, h w]
end
end Go.Sx
namespace Go.Sx
open Go.RowKit
def rowPl (len size : Nat) : List (Nat × Nat) := (List.range len).map fun i => (i * size, size)
def rowZ (zs : List Value) : Nat → List Value
  | 0 => []
  | k + 1 => zs ++ rowZ zs k
theorem rowZ_get {zs : List Value} (hz : 0 < zs.length) : ∀ (len i : Nat), i < len * zs.length → (rowZ zs len)[i]? = zs[i % zs.length]?
  | 0, i, h => by omega
  | k + 1, i, h => by
    simp only [rowZ, List.getElem?_append]
    split
    · rename_i hlt
      rw [Nat.mod_eq_of_lt hlt]
    · rename_i hge
      rw [Nat.add_mul] at h
      rw [rowZ_get hz k (i - zs.length) (by omega)]
      congr 1
      exact (Nat.mod_eq_sub_mod (by omega)).symm
theorem rowZ_length (zs : List Value) : ∀ len, (rowZ zs len).length = len * zs.length
  | 0 => by simp [rowZ]
  | k + 1 => by simp [rowZ, rowZ_length zs k, Nat.add_mul]; omega
section
variable {P : Program} {n : Nat} {w0 : Base} {ops : Array Oper} {Q : Exit → Act → World → Prop} {S : Slots} {H : Heap}
theorem zero_row (z : Value) (len : Nat) (hz : 0 < z.cells.size) : (Array.range (len * z.cells.size)).map (z.cells[· % z.cells.size]!) = (rowZ z.cells.toList len).toArray := by
  apply Array.ext
  · simp [rowZ_length]
  · intro i h1 h2
    have hlt : i < len * z.cells.toList.length := by simpa using h1
    have hg := rowZ_get (zs := z.cells.toList) (by simpa using hz) len i hlt
    have hm : i % z.cells.size < z.cells.size := Nat.mod_lt _ hz
    simp only [Array.getElem_map, Array.getElem_range, List.getElem_toArray]
    have hlt' : i < (rowZ z.cells.toList len).length := by rw [rowZ_length]; exact hlt
    rw [List.getElem?_eq_getElem hlt'] at hg
    have e1 : z.cells.toList[i % z.cells.toList.length]? = some z.cells[i % z.cells.size] := by
      simp [hm]
    rw [e1] at hg
    rw [Option.some.inj hg]
    simp [hm]
theorem run_bslice {t e size len : Nat} {z : Value} {parts : List (Nat × Value)} {cs : List Value} (hs : slcB P t e size = true) (hz : zeroIs P e z) (hzs : Nat.beq z.cells.size size = true) (h0 : Nat.blt 0 size = true) (hl : Nat.ble (len * size) 16777216 = true)
    (h1 : Nat.blt 0 len = true) (hf : fillV (rowPl len size) (rowZ z.cells.toList len) parts = some cs) (w : World) :
    (Instr.buildSlice t len parts.toArray).run P w = .ok (.slice (some ⟨w.heap.size, 0, none⟩) len len) (w.alloc (.cells cs.toArray e)) := by
  have hzs' := Nat.eq_of_beq_eq_true hzs
  subst hzs'
  have h0' : 0 < z.cells.size := by simpa using h0
  have h1' : 0 < len := by simpa using h1
  have hl' : len * z.cells.size ≤ 16777216 := Nat.le_of_ble_eq_true hl
  have hne : ¬ len * z.cells.size = 0 := by
    intro e
    rcases Nat.mul_eq_zero.1 e with h | h <;> omega
  unfold slcB at hs
  cases hu : P.underlying t with
  | none => simp [hu] at hs
  | some ds =>
    cases ds <;> simp [hu] at hs
    rename_i e'
    obtain ⟨rfl, h2⟩ := hs
    cases hi : P.info? e' with
    | none => simp [hi] at h2
    | some inf =>
      simp [hi] at h2
      have hfill := fill_of (place := fun i => some (i * z.cells.size, z.cells.size)) (pl := rowPl len z.cells.size) (fun i x hx => by
        simp only [rowPl, List.getElem?_map, Option.map_eq_some_iff] at hx
        obtain ⟨j, hj, rfl⟩ := hx
        have := (List.getElem?_eq_some_iff.1 hj)
        simp at this
        simp [this.2]) parts (rowZ z.cells.toList len) cs hf
      rw [← zero_row z len h0'] at hfill
      have hsz : (sizeOf e').run P w = .ok z.cells.size w := by simp [sizeOf, typeInfo, hi, h2]
      simp only [Instr.buildSlice, Sem.run_bind, run_underlying hu, Result.andThen_ok, hsz, Sem.run_ite]
      rw [if_neg (by omega)]
      simp only [Sem.run_pure, Result.andThen_ok, if_neg hne, run_zero hz, Sem.run_bind]
      simp [hfill, newRow, hne, run_zero hz]
def RowT (w0 : Base) (H : Heap) (cs : List Value) (e : TypeId) (len : Nat) : Pred := fun u w =>
  ∃ b, u = .slice (some ⟨b, 0, none⟩) len len ∧ w0.w.heap.size ≤ b ∧ ((∀ x ∈ H, x.2.1 ≠ b) ∧ ∀ x ∈ w0.R, ¬ x.2.1 b) ∧ w.heap[b]? = some (.cells cs.toArray e)
theorem stable_rowT {cs : List Value} {e : TypeId} {len : Nat} : Stable (RowT w0 H cs e len) := fun _ _ _ ⟨b, h1, h2, h3, h4⟩ g => ⟨b, h1, h2, h3, by rw [g.block b (heap_lt h4)]; exact h4⟩
variable {d : Nat} {ty : TypeId} {pos : String} {af : Array Edge} {g : Option (Nat × Bool)}
theorem opT_bslice {t e size len : Nat} {z : Value} {parts : List (Nat × Operand)} {vs : List (Nat × Value)} {cs : List Value} (hs : slcB P t e size = true) (hz : zeroIs P e z) (hzs : Nat.beq z.cells.size size = true) (h0 : Nat.blt 0 size = true)
    (hl : Nat.ble (len * size) 16777216 = true) (h1 : Nat.blt 0 len = true) (hp : evp S parts = some vs) (hf : fillV (rowPl len size) (rowZ z.cells.toList len) vs = some cs) :
    OpT P w0 S H ⟨some d, .buildSlice t len parts.toArray, ty, pos, af, g⟩ (RowT w0 H cs e len) := by
  obtain ⟨e1, hk⟩ := evp_spec hp
  refine ⟨?_, rfl, fun w k => ?_⟩
  · simp only [knownB, Op.operands]
    rw [Array.all_eq_true_iff_forall_mem]
    intro x hx
    simp at hx
    obtain ⟨i, hi⟩ := hx
    exact hk _ hi
  · have := run_bslice (P := P) hs hz hzs h0 hl h1 hf w
    have h2 : (parts.toArray.map fun (x : Nat × Operand) => (x.1, evD S x.2)) = vs.toArray := by rw [← e1]; simp
    simp only [execOp]
    rw [h2]
    simp only [Sem.run_bind, this, Result.andThen_ok, Sem.run_pure, Yields]
    refine ⟨(Grow.refl w).alloc _, w.heap.size, rfl, k.grow.size, ⟨fun x hx e => ?_, fun x hx hd => ?_⟩, ?_⟩
    · have := heap_lt (k.has x hx).2
      omega
    · have := ((k.facts x hx).at' _ hd).2.1
      omega
    · show (w.heap.push _)[w.heap.size]? = _
      simp
theorem doG_bslice {t e size len : Nat} {z : Value} {parts : List (Nat × Operand)} {vs : List (Nat × Value)} {cs : List Value} {K : Slots → Ghosts → Prop} {G : Ghosts} {l : List Oper} (hs : slcB P t e size = true) (hz : zeroIs P e z) (hzs : Nat.beq z.cells.size size = true) (h0 : Nat.blt 0 size = true)
    (hl : Nat.ble (len * size) 16777216 = true) (h1 : Nat.blt 0 len = true) (hp : evp S parts = some vs) (hf : fillV (rowPl len size) (rowZ z.cells.toList len) vs = some cs)
    (hw : wantedS ops S ⟨some d, .buildSlice t len parts.toArray, ty, pos, af, g⟩ = some true) (hn : Nat.blt d n = true) (hno : look S d = none)
    (next : DoG P n w0 ops H K l S ((d, false, RowT w0 H cs e len) :: G)) : DoG P n w0 ops H K (⟨some d, .buildSlice t len parts.toArray, ty, pos, af, g⟩ :: l) S G :=
  doG_t (opT_bslice hs hz hzs h0 hl h1 hp hf) stable_rowT hw rfl hn hno next
theorem doL_bslice {t e size len : Nat} {z : Value} {parts : List (Nat × Operand)} {vs : List (Nat × Value)} {cs : List Value} {l : List Oper} (id : Nat) (hs : slcB P t e size = true) (hz : zeroIs P e z) (hzs : Nat.beq z.cells.size size = true) (h0 : Nat.blt 0 size = true)
    (hl : Nat.ble (len * size) 16777216 = true) (h1 : Nat.blt 0 len = true) (hp : evp S parts = some vs) (hf : fillV (rowPl len size) (rowZ z.cells.toList len) vs = some cs)
    (hw : wantedS ops S ⟨some d, .buildSlice t len parts.toArray, ty, pos, af, g⟩ = some true) (hn : Nat.blt d n = true)
    (next : ∀ b, DoL P n w0 ops Q l ((d, .slice (some ⟨b, 0, none⟩) len len) :: S) ((id, b, cs, e) :: H)) : DoL P n w0 ops Q (⟨some d, .buildSlice t len parts.toArray, ty, pos, af, g⟩ :: l) S H :=
  doL_t (opT_bslice hs hz hzs h0 hl h1 hp hf) hw rfl hn fun v a w f k ⟨b, hv, hb, ⟨hno, hR⟩, hblk⟩ => by
    subst hv
    refine next b a w f ⟨k.grow, fun x hx => ?_, ?_, fun F hF => (k.facts F hF).heap fun x hx => ?_, k.apart⟩
    · rcases List.mem_cons.1 hx with rfl | hx
      · exact ⟨hb, hblk⟩
      · exact k.has x hx
    · rw [List.map_cons, List.nodup_cons]
      refine ⟨fun hm => ?_, k.nodup⟩
      obtain ⟨y, hy, he⟩ := List.mem_map.1 hm
      exact hno y hy he
    · rcases List.mem_cons.1 hx with rfl | hx
      · exact .inr (hR F hF)
      · exact .inl ⟨x, hx, rfl⟩
theorem call_yields {w : World} {f : FuncId} {dd : Option Tmp} {xs : List Operand} {ats : Array TypeId} {vs : List Value} {T : Pred} (he : Enters P f) (ha : evs S xs = some vs)
    (hc : Calls P f vs.toArray w (RetsT T w)) : Yields P w T ((execOp (evD S) ⟨dd, .call ⟨.value (.func f), xs.toArray, ats⟩, ty, pos, af, g⟩).run P w) := by
  obtain ⟨e, _⟩ := evs_spec ha
  have hrun : (execOp (evD S) ⟨dd, .call ⟨.value (.func f), xs.toArray, ats⟩, ty, pos, af, g⟩).run P w = .ok (.enter f vs.toArray) w := by
    have h2 : evD S (.func f) = .func (.func f) #[] #[] := rfl
    have h3 := he vs.toArray w
    simp [execOp, resolve, h2, Deferred.ofValue, invoke, e, h3]
  rw [hrun]
  exact ⟨Grow.refl _, hc.mono fun _ _ h => h⟩
theorem known_call {f : FuncId} {dd : Option Tmp} {xs : List Operand} {ats : Array TypeId} (hk : ∀ x ∈ xs, (ev S x).isSome = true) : knownB S ⟨dd, .call ⟨.value (.func f), xs.toArray, ats⟩, ty, pos, af, g⟩ = true := by
  simp only [knownB, Op.operands, Call.operands]
  rw [Array.all_eq_true_iff_forall_mem]
  intro x hx
  simp at hx
  rcases hx with rfl | hx
  · rfl
  · exact hk x hx
theorem doG_callG {F : Int → Value} {x : Int} {f : FuncId} {xs : List Operand} {ats : Array TypeId} {T1 : Pred} {vsOf : Value → List Value} {K : Slots → Ghosts → Prop} {G : Ghosts} {l : List Oper} (t : Nat) (he : Enters P f) (hG : lookG G t = some T1)
    (ha : ∀ u, evs ((t, u) :: S) xs = some (vsOf u))
    (hc : ∀ u w, Knows w0 H w → T1 u w → Calls P f (vsOf u).toArray w (Rets (F x) w)) (hw : ∀ u, wantedS ops ((t, u) :: S) ⟨some d, .call ⟨.value (.func f), xs.toArray, ats⟩, ty, pos, af, g⟩ = some true)
    (hm : t ∈ Oper.looksAt ops ⟨some d, .call ⟨.value (.func f), xs.toArray, ats⟩, ty, pos, af, g⟩) (hn : Nat.blt d n = true) (next : ∀ r, r = x → DoG P n w0 ops H K l ((d, F r) :: S) G) :
    DoG P n w0 ops H K (⟨some d, .call ⟨.value (.func f), xs.toArray, ats⟩, ty, pos, af, g⟩ :: l) S G :=
  doG_g1 t hG rfl (fun u => known_call (evs_spec (ha u)).2) (fun u w k hT => call_yields he (ha u) ((hc u w k hT).mono fun _ _ h => ⟨F x, h.1, h.2, rfl⟩)) hw hm rfl hn (next x rfl)
end
end Go.Sx
namespace Go.Sx
open Go.RowKit
structure IntsAt (w : World) (m : Nat) (sl : Value) (L : List Int) : Prop where
  len : L.length ≤ 9223372036854775807
  slice : ∃ a cap, sl = .slice a L.length cap ∧ ∀ j, j < L.length → ∃ b off, a = some ⟨b, off, none⟩ ∧ b < m ∧ w.cell? ⟨b, off + j, none⟩ = some (.int .i64 (L.getD j 0))
def srcC (sl : Value) (L : List Int) (i : Nat) : List Value := [sl, .int .i64 ((min i L.length : Nat) : Int)]
theorem srcC_zero (sl : Value) (L : List Int) : srcC sl L 0 = [sl, .int .i64 0] := by simp [srcC]
def srcR (L : List Int) (i : Nat) (k : Int) : Int := L.getD i 0 % k
def srcS (L : List Int) (i : Nat) (k : Int) : Int := srcR L i (2 * k + 1) - k
theorem srcR_bnd (L : List Int) (i : Nat) {k : Int} (h : 0 < k) : 0 ≤ srcR L i k ∧ srcR L i k < k := ⟨Int.emod_nonneg _ (by omega), Int.emod_lt_of_pos _ h⟩
theorem srcS_bnd (L : List Int) (i : Nat) {k : Int} (h : 0 ≤ k) : -k ≤ srcS L i k ∧ srcS L i k ≤ k := by
  have := srcR_bnd L i (k := 2 * k + 1) (by omega)
  unfold srcS
  omega
theorem srcR_b {L : List Int} {i : Nat} {k r : Int} (e : r = srcR L i k) (h : 0 < k) : 0 ≤ r ∧ r < k := e ▸ srcR_bnd L i h
theorem srcS_b {L : List Int} {i : Nat} {k r : Int} (e : r = srcS L i k) (h : 0 ≤ k) : -k ≤ r ∧ r ≤ k := e ▸ srcS_bnd L i h
def srcW (w : World) (b : Nat) (sl : Value) (L : List Int) (i : Nat) : World := w.setRow b (srcC sl L i).toArray
def srcB (w0 : Base) (b : Nat) (sl : Value) (L : List Int) (i : Nat) : Base := ⟨srcW w0.w b sl L i, w0.R⟩
structure Src (w : World) (b : Nat) (sl : Value) (L : List Int) (i : Nat) : Prop where
  blk : ∃ ty, w.heap[b]? = some (.cells (srcC sl L i).toArray ty)
  ints : IntsAt w b sl L
theorem Src.lt {w : World} {b : Nat} {sl : Value} {L : List Int} {i : Nat} (h : Src w b sl L i) : b < w.heap.size := by
  obtain ⟨ty, h⟩ := h.blk
  exact heap_lt h
theorem IntsAt.mono {w w' : World} {m m' : Nat} {sl : Value} {L : List Int} (h : IntsAt w m sl L) (hm : m ≤ m') (hw : ∀ k, k < m → w'.heap[k]? = w.heap[k]?) : IntsAt w' m' sl L := by
  obtain ⟨h1, a, cap, h2, h3⟩ := h
  refine ⟨h1, a, cap, h2, fun j hj => ?_⟩
  obtain ⟨b, off, e, hb, hc⟩ := h3 j hj
  refine ⟨b, off, e, by omega, ?_⟩
  rw [← hc]
  exact World.cell?_of_block (w := w) (hw b hb)
theorem srcW_size (w : World) (b : Nat) (sl : Value) (L : List Int) (i : Nat) : (srcW w b sl L i).heap.size = w.heap.size := by simp [srcW]
theorem Src.w {w : World} {b : Nat} {sl : Value} {L : List Int} {i : Nat} (h : Src w b sl L i) (j : Nat) : Src (srcW w b sl L j) b sl L j := by
  obtain ⟨⟨ty, hb⟩, hi⟩ := h
  exact ⟨⟨ty, setRow_heap w b _ _ ty _ hb⟩, hi.mono (Nat.le_refl _) fun k hk => setRow_other w b k _ (by omega)⟩
theorem Src.grow {w w' : World} {b : Nat} {sl : Value} {L : List Int} {i : Nat} (h : Src w b sl L i) (g : Grow w w') : Src w' b sl L i := by
  have hlt := h.lt
  obtain ⟨⟨ty, hb⟩, hi⟩ := h
  exact ⟨⟨ty, by rw [g.block b hlt]; exact hb⟩, hi.mono (Nat.le_refl _) fun k hk => g.block k (by omega)⟩
theorem setRow_self {w : World} {b : Nat} {cs : Array Value} {ty : TypeId} (h : w.heap[b]? = some (.cells cs ty)) : w.setRow b cs = w := by
  have e : (w.setRow b cs).heap = w.heap := by
    apply Array.ext_getElem?
    intro k
    by_cases hk : k = b
    · subst hk
      rw [setRow_heap w k _ cs ty _ h, h]
    · exact setRow_other w b k cs hk
  show { w with heap := (w.setRow b cs).heap } = w
  rw [e]
theorem Src.self {w : World} {b : Nat} {sl : Value} {L : List Int} {i : Nat} (h : Src w b sl L i) : srcW w b sl L i = w := by
  obtain ⟨⟨ty, hb⟩, _⟩ := h
  exact setRow_self hb
def Base.setRow (B : Base) (b : Nat) (cs : Array Value) : Base := ⟨B.w.setRow b cs, B.R⟩
theorem knows_setRow {B : Base} {w' : World} {H : Heap} {b : Nat} {c0 cs cs' : Array Value} {ty : TypeId} (hb : B.w.heap[b]? = some (.cells c0 ty)) (k : Knows (B.setRow b cs) H w') : Knows (B.setRow b cs') H (w'.setRow b cs') := by
  have hlt := heap_lt hb
  have hb1 : w'.heap[b]? = some (.cells cs ty) := by
    rw [k.grow.block b (by simpa [Base.setRow] using hlt)]
    exact setRow_heap B.w b _ _ ty _ hb
  have hsz := k.grow.size
  simp only [Base.setRow, setRow_size] at hsz
  refine ⟨⟨k.grow.os, k.grow.tape, k.grow.output, by simpa [Base.setRow] using hsz, fun i hi => ?_⟩, fun x hx => ?_, k.nodup, fun F hF => ?_, k.apart⟩
  · by_cases e : i = b
    · subst e
      exact (setRow_heap w' i _ cs' ty _ hb1).trans (setRow_heap B.w i _ cs' ty _ hb).symm
    · refine (setRow_other _ _ _ _ e).trans (Eq.trans ?_ (setRow_other B.w b i cs' e).symm)
      have := k.grow.block i (by simpa [Base.setRow] using hi)
      exact this.trans (setRow_other B.w b i cs e)
  · obtain ⟨h1, h2⟩ := k.has x hx
    simp only [Base.setRow, setRow_size] at h1 ⊢
    refine ⟨h1, ?_⟩
    rw [setRow_other _ _ _ _ (by omega)]
    exact h2
  · obtain ⟨h1, h2, h3⟩ := k.facts F hF
    have hbD : ∀ i, F.2.1 i → i ≠ b := fun i hi e => by
      have := (h2 i hi).1
      simp only [Base.setRow, setRow_size] at this
      omega
    exact ⟨h1, fun i hi => ⟨by have := (h2 i hi).1; simpa [Base.setRow] using this, by simpa using (h2 i hi).2.1, (h2 i hi).2.2⟩, h1 w' _ (fun i hi => setRow_other _ _ _ _ (hbD i hi)) h3⟩
section
variable {P : Program} {n : Nat} {w0 : Base} {ops : Array Oper} {Q : Exit → Act → World → Prop} {S : Slots} {H : Heap}
variable {d : Nat} {ty : TypeId} {pos : String} {af : Array Edge} {g : Option (Nat × Bool)}
theorem opV_nilCheck {dd : Option Tmp} {x : Operand} {a : Addr} (hx : ev S x = some (.pointer (some a))) : OpV P w0 S H ⟨dd, .nilCheck x, ty, pos, af, g⟩ (.pointer (some a)) :=
  opV_of (by simp [knownB, Op.operands, hx]) rfl fun w _ => by simp [execOp, evD_of hx]
theorem base_cell {B : Base} {w' : World} {b : Nat} {c0 cs : List Value} {t0 : TypeId} (hb : B.w.heap[b]? = some (.cells c0.toArray t0)) (k : Knows (B.setRow b cs.toArray) H w') (off : Nat) : w'.cell? ⟨b, off, none⟩ = cs[off]? := by
  have hlt := heap_lt hb
  have : w'.heap[b]? = some (.cells cs.toArray t0) := by
    rw [k.grow.block b (by simpa [Base.setRow] using hlt)]
    exact setRow_heap B.w b _ _ t0 _ hb
  exact cell_at this off
theorem opV_load_base {dd : Option Tmp} {t : TypeId} {x : Operand} {B : Base} {b off : Nat} {c0 cs : List Value} {t0 : TypeId} {v : Value} (hb : B.w.heap[b]? = some (.cells c0.toArray t0)) (hT : tyB P t false 1 = true) (hx : ev S x = some (.pointer (some ⟨b, off, none⟩)))
    (hv : cs[off]? = some v) : OpV P (B.setRow b cs.toArray) S H ⟨dd, .load t x, ty, pos, af, g⟩ v :=
  opV_of (by simp [knownB, Op.operands, hx]) rfl fun w' k => by
    have := base_cell hb k off
    simp [execOp, evD_of hx, Instr.loadAt, Instr.sureAddr, loadVar, tyB_agg hT, this, hv]
theorem doL_store_base {t : TypeId} {x y : Operand} {B : Base} {b off sz : Nat} {agg : Bool} {c0 cs cs' : List Value} {t0 : TypeId} {v : Value} {rest : List Oper} (hb : B.w.heap[b]? = some (.cells c0.toArray t0))
    (hT : tyB P t agg sz = true) (hx : ev S x = some (.pointer (some ⟨b, off, none⟩))) (hy : ev S y = some v)
    (hw : wantedS ops S ⟨none, .store t x y, ty, pos, af, g⟩ = some true) (hz : Nat.beq v.cells.size sz = true) (h1 : v.cells.toList.all Value.oneCell' = true)
    (hs : spliceV cs off v.cells.toList = some cs') (next : DoL P n (B.setRow b cs'.toArray) ops Q rest S H) :
    DoL P n (B.setRow b cs.toArray) ops Q (⟨none, .store t x y, ty, pos, af, g⟩ :: rest) S H := by
  intro a w' f k
  unfold wpList
  rw [wanted_fits f hw, if_pos rfl]
  refine .inl ?_
  have hlt := heap_lt hb
  have hb1 : w'.heap[b]? = some (.cells cs.toArray t0) := by
    rw [k.grow.block b (by simpa [Base.setRow] using hlt)]
    exact setRow_heap B.w b _ _ t0 _ hb
  obtain ⟨e, hl⟩ := spliceV_spec hs
  have hst := run_storeCells_at P b off t0 v.cells.toList 0 cs.toArray w' hb1 (by simpa using hl) (fun u hu => List.all_eq_true.1 h1 u hu)
  have hz' := Nat.eq_of_beq_eq_true hz
  have hrun : (execOp a.eval ⟨none, .store t x y, ty, pos, af, g⟩).run P w' = .ok .skip (w'.setRow b cs'.toArray) := by
    simp only [Nat.add_zero] at hst
    rw [← e] at hst
    simp [execOp, f.ev hx, f.ev hy, Instr.storeAt, Instr.sureAddr, storeVar, tyB_size hT, hz', hst]
  unfold Oper.wp
  rw [hrun]
  exact next _ _ f (knows_setRow hb k)
variable {α : Type} {F : α → Value} {x : α} {f : FuncId} {xs : List Operand} {ats : Array TypeId} {vs : List Value} {rest : List Oper}
variable {B : Base} {b i0 i j : Nat} {sl : Value} {L : List Int}
theorem call_run {dd : Option Tmp} {w : World} (he : Enters P f) (ha : evs S xs = some vs) : (execOp (evD S) ⟨dd, .call ⟨.value (.func f), xs.toArray, ats⟩, ty, pos, af, g⟩).run P w = .ok (.enter f vs.toArray) w := by
  obtain ⟨e, _⟩ := evs_spec ha
  have h2 : evD S (.func f) = .func (.func f) #[] #[] := rfl
  have h3 := he vs.toArray w
  simp [execOp, resolve, h2, Deferred.ofValue, invoke, e, h3]
theorem known_evs {dd : Option Tmp} (ha : evs S xs = some vs) : knownB S ⟨dd, .call ⟨.value (.func f), xs.toArray, ats⟩, ty, pos, af, g⟩ = true := known_call (evs_spec ha).2
theorem doL_srcA (hs : Src B.w b sl L i0) (he : Enters P f) (ha : evs S xs = some vs) (hc : ∀ w', Src w' b sl L i → Calls P f vs.toArray w' (Rets (F x) (srcW w' b sl L j)))
    (hw : wantedS ops S ⟨some d, .call ⟨.value (.func f), xs.toArray, ats⟩, ty, pos, af, g⟩ = some true) (hn : Nat.blt d n = true)
    (next : ∀ r, r = x → DoL P n (srcB B b sl L j) ops Q rest ((d, F r) :: S) H) : DoL P n (srcB B b sl L i) ops Q (⟨some d, .call ⟨.value (.func f), xs.toArray, ats⟩, ty, pos, af, g⟩ :: rest) S H := by
  intro a w' fi k
  unfold wpList
  rw [wanted_fits fi hw, if_pos rfl]
  refine .inl ?_
  unfold Oper.wp
  rw [exec_fits fi (known_evs ha) rfl, call_run he ha]
  simp only [Oper.upon]
  refine (hc w' ((hs.w i).grow k.grow)).mono fun e w'' ⟨he, hg⟩ => ?_
  subst he
  obtain ⟨t0, hb⟩ := hs.blk
  exact next x rfl _ _ (fi.put hn _) ((knows_setRow hb k).next hg)
theorem intsAt_grow {w' : World} (hI : IntsAt w0.w w0.w.heap.size sl L) (g : Grow w0.w w') {m : Nat} (hm : w0.w.heap.size ≤ m) : IntsAt w' m sl L := hI.mono hm fun k hk => g.block k hk
theorem doL_srcB {H' : Heap} {t0 : TypeId} (id : Nat) (hI : IntsAt w0.w w0.w.heap.size sl L) (hH : lookH H id = some (b, srcC sl L i, t0)) (he : Enters P f) (ha : evs S xs = some vs)
    (hc : ∀ w', Src w' b sl L i → Calls P f vs.toArray w' (Rets (F x) (srcW w' b sl L j))) (hu : updH H id (srcC sl L j) = some H')
    (hw : wantedS ops S ⟨some d, .call ⟨.value (.func f), xs.toArray, ats⟩, ty, pos, af, g⟩ = some true) (hn : Nat.blt d n = true)
    (next : ∀ r, r = x → DoL P n w0 ops Q rest ((d, F r) :: S) H') : DoL P n w0 ops Q (⟨some d, .call ⟨.value (.func f), xs.toArray, ats⟩, ty, pos, af, g⟩ :: rest) S H := by
  intro a w' fi k
  unfold wpList
  rw [wanted_fits fi hw, if_pos rfl]
  refine .inl ?_
  unfold Oper.wp
  rw [exec_fits fi (known_evs ha) rfl, call_run he ha]
  simp only [Oper.upon]
  obtain ⟨h1, h2⟩ := k.at hH
  refine (hc w' ⟨⟨t0, h2⟩, intsAt_grow hI k.grow h1⟩).mono fun e w'' ⟨he, hg⟩ => ?_
  subst he
  exact next x rfl _ _ (fi.put hn _) ((k.set hH hu).next hg)
def NewT (w : World) (cs : List Value) (t : TypeId) : Pred := fun u w' => ∃ b, u = .pointer (some ⟨b, 0, none⟩) ∧ w.heap.size ≤ b ∧ w'.heap[b]? = some (.cells cs.toArray t)
theorem doL_callNew {cs : List Value} {t0 : TypeId} (id : Nat) (he : Enters P f) (ha : evs S xs = some vs) (hc : ∀ w', Knows w0 H w' → Calls P f vs.toArray w' (RetsT (NewT w' cs t0) w'))
    (hw : wantedS ops S ⟨some d, .call ⟨.value (.func f), xs.toArray, ats⟩, ty, pos, af, g⟩ = some true) (hn : Nat.blt d n = true)
    (next : ∀ b, DoL P n w0 ops Q rest ((d, .pointer (some ⟨b, 0, none⟩)) :: S) ((id, b, cs, t0) :: H)) : DoL P n w0 ops Q (⟨some d, .call ⟨.value (.func f), xs.toArray, ats⟩, ty, pos, af, g⟩ :: rest) S H := by
  intro a w' fi k
  unfold wpList
  rw [wanted_fits fi hw, if_pos rfl]
  refine .inl ?_
  unfold Oper.wp
  rw [exec_fits fi (known_evs ha) rfl, call_run he ha]
  simp only [Oper.upon]
  refine (hc w' k).mono fun e w'' ⟨v, he, hg, bb, hv, hlt, hblk⟩ => ?_
  subst he; subst hv
  have k2 := k.next hg
  refine next bb _ _ (fi.put hn _) ⟨k2.grow, fun y hy => ?_, ?_, fun F hF => (k2.facts F hF).heap fun y hy => ?_, k.apart⟩
  · rcases List.mem_cons.1 hy with rfl | hy
    · exact ⟨Nat.le_trans k.grow.size hlt, hblk⟩
    · exact k2.has y hy
  · rw [List.map_cons, List.nodup_cons]
    refine ⟨fun hm => ?_, k.nodup⟩
    obtain ⟨y, hy, hye⟩ := List.mem_map.1 hm
    have := heap_lt (k.has y hy).2
    simp only at hye
    omega
  · rcases List.mem_cons.1 hy with rfl | hy
    · exact .inr fun hd => by have := ((k.facts F hF).at' _ hd).2.1; simp only at this; omega
    · exact .inl ⟨y, hy, rfl⟩
theorem calls_src {w : World} {fn : Func} {c : Code} {args : List Value} {R : Ending → World → Prop} (hs : Src w b sl L i) (hf : P.funcs[f]? = some fn) (hb : fn.body = some c) (hn : fn.ntmps = n)
    (hle : Nat.ble args.length n = true) (h : DoC P n (srcB ⟨w, []⟩ b sl L i) (bodyPost P fn R) c (initS 0 args) []) : Calls P f args.toArray w R :=
  calls_of_doC hf hb hn hle (by unfold srcB at h; rw [hs.self] at h; exact h)
theorem famA (hs : Src B.w b sl L i0) (H : Heap) : Fam (· = b) B H (fun i => srcB B b sl L i) (fun _ => H) := ⟨fun s => srcW_size _ _ _ _ _, fun _ => rfl, fun _ => rfl, fun k hk => .inl (hk ▸ hs.lt)⟩
theorem doC_srcA {l : List Oper} {id : Nat} (N : Nat) (es : List Nat) (hs : Src B.w b sl L i0) (hm : P.follows .mixedOrders = true) (hB : (drawB l.toArray N && esB l.toArray es && es.all (Nat.blt · N)) = true)
    (h : DoM P n l.toArray (· = b) (fun i => srcB B b sl L i) (fun _ => H) H es (fun s' S' G' => Tail P n (srcB B b sl L s') l.toArray Q (l.drop N) (fun _ => True) S' H G') (l.take N) 0 i S []) :
    DoC P n (srcB B b sl L i) Q (.region id l.toArray true) S H :=
  doC_drawnM (Wf := fun i => srcB B b sl L i) (Hf := fun _ => H) N es (famA hs H) hm hB h
theorem doM_srcA {l : List Oper} {ix : Nat} {es : List Nat} {G : Ghosts} {K : Nat → Slots → Ghosts → Prop} (hs : Src B.w b sl L i0) (he : Enters P f) (ha : evs S xs = some vs) (hc : ∀ w', Src w' b sl L i → Calls P f vs.toArray w' (Rets (F x) (srcW w' b sl L j)))
    (hw : wantedS ops S ⟨some d, .call ⟨.value (.func f), xs.toArray, ats⟩, ty, pos, af, g⟩ = some true) (hn : Nat.blt d n = true) (hi : es.contains ix = true)
    (next : ∀ r, r = x → DoM P n ops (· = b) (fun i => srcB B b sl L i) (fun _ => H) H es K l (ix + 1) j ((d, F r) :: S) G) :
    DoM P n ops (· = b) (fun i => srcB B b sl L i) (fun _ => H) H es K (⟨some d, .call ⟨.value (.func f), xs.toArray, ats⟩, ty, pos, af, g⟩ :: l) ix i S G :=
  doM_callE he ha (fun w' k => (hc w' ((hs.w i).grow k.grow)).mono fun e w'' ⟨he, hg⟩ => by
    obtain ⟨t0, hb⟩ := hs.blk
    exact ⟨he, (GrowB.set b w' _).trans (.of hg), (knows_setRow hb k).next hg⟩) hw hn hi next
def hfB (H : Heap) (id : Nat) (sl : Value) (L : List Int) (i : Nat) : Heap := (updH H id (srcC sl L i)).getD []
theorem updH_some {H : Heap} {id : Nat} {y : Nat × List Value × TypeId} (h : lookH H id = some y) (cs : List Value) : ∃ H', updH H id cs = some H' := by
  induction H with
  | nil => cases h
  | cons x H ih =>
    obtain ⟨k, bb, c, t⟩ := x
    simp only [lookH] at h
    simp only [updH]
    cases hb : Nat.beq k id with
    | true => exact ⟨_, rfl⟩
    | false =>
      rw [hb] at h
      obtain ⟨H2, h2⟩ := ih h
      exact ⟨_, by simp only [h2, consO]; rfl⟩
theorem updH_self {H : Heap} {id bb : Nat} {cs : List Value} {t : TypeId} (h : lookH H id = some (bb, cs, t)) : updH H id cs = some H := by
  induction H with
  | nil => cases h
  | cons x H ih =>
    obtain ⟨k, b1, c, t1⟩ := x
    simp only [lookH] at h
    simp only [updH]
    cases hb : Nat.beq k id with
    | true =>
      rw [hb] at h
      simp at h
      obtain ⟨rfl, rfl, rfl⟩ := h
      rfl
    | false =>
      rw [hb] at h
      simp only [cond_false] at h ⊢
      rw [ih h]
      rfl
theorem updH_look {H H' : Heap} {id bb : Nat} {cs cs' : List Value} {t : TypeId} (h : lookH H id = some (bb, cs, t)) (hu : updH H id cs' = some H') : lookH H' id = some (bb, cs', t) := by
  induction H generalizing H' with
  | nil => cases h
  | cons x H ih =>
    obtain ⟨k, b1, c, t1⟩ := x
    simp only [lookH] at h
    simp only [updH] at hu
    cases hb : Nat.beq k id with
    | true =>
      rw [hb] at h hu
      simp at h hu
      obtain ⟨rfl, rfl, rfl⟩ := h
      subst hu
      simp [lookH, hb]
    | false =>
      rw [hb] at h hu
      obtain ⟨H2, h2, rfl⟩ := consO_some hu
      simp only [lookH, hb]
      exact ih h h2
theorem updH_updH {H H' : Heap} {id : Nat} {cs cs' : List Value} (hu : updH H id cs = some H') : updH H' id cs' = updH H id cs' := by
  induction H generalizing H' with
  | nil => cases hu
  | cons x H ih =>
    obtain ⟨k, b1, c, t1⟩ := x
    simp only [updH] at hu
    cases hb : Nat.beq k id with
    | true =>
      rw [hb] at hu
      simp at hu
      subst hu
      simp [updH, hb]
    | false =>
      rw [hb] at hu
      obtain ⟨H2, h2, rfl⟩ := consO_some hu
      simp only [updH, hb, cond_false, ih h2]
theorem hfB_spec {t0 : TypeId} {id : Nat} (hH : lookH H id = some (b, srcC sl L i0, t0)) (k : Nat) : updH H id (srcC sl L k) = some (hfB H id sl L k) ∧ lookH (hfB H id sl L k) id = some (b, srcC sl L k, t0) := by
  obtain ⟨H', h⟩ := updH_some hH (srcC sl L k)
  have e : hfB H id sl L k = H' := by simp [hfB, h]
  rw [e]
  exact ⟨h, updH_look hH h⟩
theorem famB {t0 : TypeId} {id : Nat} (hH : lookH H id = some (b, srcC sl L i0, t0)) : Fam (· = b) w0 H (fun _ : Nat => w0) (hfB H id sl L) :=
  ⟨fun _ => rfl, fun _ => rfl, fun s => (by
    obtain ⟨b2, cs2, t2, e1, e2, _⟩ := updH_spec (hfB_spec hH s).1
    exact e2), fun j hj => .inr (by
    obtain ⟨k, hk⟩ := lookH_mem hH
    exact List.mem_map.2 ⟨_, hk, hj.symm⟩)⟩
theorem doC_srcB {l : List Oper} {rid : Nat} {t0 : TypeId} (id N : Nat) (es : List Nat) (hH : lookH H id = some (b, srcC sl L i, t0)) (hm : P.follows .mixedOrders = true) (hB : (drawB l.toArray N && esB l.toArray es && es.all (Nat.blt · N)) = true)
    (h : DoM P n l.toArray (· = b) (fun _ => w0) (hfB H id sl L) H es (fun s' S' G' => Tail P n w0 l.toArray Q (l.drop N) (fun _ => True) S' (hfB H id sl L s') G') (l.take N) 0 i S []) :
    DoC P n w0 Q (.region rid l.toArray true) S H := by
  have := doC_drawnM (Wf := fun _ : Nat => w0) (Hf := hfB H id sl L) (id := rid) N es (famB hH) hm hB h
  have e : hfB H id sl L i = H := by simp [hfB, updH_self hH]
  rw [e] at this
  exact this
theorem doM_srcB {H : Heap} {l : List Oper} {ix : Nat} {es : List Nat} {G : Ghosts} {K : Nat → Slots → Ghosts → Prop} {t0 : TypeId} (id : Nat) (hI : IntsAt w0.w w0.w.heap.size sl L) (hH : lookH H id = some (b, srcC sl L i0, t0)) (he : Enters P f) (ha : evs S xs = some vs) (hc : ∀ w', Src w' b sl L i → Calls P f vs.toArray w' (Rets (F x) (srcW w' b sl L j)))
    (hw : wantedS ops S ⟨some d, .call ⟨.value (.func f), xs.toArray, ats⟩, ty, pos, af, g⟩ = some true) (hn : Nat.blt d n = true) (hi : es.contains ix = true)
    (next : ∀ r, r = x → DoM P n ops (· = b) (fun _ => w0) (hfB H id sl L) H es K l (ix + 1) j ((d, F r) :: S) G) :
    DoM P n ops (· = b) (fun _ => w0) (hfB H id sl L) H es K (⟨some d, .call ⟨.value (.func f), xs.toArray, ats⟩, ty, pos, af, g⟩ :: l) ix i S G :=
  doM_callE he ha (fun w' k => by
    obtain ⟨h1, h2⟩ := hfB_spec hH i
    obtain ⟨h3, h4⟩ := k.at h2
    refine (hc w' ⟨⟨t0, h4⟩, intsAt_grow hI k.grow h3⟩).mono fun e w'' ⟨he, hg⟩ => ?_
    have hu : updH (hfB H id sl L i) id (srcC sl L j) = some (hfB H id sl L j) := (updH_updH h1).trans (hfB_spec hH j).1
    exact ⟨he, (GrowB.set b w' _).trans (.of hg), (k.set h2 hu).next hg⟩) hw hn hi next
theorem tail_heap {H H' : Heap} {G : Ghosts} {tl : List Oper} {Fw : World → Prop} {id k : Nat} (hu : updH H id (srcC sl L k) = some H') (h : Tail P n w0 ops Q tl Fw S H' G) : Tail P n w0 ops Q tl Fw S (hfB H id sl L k) G := by
  have e : hfB H id sl L k = H' := by simp [hfB, hu]
  rw [e]
  exact h
end
end Go.Sx
namespace Go.Sx
open Go.RowKit Go.ChangeShapes Go.WideShapes
section
variable {P : Program} {W : World} {H : Type} {enc : TypeId × Value → H}
theorem slice_of {t e : TypeId} {v : Value} (ht : P.underlying t = some (.slice e)) {r : Reach} {base : Nat} (h : Value.okWide P W r base t v) : ∃ a l c, v = .slice a l c := by
  simp only [Value.okWide, ht, Cell.okWide] at h
  cases v <;> simp [Cell.ok, ht] at h
  exact ⟨_, _, _, rfl⟩
theorem open_list {t e : TypeId} {v : Value} {d : DataW H} {p : List MemPlace} (ht : P.underlying t = some (.slice e)) (he : P.underlying e = some (.int .i64)) (hc : P.cellsOf e = 1)
    {r : Reach} {base : Nat} (hv : Value.okWide P W r base t v) (h : DataW.Trod enc P W 0 (fun _ => true) true t v d p) : ∃ L : List Int, IntsAt W W.heap.size v L ∧ ∀ x ∈ L, In64 x := by
  obtain ⟨a, l, c, rfl⟩ := slice_of ht hv
  obtain ⟨fuel, h⟩ := h
  have h' : DataW.trod enc P W 0 (fun _ => true) true fuel t [.slice a l c] = some (d, p) := h
  rcases open_ints ht he hc h' with ⟨h1, _⟩ | ⟨a', len, cap, zs, h1, _, hlc, hcap, hz, _, hcell, hwf⟩
  · simp at h1
    obtain ⟨rfl, rfl, rfl⟩ := h1
    exact ⟨[], ⟨by simp, none, 0, rfl, fun j hj => by simp at hj⟩, fun x hx => by cases hx⟩
  · simp at h1
    obtain ⟨rfl, rfl, rfl⟩ := h1
    simp only [if_true] at hz
    have hlen : (zs.take l).length = l := by simp; omega
    refine ⟨zs.take l, ⟨by have : maxLen = 9223372036854775807 := rfl; omega, some a', c, by rw [hlen], fun j hj => ?_⟩, fun x hx => ?_⟩
    · rw [hlen] at hj
      have h0 := hcell 0 (by omega)
      have hj' := hcell j (by omega)
      have hsp : a'.spot = none := by
        have e : a'.add 0 = a' := by simp [Addr.add]
        rw [e] at h0
        unfold World.cell? at h0
        cases hb : W.heap[a'.block]? with
        | none => simp [hb] at h0
        | some o => cases o <;> simp [hb] at h0; exact h0.1
      obtain ⟨bb, off, sp⟩ := a'
      simp only at hsp
      subst hsp
      rw [add_addr] at hj'
      refine ⟨bb, off, rfl, ?_, ?_⟩
      · unfold World.cell? at hj'
        cases hb : W.heap[bb]? with
        | none => simp [hb] at hj'
        | some o => exact heap_lt hb
      · rw [hj']
        simp [List.getD_eq_getElem?_getD, List.getElem?_take, hj]
    · have := hwf x (List.mem_of_mem_take hx)
      simpa [Lit.wf, IntKind.has, IntKind.min, IntKind.max, IntKind.signed, IntKind.bits, In64] using this
end
end Go.Sx
namespace Go.Sx
def dn (x : Int) : Nat → Int
  | 0 => 1073741824
  | 1 => x * 6746518852 / 65536
  | k + 2 => dn x (k + 1) * (x * 6746518852 / 65536) / 1073741824
def up (x : Int) : Nat → Int
  | 0 => 1073741824
  | 1 => ceilI (x * 6746518853) 65536
  | k + 2 => ceilI (up x (k + 1) * ceilI (x * 6746518853) 65536) 1073741824
def pwV (z : Int) (f : Nat → Int) : Value := .agg #[.int .i64 z, .int .i64 (f 1), .int .i64 (f 2), .int .i64 (f 3), .int .i64 (f 4), .int .i64 (f 5), .int .i64 (f 6), .int .i64 (f 7), .int .i64 (f 8), .int .i64 (f 9), .int .i64 (f 10)]
def powV (x : Int) : Value := .tuple #[pwV 1073741824 (dn x), pwV 1073741824 (up x)]
theorem step_dn {m t r : Int} (h : r = m * t / 1073741824) (hm : 0 ≤ m ∧ m ≤ 1073741824) (ht : 0 ≤ t ∧ t ≤ 1073741824) : 0 ≤ r ∧ r ≤ 1073741824 := by
  subst h
  have h1 : 0 ≤ m * t := Int.mul_nonneg hm.1 ht.1
  have h2 : m * t ≤ 1073741824 * 1073741824 := Int.mul_le_mul hm.2 ht.2 ht.1 (by decide)
  omega
theorem ceil_spec {a b : Int} (hb : 0 < b) : a ≤ ceilI a b * b ∧ ceilI a b * b < a + b := by
  unfold ceilI
  have h1 := Int.ediv_mul_le (-a) (Int.ne_of_gt hb)
  have h2 := Int.lt_ediv_add_one_mul_self (-a) hb
  rw [Int.add_mul] at h2
  rw [Int.neg_mul]
  omega
theorem step_up {m t r : Int} (h : r = ceilI (m * t) 1073741824) (hm : 0 ≤ m ∧ m ≤ 1073741824) (ht : 0 ≤ t ∧ t ≤ 1073741824) : 0 ≤ r ∧ r ≤ 1073741824 := by
  subst h
  have h1 : 0 ≤ m * t := Int.mul_nonneg hm.1 ht.1
  have h2 : m * t ≤ 1073741824 * 1073741824 := Int.mul_le_mul hm.2 ht.2 ht.1 (by decide)
  have h3 := ceil_spec (a := m * t) (b := 1073741824) (by decide)
  omega
theorem up1_bnd {x r : Int} (h : r = ceilI (x * 6746518853) 65536) (hx : 0 ≤ x ∧ x ≤ 8192) : 0 ≤ r ∧ r ≤ 1073741824 := by
  have h3 := ceil_spec (a := x * 6746518853) (b := 65536) (by decide)
  omega
theorem dn_bnd {x : Int} (hx : 0 ≤ x ∧ x ≤ 8192) : ∀ k, 0 ≤ dn x k ∧ dn x k ≤ 1073741824
  | 0 => by simp [dn]
  | 1 => by simp only [dn]; omega
  | k + 2 => step_dn rfl (dn_bnd hx (k + 1)) (by omega)
theorem up_bnd {x : Int} (hx : 0 ≤ x ∧ x ≤ 8192) : ∀ k, 0 ≤ up x k ∧ up x k ≤ 1073741824
  | 0 => by simp [up]
  | 1 => up1_bnd rfl hx
  | k + 2 => step_up rfl (up_bnd hx (k + 1)) (up1_bnd rfl hx)
def encI (low high : Int) : Iv := ⟨max 0 (low / 16384), min 65536 (ceilI high 16384)⟩
def sinL (x : Int) : Int := dn x 1 - ceilI (up x 3) 6 + dn x 5 / 120 - ceilI (up x 7) 5040
def sinU (x : Int) : Int := up x 1 - dn x 3 / 6 + ceilI (up x 5) 120 - dn x 7 / 5040 + ceilI (up x 9) 362880
def cosL (x : Int) : Int := 1073741824 - ceilI (up x 2) 2 + dn x 4 / 24 - ceilI (up x 6) 720 + dn x 8 / 40320 - ceilI (up x 10) 3628800
def cosU (x : Int) : Int := 1073741824 - dn x 2 / 2 + ceilI (up x 4) 24 - dn x 6 / 720 + ceilI (up x 8) 40320
def sineI (x : Int) : Iv := encI (sinL x) (sinU x)
def cosineI (x : Int) : Iv := encI (cosL x) (cosU x)
def firstI (r : Int) : Iv := bif decide (r ≤ 8192) then sineI r else cosineI (16384 - r)
def sinM (m : Int) : Iv := bif decide (m / 16384 = 0) then firstI (m % 16384) else bif decide (m / 16384 = 1) then firstI (16384 - m % 16384)
  else bif decide (m / 16384 = 2) then Iv.neg (firstI (m % 16384)) else Iv.neg (firstI (16384 - m % 16384))
def sinI (a : Int) : Iv := sinM (a % 65536)
def cosI (a : Int) : Iv := sinI (a % 65536 + 16384)
def meetsI (a : Iv) (c : Int) : Bool := decide (a.lo + (c - a.lo) % 65536 ≤ a.hi)
def overI (a : Iv) (low high : Iv) (top bottom : Int) : Iv :=
  bif !a.valid then ⟨0, 0⟩ else bif decide (65536 ≤ a.hi - a.lo) then ⟨-65536, 65536⟩ else
    let x := Iv.hull low high
    let y := bif meetsI a top then Iv.hull x (Iv.of 65536) else x
    bif meetsI a bottom then Iv.hull y (Iv.of (-65536)) else y
def sinOverI (a : Iv) : Iv := overI a (sinI a.lo) (sinI a.hi) 16384 49152
def cosOverI (a : Iv) : Iv := overI a (cosI a.lo) (cosI a.hi) 0 32768
theorem ceiling_eq {a b : Int} (ha : 0 ≤ a) (hb : 0 < b) : (a + b - 1) / b = ceilI a b := by
  refine (ceil_iff hb ?_ ?_).symm
  · have := Int.lt_ediv_add_one_mul_self (a + b - 1) hb
    rw [Int.add_mul] at this
    omega
  · have := Int.ediv_mul_le (a + b - 1) (Int.ne_of_gt hb)
    omega
theorem ceil_nonneg {a b : Int} (ha : 0 ≤ a) (hb : 0 < b) : 0 ≤ ceilI a b ∧ ceilI a b ≤ a := by
  have h := ceil_spec (a := a) hb
  constructor
  · rcases Int.lt_or_le (ceilI a b) 0 with h1 | h1
    · have : ceilI a b * b ≤ -1 * b := Int.mul_le_mul_of_nonneg_right (by omega) (Int.le_of_lt hb)
      omega
    · exact h1
  · rcases Int.lt_or_le a (ceilI a b) with h1 | h1
    · have : (a + 1) * b ≤ ceilI a b * b := Int.mul_le_mul_of_nonneg_right (by omega) (Int.le_of_lt hb)
      rw [Int.add_mul] at this
      have h3 : a * 1 ≤ a * b := Int.mul_le_mul_of_nonneg_left (by omega) ha
      omega
    · exact h1
theorem ceil_nonneg_of {r a b : Int} (h : r = ceilI a b) (ha : 0 ≤ a ∧ a ≤ 1073741824) (hb : 0 < b) : 0 ≤ r ∧ r ≤ 1073741824 := by
  have := ceil_nonneg ha.1 hb
  omega
theorem ceil_quo {a b : Int} (ha : 0 ≤ a ∧ a ≤ 1073741824) (hb : 0 < b ∧ b ≤ 1073741824) : IntKind.i64.wrap ((a + b - 1).tdiv b) = ceilI a b := by
  rw [tdiv_nonneg (by omega) (by omega), ceiling_eq ha.1 hb.1]
  exact i64_in (by have := ceil_nonneg ha.1 hb.1; omega)
theorem in64_mul {a b : Int} (ha : 0 ≤ a ∧ a ≤ 1073741824) (hb : 0 ≤ b ∧ b ≤ 1073741824) : In64 (a * b) := by
  have := mul_bnd (a := a) (b := b) (by omega) (by omega)
  unfold In64; omega
theorem round_neg {n k : Int} (hk : 0 < k) (h : n.tmod k < 0) : n.tmod k + k = n % k := by
  have e := Int.tdiv_mul_add_tmod n k
  have f := floor_neg hk h
  have g := Int.mul_ediv_add_emod n k
  rw [← f, Int.mul_comm, Int.sub_mul] at g
  omega
theorem round_pos {n k : Int} (hk : 0 < k) (h : ¬ n.tmod k < 0) : n.tmod k = n % k := by
  have e := Int.tdiv_mul_add_tmod n k
  have f := floor_pos hk h
  have g := Int.mul_ediv_add_emod n k
  rw [← f, Int.mul_comm] at g
  omega
end Go.Sx

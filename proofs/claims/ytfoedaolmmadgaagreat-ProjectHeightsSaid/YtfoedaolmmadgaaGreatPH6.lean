/- Part 6 of the texts behind the last one: rules and contracts. No condition. -/
import Derived.Test.YtfoedaolmmadgaaGreatPH5
namespace Go.Sx
def nn : Nat := 340282366920938463463374607431768211456
def uu : Nat := 5192296858534827628530496329220096
def uc : Nat := 340282365357037221779282487371359009126
def us : Nat := 32624163282081701561065576601652201
def w : Nat → Nat × Nat
  | 0 => (nn, 0)
  | n + 1 => (((w n).1 * uc - (w n).2 * us) / nn, ((w n).1 * us + (w n).2 * uc) / nn)
def bx (S C a b c d : Nat) : Bool := Nat.ble (a * 5192296858534827628530496329220096) S && (Nat.ble S (b * 5192296858534827628530496329220096) && (Nat.ble (c * 5192296858534827628530496329220096) C && Nat.ble C (d * 5192296858534827628530496329220096)))
def goU (C' T' : Nat) : Nat → Nat → Nat → Nat → Bool
  | 0, C, T, _ => Nat.beq C C' && Nat.beq T T'
  | k + 1, C, T, x => (valsK x fun a b c d => bx T C a b c d) && (Nat.ble (T * 32624163282081701561065576601652201) (C * 340282365357037221779282487371359009126) && frc ((C * 340282365357037221779282487371359009126 - T * 32624163282081701561065576601652201) / 340282366920938463463374607431768211456) fun C2 => frc ((C * 32624163282081701561065576601652201 + T * 340282365357037221779282487371359009126) / 340282366920938463463374607431768211456) fun T2 => frc (x + 1) fun x2 => goU C' T' k C2 T2 x2)
def goD (C' T' : Nat) : Nat → Nat → Nat → Nat → Bool
  | 0, C, T, _ => Nat.beq C C' && Nat.beq T T'
  | k + 1, C, T, x => (valsK x fun a b c d => bx C T a b c d) && (Nat.ble (T * 32624163282081701561065576601652201) (C * 340282365357037221779282487371359009126) && frc ((C * 340282365357037221779282487371359009126 - T * 32624163282081701561065576601652201) / 340282366920938463463374607431768211456) fun C2 => frc ((C * 32624163282081701561065576601652201 + T * 340282365357037221779282487371359009126) / 340282366920938463463374607431768211456) fun T2 => frc (x - 1) fun x2 => goD C' T' k C2 T2 x2)
structure BoxU (r : Nat) : Prop where
  sl : sLo r * uu ≤ (w r).2
  sh : (w r).2 ≤ sHi r * uu
  cl : cLo r * uu ≤ (w r).1
  ch : (w r).1 ≤ cHi r * uu
  st : (w r).2 * us ≤ (w r).1 * uc
structure BoxD (r : Nat) : Prop where
  sl : sLo (16384 - r) * uu ≤ (w r).1
  sh : (w r).1 ≤ sHi (16384 - r) * uu
  cl : cLo (16384 - r) * uu ≤ (w r).2
  ch : (w r).2 ≤ cHi (16384 - r) * uu
  st : (w r).2 * us ≤ (w r).1 * uc
theorem goU_spec {C' T' : Nat} : ∀ k C T x, goU C' T' k C T x = true → w x = (C, T) → w (x + k) = (C', T') ∧ ∀ i, x ≤ i → i < x + k → BoxU i
  | 0, C, T, x, h, e => by
    simp only [goU, Bool.and_eq_true] at h
    refine ⟨?_, fun i a b => absurd b (by omega)⟩
    rw [Nat.add_zero, e, Nat.eq_of_beq_eq_true h.1, Nat.eq_of_beq_eq_true h.2]
  | k + 1, C, T, x, h, e => by
    simp only [goU, frc_eq, valsK_eq, bx, Bool.and_eq_true] at h
    obtain ⟨⟨h1, h2, h3, h4⟩, h5, h6⟩ := h
    obtain ⟨q1, q2⟩ := goU_spec k _ _ (x + 1) h6 (by rw [w, e]; rfl)
    refine ⟨by rw [← q1]; congr 1; omega, fun i a b => ?_⟩
    by_cases hi : i = x
    · subst hi
      exact ⟨by rw [e]; exact Nat.le_of_ble_eq_true h1, by rw [e]; exact Nat.le_of_ble_eq_true h2, by rw [e]; exact Nat.le_of_ble_eq_true h3, by rw [e]; exact Nat.le_of_ble_eq_true h4, by rw [e]; exact Nat.le_of_ble_eq_true h5⟩
    · exact q2 i (by omega) (by omega)
theorem goD_spec {C' T' : Nat} : ∀ k C T r, r ≤ 16384 → k ≤ 16384 - r → goD C' T' k C T (16384 - r) = true → w r = (C, T) → w (r + k) = (C', T') ∧ ∀ i, r ≤ i → i < r + k → BoxD i
  | 0, C, T, x, _, _, h, e => by
    simp only [goD, Bool.and_eq_true] at h
    refine ⟨?_, fun i a b => absurd b (by omega)⟩
    rw [Nat.add_zero, e, Nat.eq_of_beq_eq_true h.1, Nat.eq_of_beq_eq_true h.2]
  | k + 1, C, T, x, g1, g2, h, e => by
    simp only [goD, frc_eq, valsK_eq, bx, Bool.and_eq_true] at h
    obtain ⟨⟨h1, h2, h3, h4⟩, h5, h6⟩ := h
    rw [show 16384 - x - 1 = 16384 - (x + 1) by omega] at h6
    obtain ⟨q1, q2⟩ := goD_spec k _ _ (x + 1) (by omega) (by omega) h6 (by rw [w, e]; rfl)
    refine ⟨by rw [← q1]; congr 1; omega, fun i a b => ?_⟩
    by_cases hi : i = x
    · subst hi
      exact ⟨by rw [e]; exact Nat.le_of_ble_eq_true h1, by rw [e]; exact Nat.le_of_ble_eq_true h2, by rw [e]; exact Nat.le_of_ble_eq_true h3, by rw [e]; exact Nat.le_of_ble_eq_true h4, by rw [e]; exact Nat.le_of_ble_eq_true h5⟩
    · exact q2 i (by omega) (by omega)
theorem wk0 : goU 338643814315582355912937410983956791763 33353504510164655995148692933346502990 1024 340282366920938463463374607431768211456 0 0 = true := by decide +kernel
theorem wk1 : goU 333743936656827580393945988194117882553 66385796539016198537004233666266150132 1024 338643814315582355912937410983956791763 33353504510164655995148692933346502990 1024 = true := by decide +kernel
theorem wk2 : goU 325629922445073537381874007154866693371 98778757057029163154891549979681820108 1024 333743936656827580393945988194117882553 66385796539016198537004233666266150132 2048 = true := by decide +kernel
theorem wk3 : goU 314379914072750776175968446003616356708 130220424146621615521356287373662035415 1024 325629922445073537381874007154866693371 98778757057029163154891549979681820108 3072 = true := by decide +kernel
theorem wk4 : goU 300102255270364911803307903246760032214 160407997365957196655387116525924829546 1024 314379914072750776175968446003616356708 130220424146621615521356287373662035415 4096 = true := by decide +kernel
theorem wk5 : goU 282934447697145148265594844368147524013 189050753882727566157415671255032869469 1024 300102255270364911803307903246760032214 160407997365957196655387116525924829546 5120 = true := by decide +kernel
theorem wk6 : goU 263041826724899848421390153308517431640 215872848293952797667059038248426017122 1024 282934447697145148265594844368147524013 189050753882727566157415671255032869469 6144 = true := by decide +kernel
theorem wk7 : goU 240615969168004511545033772483698474358 240615969168004511545033772471550468243 1024 263041826724899848421390153308517431640 215872848293952797667059038248426017122 7168 = true := by decide +kernel
theorem wk8 : goD 215872848293952797667059038261706108609 263041826724899848421390153297618474197 1024 240615969168004511545033772483698474358 240615969168004511545033772471550468243 8192 = true := by decide +kernel
theorem wk9 : goD 189050753882727566157415671269317183057 282934447697145148265594844358602552466 1024 215872848293952797667059038261706108609 263041826724899848421390153297618474197 7168 = true := by decide +kernel
theorem wk10 : goD 160407997365957196655387116541075833093 300102255270364911803307903238660947340 1024 189050753882727566157415671269317183057 282934447697145148265594844358602552466 6144 = true := by decide +kernel
theorem wk11 : goD 130220424146621615521356287389533852184 314379914072750776175968445997041138024 1024 160407997365957196655387116541075833093 300102255270364911803307903238660947340 5120 = true := by decide +kernel
theorem wk12 : goD 98778757057029163154891549996121633199 325629922445073537381874007149878648288 1024 130220424146621615521356287389533852184 314379914072750776175968445997041138024 4096 = true := by decide +kernel
theorem wk13 : goD 66385796539016198537004233683115673837 333743936656827580393945988190765036869 1024 98778757057029163154891549996121633199 325629922445073537381874007149878648288 3072 = true := by decide +kernel
theorem wk14 : goD 33353504510164655995148692950443506845 338643814315582355912937410982271427247 1024 66385796539016198537004233683115673837 333743936656827580393945988190765036869 2048 = true := by decide +kernel
theorem wk15 : goD 17179870747 340282366920938463463374607431766555032 1024 33353504510164655995148692950443506845 338643814315582355912937410982271427247 1024 = true := by decide +kernel
theorem ws0 : w 0 = (340282366920938463463374607431768211456, 0) := rfl
theorem ws1 : w 1024 = (338643814315582355912937410983956791763, 33353504510164655995148692933346502990) := (goU_spec 1024 _ _ 0 wk0 ws0).1
theorem ws2 : w 2048 = (333743936656827580393945988194117882553, 66385796539016198537004233666266150132) := (goU_spec 1024 _ _ 1024 wk1 ws1).1
theorem ws3 : w 3072 = (325629922445073537381874007154866693371, 98778757057029163154891549979681820108) := (goU_spec 1024 _ _ 2048 wk2 ws2).1
theorem ws4 : w 4096 = (314379914072750776175968446003616356708, 130220424146621615521356287373662035415) := (goU_spec 1024 _ _ 3072 wk3 ws3).1
theorem ws5 : w 5120 = (300102255270364911803307903246760032214, 160407997365957196655387116525924829546) := (goU_spec 1024 _ _ 4096 wk4 ws4).1
theorem ws6 : w 6144 = (282934447697145148265594844368147524013, 189050753882727566157415671255032869469) := (goU_spec 1024 _ _ 5120 wk5 ws5).1
theorem ws7 : w 7168 = (263041826724899848421390153308517431640, 215872848293952797667059038248426017122) := (goU_spec 1024 _ _ 6144 wk6 ws6).1
theorem ws8 : w 8192 = (240615969168004511545033772483698474358, 240615969168004511545033772471550468243) := (goU_spec 1024 _ _ 7168 wk7 ws7).1
theorem ws9 : w 9216 = (215872848293952797667059038261706108609, 263041826724899848421390153297618474197) := (goD_spec 1024 _ _ 8192 (by decide) (by decide) wk8 ws8).1
theorem ws10 : w 10240 = (189050753882727566157415671269317183057, 282934447697145148265594844358602552466) := (goD_spec 1024 _ _ 9216 (by decide) (by decide) wk9 ws9).1
theorem ws11 : w 11264 = (160407997365957196655387116541075833093, 300102255270364911803307903238660947340) := (goD_spec 1024 _ _ 10240 (by decide) (by decide) wk10 ws10).1
theorem ws12 : w 12288 = (130220424146621615521356287389533852184, 314379914072750776175968445997041138024) := (goD_spec 1024 _ _ 11264 (by decide) (by decide) wk11 ws11).1
theorem ws13 : w 13312 = (98778757057029163154891549996121633199, 325629922445073537381874007149878648288) := (goD_spec 1024 _ _ 12288 (by decide) (by decide) wk12 ws12).1
theorem ws14 : w 14336 = (66385796539016198537004233683115673837, 333743936656827580393945988190765036869) := (goD_spec 1024 _ _ 13312 (by decide) (by decide) wk13 ws13).1
theorem ws15 : w 15360 = (33353504510164655995148692950443506845, 338643814315582355912937410982271427247) := (goD_spec 1024 _ _ 14336 (by decide) (by decide) wk14 ws14).1
theorem boxU {r : Nat} (h : r < 8192) : BoxU r := by
  have hq : (0 ≤ r ∧ r < 1024) ∨ (1024 ≤ r ∧ r < 2048) ∨ (2048 ≤ r ∧ r < 3072) ∨ (3072 ≤ r ∧ r < 4096) ∨ (4096 ≤ r ∧ r < 5120) ∨ (5120 ≤ r ∧ r < 6144) ∨ (6144 ≤ r ∧ r < 7168) ∨ (7168 ≤ r ∧ r < 8192) := by omega
  rcases hq with h | h | h | h | h | h | h | h
  · exact (goU_spec 1024 _ _ 0 wk0 ws0).2 r h.1 h.2
  · exact (goU_spec 1024 _ _ 1024 wk1 ws1).2 r h.1 h.2
  · exact (goU_spec 1024 _ _ 2048 wk2 ws2).2 r h.1 h.2
  · exact (goU_spec 1024 _ _ 3072 wk3 ws3).2 r h.1 h.2
  · exact (goU_spec 1024 _ _ 4096 wk4 ws4).2 r h.1 h.2
  · exact (goU_spec 1024 _ _ 5120 wk5 ws5).2 r h.1 h.2
  · exact (goU_spec 1024 _ _ 6144 wk6 ws6).2 r h.1 h.2
  · exact (goU_spec 1024 _ _ 7168 wk7 ws7).2 r h.1 h.2
theorem boxD {r : Nat} (g : 8192 ≤ r) (h : r < 16384) : BoxD r := by
  have hq : (8192 ≤ r ∧ r < 9216) ∨ (9216 ≤ r ∧ r < 10240) ∨ (10240 ≤ r ∧ r < 11264) ∨ (11264 ≤ r ∧ r < 12288) ∨ (12288 ≤ r ∧ r < 13312) ∨ (13312 ≤ r ∧ r < 14336) ∨ (14336 ≤ r ∧ r < 15360) ∨ (15360 ≤ r ∧ r < 16384) := by omega
  rcases hq with h | h | h | h | h | h | h | h
  · exact (goD_spec 1024 _ _ 8192 (by decide) (by decide) wk8 ws8).2 r h.1 h.2
  · exact (goD_spec 1024 _ _ 9216 (by decide) (by decide) wk9 ws9).2 r h.1 h.2
  · exact (goD_spec 1024 _ _ 10240 (by decide) (by decide) wk10 ws10).2 r h.1 h.2
  · exact (goD_spec 1024 _ _ 11264 (by decide) (by decide) wk11 ws11).2 r h.1 h.2
  · exact (goD_spec 1024 _ _ 12288 (by decide) (by decide) wk12 ws12).2 r h.1 h.2
  · exact (goD_spec 1024 _ _ 13312 (by decide) (by decide) wk13 ws13).2 r h.1 h.2
  · exact (goD_spec 1024 _ _ 14336 (by decide) (by decide) wk14 ws14).2 r h.1 h.2
  · exact (goD_spec 1024 _ _ 15360 (by decide) (by decide) wk15 ws15).2 r h.1 h.2
theorem mid0 : (valsK 8192 fun a b c d => bx 240615969168004511545033772471550468243 240615969168004511545033772483698474358 a b c d) = true := by decide +kernel
theorem mid : sLo 8192 * uu ≤ (w 8192).2 ∧ (w 8192).2 ≤ sHi 8192 * uu := by
  have := mid0
  simp only [valsK_eq, bx, Bool.and_eq_true] at this
  rw [ws8]
  exact ⟨Nat.le_of_ble_eq_true this.1, Nat.le_of_ble_eq_true this.2.1⟩
theorem box {r : Nat} (h : r < 16384) : fLo r * uu ≤ (w r).2 ∧ (w r).2 ≤ fHi r * uu ∧ fLo (16384 - r) * uu ≤ (w r).1 ∧ (w r).1 ≤ fHi (16384 - r) * uu := by
  rcases Nat.lt_or_ge r 8192 with h1 | h1
  · have b := boxU h1
    rw [(fLo_lo (r := r) (by omega)).1, (fLo_lo (r := r) (by omega)).2, (fLo_hi (r := 16384 - r) (by omega)).1, (fLo_hi (r := 16384 - r) (by omega)).2, show 16384 - (16384 - r) = r by omega]
    exact ⟨b.sl, b.sh, b.cl, b.ch⟩
  · have b := boxD h1 h
    rw [(fLo_lo (r := 16384 - r) (by omega)).1, (fLo_lo (r := 16384 - r) (by omega)).2]
    rcases Nat.lt_or_ge 8192 r with h2 | h2
    · rw [(fLo_hi (r := r) (by omega)).1, (fLo_hi (r := r) (by omega)).2]
      exact ⟨b.cl, b.ch, b.sl, b.sh⟩
    · have e : r = 8192 := by omega
      subst e
      rw [(fLo_lo (r := 8192) (by omega)).1, (fLo_lo (r := 8192) (by omega)).2]
      have k := mid
      exact ⟨k.1, k.2, b.sl, b.sh⟩
end Go.Sx
namespace Go.Sx
def WC (r : Nat) : Int := ((w r).1 : Int)
def WT (r : Nat) : Int := ((w r).2 : Int)
theorem w0 : WC 0 = (340282366920938463463374607431768211456 : Int) ∧ WT 0 = 0 := ⟨rfl, rfl⟩
theorem abs_mul {x y A B : Int} (hx : -A ≤ x ∧ x ≤ A) (hy : -B ≤ y ∧ y ≤ B) : -(A * B) ≤ x * y ∧ x * y ≤ A * B := by
  have h1 : x.natAbs * y.natAbs ≤ A.toNat * B.toNat := Nat.mul_le_mul (by omega) (by omega)
  have h2 : (x * y).natAbs = x.natAbs * y.natAbs := Int.natAbs_mul x y
  rw [← h2] at h1
  have h3 : ((A.toNat * B.toNat : Nat) : Int) = A * B := by rw [Int.natCast_mul, Int.toNat_of_nonneg (by omega), Int.toNat_of_nonneg (by omega)]
  omega
end Go.Sx
namespace Go.Sx
structure In (I : Iv) (m x : Int) : Prop where
  lo : I.lo * m ≤ x
  hi : x ≤ I.hi * m
def Ok (a : Iv) : Prop := -2147483648 ≤ a.lo ∧ a.lo ≤ a.hi ∧ a.hi ≤ 2147483648
theorem bil {lo hi x : Int} (y : Int) (h1 : lo ≤ x) (h2 : x ≤ hi) : (lo * y ≤ x * y ∨ hi * y ≤ x * y) ∧ (x * y ≤ lo * y ∨ x * y ≤ hi * y) := by
  rcases Int.le_total 0 y with h | h
  · exact ⟨.inl (Int.mul_le_mul_of_nonneg_right h1 h), .inr (Int.mul_le_mul_of_nonneg_right h2 h)⟩
  · exact ⟨.inr (Int.mul_le_mul_of_nonpos_right h2 h), .inl (Int.mul_le_mul_of_nonpos_right h1 h)⟩
theorem clamp_lo {z M v : Int} (hM : 0 ≤ M) (h : z * M ≤ v) (hb : -2147483648 * M ≤ v) : clampI z * M ≤ v := by
  unfold clampI
  rcases Int.le_total z (-2147483648) with h1 | h1
  · rw [show min (max z (-2147483648)) 2147483648 = -2147483648 by omega]; exact hb
  · refine Int.le_trans (Int.mul_le_mul_of_nonneg_right ?_ hM) h
    omega
theorem clamp_hi {z M v : Int} (hM : 0 ≤ M) (h : v ≤ z * M) (hb : v ≤ 2147483648 * M) : v ≤ clampI z * M := by
  unfold clampI
  rcases Int.le_total 2147483648 z with h1 | h1
  · rw [show min (max z (-2147483648)) 2147483648 = 2147483648 by omega]; exact hb
  · refine Int.le_trans h (Int.mul_le_mul_of_nonneg_right ?_ hM)
    omega
theorem mul_prod {a b : Iv} {m k x y : Int} (hm : 0 ≤ m) (hk : 0 ≤ k) (hx : In a m x) (hy : In b k y) :
    min4 (a.lo * b.lo) (a.lo * b.hi) (a.hi * b.lo) (a.hi * b.hi) * (m * k) ≤ x * y ∧ x * y ≤ max4 (a.lo * b.lo) (a.lo * b.hi) (a.hi * b.lo) (a.hi * b.hi) * (m * k) := by
  have hmk : 0 ≤ m * k := Int.mul_nonneg hm hk
  have b1 := bil y hx.lo hx.hi
  have b2 := bil (a.lo * m) hy.lo hy.hi
  have b3 := bil (a.hi * m) hy.lo hy.hi
  rw [show b.lo * k * (a.lo * m) = a.lo * b.lo * (m * k) by grind, show b.hi * k * (a.lo * m) = a.lo * b.hi * (m * k) by grind, Int.mul_comm y] at b2
  rw [show b.lo * k * (a.hi * m) = a.hi * b.lo * (m * k) by grind, show b.hi * k * (a.hi * m) = a.hi * b.hi * (m * k) by grind, Int.mul_comm y] at b3
  have l1 : min4 (a.lo * b.lo) (a.lo * b.hi) (a.hi * b.lo) (a.hi * b.hi) * (m * k) ≤ a.lo * b.lo * (m * k) := Int.mul_le_mul_of_nonneg_right (by unfold min4; omega) hmk
  have l2 : min4 (a.lo * b.lo) (a.lo * b.hi) (a.hi * b.lo) (a.hi * b.hi) * (m * k) ≤ a.lo * b.hi * (m * k) := Int.mul_le_mul_of_nonneg_right (by unfold min4; omega) hmk
  have l3 : min4 (a.lo * b.lo) (a.lo * b.hi) (a.hi * b.lo) (a.hi * b.hi) * (m * k) ≤ a.hi * b.lo * (m * k) := Int.mul_le_mul_of_nonneg_right (by unfold min4; omega) hmk
  have l4 : min4 (a.lo * b.lo) (a.lo * b.hi) (a.hi * b.lo) (a.hi * b.hi) * (m * k) ≤ a.hi * b.hi * (m * k) := Int.mul_le_mul_of_nonneg_right (by unfold min4; omega) hmk
  have u1 : a.lo * b.lo * (m * k) ≤ max4 (a.lo * b.lo) (a.lo * b.hi) (a.hi * b.lo) (a.hi * b.hi) * (m * k) := Int.mul_le_mul_of_nonneg_right (by unfold max4; omega) hmk
  have u2 : a.lo * b.hi * (m * k) ≤ max4 (a.lo * b.lo) (a.lo * b.hi) (a.hi * b.lo) (a.hi * b.hi) * (m * k) := Int.mul_le_mul_of_nonneg_right (by unfold max4; omega) hmk
  have u3 : a.hi * b.lo * (m * k) ≤ max4 (a.lo * b.lo) (a.lo * b.hi) (a.hi * b.lo) (a.hi * b.hi) * (m * k) := Int.mul_le_mul_of_nonneg_right (by unfold max4; omega) hmk
  have u4 : a.hi * b.hi * (m * k) ≤ max4 (a.lo * b.lo) (a.lo * b.hi) (a.hi * b.lo) (a.hi * b.hi) * (m * k) := Int.mul_le_mul_of_nonneg_right (by unfold max4; omega) hmk
  omega
theorem mul_In {a b : Iv} {m k x y : Int} (va : Ok a) (vb : Ok b) (hm : 0 ≤ m) (hk : 0 ≤ k) (hx : In a m x) (hy : In b k y) (h1 : -2147483648 * (65536 * (m * k)) ≤ x * y) (h2 : x * y ≤ 2147483648 * (65536 * (m * k))) : In (Iv.mul a b) (65536 * (m * k)) (x * y) := by
  obtain ⟨p1, p2⟩ := mul_prod hm hk hx hy
  have hmk : 0 ≤ m * k := Int.mul_nonneg hm hk
  simp only [Iv.mul, valid_of va, valid_of vb, Bool.and_self, cond_true]
  generalize min4 (a.lo * b.lo) (a.lo * b.hi) (a.hi * b.lo) (a.hi * b.hi) = L at *
  generalize max4 (a.lo * b.lo) (a.lo * b.hi) (a.hi * b.lo) (a.hi * b.hi) = M at *
  have hc := ceil_spec (a := M) (b := 65536) (by decide)
  refine ⟨clamp_lo (by omega) ?_ h1, clamp_hi (by omega) ?_ h2⟩
  · rw [← Int.mul_assoc]
    exact Int.le_trans (Int.mul_le_mul_of_nonneg_right (by omega) hmk) p1
  · rw [← Int.mul_assoc]
    exact Int.le_trans p2 (Int.mul_le_mul_of_nonneg_right (by omega) hmk)
theorem clamp_bnd (z : Int) : -2147483648 ≤ clampI z ∧ clampI z ≤ 2147483648 := by unfold clampI; omega
theorem clamp_mono {x y : Int} (h : x ≤ y) : clampI x ≤ clampI y := by unfold clampI; omega
theorem mul_Ok (a b : Iv) : Ok (Iv.mul a b) := by
  unfold Iv.mul
  cases a.valid && b.valid
  · exact (show Ok ⟨0, 0⟩ by unfold Ok; decide)
  · refine ⟨(clamp_bnd _).1, clamp_mono ?_, (clamp_bnd _).2⟩
    have hc := ceil_spec (a := max4 (a.lo * b.lo) (a.lo * b.hi) (a.hi * b.lo) (a.hi * b.hi)) (b := 65536) (by decide)
    have : min4 (a.lo * b.lo) (a.lo * b.hi) (a.hi * b.lo) (a.hi * b.hi) ≤ max4 (a.lo * b.lo) (a.lo * b.hi) (a.hi * b.lo) (a.hi * b.hi) := by unfold min4 max4; omega
    omega
theorem add_Ok (a b : Iv) : Ok (Iv.add a b) := by
  unfold Iv.add
  cases h : a.valid && b.valid
  · exact (show Ok ⟨0, 0⟩ by unfold Ok; decide)
  · refine ⟨(clamp_bnd _).1, clamp_mono ?_, (clamp_bnd _).2⟩
    simp [Iv.valid] at h; omega
theorem add_In {a b : Iv} {m x y : Int} (va : Ok a) (vb : Ok b) (hm : 0 ≤ m) (hx : In a m x) (hy : In b m y) (h1 : -2147483648 * m ≤ x + y) (h2 : x + y ≤ 2147483648 * m) : In (Iv.add a b) m (x + y) := by
  have q1 := hx.lo; have q2 := hx.hi; have q3 := hy.lo; have q4 := hy.hi
  simp only [Iv.add, valid_of va, valid_of vb, Bool.and_self, cond_true]
  refine ⟨clamp_lo hm ?_ h1, clamp_hi hm ?_ h2⟩
  · rw [Int.add_mul]; omega
  · rw [Int.add_mul]; omega
end Go.Sx
namespace Go.Sx
structure V3 where
  x : Iv
  y : Iv
  z : Iv
structure M3 where
  x : V3
  y : V3
  z : V3
structure Po where
  r : M3
  t : V3
structure Z3 where
  x : Int
  y : Int
  z : Int
def v3 (v : V3) : Value := .agg #[.int .i64 v.x.lo, .int .i64 v.x.hi, .int .i64 v.y.lo, .int .i64 v.y.hi, .int .i64 v.z.lo, .int .i64 v.z.hi]
def m3 (v : M3) : Value := .agg #[.int .i64 v.x.x.lo, .int .i64 v.x.x.hi, .int .i64 v.x.y.lo, .int .i64 v.x.y.hi, .int .i64 v.x.z.lo, .int .i64 v.x.z.hi,
  .int .i64 v.y.x.lo, .int .i64 v.y.x.hi, .int .i64 v.y.y.lo, .int .i64 v.y.y.hi, .int .i64 v.y.z.lo, .int .i64 v.y.z.hi,
  .int .i64 v.z.x.lo, .int .i64 v.z.x.hi, .int .i64 v.z.y.lo, .int .i64 v.z.y.hi, .int .i64 v.z.z.lo, .int .i64 v.z.z.hi]
def po (p : Po) : Value := .agg #[.int .i64 p.r.x.x.lo, .int .i64 p.r.x.x.hi, .int .i64 p.r.x.y.lo, .int .i64 p.r.x.y.hi, .int .i64 p.r.x.z.lo, .int .i64 p.r.x.z.hi,
  .int .i64 p.r.y.x.lo, .int .i64 p.r.y.x.hi, .int .i64 p.r.y.y.lo, .int .i64 p.r.y.y.hi, .int .i64 p.r.y.z.lo, .int .i64 p.r.y.z.hi,
  .int .i64 p.r.z.x.lo, .int .i64 p.r.z.x.hi, .int .i64 p.r.z.y.lo, .int .i64 p.r.z.y.hi, .int .i64 p.r.z.z.lo, .int .i64 p.r.z.z.hi,
  .int .i64 p.t.x.lo, .int .i64 p.t.x.hi, .int .i64 p.t.y.lo, .int .i64 p.t.y.hi, .int .i64 p.t.z.lo, .int .i64 p.t.z.hi]
def V3.of (p : Z3) : V3 := ⟨Iv.of p.x, Iv.of p.y, Iv.of p.z⟩
def V3.add (a b : V3) : V3 := ⟨Iv.add a.x b.x, Iv.add a.y b.y, Iv.add a.z b.z⟩
def V3.sub (a b : V3) : V3 := ⟨Iv.sub a.x b.x, Iv.sub a.y b.y, Iv.sub a.z b.z⟩
def V3.neg (a : V3) : V3 := ⟨Iv.neg a.x, Iv.neg a.y, Iv.neg a.z⟩
def V3.within (a b : V3) : Bool := Iv.within a.x b.x && Iv.within a.y b.y && Iv.within a.z b.z
def V3.dot (a b : V3) : Iv := Iv.add (Iv.add (Iv.mul a.x b.x) (Iv.mul a.y b.y)) (Iv.mul a.z b.z)
def M3.apply (m : M3) (v : V3) : V3 := ⟨V3.dot m.x v, V3.dot m.y v, V3.dot m.z v⟩
def limI (x : Int) : Int := min (max x (-65536)) 65536
def limV (a : Iv) : Iv := ⟨limI a.lo, limI a.hi⟩
def M3.tr (m : M3) : M3 := ⟨⟨m.x.x, m.y.x, m.z.x⟩, ⟨m.x.y, m.y.y, m.z.y⟩, ⟨m.x.z, m.y.z, m.z.z⟩⟩
def M3.row (a : V3) (b : M3) : V3 := ⟨limV (V3.dot a b.tr.x), limV (V3.dot a b.tr.y), limV (V3.dot a b.tr.z)⟩
def M3.mul (a b : M3) : M3 := ⟨M3.row a.x b, M3.row a.y b, M3.row a.z b⟩
def M3.within (a b : M3) : Bool := V3.within a.x b.x && V3.within a.y b.y && V3.within a.z b.z
def iv0 : Iv := ⟨0, 0⟩
def iv1 : Iv := ⟨65536, 65536⟩
def M3.unit : M3 := ⟨⟨iv1, iv0, iv0⟩, ⟨iv0, iv1, iv0⟩, ⟨iv0, iv0, iv1⟩⟩
def M3.zero : M3 := ⟨⟨iv0, iv0, iv0⟩, ⟨iv0, iv0, iv0⟩, ⟨iv0, iv0, iv0⟩⟩
def M3.turn (axis : Int) (a : Iv) : M3 := bif !a.valid then M3.zero else
  bif decide (axis = 0) then ⟨⟨iv1, iv0, iv0⟩, ⟨iv0, cosOverI a, Iv.neg (sinOverI a)⟩, ⟨iv0, sinOverI a, cosOverI a⟩⟩ else
  bif decide (axis = 1) then ⟨⟨cosOverI a, iv0, sinOverI a⟩, ⟨iv0, iv1, iv0⟩, ⟨Iv.neg (sinOverI a), iv0, cosOverI a⟩⟩ else
  bif decide (axis = 2) then ⟨⟨cosOverI a, Iv.neg (sinOverI a), iv0⟩, ⟨sinOverI a, cosOverI a, iv0⟩, ⟨iv0, iv0, iv1⟩⟩ else M3.zero
theorem of_one : Iv.of 65536 = iv1 := by kernel_rfl
theorem of_zero : Iv.of 0 = iv0 := by kernel_rfl
theorem add_zero_mul (a b : Iv) : Iv.add ⟨0, 0⟩ (Iv.mul a b) = Iv.mul a b := by
  have h := mul_Ok a b
  have hz : Iv.valid ⟨0, 0⟩ = true := by decide
  simp only [Iv.add, hz, valid_of h, Bool.and_self, cond_true, Int.zero_add]
  unfold Ok at h
  rw [clampI_id (by omega), clampI_id (by omega)]
theorem add_zero_mul' (a b : Iv) : Iv.add ⟨0, 0⟩ ⟨(Iv.mul a b).lo, (Iv.mul a b).hi⟩ = Iv.mul a b := add_zero_mul a b
end Go.Sx
namespace Go.Sx
def V3.zero : V3 := ⟨iv0, iv0, iv0⟩
def Po.shift (v : V3) : Po := ⟨M3.unit, v⟩
def Po.rest : Po := ⟨M3.unit, V3.zero⟩
def Po.turn (axis : Int) (a : Iv) : Po := ⟨M3.turn axis a, V3.zero⟩
def Po.app (p : Po) (v : V3) : V3 := V3.add p.t (M3.apply p.r v)
def Po.mul (p q : Po) : Po := ⟨M3.mul p.r q.r, Po.app p q.t⟩
def Po.inv (p : Po) : Po := ⟨M3.tr p.r, V3.neg (M3.apply (M3.tr p.r) p.t)⟩
def Po.within (p q : Po) : Bool := M3.within p.r q.r && V3.within p.t q.t
end Go.Sx
namespace Go.Sx
structure J where
  name : ByteArray
  kind : Int
  parent : Int
  off : Z3
  lo : Int
  hi : Int
  weight : Int
  speed : Int
  accel : Int
  torque : Int
structure Ms where
  link : Int
  mass : Int
  p : Z3
structure Sp where
  link : Int
  radius : Int
  pts : List Z3
end Go.Sx
namespace Go.Sx
def ivc (v : Iv) : List Value := [.int .i64 v.lo, .int .i64 v.hi]
def ivC (rows : List Iv) : List Value := (rows.map ivc).flatten
theorem rows2 (l : List Iv) : ∀ r ∈ l.map ivc, r.length = 2 := fun r hr => by
  obtain ⟨v, _, rfl⟩ := List.mem_map.1 hr
  rfl
end Go.Sx
namespace Go.Sx
section
variable {P : Program} {w0 : Base} {S : Slots} {H : Heap} {d : Option Tmp} {ty : TypeId} {pos : String} {af : Array Edge} {g : Option (Nat × Bool)}
def fldB (P : Program) (s f off : Nat) : Bool :=
  match P.underlying s with
  | some (.struct fields) => match fields[f]? with
    | some fld => fld.offset == off && tyB P fld.type false 1
    | none => false
  | _ => false
theorem opV_field1 {s f off' : Nat} {x : Operand} {vs : Array Value} {v : Value} (hF : fldB P s f off' = true) (hx : ev S x = some (.agg vs)) (hv : vs[off']? = some v) :
    OpV P w0 S H ⟨d, .field s x f, ty, pos, af, g⟩ v :=
  opV_of (by simp [knownB, Op.operands, hx]) rfl fun w _ => by
    unfold fldB at hF
    cases hu : P.underlying s with
    | none => simp [hu] at hF
    | some ds =>
      cases ds <;> simp [hu] at hF
      rename_i fields
      cases hf : fields[f]? with
      | none => simp [hf] at hF
      | some fld =>
        simp [hf] at hF
        obtain ⟨h1, h2⟩ := hF
        subst h1
        simp [execOp, evD_of hx, Instr.field, run_underlying hu, hf, asAgg, part, tyB_agg h2, hv]
end
def motV (ft fs fr : Nat) (k : Int) : Value := .agg #[.func (.func (if k = 1 ∨ k = 2 ∨ k = 3 then ft else if k = 4 ∨ k = 5 ∨ k = 6 then fs else fr)) #[.int .i64 (if k = 1 ∨ k = 2 ∨ k = 3 then k - 1 else if k = 4 ∨ k = 5 ∨ k = 6 then k - 4 else 0)] #[]]
theorem mot_t {ft fs fr : Nat} {k : Int} (h : k = 1 ∨ k = 2 ∨ k = 3) : motV ft fs fr k = .agg #[.func (.func ft) #[.int .i64 (k - 1)] #[]] := by
  unfold motV; rw [if_pos h, if_pos h]
theorem mot_s {ft fs fr : Nat} {k : Int} (h : k = 4 ∨ k = 5 ∨ k = 6) : motV ft fs fr k = .agg #[.func (.func fs) #[.int .i64 (k - 4)] #[]] := by
  have h2 : ¬ (k = 1 ∨ k = 2 ∨ k = 3) := by omega
  unfold motV; rw [if_neg h2, if_neg h2, if_pos h, if_pos h]
theorem mot_r {ft fs fr : Nat} {k : Int} (h : ¬ (k = 1 ∨ k = 2 ∨ k = 3)) (h2 : ¬ (k = 4 ∨ k = 5 ∨ k = 6)) : motV ft fs fr k = .agg #[.func (.func fr) #[.int .i64 0] #[]] := by
  unfold motV; rw [if_neg h, if_neg h, if_neg h2, if_neg h2]
def V3.put (k : Int) (a : Iv) : V3 := if k = 0 then ⟨a, iv0, iv0⟩ else if k = 1 then ⟨iv0, a, iv0⟩ else ⟨iv0, iv0, a⟩
def jMot (k : Int) (a : Iv) : Po := if k = 1 ∨ k = 2 ∨ k = 3 then Po.turn (k - 1) a else if k = 4 ∨ k = 5 ∨ k = 6 then Po.shift (V3.put (k - 4) a) else Po.rest
theorem jMot_t {k : Int} {a : Iv} (h : k = 1 ∨ k = 2 ∨ k = 3) : jMot k a = Po.turn (k - 1) a := if_pos h
theorem jMot_s {k : Int} {a : Iv} (h : k = 4 ∨ k = 5 ∨ k = 6) : jMot k a = Po.shift (V3.put (k - 4) a) := by
  have h2 : ¬ (k = 1 ∨ k = 2 ∨ k = 3) := by omega
  unfold jMot; rw [if_neg h2, if_pos h]
theorem jMot_r {k : Int} {a : Iv} (h : ¬ (k = 1 ∨ k = 2 ∨ k = 3)) (h2 : ¬ (k = 4 ∨ k = 5 ∨ k = 6)) : jMot k a = Po.rest := by
  unfold jMot; rw [if_neg h, if_neg h2]
def jPose (k : Int) (o : Z3) (a : Iv) : Po := Po.mul (Po.shift (V3.of o)) (jMot k a)
end Go.Sx
namespace Go.Proofs.YtfoedaolmmadgaaGreat
open Go.Sx
theorem fa88_0 : fieldB Tryz.prog 88 0 0 = true := by kernel_rfl
theorem ty2 : tyB Tryz.prog 2 false 1 = true := by kernel_rfl
theorem fa88_1 : fieldB Tryz.prog 88 1 1 = true := by kernel_rfl
theorem ze88 : zeroIs Tryz.prog 88 (.agg #[.int .i64 0, .int .i64 0]) := by unfold zeroIs; kernel_rfl
theorem en145 : Enters Tryz.prog 145 := enters_of Tryz.func145 (by kernel_rfl) (by kernel_rfl)
theorem la88 : layoutOf Tryz.prog 88 = some ([.int .i64 0, .int .i64 0], [(0, 1), (1, 1)]) := by kernel_rfl
theorem ty88 : tyB Tryz.prog 88 true 2 = true := by kernel_rfl
theorem en114 : Enters Tryz.prog 114 := enters_of Tryz.func114 (by kernel_rfl) (by kernel_rfl)
theorem en137 : Enters Tryz.prog 137 := enters_of Tryz.func137 (by kernel_rfl) (by kernel_rfl)
theorem en103 : Enters Tryz.prog 103 := enters_of Tryz.func103 (by kernel_rfl) (by kernel_rfl)
theorem mo : Tryz.prog.follows .mixedOrders = true := by kernel_rfl
theorem iValid (a0 a1 : Int) (w : World) : Calls Tryz.prog 137 [.agg #[.int .i64 a0, .int .i64 a1]].toArray w (Rets (vB (Iv.valid (⟨a0, a1⟩ : Iv))) (w)) := by
  refine calls_of_doC (n := 18) Tryz.func137 rfl rfl rfl ?_
  refine doC_seq ?_
  refine doC_region ?_
  refine doL_box 1 rfl rfl rfl rfl ?_; intro b1
  refine doL_v (opV_assign rfl) rfl rfl rfl ?_
  refine doL_nil ?_
  refine post_then ?_
  refine doC_seq ?_
  refine doC_region ?_
  refine doL_v (opV_fieldAddr fa88_0 rfl) rfl rfl rfl ?_
  refine doL_v (opV_load1 1 ty2 rfl rfl rfl) rfl rfl rfl ?_
  refine doL_v (opV_leq rfl rfl) rfl rfl rfl ?_
  refine doL_v (opV_move rfl) rfl rfl rfl ?_
  refine doL_split 6 rfl (fun hg6 => ?_) (fun hg6 => ?_)
  ·
    refine doL_v (opV_fieldAddr fa88_0 rfl) rfl rfl rfl ?_
    refine doL_v (opV_load1 1 ty2 rfl rfl rfl) rfl rfl rfl ?_
    refine doL_v (opV_fieldAddr fa88_1 rfl) rfl rfl rfl ?_
    refine doL_v (opV_load1 1 ty2 rfl rfl rfl) rfl rfl rfl ?_
    refine doL_v (opV_leq rfl rfl) rfl rfl rfl ?_
    refine doL_v (opV_pick_t rfl rfl rfl rfl) rfl rfl rfl ?_
    refine doL_v (opV_move rfl) rfl rfl rfl ?_
    refine doL_split 13 rfl (fun hg13 => ?_) (fun hg13 => ?_)
    ·
      refine doL_v (opV_fieldAddr fa88_1 rfl) rfl rfl rfl ?_
      refine doL_v (opV_load1 1 ty2 rfl rfl rfl) rfl rfl rfl ?_
      refine doL_v (opV_leq rfl rfl) rfl rfl rfl ?_
      refine doL_v (opV_pick_t rfl rfl rfl rfl) rfl rfl rfl ?_
      refine doL_v (opV_assign rfl) rfl rfl rfl ?_
      refine doL_nil ?_
      refine post_then ?_
      refine doC_ret ?_
      refine post_rets (rs := [.tmp 2]) rfl (resC (resIs_tmp rfl) (resN)) (congrArg (vB) (?_ : _ = Iv.valid (⟨a0, a1⟩ : Iv)))
      simp only [Iv.valid, *, Bool.and_false, Bool.and_true, Bool.true_and, Bool.false_and]
    ·
      refine doL_skip rfl rfl rfl ?_
      refine doL_skip rfl rfl rfl ?_
      refine doL_skip rfl rfl rfl ?_
      refine doL_v (opV_pick_f rfl rfl rfl rfl) rfl rfl rfl ?_
      refine doL_v (opV_assign rfl) rfl rfl rfl ?_
      refine doL_nil ?_
      refine post_then ?_
      refine doC_ret ?_
      refine post_rets (rs := [.tmp 2]) rfl (resC (resIs_tmp rfl) (resN)) (congrArg (vB) (?_ : _ = Iv.valid (⟨a0, a1⟩ : Iv)))
      simp only [Iv.valid, *, Bool.and_false, Bool.and_true, Bool.true_and, Bool.false_and]
  ·
    refine doL_skip rfl rfl rfl ?_
    refine doL_skip rfl rfl rfl ?_
    refine doL_skip rfl rfl rfl ?_
    refine doL_skip rfl rfl rfl ?_
    refine doL_skip rfl rfl rfl ?_
    refine doL_v (opV_pick_f rfl rfl rfl rfl) rfl rfl rfl ?_
    refine doL_v (opV_move rfl) rfl rfl rfl ?_
    refine doL_skip rfl rfl rfl ?_
    refine doL_skip rfl rfl rfl ?_
    refine doL_skip rfl rfl rfl ?_
    refine doL_v (opV_pick_f rfl rfl rfl rfl) rfl rfl rfl ?_
    refine doL_v (opV_assign rfl) rfl rfl rfl ?_
    refine doL_nil ?_
    refine post_then ?_
    refine doC_ret ?_
    refine post_rets (rs := [.tmp 2]) rfl (resC (resIs_tmp rfl) (resN)) (congrArg (vB) (?_ : _ = Iv.valid (⟨a0, a1⟩ : Iv)))
    simp only [Iv.valid, *, Bool.and_false, Bool.and_true, Bool.true_and, Bool.false_and]
theorem fClamp (a : Int) (w : World) : Calls Tryz.prog 145 [.int .i64 a].toArray w (Rets (vI (clampI a)) (w)) := by
  refine calls_of_doC (n := 6) Tryz.func145 rfl rfl rfl ?_
  refine doC_seq ?_
  refine doC_region ?_
  refine doL_v (opV_assign rfl) rfl rfl rfl ?_
  refine doL_nil ?_
  refine post_then ?_
  refine doC_seq ?_
  refine doC_region ?_
  refine doL_v (opV_move rfl) rfl rfl rfl ?_
  refine doL_v (opV_max2 rfl rfl) rfl rfl rfl ?_
  refine doL_v (opV_min2 rfl rfl) rfl rfl rfl ?_
  refine doL_v (opV_assign rfl) rfl rfl rfl ?_
  refine doL_nil ?_
  refine post_then ?_
  refine doC_ret ?_
  refine post_rets (rs := [.tmp 2]) rfl (resC (resIs_tmp rfl) (resN)) (congrArg (vI) (?_ : _ = clampI a))
  first | rfl | (subst_vars; rfl) | (subst_vars; simp_all)
theorem fShiftDown (a : Int) (k : Int) (h0 : 0 ≤ k ∧ k ≤ 62) (w : World) : Calls Tryz.prog 178 [.int .i64 a, .int .i64 k].toArray w (Rets (vI (a / 2 ^ (k).toNat)) (w)) := by
  refine calls_of_doC (n := 11) Tryz.func178 rfl rfl rfl ?_
  refine doC_seq ?_
  refine doC_region ?_
  refine doL_v (opV_assign rfl) rfl rfl rfl ?_
  refine doL_nil ?_
  refine post_then ?_
  refine doC_seq ?_
  refine doC_seq ?_
  refine doC_region ?_
  refine doL_v (opV_move rfl) rfl rfl rfl ?_
  refine doL_v (opV_lss rfl rfl) rfl rfl rfl ?_
  refine doL_nil ?_
  refine post_then ?_
  refine doC_cond_f rfl (by simp; omega) ?_
  refine doC_skip ?_
  refine post_then ?_
  refine doC_seq ?_
  refine doC_region ?_
  refine doL_v (opV_move rfl) rfl rfl rfl ?_
  refine doL_v (opV_move rfl) rfl rfl rfl ?_
  refine doL_v (opV_shr rfl rfl (by first | decide | omega) (shr_eq (by omega) (by omega))) rfl rfl rfl ?_
  refine doL_v (opV_assign rfl) rfl rfl rfl ?_
  refine doL_nil ?_
  refine post_then ?_
  refine doC_ret ?_
  refine post_rets (rs := [.tmp 4]) rfl (resC (resIs_tmp rfl) (resN)) (congrArg (vI) (?_ : _ = a / 2 ^ (k).toNat))
  first | rfl | (subst_vars; rfl) | (subst_vars; simp_all)
theorem fShiftUp (a : Int) (k : Int) (h0 : 0 ≤ k ∧ k ≤ 62) (ha : In64 a) (w : World) : Calls Tryz.prog 179 [.int .i64 a, .int .i64 k].toArray w (Rets (vI (ceilI a (2 ^ (k).toNat))) (w)) := by
  refine calls_of_doC (n := 20) Tryz.func179 rfl rfl rfl ?_
  refine doC_seq ?_
  refine doC_region ?_
  refine doL_v (opV_assign rfl) rfl rfl rfl ?_
  refine doL_nil ?_
  refine post_then ?_
  refine doC_seq ?_
  refine doC_seq ?_
  refine doC_region ?_
  refine doL_v (opV_move rfl) rfl rfl rfl ?_
  refine doL_v (opV_lss rfl rfl) rfl rfl rfl ?_
  refine doL_nil ?_
  refine post_then ?_
  refine doC_cond_f rfl (by simp; omega) ?_
  refine doC_skip ?_
  refine post_then ?_
  refine doC_seq ?_
  refine doC_region ?_
  refine doL_v (opV_move rfl) rfl rfl rfl ?_
  refine doL_v (opV_move rfl) rfl rfl rfl ?_
  refine doL_v (opV_shr rfl rfl (by first | decide | omega) (shr_eq (by omega) (by omega))) rfl rfl rfl ?_
  refine doL_v (opV_assign rfl) rfl rfl rfl ?_
  refine doL_nil ?_
  refine post_then ?_
  refine doC_seq ?_
  refine doC_seq ?_
  refine doC_region ?_
  refine doL_v (opV_move rfl) rfl rfl rfl ?_
  refine doL_v (opV_move rfl) rfl rfl rfl ?_
  refine doL_v (opV_shl rfl rfl (by first | decide | omega) (shl_eq ha (by omega) (by omega))) rfl rfl rfl ?_
  refine doL_v (opV_move rfl) rfl rfl rfl ?_
  refine doL_v (opV_neq rfl rfl) rfl rfl rfl ?_
  refine doL_nil ?_
  refine post_then ?_
  refine doC_cond rfl (fun hc16 => ?_) (fun hc16 => ?_)
  ·
    have h1 : ¬ a / 2 ^ k.toNat * 2 ^ k.toNat = a := by simpa using hc16
    have h2 := ceil_of_ne (Int.pow_pos (by decide)) h1
    refine doC_region ?_
    refine doL_v (opV_move rfl) rfl rfl rfl ?_
    refine doL_v (opV_add rfl rfl (i64_in (shiftUp_bnd ha h1))) rfl rfl rfl ?_
    refine doL_v (opV_assign rfl) rfl rfl rfl ?_
    refine doL_nil ?_
    refine post_then ?_
    refine doC_seq ?_
    refine doC_region ?_
    refine doL_v (opV_move rfl) rfl rfl rfl ?_
    refine doL_v (opV_assign rfl) rfl rfl rfl ?_
    refine doL_nil ?_
    refine post_then ?_
    refine doC_ret ?_
    refine post_rets (rs := [.tmp 4]) rfl (resC (resIs_tmp rfl) (resN)) (congrArg (vI) (?_ : _ = ceilI a (2 ^ (k).toNat)))
    exact h2
  ·
    have h1 : a / 2 ^ k.toNat * 2 ^ k.toNat = a := by simpa using hc16
    have h2 := ceil_of_mul (Int.pow_pos (by decide)) h1
    refine doC_skip ?_
    refine post_then ?_
    refine doC_seq ?_
    refine doC_region ?_
    refine doL_v (opV_move rfl) rfl rfl rfl ?_
    refine doL_v (opV_assign rfl) rfl rfl rfl ?_
    refine doL_nil ?_
    refine post_then ?_
    refine doC_ret ?_
    refine post_rets (rs := [.tmp 4]) rfl (resC (resIs_tmp rfl) (resN)) (congrArg (vI) (?_ : _ = ceilI a (2 ^ (k).toNat)))
    exact h2
theorem iLimited (lo : Int) (hi : Int) (w : World) : Calls Tryz.prog 114 [.int .i64 lo, .int .i64 hi].toArray w (Rets (iv (Iv.limited lo hi)) (w)) := by
  refine calls_of_doC (n := 10) Tryz.func114 rfl rfl rfl ?_
  refine doC_seq ?_
  refine doC_region ?_
  refine doL_alloc 4 ze88 rfl rfl rfl ?_; intro b4
  refine doL_nil ?_
  refine post_then ?_
  refine doC_seq ?_
  refine doC_region ?_
  refine doL_v (opV_move rfl) rfl rfl rfl ?_
  refine doL_vg (F := vI) (opV_call en145 rfl (fun w _ => fClamp _  w)) rfl rfl rfl ?_; intro r6 hr6
  refine doL_v (opV_move rfl) rfl rfl rfl ?_
  refine doL_vg (F := vI) (opV_call en145 rfl (fun w _ => fClamp _  w)) rfl rfl rfl ?_; intro r8 hr8
  refine doL_v (opV_build la88 rfl rfl) rfl rfl rfl ?_
  refine doL_store 4 ty88 rfl rfl rfl rfl rfl rfl rfl rfl ?_
  refine doL_nil ?_
  refine post_then ?_
  refine doC_ret ?_
  refine post_rets (rs := [.cell 4 88]) rfl (resC (resIs_cell 4 rfl rfl ty88 rfl) (resN)) (congrArg (iv) (?_ : ⟨_, _⟩ = Iv.limited lo hi))
  first | rfl | (subst_vars; rfl) | (subst_vars; simp_all)
theorem iOf (x : Int) (w : World) : Calls Tryz.prog 86 [.int .i64 x].toArray w (Rets (iv (Iv.of x)) (w)) := by
  refine calls_of_doC (n := 6) Tryz.func86 rfl rfl rfl ?_
  refine doC_seq ?_
  refine doC_region ?_
  refine doL_alloc 2 ze88 rfl rfl rfl ?_; intro b2
  refine doL_nil ?_
  refine post_then ?_
  refine doC_seq ?_
  refine doC_region ?_
  refine doL_v (opV_move rfl) rfl rfl rfl ?_
  refine doL_v (opV_move rfl) rfl rfl rfl ?_
  refine doL_vg (F := iv) (opV_call en114 rfl (fun w _ => iLimited _ _  w)) rfl rfl rfl ?_; intro r5 hr5
  refine doL_store 2 ty88 rfl rfl rfl rfl rfl rfl rfl rfl ?_
  refine doL_nil ?_
  refine post_then ?_
  refine doC_ret ?_
  refine post_rets (rs := [.cell 2 88]) rfl (resC (resIs_cell 2 rfl rfl ty88 rfl) (resN)) (congrArg (iv) (?_ : ⟨_, _⟩ = Iv.of x))
  first | rfl | (subst_vars; rfl) | (subst_vars; simp_all)
theorem iNeg (a0 a1 : Int) (w : World) : Calls Tryz.prog 191 [.agg #[.int .i64 a0, .int .i64 a1]].toArray w (Rets (iv (Iv.neg (⟨a0, a1⟩ : Iv))) (w)) := by
  refine calls_of_doC (n := 14) Tryz.func191 rfl rfl rfl ?_
  refine doC_seq ?_
  refine doC_region ?_
  refine doL_box 1 rfl rfl rfl rfl ?_; intro b1
  refine doL_alloc 2 ze88 rfl rfl rfl ?_; intro b2
  refine doL_nil ?_
  refine post_then ?_
  refine doC_seq ?_
  refine doC_seq ?_
  refine doC_region ?_
  refine doL_v (opV_loadA 1 ty88 rfl rfl rfl) rfl rfl rfl ?_
  refine doL_vg (F := vB) (opV_call en137 rfl (fun w _ => iValid _ _  w)) rfl rfl rfl ?_; intro r4 hr4
  refine doL_v (opV_not rfl) rfl rfl rfl ?_
  refine doL_nil ?_
  refine post_then ?_
  refine doC_cond rfl (fun hc5 => ?_) (fun hc5 => ?_)
  ·
    simp only [Bool.not_eq_true'] at hc5
    refine doC_seq ?_
    refine doC_region ?_
    refine doL_v (opV_build la88 rfl rfl) rfl rfl rfl ?_
    refine doL_store 2 ty88 rfl rfl rfl rfl rfl rfl rfl rfl ?_
    refine doL_nil ?_
    refine post_then ?_
    refine doC_ret ?_
    refine post_then_ret ?_
    refine post_rets (rs := [.cell 2 88]) rfl (resC (resIs_cell 2 rfl rfl ty88 rfl) (resN)) (congrArg (iv) (?_ : ⟨_, _⟩ = Iv.neg (⟨a0, a1⟩ : Iv)))
    subst_vars; first | (simp_all [Iv.neg]; done) | (simp_all [Iv.neg] <;> omega) | grind [Iv.neg]
  ·
    simp only [Bool.not_eq_false'] at hc5
    have hv := valid_mk (hr4.symm.trans hc5)
    refine doC_skip ?_
    refine post_then ?_
    refine doC_seq ?_
    refine doC_region ?_
    refine doL_v (opV_fieldAddr fa88_1 rfl) rfl rfl rfl ?_
    refine doL_v (opV_load1 1 ty2 rfl rfl rfl) rfl rfl rfl ?_
    refine doL_v (opV_neg rfl (by first | exact neg_in ⟨by omega, by omega⟩ | rfl)) rfl rfl rfl ?_
    refine doL_v (opV_fieldAddr fa88_0 rfl) rfl rfl rfl ?_
    refine doL_v (opV_load1 1 ty2 rfl rfl rfl) rfl rfl rfl ?_
    refine doL_v (opV_neg rfl (by first | exact neg_in ⟨by omega, by omega⟩ | rfl)) rfl rfl rfl ?_
    refine doL_v (opV_build la88 rfl rfl) rfl rfl rfl ?_
    refine doL_store 2 ty88 rfl rfl rfl rfl rfl rfl rfl rfl ?_
    refine doL_nil ?_
    refine post_then ?_
    refine doC_ret ?_
    refine post_rets (rs := [.cell 2 88]) rfl (resC (resIs_cell 2 rfl rfl ty88 rfl) (resN)) (congrArg (iv) (?_ : ⟨_, _⟩ = Iv.neg (⟨a0, a1⟩ : Iv)))
    subst_vars; first | (simp_all [Iv.neg]; done) | (simp_all [Iv.neg] <;> omega) | grind [Iv.neg]
theorem iValid2 (a0 a1 : Int) (b0 b1 : Int) (w : World) : Calls Tryz.prog 103 [.agg #[.int .i64 a0, .int .i64 a1], .agg #[.int .i64 b0, .int .i64 b1]].toArray w (Rets (vB ((Iv.valid (⟨a0, a1⟩ : Iv) && Iv.valid (⟨b0, b1⟩ : Iv)))) (w)) := by
  refine calls_of_doC (n := 11) Tryz.func103 rfl rfl rfl ?_
  refine doC_seq ?_
  refine doC_region ?_
  refine doL_box 2 rfl rfl rfl rfl ?_; intro b2
  refine doL_box 3 rfl rfl rfl rfl ?_; intro b3
  refine doL_v (opV_assign rfl) rfl rfl rfl ?_
  refine doL_nil ?_
  refine post_then ?_
  refine doC_seq ?_
  refine doC_region ?_
  refine doL_v (opV_loadA 2 ty88 rfl rfl rfl) rfl rfl rfl ?_
  refine doL_vg (F := vB) (opV_call en137 rfl (fun w _ => iValid _ _  w)) rfl rfl rfl ?_; intro r6 hr6
  refine doL_v (opV_move rfl) rfl rfl rfl ?_
  refine doL_split 7 rfl (fun hg7 => ?_) (fun hg7 => ?_)
  ·
    refine doL_v (opV_loadA 3 ty88 rfl rfl rfl) rfl rfl rfl ?_
    refine doL_vg (F := vB) (opV_call en137 rfl (fun w _ => iValid _ _  w)) rfl rfl rfl ?_; intro r9 hr9
    refine doL_v (opV_pick_t rfl rfl rfl rfl) rfl rfl rfl ?_
    refine doL_v (opV_assign rfl) rfl rfl rfl ?_
    refine doL_nil ?_
    refine post_then ?_
    refine doC_ret ?_
    refine post_rets (rs := [.tmp 4]) rfl (resC (resIs_tmp rfl) (resN)) (congrArg (vB) (?_ : _ = (Iv.valid (⟨a0, a1⟩ : Iv) && Iv.valid (⟨b0, b1⟩ : Iv))))
    subst_vars; simp_all
  ·
    refine doL_skip rfl rfl rfl ?_
    refine doL_skip rfl rfl rfl ?_
    refine doL_v (opV_pick_f rfl rfl rfl rfl) rfl rfl rfl ?_
    refine doL_v (opV_assign rfl) rfl rfl rfl ?_
    refine doL_nil ?_
    refine post_then ?_
    refine doC_ret ?_
    refine post_rets (rs := [.tmp 4]) rfl (resC (resIs_tmp rfl) (resN)) (congrArg (vB) (?_ : _ = (Iv.valid (⟨a0, a1⟩ : Iv) && Iv.valid (⟨b0, b1⟩ : Iv))))
    subst_vars; simp_all
theorem iAdd (a0 a1 : Int) (b0 b1 : Int) (w : World) : Calls Tryz.prog 161 [.agg #[.int .i64 a0, .int .i64 a1], .agg #[.int .i64 b0, .int .i64 b1]].toArray w (Rets (iv (Iv.add (⟨a0, a1⟩ : Iv) (⟨b0, b1⟩ : Iv))) (w)) := by
  refine calls_of_doC (n := 21) Tryz.func161 rfl rfl rfl ?_
  refine doC_seq ?_
  refine doC_region ?_
  refine doL_box 2 rfl rfl rfl rfl ?_; intro b2
  refine doL_box 3 rfl rfl rfl rfl ?_; intro b3
  refine doL_alloc 4 ze88 rfl rfl rfl ?_; intro b4
  refine doL_nil ?_
  refine post_then ?_
  refine doC_seq ?_
  refine doC_seq ?_
  refine doC_region ?_
  refine doL_v (opV_loadA 2 ty88 rfl rfl rfl) rfl rfl rfl ?_
  refine doL_v (opV_loadA 3 ty88 rfl rfl rfl) rfl rfl rfl ?_
  refine doL_vg (F := vB) (opV_call en103 rfl (fun w _ => iValid2 _ _ _ _  w)) rfl rfl rfl ?_; intro r7 hr7
  refine doL_v (opV_not rfl) rfl rfl rfl ?_
  refine doL_nil ?_
  refine post_then ?_
  refine doC_cond rfl (fun hc8 => ?_) (fun hc8 => ?_)
  ·
    refine doC_seq ?_
    refine doC_region ?_
    refine doL_v (opV_build la88 rfl rfl) rfl rfl rfl ?_
    refine doL_store 4 ty88 rfl rfl rfl rfl rfl rfl rfl rfl ?_
    refine doL_nil ?_
    refine post_then ?_
    refine doC_ret ?_
    refine post_then_ret ?_
    refine post_rets (rs := [.cell 4 88]) rfl (resC (resIs_cell 4 rfl rfl ty88 rfl) (resN)) (congrArg (iv) (?_ : ⟨_, _⟩ = Iv.add (⟨a0, a1⟩ : Iv) (⟨b0, b1⟩ : Iv)))
    subst_vars; first | (simp_all [Iv.add, Iv.limited]; done) | (simp_all [Iv.add, Iv.limited] <;> omega) | grind [Iv.add, Iv.limited]
  ·
    refine doC_skip ?_
    refine post_then ?_
    refine doC_seq ?_
    have hv := hr7.symm.trans (by simpa using hc8)
    rw [Bool.and_eq_true] at hv
    have ha := valid_mk hv.1
    have hb := valid_mk hv.2
    refine doC_region ?_
    refine doL_v (opV_fieldAddr fa88_0 rfl) rfl rfl rfl ?_
    refine doL_v (opV_load1 2 ty2 rfl rfl rfl) rfl rfl rfl ?_
    refine doL_v (opV_fieldAddr fa88_0 rfl) rfl rfl rfl ?_
    refine doL_v (opV_load1 3 ty2 rfl rfl rfl) rfl rfl rfl ?_
    refine doL_v (opV_add rfl rfl (by first | exact i64_in ⟨by omega, by omega⟩ | rfl)) rfl rfl rfl ?_
    refine doL_v (opV_fieldAddr fa88_1 rfl) rfl rfl rfl ?_
    refine doL_v (opV_load1 2 ty2 rfl rfl rfl) rfl rfl rfl ?_
    refine doL_v (opV_fieldAddr fa88_1 rfl) rfl rfl rfl ?_
    refine doL_v (opV_load1 3 ty2 rfl rfl rfl) rfl rfl rfl ?_
    refine doL_v (opV_add rfl rfl (by first | exact i64_in ⟨by omega, by omega⟩ | rfl)) rfl rfl rfl ?_
    refine doL_vg (F := iv) (opV_call en114 rfl (fun w _ => iLimited _ _  w)) rfl rfl rfl ?_; intro r20 hr20
    refine doL_store 4 ty88 rfl rfl rfl rfl rfl rfl rfl rfl ?_
    refine doL_nil ?_
    refine post_then ?_
    refine doC_ret ?_
    refine post_rets (rs := [.cell 4 88]) rfl (resC (resIs_cell 4 rfl rfl ty88 rfl) (resN)) (congrArg (iv) (?_ : ⟨_, _⟩ = Iv.add (⟨a0, a1⟩ : Iv) (⟨b0, b1⟩ : Iv)))
    subst_vars; first | (simp_all [Iv.add, Iv.limited]; done) | (simp_all [Iv.add, Iv.limited] <;> omega) | grind [Iv.add, Iv.limited]
theorem iHull (a0 a1 : Int) (b0 b1 : Int) (w : World) : Calls Tryz.prog 200 [.agg #[.int .i64 a0, .int .i64 a1], .agg #[.int .i64 b0, .int .i64 b1]].toArray w (Rets (iv (Iv.hull (⟨a0, a1⟩ : Iv) (⟨b0, b1⟩ : Iv))) (w)) := by
  refine calls_of_doC (n := 21) Tryz.func200 rfl rfl rfl ?_
  refine doC_seq ?_
  refine doC_region ?_
  refine doL_box 2 rfl rfl rfl rfl ?_; intro b2
  refine doL_box 3 rfl rfl rfl rfl ?_; intro b3
  refine doL_alloc 4 ze88 rfl rfl rfl ?_; intro b4
  refine doL_nil ?_
  refine post_then ?_
  refine doC_seq ?_
  refine doC_seq ?_
  refine doC_region ?_
  refine doL_v (opV_loadA 2 ty88 rfl rfl rfl) rfl rfl rfl ?_
  refine doL_v (opV_loadA 3 ty88 rfl rfl rfl) rfl rfl rfl ?_
  refine doL_vg (F := vB) (opV_call en103 rfl (fun w _ => iValid2 _ _ _ _  w)) rfl rfl rfl ?_; intro r7 hr7
  refine doL_v (opV_not rfl) rfl rfl rfl ?_
  refine doL_nil ?_
  refine post_then ?_
  refine doC_cond rfl (fun hc8 => ?_) (fun hc8 => ?_)
  ·
    refine doC_seq ?_
    refine doC_region ?_
    refine doL_v (opV_build la88 rfl rfl) rfl rfl rfl ?_
    refine doL_store 4 ty88 rfl rfl rfl rfl rfl rfl rfl rfl ?_
    refine doL_nil ?_
    refine post_then ?_
    refine doC_ret ?_
    refine post_then_ret ?_
    refine post_rets (rs := [.cell 4 88]) rfl (resC (resIs_cell 4 rfl rfl ty88 rfl) (resN)) (congrArg (iv) (?_ : ⟨_, _⟩ = Iv.hull (⟨a0, a1⟩ : Iv) (⟨b0, b1⟩ : Iv)))
    subst_vars; first | (simp_all [Iv.hull]; done) | (simp_all [Iv.hull] <;> omega) | grind [Iv.hull]
  ·
    refine doC_skip ?_
    refine post_then ?_
    refine doC_seq ?_
    refine doC_region ?_
    refine doL_v (opV_fieldAddr fa88_0 rfl) rfl rfl rfl ?_
    refine doL_v (opV_load1 2 ty2 rfl rfl rfl) rfl rfl rfl ?_
    refine doL_v (opV_fieldAddr fa88_0 rfl) rfl rfl rfl ?_
    refine doL_v (opV_load1 3 ty2 rfl rfl rfl) rfl rfl rfl ?_
    refine doL_v (opV_min2 rfl rfl) rfl rfl rfl ?_
    refine doL_v (opV_fieldAddr fa88_1 rfl) rfl rfl rfl ?_
    refine doL_v (opV_load1 2 ty2 rfl rfl rfl) rfl rfl rfl ?_
    refine doL_v (opV_fieldAddr fa88_1 rfl) rfl rfl rfl ?_
    refine doL_v (opV_load1 3 ty2 rfl rfl rfl) rfl rfl rfl ?_
    refine doL_v (opV_max2 rfl rfl) rfl rfl rfl ?_
    refine doL_v (opV_build la88 rfl rfl) rfl rfl rfl ?_
    refine doL_store 4 ty88 rfl rfl rfl rfl rfl rfl rfl rfl ?_
    refine doL_nil ?_
    refine post_then ?_
    refine doC_ret ?_
    refine post_rets (rs := [.cell 4 88]) rfl (resC (resIs_cell 4 rfl rfl ty88 rfl) (resN)) (congrArg (iv) (?_ : ⟨_, _⟩ = Iv.hull (⟨a0, a1⟩ : Iv) (⟨b0, b1⟩ : Iv)))
    subst_vars; first | (simp_all [Iv.hull]; done) | (simp_all [Iv.hull] <;> omega) | grind [Iv.hull]
theorem iWidth (a0 a1 : Int) (w : World) : Calls Tryz.prog 199 [.agg #[.int .i64 a0, .int .i64 a1]].toArray w (Rets (vI (Iv.width (⟨a0, a1⟩ : Iv))) (w)) := by
  refine calls_of_doC (n := 11) Tryz.func199 rfl rfl rfl ?_
  refine doC_seq ?_
  refine doC_region ?_
  refine doL_box 1 rfl rfl rfl rfl ?_; intro b1
  refine doL_v (opV_assign rfl) rfl rfl rfl ?_
  refine doL_nil ?_
  refine post_then ?_
  refine doC_seq ?_
  refine doC_seq ?_
  refine doC_region ?_
  refine doL_v (opV_loadA 1 ty88 rfl rfl rfl) rfl rfl rfl ?_
  refine doL_vg (F := vB) (opV_call en137 rfl (fun w _ => iValid _ _  w)) rfl rfl rfl ?_; intro r4 hr4
  refine doL_v (opV_not rfl) rfl rfl rfl ?_
  refine doL_nil ?_
  refine post_then ?_
  refine doC_cond rfl (fun hc5 => ?_) (fun hc5 => ?_)
  ·
    refine doC_seq ?_
    refine doC_region ?_
    refine doL_v (opV_assign rfl) rfl rfl rfl ?_
    refine doL_nil ?_
    refine post_then ?_
    refine doC_ret ?_
    refine post_then_ret ?_
    refine post_rets (rs := [.tmp 2]) rfl (resC (resIs_tmp rfl) (resN)) (congrArg (vI) (?_ : _ = Iv.width (⟨a0, a1⟩ : Iv)))
    subst_vars; first | (simp_all [Iv.width]; done) | (simp_all [Iv.width] <;> omega) | grind [Iv.width]
  ·
    refine doC_skip ?_
    refine post_then ?_
    refine doC_seq ?_
    have ha := valid_mk (hr4.symm.trans (by simpa using hc5))
    refine doC_region ?_
    refine doL_v (opV_fieldAddr fa88_1 rfl) rfl rfl rfl ?_
    refine doL_v (opV_load1 1 ty2 rfl rfl rfl) rfl rfl rfl ?_
    refine doL_v (opV_fieldAddr fa88_0 rfl) rfl rfl rfl ?_
    refine doL_v (opV_load1 1 ty2 rfl rfl rfl) rfl rfl rfl ?_
    refine doL_v (opV_sub rfl rfl (by first | exact i64_in ⟨by omega, by omega⟩ | rfl)) rfl rfl rfl ?_
    refine doL_v (opV_assign rfl) rfl rfl rfl ?_
    refine doL_nil ?_
    refine post_then ?_
    refine doC_ret ?_
    refine post_rets (rs := [.tmp 2]) rfl (resC (resIs_tmp rfl) (resN)) (congrArg (vI) (?_ : _ = Iv.width (⟨a0, a1⟩ : Iv)))
    subst_vars; first | (simp_all [Iv.width]; done) | (simp_all [Iv.width] <;> omega) | grind [Iv.width]
theorem iHas (a0 a1 : Int) (x : Int) (w : World) : Calls Tryz.prog 204 [.agg #[.int .i64 a0, .int .i64 a1], .int .i64 x].toArray w (Rets (vB (Iv.has (⟨a0, a1⟩ : Iv) x)) (w)) := by
  refine calls_of_doC (n := 19) Tryz.func204 rfl rfl rfl ?_
  refine doC_seq ?_
  refine doC_region ?_
  refine doL_box 2 rfl rfl rfl rfl ?_; intro b2
  refine doL_v (opV_assign rfl) rfl rfl rfl ?_
  refine doL_nil ?_
  refine post_then ?_
  refine doC_seq ?_
  refine doC_region ?_
  refine doL_v (opV_loadA 2 ty88 rfl rfl rfl) rfl rfl rfl ?_
  refine doL_vg (F := vB) (opV_call en137 rfl (fun w _ => iValid _ _  w)) rfl rfl rfl ?_; intro r6 hr6
  refine doL_v (opV_move rfl) rfl rfl rfl ?_
  refine doL_split 7 rfl (fun hg7 => ?_) (fun hg7 => ?_)
  ·
    refine doL_v (opV_fieldAddr fa88_0 rfl) rfl rfl rfl ?_
    refine doL_v (opV_load1 2 ty2 rfl rfl rfl) rfl rfl rfl ?_
    refine doL_v (opV_move rfl) rfl rfl rfl ?_
    refine doL_v (opV_leq rfl rfl) rfl rfl rfl ?_
    refine doL_v (opV_pick_t rfl rfl rfl rfl) rfl rfl rfl ?_
    refine doL_v (opV_move rfl) rfl rfl rfl ?_
    refine doL_split 13 rfl (fun hg13 => ?_) (fun hg13 => ?_)
    ·
      refine doL_v (opV_move rfl) rfl rfl rfl ?_
      refine doL_v (opV_fieldAddr fa88_1 rfl) rfl rfl rfl ?_
      refine doL_v (opV_load1 2 ty2 rfl rfl rfl) rfl rfl rfl ?_
      refine doL_v (opV_leq rfl rfl) rfl rfl rfl ?_
      refine doL_v (opV_pick_t rfl rfl rfl rfl) rfl rfl rfl ?_
      refine doL_v (opV_assign rfl) rfl rfl rfl ?_
      refine doL_nil ?_
      refine post_then ?_
      refine doC_ret ?_
      refine post_rets (rs := [.tmp 4]) rfl (resC (resIs_tmp rfl) (resN)) (congrArg (vB) (?_ : _ = Iv.has (⟨a0, a1⟩ : Iv) x))
      subst_vars; first | (simp_all [Iv.has]; done) | (simp_all [Iv.has] <;> omega) | grind [Iv.has]
    ·
      refine doL_skip rfl rfl rfl ?_
      refine doL_skip rfl rfl rfl ?_
      refine doL_skip rfl rfl rfl ?_
      refine doL_skip rfl rfl rfl ?_
      refine doL_v (opV_pick_f rfl rfl rfl rfl) rfl rfl rfl ?_
      refine doL_v (opV_assign rfl) rfl rfl rfl ?_
      refine doL_nil ?_
      refine post_then ?_
      refine doC_ret ?_
      refine post_rets (rs := [.tmp 4]) rfl (resC (resIs_tmp rfl) (resN)) (congrArg (vB) (?_ : _ = Iv.has (⟨a0, a1⟩ : Iv) x))
      subst_vars; first | (simp_all [Iv.has]; done) | (simp_all [Iv.has] <;> omega) | grind [Iv.has]
  ·
    refine doL_skip rfl rfl rfl ?_
    refine doL_skip rfl rfl rfl ?_
    refine doL_skip rfl rfl rfl ?_
    refine doL_skip rfl rfl rfl ?_
    refine doL_v (opV_pick_f rfl rfl rfl rfl) rfl rfl rfl ?_
    refine doL_v (opV_move rfl) rfl rfl rfl ?_
    refine doL_skip rfl rfl rfl ?_
    refine doL_skip rfl rfl rfl ?_
    refine doL_skip rfl rfl rfl ?_
    refine doL_skip rfl rfl rfl ?_
    refine doL_v (opV_pick_f rfl rfl rfl rfl) rfl rfl rfl ?_
    refine doL_v (opV_assign rfl) rfl rfl rfl ?_
    refine doL_nil ?_
    refine post_then ?_
    refine doC_ret ?_
    refine post_rets (rs := [.tmp 4]) rfl (resC (resIs_tmp rfl) (resN)) (congrArg (vB) (?_ : _ = Iv.has (⟨a0, a1⟩ : Iv) x))
    subst_vars; first | (simp_all [Iv.has]; done) | (simp_all [Iv.has] <;> omega) | grind [Iv.has]
theorem iWithin (a0 a1 : Int) (b0 b1 : Int) (w : World) : Calls Tryz.prog 71 [.agg #[.int .i64 a0, .int .i64 a1], .agg #[.int .i64 b0, .int .i64 b1]].toArray w (Rets (vB (Iv.within (⟨a0, a1⟩ : Iv) (⟨b0, b1⟩ : Iv))) (w)) := by
  refine calls_of_doC (n := 22) Tryz.func71 rfl rfl rfl ?_
  refine doC_seq ?_
  refine doC_region ?_
  refine doL_box 2 rfl rfl rfl rfl ?_; intro b2
  refine doL_box 3 rfl rfl rfl rfl ?_; intro b3
  refine doL_v (opV_assign rfl) rfl rfl rfl ?_
  refine doL_nil ?_
  refine post_then ?_
  refine doC_seq ?_
  refine doC_region ?_
  refine doL_v (opV_loadA 2 ty88 rfl rfl rfl) rfl rfl rfl ?_
  refine doL_v (opV_loadA 3 ty88 rfl rfl rfl) rfl rfl rfl ?_
  refine doL_vg (F := vB) (opV_call en103 rfl (fun w _ => iValid2 _ _ _ _  w)) rfl rfl rfl ?_; intro r7 hr7
  refine doL_v (opV_move rfl) rfl rfl rfl ?_
  refine doL_split 8 rfl (fun hg8 => ?_) (fun hg8 => ?_)
  ·
    refine doL_v (opV_fieldAddr fa88_0 rfl) rfl rfl rfl ?_
    refine doL_v (opV_load1 3 ty2 rfl rfl rfl) rfl rfl rfl ?_
    refine doL_v (opV_fieldAddr fa88_0 rfl) rfl rfl rfl ?_
    refine doL_v (opV_load1 2 ty2 rfl rfl rfl) rfl rfl rfl ?_
    refine doL_v (opV_leq rfl rfl) rfl rfl rfl ?_
    refine doL_v (opV_pick_t rfl rfl rfl rfl) rfl rfl rfl ?_
    refine doL_v (opV_move rfl) rfl rfl rfl ?_
    refine doL_split 15 rfl (fun hg15 => ?_) (fun hg15 => ?_)
    ·
      refine doL_v (opV_fieldAddr fa88_1 rfl) rfl rfl rfl ?_
      refine doL_v (opV_load1 2 ty2 rfl rfl rfl) rfl rfl rfl ?_
      refine doL_v (opV_fieldAddr fa88_1 rfl) rfl rfl rfl ?_
      refine doL_v (opV_load1 3 ty2 rfl rfl rfl) rfl rfl rfl ?_
      refine doL_v (opV_leq rfl rfl) rfl rfl rfl ?_
      refine doL_v (opV_pick_t rfl rfl rfl rfl) rfl rfl rfl ?_
      refine doL_v (opV_assign rfl) rfl rfl rfl ?_
      refine doL_nil ?_
      refine post_then ?_
      refine doC_ret ?_
      refine post_rets (rs := [.tmp 4]) rfl (resC (resIs_tmp rfl) (resN)) (congrArg (vB) (?_ : _ = Iv.within (⟨a0, a1⟩ : Iv) (⟨b0, b1⟩ : Iv)))
      subst_vars; first | (simp_all [Iv.within]; done) | (simp_all [Iv.within] <;> omega) | grind [Iv.within]
    ·
      refine doL_skip rfl rfl rfl ?_
      refine doL_skip rfl rfl rfl ?_
      refine doL_skip rfl rfl rfl ?_
      refine doL_skip rfl rfl rfl ?_
      refine doL_skip rfl rfl rfl ?_
      refine doL_v (opV_pick_f rfl rfl rfl rfl) rfl rfl rfl ?_
      refine doL_v (opV_assign rfl) rfl rfl rfl ?_
      refine doL_nil ?_
      refine post_then ?_
      refine doC_ret ?_
      refine post_rets (rs := [.tmp 4]) rfl (resC (resIs_tmp rfl) (resN)) (congrArg (vB) (?_ : _ = Iv.within (⟨a0, a1⟩ : Iv) (⟨b0, b1⟩ : Iv)))
      subst_vars; first | (simp_all [Iv.within]; done) | (simp_all [Iv.within] <;> omega) | grind [Iv.within]
  ·
    refine doL_skip rfl rfl rfl ?_
    refine doL_skip rfl rfl rfl ?_
    refine doL_skip rfl rfl rfl ?_
    refine doL_skip rfl rfl rfl ?_
    refine doL_skip rfl rfl rfl ?_
    refine doL_v (opV_pick_f rfl rfl rfl rfl) rfl rfl rfl ?_
    refine doL_v (opV_move rfl) rfl rfl rfl ?_
    refine doL_skip rfl rfl rfl ?_
    refine doL_skip rfl rfl rfl ?_
    refine doL_skip rfl rfl rfl ?_
    refine doL_skip rfl rfl rfl ?_
    refine doL_skip rfl rfl rfl ?_
    refine doL_v (opV_pick_f rfl rfl rfl rfl) rfl rfl rfl ?_
    refine doL_v (opV_assign rfl) rfl rfl rfl ?_
    refine doL_nil ?_
    refine post_then ?_
    refine doC_ret ?_
    refine post_rets (rs := [.tmp 4]) rfl (resC (resIs_tmp rfl) (resN)) (congrArg (vB) (?_ : _ = Iv.within (⟨a0, a1⟩ : Iv) (⟨b0, b1⟩ : Iv)))
    subst_vars; first | (simp_all [Iv.within]; done) | (simp_all [Iv.within] <;> omega) | grind [Iv.within]
end Go.Proofs.YtfoedaolmmadgaaGreat

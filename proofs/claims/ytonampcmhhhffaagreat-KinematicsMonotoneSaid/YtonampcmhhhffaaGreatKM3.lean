/- Part 3 of the texts behind the last one: rules and contracts. No condition. -/
import Derived.Test.YtonampcmhhhffaaGreatKM2
namespace Go.Sx
def nn : Nat := 340282366920938463463374607431768211456
def uu : Nat := 5192296858534827628530496329220096
def uc : Nat := 340282365357037221779282487371359009126
def us : Nat := 32624163282081701561065576601652201
def w : Nat → Nat × Nat
  | 0 => (nn, 0)
  | n + 1 => (((w n).1 * uc - (w n).2 * us) / nn, ((w n).1 * us + (w n).2 * uc) / nn)
def bx (S C a b c d : Nat) : Bool := Nat.ble (a * 5192296858534827628530496329220096) S && (Nat.ble S (b * 5192296858534827628530496329220096) && (Nat.ble (c * 5192296858534827628530496329220096) C && Nat.ble C (d * 5192296858534827628530496329220096)))
def goU (C' T' : Nat) : Nat → Nat → Nat → Nat → Bool
  | 0, C, T, _ => Nat.beq C C' && Nat.beq T T'
  | k + 1, C, T, x => (valsK x fun a b c d => bx T C a b c d) && (Nat.ble (T * 32624163282081701561065576601652201) (C * 340282365357037221779282487371359009126) && frc ((C * 340282365357037221779282487371359009126 - T * 32624163282081701561065576601652201) / 340282366920938463463374607431768211456) fun C2 => frc ((C * 32624163282081701561065576601652201 + T * 340282365357037221779282487371359009126) / 340282366920938463463374607431768211456) fun T2 => frc (x + 1) fun x2 => goU C' T' k C2 T2 x2)
def goD (C' T' : Nat) : Nat → Nat → Nat → Nat → Bool
  | 0, C, T, _ => Nat.beq C C' && Nat.beq T T'
  | k + 1, C, T, x => (valsK x fun a b c d => bx C T a b c d) && (Nat.ble (T * 32624163282081701561065576601652201) (C * 340282365357037221779282487371359009126) && frc ((C * 340282365357037221779282487371359009126 - T * 32624163282081701561065576601652201) / 340282366920938463463374607431768211456) fun C2 => frc ((C * 32624163282081701561065576601652201 + T * 340282365357037221779282487371359009126) / 340282366920938463463374607431768211456) fun T2 => frc (x - 1) fun x2 => goD C' T' k C2 T2 x2)
structure BoxU (r : Nat) : Prop where
  sl : sLo r * uu ≤ (w r).2
  sh : (w r).2 ≤ sHi r * uu
  cl : cLo r * uu ≤ (w r).1
  ch : (w r).1 ≤ cHi r * uu
  st : (w r).2 * us ≤ (w r).1 * uc
structure BoxD (r : Nat) : Prop where
  sl : sLo (16384 - r) * uu ≤ (w r).1
  sh : (w r).1 ≤ sHi (16384 - r) * uu
  cl : cLo (16384 - r) * uu ≤ (w r).2
  ch : (w r).2 ≤ cHi (16384 - r) * uu
  st : (w r).2 * us ≤ (w r).1 * uc
theorem goU_spec {C' T' : Nat} : ∀ k C T x, goU C' T' k C T x = true → w x = (C, T) → w (x + k) = (C', T') ∧ ∀ i, x ≤ i → i < x + k → BoxU i
  | 0, C, T, x, h, e => by
    simp only [goU, Bool.and_eq_true] at h
    refine ⟨?_, fun i a b => absurd b (by omega)⟩
    rw [Nat.add_zero, e, Nat.eq_of_beq_eq_true h.1, Nat.eq_of_beq_eq_true h.2]
  | k + 1, C, T, x, h, e => by
    simp only [goU, frc_eq, valsK_eq, bx, Bool.and_eq_true] at h
    obtain ⟨⟨h1, h2, h3, h4⟩, h5, h6⟩ := h
    obtain ⟨q1, q2⟩ := goU_spec k _ _ (x + 1) h6 (by rw [w, e]; rfl)
    refine ⟨by rw [← q1]; congr 1; omega, fun i a b => ?_⟩
    by_cases hi : i = x
    · subst hi
      exact ⟨by rw [e]; exact Nat.le_of_ble_eq_true h1, by rw [e]; exact Nat.le_of_ble_eq_true h2, by rw [e]; exact Nat.le_of_ble_eq_true h3, by rw [e]; exact Nat.le_of_ble_eq_true h4, by rw [e]; exact Nat.le_of_ble_eq_true h5⟩
    · exact q2 i (by omega) (by omega)
theorem goD_spec {C' T' : Nat} : ∀ k C T r, r ≤ 16384 → k ≤ 16384 - r → goD C' T' k C T (16384 - r) = true → w r = (C, T) → w (r + k) = (C', T') ∧ ∀ i, r ≤ i → i < r + k → BoxD i
  | 0, C, T, x, _, _, h, e => by
    simp only [goD, Bool.and_eq_true] at h
    refine ⟨?_, fun i a b => absurd b (by omega)⟩
    rw [Nat.add_zero, e, Nat.eq_of_beq_eq_true h.1, Nat.eq_of_beq_eq_true h.2]
  | k + 1, C, T, x, g1, g2, h, e => by
    simp only [goD, frc_eq, valsK_eq, bx, Bool.and_eq_true] at h
    obtain ⟨⟨h1, h2, h3, h4⟩, h5, h6⟩ := h
    rw [show 16384 - x - 1 = 16384 - (x + 1) by omega] at h6
    obtain ⟨q1, q2⟩ := goD_spec k _ _ (x + 1) (by omega) (by omega) h6 (by rw [w, e]; rfl)
    refine ⟨by rw [← q1]; congr 1; omega, fun i a b => ?_⟩
    by_cases hi : i = x
    · subst hi
      exact ⟨by rw [e]; exact Nat.le_of_ble_eq_true h1, by rw [e]; exact Nat.le_of_ble_eq_true h2, by rw [e]; exact Nat.le_of_ble_eq_true h3, by rw [e]; exact Nat.le_of_ble_eq_true h4, by rw [e]; exact Nat.le_of_ble_eq_true h5⟩
    · exact q2 i (by omega) (by omega)
theorem wk0 : goU 338643814315582355912937410983956791763 33353504510164655995148692933346502990 1024 340282366920938463463374607431768211456 0 0 = true := by decide +kernel
theorem wk1 : goU 333743936656827580393945988194117882553 66385796539016198537004233666266150132 1024 338643814315582355912937410983956791763 33353504510164655995148692933346502990 1024 = true := by decide +kernel
theorem wk2 : goU 325629922445073537381874007154866693371 98778757057029163154891549979681820108 1024 333743936656827580393945988194117882553 66385796539016198537004233666266150132 2048 = true := by decide +kernel
theorem wk3 : goU 314379914072750776175968446003616356708 130220424146621615521356287373662035415 1024 325629922445073537381874007154866693371 98778757057029163154891549979681820108 3072 = true := by decide +kernel
theorem wk4 : goU 300102255270364911803307903246760032214 160407997365957196655387116525924829546 1024 314379914072750776175968446003616356708 130220424146621615521356287373662035415 4096 = true := by decide +kernel
theorem wk5 : goU 282934447697145148265594844368147524013 189050753882727566157415671255032869469 1024 300102255270364911803307903246760032214 160407997365957196655387116525924829546 5120 = true := by decide +kernel
theorem wk6 : goU 263041826724899848421390153308517431640 215872848293952797667059038248426017122 1024 282934447697145148265594844368147524013 189050753882727566157415671255032869469 6144 = true := by decide +kernel
theorem wk7 : goU 240615969168004511545033772483698474358 240615969168004511545033772471550468243 1024 263041826724899848421390153308517431640 215872848293952797667059038248426017122 7168 = true := by decide +kernel
theorem wk8 : goD 215872848293952797667059038261706108609 263041826724899848421390153297618474197 1024 240615969168004511545033772483698474358 240615969168004511545033772471550468243 8192 = true := by decide +kernel
theorem wk9 : goD 189050753882727566157415671269317183057 282934447697145148265594844358602552466 1024 215872848293952797667059038261706108609 263041826724899848421390153297618474197 7168 = true := by decide +kernel
theorem wk10 : goD 160407997365957196655387116541075833093 300102255270364911803307903238660947340 1024 189050753882727566157415671269317183057 282934447697145148265594844358602552466 6144 = true := by decide +kernel
theorem wk11 : goD 130220424146621615521356287389533852184 314379914072750776175968445997041138024 1024 160407997365957196655387116541075833093 300102255270364911803307903238660947340 5120 = true := by decide +kernel
theorem wk12 : goD 98778757057029163154891549996121633199 325629922445073537381874007149878648288 1024 130220424146621615521356287389533852184 314379914072750776175968445997041138024 4096 = true := by decide +kernel
theorem wk13 : goD 66385796539016198537004233683115673837 333743936656827580393945988190765036869 1024 98778757057029163154891549996121633199 325629922445073537381874007149878648288 3072 = true := by decide +kernel
theorem wk14 : goD 33353504510164655995148692950443506845 338643814315582355912937410982271427247 1024 66385796539016198537004233683115673837 333743936656827580393945988190765036869 2048 = true := by decide +kernel
theorem wk15 : goD 17179870747 340282366920938463463374607431766555032 1024 33353504510164655995148692950443506845 338643814315582355912937410982271427247 1024 = true := by decide +kernel
theorem ws0 : w 0 = (340282366920938463463374607431768211456, 0) := rfl
theorem ws1 : w 1024 = (338643814315582355912937410983956791763, 33353504510164655995148692933346502990) := (goU_spec 1024 _ _ 0 wk0 ws0).1
theorem ws2 : w 2048 = (333743936656827580393945988194117882553, 66385796539016198537004233666266150132) := (goU_spec 1024 _ _ 1024 wk1 ws1).1
theorem ws3 : w 3072 = (325629922445073537381874007154866693371, 98778757057029163154891549979681820108) := (goU_spec 1024 _ _ 2048 wk2 ws2).1
theorem ws4 : w 4096 = (314379914072750776175968446003616356708, 130220424146621615521356287373662035415) := (goU_spec 1024 _ _ 3072 wk3 ws3).1
theorem ws5 : w 5120 = (300102255270364911803307903246760032214, 160407997365957196655387116525924829546) := (goU_spec 1024 _ _ 4096 wk4 ws4).1
theorem ws6 : w 6144 = (282934447697145148265594844368147524013, 189050753882727566157415671255032869469) := (goU_spec 1024 _ _ 5120 wk5 ws5).1
theorem ws7 : w 7168 = (263041826724899848421390153308517431640, 215872848293952797667059038248426017122) := (goU_spec 1024 _ _ 6144 wk6 ws6).1
theorem ws8 : w 8192 = (240615969168004511545033772483698474358, 240615969168004511545033772471550468243) := (goU_spec 1024 _ _ 7168 wk7 ws7).1
theorem ws9 : w 9216 = (215872848293952797667059038261706108609, 263041826724899848421390153297618474197) := (goD_spec 1024 _ _ 8192 (by decide) (by decide) wk8 ws8).1
theorem ws10 : w 10240 = (189050753882727566157415671269317183057, 282934447697145148265594844358602552466) := (goD_spec 1024 _ _ 9216 (by decide) (by decide) wk9 ws9).1
theorem ws11 : w 11264 = (160407997365957196655387116541075833093, 300102255270364911803307903238660947340) := (goD_spec 1024 _ _ 10240 (by decide) (by decide) wk10 ws10).1
theorem ws12 : w 12288 = (130220424146621615521356287389533852184, 314379914072750776175968445997041138024) := (goD_spec 1024 _ _ 11264 (by decide) (by decide) wk11 ws11).1
theorem ws13 : w 13312 = (98778757057029163154891549996121633199, 325629922445073537381874007149878648288) := (goD_spec 1024 _ _ 12288 (by decide) (by decide) wk12 ws12).1
theorem ws14 : w 14336 = (66385796539016198537004233683115673837, 333743936656827580393945988190765036869) := (goD_spec 1024 _ _ 13312 (by decide) (by decide) wk13 ws13).1
theorem ws15 : w 15360 = (33353504510164655995148692950443506845, 338643814315582355912937410982271427247) := (goD_spec 1024 _ _ 14336 (by decide) (by decide) wk14 ws14).1
theorem boxU {r : Nat} (h : r < 8192) : BoxU r := by
  have hq : (0 ≤ r ∧ r < 1024) ∨ (1024 ≤ r ∧ r < 2048) ∨ (2048 ≤ r ∧ r < 3072) ∨ (3072 ≤ r ∧ r < 4096) ∨ (4096 ≤ r ∧ r < 5120) ∨ (5120 ≤ r ∧ r < 6144) ∨ (6144 ≤ r ∧ r < 7168) ∨ (7168 ≤ r ∧ r < 8192) := by omega
  rcases hq with h | h | h | h | h | h | h | h
  · exact (goU_spec 1024 _ _ 0 wk0 ws0).2 r h.1 h.2
  · exact (goU_spec 1024 _ _ 1024 wk1 ws1).2 r h.1 h.2
  · exact (goU_spec 1024 _ _ 2048 wk2 ws2).2 r h.1 h.2
  · exact (goU_spec 1024 _ _ 3072 wk3 ws3).2 r h.1 h.2
  · exact (goU_spec 1024 _ _ 4096 wk4 ws4).2 r h.1 h.2
  · exact (goU_spec 1024 _ _ 5120 wk5 ws5).2 r h.1 h.2
  · exact (goU_spec 1024 _ _ 6144 wk6 ws6).2 r h.1 h.2
  · exact (goU_spec 1024 _ _ 7168 wk7 ws7).2 r h.1 h.2
theorem boxD {r : Nat} (g : 8192 ≤ r) (h : r < 16384) : BoxD r := by
  have hq : (8192 ≤ r ∧ r < 9216) ∨ (9216 ≤ r ∧ r < 10240) ∨ (10240 ≤ r ∧ r < 11264) ∨ (11264 ≤ r ∧ r < 12288) ∨ (12288 ≤ r ∧ r < 13312) ∨ (13312 ≤ r ∧ r < 14336) ∨ (14336 ≤ r ∧ r < 15360) ∨ (15360 ≤ r ∧ r < 16384) := by omega
  rcases hq with h | h | h | h | h | h | h | h
  · exact (goD_spec 1024 _ _ 8192 (by decide) (by decide) wk8 ws8).2 r h.1 h.2
  · exact (goD_spec 1024 _ _ 9216 (by decide) (by decide) wk9 ws9).2 r h.1 h.2
  · exact (goD_spec 1024 _ _ 10240 (by decide) (by decide) wk10 ws10).2 r h.1 h.2
  · exact (goD_spec 1024 _ _ 11264 (by decide) (by decide) wk11 ws11).2 r h.1 h.2
  · exact (goD_spec 1024 _ _ 12288 (by decide) (by decide) wk12 ws12).2 r h.1 h.2
  · exact (goD_spec 1024 _ _ 13312 (by decide) (by decide) wk13 ws13).2 r h.1 h.2
  · exact (goD_spec 1024 _ _ 14336 (by decide) (by decide) wk14 ws14).2 r h.1 h.2
  · exact (goD_spec 1024 _ _ 15360 (by decide) (by decide) wk15 ws15).2 r h.1 h.2
theorem mid0 : (valsK 8192 fun a b c d => bx 240615969168004511545033772471550468243 240615969168004511545033772483698474358 a b c d) = true := by decide +kernel
theorem mid : sLo 8192 * uu ≤ (w 8192).2 ∧ (w 8192).2 ≤ sHi 8192 * uu := by
  have := mid0
  simp only [valsK_eq, bx, Bool.and_eq_true] at this
  rw [ws8]
  exact ⟨Nat.le_of_ble_eq_true this.1, Nat.le_of_ble_eq_true this.2.1⟩
theorem box {r : Nat} (h : r < 16384) : fLo r * uu ≤ (w r).2 ∧ (w r).2 ≤ fHi r * uu ∧ fLo (16384 - r) * uu ≤ (w r).1 ∧ (w r).1 ≤ fHi (16384 - r) * uu := by
  rcases Nat.lt_or_ge r 8192 with h1 | h1
  · have b := boxU h1
    rw [(fLo_lo (r := r) (by omega)).1, (fLo_lo (r := r) (by omega)).2, (fLo_hi (r := 16384 - r) (by omega)).1, (fLo_hi (r := 16384 - r) (by omega)).2, show 16384 - (16384 - r) = r by omega]
    exact ⟨b.sl, b.sh, b.cl, b.ch⟩
  · have b := boxD h1 h
    rw [(fLo_lo (r := 16384 - r) (by omega)).1, (fLo_lo (r := 16384 - r) (by omega)).2]
    rcases Nat.lt_or_ge 8192 r with h2 | h2
    · rw [(fLo_hi (r := r) (by omega)).1, (fLo_hi (r := r) (by omega)).2]
      exact ⟨b.cl, b.ch, b.sl, b.sh⟩
    · have e : r = 8192 := by omega
      subst e
      rw [(fLo_lo (r := 8192) (by omega)).1, (fLo_lo (r := 8192) (by omega)).2]
      have k := mid
      exact ⟨k.1, k.2, b.sl, b.sh⟩
end Go.Sx
namespace Go.Sx
def WC (r : Nat) : Int := ((w r).1 : Int)
def WT (r : Nat) : Int := ((w r).2 : Int)
theorem w0 : WC 0 = (340282366920938463463374607431768211456 : Int) ∧ WT 0 = 0 := ⟨rfl, rfl⟩
end Go.Sx
namespace Go.Sx
def PS (n : Int) : Int := if n % 65536 / 16384 = 0 then WT (n % 16384).toNat else if n % 65536 / 16384 = 1 then WC (n % 16384).toNat else if n % 65536 / 16384 = 2 then -WT (n % 16384).toNat else -WC (n % 16384).toNat
def PC (n : Int) : Int := PS (n + 16384)
def FF (a b : Int) : Int := PC a * PS b + PS a * PC b - (340282366920938463463374607431768211456 : Int) * PS (a + b)
structure In (I : Iv) (m x : Int) : Prop where
  lo : I.lo * m ≤ x
  hi : x ≤ I.hi * m
def Ok (a : Iv) : Prop := -2147483648 ≤ a.lo ∧ a.lo ≤ a.hi ∧ a.hi ≤ 2147483648
theorem bil {lo hi x : Int} (y : Int) (h1 : lo ≤ x) (h2 : x ≤ hi) : (lo * y ≤ x * y ∨ hi * y ≤ x * y) ∧ (x * y ≤ lo * y ∨ x * y ≤ hi * y) := by
  rcases Int.le_total 0 y with h | h
  · exact ⟨.inl (Int.mul_le_mul_of_nonneg_right h1 h), .inr (Int.mul_le_mul_of_nonneg_right h2 h)⟩
  · exact ⟨.inr (Int.mul_le_mul_of_nonpos_right h2 h), .inl (Int.mul_le_mul_of_nonpos_right h1 h)⟩
theorem mul_prod {a b : Iv} {m k x y : Int} (hm : 0 ≤ m) (hk : 0 ≤ k) (hx : In a m x) (hy : In b k y) :
    min4 (a.lo * b.lo) (a.lo * b.hi) (a.hi * b.lo) (a.hi * b.hi) * (m * k) ≤ x * y ∧ x * y ≤ max4 (a.lo * b.lo) (a.lo * b.hi) (a.hi * b.lo) (a.hi * b.hi) * (m * k) := by
  have hmk : 0 ≤ m * k := Int.mul_nonneg hm hk
  have b1 := bil y hx.lo hx.hi
  have b2 := bil (a.lo * m) hy.lo hy.hi
  have b3 := bil (a.hi * m) hy.lo hy.hi
  rw [show b.lo * k * (a.lo * m) = a.lo * b.lo * (m * k) by grind, show b.hi * k * (a.lo * m) = a.lo * b.hi * (m * k) by grind, Int.mul_comm y] at b2
  rw [show b.lo * k * (a.hi * m) = a.hi * b.lo * (m * k) by grind, show b.hi * k * (a.hi * m) = a.hi * b.hi * (m * k) by grind, Int.mul_comm y] at b3
  have l1 : min4 (a.lo * b.lo) (a.lo * b.hi) (a.hi * b.lo) (a.hi * b.hi) * (m * k) ≤ a.lo * b.lo * (m * k) := Int.mul_le_mul_of_nonneg_right (by unfold min4; omega) hmk
  have l2 : min4 (a.lo * b.lo) (a.lo * b.hi) (a.hi * b.lo) (a.hi * b.hi) * (m * k) ≤ a.lo * b.hi * (m * k) := Int.mul_le_mul_of_nonneg_right (by unfold min4; omega) hmk
  have l3 : min4 (a.lo * b.lo) (a.lo * b.hi) (a.hi * b.lo) (a.hi * b.hi) * (m * k) ≤ a.hi * b.lo * (m * k) := Int.mul_le_mul_of_nonneg_right (by unfold min4; omega) hmk
  have l4 : min4 (a.lo * b.lo) (a.lo * b.hi) (a.hi * b.lo) (a.hi * b.hi) * (m * k) ≤ a.hi * b.hi * (m * k) := Int.mul_le_mul_of_nonneg_right (by unfold min4; omega) hmk
  have u1 : a.lo * b.lo * (m * k) ≤ max4 (a.lo * b.lo) (a.lo * b.hi) (a.hi * b.lo) (a.hi * b.hi) * (m * k) := Int.mul_le_mul_of_nonneg_right (by unfold max4; omega) hmk
  have u2 : a.lo * b.hi * (m * k) ≤ max4 (a.lo * b.lo) (a.lo * b.hi) (a.hi * b.lo) (a.hi * b.hi) * (m * k) := Int.mul_le_mul_of_nonneg_right (by unfold max4; omega) hmk
  have u3 : a.hi * b.lo * (m * k) ≤ max4 (a.lo * b.lo) (a.lo * b.hi) (a.hi * b.lo) (a.hi * b.hi) * (m * k) := Int.mul_le_mul_of_nonneg_right (by unfold max4; omega) hmk
  have u4 : a.hi * b.hi * (m * k) ≤ max4 (a.lo * b.lo) (a.lo * b.hi) (a.hi * b.lo) (a.hi * b.hi) * (m * k) := Int.mul_le_mul_of_nonneg_right (by unfold max4; omega) hmk
  omega
theorem clamp_bnd (z : Int) : -2147483648 ≤ clampI z ∧ clampI z ≤ 2147483648 := by unfold clampI; omega
theorem clamp_mono {x y : Int} (h : x ≤ y) : clampI x ≤ clampI y := by unfold clampI; omega
theorem mul_Ok (a b : Iv) : Ok (Iv.mul a b) := by
  unfold Iv.mul
  cases a.valid && b.valid
  · exact (show Ok ⟨0, 0⟩ by unfold Ok; decide)
  · refine ⟨(clamp_bnd _).1, clamp_mono ?_, (clamp_bnd _).2⟩
    have hc := ceil_spec (a := max4 (a.lo * b.lo) (a.lo * b.hi) (a.hi * b.lo) (a.hi * b.hi)) (b := 65536) (by decide)
    have : min4 (a.lo * b.lo) (a.lo * b.hi) (a.hi * b.lo) (a.hi * b.hi) ≤ max4 (a.lo * b.lo) (a.lo * b.hi) (a.hi * b.lo) (a.hi * b.hi) := by unfold min4 max4; omega
    omega
theorem add_Ok (a b : Iv) : Ok (Iv.add a b) := by
  unfold Iv.add
  cases h : a.valid && b.valid
  · exact (show Ok ⟨0, 0⟩ by unfold Ok; decide)
  · refine ⟨(clamp_bnd _).1, clamp_mono ?_, (clamp_bnd _).2⟩
    simp [Iv.valid] at h; omega
end Go.Sx
namespace Go.Sx
structure V3 where
  x : Iv
  y : Iv
  z : Iv
structure M3 where
  x : V3
  y : V3
  z : V3
structure Po where
  r : M3
  t : V3
structure Z3 where
  x : Int
  y : Int
  z : Int
def v3 (v : V3) : Value := .agg #[.int .i64 v.x.lo, .int .i64 v.x.hi, .int .i64 v.y.lo, .int .i64 v.y.hi, .int .i64 v.z.lo, .int .i64 v.z.hi]
def m3 (v : M3) : Value := .agg #[.int .i64 v.x.x.lo, .int .i64 v.x.x.hi, .int .i64 v.x.y.lo, .int .i64 v.x.y.hi, .int .i64 v.x.z.lo, .int .i64 v.x.z.hi,
  .int .i64 v.y.x.lo, .int .i64 v.y.x.hi, .int .i64 v.y.y.lo, .int .i64 v.y.y.hi, .int .i64 v.y.z.lo, .int .i64 v.y.z.hi,
  .int .i64 v.z.x.lo, .int .i64 v.z.x.hi, .int .i64 v.z.y.lo, .int .i64 v.z.y.hi, .int .i64 v.z.z.lo, .int .i64 v.z.z.hi]
def po (p : Po) : Value := .agg #[.int .i64 p.r.x.x.lo, .int .i64 p.r.x.x.hi, .int .i64 p.r.x.y.lo, .int .i64 p.r.x.y.hi, .int .i64 p.r.x.z.lo, .int .i64 p.r.x.z.hi,
  .int .i64 p.r.y.x.lo, .int .i64 p.r.y.x.hi, .int .i64 p.r.y.y.lo, .int .i64 p.r.y.y.hi, .int .i64 p.r.y.z.lo, .int .i64 p.r.y.z.hi,
  .int .i64 p.r.z.x.lo, .int .i64 p.r.z.x.hi, .int .i64 p.r.z.y.lo, .int .i64 p.r.z.y.hi, .int .i64 p.r.z.z.lo, .int .i64 p.r.z.z.hi,
  .int .i64 p.t.x.lo, .int .i64 p.t.x.hi, .int .i64 p.t.y.lo, .int .i64 p.t.y.hi, .int .i64 p.t.z.lo, .int .i64 p.t.z.hi]
def V3.of (p : Z3) : V3 := ⟨Iv.of p.x, Iv.of p.y, Iv.of p.z⟩
def V3.add (a b : V3) : V3 := ⟨Iv.add a.x b.x, Iv.add a.y b.y, Iv.add a.z b.z⟩
def V3.sub (a b : V3) : V3 := ⟨Iv.sub a.x b.x, Iv.sub a.y b.y, Iv.sub a.z b.z⟩
def V3.neg (a : V3) : V3 := ⟨Iv.neg a.x, Iv.neg a.y, Iv.neg a.z⟩
def V3.within (a b : V3) : Bool := Iv.within a.x b.x && Iv.within a.y b.y && Iv.within a.z b.z
def V3.dot (a b : V3) : Iv := Iv.add (Iv.add (Iv.mul a.x b.x) (Iv.mul a.y b.y)) (Iv.mul a.z b.z)
def M3.apply (m : M3) (v : V3) : V3 := ⟨V3.dot m.x v, V3.dot m.y v, V3.dot m.z v⟩
def limI (x : Int) : Int := min (max x (-65536)) 65536
def limV (a : Iv) : Iv := ⟨limI a.lo, limI a.hi⟩
def M3.tr (m : M3) : M3 := ⟨⟨m.x.x, m.y.x, m.z.x⟩, ⟨m.x.y, m.y.y, m.z.y⟩, ⟨m.x.z, m.y.z, m.z.z⟩⟩
def M3.row (a : V3) (b : M3) : V3 := ⟨limV (V3.dot a b.tr.x), limV (V3.dot a b.tr.y), limV (V3.dot a b.tr.z)⟩
def M3.mul (a b : M3) : M3 := ⟨M3.row a.x b, M3.row a.y b, M3.row a.z b⟩
def M3.within (a b : M3) : Bool := V3.within a.x b.x && V3.within a.y b.y && V3.within a.z b.z
def iv0 : Iv := ⟨0, 0⟩
def iv1 : Iv := ⟨65536, 65536⟩
def M3.unit : M3 := ⟨⟨iv1, iv0, iv0⟩, ⟨iv0, iv1, iv0⟩, ⟨iv0, iv0, iv1⟩⟩
def M3.zero : M3 := ⟨⟨iv0, iv0, iv0⟩, ⟨iv0, iv0, iv0⟩, ⟨iv0, iv0, iv0⟩⟩
def M3.turn (axis : Int) (a : Iv) : M3 := bif !a.valid then M3.zero else
  bif decide (axis = 0) then ⟨⟨iv1, iv0, iv0⟩, ⟨iv0, cosOverI a, Iv.neg (sinOverI a)⟩, ⟨iv0, sinOverI a, cosOverI a⟩⟩ else
  bif decide (axis = 1) then ⟨⟨cosOverI a, iv0, sinOverI a⟩, ⟨iv0, iv1, iv0⟩, ⟨Iv.neg (sinOverI a), iv0, cosOverI a⟩⟩ else
  bif decide (axis = 2) then ⟨⟨cosOverI a, Iv.neg (sinOverI a), iv0⟩, ⟨sinOverI a, cosOverI a, iv0⟩, ⟨iv0, iv0, iv1⟩⟩ else M3.zero
theorem of_one : Iv.of 65536 = iv1 := by kernel_rfl
theorem of_zero : Iv.of 0 = iv0 := by kernel_rfl
theorem add_zero_mul (a b : Iv) : Iv.add ⟨0, 0⟩ (Iv.mul a b) = Iv.mul a b := by
  have h := mul_Ok a b
  have hz : Iv.valid ⟨0, 0⟩ = true := by decide
  simp only [Iv.add, hz, valid_of h, Bool.and_self, cond_true, Int.zero_add]
  unfold Ok at h
  rw [clampI_id (by omega), clampI_id (by omega)]
theorem add_zero_mul' (a b : Iv) : Iv.add ⟨0, 0⟩ ⟨(Iv.mul a b).lo, (Iv.mul a b).hi⟩ = Iv.mul a b := add_zero_mul a b
end Go.Sx
namespace Go.Sx
theorem eq_v3 {a b : V3} (h : a = b) : eqCells [.int .i64 a.x.lo, .int .i64 a.x.hi, .int .i64 a.y.lo, .int .i64 a.y.hi, .int .i64 a.z.lo, .int .i64 a.z.hi] [.int .i64 b.x.lo, .int .i64 b.x.hi, .int .i64 b.y.lo, .int .i64 b.y.hi, .int .i64 b.z.lo, .int .i64 b.z.hi] = true := by
  subst h; simp [eqCells, eqCell]
end Go.Sx
namespace Go.Sx
open Go.RowKit
section
variable {P : Program} {n : Nat} {w0 : Base} {ops : Array Oper} {Q : Exit → Act → World → Prop} {S : Slots} {H : Heap}
variable {d : Nat} {ty : TypeId} {pos : String} {af : Array Edge} {g : Option (Nat × Bool)}
theorem opV_makeFunc {dd : Option Tmp} {fn : Fn} {xs ys : List Operand} {vs us : List Value} (h1 : evs S xs = some vs) (h2 : evs S ys = some us) :
    OpV P w0 S H ⟨dd, .makeFunc fn xs.toArray ys.toArray, ty, pos, af, g⟩ (.func fn vs.toArray us.toArray) := by
  obtain ⟨e1, k1⟩ := evs_spec h1
  obtain ⟨e2, k2⟩ := evs_spec h2
  refine opV_of ?_ rfl fun w _ => ?_
  · simp only [knownB, Op.operands]
    rw [Array.all_eq_true_iff_forall_mem]
    intro x hx
    simp at hx
    rcases hx with hx | hx
    · exact k1 x hx
    · exact k2 x hx
  · simp [execOp, Instr.makeFunc, e1, e2]
theorem opV_loadA_blk {dd : Option Tmp} {t t0 : TypeId} {x : Operand} {b off sz : Nat} {cs vs : List Value} (hb : w0.w.heap[b]? = some (.cells cs.toArray t0)) (hT : tyB P t true sz = true) (hx : ev S x = some (.pointer (some ⟨b, off, none⟩)))
    (hv : sliceV cs off sz = some vs) : OpV P w0 S H ⟨dd, .load t x, ty, pos, af, g⟩ (.agg vs.toArray) := by
  obtain ⟨e, hl⟩ := sliceV_spec hv
  have hl2 : vs.length = sz := by rw [e]; simp; omega
  refine opV_loadA_old hT hx (heap_lt hb) (by rw [hl2]; exact Nat.beq_refl _) fun i hi => ?_
  rw [cell_at hb, e, List.getElem?_take, if_pos hi, List.getElem?_drop]
def NewF (w : World) (mk : Nat → Value) (cs : List Value) (t : TypeId) : Pred := fun u w' => ∃ b, u = mk b ∧ w.heap.size ≤ b ∧ w'.heap[b]? = some (.cells cs.toArray t)
def HasF (mk : Nat → Value) (cs : List Value) (t : TypeId) : Pred := fun u w' => ∃ b, u = mk b ∧ w'.heap[b]? = some (.cells cs.toArray t)
theorem stable_hasF {mk : Nat → Value} {cs : List Value} {t : TypeId} : Stable (HasF mk cs t) := fun _ _ _ ⟨b, h1, h2⟩ gr => ⟨b, h1, by rw [gr.block b (heap_lt h2)]; exact h2⟩
variable {f : FuncId} {xs : List Operand} {ats : Array TypeId} {vs : List Value} {rest : List Oper}
theorem doL_callNewF {mk : Nat → Value} {cs : List Value} {t0 : TypeId} (id : Nat) (he : Enters P f) (ha : evs S xs = some vs) (hc : ∀ w', Knows w0 H w' → Calls P f vs.toArray w' (RetsT (NewF w' mk cs t0) w'))
    (hw : wantedS ops S ⟨some d, .call ⟨.value (.func f), xs.toArray, ats⟩, ty, pos, af, g⟩ = some true) (hn : Nat.blt d n = true)
    (next : ∀ b, DoL P n w0 ops Q rest ((d, mk b) :: S) ((id, b, cs, t0) :: H)) : DoL P n w0 ops Q (⟨some d, .call ⟨.value (.func f), xs.toArray, ats⟩, ty, pos, af, g⟩ :: rest) S H := by
  intro a w' fi k
  unfold wpList
  rw [wanted_fits fi hw, if_pos rfl]
  refine .inl ?_
  unfold Oper.wp
  rw [exec_fits fi (known_evs ha) rfl, call_run he ha]
  simp only [Oper.upon]
  refine (hc w' k).mono fun e w'' ⟨v, he, hg, bb, hv, hlt, hblk⟩ => ?_
  subst he; subst hv
  have k2 := k.next hg
  refine next bb _ _ (fi.put hn _) ⟨k2.grow, fun y hy => ?_, ?_, fun F hF => (k2.facts F hF).heap fun y hy => ?_, k.apart⟩
  · rcases List.mem_cons.1 hy with rfl | hy
    · exact ⟨Nat.le_trans k.grow.size hlt, hblk⟩
    · exact k2.has y hy
  · rw [List.map_cons, List.nodup_cons]
    refine ⟨fun hm => ?_, k.nodup⟩
    obtain ⟨y, hy, hye⟩ := List.mem_map.1 hm
    have := heap_lt (k.has y hy).2
    simp only at hye
    omega
  · rcases List.mem_cons.1 hy with rfl | hy
    · exact .inr fun hd => by have := ((k.facts F hF).at' _ hd).2.1; simp only at this; omega
    · exact .inl ⟨y, hy, rfl⟩
variable {K : Slots → Ghosts → Prop} {G : Ghosts}
theorem doG_callNewF {mk : Nat → Value} {cs : List Value} {t0 : TypeId} (he : Enters P f) (ha : evs S xs = some vs) (hc : ∀ w', Knows w0 H w' → Calls P f vs.toArray w' (RetsT (NewF w' mk cs t0) w'))
    (hw : wantedS ops S ⟨some d, .call ⟨.value (.func f), xs.toArray, ats⟩, ty, pos, af, g⟩ = some true) (hn : Nat.blt d n = true) (hno : look S d = none)
    (next : DoG P n w0 ops H K rest S ((d, false, HasF mk cs t0) :: G)) : DoG P n w0 ops H K (⟨some d, .call ⟨.value (.func f), xs.toArray, ats⟩, ty, pos, af, g⟩ :: rest) S G :=
  doG_t (opT_call he ha fun w' k => (hc w' k).mono fun e w'' ⟨v, h1, h2, b, h3, _, h4⟩ => ⟨v, h1, h2, b, h3, h4⟩) stable_hasF hw rfl hn hno next
theorem doG_callFG {α : Type} {F : α → Value} {x : α} {mk : Nat → Value} {cs : List Value} {t0 : TypeId} {first cap : Nat → List Value} (t : Nat) (hG : lookG G t = some (HasF mk cs t0)) (hmk : ∀ b, mk b = .func (.func f) (first b).toArray (cap b).toArray) (he : Enters P f)
    (ha : ∀ u, evs ((t, u) :: S) xs = some vs) (hc : ∀ b w, Knows w0 H w → w.heap[b]? = some (.cells cs.toArray t0) → Calls P f (first b ++ vs ++ cap b).toArray w (Rets (F x) w))
    (hw : ∀ u, wantedS ops ((t, u) :: S) ⟨some d, .call ⟨.value (.tmp t), xs.toArray, ats⟩, ty, pos, af, g⟩ = some true)
    (hm : t ∈ Oper.looksAt ops ⟨some d, .call ⟨.value (.tmp t), xs.toArray, ats⟩, ty, pos, af, g⟩) (hn : Nat.blt d n = true) (next : ∀ r, r = x → DoG P n w0 ops H K rest ((d, F r) :: S) G) :
    DoG P n w0 ops H K (⟨some d, .call ⟨.value (.tmp t), xs.toArray, ats⟩, ty, pos, af, g⟩ :: rest) S G :=
  doG_g1 t hG rfl (fun u => by
      simp only [knownB, Op.operands, Call.operands]
      rw [Array.all_eq_true_iff_forall_mem]
      intro y hy
      simp at hy
      rcases hy with rfl | hy
      · simp [ev, look_cons_same]
      · exact (evs_spec (ha u)).2 y hy)
    (fun u w k ⟨b, hu, hb⟩ => by
      obtain ⟨e, _⟩ := evs_spec (ha u)
      have h2 : evD ((t, u) :: S) (.tmp t) = .func (.func f) (first b).toArray (cap b).toArray := by
        rw [← hmk, ← hu]
        exact evD_of (by simp [ev, look_cons_same])
      have h3 := he (first b ++ vs ++ cap b).toArray w
      have hrun : (execOp (evD ((t, u) :: S)) ⟨some d, .call ⟨.value (.tmp t), xs.toArray, ats⟩, ty, pos, af, g⟩).run P w = .ok (.enter f (first b ++ vs ++ cap b).toArray) w := by
        simp [execOp, resolve, h2, Deferred.ofValue, invoke, e]
        simpa using h3
      rw [hrun]
      exact ⟨Grow.refl _, (hc b w k hb).mono fun _ _ h => ⟨F x, h.1, h.2, rfl⟩⟩) hw hm rfl hn (next x rfl)
end
end Go.Sx
namespace Go.Sx
def V3.zero : V3 := ⟨iv0, iv0, iv0⟩
def Po.shift (v : V3) : Po := ⟨M3.unit, v⟩
def Po.rest : Po := ⟨M3.unit, V3.zero⟩
def Po.turn (axis : Int) (a : Iv) : Po := ⟨M3.turn axis a, V3.zero⟩
def Po.app (p : Po) (v : V3) : V3 := V3.add p.t (M3.apply p.r v)
def Po.mul (p q : Po) : Po := ⟨M3.mul p.r q.r, Po.app p q.t⟩
def Po.inv (p : Po) : Po := ⟨M3.tr p.r, V3.neg (M3.apply (M3.tr p.r) p.t)⟩
def Po.within (p q : Po) : Bool := M3.within p.r q.r && V3.within p.t q.t
end Go.Sx
namespace Go.Sx
open Go.RowKit
abbrev Facts := List (Nat × (Nat → Prop) × (World → Prop))
def lookR : Facts → Nat → Option ((Nat → Prop) × (World → Prop))
  | [], _ => none
  | (k, x) :: R, i => bif Nat.beq k i then some x else lookR R i
theorem lookR_mem {R : Facts} {i : Nat} {x : (Nat → Prop) × (World → Prop)} (h : lookR R i = some x) : ∃ k, (k, x) ∈ R := by
  induction R with
  | nil => cases h
  | cons y R ih =>
    obtain ⟨k, y⟩ := y
    simp only [lookR] at h
    cases hb : Nat.beq k i with
    | true => rw [hb] at h; simp at h; subst h; exact ⟨k, List.mem_cons_self⟩
    | false => rw [hb] at h; simp at h; obtain ⟨k', hk⟩ := ih h; exact ⟨k', List.mem_cons_of_mem _ hk⟩
def updR : Facts → Nat → (Nat → Prop) → (World → Prop) → Option Facts
  | [], _, _, _ => none
  | (k, x) :: R, i, D, F => bif Nat.beq k i then some ((k, D, F) :: R) else consO (k, x) (updR R i D F)
theorem updR_spec {R R' : Facts} {i : Nat} {D : Nat → Prop} {F : World → Prop} (h : updR R i D F = some R') : ∃ R1 R2 k x, R = R1 ++ (k, x) :: R2 ∧ R' = R1 ++ (k, D, F) :: R2 ∧ lookR R i = some x := by
  induction R generalizing R' with
  | nil => cases h
  | cons y R ih =>
    obtain ⟨k, y⟩ := y
    simp only [updR] at h
    cases hb : Nat.beq k i with
    | true => rw [hb] at h; simp at h; subst h; exact ⟨[], R, k, y, rfl, rfl, by simp [lookR, hb]⟩
    | false =>
      rw [hb] at h
      obtain ⟨R2, h2, rfl⟩ := consO_some h
      obtain ⟨A, B, k', x, e1, e2, e3⟩ := ih h2
      exact ⟨(k, y) :: A, B, k', x, by rw [e1]; rfl, by rw [e2]; rfl, by simp [lookR, hb, e3]⟩
def Holds (w0 : Base) (F : World → Prop) : Prop := ∀ (H : Heap) (w : World), Knows w0 H w → F w
theorem holds_r {w0 : Base} {id : Nat} {D : Nat → Prop} {F : World → Prop} (h : lookR w0.R id = some (D, F)) : Holds w0 F := fun _ _ k => by
  obtain ⟨j, hj⟩ := lookR_mem h
  exact (k.facts _ hj).holds
theorem Holds.imp {w0 : Base} {F G : World → Prop} (h : Holds w0 F) (hi : ∀ w, F w → G w) : Holds w0 G := fun H w k => hi w (h H w k)
def RetsF {X : Type} (Φ : X → Prop) (V : X → Value) (F : X → World → Prop) (w : World) (e : Ending) (w' : World) : Prop := ∃ x, Φ x ∧ e = .returned (V x) ∧ Grow w w' ∧ Told w.heap.size (F x) w'
section
variable {P : Program} {n : Nat} {w0 : Base} {ops : Array Oper} {Q : Exit → Act → World → Prop} {S : Slots} {H : Heap}
variable {d : Nat} {ty : TypeId} {pos : String} {af : Array Edge} {g : Option (Nat × Bool)}
variable {f : FuncId} {xs : List Operand} {ats : Array TypeId} {vs : List Value} {rest : List Oper} {X : Type} {Φ : X → Prop} {V : X → Value} {F : X → World → Prop}
theorem doL_told (id : Nat) (he : Enters P f) (ha : evs S xs = some vs) (hc : ∀ w', Knows w0 H w' → Calls P f vs.toArray w' (RetsF Φ V F w'))
    (hw : wantedS ops S ⟨some d, .call ⟨.value (.func f), xs.toArray, ats⟩, ty, pos, af, g⟩ = some true) (hn : Nat.blt d n = true)
    (next : ∀ x D, Φ x → DoL P n ⟨w0.w, (id, D, F x) :: w0.R⟩ ops Q rest ((d, V x) :: S) H) : DoL P n w0 ops Q (⟨some d, .call ⟨.value (.func f), xs.toArray, ats⟩, ty, pos, af, g⟩ :: rest) S H := by
  intro a w' fi k
  unfold wpList
  rw [wanted_fits fi hw, if_pos rfl]
  refine .inl ?_
  unfold Oper.wp
  rw [exec_fits fi (known_evs ha) rfl, call_run he ha]
  simp only [Oper.upon]
  refine (hc w' k).mono fun e w'' ⟨x, hx, he, hg, D, h1, h2, h3⟩ => ?_
  subst he
  exact next x D hx _ _ (fi.put hn _) (k.tell hg id h1 h2 h3)
variable {B : Base} {b i0 i j : Nat} {sl : Value} {L : List Int}
theorem doL_toldB {H' : Heap} {t0 : TypeId} (id sid : Nat) (hI : IntsAt w0.w w0.w.heap.size sl L) (hH : lookH H sid = some (b, srcC sl L i, t0)) (he : Enters P f) (ha : evs S xs = some vs)
    (hc : ∀ w', Src w' b sl L i → Calls P f vs.toArray w' (RetsF Φ V F (srcW w' b sl L j))) (hu : updH H sid (srcC sl L j) = some H')
    (hw : wantedS ops S ⟨some d, .call ⟨.value (.func f), xs.toArray, ats⟩, ty, pos, af, g⟩ = some true) (hn : Nat.blt d n = true)
    (next : ∀ x D, Φ x → DoL P n ⟨w0.w, (id, D, F x) :: w0.R⟩ ops Q rest ((d, V x) :: S) H') : DoL P n w0 ops Q (⟨some d, .call ⟨.value (.func f), xs.toArray, ats⟩, ty, pos, af, g⟩ :: rest) S H := by
  intro a w' fi k
  unfold wpList
  rw [wanted_fits fi hw, if_pos rfl]
  refine .inl ?_
  unfold Oper.wp
  rw [exec_fits fi (known_evs ha) rfl, call_run he ha]
  simp only [Oper.upon]
  obtain ⟨h1, h2⟩ := k.at hH
  refine (hc w' ⟨⟨t0, h2⟩, intsAt_grow hI k.grow h1⟩).mono fun e w'' ⟨x, hx, he, hg, D, q1, q2, q3⟩ => ?_
  subst he
  exact next x D hx _ _ (fi.put hn _) ((k.set hH hu).tell hg id q1 q2 q3)
def ownD (a : Option Addr) : Nat → Prop := fun k => ∃ ad, a = some ad ∧ ad.block = k
def OwnF (m : Nat) (e : TypeId) (size : Nat) (a : Option Addr) (cap k : Nat) (ys : List Value) : World → Prop := fun w => w.ownsRow m e size (.slice a k cap) k ys
theorem own_dep (m : Nat) (e : TypeId) (size : Nat) (a : Option Addr) (cap k : Nat) (ys : List Value) : Depends (ownD a) (OwnF m e size a cap k ys) := fun w w' h hF => by
  obtain ⟨h1, h2⟩ := hF
  refine ⟨h1, ?_⟩
  rcases h2 with h2 | ⟨gg, cp, cur, hv, h3, h4, h5⟩
  · exact .inl h2
  · refine .inr ⟨gg, cp, cur, hv, h3, ?_, h5⟩
    simp only [Value.slice.injEq] at hv
    rw [h gg ⟨_, hv.1, rfl⟩]
    exact h4
theorem doC_own {c : Code} (id : Nat) (e : TypeId) (size : Nat) (h : DoC P n ⟨w0.w, (id, ownD none, OwnF 0 e size none 0 0 []) :: w0.R⟩ Q c S H) : DoC P n w0 Q c S H := fun a w f k =>
  h a w f ⟨k.grow, k.has, k.nodup, fun x hx => by
    rcases List.mem_cons.1 hx with rfl | hx
    · exact ⟨own_dep _ _ _ _ _ _ _, fun j ⟨_, hj, _⟩ => (by cases hj), World.ownsRow_nil _ _ _ _⟩
    · exact k.facts x hx, List.Pairwise.cons (fun y _ j ⟨_, hj, _⟩ => by cases hj) k.apart⟩
theorem doC_ownA {c : Code} (id : Nat) (e : TypeId) (size : Nat) (h : DoC P n (srcB ⟨B.w, (id, ownD none, OwnF 0 e size none 0 0 []) :: B.R⟩ b sl L i) Q c S H) : DoC P n (srcB B b sl L i) Q c S H := by
  exact doC_own id e size h
def appB (P : Program) (t e size bytes : Nat) : Bool :=
  match P.underlying t, P.info? e with
  | some (.slice e'), some i => e' == e && i.size == size && i.bytes == bytes && Nat.blt 0 size && (match i.zero with | some z => z.cells.size == size | none => false)
  | _, _ => false
theorem run_append1 {w : World} {t e size bytes base : Nat} {ty : TypeId} (hB : appB P t e size bytes = true) {v : Value} {k : Nat} {ys : List Value} (hown : w.ownsRow base e size v k ys)
    {ad : Addr} {m c : Nat} {news : List Value} (hm : 0 < m) (hl : news.length = m * size) (hnews : ∀ j u, news[j]? = some u → w.cell? (ad.add j) = some u) (h1 : ∀ u ∈ news, u.oneCell' = true)
    (h63 : k + m ≤ 9223372036854775807) (hby : (k + m) * bytes ≤ 140737488355328) (hbase : base ≤ w.heap.size) :
    ∃ gg cap w', (Builtin.append_ #[t, t] ty #[v, .slice (some ad) m c]).run P w = .ok (.slice (some ⟨gg, 0, none⟩) (k + m) cap) w' ∧ w'.ownsRow base e size (.slice (some ⟨gg, 0, none⟩) (k + m) cap) (k + m) (ys ++ news) ∧ w.grownBy w' v.ownBlock ∧
      (v.ownBlock = some gg ∨ w.heap.size ≤ gg) := by
  unfold appB at hB
  cases hu : P.underlying t with
  | none => simp [hu] at hB
  | some ds =>
    cases ds <;> simp [hu] at hB
    rename_i e'
    cases hi : P.info? e with
    | none => simp [hi] at hB
    | some i =>
      simp [hi] at hB
      obtain ⟨⟨⟨⟨rfl, h2⟩, h3⟩, h4⟩, h5⟩ := hB
      cases hz : i.zero with
      | none => simp [hz] at h5
      | some z =>
        simp [hz] at h5
        have hmax : maxLen = 9223372036854775807 := rfl
        obtain ⟨v', w', hr, ho, hg, hiff⟩ := run_append_own (P := P) w base t ty e' i z size bytes hu hi hz h2 h3 h5 h4 v k ys hown ad m c news hl hnews h1 (by omega) hby hbase
        rcases ho.2 with ⟨rfl, h0⟩ | ⟨gg, cap, cur, rfl, hbg, hgg, _⟩
        · omega
        · refine ⟨gg, cap, w', hr, ho, hg, ?_⟩
          rcases Nat.lt_or_ge gg w.heap.size with hlt | hge
          · left
            -- the block lay there before: it is the slice's own
            subst h2
            rcases hown.2 with ⟨rfl, hk0⟩ | ⟨g0, cap0, cur0, rfl, hb0, hg0, hkc, hcm, hcs, htake⟩
            · exfalso
              have hr2 := run_append_nil (P := P) w t ty e' i z hu hi hz ad m c news hl hnews hm (by omega) (by have := hby; subst hk0; subst h3; rw [Nat.zero_add] at this; omega)
              rw [hr] at hr2
              simp only [Result.ok.injEq, Value.slice.injEq, Option.some.injEq, Addr.mk.injEq] at hr2
              omega
            · by_cases hroom : k + m ≤ cap0
              · have hfit : k * i.size + news.length ≤ cur0.size := by rw [hl, hcs, ← Nat.add_mul]; exact Nat.mul_le_mul_right _ hroom
                have hr2 := run_append_room (P := P) w t ty e' i hu hi g0 k cap0 cur0 hg0 ad m c news hl hnews h1 hroom hfit
                rw [hr] at hr2
                simp only [Result.ok.injEq, Value.slice.injEq, Option.some.injEq, Addr.mk.injEq] at hr2
                simp [Value.ownBlock, hr2.1.1.1]
              · exfalso
                have holds : ∀ j u, ys[j]? = some u → w.cell? ((⟨g0, 0, none⟩ : Addr).add j) = some u := hown.cells (g := g0) rfl
                subst h3
                have hr2 := run_append_grow (P := P) w t ty e' i z hu hi hz ⟨g0, 0, none⟩ k cap0 ys hown.1 holds ad m c news hl hnews (by omega) (by omega) (growslice_fits (by omega) hby)
                rw [hr] at hr2
                simp only [Result.ok.injEq, Value.slice.injEq, Option.some.injEq, Addr.mk.injEq] at hr2
                omega
          · exact .inr hge
theorem Knows.append {w w' : World} {R' : Facts} {id e size cap cap' k m gg : Nat} {a : Option Addr} {ys news : List Value} (hk : Knows w0 H w) (hR : lookR w0.R id = some (ownD a, OwnF 0 e size a cap k ys))
    (ho : w'.ownsRow 0 e size (.slice (some ⟨gg, 0, none⟩) (k + m) cap') (k + m) (ys ++ news)) (hg : w.grownBy w' (Value.slice a k cap).ownBlock)
    (hgg : (Value.slice a k cap).ownBlock = some gg ∨ w.heap.size ≤ gg) (hu : updR w0.R id (ownD (some ⟨gg, 0, none⟩)) (OwnF 0 e size (some ⟨gg, 0, none⟩) cap' (k + m) (ys ++ news)) = some R') : Knows ⟨w0.w, R'⟩ H w' := by
  obtain ⟨R1, R2, kk, x, e1, e2, e3⟩ := updR_spec hu
  rw [hR] at e3
  cases e3
  have hmem : (kk, ownD a, OwnF 0 e size a cap k ys) ∈ w0.R := by rw [e1]; simp
  have hfa := hk.facts _ hmem
  have blk : ∀ q, (Value.slice a k cap).ownBlock = some q → ownD a q := fun q hq => by
    cases a with
    | none => simp [Value.ownBlock] at hq
    | some ad => simp [Value.ownBlock] at hq; exact ⟨ad, rfl, hq⟩
  have hlow : ∀ q, q < w.heap.size → ¬ ownD a q → w'.heap[q]? = w.heap[q]? := fun q hq hn => hg.block q hq fun e => hn (blk q e.symm)
  have hgt : gg < w'.heap.size := by
    rcases ho.2 with ⟨h, _⟩ | ⟨g', c', cur, h, _, h4, _⟩
    · simp at h
    · simp only [Value.slice.injEq, Option.some.injEq, Addr.mk.injEq, and_true] at h
      rw [h.1]
      exact heap_lt h4
  have hgm : w0.w.heap.size ≤ gg := by
    rcases hgg with h | h
    · exact (hfa.at' gg (blk gg h)).1
    · exact Nat.le_trans hk.grow.size h
  have hap := hk.apart
  rw [e1] at hap
  have hap1 := List.pairwise_append.1 hap
  have hap2 := List.pairwise_cons.1 hap1.2.1
  -- the new block is none of another fact's
  have others : ∀ y ∈ R1 ++ R2, ¬ y.2.1 gg := fun y hy hd => by
    have hy0 : y ∈ w0.R := by
      rw [e1]
      rcases List.mem_append.1 hy with h | h
      · exact List.mem_append_left _ h
      · exact List.mem_append_right _ (List.mem_cons_of_mem _ h)
    rcases hgg with h | h
    · rcases List.mem_append.1 hy with h' | h'
      · exact hap1.2.2 y h' _ List.mem_cons_self gg hd (blk gg h)
      · exact hap2.1 y h' gg (blk gg h) hd
    · have := ((hk.facts y hy0).at' gg hd).2.1
      omega
  have keepF : ∀ y ∈ R1 ++ R2, RFact w0.w.heap.size H y.2.1 y.2.2 w' := fun y hy => by
    have hy0 : y ∈ w0.R := by
      rw [e1]
      rcases List.mem_append.1 hy with h | h
      · exact List.mem_append_left _ h
      · exact List.mem_append_right _ (List.mem_cons_of_mem _ h)
    obtain ⟨q1, q2, q3⟩ := hk.facts y hy0
    refine ⟨q1, fun q hq => ⟨(q2 q hq).1, Nat.lt_of_lt_of_le (q2 q hq).2.1 hg.size, (q2 q hq).2.2⟩, q1 w w' (fun q hq => hlow q (q2 q hq).2.1 fun ho' => ?_) q3⟩
    rcases List.mem_append.1 hy with h' | h'
    · exact hap1.2.2 y h' _ List.mem_cons_self q hq ho'
    · exact hap2.1 y h' q ho' hq
  refine ⟨⟨hg.os.trans hk.grow.os, hg.tape.trans hk.grow.tape, hg.output.trans hk.grow.output, Nat.le_trans hk.grow.size hg.size, fun q hq => ?_⟩, fun y hy => ⟨(hk.has y hy).1, ?_⟩, hk.nodup, fun y hy => ?_, ?_⟩
  · have hq' : q < w0.w.heap.size := hq
    rw [hlow q (Nat.lt_of_lt_of_le hq' hk.grow.size) fun hd => by have := (hfa.at' q hd).1; omega]
    exact hk.grow.block q hq'
  · rw [hlow _ (heap_lt (hk.has y hy).2) fun hd => (hfa.at' _ hd).2.2 y hy rfl]
    exact (hk.has y hy).2
  · rw [show (⟨w0.w, R'⟩ : Base).R = R' from rfl, e2] at hy
    rcases List.mem_append.1 hy with h | h
    · exact keepF y (List.mem_append_left _ h)
    · rcases List.mem_cons.1 h with rfl | h
      · refine ⟨own_dep _ _ _ _ _ _ _, fun q ⟨ad, had, hq⟩ => ?_, ho⟩
        simp only [Option.some.injEq] at had
        subst had
        simp only at hq
        subst hq
        refine ⟨hgm, hgt, fun y hy e => ?_⟩
        rcases hgg with h | h
        · exact (hfa.at' gg (blk gg h)).2.2 y hy e
        · have := hk.lt y hy
          omega
      · exact keepF y (List.mem_append_right _ h)
  · show R'.Pairwise _
    rw [e2]
    refine List.pairwise_append.2 ⟨hap1.1, List.pairwise_cons.2 ⟨fun y hy q ⟨ad, had, hq⟩ hd => ?_, hap2.2⟩, fun y hy z hz q hyq hzq => ?_⟩
    · simp only [Option.some.injEq] at had
      subst had
      simp only at hq
      subst hq
      exact others y (List.mem_append_right _ hy) hd
    · rcases List.mem_cons.1 hz with rfl | hz
      · obtain ⟨ad, had, hq⟩ := hzq
        simp only [Option.some.injEq] at had
        subst had
        simp only at hq
        subst hq
        exact others y (List.mem_append_left _ hy) hyq
      · exact hap1.2.2 y hy z (List.mem_cons_of_mem _ hz) q hyq hzq
theorem append_step {t e size bytes id cap k m b2 c2 : Nat} {e2 : TypeId} {a : Option Addr} {ys news : List Value} {x y : Operand} {act : Act} {w : World} (hB : appB P t e size bytes = true) (hR : lookR w0.R id = some (ownD a, OwnF 0 e size a cap k ys))
    (hx : ev S x = some (.slice a k cap)) (hy : ev S y = some (.slice (some ⟨b2, 0, none⟩) m c2)) (hblk : w.heap[b2]? = some (.cells news.toArray e2)) (hm : Nat.blt 0 m = true) (hl : Nat.beq news.length (m * size) = true) (h1 : news.all Value.oneCell' = true)
    (h63 : k + m ≤ 9223372036854775807) (hby : (k + m) * bytes ≤ 140737488355328) (fi : Fits n S act) (hk : Knows w0 H w)
    (hw : wantedS ops S ⟨some d, .call ⟨.builtin .append, #[x, y], #[t, t]⟩, ty, pos, af, g⟩ = some true) (hn : Nat.blt d n = true)
    (next : ∀ a' cap' R' act' w', updR w0.R id (ownD a') (OwnF 0 e size a' cap' (k + m) (ys ++ news)) = some R' → Fits n ((d, .slice a' (k + m) cap') :: S) act' → Knows ⟨w0.w, R'⟩ H w' → wpList P ops Q rest act' w') :
    wpList P ops Q (⟨some d, .call ⟨.builtin .append, #[x, y], #[t, t]⟩, ty, pos, af, g⟩ :: rest) act w := by
  obtain ⟨kk, hmem⟩ := lookR_mem hR
  have hown : w.ownsRow 0 e size (.slice a k cap) k ys := (hk.facts _ hmem).holds
  have hl' := Nat.eq_of_beq_eq_true hl
  have hm' : 0 < m := by simpa using hm
  obtain ⟨gg, cap', w', hr, ho, hg, hgg⟩ := run_append1 (P := P) (ty := ty) hB hown (ad := ⟨b2, 0, none⟩) (c := c2) hm' hl' (fun j u hu => by
      rw [add_addr, cell_at hblk, Nat.zero_add]; exact hu) (fun u hu => List.all_eq_true.1 h1 u hu) h63 hby (Nat.zero_le _)
  obtain ⟨R', hR'⟩ : ∃ R', updR w0.R id (ownD (some ⟨gg, 0, none⟩)) (OwnF 0 e size (some ⟨gg, 0, none⟩) cap' (k + m) (ys ++ news)) = some R' := by
    have : ∀ R : Facts, lookR R id = some (ownD a, OwnF 0 e size a cap k ys) → ∃ R', updR R id (ownD (some ⟨gg, 0, none⟩)) (OwnF 0 e size (some ⟨gg, 0, none⟩) cap' (k + m) (ys ++ news)) = some R' := by
      intro R
      induction R with
      | nil => intro h; cases h
      | cons z R ih =>
        obtain ⟨q, z⟩ := z
        intro h
        simp only [lookR] at h
        simp only [updR]
        cases hb : Nat.beq q id with
        | true => exact ⟨_, rfl⟩
        | false =>
          rw [hb] at h
          obtain ⟨R2, h2⟩ := ih h
          exact ⟨_, by simp only [h2, consO]; rfl⟩
    exact this _ hR
  unfold wpList
  rw [wanted_fits fi hw, if_pos rfl]
  refine .inl ?_
  unfold Oper.wp
  have hrun : (execOp act.eval ⟨some d, .call ⟨.builtin .append, #[x, y], #[t, t]⟩, ty, pos, af, g⟩).run P w = .ok (.value (.slice (some ⟨gg, 0, none⟩) (k + m) cap')) w' := by
    simp [execOp, resolve, invoke, builtin, fi.ev hx, fi.ev hy, hr]
  rw [hrun]
  exact next _ _ R' _ _ hR' (fi.put hn _) (hk.append hR ho hg hgg hR')
theorem doL_append {t e size bytes id2 cap k m b2 c2 : Nat} {e2 : TypeId} {a : Option Addr} {ys news : List Value} {x y : Operand} (id : Nat) (hB : appB P t e size bytes = true) (hR : lookR w0.R id = some (ownD a, OwnF 0 e size a cap k ys))
    (hx : ev S x = some (.slice a k cap)) (hy : ev S y = some (.slice (some ⟨b2, 0, none⟩) m c2)) (hH : lookH H id2 = some (b2, news, e2)) (hm : Nat.blt 0 m = true) (hl : Nat.beq news.length (m * size) = true) (h1 : news.all Value.oneCell' = true)
    (h63 : k + m ≤ 9223372036854775807) (hby : (k + m) * bytes ≤ 140737488355328)
    (hw : wantedS ops S ⟨some d, .call ⟨.builtin .append, #[x, y], #[t, t]⟩, ty, pos, af, g⟩ = some true) (hn : Nat.blt d n = true)
    (next : ∀ a' cap' R', updR w0.R id (ownD a') (OwnF 0 e size a' cap' (k + m) (ys ++ news)) = some R' → DoL P n ⟨w0.w, R'⟩ ops Q rest ((d, .slice a' (k + m) cap') :: S) H) :
    DoL P n w0 ops Q (⟨some d, .call ⟨.builtin .append, #[x, y], #[t, t]⟩, ty, pos, af, g⟩ :: rest) S H := fun act w fi hk =>
  append_step hB hR hx hy (hk.at hH).2 hm hl h1 h63 hby fi hk hw hn fun a' cap' R' act' w' h2 h3 h4 => next a' cap' R' h2 act' w' h3 h4
def AllIn (S : Slots) : Slots → Prop
  | [] => True
  | (t, v) :: r => look S t = some v ∧ AllIn S r
theorem Fits.all {S' : Slots} {a : Act} (f : Fits n S a) (h : AllIn S S') : Fits n S' a := by
  refine ⟨f.size, f.defers, fun t v ht => f.has t v ?_⟩
  induction S' with
  | nil => cases ht
  | cons x S' ih =>
    obtain ⟨k, u⟩ := x
    by_cases e : k = t
    · subst e
      rw [look_cons_same] at ht
      cases ht
      exact h.1
    · rw [look_cons_ne _ _ e] at ht
      exact ih h.2 ht
def AllInH (H : Heap) : Heap → Prop
  | [] => True
  | (k, x) :: r => lookH H k = some x ∧ AllInH H r
theorem lookH_at {H : Heap} {i : Nat} {x : Nat × List Value × TypeId} (h : lookH H i = some x) : (i, x) ∈ H := by
  induction H with
  | nil => cases h
  | cons y H ih =>
    obtain ⟨k, y⟩ := y
    simp only [lookH] at h
    cases hb : Nat.beq k i with
    | true =>
      rw [hb] at h; simp at h; subst h
      rw [Nat.eq_of_beq_eq_true hb]
      exact List.mem_cons_self
    | false => rw [hb] at h; simp at h; exact List.mem_cons_of_mem _ (ih h)
theorem heap_uniq : ∀ {H : Heap}, (H.map (·.2.1)).Nodup → ∀ p ∈ H, ∀ q ∈ H, p.2.1 = q.2.1 → p = q := by
  intro H
  induction H with
  | nil => intro _ p hp; cases hp
  | cons z H ih =>
    intro nd p hp q hq e
    rw [List.map_cons, List.nodup_cons] at nd
    rcases List.mem_cons.1 hp with p1 | p1
    · rcases List.mem_cons.1 hq with q1 | q1
      · rw [p1, q1]
      · exact absurd (List.mem_map.2 ⟨q, q1, by rw [← e, p1]⟩) nd.1
    · rcases List.mem_cons.1 hq with q1 | q1
      · exact absurd (List.mem_map.2 ⟨p, p1, by rw [e, q1]⟩) nd.1
      · exact ih nd.2 p p1 q q1 e
def idsB : Heap → Bool
  | [] => true
  | (k, _) :: r => !(r.any fun x => Nat.beq x.1 k) && idsB r
theorem Knows.all {w : World} {H' : Heap} (k : Knows w0 H w) (h : AllInH H H') (hp : idsB H' = true) : Knows w0 H' w := by
  have hm : ∀ x ∈ H', lookH H x.1 = some x.2 := by
    clear hp
    induction H' with
    | nil => intro x hx; cases hx
    | cons z H' ih =>
      intro x hx
      rcases List.mem_cons.1 hx with rfl | hx
      · exact h.1
      · exact ih h.2 x hx
  have nd : (H'.map (·.2.1)).Nodup := by
    clear h
    induction H' with
    | nil => exact List.nodup_nil
    | cons z H' ih =>
      obtain ⟨kz, z⟩ := z
      simp only [idsB, Bool.and_eq_true, Bool.not_eq_true'] at hp
      rw [List.map_cons, List.nodup_cons]
      refine ⟨fun hz => ?_, ih hp.2 fun x hx => hm x (List.mem_cons_of_mem _ hx)⟩
      obtain ⟨y, hy, he⟩ := List.mem_map.1 hz
      have h1 := lookH_at (hm _ List.mem_cons_self)
      have h2 := lookH_at (hm _ (List.mem_cons_of_mem _ hy))
      have h3 := heap_uniq k.nodup _ h2 _ h1 he
      have h4 : y.1 = kz := congrArg Prod.fst h3
      have h5 := List.any_eq_false.1 hp.1 y hy
      rw [h4] at h5
      simp at h5
  refine ⟨k.grow, fun x hx => ?_, nd, fun F hF => (k.facts F hF).heap fun x hx => ?_, k.apart⟩
  · obtain ⟨kx, b, cs, t⟩ := x
    exact k.at (hm _ hx)
  · obtain ⟨l, hl⟩ := lookH_mem (hm x hx)
    exact .inl ⟨_, hl, rfl⟩
theorem AllIn.app {A C : Slots} (h : AllIn S A) (h' : AllIn S C) : AllIn S (A ++ C) := by
  induction A with
  | nil => exact h'
  | cons x A ih => exact ⟨h.1, ih h.2⟩
theorem keepS_all {ks : List Nat} {S' : Slots} (h : keepS ks S = some S') : AllIn S S' := by
  have hs := keepS_spec h
  -- each entry of a kept list is looked up as itself
  have own : ∀ (ks : List Nat) (S S' : Slots), keepS ks S = some S' → ∀ A C t v, S' = A ++ (t, v) :: C → look S' t = some v := by
    intro ks S
    induction S generalizing ks with
    | nil => intro S' h A C t v e; simp [keepS] at h; subst h; simp at e
    | cons x S ih =>
      obtain ⟨k, u⟩ := x
      intro S' h A C t v e
      simp only [keepS] at h
      cases hb : ks.any (Nat.beq k) with
      | false => rw [hb] at h; simp at h; exact ih ks S' h A C t v e
      | true =>
        rw [hb] at h
        obtain ⟨S2, h2, rfl⟩ := consO_some h
        cases A with
        | nil =>
          simp only [List.nil_append, List.cons.injEq, Prod.mk.injEq] at e
          obtain ⟨⟨rfl, rfl⟩, _⟩ := e
          exact look_cons_same _ _ _
        | cons y A =>
          simp only [List.cons_append, List.cons.injEq] at e
          have h3 := ih _ S2 h2 A C t v e.2
          have hne : k ≠ t := fun hk => by
            have := (keepS_spec h2 t v h3).2
            rw [List.mem_filter] at this
            have h4 := this.2
            rw [hk] at h4
            simp at h4
          rw [look_cons_ne _ _ hne]
          exact h3
  have all : ∀ C : Slots, (∀ A, S' = A ++ C → AllIn S C) := by
    intro C
    induction C with
    | nil => intro _ _; trivial
    | cons x C ih =>
      intro A e
      obtain ⟨t, v⟩ := x
      exact ⟨(hs t v (own ks S S' h A C t v e)).1, ih (A ++ [(t, v)]) (by rw [e]; simp)⟩
  exact all S' [] rfl
def Again {α : Type} (n : Nat) (μ : α → Nat) (I : α → Prop) (Wb : α → Base) (St : α → Slots) (He : α → Heap) (a : α) : Act → World → Prop := fun act w => ∃ a', I a' ∧ μ a' < μ a ∧ Fits n (St a') act ∧ Knows (Wb a') (He a') w
theorem doC_loop {α : Type} {c : Code} {μ : α → Nat} {I : α → Prop} {Wb : α → Base} {St : α → Slots} {He : α → Heap}
    (h : ∀ a, I a → DoC P n (Wb a) (Exit.then (Again n μ I Wb St He a) Q) c (St a) (He a)) : ∀ a, I a → DoC P n (Wb a) Q (.loop c) (St a) (He a) := by
  have key : ∀ (N : Nat) (a : α), I a → μ a < N → ∀ act w, Fits n (St a) act → Knows (Wb a) (He a) w → Code.rounds P c Q N act w := by
    intro N
    induction N with
    | zero => intro a _ hlt; omega
    | succ N ih =>
      intro a ha hlt act w hf hk
      rw [rounds_succ]
      refine wp_mono (h a ha act w hf hk) fun e act' w' hq => ?_
      cases e with
      | normal =>
        obtain ⟨a', h1, h2, h3, h4⟩ := hq
        exact ih a' h1 (by omega) act' w' h3 h4
      | _ => exact hq
  exact fun a ha act w hf hk => wp_loop_rounds (μ a + 1) (key (μ a + 1) a ha (by omega) act w hf hk)
theorem post_again {α : Type} {μ : α → Nat} {I : α → Prop} {Wb : α → Base} {St : α → Slots} {He : α → Heap} {a : α} {w1 : Base} (a' : α) (hI : I a') (hμ : μ a' < μ a) (hb : w1 = Wb a') (hS : AllIn S (St a')) (hH : AllInH H (He a')) (hid : idsB (He a') = true) :
    PostAt n w1 (Exit.then (Again n μ I Wb St He a) Q) .normal S H := fun act w f k => by
  subst hb
  exact ⟨a', hI, hμ, f.all hS, k.all hH hid⟩
theorem doC_sub {c : Code} {S' : Slots} {H' : Heap} (hS : AllIn S S') (hH : AllInH H H') (hid : idsB H' = true) (h : DoC P n w0 Q c S' H') : DoC P n w0 Q c S H := fun a w f k => h a w (f.all hS) (k.all hH hid)
def remH : Heap → Nat → Option Heap
  | [], _ => none
  | (k, x) :: H, i => bif Nat.beq k i then some H else consO (k, x) (remH H i)
theorem remH_spec {H H' : Heap} {i : Nat} (h : remH H i = some H') : ∃ A C x, H = A ++ (i, x) :: C ∧ H' = A ++ C ∧ lookH H i = some x := by
  induction H generalizing H' with
  | nil => cases h
  | cons y H ih =>
    obtain ⟨k, y⟩ := y
    simp only [remH] at h
    cases hb : Nat.beq k i with
    | true =>
      rw [hb] at h; simp at h; subst h
      have := Nat.eq_of_beq_eq_true hb
      subst this
      exact ⟨[], H, y, rfl, rfl, by simp [lookH]⟩
    | false =>
      rw [hb] at h
      obtain ⟨H2, h2, rfl⟩ := consO_some h
      obtain ⟨A, C, x, e1, e2, e3⟩ := ih h2
      exact ⟨(k, y) :: A, C, x, by rw [e1]; rfl, by rw [e2]; rfl, by simp [lookH, hb, e3]⟩
theorem Knows.toOwn {w : World} {H' : Heap} {id bb len e size : Nat} {cs : List Value} (k : Knows w0 H w) (hH : lookH H id = some (bb, cs, e)) (hr : remH H id = some H') (hl : Nat.beq cs.length (len * size) = true) (hm : Nat.ble len 9223372036854775807 = true) :
    Knows ⟨w0.w, (id, ownD (some ⟨bb, 0, none⟩), OwnF 0 e size (some ⟨bb, 0, none⟩) len len cs) :: w0.R⟩ H' w := by
  obtain ⟨A, C, x, e1, e2, e3⟩ := remH_spec hr
  rw [hH] at e3
  cases e3
  have hat := k.at hH
  have hsub : H'.Sublist H := by rw [e1, e2]; exact List.Sublist.append_left (List.sublist_cons_self _ _) _
  have hno : ∀ y ∈ H', y.2.1 ≠ bb := fun y hy e => by
    have nd := k.nodup
    rw [e1, List.map_append, List.map_cons] at nd
    rw [e2] at hy
    have h1 := List.nodup_append.1 nd
    have h2 := List.nodup_cons.1 h1.2.1
    rcases List.mem_append.1 hy with h | h
    · exact h1.2.2 y.2.1 (List.mem_map.2 ⟨y, h, rfl⟩) bb List.mem_cons_self e
    · exact h2.1 (List.mem_map.2 ⟨y, h, e⟩)
  have hl' := Nat.eq_of_beq_eq_true hl
  have hm' := Nat.le_of_ble_eq_true hm
  have hmax : maxLen = 9223372036854775807 := rfl
  refine ⟨k.grow, fun y hy => k.has y (hsub.mem hy), (hsub.map _).nodup k.nodup, fun y hy => ?_, List.Pairwise.cons (fun y hy q ⟨ad, h1, h2⟩ hd => ?_) k.apart⟩
  · rcases List.mem_cons.1 hy with rfl | hy
    · refine ⟨own_dep _ _ _ _ _ _ _, fun q ⟨ad, h1, h2⟩ => ?_, ⟨hl', .inr ⟨bb, len, cs.toArray, rfl, Nat.zero_le _, hat.2, Nat.le_refl _, by omega, by simpa using hl', by rw [← hl']; simp⟩⟩⟩
      simp only [Option.some.injEq] at h1
      subst h1
      simp only at h2
      subst h2
      exact ⟨hat.1, heap_lt hat.2, fun y hy e => hno y hy e⟩
    · exact (k.facts y hy).heap fun z hz => .inl ⟨z, hsub.mem hz, rfl⟩
  · simp only [Option.some.injEq] at h1
    subst h1
    simp only at h2
    subst h2
    exact ((k.facts y hy).at' _ hd).2.2 _ (lookH_at hH) rfl
theorem doC_toOwn {c : Code} {H' : Heap} {bb e : Nat} {cs : List Value} (id len size : Nat) (hH : lookH H id = some (bb, cs, e)) (hr : remH H id = some H') (hl : Nat.beq cs.length (len * size) = true) (hm : Nat.ble len 9223372036854775807 = true)
    (h : DoC P n ⟨w0.w, (id, ownD (some ⟨bb, 0, none⟩), OwnF 0 e size (some ⟨bb, 0, none⟩) len len cs) :: w0.R⟩ Q c S H') : DoC P n w0 Q c S H := fun a w f k => h a w f (k.toOwn hH hr hl hm)
theorem doC_loopK {α : Type} {c : Code} {Sf : Slots} {Hf : Heap} (ks ids : List Nat) (μ : α → Nat) (I : α → Prop) (Wb : α → Base) (chg : α → Slots) (chgH : α → Heap) (a0 : α) (hK : keepS ks S = some Sf) (hKH : keepH ids H = some Hf) (h0 : I a0) (hb : w0 = Wb a0) (hS : AllIn S (chg a0)) (hH : AllInH H (chgH a0 ++ Hf)) (hid : idsB (chgH a0 ++ Hf) = true)
    (round : ∀ a, I a → DoC P n (Wb a) (Exit.then (Again n μ I Wb (fun x => chg x ++ Sf) (fun x => chgH x ++ Hf) a) Q) c (chg a ++ Sf) (chgH a ++ Hf)) : DoC P n w0 Q (.loop c) S H := by
  subst hb
  exact doC_sub (AllIn.app hS (keepS_all hK)) hH hid (doC_loop round a0 h0)
theorem told_and {m : Nat} {F G : World → Prop} {w : World} (h : Told m F w) (k : Told m G w) : Told m (fun w => F w ∧ G w) w := by
  obtain ⟨D, h1, h2, h3⟩ := h
  obtain ⟨E, k1, k2, k3⟩ := k
  exact ⟨fun q => D q ∨ E q, fun w w' hq ⟨a, c⟩ => ⟨h1 w w' (fun q hd => hq q (.inl hd)) a, k1 w w' (fun q hd => hq q (.inr hd)) c⟩, fun q hq => hq.elim (h2 q) (k2 q), h3, k3⟩
theorem Told.imp {m : Nat} {D : Nat → Prop} {F G : World → Prop} {w : World} (hD : Depends D G) (hb : ∀ q, D q → m ≤ q ∧ q < w.heap.size) (h : G w) : Told m G w := ⟨D, hD, hb, h⟩
end
end Go.Sx
namespace Go.Sx
open Go.RowKit
def SlcIs (sz : Nat) (a : Option Addr) (rows : List (List Value)) (w : World) : Prop :=
  ∀ j r, rows[j]? = some r → r.length = sz ∧ ∃ b off, a = some ⟨b, off, none⟩ ∧ b < w.heap.size ∧ ∀ k, k < sz → w.cell? ⟨b, off + j * sz + k, none⟩ = r[k]?
theorem slc_dep (sz : Nat) (a : Option Addr) (rows : List (List Value)) : Depends (ownD a) (SlcIs sz a rows) := fun w w' h hS j r hj => by
  obtain ⟨h1, b, off, ha, hb, hc⟩ := hS j r hj
  have hw := h b ⟨_, ha, rfl⟩
  refine ⟨h1, b, off, ha, ?_, fun k hk => ?_⟩
  · have : w'.heap[b]? = some w.heap[b] := by rw [hw]; exact Array.getElem?_eq_getElem hb
    exact heap_lt this
  · rw [← hc k hk]
    exact World.cell?_of_block (w := w) hw
theorem slc_grow {sz : Nat} {a : Option Addr} {rows : List (List Value)} {w w' : World} (h : SlcIs sz a rows w) (g : Grow w w') : SlcIs sz a rows w' := fun j r hj => by
  obtain ⟨h1, b, off, ha, hb, hc⟩ := h j r hj
  exact ⟨h1, b, off, ha, Nat.lt_of_lt_of_le hb g.size, fun k hk => by rw [← hc k hk]; exact World.cell?_of_block (w := w) (g.block b hb)⟩
theorem holds_base {w0 : Base} {sz : Nat} {a : Option Addr} {rows : List (List Value)} (h : SlcIs sz a rows w0.w) : Holds w0 (SlcIs sz a rows) := fun _ _ k => slc_grow h k.grow
theorem flat_get {sz : Nat} : ∀ (rows : List (List Value)), (∀ r ∈ rows, r.length = sz) → ∀ j r, rows[j]? = some r → ∀ k, k < sz → rows.flatten[j * sz + k]? = r[k]?
  | [], _, j, r, hj, _, _ => by simp at hj
  | q :: rows, hs, 0, r, hj, k, hk => by
    simp at hj
    subst hj
    have := hs q List.mem_cons_self
    simp only [List.flatten_cons, Nat.zero_mul, Nat.zero_add]
    rw [List.getElem?_append_left (by omega)]
  | q :: rows, hs, j + 1, r, hj, k, hk => by
    simp only [List.getElem?_cons_succ] at hj
    have hq := hs q List.mem_cons_self
    have := flat_get rows (fun r hr => hs r (List.mem_cons_of_mem _ hr)) j r hj k hk
    simp only [List.flatten_cons]
    rw [List.getElem?_append_right (by rw [hq, Nat.add_mul]; omega), ← this]
    congr 1
    rw [hq, Nat.add_mul]
    omega
theorem own_slc {m e sz cap : Nat} {a : Option Addr} {rows : List (List Value)} {w : World} (hs : ∀ r ∈ rows, r.length = sz) (h : OwnF m e sz a cap rows.length rows.flatten w) : SlcIs sz a rows w := fun j r hj => by
  have hlt := (List.getElem?_eq_some_iff.1 hj).1
  have hr := hs r (List.mem_of_getElem? hj)
  refine ⟨hr, ?_⟩
  rcases h.2 with ⟨h1, h2⟩ | ⟨gg, cp, cur, hv, hm, hg, hc1, hc2, hcs, htake⟩
  · omega
  · simp only [Value.slice.injEq] at hv
    refine ⟨gg, 0, hv.1, heap_lt hg, fun k hk => ?_⟩
    have hlt2 : j * sz + k < rows.length * sz := by
      have h1 := Nat.mul_le_mul_right sz (show j + 1 ≤ rows.length by omega)
      rw [Nat.add_mul] at h1
      omega
    rw [← flat_get rows hs j r hj k hk, ← htake, List.getElem?_take, if_pos hlt2]
    simp [World.cell?, hg]
def pAt (a : Option Addr) (k : Nat) : Value := match a with
  | some ad => .pointer (some ⟨ad.block, ad.off + k, none⟩)
  | none => undef
section
variable {P : Program} {n : Nat} {w0 : Base} {ops : Array Oper} {Q : Exit → Act → World → Prop} {S : Slots} {H : Heap}
variable {d : Option Tmp} {ty : TypeId} {pos : String} {af : Array Edge} {g : Option (Nat × Bool)}
variable {sz : Nat} {a : Option Addr} {rows : List (List Value)} {r : List Value}
theorem opV_indexS {t e len cap j : Nat} {x y : Operand} {kd : IntKind} {i : Int} (hS : Holds w0 (SlcIs sz a rows)) (hA : slcB P t e sz = true) (hx : ev S x = some (.slice a len cap)) (hy : ev S y = some (.int kd i)) (hi : i = (j : Int)) (hj : rows[j]? = some r) (hl : j < len) :
    OpV P w0 S H ⟨d, .indexAddr t x y, ty, pos, af, g⟩ (pAt a (j * sz)) :=
  opV_of (by simp [knownB, Op.operands, hx, hy]) rfl fun w k => by
    obtain ⟨_, b, off, rfl, _⟩ := hS H w k j r hj
    subst hi
    unfold slcB at hA
    cases hu : P.underlying t with
    | none => simp [hu] at hA
    | some ds =>
      cases ds <;> simp [hu] at hA
      rename_i e'
      obtain ⟨rfl, h2⟩ := hA
      cases hinf : P.info? e' with
      | none => simp [hinf] at h2
      | some inf =>
        simp [hinf] at h2
        subst h2
        simp [execOp, evD_of hx, evD_of hy, Instr.indexAt, asIntOf, run_underlying hu, hl, sizeOf, typeInfo, hinf, add_addr, pAt]
theorem opV_fieldS {s f off' j k : Nat} {x : Operand} (hS : Holds w0 (SlcIs sz a rows)) (hj : rows[j]? = some r) (hF : fieldB P s f off' = true) (hx : ev S x = some (pAt a k)) :
    OpV P w0 S H ⟨d, .fieldAddr s x f, ty, pos, af, g⟩ (pAt a (k + off')) :=
  ⟨by simp [knownB, Op.operands, hx], rfl, fun w kn => by
    obtain ⟨_, b, off, rfl, _⟩ := hS H w kn j r hj
    have := (opV_fieldAddr (P := P) (w0 := w0) (S := S) (H := H) (d := d) (ty := ty) (pos := pos) (af := af) (g := g) hF (x := x) (b := b) (off := off + k) hx).run w kn
    rw [Nat.add_assoc] at this
    exact this⟩
theorem opV_loadS1 {t : TypeId} {x : Operand} {v : Value} (j o : Nat) (hS : Holds w0 (SlcIs sz a rows)) (hj : rows[j]? = some r) (hT : tyB P t false 1 = true) (hx : ev S x = some (pAt a (j * sz + o))) (hv : r[o]? = some v) : OpV P w0 S H ⟨d, .load t x, ty, pos, af, g⟩ v :=
  opV_of (by simp [knownB, Op.operands, hx]) rfl fun w kn => by
    obtain ⟨hr, b, off, rfl, _, hc⟩ := hS H w kn j r hj
    have ho : o < sz := by rw [← hr]; exact (List.getElem?_eq_some_iff.1 hv).1
    have := hc o ho
    rw [hv, Nat.add_assoc] at this
    simp [execOp, evD_of hx, pAt, Instr.loadAt, Instr.sureAddr, loadVar, tyB_agg hT, this]
theorem opV_loadSA {t : TypeId} {x : Operand} {vs : List Value} {sz2 : Nat} (j o : Nat) (hS : Holds w0 (SlcIs sz a rows)) (hj : rows[j]? = some r) (hT : tyB P t true sz2 = true) (hx : ev S x = some (pAt a (j * sz + o))) (hv : sliceV r o sz2 = some vs) : OpV P w0 S H ⟨d, .load t x, ty, pos, af, g⟩ (.agg vs.toArray) :=
  opV_of (by simp [knownB, Op.operands, hx]) rfl fun w kn => by
    obtain ⟨hr, b, off, rfl, _, hc⟩ := hS H w kn j r hj
    obtain ⟨e, hl⟩ := sliceV_spec hv
    have hrun := run_load_agg (P := P) (w := w) (b := b) (off := off + (j * sz + o)) (k := sz2) (vs := vs) (fun i hi => by
      have := hc (o + i) (by omega)
      rw [show off + (j * sz + o) + i = off + j * sz + (o + i) by omega, this, e, List.getElem?_take, if_pos hi, List.getElem?_drop]) (by rw [e]; simp; omega)
    simp [execOp, evD_of hx, pAt, Instr.loadAt, Instr.sureAddr, loadVar, tyB_agg hT, tyB_size hT, hrun]
variable {X : Type} {Φ : X → Prop} {V : X → Value} {F : X → World → Prop}
def TellT (w0 : Base) (H : Heap) {X : Type} (Φ : X → Prop) (V : X → Value) (F : X → World → Prop) : Pred := fun u w =>
  ∃ x, Φ x ∧ u = V x ∧ ∃ D : Nat → Prop, Depends D (F x) ∧ (∀ k, D k → w0.w.heap.size ≤ k ∧ k < w.heap.size ∧ (∀ y ∈ H, y.2.1 ≠ k) ∧ ∀ y ∈ w0.R, ¬ y.2.1 k) ∧ F x w
theorem tell_of {w w' : World} {w1 : Base} {H0 : Heap} {x : X} (k : Knows w1 H0 w) (hx : Φ x) (g : Grow w w' ∨ True) (hs : w.heap.size ≤ w'.heap.size) (h : Told w.heap.size (F x) w') : TellT w1 H0 Φ V F (V x) w' := by
  obtain ⟨D, h1, h2, h3⟩ := h
  refine ⟨x, hx, rfl, D, h1, fun q hq => ⟨Nat.le_trans k.grow.size (h2 q hq).1, (h2 q hq).2, fun y hy e => ?_, fun y hy hd => ?_⟩, h3⟩
  · have := k.lt y hy
    have := (h2 q hq).1
    omega
  · have := ((k.facts y hy).at' q hd).2.1
    have := (h2 q hq).1
    omega
theorem stable_tell {w1 : Base} {H0 : Heap} : Stable (TellT w1 H0 Φ V F) := fun _ _ _ ⟨x, hx, hu, D, h1, h2, h3⟩ gr =>
  ⟨x, hx, hu, D, h1, fun k hk => ⟨(h2 k hk).1, Nat.lt_of_lt_of_le (h2 k hk).2.1 gr.size, (h2 k hk).2.2⟩, h1 _ _ (fun k hk => gr.block k (h2 k hk).2.1) h3⟩
theorem stableB_tell {σ : Type} {b : Nat → Prop} {w1 : Base} {H0 : Heap} {Wf : σ → Base} {Hf : σ → Heap} (fam : Fam b w1 H0 Wf Hf) : StableB b (TellT w1 H0 Φ V F) := fun _ _ _ ⟨x, hx, hu, D, h1, h2, h3⟩ gr =>
  ⟨x, hx, hu, D, h1, fun k hk => ⟨(h2 k hk).1, Nat.lt_of_lt_of_le (h2 k hk).2.1 gr.size, (h2 k hk).2.2⟩, h1 _ _ (fun k hk => gr.block k (h2 k hk).2.1 fun hb => by
    rcases fam.here k hb with h | h
    · have := (h2 k hk).1
      omega
    · obtain ⟨y, hy, he⟩ := List.mem_map.1 h
      exact (h2 k hk).2.2.1 y hy he) h3⟩
end
end Go.Sx
namespace Go.Sx
open Go.RowKit
section
variable {P : Program} {n : Nat} {w0 : Base} {ops : Array Oper} {Q : Exit → Act → World → Prop} {S : Slots} {H : Heap}
variable {d : Nat} {ty : TypeId} {pos : String} {af : Array Edge} {g : Option (Nat × Bool)}
variable {X : Type} {Φ : X → Prop} {V : X → Value} {F : X → World → Prop}
variable {f : FuncId} {xs : List Operand} {ats : Array TypeId} {vs : List Value} {rest : List Oper} {G : Ghosts}
theorem doG_told {K : Slots → Ghosts → Prop} (he : Enters P f) (ha : evs S xs = some vs) (hc : ∀ w', Knows w0 H w' → Calls P f vs.toArray w' (RetsF Φ V F w'))
    (hw : wantedS ops S ⟨some d, .call ⟨.value (.func f), xs.toArray, ats⟩, ty, pos, af, g⟩ = some true) (hn : Nat.blt d n = true) (hno : look S d = none)
    (next : DoG P n w0 ops H K rest S ((d, false, TellT w0 H Φ V F) :: G)) : DoG P n w0 ops H K (⟨some d, .call ⟨.value (.func f), xs.toArray, ats⟩, ty, pos, af, g⟩ :: rest) S G :=
  doG_t (opT_call he ha fun w' k => (hc w' k).mono fun e w'' ⟨x, hx, h1, h2, h3⟩ => ⟨V x, h1, h2, tell_of k hx (.inr trivial) h2.size h3⟩) stable_tell hw rfl hn hno next
variable {σ : Type} {b : Nat → Prop} {w1 : Base} {H0 : Heap} {Wf : σ → Base} {Hf : σ → Heap} {es : List Nat} {K : σ → Slots → Ghosts → Prop} {ix : Nat} {s s2 : σ}
theorem tell_fam {w w' : World} {x : X} (fam : Fam b w1 H0 Wf Hf) (k : Knows (Wf s) (Hf s) w) (hx : Φ x) (h : Told w.heap.size (F x) w') : TellT w1 H0 Φ V F (V x) w' := by
  obtain ⟨D, h1, h2, h3⟩ := h
  refine ⟨x, hx, rfl, D, h1, fun q hq => ⟨?_, (h2 q hq).2, fun y hy e => ?_, fun y hy hd => ?_⟩, h3⟩
  · have := k.grow.size
    rw [fam.size] at this
    exact Nat.le_trans this (h2 q hq).1
  · have hm : y.2.1 ∈ H0.map (·.2.1) := List.mem_map.2 ⟨y, hy, rfl⟩
    rw [← fam.adr s] at hm
    obtain ⟨z, hz, hze⟩ := List.mem_map.1 hm
    have := k.lt z hz
    have := (h2 q hq).1
    omega
  · rw [← fam.told s] at hy
    have := ((k.facts y hy).at' q hd).2.1
    have := (h2 q hq).1
    omega
theorem doM_tellE (fam : Fam b w1 H0 Wf Hf) (he : Enters P f) (ha : evs S xs = some vs)
    (hc : ∀ w, Knows (Wf s) (Hf s) w → Calls P f vs.toArray w (fun e w' => ∃ x, Φ x ∧ e = .returned (V x) ∧ GrowB b w w' ∧ Knows (Wf s2) (Hf s2) w' ∧ Told w.heap.size (F x) w'))
    (hw : wantedS ops S ⟨some d, .call ⟨.value (.func f), xs.toArray, ats⟩, ty, pos, af, g⟩ = some true) (hn : Nat.blt d n = true) (hno : look S d = none) (hi : es.contains ix = true)
    (next : DoM P n ops b Wf Hf H0 es K rest (ix + 1) s2 S ((d, false, TellT w1 H0 Φ V F) :: G)) :
    DoM P n ops b Wf Hf H0 es K (⟨some d, .call ⟨.value (.func f), xs.toArray, ats⟩, ty, pos, af, g⟩ :: rest) ix s S G := by
  refine ⟨d, TellT w1 H0 Φ V F, s2, rfl, by simpa using hn, rfl, stableB_tell fam, .inr ⟨hi, fun a w _ hkn k => ?_⟩, .inr (.inl ⟨hno, next⟩)⟩
  have h1 : ∀ t' ∈ Oper.looksAt ops ⟨some d, .call ⟨.value (.func f), xs.toArray, ats⟩, ty, pos, af, g⟩, ∀ v, look S t' = some v → a.tmps[t']? = some v := fun t' ht => (hkn t' ht).1
  refine ⟨wanted_know hw h1, ?_⟩
  rw [exec_know (known_evs ha) rfl h1, call_run he ha]
  exact ⟨GrowB.refl _ _, (hc w k).mono fun e w' ⟨x, hx, q1, q2, q3, q4⟩ => ⟨V x, q1, q2, tell_fam fam k hx q4, q3⟩⟩
theorem doM_toldB {bb i0 i j : Nat} {sl : Value} {L : List Int} {K : Nat → Slots → Ghosts → Prop} {t0 : TypeId} (id : Nat) (hI : IntsAt w0.w w0.w.heap.size sl L) (hH : lookH H id = some (bb, srcC sl L i0, t0)) (he : Enters P f) (ha : evs S xs = some vs)
    (hc : ∀ w', Src w' bb sl L i → Calls P f vs.toArray w' (RetsF Φ V F (srcW w' bb sl L j)))
    (hw : wantedS ops S ⟨some d, .call ⟨.value (.func f), xs.toArray, ats⟩, ty, pos, af, g⟩ = some true) (hn : Nat.blt d n = true) (hno : look S d = none) (hi : es.contains ix = true)
    (next : DoM P n ops (· = bb) (fun _ => w0) (hfB H id sl L) H es K rest (ix + 1) j S ((d, false, TellT w0 H Φ V F) :: G)) :
    DoM P n ops (· = bb) (fun _ => w0) (hfB H id sl L) H es K (⟨some d, .call ⟨.value (.func f), xs.toArray, ats⟩, ty, pos, af, g⟩ :: rest) ix i S G :=
  doM_tellE (famB hH) he ha (fun w' k => by
    obtain ⟨h1, h2⟩ := hfB_spec hH i
    obtain ⟨h3, h4⟩ := k.at h2
    refine (hc w' ⟨⟨t0, h4⟩, intsAt_grow hI k.grow h3⟩).mono fun e w'' ⟨x, hx, he, hg, ht⟩ => ?_
    have hu : updH (hfB H id sl L i) id (srcC sl L j) = some (hfB H id sl L j) := (updH_updH h1).trans (hfB_spec hH j).1
    have hsz : (srcW w' bb sl L j).heap.size = w'.heap.size := srcW_size _ _ _ _ _
    exact ⟨x, hx, he, (GrowB.set bb w' _).trans (.of hg), (k.set h2 hu).next hg, by rw [hsz] at ht; exact ht⟩) hw hn hno hi next
theorem Yields.mono {w : World} {T T' : Pred} {r : Result Next} (h : Yields P w T r) (hT : ∀ v w', Grow w w' → T v w' → T' v w') : Yields P w T' r := by
  cases r with
  | ok x w' =>
    cases x <;> simp only [Yields] at h ⊢
    case value v => exact ⟨h.1, hT v w' h.1 h.2⟩
    case skip => exact ⟨h.1, hT undef w' h.1 h.2⟩
    case enter ff args => exact ⟨h.1, h.2.mono fun e w'' ⟨v, h1, h2, h3⟩ => ⟨v, h1, h2, hT v w'' (h.1.trans h2) h3⟩⟩
  | halt x w' => simp only [Yields] at h
theorem doM_map {o : Oper} {T : Pred} {V' : X → Value} (fam : Fam b w1 H0 Wf Hf) (t : Nat) (hG : lookG G t = some (TellT w1 H0 Φ V F)) (hsel : noSel o = true) (ho : ∀ s' x, Φ x → OpV P (Wf s') ((t, V x) :: S) (Hf s') o (V' x))
    (hw : ∀ u, wantedS ops ((t, u) :: S) o = some true) (hm : t ∈ o.looksAt ops) (hd : o.dst = some d) (hn : Nat.blt d n = true) (hno : look S d = none) (hi : es.contains ix = false)
    (next : DoM P n ops b Wf Hf H0 es K rest (ix + 1) s S ((d, false, TellT w1 H0 Φ V' F) :: G)) : DoM P n ops b Wf Hf H0 es K (o :: rest) ix s S G := by
  refine ⟨d, TellT w1 H0 Φ V' F, s, hd, by simpa using hn, hsel, stableB_tell fam, .inl ⟨hi, rfl, fun s' a w _ hkn k => ?_⟩, .inr (.inl ⟨hno, next⟩)⟩
  obtain ⟨u, hu, x, hx, hux, D, q1, q2, q3⟩ := (hkn t hm).2 _ hG
  subst hux
  have h1 : ∀ t' ∈ o.looksAt ops, ∀ v', look ((t, V x) :: S) t' = some v' → a.tmps[t']? = some v' := fun t' ht' v' hv' => by
    by_cases e : t = t'
    · subst e; rw [look_cons_same] at hv'; cases hv'; exact hu
    · rw [look_cons_ne _ _ e] at hv'; exact (hkn t' ht').1 v' hv'
  rw [wanted_know (hw (V x)) h1, if_pos rfl, exec_know (ho s' x hx).known hsel h1]
  refine ((ho s' x hx).run w k).mono fun v w' gr hv => ?_
  exact ⟨x, hx, hv, D, q1, fun q hq => ⟨(q2 q hq).1, Nat.lt_of_lt_of_le (q2 q hq).2.1 gr.size, (q2 q hq).2.2⟩, q1 _ _ (fun q hq => gr.block q (q2 q hq).2.1) q3⟩
def TellRow (w0 : Base) (H : Heap) {X : Type} (Φ : X → Prop) (F : X → World → Prop) (cs : X → List Value) (e : TypeId) (len : Nat) : Pred := fun u w =>
  ∃ x, Φ x ∧ (∃ D : Nat → Prop, Depends D (F x) ∧ (∀ k, D k → w0.w.heap.size ≤ k ∧ k < w.heap.size ∧ (∀ y ∈ H, y.2.1 ≠ k) ∧ ∀ y ∈ w0.R, ¬ y.2.1 k) ∧ F x w) ∧
    ∃ bb, u = .slice (some ⟨bb, 0, none⟩) len len ∧ (w0.w.heap.size ≤ bb ∧ ∀ y ∈ H, y.2.1 ≠ bb) ∧ w.heap[bb]? = some (.cells (cs x).toArray e)
theorem stableB_tellrow {cs : X → List Value} {e len : Nat} (fam : Fam b w1 H0 Wf Hf) : StableB b (TellRow w1 H0 Φ F cs e len) := fun u w w' ⟨x, hx, ⟨D, h1, h2, h3⟩, bb, q1, q2, q3⟩ gr => by
  have hnb : ∀ k, w1.w.heap.size ≤ k → (∀ y ∈ H0, y.2.1 ≠ k) → ¬ b k := fun k h4 h5 hb => by
    rcases fam.here k hb with h | h
    · omega
    · obtain ⟨y, hy, he⟩ := List.mem_map.1 h
      exact h5 y hy he
  exact ⟨x, hx, ⟨D, h1, fun k hk => ⟨(h2 k hk).1, Nat.lt_of_lt_of_le (h2 k hk).2.1 gr.size, (h2 k hk).2.2⟩, h1 _ _ (fun k hk => gr.block k (h2 k hk).2.1 (hnb k (h2 k hk).1 (h2 k hk).2.2.1)) h3⟩,
    bb, q1, q2, by rw [gr.block bb (heap_lt q3) (hnb bb q2.1 q2.2)]; exact q3⟩
theorem doM_rowmap {t e size len : Nat} {z : Value} {parts : List (Nat × Operand)} {vsX : X → List (Nat × Value)} {cs : X → List Value} (fam : Fam b w1 H0 Wf Hf) (tg : Nat) (hG : lookG G tg = some (TellT w1 H0 Φ V F)) (hs : slcB P t e size = true) (hz : zeroIs P e z) (hzs : Nat.beq z.cells.size size = true) (h0 : Nat.blt 0 size = true)
    (hl : Nat.ble (len * size) 16777216 = true) (h1 : Nat.blt 0 len = true) (hp : ∀ x, evp ((tg, V x) :: S) parts = some (vsX x)) (hf : ∀ x, fillV (rowPl len size) (rowZ z.cells.toList len) (vsX x) = some (cs x))
    (hw : ∀ u, wantedS ops ((tg, u) :: S) ⟨some d, .buildSlice t len parts.toArray, ty, pos, af, g⟩ = some true) (hm : tg ∈ Oper.looksAt ops ⟨some d, .buildSlice t len parts.toArray, ty, pos, af, g⟩) (hn : Nat.blt d n = true) (hno : look S d = none) (hi : es.contains ix = false)
    (next : DoM P n ops b Wf Hf H0 es K rest (ix + 1) s S ((d, false, TellRow w1 H0 Φ F cs e len) :: G)) : DoM P n ops b Wf Hf H0 es K (⟨some d, .buildSlice t len parts.toArray, ty, pos, af, g⟩ :: rest) ix s S G := by
  refine ⟨d, TellRow w1 H0 Φ F cs e len, s, rfl, by simpa using hn, rfl, stableB_tellrow fam, .inl ⟨hi, rfl, fun s' a w _ hkn k => ?_⟩, .inr (.inl ⟨hno, next⟩)⟩
  obtain ⟨u, hu, x, hx, hux, D, q1, q2, q3⟩ := (hkn tg hm).2 _ hG
  subst hux
  have hk1 : ∀ t' ∈ Oper.looksAt ops ⟨some d, .buildSlice t len parts.toArray, ty, pos, af, g⟩, ∀ v', look ((tg, V x) :: S) t' = some v' → a.tmps[t']? = some v' := fun t' ht' v' hv' => by
    by_cases e : tg = t'
    · subst e; rw [look_cons_same] at hv'; cases hv'; exact hu
    · rw [look_cons_ne _ _ e] at hv'; exact (hkn t' ht').1 v' hv'
  have op := opT_bslice (P := P) (w0 := Wf s') (H := Hf s') (d := d) (ty := ty) (pos := pos) (af := af) (g := g) hs hz hzs h0 hl h1 (hp x) (hf x)
  rw [wanted_know (hw (V x)) hk1, if_pos rfl, exec_know op.known rfl hk1]
  refine (op.run w k).mono fun v w' gr ⟨bb, r1, r2, r3, r4⟩ => ?_
  refine ⟨x, hx, ⟨D, q1, fun q hq => ⟨(q2 q hq).1, Nat.lt_of_lt_of_le (q2 q hq).2.1 gr.size, (q2 q hq).2.2⟩, q1 _ _ (fun q hq => gr.block q (q2 q hq).2.1) q3⟩, bb, r1, ⟨by rw [← fam.size s']; exact r2, fun y hy e => ?_⟩, r4⟩
  have hmm : y.2.1 ∈ H0.map (·.2.1) := List.mem_map.2 ⟨y, hy, rfl⟩
  rw [← fam.adr s'] at hmm
  obtain ⟨zz, hzz, hze⟩ := List.mem_map.1 hmm
  exact r3.1 zz hzz (hze.trans e)
theorem stableB_rowT {cs : List Value} {e len : Nat} (fam : Fam b w1 H0 Wf Hf) : StableB b (RowT w1 H0 cs e len) := fun u w w' ⟨bb, q1, q2, q3, q4⟩ gr =>
  ⟨bb, q1, q2, q3, by
    rw [gr.block bb (heap_lt q4) fun hb => ?_]
    · exact q4
    · rcases fam.here bb hb with h | h
      · omega
      · obtain ⟨y, hy, he⟩ := List.mem_map.1 h
        exact q3.1 y hy he⟩
theorem doM_bslice {t e size len : Nat} {z : Value} {parts : List (Nat × Operand)} {vs : List (Nat × Value)} {cs : List Value} (fam : Fam b w1 H0 Wf Hf) (hs : slcB P t e size = true) (hz : zeroIs P e z) (hzs : Nat.beq z.cells.size size = true) (h0 : Nat.blt 0 size = true)
    (hl : Nat.ble (len * size) 16777216 = true) (h1 : Nat.blt 0 len = true) (hp : evp S parts = some vs) (hf : fillV (rowPl len size) (rowZ z.cells.toList len) vs = some cs)
    (hw : wantedS ops S ⟨some d, .buildSlice t len parts.toArray, ty, pos, af, g⟩ = some true) (hn : Nat.blt d n = true) (hno : look S d = none) (hi : es.contains ix = false)
    (next : DoM P n ops b Wf Hf H0 es K rest (ix + 1) s S ((d, false, RowT w1 H0 cs e len) :: G)) : DoM P n ops b Wf Hf H0 es K (⟨some d, .buildSlice t len parts.toArray, ty, pos, af, g⟩ :: rest) ix s S G := by
  refine ⟨d, RowT w1 H0 cs e len, s, rfl, by simpa using hn, rfl, stableB_rowT fam, .inl ⟨hi, rfl, fun s' a w _ hkn k => ?_⟩, .inr (.inl ⟨hno, next⟩)⟩
  have hk1 : ∀ t' ∈ Oper.looksAt ops ⟨some d, .buildSlice t len parts.toArray, ty, pos, af, g⟩, ∀ v', look S t' = some v' → a.tmps[t']? = some v' := fun t' ht' => (hkn t' ht').1
  have op := opT_bslice (P := P) (w0 := Wf s') (H := Hf s') (d := d) (ty := ty) (pos := pos) (af := af) (g := g) hs hz hzs h0 hl h1 hp hf
  rw [wanted_know hw hk1, if_pos rfl, exec_know op.known rfl hk1]
  refine (op.run w k).mono fun v w' gr ⟨bb, r1, r2, r3, r4⟩ => ⟨bb, r1, by rw [← fam.size s']; exact r2, ⟨fun y hy e => ?_, fun y hy hd => r3.2 y (by rw [fam.told s']; exact hy) hd⟩, r4⟩
  have hmm : y.2.1 ∈ H0.map (·.2.1) := List.mem_map.2 ⟨y, hy, rfl⟩
  rw [← fam.adr s'] at hmm
  obtain ⟨zz, hzz, hze⟩ := List.mem_map.1 hmm
  exact r3.1 zz hzz (hze.trans e)
variable {tl : List Oper} {Fw : World → Prop}
theorem knows_told {w : World} {D : Nat → Prop} {FF : World → Prop} (k : Knows w0 H w) (id : Nat) (h1 : Depends D FF) (h2 : ∀ q, D q → w0.w.heap.size ≤ q ∧ q < w.heap.size ∧ (∀ y ∈ H, y.2.1 ≠ q) ∧ ∀ y ∈ w0.R, ¬ y.2.1 q) (h3 : FF w) : Knows ⟨w0.w, (id, D, FF) :: w0.R⟩ H w :=
  ⟨k.grow, k.has, k.nodup, fun x hx => by
    rcases List.mem_cons.1 hx with rfl | hx
    · exact ⟨h1, fun q hq => ⟨(h2 q hq).1, (h2 q hq).2.1, (h2 q hq).2.2.1⟩, h3⟩
    · exact k.facts x hx, List.Pairwise.cons (fun y hy q hq hd => (h2 q hq).2.2.2 y hy hd) k.apart⟩
theorem tail_tellrow {w1 : Base} {H0 : Heap} {cs : X → List Value} {e len : Nat} (id : Nat) (hsz : w1.w.heap.size = w0.w.heap.size) (hR : w1.R = w0.R) (hA : H0.map (·.2.1) = H.map (·.2.1))
    (h : ∀ x D bb, Φ x → Tail P n ⟨w0.w, (id, D, F x) :: w0.R⟩ ops Q tl (fun w => w.heap[bb]? = some (.cells (cs x).toArray e)) ((d, .slice (some ⟨bb, 0, none⟩) len len) :: S) H []) :
    Tail P n w0 ops Q tl Fw S H ((d, false, TellRow w1 H0 Φ F cs e len) :: G) := fun a w f k hx _ _ hF => by
  obtain ⟨u, hu, x, hxx, ⟨D, q1, q2, q3⟩, bb, hub, _, hblk⟩ := hx _ List.mem_cons_self
  subst hub
  refine h x D bb hxx a w (fits_more f hu) (knows_told k id q1 (fun q hq => ⟨by rw [← hsz]; exact (q2 q hq).1, (q2 q hq).2.1, fun y hy e => ?_, fun y hy hd => (q2 q hq).2.2.2 y (by rw [hR]; exact hy) hd⟩) q3) (fun y hy => by cases hy) (fun y hy => by cases hy) (fun y hy => by cases hy) hblk
  have hm : y.2.1 ∈ H.map (·.2.1) := List.mem_map.2 ⟨y, hy, rfl⟩
  rw [← hA] at hm
  obtain ⟨z, hz, hze⟩ := List.mem_map.1 hm
  exact (q2 q hq).2.2.1 z hz (hze.trans e)
theorem tail_row {w1 : Base} {H0 : Heap} {cs : List Value} {e len : Nat} (h : ∀ bb, Tail P n w0 ops Q tl (fun w => w.heap[bb]? = some (.cells cs.toArray e)) ((d, .slice (some ⟨bb, 0, none⟩) len len) :: S) H []) :
    Tail P n w0 ops Q tl Fw S H ((d, false, RowT w1 H0 cs e len) :: G) := fun a w f k hx _ _ hF => by
  obtain ⟨u, hu, bb, hub, _, _, hblk⟩ := hx _ List.mem_cons_self
  subst hub
  exact h bb a w (fits_more f hu) k (fun y hy => by cases hy) (fun y hy => by cases hy) (fun y hy => by cases hy) hblk
theorem tail_append {t e size bytes cap k m bb c2 : Nat} {e2 : TypeId} {a : Option Addr} {ys news : List Value} {x y : Operand} (id : Nat) (hB : appB P t e size bytes = true) (hR : lookR w0.R id = some (ownD a, OwnF 0 e size a cap k ys))
    (hx : ev S x = some (.slice a k cap)) (hy : ev S y = some (.slice (some ⟨bb, 0, none⟩) m c2)) (hm : Nat.blt 0 m = true) (hl : Nat.beq news.length (m * size) = true) (h1 : news.all Value.oneCell' = true)
    (h63 : k + m ≤ 9223372036854775807) (hby : (k + m) * bytes ≤ 140737488355328)
    (hw : wantedS ops S ⟨some d, .call ⟨.builtin .append, #[x, y], #[t, t]⟩, ty, pos, af, g⟩ = some true) (hn : Nat.blt d n = true)
    (next : ∀ a' cap' R', updR w0.R id (ownD a') (OwnF 0 e size a' cap' (k + m) (ys ++ news)) = some R' → DoL P n ⟨w0.w, R'⟩ ops Q tl ((d, .slice a' (k + m) cap') :: S) H) :
    Tail P n w0 ops Q (⟨some d, .call ⟨.builtin .append, #[x, y], #[t, t]⟩, ty, pos, af, g⟩ :: tl) (fun w => w.heap[bb]? = some (.cells news.toArray e2)) S H [] := fun act w fi hk _ _ _ hblk =>
  append_step hB hR hx hy hblk hm hl h1 h63 hby fi hk hw hn fun a' cap' R' act' w' h2 h3 h4 => next a' cap' R' h2 act' w' h3 h4
variable {B : Base} {sb si : Nat} {sl : Value} {L : List Int}
theorem doC_toOwnA {c : Code} {H' : Heap} {bb e : Nat} {cs : List Value} (id len size : Nat) (hH : lookH H id = some (bb, cs, e)) (hr : remH H id = some H') (hl : Nat.beq cs.length (len * size) = true) (hm : Nat.ble len 9223372036854775807 = true)
    (h : DoC P n (srcB ⟨B.w, (id, ownD (some ⟨bb, 0, none⟩), OwnF 0 e size (some ⟨bb, 0, none⟩) len len cs) :: B.R⟩ sb sl L si) Q c S H') : DoC P n (srcB B sb sl L si) Q c S H := doC_toOwn id len size hH hr hl hm h
theorem tail_appendA {t e size bytes cap k m bb c2 : Nat} {e2 : TypeId} {a : Option Addr} {ys news : List Value} {x y : Operand} (id : Nat) (hB : appB P t e size bytes = true) (hR : lookR B.R id = some (ownD a, OwnF 0 e size a cap k ys))
    (hx : ev S x = some (.slice a k cap)) (hy : ev S y = some (.slice (some ⟨bb, 0, none⟩) m c2)) (hm : Nat.blt 0 m = true) (hl : Nat.beq news.length (m * size) = true) (h1 : news.all Value.oneCell' = true)
    (h63 : k + m ≤ 9223372036854775807) (hby : (k + m) * bytes ≤ 140737488355328)
    (hw : wantedS ops S ⟨some d, .call ⟨.builtin .append, #[x, y], #[t, t]⟩, ty, pos, af, g⟩ = some true) (hn : Nat.blt d n = true)
    (next : ∀ a' cap' R', updR B.R id (ownD a') (OwnF 0 e size a' cap' (k + m) (ys ++ news)) = some R' → DoL P n (srcB ⟨B.w, R'⟩ sb sl L si) ops Q tl ((d, .slice a' (k + m) cap') :: S) H) :
    Tail P n (srcB B sb sl L si) ops Q (⟨some d, .call ⟨.builtin .append, #[x, y], #[t, t]⟩, ty, pos, af, g⟩ :: tl) (fun w => w.heap[bb]? = some (.cells news.toArray e2)) S H [] :=
  tail_append (w0 := srcB B sb sl L si) id hB hR hx hy hm hl h1 h63 hby hw hn next
theorem Knows.merge {wb : World} {w : World} {i1 id : Nat} {D1 D2 : Nat → Prop} {F1 F2 F' : World → Prop} {R R' : Facts} (k : Knows ⟨wb, (i1, D1, F1) :: R⟩ H w) (hR : lookR R id = some (D2, F2)) (hu : updR R id (fun q => D1 q ∨ D2 q) F' = some R')
    (hD : Depends D1 F1 → Depends D2 F2 → Depends (fun q => D1 q ∨ D2 q) F') (hF : ∀ w, F1 w → F2 w → F' w) : Knows ⟨wb, R'⟩ H w := by
  obtain ⟨R1, R2, kk, x, e1, e2, e3⟩ := updR_spec hu
  rw [hR] at e3
  cases e3
  have hap := List.pairwise_cons.1 k.apart
  have hap0 := hap.2
  rw [e1] at hap0
  have hap1 := List.pairwise_append.1 hap0
  have hap2 := List.pairwise_cons.1 hap1.2.1
  have f1 := k.facts _ List.mem_cons_self
  have hm2 : (kk, D2, F2) ∈ R := by rw [e1]; simp
  have f2 := k.facts _ (List.mem_cons_of_mem _ hm2)
  have inR : ∀ y ∈ R1 ++ R2, y ∈ R := fun y hy => by
    rw [e1]
    rcases List.mem_append.1 hy with h | h
    · exact List.mem_append_left _ h
    · exact List.mem_append_right _ (List.mem_cons_of_mem _ h)
  refine ⟨k.grow, k.has, k.nodup, fun y hy => ?_, ?_⟩
  · have hy' : y ∈ R1 ++ (kk, (fun q => D1 q ∨ D2 q), F') :: R2 := by rw [← e2]; exact hy
    rcases List.mem_append.1 hy' with h | h
    · exact k.facts y (List.mem_cons_of_mem _ (inR y (List.mem_append_left _ h)))
    · rcases List.mem_cons.1 h with rfl | h
      · exact ⟨hD f1.dep f2.dep, fun q hq => hq.elim (f1.at' q) (f2.at' q), hF w f1.holds f2.holds⟩
      · exact k.facts y (List.mem_cons_of_mem _ (inR y (List.mem_append_right _ h)))
  · show R'.Pairwise _
    rw [e2]
    refine List.pairwise_append.2 ⟨hap1.1, List.pairwise_cons.2 ⟨fun y hy q hq hd => ?_, hap2.2⟩, fun y hy z hz q hyq hzq => ?_⟩
    · rcases hq with hq | hq
      · exact hap.1 y (inR y (List.mem_append_right _ hy)) q hq hd
      · exact hap2.1 y hy q hq hd
    · rcases List.mem_cons.1 hz with rfl | hz
      · rcases hzq with hq | hq
        · exact hap.1 y (inR y (List.mem_append_left _ hy)) q hq hyq
        · exact hap1.2.2 y hy _ List.mem_cons_self q hyq hq
      · exact hap1.2.2 y hy z (List.mem_cons_of_mem _ hz) q hyq hzq
theorem doC_merge {c : Code} {wb : World} {i1 : Nat} {D1 D2 : Nat → Prop} {F1 F2 : World → Prop} {R R' : Facts} (id : Nat) (F' : World → Prop) (hR : lookR R id = some (D2, F2)) (hu : updR R id (fun q => D1 q ∨ D2 q) F' = some R')
    (hD : Depends D1 F1 → Depends D2 F2 → Depends (fun q => D1 q ∨ D2 q) F') (hF : ∀ w, F1 w → F2 w → F' w) (h : DoC P n ⟨wb, R'⟩ Q c S H) : DoC P n ⟨wb, (i1, D1, F1) :: R⟩ Q c S H := fun a w f k => h a w f (k.merge hR hu hD hF)
theorem doC_fact {c : Code} (id : Nat) (F' : World → Prop) (hF : ∀ w, F' w) (h : DoC P n ⟨w0.w, (id, (fun _ => False), F') :: w0.R⟩ Q c S H) : DoC P n w0 Q c S H := fun a w f k =>
  h a w f ⟨k.grow, k.has, k.nodup, fun x hx => by
    rcases List.mem_cons.1 hx with rfl | hx
    · exact ⟨fun _ w' _ _ => hF w', fun q hq => hq.elim, hF w⟩
    · exact k.facts x hx, List.Pairwise.cons (fun y _ q hq => hq.elim) k.apart⟩
end
end Go.Sx
namespace Go.Sx
open Go.RowKit
def vS (s : ByteArray) : Value := .string s
section
variable {P : Program} {n : Nat} {w0 : Base} {ops : Array Oper} {Q : Exit → Act → World → Prop} {S : Slots} {H : Heap}
variable {d : Option Tmp} {ty : TypeId} {pos : String} {af : Array Edge} {g : Option (Nat × Bool)}
theorem opV_sliceStr {t : TypeId} {x lo hi : Operand} {s : ByteArray} {k k' : IntKind} {i j : Int} (ht : P.underlying t = some .string) (hx : ev S x = some (.string s)) (hlo : ev S lo = some (.int k i)) (hhi : ev S hi = some (.int k' j)) (h0 : 0 ≤ i) (h1 : i ≤ j) (h2 : j ≤ s.size) :
    OpV P w0 S H ⟨d, .slice t x (some lo) (some hi) none, ty, pos, af, g⟩ (.string (s.extract i.toNat j.toNat)) :=
  opV_of (by simp [knownB, Op.operands, hx, hlo, hhi]) rfl fun w _ => by
    have e1 : 0 ≤ j := by omega
    have e2 : i ≤ (j.toNat : Int) := by omega
    simp [execOp, evD_of hx, evD_of hlo, evD_of hhi, Instr.sliceAt, Instr.slice, run_underlying ht, Instr.sliceBounds, Instr.sliceBound, asIntOf, h0, e1, h2, e2]
    intro h
    omega
end
end Go.Sx
namespace Go.Sx
structure J where
  name : ByteArray
  kind : Int
  parent : Int
  off : Z3
  lo : Int
  hi : Int
  weight : Int
  speed : Int
  accel : Int
  torque : Int
def jc (j : J) : List Value := [.string j.name, .int .i64 j.kind, .int .i64 j.parent, .int .i64 j.off.x, .int .i64 j.off.y, .int .i64 j.off.z, .int .i64 j.lo, .int .i64 j.hi, .int .i64 j.weight, .int .i64 j.speed, .int .i64 j.accel, .int .i64 j.torque]
def jv (j : J) : Value := .agg #[.string j.name, .int .i64 j.kind, .int .i64 j.parent, .int .i64 j.off.x, .int .i64 j.off.y, .int .i64 j.off.z, .int .i64 j.lo, .int .i64 j.hi, .int .i64 j.weight, .int .i64 j.speed, .int .i64 j.accel, .int .i64 j.torque]
def z3c (v : Z3) : List Value := [.int .i64 v.x, .int .i64 v.y, .int .i64 v.z]
def ptOf (L : List Int) (q : Nat) (c : Z3) : Z3 := ⟨c.x + srcS L q 3 * 32768, c.y + srcS L (q + 1) 2 * 32768, c.z + srcS L (q + 2) 2 * 32768⟩
def ptsN (L : List Int) (p : Nat) : Nat := (srcR L p 4).toNat
def ptsOf (L : List Int) (p : Nat) (c : Z3) : Nat → List Z3
  | 0 => [c]
  | k + 1 => ptsOf L p c k ++ [ptOf L (p + 1 + 3 * k) c]
theorem ptsOf_len (L : List Int) (p : Nat) (c : Z3) : ∀ k, (ptsOf L p c k).length = k + 1
  | 0 => rfl
  | k + 1 => by simp [ptsOf, ptsOf_len L p c k]
theorem ptsN_b (L : List Int) (p : Nat) : ptsN L p ≤ 3 := by
  have := srcR_bnd L p (k := 4) (by decide)
  unfold ptsN
  omega
def ptsC (L : List Int) (p : Nat) (c : Z3) (k : Nat) : List Value := ((ptsOf L p c k).map z3c).flatten
theorem ptsC_succ (L : List Int) (p : Nat) (c : Z3) (k : Nat) : ptsC L p c (k + 1) = ptsC L p c k ++ z3c (ptOf L (p + 1 + 3 * k) c) := by
  simp [ptsC, ptsOf]
theorem rows3 (l : List Z3) : ∀ r ∈ l.map z3c, r.length = 3 := fun r hr => by
  obtain ⟨v, _, rfl⟩ := List.mem_map.1 hr
  rfl
theorem pts_slc {L : List Int} {p k cap : Nat} {c : Z3} {a : Option Addr} {e : TypeId} {w : World} (h : OwnF 0 e 3 a cap (k + 1) (ptsC L p c k) w) : SlcIs 3 a ((ptsOf L p c k).map z3c) w := by
  refine own_slc (m := 0) (e := e) (cap := cap) (rows3 _) ?_
  rw [List.length_map, ptsOf_len]
  exact h
def abc : ByteArray := ⟨#[97, 98, 99, 100, 101, 102, 103, 104, 105, 106]⟩
def letterB (k : Int) : ByteArray := abc.extract k.toNat (k + 1).toNat
def kindOf (k : Int) : Int := if k = 0 then 3 else if k = 1 then 3 else if k = 2 then 1 else if k = 3 then 2 else if k = 4 then 4 else if k = 5 then 5 else if k = 6 then 3 else 0
def jBase (L : List Int) (p : Nat) (k : Int) : J := ⟨letterB k, kindOf (srcR L (p + 2) 8), if srcR L (p + 3) 4 = 1 then -1 else k - 1, if 0 < k then ⟨131072, srcS L (p + 4) 2 * 32768, srcS L (p + 5) 1 * 32768⟩ else ⟨0, 0, 0⟩, 0, 0, 1 + srcR L p 4, 65536, 65536 + srcR L (p + 1) 3, 327680⟩
def jQ (p : Nat) (k : Int) : Nat := if 0 < k then p + 6 else p + 4
def jointOf (L : List Int) (p : Nat) (k : Int) : J × Nat :=
  if kindOf (srcR L (p + 2) 8) = 0 then (jBase L p k, jQ p k)
  else if kindOf (srcR L (p + 2) 8) = 4 ∨ kindOf (srcR L (p + 2) 8) = 5 then ({ jBase L p k with lo := -srcR L (jQ p k) 3 * 65536, hi := srcR L (jQ p k + 1) 4 * 32768 }, jQ p k + 2)
  else ({ jBase L p k with lo := (-srcR L (jQ p k) 5 * 65536).tdiv 8, hi := ((1 + srcR L (jQ p k + 1) 4) * 65536).tdiv 8 + srcR L (jQ p k + 2) 3 }, jQ p k + 3)
theorem jQ_pos {p : Nat} {k : Int} (h : 0 < k) : jQ p k = p + 6 := if_pos h
theorem jQ_neg {p : Nat} {k : Int} (h : ¬ 0 < k) : jQ p k = p + 4 := if_neg h
theorem jointOf_fix {L : List Int} {p : Nat} {k : Int} (h : kindOf (srcR L (p + 2) 8) = 0) : jointOf L p k = (jBase L p k, jQ p k) := if_pos h
theorem jointOf_sl {L : List Int} {p : Nat} {k : Int} (h : kindOf (srcR L (p + 2) 8) = 4 ∨ kindOf (srcR L (p + 2) 8) = 5) : jointOf L p k = ({ jBase L p k with lo := -srcR L (jQ p k) 3 * 65536, hi := srcR L (jQ p k + 1) 4 * 32768 }, jQ p k + 2) := by
  unfold jointOf
  rw [if_neg (by omega), if_pos h]
theorem jointOf_tu {L : List Int} {p : Nat} {k : Int} (h0 : ¬ kindOf (srcR L (p + 2) 8) = 0) (h : ¬ (kindOf (srcR L (p + 2) 8) = 4 ∨ kindOf (srcR L (p + 2) 8) = 5)) : jointOf L p k = ({ jBase L p k with lo := (-srcR L (jQ p k) 5 * 65536).tdiv 8, hi := ((1 + srcR L (jQ p k + 1) 4) * 65536).tdiv 8 + srcR L (jQ p k + 2) 3 }, jQ p k + 3) := by
  unfold jointOf
  rw [if_neg h0, if_neg h]
theorem jBase_a {L : List Int} {p : Nat} {k : Int} (hp : srcR L (p + 3) 4 = 1) (h : 0 < k) : jBase L p k = ⟨letterB k, kindOf (srcR L (p + 2) 8), -1, ⟨131072, srcS L (p + 4) 2 * 32768, srcS L (p + 5) 1 * 32768⟩, 0, 0, 1 + srcR L p 4, 65536, 65536 + srcR L (p + 1) 3, 327680⟩ := by unfold jBase; rw [if_pos hp, if_pos h]
theorem jBase_b {L : List Int} {p : Nat} {k : Int} (hp : srcR L (p + 3) 4 = 1) (h : ¬ 0 < k) : jBase L p k = ⟨letterB k, kindOf (srcR L (p + 2) 8), -1, ⟨0, 0, 0⟩, 0, 0, 1 + srcR L p 4, 65536, 65536 + srcR L (p + 1) 3, 327680⟩ := by unfold jBase; rw [if_pos hp, if_neg h]
theorem jBase_c {L : List Int} {p : Nat} {k : Int} (hp : ¬ srcR L (p + 3) 4 = 1) (h : 0 < k) : jBase L p k = ⟨letterB k, kindOf (srcR L (p + 2) 8), k - 1, ⟨131072, srcS L (p + 4) 2 * 32768, srcS L (p + 5) 1 * 32768⟩, 0, 0, 1 + srcR L p 4, 65536, 65536 + srcR L (p + 1) 3, 327680⟩ := by unfold jBase; rw [if_neg hp, if_pos h]
theorem jBase_d {L : List Int} {p : Nat} {k : Int} (hp : ¬ srcR L (p + 3) 4 = 1) (h : ¬ 0 < k) : jBase L p k = ⟨letterB k, kindOf (srcR L (p + 2) 8), k - 1, ⟨0, 0, 0⟩, 0, 0, 1 + srcR L p 4, 65536, 65536 + srcR L (p + 1) 3, 327680⟩ := by unfold jBase; rw [if_neg hp, if_neg h]
def nJ (L : List Int) (i : Nat) : Nat := (1 + srcR L i 3).toNat
theorem nJ_b (L : List Int) (i : Nat) : 1 ≤ nJ L i ∧ nJ L i ≤ 3 ∧ ((nJ L i : Nat) : Int) = 1 + srcR L i 3 := by
  have := srcR_bnd L i (k := 3) (by decide)
  unfold nJ
  omega
def jsOf (L : List Int) (i : Nat) : Nat → List J × Nat
  | 0 => ([], i + 1)
  | k + 1 => ((jsOf L i k).1 ++ [(jointOf L (jsOf L i k).2 (k : Int)).1], (jointOf L (jsOf L i k).2 (k : Int)).2)
def jsC (L : List Int) (i k : Nat) : List Value := ((jsOf L i k).1.map jc).flatten
theorem jsC_succ (L : List Int) (i k : Nat) : jsC L i (k + 1) = jsC L i k ++ jc (jointOf L (jsOf L i k).2 (k : Int)).1 := by simp [jsC, jsOf]
theorem jsOf_len (L : List Int) (i : Nat) : ∀ k, (jsOf L i k).1.length = k
  | 0 => rfl
  | k + 1 => by simp [jsOf, jsOf_len L i k]
theorem rows12 (l : List J) : ∀ r ∈ l.map jc, r.length = 12 := fun r hr => by
  obtain ⟨v, _, rfl⟩ := List.mem_map.1 hr
  rfl
theorem js_slc {L : List Int} {i k cap : Nat} {a : Option Addr} {e : TypeId} {w : World} (h : OwnF 0 e 12 a cap k (jsC L i k) w) : SlcIs 12 a ((jsOf L i k).1.map jc) w := by
  refine own_slc (m := 0) (e := e) (cap := cap) (rows12 _) ?_
  rw [List.length_map, jsOf_len]
  exact h
structure Ms where
  link : Int
  mass : Int
  p : Z3
def mc (m : Ms) : List Value := [.int .i64 m.link, .int .i64 m.mass, .int .i64 m.p.x, .int .i64 m.p.y, .int .i64 m.p.z]
def mQ (L : List Int) (i : Nat) : Nat := (jsOf L i (nJ L i)).2
def nM (L : List Int) (i : Nat) : Nat := (srcR L (mQ L i) 3).toNat
theorem nM_b (L : List Int) (i : Nat) : nM L i ≤ 2 ∧ ((nM L i : Nat) : Int) = srcR L (mQ L i) 3 := by
  have := srcR_bnd L (mQ L i) (k := 3) (by decide)
  unfold nM
  omega
def msOf (L : List Int) (i : Nat) : Nat → List Ms
  | 0 => []
  | k + 1 => msOf L i k ++ [⟨srcR L (mQ L i + 1 + 4 * k) (nJ L i), 1 + srcR L (mQ L i + 1 + 4 * k + 1) 9000, ⟨srcS L (mQ L i + 1 + 4 * k + 2) 3 * 32768, 0, srcS L (mQ L i + 1 + 4 * k + 3) 2 * 32768⟩⟩]
def msC (L : List Int) (i k : Nat) : List Value := ((msOf L i k).map mc).flatten
theorem msC_succ (L : List Int) (i k : Nat) : msC L i (k + 1) = msC L i k ++ mc ⟨srcR L (mQ L i + 1 + 4 * k) (nJ L i), 1 + srcR L (mQ L i + 1 + 4 * k + 1) 9000, ⟨srcS L (mQ L i + 1 + 4 * k + 2) 3 * 32768, 0, srcS L (mQ L i + 1 + 4 * k + 3) 2 * 32768⟩⟩ := by simp [msC, msOf]
theorem msOf_len (L : List Int) (i : Nat) : ∀ k, (msOf L i k).length = k
  | 0 => rfl
  | k + 1 => by simp [msOf, msOf_len L i k]
theorem rows5 (l : List Ms) : ∀ r ∈ l.map mc, r.length = 5 := fun r hr => by
  obtain ⟨v, _, rfl⟩ := List.mem_map.1 hr
  rfl
theorem ms_slc {L : List Int} {i k cap : Nat} {a : Option Addr} {e : TypeId} {w : World} (h : OwnF 0 e 5 a cap k (msC L i k) w) : SlcIs 5 a ((msOf L i k).map mc) w := by
  refine own_slc (m := 0) (e := e) (cap := cap) (rows5 _) ?_
  rw [List.length_map, msOf_len]
  exact h
def robQ (L : List Int) (i : Nat) : Nat := mQ L i + 1 + 4 * nM L i
structure Sp where
  link : Int
  radius : Int
  pts : List Z3
abbrev Ad := Option Addr × Nat
def spc (s : Sp) (d : Ad) : List Value := [.int .i64 s.link, .int .i64 s.radius, .slice d.1 s.pts.length d.2]
def spRows : List Sp → List Ad → List (List Value)
  | s :: ss, d :: ds => spc s d :: spRows ss ds
  | _, _ => []
def spC (ss : List Sp) (ds : List Ad) : List Value := (spRows ss ds).flatten
theorem spRows_snoc : ∀ (ss : List Sp) (ds : List Ad) (s : Sp) (d : Ad), ds.length = ss.length → spRows (ss ++ [s]) (ds ++ [d]) = spRows ss ds ++ [spc s d]
  | [], [], s, d, _ => rfl
  | _ :: ss, _ :: ds, s, d, h => by simp [spRows, spRows_snoc ss ds s d (by simpa using h)]
  | [], _ :: _, _, _, h => by simp at h
  | _ :: _, [], _, _, h => by simp at h
theorem spC_snoc {ss : List Sp} {ds : List Ad} (s : Sp) (d : Ad) (h : ds.length = ss.length) : spC (ss ++ [s]) (ds ++ [d]) = spC ss ds ++ spc s d := by
  unfold spC
  rw [spRows_snoc ss ds s d h]
  simp
theorem spRows_len : ∀ (ss : List Sp) (ds : List Ad), ds.length = ss.length → (spRows ss ds).length = ss.length
  | [], _, _ => by simp [spRows]
  | _ :: ss, _ :: ds, h => by simp [spRows, spRows_len ss ds (by simpa using h)]
  | _ :: _, [], h => by simp at h
theorem spRows_sz : ∀ (ss : List Sp) (ds : List Ad), ∀ r ∈ spRows ss ds, r.length = 3
  | [], _, r, hr => by simp [spRows] at hr
  | _ :: _, [], r, hr => by simp [spRows] at hr
  | s :: ss, d :: ds, r, hr => by
    rcases List.mem_cons.1 hr with rfl | hr
    · rfl
    · exact spRows_sz ss ds r hr
def PtsF : List Sp → List Ad → World → Prop
  | s :: ss, d :: ds, w => SlcIs 3 d.1 (s.pts.map z3c) w ∧ PtsF ss ds w
  | _, _, _ => True
theorem PtsF_snoc : ∀ (ss : List Sp) (ds : List Ad) (s : Sp) (d : Ad) (w : World), ds.length = ss.length → PtsF ss ds w → SlcIs 3 d.1 (s.pts.map z3c) w → PtsF (ss ++ [s]) (ds ++ [d]) w
  | [], [], s, d, w, _, _, h => ⟨h, trivial⟩
  | _ :: ss, _ :: ds, s, d, w, h, h1, h2 => ⟨h1.1, PtsF_snoc ss ds s d w (by simpa using h) h1.2 h2⟩
  | [], _ :: _, _, _, _, h, _, _ => by simp at h
  | _ :: _, [], _, _, _, h, _, _ => by simp at h
theorem PtsF_un : ∀ (ss : List Sp) (ds : List Ad) (s : Sp) (d : Ad) (w : World), ds.length = ss.length → PtsF (ss ++ [s]) (ds ++ [d]) w → PtsF ss ds w ∧ SlcIs 3 d.1 (s.pts.map z3c) w
  | [], [], s, d, w, _, h => ⟨trivial, h.1⟩
  | _ :: ss, _ :: ds, s, d, w, h, h1 => by
    obtain ⟨p, q⟩ := PtsF_un ss ds s d w (by simpa using h) h1.2
    exact ⟨⟨h1.1, p⟩, q⟩
  | [], _ :: _, _, _, _, h, _ => by simp at h
  | _ :: _, [], _, _, _, h, _ => by simp at h
theorem PtsF_dep {ss : List Sp} {ds : List Ad} {s : Sp} {d : Ad} {D1 D2 : Nat → Prop} (h : ds.length = ss.length) (h1 : Depends D1 (SlcIs 3 d.1 (s.pts.map z3c))) (h2 : Depends D2 (PtsF ss ds)) : Depends (fun q => D1 q ∨ D2 q) (PtsF (ss ++ [s]) (ds ++ [d])) := fun w w' hq hF => by
  obtain ⟨p, q⟩ := PtsF_un ss ds s d w h hF
  exact PtsF_snoc ss ds s d w' h (h2 w w' (fun k hk => hq k (.inr hk)) p) (h1 w w' (fun k hk => hq k (.inl hk)) q)
def linkSp (l : List Int) (q k : Nat) : Sp := ⟨(k : Int), ((1 + srcR l (q + 1) 3) * 65536).tdiv 8, ptsOf l (q + 3) ⟨srcR l (q + 2) 4 * 32768, 0, 0⟩ (ptsN l (q + 3))⟩
def shA (l : List Int) : Nat → List Sp × Nat
  | 0 => ([], robQ l 0)
  | k + 1 => if srcR l (shA l k).2 5 < 4 then ((shA l k).1 ++ [linkSp l (shA l k).2 k], (shA l k).2 + 3 + 1 + 3 * ptsN l ((shA l k).2 + 3)) else ((shA l k).1, (shA l k).2 + 1)
theorem shA_t {l : List Int} {k : Nat} (h : srcR l (shA l k).2 5 < 4) : shA l (k + 1) = ((shA l k).1 ++ [linkSp l (shA l k).2 k], (shA l k).2 + 3 + 1 + 3 * ptsN l ((shA l k).2 + 3)) := if_pos h
theorem shA_f {l : List Int} {k : Nat} (h : ¬ srcR l (shA l k).2 5 < 4) : shA l (k + 1) = ((shA l k).1, (shA l k).2 + 1) := if_neg h
theorem shA_len (l : List Int) : ∀ k, (shA l k).1.length ≤ k
  | 0 => Nat.le_refl _
  | k + 1 => by
    have := shA_len l k
    unfold shA
    split <;> simp <;> omega
def obN (l : List Int) : Nat := (1 + srcR l (shA l (nJ l 0)).2 3).toNat
theorem obN_b (l : List Int) : 1 ≤ obN l ∧ obN l ≤ 3 ∧ ((obN l : Nat) : Int) = 1 + srcR l (shA l (nJ l 0)).2 3 := by
  have := srcR_bnd l (shA l (nJ l 0)).2 (k := 3) (by decide)
  unfold obN
  omega
def obSp (l : List Int) (q : Nat) : Sp := ⟨-1, ((1 + srcR l (q + 3) 4) * 65536).tdiv 8, ptsOf l (q + 4) ⟨srcS l q 9 * 32768, srcS l (q + 1) 9 * 32768, srcS l (q + 2) 2 * 32768⟩ (ptsN l (q + 4))⟩
def shB (l : List Int) : Nat → List Sp × Nat
  | 0 => ((shA l (nJ l 0)).1, (shA l (nJ l 0)).2 + 1)
  | k + 1 => ((shB l k).1 ++ [obSp l (shB l k).2], (shB l k).2 + 4 + 1 + 3 * ptsN l ((shB l k).2 + 4))
theorem shB_len (l : List Int) : ∀ k, (shB l k).1.length ≤ nJ l 0 + k
  | 0 => shA_len l _
  | k + 1 => by
    have := shB_len l k
    simp [shB]
    omega
def scQ (l : List Int) : Nat := (shB l (obN l)).2
def skN (l : List Int) : Nat := if srcR l (scQ l) 5 = 1 then 1 else 0
def skR (l : List Int) : List (List Value) := if srcR l (scQ l) 5 = 1 then [[.int .i64 (-1), .int .i64 (srcR l (scQ l + 1) (nJ l 0))]] else []
theorem sk_t {l : List Int} (h : srcR l (scQ l) 5 = 1) : skN l = 1 ∧ skR l = [[.int .i64 (-1), .int .i64 (srcR l (scQ l + 1) (nJ l 0))]] := ⟨if_pos h, if_pos h⟩
theorem sk_f {l : List Int} (h : ¬ srcR l (scQ l) 5 = 1) : skN l = 0 ∧ skR l = [] := ⟨if_neg h, if_neg h⟩
abbrev ScX := Ad × Ad × Ad × Ad × List Ad
def scV (l : List Int) (x : ScX) : Value := .agg #[.slice x.1.1 (nJ l 0) x.1.2, .slice x.2.1.1 (nM l 0) x.2.1.2, .slice x.2.2.1.1 (shB l (obN l)).1.length x.2.2.1.2, .slice x.2.2.2.1.1 (skN l) x.2.2.2.1.2]
def scP (l : List Int) (x : ScX) : Prop := x.2.2.2.2.length = (shB l (obN l)).1.length
def scF (l : List Int) (x : ScX) (w : World) : Prop := (SlcIs 12 x.1.1 ((jsOf l 0 (nJ l 0)).1.map jc) w ∧ SlcIs 5 x.2.1.1 ((msOf l 0 (nM l 0)).map mc) w) ∧ (SlcIs 3 x.2.2.1.1 (spRows (shB l (obN l)).1 x.2.2.2.2) w ∧ PtsF (shB l (obN l)).1 x.2.2.2.2 w) ∧ SlcIs 2 x.2.2.2.1.1 (skR l) w
theorem sp_slc {ss : List Sp} {ds : List Ad} {m cap : Nat} {a : Option Addr} {e : TypeId} {w : World} (hm : m = ss.length) (hl : ds.length = m) (h : OwnF 0 e 3 a cap m (spC ss ds) w) : SlcIs 3 a (spRows ss ds) w := by
  refine own_slc (m := 0) (e := e) (cap := cap) (spRows_sz _ _) ?_
  rw [spRows_len ss ds (by omega), ← hm]
  exact h
end Go.Sx
namespace Go.Sx
open Go.RowKit
section
variable {P : Program} {n : Nat} {w0 : Base} {ops : Array Oper} {Q : Exit → Act → World → Prop} {H : Heap} {S0 : Slots}
def allB (ops : Array Oper) : Bool := depB ops ops.size && selfB ops ops.size && backB ops
theorem wpAny_all {cs : List Cert} {l : List Oper} {S' : Slots} {G' : Ghosts} (hB : allB l.toArray = true) (hlen : cs.length = l.length)
    (hcs : ∀ i o c, l.toArray[i]? = some o → cs[i]? = some c → CertOk P n w0 l.toArray H o c ∧ Stems S0 (cs.take i) c.S c.G)
    (hst : Stems S0 cs S' G') (hK : PostAt n w0 Q .normal S' H) :
    ∀ (f : Nat) (listed : Array Bool) (a : Act) (w : World), listed.size = l.toArray.size → undone listed l.toArray.size = f → Inv S0 w0 n H cs listed a w →
      wpAny P .any l.toArray Q f listed a w := by
  simp only [allB, Bool.and_eq_true] at hB
  obtain ⟨⟨hdep, hself⟩, hback⟩ := hB
  intro f
  induction f with
  | zero =>
    intro listed a w hsz hu inv
    have hall := undone_zero hu
    have hdone : ∀ i, i < l.length → listed.getD i false = true := fun i hi => by
      have h1 := hall i (by simpa using hi)
      have : i < listed.size := by rw [hsz]; simpa using hi
      simp [this] at h1 ⊢
      exact h1
    have hcN : ∀ i c, cs[i]? = some c → i < l.length := fun i c hc => by have := (List.getElem?_eq_some_iff.1 hc).1; omega
    have fits : Fits n S' a := ⟨inv.size, inv.defers, fun t v ht => by
      rcases hst.slots t v ht with ⟨c, hc, hd, hT⟩ | ⟨h0, hno⟩
      · obtain ⟨i, hi⟩ := List.mem_iff_getElem?.1 hc
        obtain ⟨u, hu, hTu⟩ := inv.done i c hi (hdone i (hcN i c hi))
        rw [hT] at hTu
        rw [← hd, hu]
        exact congrArg some hTu
      · exact inv.old t v h0 fun i c hi hd => absurd hd (hno c (List.mem_of_getElem? hi))⟩
    refine ⟨List.eq_nil_iff_forall_not_mem.2 fun i hi => ?_, hK a w fits inv.knows⟩
    obtain ⟨hun, o, ho, _⟩ := mem_ready.1 hi
    have h1 := hall i (Array.getElem?_eq_some_iff.1 ho).1
    rw [h1] at hun
    cases hun
  | succ f ih =>
    intro listed a w hsz hu inv
    obtain ⟨i0, hi0, hun0, hbefore⟩ := undone_first (listed := listed) (N := l.toArray.size) (by omega)
    have hready : i0 ∈ Region.ready .any l.toArray listed := by
      refine mem_ready.2 ⟨hun0, l.toArray[i0], Array.getElem?_eq_getElem hi0, fun e he hb => ?_⟩
      have h1 := List.all_eq_true.1 hback i0 (List.mem_range.2 hi0)
      simp only [Array.getElem?_eq_getElem hi0] at h1
      have h2 := Array.all_eq_true_iff_forall_mem.1 h1 e he
      simp only [hb, Bool.not_true, Bool.false_or, decide_eq_true_eq] at h2
      have h3 := hbefore e.on h2
      have : e.on < listed.size := by rw [hsz]; omega
      simp [this] at h3 ⊢
      exact h3
    refine ⟨fun h0 => (by rw [h0] at hready; cases hready), fun i hi => ?_⟩
    have hiN : i < l.toArray.size := by
      obtain ⟨_, o, ho, _⟩ := mem_ready.1 hi
      exact (Array.getElem?_eq_some_iff.1 ho).1
    have hun := (mem_ready.1 hi).1
    refine wpOp_mono (fun a' w' h => ?_) (step_inv (by simpa using hlen) hdep hself hcs inv hi hiN hsz (Nat.le_refl _))
    have := undone_set hun hiN
    exact ih _ a' w' (by simpa using hsz) (by omega) h
theorem doC_all {S : Slots} {l : List Oper} {id : Nat} (hm : P.follows .mixedOrders = true) (hB : allB l.toArray = true)
    (h : DoG P n w0 l.toArray H (fun S' _ => PostAt n w0 Q .normal S' H) l S []) : DoC P n w0 Q (.region id l.toArray true) S H := by
  intro a w fa ka
  obtain ⟨cs, hlen, hcs, S', G', hst, hK, hG⟩ := doG_certs (S0 := S) l S [] [] ⟨fun t v ht => .inr ⟨ht, fun c hc => by cases hc⟩, fun t T ht => by cases ht⟩ h
  refine wp_region_any hm ?_
  have hund : undone (Array.replicate l.toArray.size false) l.toArray.size = l.toArray.size := by
    have : ∀ k, k ≤ l.toArray.size → undone (Array.replicate l.toArray.size false) k = k := by
      intro k
      induction k with
      | zero => intro _; rfl
      | succ k ih =>
        intro hk
        have h1 := getD_in (listed := Array.replicate l.toArray.size false) (i := k) (by simp; simp at hk; omega) (getD_replicate_false _ _)
        simp only [undone, ih (by omega), h1]
        rfl
    exact this _ (Nat.le_refl _)
  exact wpAny_all (P := P) (n := n) (w0 := w0) (H := H) (S0 := S) (Q := Q) hB hlen (fun i o c hi hc => by
      have := hcs i o c (by simpa using hi) hc
      simpa using this) (by simpa using hst) hK _ _ a { w with drawn := w.drawn + 1 } (by simp) hund
      ⟨fa.size, fa.defers, fun t v ht _ => fa.has t v ht, fun i c _ hd => (by rw [getD_replicate_false] at hd; cases hd), fun i j c c' _ _ _ _ _ hd => (by rw [getD_replicate_false] at hd; cases hd), ka.next (Grow.refl w).drew⟩
theorem doL_false {S : Slots} {l : List Oper} (d : Nat) {b : Bool} (hb : look S d = some (.bool b)) (h : b = false) (next : DoL P n w0 ops Q l ((d, .bool false) :: S) H) : DoL P n w0 ops Q l S H :=
  fun a w f k => next a w (fits_lit f hb h) k
end
end Go.Sx
namespace Go.Sx
def JB (j : J) : Prop := -1000000 ≤ j.lo ∧ j.lo ≤ j.hi ∧ j.hi ≤ 1000000
theorem jointOf_b (L : List Int) (p : Nat) (k : Int) : JB (jointOf L p k).1 := by
  by_cases h0 : kindOf (srcR L (p + 2) 8) = 0
  · rw [jointOf_fix h0]
    exact ⟨by show (-1000000 : Int) ≤ 0; omega, by show (0 : Int) ≤ 0; omega, by show (0 : Int) ≤ 1000000; omega⟩
  · by_cases h : kindOf (srcR L (p + 2) 8) = 4 ∨ kindOf (srcR L (p + 2) 8) = 5
    · rw [jointOf_sl h]
      have a := srcR_bnd L (jQ p k) (k := 3) (by decide)
      have b := srcR_bnd L (jQ p k + 1) (k := 4) (by decide)
      unfold JB
      dsimp only
      omega
    · rw [jointOf_tu h0 h]
      have a := srcR_bnd L (jQ p k) (k := 5) (by decide)
      have b := srcR_bnd L (jQ p k + 1) (k := 4) (by decide)
      have c := srcR_bnd L (jQ p k + 2) (k := 3) (by decide)
      unfold JB
      dsimp only
      rw [Int.tdiv_eq_ediv_of_nonneg (a := (1 + srcR L (jQ p k + 1) 4) * 65536) (by omega), show (-srcR L (jQ p k) 5 * 65536).tdiv 8 = -(srcR L (jQ p k) 5 * 8192) by
        rw [show -srcR L (jQ p k) 5 * 65536 = -(srcR L (jQ p k) 5 * 8192) * 8 by omega]
        exact Int.mul_tdiv_cancel _ (by decide)]
      omega
theorem jsOf_b (L : List Int) (i : Nat) : ∀ k, ∀ j ∈ (jsOf L i k).1, JB j
  | 0, j, h => by cases h
  | k + 1, j, h => by
    rcases List.mem_append.1 (show j ∈ (jsOf L i k).1 ++ [(jointOf L (jsOf L i k).2 (k : Int)).1] from h) with h | h
    · exact jsOf_b L i k j h
    · obtain rfl := List.mem_singleton.1 h
      exact jointOf_b _ _ _
def ivc (v : Iv) : List Value := [.int .i64 v.lo, .int .i64 v.hi]
def bxW (l : List Int) (q : Nat) (d : Int) : Int × Nat :=
  if srcR l q 5 = 0 then (d, q + 1) else if srcR l q 5 = 1 ∨ srcR l q 5 = 2 then (srcR l (q + 1) 3000, q + 2) else if srcR l q 5 = 3 then (srcR l (q + 1) 200, q + 2) else (0, q + 1)
def bxLo (l : List Int) (q : Nat) (j : J) : Int := j.lo + srcR l q (j.hi - j.lo + 1)
def bxs (l : List Int) (js : List J) : Nat → List Iv × Nat
  | 0 => ([], 0)
  | k + 1 => match js[k]? with
    | some j => ((bxs l js k).1 ++ [⟨bxLo l (bxs l js k).2 j, min j.hi (bxLo l (bxs l js k).2 j + (bxW l ((bxs l js k).2 + 1) (j.hi - j.lo)).1)⟩], (bxW l ((bxs l js k).2 + 1) (j.hi - j.lo)).2)
    | none => bxs l js k
theorem bx_step {l : List Int} {js : List J} {k q : Nat} {j : J} {rows : List Iv} {r x : Int} {q2 : Nat} (hjk : js[k]? = some j) (h : bxs l js k = (rows, q)) (hr : r = srcR l q (j.hi - j.lo + 1)) (hw : bxW l (q + 1) (j.hi - j.lo) = (x, q2)) :
    bxs l js (k + 1) = (rows ++ [⟨j.lo + r, min j.hi (j.lo + r + x)⟩], q2) := by
  simp only [bxs, hjk, h, hw, bxLo, ← hr]
theorem bxW_0 {l : List Int} {q : Nat} {d r : Int} (hr : r = srcR l q 5) (h : r = 0) : bxW l q d = (d, q + 1) := if_pos (hr ▸ h)
theorem bxW_1 {l : List Int} {q : Nat} {d r x : Int} (hr : r = srcR l q 5) (h : r = 1 ∨ r = 2) (hx : x = srcR l (q + 1) 3000) : bxW l q d = (x, q + 1 + 1) := by
  unfold bxW
  rw [← hr, if_neg (by omega), if_pos h, hx]
theorem bxW_3 {l : List Int} {q : Nat} {d r x : Int} (hr : r = srcR l q 5) (h : r = 3) (hx : x = srcR l (q + 1) 200) : bxW l q d = (x, q + 1 + 1) := by
  unfold bxW
  rw [← hr, if_neg (by omega), if_neg (by omega), if_pos h, hx]
theorem bxW_4 {l : List Int} {q : Nat} {d r : Int} (hr : r = srcR l q 5) (h0 : ¬ r = 0) (h1 : ¬ r = 1) (h2 : ¬ r = 2) (h3 : ¬ r = 3) : bxW l q d = (0, q + 1) := by
  unfold bxW
  rw [← hr, if_neg h0, if_neg (by omega), if_neg h3]
def ivC (rows : List Iv) : List Value := (rows.map ivc).flatten
theorem ivC_snoc (rows : List Iv) (v : Iv) : ivC (rows ++ [v]) = ivC rows ++ ivc v := by simp [ivC]
theorem rows2 (l : List Iv) : ∀ r ∈ l.map ivc, r.length = 2 := fun r hr => by
  obtain ⟨v, _, rfl⟩ := List.mem_map.1 hr
  rfl
theorem iv_slc {rows : List Iv} {k cap : Nat} {a : Option Addr} {e : TypeId} {w : World} (hl : rows.length = k) (h : OwnF 0 e 2 a cap k (ivC rows) w) : SlcIs 2 a (rows.map ivc) w := by
  refine own_slc (m := 0) (e := e) (cap := cap) (rows2 _) ?_
  rw [List.length_map, hl]
  exact h
end Go.Sx
namespace Go.Sx
section
variable {P : Program} {w0 : Base} {S : Slots} {H : Heap} {d : Option Tmp} {ty : TypeId} {pos : String} {af : Array Edge} {g : Option (Nat × Bool)}
def fldB (P : Program) (s f off : Nat) : Bool :=
  match P.underlying s with
  | some (.struct fields) => match fields[f]? with
    | some fld => fld.offset == off && tyB P fld.type false 1
    | none => false
  | _ => false
theorem opV_field1 {s f off' : Nat} {x : Operand} {vs : Array Value} {v : Value} (hF : fldB P s f off' = true) (hx : ev S x = some (.agg vs)) (hv : vs[off']? = some v) :
    OpV P w0 S H ⟨d, .field s x f, ty, pos, af, g⟩ v :=
  opV_of (by simp [knownB, Op.operands, hx]) rfl fun w _ => by
    unfold fldB at hF
    cases hu : P.underlying s with
    | none => simp [hu] at hF
    | some ds =>
      cases ds <;> simp [hu] at hF
      rename_i fields
      cases hf : fields[f]? with
      | none => simp [hf] at hF
      | some fld =>
        simp [hf] at hF
        obtain ⟨h1, h2⟩ := hF
        subst h1
        simp [execOp, evD_of hx, Instr.field, run_underlying hu, hf, asAgg, part, tyB_agg h2, hv]
end
def motV (ft fs fr : Nat) (k : Int) : Value := .agg #[.func (.func (if k = 1 ∨ k = 2 ∨ k = 3 then ft else if k = 4 ∨ k = 5 ∨ k = 6 then fs else fr)) #[.int .i64 (if k = 1 ∨ k = 2 ∨ k = 3 then k - 1 else if k = 4 ∨ k = 5 ∨ k = 6 then k - 4 else 0)] #[]]
theorem mot_t {ft fs fr : Nat} {k : Int} (h : k = 1 ∨ k = 2 ∨ k = 3) : motV ft fs fr k = .agg #[.func (.func ft) #[.int .i64 (k - 1)] #[]] := by
  unfold motV; rw [if_pos h, if_pos h]
theorem mot_s {ft fs fr : Nat} {k : Int} (h : k = 4 ∨ k = 5 ∨ k = 6) : motV ft fs fr k = .agg #[.func (.func fs) #[.int .i64 (k - 4)] #[]] := by
  have h2 : ¬ (k = 1 ∨ k = 2 ∨ k = 3) := by omega
  unfold motV; rw [if_neg h2, if_neg h2, if_pos h, if_pos h]
theorem mot_r {ft fs fr : Nat} {k : Int} (h : ¬ (k = 1 ∨ k = 2 ∨ k = 3)) (h2 : ¬ (k = 4 ∨ k = 5 ∨ k = 6)) : motV ft fs fr k = .agg #[.func (.func fr) #[.int .i64 0] #[]] := by
  unfold motV; rw [if_neg h, if_neg h, if_neg h2, if_neg h2]
def V3.put (k : Int) (a : Iv) : V3 := if k = 0 then ⟨a, iv0, iv0⟩ else if k = 1 then ⟨iv0, a, iv0⟩ else ⟨iv0, iv0, a⟩
def jMot (k : Int) (a : Iv) : Po := if k = 1 ∨ k = 2 ∨ k = 3 then Po.turn (k - 1) a else if k = 4 ∨ k = 5 ∨ k = 6 then Po.shift (V3.put (k - 4) a) else Po.rest
theorem jMot_t {k : Int} {a : Iv} (h : k = 1 ∨ k = 2 ∨ k = 3) : jMot k a = Po.turn (k - 1) a := if_pos h
theorem jMot_s {k : Int} {a : Iv} (h : k = 4 ∨ k = 5 ∨ k = 6) : jMot k a = Po.shift (V3.put (k - 4) a) := by
  have h2 : ¬ (k = 1 ∨ k = 2 ∨ k = 3) := by omega
  unfold jMot; rw [if_neg h2, if_pos h]
theorem jMot_r {k : Int} {a : Iv} (h : ¬ (k = 1 ∨ k = 2 ∨ k = 3)) (h2 : ¬ (k = 4 ∨ k = 5 ∨ k = 6)) : jMot k a = Po.rest := by
  unfold jMot; rw [if_neg h, if_neg h2]
def jPose (k : Int) (o : Z3) (a : Iv) : Po := Po.mul (Po.shift (V3.of o)) (jMot k a)
end Go.Sx

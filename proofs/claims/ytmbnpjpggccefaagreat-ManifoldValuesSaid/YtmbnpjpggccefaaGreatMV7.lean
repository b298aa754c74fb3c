/- Part 7 of the texts behind the last one: rules and contracts. No condition. -/
import Derived.Test.YtmbnpjpggccefaaGreatMV6
namespace Go.Sx
def cN (a b : Nat) : Nat := (a + (b - 1)) / b
def d1N (x : Nat) : Nat := x * 6746518852 / 65536
def u1N (x : Nat) : Nat := (x * 6746518853 + 65535) / 65536
def dN (x : Nat) : Nat → Nat
 | 0 => 1073741824
 | 1 => d1N x
 | k + 2 => dN x (k + 1) * d1N x / 1073741824
def uN (x : Nat) : Nat → Nat
 | 0 => 1073741824
 | 1 => u1N x
 | k + 2 => (uN x (k + 1) * u1N x + 1073741823) / 1073741824
def sLo (x : Nat) : Nat := ((dN x 1 + dN x 5 / 120) - (cN (uN x 3) 6 + cN (uN x 7) 5040)) / 16384
def sHi (x : Nat) : Nat := min 65536 ((((uN x 1 + cN (uN x 5) 120 + cN (uN x 9) 362880) - (dN x 3 / 6 + dN x 7 / 5040)) + 16383) / 16384)
def cLo (x : Nat) : Nat := ((1073741824 + dN x 4 / 24 + dN x 8 / 40320) - (cN (uN x 2) 2 + cN (uN x 6) 720 + cN (uN x 10) 3628800)) / 16384
def cHi (x : Nat) : Nat := min 65536 ((((1073741824 + cN (uN x 4) 24 + cN (uN x 8) 40320) - (dN x 2 / 2 + dN x 6 / 720)) + 16383) / 16384)
def fLo (r : Nat) : Nat := if r ≤ 8192 then sLo r else cLo (16384 - r)
def fHi (r : Nat) : Nat := if r ≤ 8192 then sHi r else cHi (16384 - r)
theorem fLo_lo {r : Nat} (h : r ≤ 8192) : fLo r = sLo r ∧ fHi r = sHi r := ⟨if_pos h, if_pos h⟩
theorem fLo_hi {r : Nat} (h : 8192 < r) : fLo r = cLo (16384 - r) ∧ fHi r = cHi (16384 - r) := ⟨if_neg (by omega), if_neg (by omega)⟩
def frc (n : Nat) (k : Nat → Bool) : Bool := Nat.rec (motive := fun _ => Bool) (k 0) (fun m _ => k (Nat.succ m)) n
theorem frc_eq (n : Nat) (k : Nat → Bool) : frc n k = k n := by cases n <;> rfl
def valsK (x : Nat) (K : Nat → Nat → Nat → Nat → Bool) : Bool :=
 frc x fun x => frc (x * 6746518852 / 65536) fun d1 => frc ((x * 6746518853 + 65535) / 65536) fun u1 =>
 frc (d1 * d1 / 1073741824) fun d2 => frc ((u1 * u1 + 1073741823) / 1073741824) fun u2 =>
 frc (d2 * d1 / 1073741824) fun d3 => frc ((u2 * u1 + 1073741823) / 1073741824) fun u3 =>
 frc (d3 * d1 / 1073741824) fun d4 => frc ((u3 * u1 + 1073741823) / 1073741824) fun u4 =>
 frc (d4 * d1 / 1073741824) fun d5 => frc ((u4 * u1 + 1073741823) / 1073741824) fun u5 =>
 frc (d5 * d1 / 1073741824) fun d6 => frc ((u5 * u1 + 1073741823) / 1073741824) fun u6 =>
 frc (d6 * d1 / 1073741824) fun d7 => frc ((u6 * u1 + 1073741823) / 1073741824) fun u7 =>
 frc (d7 * d1 / 1073741824) fun d8 => frc ((u7 * u1 + 1073741823) / 1073741824) fun u8 =>
 frc ((u8 * u1 + 1073741823) / 1073741824) fun u9 => frc ((u9 * u1 + 1073741823) / 1073741824) fun u10 =>
 frc (((d1 + d5 / 120) - ((u3 + 5) / 6 + (u7 + 5039) / 5040)) / 16384) fun slo =>
 frc (min 65536 ((((u1 + (u5 + 119) / 120 + (u9 + 362879) / 362880) - (d3 / 6 + d7 / 5040)) + 16383) / 16384)) fun shi =>
 frc (((1073741824 + d4 / 24 + d8 / 40320) - ((u2 + 1) / 2 + (u6 + 719) / 720 + (u10 + 3628799) / 3628800)) / 16384) fun clo =>
 frc (min 65536 ((((1073741824 + (u4 + 23) / 24 + (u8 + 40319) / 40320) - (d2 / 2 + d6 / 720)) + 16383) / 16384)) fun chi => K slo shi clo chi
theorem valsK_eq (x : Nat) (K : Nat → Nat → Nat → Nat → Bool) : valsK x K = K (sLo x) (sHi x) (cLo x) (cHi x) := by
 unfold valsK
 simp only [frc_eq]
 rfl
def one (x a b c d : Nat) : Bool :=
 Nat.ble a b && (Nat.ble b 65536 && (Nat.ble b (a + 2) && (Nat.ble c d && (Nat.ble d 65536 && (Nat.ble d (c + 2) &&
 (Nat.ble (4 * x) b && (Nat.ble (4 * x) (a + 2) && (Nat.ble a (x * 411775 / 65536 + 1) &&
 (Nat.ble (4 * (16384 - x)) d && (Nat.ble (4 * (16384 - x)) (c + 2) && (Nat.ble c ((16384 - x) * 411775 / 65536 + 1) &&
 (Nat.ble (a * a / 65536 + c * c / 65536) 65536 && Nat.ble 65536 ((b * b + 65535) / 65536 + (d * d + 65535) / 65536)))))))))))))
structure Fst (r : Nat) : Prop where
 ord : fLo r ≤ fHi r
 top : fHi r ≤ 65536
 wid : fHi r ≤ fLo r + 2
 ch1 : 4 * r ≤ fHi r
 ch2 : 4 * r ≤ fLo r + 2
 ch3 : fLo r ≤ r * 411775 / 65536 + 1
end Go.Sx
namespace Go.Sx
theorem neg_mk {x y : Int} (h : -2147483648 ≤ x ∧ x ≤ y ∧ y ≤ 2147483648) : Iv.neg ⟨x, y⟩ = ⟨-y, -x⟩ := by
 have : Iv.valid ⟨x, y⟩ = true := by simp [Iv.valid]; omega
 simp [Iv.neg, this]
theorem neg_of {a : Iv} (h : -2147483648 ≤ a.lo ∧ a.lo ≤ a.hi ∧ a.hi ≤ 2147483648) : Iv.neg a = ⟨-a.hi, -a.lo⟩ := neg_mk (x := a.lo) (y := a.hi) h
theorem valid_of {a : Iv} (h : -2147483648 ≤ a.lo ∧ a.lo ≤ a.hi ∧ a.hi ≤ 2147483648) : a.valid = true := by simp [Iv.valid]; omega
theorem neg_neg {a : Iv} (h : -2147483648 ≤ a.lo ∧ a.lo ≤ a.hi ∧ a.hi ≤ 2147483648) : Iv.neg (Iv.neg a) = a := by
 rw [neg_of h, neg_mk (by omega), Int.neg_neg, Int.neg_neg]
end Go.Sx
namespace Go.Sx
def nn : Nat := 340282366920938463463374607431768211456
def uu : Nat := 5192296858534827628530496329220096
def uc : Nat := 340282365357037221779282487371359009126
def us : Nat := 32624163282081701561065576601652201
def w : Nat → Nat × Nat
 | 0 => (nn, 0)
 | n + 1 => (((w n).1 * uc - (w n).2 * us) / nn, ((w n).1 * us + (w n).2 * uc) / nn)
def bx (S C a b c d : Nat) : Bool := Nat.ble (a * 5192296858534827628530496329220096) S && (Nat.ble S (b * 5192296858534827628530496329220096) && (Nat.ble (c * 5192296858534827628530496329220096) C && Nat.ble C (d * 5192296858534827628530496329220096)))
def goU (C' T' : Nat) : Nat → Nat → Nat → Nat → Bool
 | 0, C, T, _ => Nat.beq C C' && Nat.beq T T'
 | k + 1, C, T, x => (valsK x fun a b c d => bx T C a b c d) && (Nat.ble (T * 32624163282081701561065576601652201) (C * 340282365357037221779282487371359009126) && frc ((C * 340282365357037221779282487371359009126 - T * 32624163282081701561065576601652201) / 340282366920938463463374607431768211456) fun C2 => frc ((C * 32624163282081701561065576601652201 + T * 340282365357037221779282487371359009126) / 340282366920938463463374607431768211456) fun T2 => frc (x + 1) fun x2 => goU C' T' k C2 T2 x2)
def goD (C' T' : Nat) : Nat → Nat → Nat → Nat → Bool
 | 0, C, T, _ => Nat.beq C C' && Nat.beq T T'
 | k + 1, C, T, x => (valsK x fun a b c d => bx C T a b c d) && (Nat.ble (T * 32624163282081701561065576601652201) (C * 340282365357037221779282487371359009126) && frc ((C * 340282365357037221779282487371359009126 - T * 32624163282081701561065576601652201) / 340282366920938463463374607431768211456) fun C2 => frc ((C * 32624163282081701561065576601652201 + T * 340282365357037221779282487371359009126) / 340282366920938463463374607431768211456) fun T2 => frc (x - 1) fun x2 => goD C' T' k C2 T2 x2)
structure BoxU (r : Nat) : Prop where
 sl : sLo r * uu ≤ (w r).2
 sh : (w r).2 ≤ sHi r * uu
 cl : cLo r * uu ≤ (w r).1
 ch : (w r).1 ≤ cHi r * uu
 st : (w r).2 * us ≤ (w r).1 * uc
structure BoxD (r : Nat) : Prop where
 sl : sLo (16384 - r) * uu ≤ (w r).1
 sh : (w r).1 ≤ sHi (16384 - r) * uu
 cl : cLo (16384 - r) * uu ≤ (w r).2
 ch : (w r).2 ≤ cHi (16384 - r) * uu
 st : (w r).2 * us ≤ (w r).1 * uc
theorem qJV {C' T' : Nat} : ∀ k C T x, goU C' T' k C T x = true → w x = (C, T) → w (x + k) = (C', T') ∧ ∀ i, x ≤ i → i < x + k → BoxU i
 | 0, C, T, x, h, e => by
  simp only [goU, Bool.and_eq_true] at h
  refine ⟨?_, fun i a b => absurd b (by omega)⟩
  rw [Nat.add_zero, e, Nat.eq_of_beq_eq_true h.1, Nat.eq_of_beq_eq_true h.2]
 | k + 1, C, T, x, h, e => by
  simp only [goU, frc_eq, valsK_eq, bx, Bool.and_eq_true] at h
  obtain ⟨⟨h1, h2, h3, h4⟩, h5, h6⟩ := h
  obtain ⟨q1, q2⟩ := qJV k _ _ (x + 1) h6 (by rw [w, e]; rfl)
  refine ⟨by rw [← q1]; congr 1; omega, fun i a b => ?_⟩
  by_cases hi : i = x
  ·subst hi
   exact ⟨by rw [e]; exact Nat.le_of_ble_eq_true h1, by rw [e]; exact Nat.le_of_ble_eq_true h2, by rw [e]; exact Nat.le_of_ble_eq_true h3, by rw [e]; exact Nat.le_of_ble_eq_true h4, by rw [e]; exact Nat.le_of_ble_eq_true h5⟩
  ·exact q2 i (by omega) (by omega)
theorem qKJ {C' T' : Nat} : ∀ k C T r, r ≤ 16384 → k ≤ 16384 - r → goD C' T' k C T (16384 - r) = true → w r = (C, T) → w (r + k) = (C', T') ∧ ∀ i, r ≤ i → i < r + k → BoxD i
 | 0, C, T, x, _, _, h, e => by
  simp only [goD, Bool.and_eq_true] at h
  refine ⟨?_, fun i a b => absurd b (by omega)⟩
  rw [Nat.add_zero, e, Nat.eq_of_beq_eq_true h.1, Nat.eq_of_beq_eq_true h.2]
 | k + 1, C, T, x, g1, g2, h, e => by
  simp only [goD, frc_eq, valsK_eq, bx, Bool.and_eq_true] at h
  obtain ⟨⟨h1, h2, h3, h4⟩, h5, h6⟩ := h
  rw [show 16384 - x - 1 = 16384 - (x + 1) by omega] at h6
  obtain ⟨q1, q2⟩ := qKJ k _ _ (x + 1) (by omega) (by omega) h6 (by rw [w, e]; rfl)
  refine ⟨by rw [← q1]; congr 1; omega, fun i a b => ?_⟩
  by_cases hi : i = x
  ·subst hi
   exact ⟨by rw [e]; exact Nat.le_of_ble_eq_true h1, by rw [e]; exact Nat.le_of_ble_eq_true h2, by rw [e]; exact Nat.le_of_ble_eq_true h3, by rw [e]; exact Nat.le_of_ble_eq_true h4, by rw [e]; exact Nat.le_of_ble_eq_true h5⟩
  ·exact q2 i (by omega) (by omega)
theorem wk0 : goU 338643814315582355912937410983956791763 33353504510164655995148692933346502990 1024 340282366920938463463374607431768211456 0 0 = true := by decide +kernel
theorem wk1 : goU 333743936656827580393945988194117882553 66385796539016198537004233666266150132 1024 338643814315582355912937410983956791763 33353504510164655995148692933346502990 1024 = true := by decide +kernel
theorem wk2 : goU 325629922445073537381874007154866693371 98778757057029163154891549979681820108 1024 333743936656827580393945988194117882553 66385796539016198537004233666266150132 2048 = true := by decide +kernel
theorem wk3 : goU 314379914072750776175968446003616356708 130220424146621615521356287373662035415 1024 325629922445073537381874007154866693371 98778757057029163154891549979681820108 3072 = true := by decide +kernel
theorem wk4 : goU 300102255270364911803307903246760032214 160407997365957196655387116525924829546 1024 314379914072750776175968446003616356708 130220424146621615521356287373662035415 4096 = true := by decide +kernel
theorem wk5 : goU 282934447697145148265594844368147524013 189050753882727566157415671255032869469 1024 300102255270364911803307903246760032214 160407997365957196655387116525924829546 5120 = true := by decide +kernel
theorem wk6 : goU 263041826724899848421390153308517431640 215872848293952797667059038248426017122 1024 282934447697145148265594844368147524013 189050753882727566157415671255032869469 6144 = true := by decide +kernel
theorem wk7 : goU 240615969168004511545033772483698474358 240615969168004511545033772471550468243 1024 263041826724899848421390153308517431640 215872848293952797667059038248426017122 7168 = true := by decide +kernel
theorem wk8 : goD 215872848293952797667059038261706108609 263041826724899848421390153297618474197 1024 240615969168004511545033772483698474358 240615969168004511545033772471550468243 8192 = true := by decide +kernel
theorem wk9 : goD 189050753882727566157415671269317183057 282934447697145148265594844358602552466 1024 215872848293952797667059038261706108609 263041826724899848421390153297618474197 7168 = true := by decide +kernel
theorem wk10 : goD 160407997365957196655387116541075833093 300102255270364911803307903238660947340 1024 189050753882727566157415671269317183057 282934447697145148265594844358602552466 6144 = true := by decide +kernel
theorem wk11 : goD 130220424146621615521356287389533852184 314379914072750776175968445997041138024 1024 160407997365957196655387116541075833093 300102255270364911803307903238660947340 5120 = true := by decide +kernel
theorem wk12 : goD 98778757057029163154891549996121633199 325629922445073537381874007149878648288 1024 130220424146621615521356287389533852184 314379914072750776175968445997041138024 4096 = true := by decide +kernel
theorem wk13 : goD 66385796539016198537004233683115673837 333743936656827580393945988190765036869 1024 98778757057029163154891549996121633199 325629922445073537381874007149878648288 3072 = true := by decide +kernel
theorem wk14 : goD 33353504510164655995148692950443506845 338643814315582355912937410982271427247 1024 66385796539016198537004233683115673837 333743936656827580393945988190765036869 2048 = true := by decide +kernel
theorem wk15 : goD 17179870747 340282366920938463463374607431766555032 1024 33353504510164655995148692950443506845 338643814315582355912937410982271427247 1024 = true := by decide +kernel
theorem ws0 : w 0 = (340282366920938463463374607431768211456, 0) := rfl
theorem ws1 : w 1024 = (338643814315582355912937410983956791763, 33353504510164655995148692933346502990) := (qJV 1024 _ _ 0 wk0 ws0).1
theorem ws2 : w 2048 = (333743936656827580393945988194117882553, 66385796539016198537004233666266150132) := (qJV 1024 _ _ 1024 wk1 ws1).1
theorem ws3 : w 3072 = (325629922445073537381874007154866693371, 98778757057029163154891549979681820108) := (qJV 1024 _ _ 2048 wk2 ws2).1
theorem ws4 : w 4096 = (314379914072750776175968446003616356708, 130220424146621615521356287373662035415) := (qJV 1024 _ _ 3072 wk3 ws3).1
theorem ws5 : w 5120 = (300102255270364911803307903246760032214, 160407997365957196655387116525924829546) := (qJV 1024 _ _ 4096 wk4 ws4).1
theorem ws6 : w 6144 = (282934447697145148265594844368147524013, 189050753882727566157415671255032869469) := (qJV 1024 _ _ 5120 wk5 ws5).1
theorem ws7 : w 7168 = (263041826724899848421390153308517431640, 215872848293952797667059038248426017122) := (qJV 1024 _ _ 6144 wk6 ws6).1
theorem ws8 : w 8192 = (240615969168004511545033772483698474358, 240615969168004511545033772471550468243) := (qJV 1024 _ _ 7168 wk7 ws7).1
theorem ws9 : w 9216 = (215872848293952797667059038261706108609, 263041826724899848421390153297618474197) := (qKJ 1024 _ _ 8192 (by decide) (by decide) wk8 ws8).1
theorem ws10 : w 10240 = (189050753882727566157415671269317183057, 282934447697145148265594844358602552466) := (qKJ 1024 _ _ 9216 (by decide) (by decide) wk9 ws9).1
theorem ws11 : w 11264 = (160407997365957196655387116541075833093, 300102255270364911803307903238660947340) := (qKJ 1024 _ _ 10240 (by decide) (by decide) wk10 ws10).1
theorem ws12 : w 12288 = (130220424146621615521356287389533852184, 314379914072750776175968445997041138024) := (qKJ 1024 _ _ 11264 (by decide) (by decide) wk11 ws11).1
theorem ws13 : w 13312 = (98778757057029163154891549996121633199, 325629922445073537381874007149878648288) := (qKJ 1024 _ _ 12288 (by decide) (by decide) wk12 ws12).1
theorem ws14 : w 14336 = (66385796539016198537004233683115673837, 333743936656827580393945988190765036869) := (qKJ 1024 _ _ 13312 (by decide) (by decide) wk13 ws13).1
theorem ws15 : w 15360 = (33353504510164655995148692950443506845, 338643814315582355912937410982271427247) := (qKJ 1024 _ _ 14336 (by decide) (by decide) wk14 ws14).1
theorem boxU {r : Nat} (h : r < 8192) : BoxU r := by
 have hq : (0 ≤ r ∧ r < 1024) ∨ (1024 ≤ r ∧ r < 2048) ∨ (2048 ≤ r ∧ r < 3072) ∨ (3072 ≤ r ∧ r < 4096) ∨ (4096 ≤ r ∧ r < 5120) ∨ (5120 ≤ r ∧ r < 6144) ∨ (6144 ≤ r ∧ r < 7168) ∨ (7168 ≤ r ∧ r < 8192) := by omega
 rcases hq with h | h | h | h | h | h | h | h
 ·exact (qJV 1024 _ _ 0 wk0 ws0).2 r h.1 h.2
 ·exact (qJV 1024 _ _ 1024 wk1 ws1).2 r h.1 h.2
 ·exact (qJV 1024 _ _ 2048 wk2 ws2).2 r h.1 h.2
 ·exact (qJV 1024 _ _ 3072 wk3 ws3).2 r h.1 h.2
 ·exact (qJV 1024 _ _ 4096 wk4 ws4).2 r h.1 h.2
 ·exact (qJV 1024 _ _ 5120 wk5 ws5).2 r h.1 h.2
 ·exact (qJV 1024 _ _ 6144 wk6 ws6).2 r h.1 h.2
 ·exact (qJV 1024 _ _ 7168 wk7 ws7).2 r h.1 h.2
theorem boxD {r : Nat} (g : 8192 ≤ r) (h : r < 16384) : BoxD r := by
 have hq : (8192 ≤ r ∧ r < 9216) ∨ (9216 ≤ r ∧ r < 10240) ∨ (10240 ≤ r ∧ r < 11264) ∨ (11264 ≤ r ∧ r < 12288) ∨ (12288 ≤ r ∧ r < 13312) ∨ (13312 ≤ r ∧ r < 14336) ∨ (14336 ≤ r ∧ r < 15360) ∨ (15360 ≤ r ∧ r < 16384) := by omega
 rcases hq with h | h | h | h | h | h | h | h
 ·exact (qKJ 1024 _ _ 8192 (by decide) (by decide) wk8 ws8).2 r h.1 h.2
 ·exact (qKJ 1024 _ _ 9216 (by decide) (by decide) wk9 ws9).2 r h.1 h.2
 ·exact (qKJ 1024 _ _ 10240 (by decide) (by decide) wk10 ws10).2 r h.1 h.2
 ·exact (qKJ 1024 _ _ 11264 (by decide) (by decide) wk11 ws11).2 r h.1 h.2
 ·exact (qKJ 1024 _ _ 12288 (by decide) (by decide) wk12 ws12).2 r h.1 h.2
 ·exact (qKJ 1024 _ _ 13312 (by decide) (by decide) wk13 ws13).2 r h.1 h.2
 ·exact (qKJ 1024 _ _ 14336 (by decide) (by decide) wk14 ws14).2 r h.1 h.2
 ·exact (qKJ 1024 _ _ 15360 (by decide) (by decide) wk15 ws15).2 r h.1 h.2
theorem mid0 : (valsK 8192 fun a b c d => bx 240615969168004511545033772471550468243 240615969168004511545033772483698474358 a b c d) = true := by decide +kernel
theorem mid : sLo 8192 * uu ≤ (w 8192).2 ∧ (w 8192).2 ≤ sHi 8192 * uu := by
 have := mid0
 simp only [valsK_eq, bx, Bool.and_eq_true] at this
 rw [ws8]
 exact ⟨Nat.le_of_ble_eq_true this.1, Nat.le_of_ble_eq_true this.2.1⟩
theorem box {r : Nat} (h : r < 16384) : fLo r * uu ≤ (w r).2 ∧ (w r).2 ≤ fHi r * uu ∧ fLo (16384 - r) * uu ≤ (w r).1 ∧ (w r).1 ≤ fHi (16384 - r) * uu := by
 rcases Nat.lt_or_ge r 8192 with h1 | h1
 ·have b := boxU h1
  rw [(fLo_lo (r := r) (by omega)).1, (fLo_lo (r := r) (by omega)).2, (fLo_hi (r := 16384 - r) (by omega)).1, (fLo_hi (r := 16384 - r) (by omega)).2, show 16384 - (16384 - r) = r by omega]
  exact ⟨b.sl, b.sh, b.cl, b.ch⟩
 ·have b := boxD h1 h
  rw [(fLo_lo (r := 16384 - r) (by omega)).1, (fLo_lo (r := 16384 - r) (by omega)).2]
  rcases Nat.lt_or_ge 8192 r with h2 | h2
  ·rw [(fLo_hi (r := r) (by omega)).1, (fLo_hi (r := r) (by omega)).2]
   exact ⟨b.cl, b.ch, b.sl, b.sh⟩
  ·have e : r = 8192 := by omega
   subst e
   rw [(fLo_lo (r := 8192) (by omega)).1, (fLo_lo (r := 8192) (by omega)).2]
   have k := mid
   exact ⟨k.1, k.2, b.sl, b.sh⟩
end Go.Sx
namespace Go.Sx
def WC (r : Nat) : Int := ((w r).1 : Int)
def WT (r : Nat) : Int := ((w r).2 : Int)
theorem w0 : WC 0 = (340282366920938463463374607431768211456 : Int) ∧ WT 0 = 0 := ⟨rfl, rfl⟩
end Go.Sx
namespace Go.Sx
structure In (I : Iv) (m x : Int) : Prop where
 lo : I.lo * m ≤ x
 hi : x ≤ I.hi * m
def Ok (a : Iv) : Prop := -2147483648 ≤ a.lo ∧ a.lo ≤ a.hi ∧ a.hi ≤ 2147483648
theorem clamp_bnd (z : Int) : -2147483648 ≤ qKX z ∧ qKX z ≤ 2147483648 := by unfold qKX; omega
theorem clamp_mono {x y : Int} (h : x ≤ y) : qKX x ≤ qKX y := by unfold qKX; omega
theorem mul_Ok (a b : Iv) : Ok (Iv.mul a b) := by
 unfold Iv.mul
 cases a.valid && b.valid
 ·exact (show Ok ⟨0, 0⟩ by unfold Ok; decide)
 ·refine ⟨(clamp_bnd _).1, clamp_mono ?_, (clamp_bnd _).2⟩
  have hc := ceil_spec (a := max4 (a.lo * b.lo) (a.lo * b.hi) (a.hi * b.lo) (a.hi * b.hi)) (b := 65536) (by decide)
  have : min4 (a.lo * b.lo) (a.lo * b.hi) (a.hi * b.lo) (a.hi * b.hi) ≤ max4 (a.lo * b.lo) (a.lo * b.hi) (a.hi * b.lo) (a.hi * b.hi) := by unfold min4 max4; omega
  omega
end Go.Sx
namespace Go.Sx
structure V3 where
 x : Iv
 y : Iv
 z : Iv
structure M3 where
 x : V3
 y : V3
 z : V3
structure Po where
 r : M3
 t : V3
structure Z3 where
 x : Int
 y : Int
 z : Int
def z3 (v : Z3) : Value := .agg #[.int .i64 v.x, .int .i64 v.y, .int .i64 v.z]
def v3 (v : V3) : Value := .agg #[.int .i64 v.x.lo, .int .i64 v.x.hi, .int .i64 v.y.lo, .int .i64 v.y.hi, .int .i64 v.z.lo, .int .i64 v.z.hi]
def m3 (v : M3) : Value := .agg #[.int .i64 v.x.x.lo, .int .i64 v.x.x.hi, .int .i64 v.x.y.lo, .int .i64 v.x.y.hi, .int .i64 v.x.z.lo, .int .i64 v.x.z.hi,
 .int .i64 v.y.x.lo, .int .i64 v.y.x.hi, .int .i64 v.y.y.lo, .int .i64 v.y.y.hi, .int .i64 v.y.z.lo, .int .i64 v.y.z.hi,
 .int .i64 v.z.x.lo, .int .i64 v.z.x.hi, .int .i64 v.z.y.lo, .int .i64 v.z.y.hi, .int .i64 v.z.z.lo, .int .i64 v.z.z.hi]
def po (p : Po) : Value := .agg #[.int .i64 p.r.x.x.lo, .int .i64 p.r.x.x.hi, .int .i64 p.r.x.y.lo, .int .i64 p.r.x.y.hi, .int .i64 p.r.x.z.lo, .int .i64 p.r.x.z.hi,
 .int .i64 p.r.y.x.lo, .int .i64 p.r.y.x.hi, .int .i64 p.r.y.y.lo, .int .i64 p.r.y.y.hi, .int .i64 p.r.y.z.lo, .int .i64 p.r.y.z.hi,
 .int .i64 p.r.z.x.lo, .int .i64 p.r.z.x.hi, .int .i64 p.r.z.y.lo, .int .i64 p.r.z.y.hi, .int .i64 p.r.z.z.lo, .int .i64 p.r.z.z.hi,
 .int .i64 p.t.x.lo, .int .i64 p.t.x.hi, .int .i64 p.t.y.lo, .int .i64 p.t.y.hi, .int .i64 p.t.z.lo, .int .i64 p.t.z.hi]
def V3.of (p : Z3) : V3 := ⟨Iv.of p.x, Iv.of p.y, Iv.of p.z⟩
def V3.add (a b : V3) : V3 := ⟨Iv.add a.x b.x, Iv.add a.y b.y, Iv.add a.z b.z⟩
def V3.sub (a b : V3) : V3 := ⟨Iv.sub a.x b.x, Iv.sub a.y b.y, Iv.sub a.z b.z⟩
def V3.neg (a : V3) : V3 := ⟨Iv.neg a.x, Iv.neg a.y, Iv.neg a.z⟩
def V3.within (a b : V3) : Bool := Iv.within a.x b.x && Iv.within a.y b.y && Iv.within a.z b.z
def V3.dot (a b : V3) : Iv := Iv.add (Iv.add (Iv.mul a.x b.x) (Iv.mul a.y b.y)) (Iv.mul a.z b.z)
def M3.apply (m : M3) (v : V3) : V3 := ⟨V3.dot m.x v, V3.dot m.y v, V3.dot m.z v⟩
def limI (x : Int) : Int := min (max x (-65536)) 65536
def limV (a : Iv) : Iv := ⟨limI a.lo, limI a.hi⟩
def M3.tr (m : M3) : M3 := ⟨⟨m.x.x, m.y.x, m.z.x⟩, ⟨m.x.y, m.y.y, m.z.y⟩, ⟨m.x.z, m.y.z, m.z.z⟩⟩
def M3.row (a : V3) (b : M3) : V3 := ⟨limV (V3.dot a b.tr.x), limV (V3.dot a b.tr.y), limV (V3.dot a b.tr.z)⟩
def M3.mul (a b : M3) : M3 := ⟨M3.row a.x b, M3.row a.y b, M3.row a.z b⟩
def M3.within (a b : M3) : Bool := V3.within a.x b.x && V3.within a.y b.y && V3.within a.z b.z
def iv0 : Iv := ⟨0, 0⟩
def iv1 : Iv := ⟨65536, 65536⟩
def M3.unit : M3 := ⟨⟨iv1, iv0, iv0⟩, ⟨iv0, iv1, iv0⟩, ⟨iv0, iv0, iv1⟩⟩
def M3.zero : M3 := ⟨⟨iv0, iv0, iv0⟩, ⟨iv0, iv0, iv0⟩, ⟨iv0, iv0, iv0⟩⟩
def M3.turn (axis : Int) (a : Iv) : M3 := bif !a.valid then M3.zero else
 bif decide (axis = 0) then ⟨⟨iv1, iv0, iv0⟩, ⟨iv0, qKK a, Iv.neg (qKQ a)⟩, ⟨iv0, qKQ a, qKK a⟩⟩ else
 bif decide (axis = 1) then ⟨⟨qKK a, iv0, qKQ a⟩, ⟨iv0, iv1, iv0⟩, ⟨Iv.neg (qKQ a), iv0, qKK a⟩⟩ else
 bif decide (axis = 2) then ⟨⟨qKK a, Iv.neg (qKQ a), iv0⟩, ⟨qKQ a, qKK a, iv0⟩, ⟨iv0, iv0, iv1⟩⟩ else M3.zero
theorem zZX : Iv.of 65536 = iv1 := by kernel_rfl
theorem qHH : Iv.of 0 = iv0 := by kernel_rfl
theorem add_zero_mul (a b : Iv) : Iv.add ⟨0, 0⟩ (Iv.mul a b) = Iv.mul a b := by
 have h := mul_Ok a b
 have hz : Iv.valid ⟨0, 0⟩ = true := by decide
 simp only [Iv.add, hz, valid_of h, Bool.and_self, cond_true, Int.zero_add]
 unfold Ok at h
 rw [clampI_id (by omega), clampI_id (by omega)]
theorem lim_ref (x : Int) : max (-65536) (min x 65536) = limI x := by unfold limI; omega
end Go.Sx
namespace Go.Sx
def V3.zero : V3 := ⟨iv0, iv0, iv0⟩
def Po.shift (v : V3) : Po := ⟨M3.unit, v⟩
def Po.rest : Po := ⟨M3.unit, V3.zero⟩
def Po.turn (axis : Int) (a : Iv) : Po := ⟨M3.turn axis a, V3.zero⟩
def Po.app (p : Po) (v : V3) : V3 := V3.add p.t (M3.apply p.r v)
def Po.mul (p q : Po) : Po := ⟨M3.mul p.r q.r, Po.app p q.t⟩
def Po.inv (p : Po) : Po := ⟨M3.tr p.r, V3.neg (M3.apply (M3.tr p.r) p.t)⟩
def Po.within (p q : Po) : Bool := M3.within p.r q.r && V3.within p.t q.t
end Go.Sx
namespace Go.Rx
open Go.RowKit Go.Sx
def PV.i64 : PV → Option Int
 | .n .i64 x => some x
 | _ => none
def ints (cs : List PV) : Option (List Int) := mapO PV.i64 cs
theorem ints_eq : ∀ {cs : List PV} {l : List Int}, ints cs = some l → cs = l.map fun x => .n .i64 x
 | [], l, h => by cases h; rfl
 | c :: cs, l, h => by
  simp only [ints, mapO, Option.bind_eq_some_iff, Option.some.injEq] at h
  obtain ⟨x, hx, ys, hys, rfl⟩ := h
  rw [List.map_cons, ← ints_eq (cs := cs) hys]
  unfold PV.i64 at hx
  split at hx
  ·cases hx; rfl
  ·cases hx
def ivC (p : Iv) : List PV := [.n .i64 p.lo, .n .i64 p.hi]
def ivD (cs : List PV) : Option Iv := (ints cs).bind fun l => bif Nat.beq l.length 2 then some ⟨(l.getD 0 0), (l.getD 1 0)⟩ else none
theorem qGU {cs : List PV} {p : Iv} (h : ivD cs = some p) : cs = ivC p := by
 simp only [ivD, Option.bind_eq_some_iff] at h
 obtain ⟨l, hl, h⟩ := h
 obtain ⟨hn, h⟩ := yG h
 have hn := Nat.eq_of_beq_eq_true hn
 rw [ints_eq hl]
 cases h
 obtain _ | ⟨x0, l0⟩ := l <;> simp only [List.length_cons, List.length_nil, Nat.add_right_cancel_iff] at hn <;> first | (exact absurd hn (by omega)) | skip
 obtain _ | ⟨x1, l1⟩ := l0 <;> simp only [List.length_cons, List.length_nil, Nat.add_right_cancel_iff] at hn <;> first | (exact absurd hn (by omega)) | skip
 obtain _ | ⟨y, l⟩ := l1 <;> simp only [List.length_cons, List.length_nil] at hn <;> first | (exact absurd hn (by omega)) | skip
 rfl
def z3C (p : Z3) : List PV := [.n .i64 p.x, .n .i64 p.y, .n .i64 p.z]
def z3D (cs : List PV) : Option Z3 := (ints cs).bind fun l => bif Nat.beq l.length 3 then some ⟨(l.getD 0 0), (l.getD 1 0), (l.getD 2 0)⟩ else none
theorem z3D_eq {cs : List PV} {p : Z3} (h : z3D cs = some p) : cs = z3C p := by
 simp only [z3D, Option.bind_eq_some_iff] at h
 obtain ⟨l, hl, h⟩ := h
 obtain ⟨hn, h⟩ := yG h
 have hn := Nat.eq_of_beq_eq_true hn
 rw [ints_eq hl]
 cases h
 obtain _ | ⟨x0, l0⟩ := l <;> simp only [List.length_cons, List.length_nil, Nat.add_right_cancel_iff] at hn <;> first | (exact absurd hn (by omega)) | skip
 obtain _ | ⟨x1, l1⟩ := l0 <;> simp only [List.length_cons, List.length_nil, Nat.add_right_cancel_iff] at hn <;> first | (exact absurd hn (by omega)) | skip
 obtain _ | ⟨x2, l2⟩ := l1 <;> simp only [List.length_cons, List.length_nil, Nat.add_right_cancel_iff] at hn <;> first | (exact absurd hn (by omega)) | skip
 obtain _ | ⟨y, l⟩ := l2 <;> simp only [List.length_cons, List.length_nil] at hn <;> first | (exact absurd hn (by omega)) | skip
 rfl
def v3C (p : V3) : List PV := [.n .i64 p.x.lo, .n .i64 p.x.hi, .n .i64 p.y.lo, .n .i64 p.y.hi, .n .i64 p.z.lo, .n .i64 p.z.hi]
def v3D (cs : List PV) : Option V3 := (ints cs).bind fun l => bif Nat.beq l.length 6 then some ⟨⟨(l.getD 0 0), (l.getD 1 0)⟩, ⟨(l.getD 2 0), (l.getD 3 0)⟩, ⟨(l.getD 4 0), (l.getD 5 0)⟩⟩ else none
theorem v3D_eq {cs : List PV} {p : V3} (h : v3D cs = some p) : cs = v3C p := by
 simp only [v3D, Option.bind_eq_some_iff] at h
 obtain ⟨l, hl, h⟩ := h
 obtain ⟨hn, h⟩ := yG h
 have hn := Nat.eq_of_beq_eq_true hn
 rw [ints_eq hl]
 cases h
 obtain _ | ⟨x0, l0⟩ := l <;> simp only [List.length_cons, List.length_nil, Nat.add_right_cancel_iff] at hn <;> first | (exact absurd hn (by omega)) | skip
 obtain _ | ⟨x1, l1⟩ := l0 <;> simp only [List.length_cons, List.length_nil, Nat.add_right_cancel_iff] at hn <;> first | (exact absurd hn (by omega)) | skip
 obtain _ | ⟨x2, l2⟩ := l1 <;> simp only [List.length_cons, List.length_nil, Nat.add_right_cancel_iff] at hn <;> first | (exact absurd hn (by omega)) | skip
 obtain _ | ⟨x3, l3⟩ := l2 <;> simp only [List.length_cons, List.length_nil, Nat.add_right_cancel_iff] at hn <;> first | (exact absurd hn (by omega)) | skip
 obtain _ | ⟨x4, l4⟩ := l3 <;> simp only [List.length_cons, List.length_nil, Nat.add_right_cancel_iff] at hn <;> first | (exact absurd hn (by omega)) | skip
 obtain _ | ⟨x5, l5⟩ := l4 <;> simp only [List.length_cons, List.length_nil, Nat.add_right_cancel_iff] at hn <;> first | (exact absurd hn (by omega)) | skip
 obtain _ | ⟨y, l⟩ := l5 <;> simp only [List.length_cons, List.length_nil] at hn <;> first | (exact absurd hn (by omega)) | skip
 rfl
def m3C (p : M3) : List PV := [.n .i64 p.x.x.lo, .n .i64 p.x.x.hi, .n .i64 p.x.y.lo, .n .i64 p.x.y.hi, .n .i64 p.x.z.lo, .n .i64 p.x.z.hi, .n .i64 p.y.x.lo, .n .i64 p.y.x.hi, .n .i64 p.y.y.lo, .n .i64 p.y.y.hi, .n .i64 p.y.z.lo, .n .i64 p.y.z.hi, .n .i64 p.z.x.lo, .n .i64 p.z.x.hi, .n .i64 p.z.y.lo, .n .i64 p.z.y.hi, .n .i64 p.z.z.lo, .n .i64 p.z.z.hi]
def m3D (cs : List PV) : Option M3 := (ints cs).bind fun l => bif Nat.beq l.length 18 then some ⟨⟨⟨(l.getD 0 0), (l.getD 1 0)⟩, ⟨(l.getD 2 0), (l.getD 3 0)⟩, ⟨(l.getD 4 0), (l.getD 5 0)⟩⟩, ⟨⟨(l.getD 6 0), (l.getD 7 0)⟩, ⟨(l.getD 8 0), (l.getD 9 0)⟩, ⟨(l.getD 10 0), (l.getD 11 0)⟩⟩, ⟨⟨(l.getD 12 0), (l.getD 13 0)⟩, ⟨(l.getD 14 0), (l.getD 15 0)⟩, ⟨(l.getD 16 0), (l.getD 17 0)⟩⟩⟩ else none
theorem m3D_eq {cs : List PV} {p : M3} (h : m3D cs = some p) : cs = m3C p := by
 simp only [m3D, Option.bind_eq_some_iff] at h
 obtain ⟨l, hl, h⟩ := h
 obtain ⟨hn, h⟩ := yG h
 have hn := Nat.eq_of_beq_eq_true hn
 rw [ints_eq hl]
 cases h
 obtain _ | ⟨x0, l0⟩ := l <;> simp only [List.length_cons, List.length_nil, Nat.add_right_cancel_iff] at hn <;> first | (exact absurd hn (by omega)) | skip
 obtain _ | ⟨x1, l1⟩ := l0 <;> simp only [List.length_cons, List.length_nil, Nat.add_right_cancel_iff] at hn <;> first | (exact absurd hn (by omega)) | skip
 obtain _ | ⟨x2, l2⟩ := l1 <;> simp only [List.length_cons, List.length_nil, Nat.add_right_cancel_iff] at hn <;> first | (exact absurd hn (by omega)) | skip
 obtain _ | ⟨x3, l3⟩ := l2 <;> simp only [List.length_cons, List.length_nil, Nat.add_right_cancel_iff] at hn <;> first | (exact absurd hn (by omega)) | skip
 obtain _ | ⟨x4, l4⟩ := l3 <;> simp only [List.length_cons, List.length_nil, Nat.add_right_cancel_iff] at hn <;> first | (exact absurd hn (by omega)) | skip
 obtain _ | ⟨x5, l5⟩ := l4 <;> simp only [List.length_cons, List.length_nil, Nat.add_right_cancel_iff] at hn <;> first | (exact absurd hn (by omega)) | skip
 obtain _ | ⟨x6, l6⟩ := l5 <;> simp only [List.length_cons, List.length_nil, Nat.add_right_cancel_iff] at hn <;> first | (exact absurd hn (by omega)) | skip
 obtain _ | ⟨x7, l7⟩ := l6 <;> simp only [List.length_cons, List.length_nil, Nat.add_right_cancel_iff] at hn <;> first | (exact absurd hn (by omega)) | skip
 obtain _ | ⟨x8, l8⟩ := l7 <;> simp only [List.length_cons, List.length_nil, Nat.add_right_cancel_iff] at hn <;> first | (exact absurd hn (by omega)) | skip
 obtain _ | ⟨x9, l9⟩ := l8 <;> simp only [List.length_cons, List.length_nil, Nat.add_right_cancel_iff] at hn <;> first | (exact absurd hn (by omega)) | skip
 obtain _ | ⟨x10, l10⟩ := l9 <;> simp only [List.length_cons, List.length_nil, Nat.add_right_cancel_iff] at hn <;> first | (exact absurd hn (by omega)) | skip
 obtain _ | ⟨x11, l11⟩ := l10 <;> simp only [List.length_cons, List.length_nil, Nat.add_right_cancel_iff] at hn <;> first | (exact absurd hn (by omega)) | skip
 obtain _ | ⟨x12, l12⟩ := l11 <;> simp only [List.length_cons, List.length_nil, Nat.add_right_cancel_iff] at hn <;> first | (exact absurd hn (by omega)) | skip
 obtain _ | ⟨x13, l13⟩ := l12 <;> simp only [List.length_cons, List.length_nil, Nat.add_right_cancel_iff] at hn <;> first | (exact absurd hn (by omega)) | skip
 obtain _ | ⟨x14, l14⟩ := l13 <;> simp only [List.length_cons, List.length_nil, Nat.add_right_cancel_iff] at hn <;> first | (exact absurd hn (by omega)) | skip
 obtain _ | ⟨x15, l15⟩ := l14 <;> simp only [List.length_cons, List.length_nil, Nat.add_right_cancel_iff] at hn <;> first | (exact absurd hn (by omega)) | skip
 obtain _ | ⟨x16, l16⟩ := l15 <;> simp only [List.length_cons, List.length_nil, Nat.add_right_cancel_iff] at hn <;> first | (exact absurd hn (by omega)) | skip
 obtain _ | ⟨x17, l17⟩ := l16 <;> simp only [List.length_cons, List.length_nil, Nat.add_right_cancel_iff] at hn <;> first | (exact absurd hn (by omega)) | skip
 obtain _ | ⟨y, l⟩ := l17 <;> simp only [List.length_cons, List.length_nil] at hn <;> first | (exact absurd hn (by omega)) | skip
 rfl
def poC (p : Po) : List PV := [.n .i64 p.r.x.x.lo, .n .i64 p.r.x.x.hi, .n .i64 p.r.x.y.lo, .n .i64 p.r.x.y.hi, .n .i64 p.r.x.z.lo, .n .i64 p.r.x.z.hi, .n .i64 p.r.y.x.lo, .n .i64 p.r.y.x.hi, .n .i64 p.r.y.y.lo, .n .i64 p.r.y.y.hi, .n .i64 p.r.y.z.lo, .n .i64 p.r.y.z.hi, .n .i64 p.r.z.x.lo, .n .i64 p.r.z.x.hi, .n .i64 p.r.z.y.lo, .n .i64 p.r.z.y.hi, .n .i64 p.r.z.z.lo, .n .i64 p.r.z.z.hi, .n .i64 p.t.x.lo, .n .i64 p.t.x.hi, .n .i64 p.t.y.lo, .n .i64 p.t.y.hi, .n .i64 p.t.z.lo, .n .i64 p.t.z.hi]
def poD (cs : List PV) : Option Po := (ints cs).bind fun l => bif Nat.beq l.length 24 then some ⟨⟨⟨⟨(l.getD 0 0), (l.getD 1 0)⟩, ⟨(l.getD 2 0), (l.getD 3 0)⟩, ⟨(l.getD 4 0), (l.getD 5 0)⟩⟩, ⟨⟨(l.getD 6 0), (l.getD 7 0)⟩, ⟨(l.getD 8 0), (l.getD 9 0)⟩, ⟨(l.getD 10 0), (l.getD 11 0)⟩⟩, ⟨⟨(l.getD 12 0), (l.getD 13 0)⟩, ⟨(l.getD 14 0), (l.getD 15 0)⟩, ⟨(l.getD 16 0), (l.getD 17 0)⟩⟩⟩, ⟨⟨(l.getD 18 0), (l.getD 19 0)⟩, ⟨(l.getD 20 0), (l.getD 21 0)⟩, ⟨(l.getD 22 0), (l.getD 23 0)⟩⟩⟩ else none
theorem poD_eq {cs : List PV} {p : Po} (h : poD cs = some p) : cs = poC p := by
 simp only [poD, Option.bind_eq_some_iff] at h
 obtain ⟨l, hl, h⟩ := h
 obtain ⟨hn, h⟩ := yG h
 have hn := Nat.eq_of_beq_eq_true hn
 rw [ints_eq hl]
 cases h
 obtain _ | ⟨x0, l0⟩ := l <;> simp only [List.length_cons, List.length_nil, Nat.add_right_cancel_iff] at hn <;> first | (exact absurd hn (by omega)) | skip
 obtain _ | ⟨x1, l1⟩ := l0 <;> simp only [List.length_cons, List.length_nil, Nat.add_right_cancel_iff] at hn <;> first | (exact absurd hn (by omega)) | skip
 obtain _ | ⟨x2, l2⟩ := l1 <;> simp only [List.length_cons, List.length_nil, Nat.add_right_cancel_iff] at hn <;> first | (exact absurd hn (by omega)) | skip
 obtain _ | ⟨x3, l3⟩ := l2 <;> simp only [List.length_cons, List.length_nil, Nat.add_right_cancel_iff] at hn <;> first | (exact absurd hn (by omega)) | skip
 obtain _ | ⟨x4, l4⟩ := l3 <;> simp only [List.length_cons, List.length_nil, Nat.add_right_cancel_iff] at hn <;> first | (exact absurd hn (by omega)) | skip
 obtain _ | ⟨x5, l5⟩ := l4 <;> simp only [List.length_cons, List.length_nil, Nat.add_right_cancel_iff] at hn <;> first | (exact absurd hn (by omega)) | skip
 obtain _ | ⟨x6, l6⟩ := l5 <;> simp only [List.length_cons, List.length_nil, Nat.add_right_cancel_iff] at hn <;> first | (exact absurd hn (by omega)) | skip
 obtain _ | ⟨x7, l7⟩ := l6 <;> simp only [List.length_cons, List.length_nil, Nat.add_right_cancel_iff] at hn <;> first | (exact absurd hn (by omega)) | skip
 obtain _ | ⟨x8, l8⟩ := l7 <;> simp only [List.length_cons, List.length_nil, Nat.add_right_cancel_iff] at hn <;> first | (exact absurd hn (by omega)) | skip
 obtain _ | ⟨x9, l9⟩ := l8 <;> simp only [List.length_cons, List.length_nil, Nat.add_right_cancel_iff] at hn <;> first | (exact absurd hn (by omega)) | skip
 obtain _ | ⟨x10, l10⟩ := l9 <;> simp only [List.length_cons, List.length_nil, Nat.add_right_cancel_iff] at hn <;> first | (exact absurd hn (by omega)) | skip
 obtain _ | ⟨x11, l11⟩ := l10 <;> simp only [List.length_cons, List.length_nil, Nat.add_right_cancel_iff] at hn <;> first | (exact absurd hn (by omega)) | skip
 obtain _ | ⟨x12, l12⟩ := l11 <;> simp only [List.length_cons, List.length_nil, Nat.add_right_cancel_iff] at hn <;> first | (exact absurd hn (by omega)) | skip
 obtain _ | ⟨x13, l13⟩ := l12 <;> simp only [List.length_cons, List.length_nil, Nat.add_right_cancel_iff] at hn <;> first | (exact absurd hn (by omega)) | skip
 obtain _ | ⟨x14, l14⟩ := l13 <;> simp only [List.length_cons, List.length_nil, Nat.add_right_cancel_iff] at hn <;> first | (exact absurd hn (by omega)) | skip
 obtain _ | ⟨x15, l15⟩ := l14 <;> simp only [List.length_cons, List.length_nil, Nat.add_right_cancel_iff] at hn <;> first | (exact absurd hn (by omega)) | skip
 obtain _ | ⟨x16, l16⟩ := l15 <;> simp only [List.length_cons, List.length_nil, Nat.add_right_cancel_iff] at hn <;> first | (exact absurd hn (by omega)) | skip
 obtain _ | ⟨x17, l17⟩ := l16 <;> simp only [List.length_cons, List.length_nil, Nat.add_right_cancel_iff] at hn <;> first | (exact absurd hn (by omega)) | skip
 obtain _ | ⟨x18, l18⟩ := l17 <;> simp only [List.length_cons, List.length_nil, Nat.add_right_cancel_iff] at hn <;> first | (exact absurd hn (by omega)) | skip
 obtain _ | ⟨x19, l19⟩ := l18 <;> simp only [List.length_cons, List.length_nil, Nat.add_right_cancel_iff] at hn <;> first | (exact absurd hn (by omega)) | skip
 obtain _ | ⟨x20, l20⟩ := l19 <;> simp only [List.length_cons, List.length_nil, Nat.add_right_cancel_iff] at hn <;> first | (exact absurd hn (by omega)) | skip
 obtain _ | ⟨x21, l21⟩ := l20 <;> simp only [List.length_cons, List.length_nil, Nat.add_right_cancel_iff] at hn <;> first | (exact absurd hn (by omega)) | skip
 obtain _ | ⟨x22, l22⟩ := l21 <;> simp only [List.length_cons, List.length_nil, Nat.add_right_cancel_iff] at hn <;> first | (exact absurd hn (by omega)) | skip
 obtain _ | ⟨x23, l23⟩ := l22 <;> simp only [List.length_cons, List.length_nil, Nat.add_right_cancel_iff] at hn <;> first | (exact absurd hn (by omega)) | skip
 obtain _ | ⟨y, l⟩ := l23 <;> simp only [List.length_cons, List.length_nil] at hn <;> first | (exact absurd hn (by omega)) | skip
 rfl
end Go.Rx
namespace Go.Rx
open Go.RowKit Go.Sx
def qGV (sz : Nat) (rows : List (List PV)) : Bool := rows.all fun r => Nat.beq r.length sz && r.all PV.flat1
def qWZ (rows : List (List PV)) : List (List Value) := rows.map fun r => r.map PV.val1
theorem flatRows_at {sz : Nat} {rows : List (List PV)} (h : qGV sz rows = true) {r : List PV} (hr : r ∈ rows) : r.length = sz ∧ ∀ p ∈ r, p.flat1 = true := by
 have := List.all_eq_true.1 h r hr
 rw [Bool.and_eq_true] at this
 exact ⟨Nat.eq_of_beq_eq_true this.1, List.all_eq_true.1 this.2⟩
theorem rp_of_slc {F : Nat → Prop} {w : World} {sz c : Nat} {a : Option Addr} {rows : List (List PV)} (hs : qGV sz rows = true) (hcap : rows.length ≤ c) (hS : SlcIs sz a (qWZ rows) w)
  (hF : ∀ b off, a = some ⟨b, off, none⟩ → rows ≠ [] → F b) : RP F w (.l rows) (.slice a rows.length c) := by
 cases rows with
 | nil => exact .l0 a c
 | cons r0 rs =>
  obtain ⟨_, b, off, ha, hb, _⟩ := hS 0 _ (by simp [qWZ]; rfl)
  subst ha
  refine .l (r0 :: rs) b off _ c sz (fun j t => (((r0 :: rs).getD j []).getD t .ni).val1) rfl hcap (fun r hr => (flatRows_at hs hr).1) (hF b off rfl (by simp)) (fun j t hj ht => ?_) (fun j r t p hj ht => ?_)
  ·have hr : (r0 :: rs)[j]? = some ((r0 :: rs)[j]'hj) := List.getElem?_eq_getElem hj
   generalize (r0 :: rs)[j]'hj = r at hr
   have hm := flatRows_at hs (List.mem_of_getElem? hr)
   have htl : t < r.length := by omega
   have hp : r[t]? = some (r[t]'htl) := List.getElem?_eq_getElem htl
   obtain ⟨_, b', off', ha', _, hc⟩ := hS j (r.map PV.val1) (by unfold qWZ; rw [List.getElem?_map, hr]; rfl)
   cases ha'
   have hc := hc t ht
   rw [List.getElem?_map, hp, Option.map_some] at hc
   have e : (((r0 :: rs).getD j []).getD t .ni) = r[t]'htl := by
    rw [List.getD_eq_getElem?_getD, List.getD_eq_getElem?_getD, hr]
    simp only [Option.getD_some]
    rw [hp]; rfl
   simp only [e]
   exact ⟨by rw [← hc, Nat.add_assoc], (val1_rp (F := F) (w := w) (hm.2 _ (List.getElem_mem htl))).2⟩
  ·have hm := flatRows_at hs (List.mem_of_getElem? hj)
   have e : (((r0 :: rs).getD j []).getD t .ni) = p := by
    rw [List.getD_eq_getElem?_getD, List.getD_eq_getElem?_getD, hj]
    simp only [Option.getD_some]
    rw [ht]; rfl
   simp only [e]
   exact (val1_rp (hm.2 p (List.mem_of_getElem? ht))).1
theorem slc_of_rp {F : Nat → Prop} {w : World} {sz : Nat} {rows : List (List PV)} {v : Value} (hs : qGV sz rows = true) (hF : ∀ k, F k → k < w.heap.size) (h : RP F w (.l rows) v) :
  ∃ a c, v = .slice a rows.length c ∧ rows.length ≤ c ∧ SlcIs sz a (qWZ rows) w ∧ ∀ b off, a = some ⟨b, off, none⟩ → rows ≠ [] → F b := by
 cases h with
 | l0 ad c => exact ⟨ad, c, rfl, Nat.zero_le _, fun j r hj => by simp [qWZ] at hj, fun _ _ _ h => absurd rfl h⟩
 | l _ b off n c sz' g hn hcap hl hf hc hh =>
  subst hn
  refine ⟨_, c, rfl, hcap, fun j r hj => ?_, fun b' off' e _ => by cases e; exact hf⟩
  unfold qWZ at hj
  rw [List.getElem?_map] at hj
  cases hr : rows[j]? with
  | none => rw [hr] at hj; cases hj
  | some q =>
   rw [hr] at hj
   cases hj
   have hm := flatRows_at hs (List.mem_of_getElem? hr)
   have hjl := (List.getElem?_eq_some_iff.1 hr).1
   have e : sz' = sz := by rw [← hl q (List.mem_of_getElem? hr), hm.1]
   subst e
   refine ⟨by rw [List.length_map, hm.1], b, off, rfl, hF b hf, fun k hk => ?_⟩
   have h1 := hc j k hjl hk
   have hkl : k < q.length := by omega
   have hp : q[k]? = some (q[k]'hkl) := List.getElem?_eq_getElem hkl
   rw [Nat.add_assoc, h1.1, List.getElem?_map, hp, Option.map_some]
   congr 1
   exact val1_eq (hm.2 _ (List.getElem_mem hkl)) (hh j q k _ hr hp)
theorem dep_mem {D : Nat → Prop} {G : World → Prop} {sz : Nat} {a : Option Addr} {rows : List (List Value)} {w : World} (hd : qGK D G) (hG : G w) (hi : ∀ w, G w → SlcIs sz a rows w) (h0 : 0 < sz) (hne : rows ≠ []) :
  ∀ b off, a = some ⟨b, off, none⟩ → D b := by
 intro b off ha
 subst ha
 apply Classical.byContradiction
 intro hn
 obtain ⟨r0, rs, rfl⟩ : ∃ r0 rs, rows = r0 :: rs := by cases rows with | nil => exact absurd rfl hne | cons x xs => exact ⟨x, xs, rfl⟩
 have hG' : G { w with heap := w.heap.setIfInBounds b (.cells #[] 0) } := hd w _ (fun k hk => by
  have e : b ≠ k := fun e => hn (e ▸ hk)
  show (w.heap.setIfInBounds b _)[k]? = _
  exact Array.getElem?_setIfInBounds_ne e) hG
 obtain ⟨hl, b', off', e, hb, hc⟩ := hi _ hG' 0 r0 rfl
 cases e
 have hc := hc 0 h0
 have hb' : b < w.heap.size := by simpa using hb
 rw [List.getElem?_eq_getElem (by omega)] at hc
 simp [World.cell?, hb'] at hc
theorem snd_told {P : Program} {f : Nat} {ps : List PV} {p : PV} {X : Type} {Φ : X → Prop} {V : X → Value} {G : X → World → Prop} (hent : jU P f)
  (h : ∀ (w : World) (F : Nat → Prop) (vals : List Value), (∀ k, F k → k < w.heap.size) → Al (RP F w) ps vals → Calls P f vals.toArray w (RetsF Φ V G w))
  (hp : ∀ x (w : World) (D : Nat → Prop) (F : Nat → Prop), Φ x → G x w → qGK D (G x) → (∀ k, D k → F k) → RP F w p (V x)) : SndA1 P f ps (.v p) := by
 refine ⟨hent, fun w F vals hF hal => (h w F vals hF hal).mono ?_⟩
 rintro e w' ⟨x, hx, rfl, hg, D, h1, h2, h3⟩
 exact ⟨V x, fun k => F k ∨ D k, rfl, hg, fun k hk => .inl hk, fun k hk => hk.imp id (h2 k), hp x w' D _ hx h3 h1 fun k hk => .inr hk⟩
end Go.Rx
namespace Go.Rx
open Go.RowKit Go.Sx
def intsP (L : List Int) : PV := .l (L.map fun x => [.n .i64 x])
theorem intsP_flat (L : List Int) : qGV 1 (L.map fun x => [PV.n .i64 x]) = true := by
 unfold qGV
 rw [List.all_map, List.all_eq_true]
 intro x _
 rfl
theorem ints_of_rp {F : Nat → Prop} {w : World} {L : List Int} {v : Value} (hL : L.length ≤ 9223372036854775807) (hF : ∀ k, F k → k < w.heap.size) (h : RP F w (intsP L) v) : IntsAt w w.heap.size v L := by
 obtain ⟨a, c, rfl, _, hS, _⟩ := slc_of_rp (intsP_flat L) hF h
 refine ⟨hL, a, c, by rw [List.length_map], fun j hj => ?_⟩
 have hj' : L[j]? = some (L[j]'hj) := List.getElem?_eq_getElem hj
 obtain ⟨_, b, off, ha, hb, hc⟩ := hS j [.int .i64 (L[j]'hj)] (by simp [qWZ, hj', PV.val1])
 refine ⟨b, off, ha, hb, ?_⟩
 have := hc 0 (by omega)
 simp only [Nat.mul_one, Nat.add_zero] at this
 rw [this, List.getD_eq_getElem?_getD, hj']
 rfl
theorem rp_of_ints {F : Nat → Prop} {w : World} {L : List Int} {a : Option Addr} {c : Nat} (h : IntsAt w w.heap.size (.slice a L.length c) L) (hc : L.length ≤ c) (hF : ∀ k, k < w.heap.size → F k) : RP F w (intsP L) (.slice a L.length c) := by
 have e : (L.map fun x => [PV.n .i64 x]).length = L.length := by simp
 have key : SlcIs 1 a (qWZ (L.map fun x => [PV.n .i64 x])) w := fun j r hj => by
  obtain ⟨a', c', e', hh⟩ := h.slice
  cases e'
  unfold qWZ at hj
  rw [List.getElem?_map, List.getElem?_map] at hj
  cases hr : L[j]? with
  | none => rw [hr] at hj; cases hj
  | some x =>
   rw [hr] at hj
   cases hj
   have hjl := (List.getElem?_eq_some_iff.1 hr).1
   obtain ⟨b, off, ha, hb, hq⟩ := hh j hjl
   refine ⟨rfl, b, off, ha, hb, fun k hk => ?_⟩
   have hk0 : k = 0 := by omega
   subst hk0
   rw [Nat.mul_one, Nat.add_zero, hq, List.getD_eq_getElem?_getD, hr]
   rfl
 have := rp_of_slc (F := F) (c := c) (intsP_flat L) (by rw [e]; exact hc) key (fun b off ha hne => by
  obtain ⟨a', c', e', hh⟩ := h.slice
  cases e'
  have h0 : 0 < L.length := by
   cases L with
   | nil => exact absurd rfl hne
   | cons x xs => simp
  obtain ⟨b', off', ha', hb, _⟩ := hh 0 h0
  rw [ha] at ha'
  cases ha'
  exact hF b hb)
 rw [e] at this
 exact this
theorem rets_of_sndR {P : Program} {f : Nat} {ps : List PV} {x : PV} {w : World} {vals : List Value} (h : SndA1 P f ps (.v x)) (hx : x.flat2 = true) (ha : Al (RP (fun k => k < w.heap.size) w) ps vals) : Calls P f vals.toArray w (Rets x.val w) :=
 Calls.mono (h.2 w _ vals (fun k hk => hk) ha) fun e w' ⟨v, F', he, hg, _, _, hr⟩ => ⟨by rw [he, val_eq hx hr], hg⟩
theorem al_nil {F : Nat → Prop} {w : World} : Al (RP F w) [] [] := ⟨rfl, fun i p v h => by simp at h⟩
theorem qVJ {F : Nat → Prop} {w : World} {p : PV} {v : Value} {ps : List PV} {vs : List Value} (h : RP F w p v) (t : Al (RP F w) ps vs) : Al (RP F w) (p :: ps) (v :: vs) :=
 ⟨by rw [List.length_cons, List.length_cons, t.1], fun i q u hq hu => by
  cases i with
  | zero => cases hq; cases hu; exact h
  | succ i => exact t.2 i q u hq hu⟩
theorem qJU {F : Nat → Prop} {w : World} {p : PV} {ps : List PV} {vals : List Value} (h : Al (RP F w) (p :: ps) vals) : ∃ v vs, vals = v :: vs ∧ RP F w p v ∧ Al (RP F w) ps vs := by
 cases vals with
 | nil => have := h.1; simp at this
 | cons v vs => exact ⟨v, vs, rfl, h.2 0 p v rfl rfl, by have := h.1; simpa using this, fun i q u hq hu => h.2 (i + 1) q u hq hu⟩
theorem al_unnil {F : Nat → Prop} {w : World} {vals : List Value} (h : Al (RP F w) [] vals) : vals = [] := by
 cases vals with
 | nil => rfl
 | cons v vs => have := h.1; simp at this
theorem rp_parts {F : Nat → Prop} {w : World} {cs : List PV} {v : Value} (h : RP F w (.a cs) v) : ∃ vs : List Value, v = .agg vs.toArray ∧ Al (RP F w) cs vs := by
 cases h with
 | a _ vs hl _ hh => exact ⟨vs, rfl, hl, hh⟩
end Go.Rx
namespace Go.Proofs.YtmbnpjpggccefaaGreat
open Go.Sx
theorem qZV : qWQ Tryz.prog 71 0 0 = true := by kernel_rfl
theorem ty2 : tyB Tryz.prog 2 false 1 = true := by kernel_rfl
theorem qYJ : qWQ Tryz.prog 71 1 1 = true := by kernel_rfl
theorem ze71 : qQV Tryz.prog 71 (.agg #[.int .i64 0, .int .i64 0]) := by unfold qQV; kernel_rfl
theorem en161 : jU Tryz.prog 161 := zG Tryz.func161 (by kernel_rfl) (by kernel_rfl)
theorem la71 : qYZ Tryz.prog 71 = some ([.int .i64 0, .int .i64 0], [(0, 1), (1, 1)]) := by kernel_rfl
theorem ty71 : tyB Tryz.prog 71 true 2 = true := by kernel_rfl
theorem en61 : jU Tryz.prog 61 := zG Tryz.func61 (by kernel_rfl) (by kernel_rfl)
theorem en145 : jU Tryz.prog 145 := zG Tryz.func145 (by kernel_rfl) (by kernel_rfl)
theorem en107 : jU Tryz.prog 107 := zG Tryz.func107 (by kernel_rfl) (by kernel_rfl)
theorem en147 : jU Tryz.prog 147 := zG Tryz.func147 (by kernel_rfl) (by kernel_rfl)
theorem en148 : jU Tryz.prog 148 := zG Tryz.func148 (by kernel_rfl) (by kernel_rfl)
theorem en134 : jU Tryz.prog 134 := zG Tryz.func134 (by kernel_rfl) (by kernel_rfl)
theorem mo : Tryz.prog.follows .mixedOrders = true := by kernel_rfl
theorem en149 : jU Tryz.prog 149 := zG Tryz.func149 (by kernel_rfl) (by kernel_rfl)
theorem en150 : jU Tryz.prog 150 := zG Tryz.func150 (by kernel_rfl) (by kernel_rfl)
theorem zYG (a0 a1 : Int) (w : World) : Calls Tryz.prog 107 [.agg #[.int .i64 a0, .int .i64 a1]].toArray w (Rets (vB (Iv.valid (⟨a0, a1⟩ : Iv))) (w)) := by
 refine zX (n := 18) Tryz.func107 rfl rfl rfl ?_
 refine qK ?_
 refine qZ ?_
 refine kY 1 rfl rfl rfl rfl ?_; intro b1
 refine qY (qX rfl) rfl rfl rfl ?_
 refine qJ ?_
 refine qQ ?_
 refine qK ?_
 refine qZ ?_
 refine qY (qV qZV rfl) rfl rfl rfl ?_
 refine qY (zY 1 ty2 rfl rfl rfl) rfl rfl rfl ?_
 refine qY (qZG rfl rfl) rfl rfl rfl ?_
 refine qY (qU rfl) rfl rfl rfl ?_
 refine qJK 6 rfl (fun hg6 => ?_) (fun hg6 => ?_)
 ·
  refine qY (qV qZV rfl) rfl rfl rfl ?_
  refine qY (zY 1 ty2 rfl rfl rfl) rfl rfl rfl ?_
  refine qY (qV qYJ rfl) rfl rfl rfl ?_
  refine qY (zY 1 ty2 rfl rfl rfl) rfl rfl rfl ?_
  refine qY (qZG rfl rfl) rfl rfl rfl ?_
  refine qY (qZJ rfl rfl rfl rfl) rfl rfl rfl ?_
  refine qY (qU rfl) rfl rfl rfl ?_
  refine qJK 13 rfl (fun hg13 => ?_) (fun hg13 => ?_)
  ·
   refine qY (qV qYJ rfl) rfl rfl rfl ?_
   refine qY (zY 1 ty2 rfl rfl rfl) rfl rfl rfl ?_
   refine qY (qZG rfl rfl) rfl rfl rfl ?_
   refine qY (qZJ rfl rfl rfl rfl) rfl rfl rfl ?_
   refine qY (qX rfl) rfl rfl rfl ?_
   refine qJ ?_
   refine qQ ?_
   refine zV ?_
   refine zK (rs := [.tmp 2]) rfl (resC (kQ rfl) (resN)) (congrArg (vB) (?_ : _ = Iv.valid (⟨a0, a1⟩ : Iv)))
   simp only [Iv.valid, *, Bool.and_false, Bool.and_true, Bool.true_and, Bool.false_and]
  ·
   refine yW rfl rfl rfl ?_
   refine yW rfl rfl rfl ?_
   refine yW rfl rfl rfl ?_
   refine qY (uV rfl rfl rfl rfl) rfl rfl rfl ?_
   refine qY (qX rfl) rfl rfl rfl ?_
   refine qJ ?_
   refine qQ ?_
   refine zV ?_
   refine zK (rs := [.tmp 2]) rfl (resC (kQ rfl) (resN)) (congrArg (vB) (?_ : _ = Iv.valid (⟨a0, a1⟩ : Iv)))
   simp only [Iv.valid, *, Bool.and_false, Bool.and_true, Bool.true_and, Bool.false_and]
 ·
  refine yW rfl rfl rfl ?_
  refine yW rfl rfl rfl ?_
  refine yW rfl rfl rfl ?_
  refine yW rfl rfl rfl ?_
  refine yW rfl rfl rfl ?_
  refine qY (uV rfl rfl rfl rfl) rfl rfl rfl ?_
  refine qY (qU rfl) rfl rfl rfl ?_
  refine yW rfl rfl rfl ?_
  refine yW rfl rfl rfl ?_
  refine yW rfl rfl rfl ?_
  refine qY (uV rfl rfl rfl rfl) rfl rfl rfl ?_
  refine qY (qX rfl) rfl rfl rfl ?_
  refine qJ ?_
  refine qQ ?_
  refine zV ?_
  refine zK (rs := [.tmp 2]) rfl (resC (kQ rfl) (resN)) (congrArg (vB) (?_ : _ = Iv.valid (⟨a0, a1⟩ : Iv)))
  simp only [Iv.valid, *, Bool.and_false, Bool.and_true, Bool.true_and, Bool.false_and]
theorem zQH (a0 a1 : Int) (w : World) : Calls Tryz.prog 147 [.agg #[.int .i64 a0, .int .i64 a1]].toArray w (Rets (vB (Iv.valid (⟨a0, a1⟩ : Iv))) (w)) := by
 refine zX (n := 18) Tryz.func147 rfl rfl rfl ?_
 refine qK ?_
 refine qZ ?_
 refine kY 1 rfl rfl rfl rfl ?_; intro b1
 refine qY (qX rfl) rfl rfl rfl ?_
 refine qJ ?_
 refine qQ ?_
 refine qK ?_
 refine qZ ?_
 refine qY (qV qZV rfl) rfl rfl rfl ?_
 refine qY (zY 1 ty2 rfl rfl rfl) rfl rfl rfl ?_
 refine qY (qZG rfl rfl) rfl rfl rfl ?_
 refine qY (qU rfl) rfl rfl rfl ?_
 refine qJK 6 rfl (fun hg6 => ?_) (fun hg6 => ?_)
 ·
  refine qY (qV qZV rfl) rfl rfl rfl ?_
  refine qY (zY 1 ty2 rfl rfl rfl) rfl rfl rfl ?_
  refine qY (qV qYJ rfl) rfl rfl rfl ?_
  refine qY (zY 1 ty2 rfl rfl rfl) rfl rfl rfl ?_
  refine qY (qZG rfl rfl) rfl rfl rfl ?_
  refine qY (qZJ rfl rfl rfl rfl) rfl rfl rfl ?_
  refine qY (qU rfl) rfl rfl rfl ?_
  refine qJK 13 rfl (fun hg13 => ?_) (fun hg13 => ?_)
  ·
   refine qY (qV qYJ rfl) rfl rfl rfl ?_
   refine qY (zY 1 ty2 rfl rfl rfl) rfl rfl rfl ?_
   refine qY (qZG rfl rfl) rfl rfl rfl ?_
   refine qY (qZJ rfl rfl rfl rfl) rfl rfl rfl ?_
   refine qY (qX rfl) rfl rfl rfl ?_
   refine qJ ?_
   refine qQ ?_
   refine zV ?_
   refine zK (rs := [.tmp 2]) rfl (resC (kQ rfl) (resN)) (congrArg (vB) (?_ : _ = Iv.valid (⟨a0, a1⟩ : Iv)))
   simp only [Iv.valid, *, Bool.and_false, Bool.and_true, Bool.true_and, Bool.false_and]
  ·
   refine yW rfl rfl rfl ?_
   refine yW rfl rfl rfl ?_
   refine yW rfl rfl rfl ?_
   refine qY (uV rfl rfl rfl rfl) rfl rfl rfl ?_
   refine qY (qX rfl) rfl rfl rfl ?_
   refine qJ ?_
   refine qQ ?_
   refine zV ?_
   refine zK (rs := [.tmp 2]) rfl (resC (kQ rfl) (resN)) (congrArg (vB) (?_ : _ = Iv.valid (⟨a0, a1⟩ : Iv)))
   simp only [Iv.valid, *, Bool.and_false, Bool.and_true, Bool.true_and, Bool.false_and]
 ·
  refine yW rfl rfl rfl ?_
  refine yW rfl rfl rfl ?_
  refine yW rfl rfl rfl ?_
  refine yW rfl rfl rfl ?_
  refine yW rfl rfl rfl ?_
  refine qY (uV rfl rfl rfl rfl) rfl rfl rfl ?_
  refine qY (qU rfl) rfl rfl rfl ?_
  refine yW rfl rfl rfl ?_
  refine yW rfl rfl rfl ?_
  refine yW rfl rfl rfl ?_
  refine qY (uV rfl rfl rfl rfl) rfl rfl rfl ?_
  refine qY (qX rfl) rfl rfl rfl ?_
  refine qJ ?_
  refine qQ ?_
  refine zV ?_
  refine zK (rs := [.tmp 2]) rfl (resC (kQ rfl) (resN)) (congrArg (vB) (?_ : _ = Iv.valid (⟨a0, a1⟩ : Iv)))
  simp only [Iv.valid, *, Bool.and_false, Bool.and_true, Bool.true_and, Bool.false_and]
theorem fClamp (a : Int) (w : World) : Calls Tryz.prog 161 [.int .i64 a].toArray w (Rets (vI (qKX a)) (w)) := by
 refine zX (n := 6) Tryz.func161 rfl rfl rfl ?_
 refine qK ?_
 refine qZ ?_
 refine qY (qX rfl) rfl rfl rfl ?_
 refine qJ ?_
 refine qQ ?_
 refine qK ?_
 refine qZ ?_
 refine qY (qU rfl) rfl rfl rfl ?_
 refine qY (qVV rfl rfl) rfl rfl rfl ?_
 refine qY (qKY rfl rfl) rfl rfl rfl ?_
 refine qY (qX rfl) rfl rfl rfl ?_
 refine qJ ?_
 refine qQ ?_
 refine zV ?_
 refine zK (rs := [.tmp 2]) rfl (resC (kQ rfl) (resN)) (congrArg (vI) (?_ : _ = qKX a))
 first | rfl | (subst_vars; rfl) | (subst_vars; simp_all)
theorem rClamp (a : Int) (w : World) : Calls Tryz.prog 61 [.int .i64 a].toArray w (Rets (vI (qKX a)) (w)) := by
 refine zX (n := 6) Tryz.func61 rfl rfl rfl ?_
 refine qK ?_
 refine qZ ?_
 refine qY (qX rfl) rfl rfl rfl ?_
 refine qJ ?_
 refine qQ ?_
 refine qK ?_
 refine qZ ?_
 refine qY (qU rfl) rfl rfl rfl ?_
 refine qY (qKY rfl rfl) rfl rfl rfl ?_
 refine qY (qVV rfl rfl) rfl rfl rfl ?_
 refine qY (qX rfl) rfl rfl rfl ?_
 refine qJ ?_
 refine qQ ?_
 refine zV ?_
 refine zK (rs := [.tmp 2]) rfl (resC (kQ rfl) (resN)) (congrArg (vI) (?_ : _ = qKX a))
 unfold qKX; omega
theorem fShiftDown (a : Int) (k : Int) (h0 : 0 ≤ k ∧ k ≤ 62) (w : World) : Calls Tryz.prog 167 [.int .i64 a, .int .i64 k].toArray w (Rets (vI (a / 2 ^ (k).toNat)) (w)) := by
 refine zX (n := 11) Tryz.func167 rfl rfl rfl ?_
 refine qK ?_
 refine qZ ?_
 refine qY (qX rfl) rfl rfl rfl ?_
 refine qJ ?_
 refine qQ ?_
 refine qK ?_
 refine qK ?_
 refine qZ ?_
 refine qY (qU rfl) rfl rfl rfl ?_
 refine qY (kX rfl rfl) rfl rfl rfl ?_
 refine qJ ?_
 refine qQ ?_
 refine qJX rfl (by simp; omega) ?_
 refine yZ ?_
 refine qQ ?_
 refine qK ?_
 refine qZ ?_
 refine qY (qU rfl) rfl rfl rfl ?_
 refine qY (qU rfl) rfl rfl rfl ?_
 refine qY (opV_shr rfl rfl (by first | decide | omega) (shr_eq (by omega) (by omega))) rfl rfl rfl ?_
 refine qY (qX rfl) rfl rfl rfl ?_
 refine qJ ?_
 refine qQ ?_
 refine zV ?_
 refine zK (rs := [.tmp 4]) rfl (resC (kQ rfl) (resN)) (congrArg (vI) (?_ : _ = a / 2 ^ (k).toNat))
 first | rfl | (subst_vars; rfl) | (subst_vars; simp_all)
theorem fShiftUp (a : Int) (k : Int) (h0 : 0 ≤ k ∧ k ≤ 62) (ha : In64 a) (w : World) : Calls Tryz.prog 168 [.int .i64 a, .int .i64 k].toArray w (Rets (vI (ceilI a (2 ^ (k).toNat))) (w)) := by
 refine zX (n := 20) Tryz.func168 rfl rfl rfl ?_
 refine qK ?_
 refine qZ ?_
 refine qY (qX rfl) rfl rfl rfl ?_
 refine qJ ?_
 refine qQ ?_
 refine qK ?_
 refine qK ?_
 refine qZ ?_
 refine qY (qU rfl) rfl rfl rfl ?_
 refine qY (kX rfl rfl) rfl rfl rfl ?_
 refine qJ ?_
 refine qQ ?_
 refine qJX rfl (by simp; omega) ?_
 refine yZ ?_
 refine qQ ?_
 refine qK ?_
 refine qZ ?_
 refine qY (qU rfl) rfl rfl rfl ?_
 refine qY (qU rfl) rfl rfl rfl ?_
 refine qY (opV_shr rfl rfl (by first | decide | omega) (shr_eq (by omega) (by omega))) rfl rfl rfl ?_
 refine qY (qX rfl) rfl rfl rfl ?_
 refine qJ ?_
 refine qQ ?_
 refine qK ?_
 refine qK ?_
 refine qZ ?_
 refine qY (qU rfl) rfl rfl rfl ?_
 refine qY (qU rfl) rfl rfl rfl ?_
 refine qY (opV_shl rfl rfl (by first | decide | omega) (shl_eq ha (by omega) (by omega))) rfl rfl rfl ?_
 refine qY (qU rfl) rfl rfl rfl ?_
 refine qY (opV_neq rfl rfl) rfl rfl rfl ?_
 refine qJ ?_
 refine qQ ?_
 refine yH rfl (fun hc16 => ?_) (fun hc16 => ?_)
 ·
  have h1 : ¬ a / 2 ^ k.toNat * 2 ^ k.toNat = a := by simpa using hc16
  have h2 := ceil_of_ne (Int.pow_pos (by decide)) h1
  refine qZ ?_
  refine qY (qU rfl) rfl rfl rfl ?_
  refine qY (yK rfl rfl (zW (shiftUp_bnd ha h1))) rfl rfl rfl ?_
  refine qY (qX rfl) rfl rfl rfl ?_
  refine qJ ?_
  refine qQ ?_
  refine qK ?_
  refine qZ ?_
  refine qY (qU rfl) rfl rfl rfl ?_
  refine qY (qX rfl) rfl rfl rfl ?_
  refine qJ ?_
  refine qQ ?_
  refine zV ?_
  refine zK (rs := [.tmp 4]) rfl (resC (kQ rfl) (resN)) (congrArg (vI) (?_ : _ = ceilI a (2 ^ (k).toNat)))
  exact h2
 ·
  have h1 : a / 2 ^ k.toNat * 2 ^ k.toNat = a := by simpa using hc16
  have h2 := ceil_of_mul (Int.pow_pos (by decide)) h1
  refine yZ ?_
  refine qQ ?_
  refine qK ?_
  refine qZ ?_
  refine qY (qU rfl) rfl rfl rfl ?_
  refine qY (qX rfl) rfl rfl rfl ?_
  refine qJ ?_
  refine qQ ?_
  refine zV ?_
  refine zK (rs := [.tmp 4]) rfl (resC (kQ rfl) (resN)) (congrArg (vI) (?_ : _ = ceilI a (2 ^ (k).toNat)))
  exact h2
theorem qVW (a : Int) (b : Int) (ha : In64 a) (hb : 0 < b) (w : World) : Calls Tryz.prog 149 [.int .i64 a, .int .i64 b].toArray w (Rets (vI (a / b)) (w)) := by
 refine zX (n := 16) Tryz.func149 rfl rfl rfl ?_
 refine qK ?_
 have hq := tdiv_bnd ha hb
 refine qZ ?_
 refine qY (qX rfl) rfl rfl rfl ?_
 refine qJ ?_
 refine qQ ?_
 refine qK ?_
 refine qZ ?_
 refine qY (qU rfl) rfl rfl rfl ?_
 refine qY (qU rfl) rfl rfl rfl ?_
 refine qY (qJQ rfl rfl (by first | decide | omega) (zW hq)) rfl rfl rfl ?_
 refine qY (qX rfl) rfl rfl rfl ?_
 refine qJ ?_
 refine qQ ?_
 refine qK ?_
 refine qK ?_
 refine qZ ?_
 refine qY (qU rfl) rfl rfl rfl ?_
 refine qY (qU rfl) rfl rfl rfl ?_
 refine qY (zZZ rfl rfl (by first | decide | omega) rfl) rfl rfl rfl ?_
 refine qY (kX rfl rfl) rfl rfl rfl ?_
 refine qJ ?_
 refine qQ ?_
 refine yH rfl (fun hc12 => ?_) (fun hc12 => ?_)
 ·
  refine qZ ?_
  refine qY (qU rfl) rfl rfl rfl ?_
  refine qY (jG rfl rfl (zW (floor_bnd ha hb (by simpa using hc12)))) rfl rfl rfl ?_
  refine qY (qX rfl) rfl rfl rfl ?_
  refine qJ ?_
  refine qQ ?_
  refine qK ?_
  refine qZ ?_
  refine qY (qU rfl) rfl rfl rfl ?_
  refine qY (qX rfl) rfl rfl rfl ?_
  refine qJ ?_
  refine qQ ?_
  refine zV ?_
  refine zK (rs := [.tmp 4]) rfl (resC (kQ rfl) (resN)) (congrArg (vI) (?_ : _ = a / b))
  exact floor_neg hb (by simpa using hc12)
 ·
  refine yZ ?_
  refine qQ ?_
  refine qK ?_
  refine qZ ?_
  refine qY (qU rfl) rfl rfl rfl ?_
  refine qY (qX rfl) rfl rfl rfl ?_
  refine qJ ?_
  refine qQ ?_
  refine zV ?_
  refine zK (rs := [.tmp 4]) rfl (resC (kQ rfl) (resN)) (congrArg (vI) (?_ : _ = a / b))
  exact floor_pos hb (by simpa using hc12)
theorem rCeil (a : Int) (b : Int) (ha : In64 a) (hb : 0 < b) (w : World) : Calls Tryz.prog 150 [.int .i64 a, .int .i64 b].toArray w (Rets (vI (ceilI a b)) (w)) := by
 refine zX (n := 16) Tryz.func150 rfl rfl rfl ?_
 refine qK ?_
 have hq := tdiv_bnd ha hb
 refine qZ ?_
 refine qY (qX rfl) rfl rfl rfl ?_
 refine qJ ?_
 refine qQ ?_
 refine qK ?_
 refine qZ ?_
 refine qY (qU rfl) rfl rfl rfl ?_
 refine qY (qU rfl) rfl rfl rfl ?_
 refine qY (qJQ rfl rfl (by first | decide | omega) (zW hq)) rfl rfl rfl ?_
 refine qY (qX rfl) rfl rfl rfl ?_
 refine qJ ?_
 refine qQ ?_
 refine qK ?_
 refine qK ?_
 refine qZ ?_
 refine qY (qU rfl) rfl rfl rfl ?_
 refine qY (qU rfl) rfl rfl rfl ?_
 refine qY (zZZ rfl rfl (by first | decide | omega) rfl) rfl rfl rfl ?_
 refine qY (opV_gtr rfl rfl) rfl rfl rfl ?_
 refine qJ ?_
 refine qQ ?_
 refine yH rfl (fun hc12 => ?_) (fun hc12 => ?_)
 ·
  refine qZ ?_
  refine qY (qU rfl) rfl rfl rfl ?_
  refine qY (yK rfl rfl (zW (ceil_bnd ha hb (by simpa using hc12)))) rfl rfl rfl ?_
  refine qY (qX rfl) rfl rfl rfl ?_
  refine qJ ?_
  refine qQ ?_
  refine qK ?_
  refine qZ ?_
  refine qY (qU rfl) rfl rfl rfl ?_
  refine qY (qX rfl) rfl rfl rfl ?_
  refine qJ ?_
  refine qQ ?_
  refine zV ?_
  refine zK (rs := [.tmp 4]) rfl (resC (kQ rfl) (resN)) (congrArg (vI) (?_ : _ = ceilI a b))
  exact ceil_pos hb (by simpa using hc12)
 ·
  refine yZ ?_
  refine qQ ?_
  refine qK ?_
  refine qZ ?_
  refine qY (qU rfl) rfl rfl rfl ?_
  refine qY (qX rfl) rfl rfl rfl ?_
  refine qJ ?_
  refine qQ ?_
  refine zV ?_
  refine zK (rs := [.tmp 4]) rfl (resC (kQ rfl) (resN)) (congrArg (vI) (?_ : _ = ceilI a b))
  exact ceil_neg hb (by simpa using hc12)
theorem iLimited (lo : Int) (hi : Int) (w : World) : Calls Tryz.prog 145 [.int .i64 lo, .int .i64 hi].toArray w (Rets (iv (Iv.limited lo hi)) (w)) := by
 refine zX (n := 10) Tryz.func145 rfl rfl rfl ?_
 refine qK ?_
 refine qZ ?_
 refine yQ 4 ze71 rfl rfl rfl ?_; intro b4
 refine qJ ?_
 refine qQ ?_
 refine qK ?_
 refine qZ ?_
 refine qY (qU rfl) rfl rfl rfl ?_
 refine jW (F := vI) (zQ en161 rfl (fun w _ => fClamp _  w)) rfl rfl rfl ?_; intro r6 hr6
 refine qY (qU rfl) rfl rfl rfl ?_
 refine jW (F := vI) (zQ en161 rfl (fun w _ => fClamp _  w)) rfl rfl rfl ?_; intro r8 hr8
 refine qY (zH la71 rfl rfl) rfl rfl rfl ?_
 refine qG 4 ty71 rfl rfl rfl rfl rfl rfl rfl rfl ?_
 refine qJ ?_
 refine qQ ?_
 refine zV ?_
 refine zK (rs := [.cell 4 71]) rfl (resC (zU 4 rfl rfl ty71 rfl) (resN)) (congrArg (iv) (?_ : ⟨_, _⟩ = Iv.limited lo hi))
 first | rfl | (subst_vars; rfl) | (subst_vars; simp_all)
theorem rLimited (lo : Int) (hi : Int) (w : World) : Calls Tryz.prog 148 [.int .i64 lo, .int .i64 hi].toArray w (Rets (iv (Iv.limited lo hi)) (w)) := by
 refine zX (n := 10) Tryz.func148 rfl rfl rfl ?_
 refine qK ?_
 refine qZ ?_
 refine yQ 4 ze71 rfl rfl rfl ?_; intro b4
 refine qJ ?_
 refine qQ ?_
 refine qK ?_
 refine qZ ?_
 refine qY (qU rfl) rfl rfl rfl ?_
 refine jW (F := vI) (zQ en61 rfl (fun w _ => rClamp _  w)) rfl rfl rfl ?_; intro r6 hr6
 refine qY (qU rfl) rfl rfl rfl ?_
 refine jW (F := vI) (zQ en61 rfl (fun w _ => rClamp _  w)) rfl rfl rfl ?_; intro r8 hr8
 refine qY (zH la71 rfl rfl) rfl rfl rfl ?_
 refine qG 4 ty71 rfl rfl rfl rfl rfl rfl rfl rfl ?_
 refine qJ ?_
 refine qQ ?_
 refine zV ?_
 refine zK (rs := [.cell 4 71]) rfl (resC (zU 4 rfl rfl ty71 rfl) (resN)) (congrArg (iv) (?_ : ⟨_, _⟩ = Iv.limited lo hi))
 first | rfl | (subst_vars; rfl) | (subst_vars; simp_all)
theorem iOf (x : Int) (w : World) : Calls Tryz.prog 99 [.int .i64 x].toArray w (Rets (iv (Iv.of x)) (w)) := by
 refine zX (n := 6) Tryz.func99 rfl rfl rfl ?_
 refine qK ?_
 refine qZ ?_
 refine yQ 2 ze71 rfl rfl rfl ?_; intro b2
 refine qJ ?_
 refine qQ ?_
 refine qK ?_
 refine qZ ?_
 refine qY (qU rfl) rfl rfl rfl ?_
 refine qY (qU rfl) rfl rfl rfl ?_
 refine jW (F := iv) (zQ en145 rfl (fun w _ => iLimited _ _  w)) rfl rfl rfl ?_; intro r5 hr5
 refine qG 2 ty71 rfl rfl rfl rfl rfl rfl rfl rfl ?_
 refine qJ ?_
 refine qQ ?_
 refine zV ?_
 refine zK (rs := [.cell 2 71]) rfl (resC (zU 2 rfl rfl ty71 rfl) (resN)) (congrArg (iv) (?_ : ⟨_, _⟩ = Iv.of x))
 first | rfl | (subst_vars; rfl) | (subst_vars; simp_all)
theorem rOf (x : Int) (w : World) : Calls Tryz.prog 31 [.int .i64 x].toArray w (Rets (iv (Iv.of x)) (w)) := by
 refine zX (n := 8) Tryz.func31 rfl rfl rfl ?_
 refine qK ?_
 refine qZ ?_
 refine yQ 2 ze71 rfl rfl rfl ?_; intro b2
 refine qJ ?_
 refine qQ ?_
 refine qK ?_
 refine qZ ?_
 refine qY (qU rfl) rfl rfl rfl ?_
 refine jW (F := vI) (zQ en61 rfl (fun w _ => rClamp _  w)) rfl rfl rfl ?_; intro r4 hr4
 refine qY (qU rfl) rfl rfl rfl ?_
 refine jW (F := vI) (zQ en61 rfl (fun w _ => rClamp _  w)) rfl rfl rfl ?_; intro r6 hr6
 refine qY (zH la71 rfl rfl) rfl rfl rfl ?_
 refine qG 2 ty71 rfl rfl rfl rfl rfl rfl rfl rfl ?_
 refine qJ ?_
 refine qQ ?_
 refine zV ?_
 refine zK (rs := [.cell 2 71]) rfl (resC (zU 2 rfl rfl ty71 rfl) (resN)) (congrArg (iv) (?_ : ⟨_, _⟩ = Iv.of x))
 first | rfl | (subst_vars; rfl) | (subst_vars; simp_all)
theorem iNeg (a0 a1 : Int) (w : World) : Calls Tryz.prog 171 [.agg #[.int .i64 a0, .int .i64 a1]].toArray w (Rets (iv (Iv.neg (⟨a0, a1⟩ : Iv))) (w)) := by
 refine zX (n := 14) Tryz.func171 rfl rfl rfl ?_
 refine qK ?_
 refine qZ ?_
 refine kY 1 rfl rfl rfl rfl ?_; intro b1
 refine yQ 2 ze71 rfl rfl rfl ?_; intro b2
 refine qJ ?_
 refine qQ ?_
 refine qK ?_
 refine qK ?_
 refine qZ ?_
 refine qY (zJ 1 ty71 rfl rfl rfl) rfl rfl rfl ?_
 refine jW (F := vB) (zQ en107 rfl (fun w _ => zYG _ _  w)) rfl rfl rfl ?_; intro r4 hr4
 refine qY (qUX rfl) rfl rfl rfl ?_
 refine qJ ?_
 refine qQ ?_
 refine yH rfl (fun hc5 => ?_) (fun hc5 => ?_)
 ·
  simp only [Bool.not_eq_true'] at hc5
  refine qK ?_
  refine qZ ?_
  refine qY (zH la71 rfl rfl) rfl rfl rfl ?_
  refine qG 2 ty71 rfl rfl rfl rfl rfl rfl rfl rfl ?_
  refine qJ ?_
  refine qQ ?_
  refine zV ?_
  refine jK ?_
  refine zK (rs := [.cell 2 71]) rfl (resC (zU 2 rfl rfl ty71 rfl) (resN)) (congrArg (iv) (?_ : ⟨_, _⟩ = Iv.neg (⟨a0, a1⟩ : Iv)))
  subst_vars; first | (simp_all [Iv.neg]; done) | (simp_all [Iv.neg] <;> omega) | grind [Iv.neg]
 ·
  simp only [Bool.not_eq_false'] at hc5
  have hv := qUH (hr4.symm.trans hc5)
  refine yZ ?_
  refine qQ ?_
  refine qK ?_
  refine qZ ?_
  refine qY (qV qYJ rfl) rfl rfl rfl ?_
  refine qY (zY 1 ty2 rfl rfl rfl) rfl rfl rfl ?_
  refine qY (qQW rfl (by first | exact qJZ ⟨by omega, by omega⟩ | rfl)) rfl rfl rfl ?_
  refine qY (qV qZV rfl) rfl rfl rfl ?_
  refine qY (zY 1 ty2 rfl rfl rfl) rfl rfl rfl ?_
  refine qY (qQW rfl (by first | exact qJZ ⟨by omega, by omega⟩ | rfl)) rfl rfl rfl ?_
  refine qY (zH la71 rfl rfl) rfl rfl rfl ?_
  refine qG 2 ty71 rfl rfl rfl rfl rfl rfl rfl rfl ?_
  refine qJ ?_
  refine qQ ?_
  refine zV ?_
  refine zK (rs := [.cell 2 71]) rfl (resC (zU 2 rfl rfl ty71 rfl) (resN)) (congrArg (iv) (?_ : ⟨_, _⟩ = Iv.neg (⟨a0, a1⟩ : Iv)))
  subst_vars; first | (simp_all [Iv.neg]; done) | (simp_all [Iv.neg] <;> omega) | grind [Iv.neg]
theorem rNeg (a0 a1 : Int) (w : World) : Calls Tryz.prog 165 [.agg #[.int .i64 a0, .int .i64 a1]].toArray w (Rets (iv (Iv.neg (⟨a0, a1⟩ : Iv))) (w)) := by
 refine zX (n := 14) Tryz.func165 rfl rfl rfl ?_
 refine qK ?_
 refine qZ ?_
 refine kY 1 rfl rfl rfl rfl ?_; intro b1
 refine yQ 2 ze71 rfl rfl rfl ?_; intro b2
 refine qJ ?_
 refine qQ ?_
 refine qK ?_
 refine qK ?_
 refine qZ ?_
 refine qY (zJ 1 ty71 rfl rfl rfl) rfl rfl rfl ?_
 refine jW (F := vB) (zQ en147 rfl (fun w _ => zQH _ _  w)) rfl rfl rfl ?_; intro r4 hr4
 refine qY (qUX rfl) rfl rfl rfl ?_
 refine qJ ?_
 refine qQ ?_
 refine yH rfl (fun hc5 => ?_) (fun hc5 => ?_)
 ·
  simp only [Bool.not_eq_true'] at hc5
  refine qK ?_
  refine qZ ?_
  refine qY (zH la71 rfl rfl) rfl rfl rfl ?_
  refine qG 2 ty71 rfl rfl rfl rfl rfl rfl rfl rfl ?_
  refine qJ ?_
  refine qQ ?_
  refine zV ?_
  refine jK ?_
  refine zK (rs := [.cell 2 71]) rfl (resC (zU 2 rfl rfl ty71 rfl) (resN)) (congrArg (iv) (?_ : ⟨_, _⟩ = Iv.neg (⟨a0, a1⟩ : Iv)))
  subst_vars; first | (simp_all [Iv.neg]; done) | (simp_all [Iv.neg] <;> omega) | grind [Iv.neg]
 ·
  simp only [Bool.not_eq_false'] at hc5
  have hv := qUH (hr4.symm.trans hc5)
  refine yZ ?_
  refine qQ ?_
  refine qK ?_
  refine qZ ?_
  refine qY (qV qYJ rfl) rfl rfl rfl ?_
  refine qY (zY 1 ty2 rfl rfl rfl) rfl rfl rfl ?_
  refine qY (qQW rfl (by first | exact qJZ ⟨by omega, by omega⟩ | rfl)) rfl rfl rfl ?_
  refine qY (qV qZV rfl) rfl rfl rfl ?_
  refine qY (zY 1 ty2 rfl rfl rfl) rfl rfl rfl ?_
  refine qY (qQW rfl (by first | exact qJZ ⟨by omega, by omega⟩ | rfl)) rfl rfl rfl ?_
  refine qY (zH la71 rfl rfl) rfl rfl rfl ?_
  refine qG 2 ty71 rfl rfl rfl rfl rfl rfl rfl rfl ?_
  refine qJ ?_
  refine qQ ?_
  refine zV ?_
  refine zK (rs := [.cell 2 71]) rfl (resC (zU 2 rfl rfl ty71 rfl) (resN)) (congrArg (iv) (?_ : ⟨_, _⟩ = Iv.neg (⟨a0, a1⟩ : Iv)))
  subst_vars; first | (simp_all [Iv.neg]; done) | (simp_all [Iv.neg] <;> omega) | grind [Iv.neg]
theorem iValid2 (a0 a1 : Int) (b0 b1 : Int) (w : World) : Calls Tryz.prog 134 [.agg #[.int .i64 a0, .int .i64 a1], .agg #[.int .i64 b0, .int .i64 b1]].toArray w (Rets (vB ((Iv.valid (⟨a0, a1⟩ : Iv) && Iv.valid (⟨b0, b1⟩ : Iv)))) (w)) := by
 refine zX (n := 11) Tryz.func134 rfl rfl rfl ?_
 refine qK ?_
 refine qZ ?_
 refine kY 2 rfl rfl rfl rfl ?_; intro b2
 refine kY 3 rfl rfl rfl rfl ?_; intro b3
 refine qY (qX rfl) rfl rfl rfl ?_
 refine qJ ?_
 refine qQ ?_
 refine qK ?_
 refine qZ ?_
 refine qY (zJ 2 ty71 rfl rfl rfl) rfl rfl rfl ?_
 refine jW (F := vB) (zQ en107 rfl (fun w _ => zYG _ _  w)) rfl rfl rfl ?_; intro r6 hr6
 refine qY (qU rfl) rfl rfl rfl ?_
 refine qJK 7 rfl (fun hg7 => ?_) (fun hg7 => ?_)
 ·
  refine qY (zJ 3 ty71 rfl rfl rfl) rfl rfl rfl ?_
  refine jW (F := vB) (zQ en107 rfl (fun w _ => zYG _ _  w)) rfl rfl rfl ?_; intro r9 hr9
  refine qY (qZJ rfl rfl rfl rfl) rfl rfl rfl ?_
  refine qY (qX rfl) rfl rfl rfl ?_
  refine qJ ?_
  refine qQ ?_
  refine zV ?_
  refine zK (rs := [.tmp 4]) rfl (resC (kQ rfl) (resN)) (congrArg (vB) (?_ : _ = (Iv.valid (⟨a0, a1⟩ : Iv) && Iv.valid (⟨b0, b1⟩ : Iv))))
  subst_vars; simp_all
 ·
  refine yW rfl rfl rfl ?_
  refine yW rfl rfl rfl ?_
  refine qY (uV rfl rfl rfl rfl) rfl rfl rfl ?_
  refine qY (qX rfl) rfl rfl rfl ?_
  refine qJ ?_
  refine qQ ?_
  refine zV ?_
  refine zK (rs := [.tmp 4]) rfl (resC (kQ rfl) (resN)) (congrArg (vB) (?_ : _ = (Iv.valid (⟨a0, a1⟩ : Iv) && Iv.valid (⟨b0, b1⟩ : Iv))))
  subst_vars; simp_all
theorem rAdd (a0 a1 : Int) (b0 b1 : Int) (w : World) : Calls Tryz.prog 103 [.agg #[.int .i64 a0, .int .i64 a1], .agg #[.int .i64 b0, .int .i64 b1]].toArray w (Rets (iv (Iv.add (⟨a0, a1⟩ : Iv) (⟨b0, b1⟩ : Iv))) (w)) := by
 refine zX (n := 25) Tryz.func103 rfl rfl rfl ?_
 refine qK ?_
 refine qZ ?_
 refine kY 2 rfl rfl rfl rfl ?_; intro b2
 refine kY 3 rfl rfl rfl rfl ?_; intro b3
 refine yQ 4 ze71 rfl rfl rfl ?_; intro b4
 refine qJ ?_
 refine qQ ?_
 refine qK ?_
 refine qK ?_
 refine qZ ?_
 refine qY (zJ 2 ty71 rfl rfl rfl) rfl rfl rfl ?_
 refine jW (F := vB) (zQ en147 rfl (fun w _ => zQH _ _  w)) rfl rfl rfl ?_; intro r6 hr6
 refine qY (qUX rfl) rfl rfl rfl ?_
 refine qY (qU rfl) rfl rfl rfl ?_
 refine qJK 8 rfl (fun hg8 => ?_) (fun hg8 => ?_)
 ·
  refine yW rfl rfl rfl ?_
  refine yW rfl rfl rfl ?_
  refine yW rfl rfl rfl ?_
  refine qY (qZJ rfl rfl rfl rfl) rfl rfl rfl ?_
  refine qJ ?_
  refine qQ ?_
  refine yX rfl (rfl) ?_
  refine qK ?_
  refine qZ ?_
  refine qY (zH la71 rfl rfl) rfl rfl rfl ?_
  refine qG 4 ty71 rfl rfl rfl rfl rfl rfl rfl rfl ?_
  refine qJ ?_
  refine qQ ?_
  refine zV ?_
  refine jK ?_
  refine zK (rs := [.cell 4 71]) rfl (resC (zU 4 rfl rfl ty71 rfl) (resN)) (congrArg (iv) (?_ : ⟨_, _⟩ = Iv.add (⟨a0, a1⟩ : Iv) (⟨b0, b1⟩ : Iv)))
  subst_vars; first | (simp_all [Iv.add, Iv.limited]; done) | (simp_all [Iv.add, Iv.limited] <;> omega) | grind [Iv.add, Iv.limited]
 ·
  refine qY (zJ 3 ty71 rfl rfl rfl) rfl rfl rfl ?_
  refine jW (F := vB) (zQ en147 rfl (fun w _ => zQH _ _  w)) rfl rfl rfl ?_; intro r10 hr10
  refine qY (qUX rfl) rfl rfl rfl ?_
  refine qY (uV rfl rfl rfl rfl) rfl rfl rfl ?_
  refine qJ ?_
  refine qQ ?_
  refine yH rfl (fun hc12 => ?_) (fun hc12 => ?_)
  ·
   refine qK ?_
   refine qZ ?_
   refine qY (zH la71 rfl rfl) rfl rfl rfl ?_
   refine qG 4 ty71 rfl rfl rfl rfl rfl rfl rfl rfl ?_
   refine qJ ?_
   refine qQ ?_
   refine zV ?_
   refine jK ?_
   refine zK (rs := [.cell 4 71]) rfl (resC (zU 4 rfl rfl ty71 rfl) (resN)) (congrArg (iv) (?_ : ⟨_, _⟩ = Iv.add (⟨a0, a1⟩ : Iv) (⟨b0, b1⟩ : Iv)))
   subst_vars; first | (simp_all [Iv.add, Iv.limited]; done) | (simp_all [Iv.add, Iv.limited] <;> omega) | grind [Iv.add, Iv.limited]
  ·
   refine yZ ?_
   refine qQ ?_
   refine qK ?_
   have ha := qUH (hr6.symm.trans (by simpa using hg8))
   have hb := qUH (hr10.symm.trans (by simpa using hc12))
   refine qZ ?_
   refine qY (qV qZV rfl) rfl rfl rfl ?_
   refine qY (zY 2 ty2 rfl rfl rfl) rfl rfl rfl ?_
   refine qY (qV qZV rfl) rfl rfl rfl ?_
   refine qY (zY 3 ty2 rfl rfl rfl) rfl rfl rfl ?_
   refine qY (yK rfl rfl (by first | exact zW ⟨by omega, by omega⟩ | rfl)) rfl rfl rfl ?_
   refine qY (qV qYJ rfl) rfl rfl rfl ?_
   refine qY (zY 2 ty2 rfl rfl rfl) rfl rfl rfl ?_
   refine qY (qV qYJ rfl) rfl rfl rfl ?_
   refine qY (zY 3 ty2 rfl rfl rfl) rfl rfl rfl ?_
   refine qY (yK rfl rfl (by first | exact zW ⟨by omega, by omega⟩ | rfl)) rfl rfl rfl ?_
   refine jW (F := iv) (zQ en148 rfl (fun w _ => rLimited _ _  w)) rfl rfl rfl ?_; intro r24 hr24
   refine qG 4 ty71 rfl rfl rfl rfl rfl rfl rfl rfl ?_
   refine qJ ?_
   refine qQ ?_
   refine zV ?_
   refine zK (rs := [.cell 4 71]) rfl (resC (zU 4 rfl rfl ty71 rfl) (resN)) (congrArg (iv) (?_ : ⟨_, _⟩ = Iv.add (⟨a0, a1⟩ : Iv) (⟨b0, b1⟩ : Iv)))
   subst_vars; first | (simp_all [Iv.add, Iv.limited]; done) | (simp_all [Iv.add, Iv.limited] <;> omega) | grind [Iv.add, Iv.limited]
theorem rHull (a0 a1 : Int) (b0 b1 : Int) (w : World) : Calls Tryz.prog 180 [.agg #[.int .i64 a0, .int .i64 a1], .agg #[.int .i64 b0, .int .i64 b1]].toArray w (Rets (iv (Iv.hull (⟨a0, a1⟩ : Iv) (⟨b0, b1⟩ : Iv))) (w)) := by
 refine zX (n := 25) Tryz.func180 rfl rfl rfl ?_
 refine qK ?_
 refine qZ ?_
 refine kY 2 rfl rfl rfl rfl ?_; intro b2
 refine kY 3 rfl rfl rfl rfl ?_; intro b3
 refine yQ 4 ze71 rfl rfl rfl ?_; intro b4
 refine qJ ?_
 refine qQ ?_
 refine qK ?_
 refine qK ?_
 refine qZ ?_
 refine qY (zJ 2 ty71 rfl rfl rfl) rfl rfl rfl ?_
 refine jW (F := vB) (zQ en147 rfl (fun w _ => zQH _ _  w)) rfl rfl rfl ?_; intro r6 hr6
 refine qY (qUX rfl) rfl rfl rfl ?_
 refine qY (qU rfl) rfl rfl rfl ?_
 refine qJK 8 rfl (fun hg8 => ?_) (fun hg8 => ?_)
 ·
  refine yW rfl rfl rfl ?_
  refine yW rfl rfl rfl ?_
  refine yW rfl rfl rfl ?_
  refine qY (qZJ rfl rfl rfl rfl) rfl rfl rfl ?_
  refine qJ ?_
  refine qQ ?_
  refine yX rfl (rfl) ?_
  refine qK ?_
  refine qZ ?_
  refine qY (zH la71 rfl rfl) rfl rfl rfl ?_
  refine qG 4 ty71 rfl rfl rfl rfl rfl rfl rfl rfl ?_
  refine qJ ?_
  refine qQ ?_
  refine zV ?_
  refine jK ?_
  refine zK (rs := [.cell 4 71]) rfl (resC (zU 4 rfl rfl ty71 rfl) (resN)) (congrArg (iv) (?_ : ⟨_, _⟩ = Iv.hull (⟨a0, a1⟩ : Iv) (⟨b0, b1⟩ : Iv)))
  subst_vars; first | (simp_all [Iv.hull]; done) | (simp_all [Iv.hull] <;> omega) | grind [Iv.hull]
 ·
  refine qY (zJ 3 ty71 rfl rfl rfl) rfl rfl rfl ?_
  refine jW (F := vB) (zQ en147 rfl (fun w _ => zQH _ _  w)) rfl rfl rfl ?_; intro r10 hr10
  refine qY (qUX rfl) rfl rfl rfl ?_
  refine qY (uV rfl rfl rfl rfl) rfl rfl rfl ?_
  refine qJ ?_
  refine qQ ?_
  refine yH rfl (fun hc12 => ?_) (fun hc12 => ?_)
  ·
   refine qK ?_
   refine qZ ?_
   refine qY (zH la71 rfl rfl) rfl rfl rfl ?_
   refine qG 4 ty71 rfl rfl rfl rfl rfl rfl rfl rfl ?_
   refine qJ ?_
   refine qQ ?_
   refine zV ?_
   refine jK ?_
   refine zK (rs := [.cell 4 71]) rfl (resC (zU 4 rfl rfl ty71 rfl) (resN)) (congrArg (iv) (?_ : ⟨_, _⟩ = Iv.hull (⟨a0, a1⟩ : Iv) (⟨b0, b1⟩ : Iv)))
   subst_vars; first | (simp_all [Iv.hull]; done) | (simp_all [Iv.hull] <;> omega) | grind [Iv.hull]
  ·
   refine yZ ?_
   refine qQ ?_
   refine qK ?_
   refine qZ ?_
   refine qY (qV qZV rfl) rfl rfl rfl ?_
   refine qY (zY 2 ty2 rfl rfl rfl) rfl rfl rfl ?_
   refine qY (qV qZV rfl) rfl rfl rfl ?_
   refine qY (zY 3 ty2 rfl rfl rfl) rfl rfl rfl ?_
   refine qY (qKY rfl rfl) rfl rfl rfl ?_
   refine qY (qV qYJ rfl) rfl rfl rfl ?_
   refine qY (zY 2 ty2 rfl rfl rfl) rfl rfl rfl ?_
   refine qY (qV qYJ rfl) rfl rfl rfl ?_
   refine qY (zY 3 ty2 rfl rfl rfl) rfl rfl rfl ?_
   refine qY (qVV rfl rfl) rfl rfl rfl ?_
   refine qY (zH la71 rfl rfl) rfl rfl rfl ?_
   refine qG 4 ty71 rfl rfl rfl rfl rfl rfl rfl rfl ?_
   refine qJ ?_
   refine qQ ?_
   refine zV ?_
   refine zK (rs := [.cell 4 71]) rfl (resC (zU 4 rfl rfl ty71 rfl) (resN)) (congrArg (iv) (?_ : ⟨_, _⟩ = Iv.hull (⟨a0, a1⟩ : Iv) (⟨b0, b1⟩ : Iv)))
   subst_vars; first | (simp_all [Iv.hull]; done) | (simp_all [Iv.hull] <;> omega) | grind [Iv.hull]
theorem iAdd (a0 a1 : Int) (b0 b1 : Int) (w : World) : Calls Tryz.prog 142 [.agg #[.int .i64 a0, .int .i64 a1], .agg #[.int .i64 b0, .int .i64 b1]].toArray w (Rets (iv (Iv.add (⟨a0, a1⟩ : Iv) (⟨b0, b1⟩ : Iv))) (w)) := by
 refine zX (n := 21) Tryz.func142 rfl rfl rfl ?_
 refine qK ?_
 refine qZ ?_
 refine kY 2 rfl rfl rfl rfl ?_; intro b2
 refine kY 3 rfl rfl rfl rfl ?_; intro b3
 refine yQ 4 ze71 rfl rfl rfl ?_; intro b4
 refine qJ ?_
 refine qQ ?_
 refine qK ?_
 refine qK ?_
 refine qZ ?_
 refine qY (zJ 2 ty71 rfl rfl rfl) rfl rfl rfl ?_
 refine qY (zJ 3 ty71 rfl rfl rfl) rfl rfl rfl ?_
 refine jW (F := vB) (zQ en134 rfl (fun w _ => iValid2 _ _ _ _  w)) rfl rfl rfl ?_; intro r7 hr7
 refine qY (qUX rfl) rfl rfl rfl ?_
 refine qJ ?_
 refine qQ ?_
 refine yH rfl (fun hc8 => ?_) (fun hc8 => ?_)
 ·
  refine qK ?_
  refine qZ ?_
  refine qY (zH la71 rfl rfl) rfl rfl rfl ?_
  refine qG 4 ty71 rfl rfl rfl rfl rfl rfl rfl rfl ?_
  refine qJ ?_
  refine qQ ?_
  refine zV ?_
  refine jK ?_
  refine zK (rs := [.cell 4 71]) rfl (resC (zU 4 rfl rfl ty71 rfl) (resN)) (congrArg (iv) (?_ : ⟨_, _⟩ = Iv.add (⟨a0, a1⟩ : Iv) (⟨b0, b1⟩ : Iv)))
  subst_vars; first | (simp_all [Iv.add, Iv.limited]; done) | (simp_all [Iv.add, Iv.limited] <;> omega) | grind [Iv.add, Iv.limited]
 ·
  refine yZ ?_
  refine qQ ?_
  refine qK ?_
  have hv := hr7.symm.trans (by simpa using hc8)
  rw [Bool.and_eq_true] at hv
  have ha := qUH hv.1
  have hb := qUH hv.2
  refine qZ ?_
  refine qY (qV qZV rfl) rfl rfl rfl ?_
  refine qY (zY 2 ty2 rfl rfl rfl) rfl rfl rfl ?_
  refine qY (qV qZV rfl) rfl rfl rfl ?_
  refine qY (zY 3 ty2 rfl rfl rfl) rfl rfl rfl ?_
  refine qY (yK rfl rfl (by first | exact zW ⟨by omega, by omega⟩ | rfl)) rfl rfl rfl ?_
  refine qY (qV qYJ rfl) rfl rfl rfl ?_
  refine qY (zY 2 ty2 rfl rfl rfl) rfl rfl rfl ?_
  refine qY (qV qYJ rfl) rfl rfl rfl ?_
  refine qY (zY 3 ty2 rfl rfl rfl) rfl rfl rfl ?_
  refine qY (yK rfl rfl (by first | exact zW ⟨by omega, by omega⟩ | rfl)) rfl rfl rfl ?_
  refine jW (F := iv) (zQ en145 rfl (fun w _ => iLimited _ _  w)) rfl rfl rfl ?_; intro r20 hr20
  refine qG 4 ty71 rfl rfl rfl rfl rfl rfl rfl rfl ?_
  refine qJ ?_
  refine qQ ?_
  refine zV ?_
  refine zK (rs := [.cell 4 71]) rfl (resC (zU 4 rfl rfl ty71 rfl) (resN)) (congrArg (iv) (?_ : ⟨_, _⟩ = Iv.add (⟨a0, a1⟩ : Iv) (⟨b0, b1⟩ : Iv)))
  subst_vars; first | (simp_all [Iv.add, Iv.limited]; done) | (simp_all [Iv.add, Iv.limited] <;> omega) | grind [Iv.add, Iv.limited]
theorem iHull (a0 a1 : Int) (b0 b1 : Int) (w : World) : Calls Tryz.prog 186 [.agg #[.int .i64 a0, .int .i64 a1], .agg #[.int .i64 b0, .int .i64 b1]].toArray w (Rets (iv (Iv.hull (⟨a0, a1⟩ : Iv) (⟨b0, b1⟩ : Iv))) (w)) := by
 refine zX (n := 21) Tryz.func186 rfl rfl rfl ?_
 refine qK ?_
 refine qZ ?_
 refine kY 2 rfl rfl rfl rfl ?_; intro b2
 refine kY 3 rfl rfl rfl rfl ?_; intro b3
 refine yQ 4 ze71 rfl rfl rfl ?_; intro b4
 refine qJ ?_
 refine qQ ?_
 refine qK ?_
 refine qK ?_
 refine qZ ?_
 refine qY (zJ 2 ty71 rfl rfl rfl) rfl rfl rfl ?_
 refine qY (zJ 3 ty71 rfl rfl rfl) rfl rfl rfl ?_
 refine jW (F := vB) (zQ en134 rfl (fun w _ => iValid2 _ _ _ _  w)) rfl rfl rfl ?_; intro r7 hr7
 refine qY (qUX rfl) rfl rfl rfl ?_
 refine qJ ?_
 refine qQ ?_
 refine yH rfl (fun hc8 => ?_) (fun hc8 => ?_)
 ·
  refine qK ?_
  refine qZ ?_
  refine qY (zH la71 rfl rfl) rfl rfl rfl ?_
  refine qG 4 ty71 rfl rfl rfl rfl rfl rfl rfl rfl ?_
  refine qJ ?_
  refine qQ ?_
  refine zV ?_
  refine jK ?_
  refine zK (rs := [.cell 4 71]) rfl (resC (zU 4 rfl rfl ty71 rfl) (resN)) (congrArg (iv) (?_ : ⟨_, _⟩ = Iv.hull (⟨a0, a1⟩ : Iv) (⟨b0, b1⟩ : Iv)))
  subst_vars; first | (simp_all [Iv.hull]; done) | (simp_all [Iv.hull] <;> omega) | grind [Iv.hull]
 ·
  refine yZ ?_
  refine qQ ?_
  refine qK ?_
  refine qZ ?_
  refine qY (qV qZV rfl) rfl rfl rfl ?_
  refine qY (zY 2 ty2 rfl rfl rfl) rfl rfl rfl ?_
  refine qY (qV qZV rfl) rfl rfl rfl ?_
  refine qY (zY 3 ty2 rfl rfl rfl) rfl rfl rfl ?_
  refine qY (qKY rfl rfl) rfl rfl rfl ?_
  refine qY (qV qYJ rfl) rfl rfl rfl ?_
  refine qY (zY 2 ty2 rfl rfl rfl) rfl rfl rfl ?_
  refine qY (qV qYJ rfl) rfl rfl rfl ?_
  refine qY (zY 3 ty2 rfl rfl rfl) rfl rfl rfl ?_
  refine qY (qVV rfl rfl) rfl rfl rfl ?_
  refine qY (zH la71 rfl rfl) rfl rfl rfl ?_
  refine qG 4 ty71 rfl rfl rfl rfl rfl rfl rfl rfl ?_
  refine qJ ?_
  refine qQ ?_
  refine zV ?_
  refine zK (rs := [.cell 4 71]) rfl (resC (zU 4 rfl rfl ty71 rfl) (resN)) (congrArg (iv) (?_ : ⟨_, _⟩ = Iv.hull (⟨a0, a1⟩ : Iv) (⟨b0, b1⟩ : Iv)))
  subst_vars; first | (simp_all [Iv.hull]; done) | (simp_all [Iv.hull] <;> omega) | grind [Iv.hull]
theorem iWidth (a0 a1 : Int) (w : World) : Calls Tryz.prog 185 [.agg #[.int .i64 a0, .int .i64 a1]].toArray w (Rets (vI (Iv.width (⟨a0, a1⟩ : Iv))) (w)) := by
 refine zX (n := 11) Tryz.func185 rfl rfl rfl ?_
 refine qK ?_
 refine qZ ?_
 refine kY 1 rfl rfl rfl rfl ?_; intro b1
 refine qY (qX rfl) rfl rfl rfl ?_
 refine qJ ?_
 refine qQ ?_
 refine qK ?_
 refine qK ?_
 refine qZ ?_
 refine qY (zJ 1 ty71 rfl rfl rfl) rfl rfl rfl ?_
 refine jW (F := vB) (zQ en107 rfl (fun w _ => zYG _ _  w)) rfl rfl rfl ?_; intro r4 hr4
 refine qY (qUX rfl) rfl rfl rfl ?_
 refine qJ ?_
 refine qQ ?_
 refine yH rfl (fun hc5 => ?_) (fun hc5 => ?_)
 ·
  refine qK ?_
  refine qZ ?_
  refine qY (qX rfl) rfl rfl rfl ?_
  refine qJ ?_
  refine qQ ?_
  refine zV ?_
  refine jK ?_
  refine zK (rs := [.tmp 2]) rfl (resC (kQ rfl) (resN)) (congrArg (vI) (?_ : _ = Iv.width (⟨a0, a1⟩ : Iv)))
  subst_vars; first | (simp_all [Iv.width]; done) | (simp_all [Iv.width] <;> omega) | grind [Iv.width]
 ·
  refine yZ ?_
  refine qQ ?_
  refine qK ?_
  have ha := qUH (hr4.symm.trans (by simpa using hc5))
  refine qZ ?_
  refine qY (qV qYJ rfl) rfl rfl rfl ?_
  refine qY (zY 1 ty2 rfl rfl rfl) rfl rfl rfl ?_
  refine qY (qV qZV rfl) rfl rfl rfl ?_
  refine qY (zY 1 ty2 rfl rfl rfl) rfl rfl rfl ?_
  refine qY (jG rfl rfl (by first | exact zW ⟨by omega, by omega⟩ | rfl)) rfl rfl rfl ?_
  refine qY (qX rfl) rfl rfl rfl ?_
  refine qJ ?_
  refine qQ ?_
  refine zV ?_
  refine zK (rs := [.tmp 2]) rfl (resC (kQ rfl) (resN)) (congrArg (vI) (?_ : _ = Iv.width (⟨a0, a1⟩ : Iv)))
  subst_vars; first | (simp_all [Iv.width]; done) | (simp_all [Iv.width] <;> omega) | grind [Iv.width]
theorem iHas (a0 a1 : Int) (x : Int) (w : World) : Calls Tryz.prog 192 [.agg #[.int .i64 a0, .int .i64 a1], .int .i64 x].toArray w (Rets (vB (Iv.has (⟨a0, a1⟩ : Iv) x)) (w)) := by
 refine zX (n := 19) Tryz.func192 rfl rfl rfl ?_
 refine qK ?_
 refine qZ ?_
 refine kY 2 rfl rfl rfl rfl ?_; intro b2
 refine qY (qX rfl) rfl rfl rfl ?_
 refine qJ ?_
 refine qQ ?_
 refine qK ?_
 refine qZ ?_
 refine qY (zJ 2 ty71 rfl rfl rfl) rfl rfl rfl ?_
 refine jW (F := vB) (zQ en107 rfl (fun w _ => zYG _ _  w)) rfl rfl rfl ?_; intro r6 hr6
 refine qY (qU rfl) rfl rfl rfl ?_
 refine qJK 7 rfl (fun hg7 => ?_) (fun hg7 => ?_)
 ·
  refine qY (qV qZV rfl) rfl rfl rfl ?_
  refine qY (zY 2 ty2 rfl rfl rfl) rfl rfl rfl ?_
  refine qY (qU rfl) rfl rfl rfl ?_
  refine qY (qZG rfl rfl) rfl rfl rfl ?_
  refine qY (qZJ rfl rfl rfl rfl) rfl rfl rfl ?_
  refine qY (qU rfl) rfl rfl rfl ?_
  refine qJK 13 rfl (fun hg13 => ?_) (fun hg13 => ?_)
  ·
   refine qY (qU rfl) rfl rfl rfl ?_
   refine qY (qV qYJ rfl) rfl rfl rfl ?_
   refine qY (zY 2 ty2 rfl rfl rfl) rfl rfl rfl ?_
   refine qY (qZG rfl rfl) rfl rfl rfl ?_
   refine qY (qZJ rfl rfl rfl rfl) rfl rfl rfl ?_
   refine qY (qX rfl) rfl rfl rfl ?_
   refine qJ ?_
   refine qQ ?_
   refine zV ?_
   refine zK (rs := [.tmp 4]) rfl (resC (kQ rfl) (resN)) (congrArg (vB) (?_ : _ = Iv.has (⟨a0, a1⟩ : Iv) x))
   subst_vars; first | (simp_all [Iv.has]; done) | (simp_all [Iv.has] <;> omega) | grind [Iv.has]
  ·
   refine yW rfl rfl rfl ?_
   refine yW rfl rfl rfl ?_
   refine yW rfl rfl rfl ?_
   refine yW rfl rfl rfl ?_
   refine qY (uV rfl rfl rfl rfl) rfl rfl rfl ?_
   refine qY (qX rfl) rfl rfl rfl ?_
   refine qJ ?_
   refine qQ ?_
   refine zV ?_
   refine zK (rs := [.tmp 4]) rfl (resC (kQ rfl) (resN)) (congrArg (vB) (?_ : _ = Iv.has (⟨a0, a1⟩ : Iv) x))
   subst_vars; first | (simp_all [Iv.has]; done) | (simp_all [Iv.has] <;> omega) | grind [Iv.has]
 ·
  refine yW rfl rfl rfl ?_
  refine yW rfl rfl rfl ?_
  refine yW rfl rfl rfl ?_
  refine yW rfl rfl rfl ?_
  refine qY (uV rfl rfl rfl rfl) rfl rfl rfl ?_
  refine qY (qU rfl) rfl rfl rfl ?_
  refine yW rfl rfl rfl ?_
  refine yW rfl rfl rfl ?_
  refine yW rfl rfl rfl ?_
  refine yW rfl rfl rfl ?_
  refine qY (uV rfl rfl rfl rfl) rfl rfl rfl ?_
  refine qY (qX rfl) rfl rfl rfl ?_
  refine qJ ?_
  refine qQ ?_
  refine zV ?_
  refine zK (rs := [.tmp 4]) rfl (resC (kQ rfl) (resN)) (congrArg (vB) (?_ : _ = Iv.has (⟨a0, a1⟩ : Iv) x))
  subst_vars; first | (simp_all [Iv.has]; done) | (simp_all [Iv.has] <;> omega) | grind [Iv.has]
theorem rWithin (a0 a1 : Int) (b0 b1 : Int) (w : World) : Calls Tryz.prog 159 [.agg #[.int .i64 a0, .int .i64 a1], .agg #[.int .i64 b0, .int .i64 b1]].toArray w (Rets (vB (Iv.within (⟨a0, a1⟩ : Iv) (⟨b0, b1⟩ : Iv))) (w)) := by
 refine zX (n := 25) Tryz.func159 rfl rfl rfl ?_
 refine qK ?_
 refine qZ ?_
 refine kY 2 rfl rfl rfl rfl ?_; intro b2
 refine kY 3 rfl rfl rfl rfl ?_; intro b3
 refine qY (qX rfl) rfl rfl rfl ?_
 refine qJ ?_
 refine qQ ?_
 refine qK ?_
 refine qZ ?_
 refine qY (zJ 2 ty71 rfl rfl rfl) rfl rfl rfl ?_
 refine jW (F := vB) (zQ en147 rfl (fun w _ => zQH _ _  w)) rfl rfl rfl ?_; intro r6 hr6
 refine qY (qU rfl) rfl rfl rfl ?_
 refine qJK 7 rfl (fun hg7 => ?_) (fun hg7 => ?_)
 ·
  refine qY (zJ 3 ty71 rfl rfl rfl) rfl rfl rfl ?_
  refine jW (F := vB) (zQ en147 rfl (fun w _ => zQH _ _  w)) rfl rfl rfl ?_; intro r9 hr9
  refine qY (qZJ rfl rfl rfl rfl) rfl rfl rfl ?_
  refine qY (qU rfl) rfl rfl rfl ?_
  refine qJK 11 rfl (fun hg11 => ?_) (fun hg11 => ?_)
  ·
   refine qY (qV qZV rfl) rfl rfl rfl ?_
   refine qY (zY 3 ty2 rfl rfl rfl) rfl rfl rfl ?_
   refine qY (qV qZV rfl) rfl rfl rfl ?_
   refine qY (zY 2 ty2 rfl rfl rfl) rfl rfl rfl ?_
   refine qY (qZG rfl rfl) rfl rfl rfl ?_
   refine qY (qZJ rfl rfl rfl rfl) rfl rfl rfl ?_
   refine qY (qU rfl) rfl rfl rfl ?_
   refine qJK 18 rfl (fun hg18 => ?_) (fun hg18 => ?_)
   ·
    refine qY (qV qYJ rfl) rfl rfl rfl ?_
    refine qY (zY 2 ty2 rfl rfl rfl) rfl rfl rfl ?_
    refine qY (qV qYJ rfl) rfl rfl rfl ?_
    refine qY (zY 3 ty2 rfl rfl rfl) rfl rfl rfl ?_
    refine qY (qZG rfl rfl) rfl rfl rfl ?_
    refine qY (qZJ rfl rfl rfl rfl) rfl rfl rfl ?_
    refine qY (qX rfl) rfl rfl rfl ?_
    refine qJ ?_
    refine qQ ?_
    refine zV ?_
    refine zK (rs := [.tmp 4]) rfl (resC (kQ rfl) (resN)) (congrArg (vB) (?_ : _ = Iv.within (⟨a0, a1⟩ : Iv) (⟨b0, b1⟩ : Iv)))
    subst_vars; first | (simp_all [Iv.within]; done) | (simp_all [Iv.within] <;> omega) | grind [Iv.within]
   ·
    refine yW rfl rfl rfl ?_
    refine yW rfl rfl rfl ?_
    refine yW rfl rfl rfl ?_
    refine yW rfl rfl rfl ?_
    refine yW rfl rfl rfl ?_
    refine qY (uV rfl rfl rfl rfl) rfl rfl rfl ?_
    refine qY (qX rfl) rfl rfl rfl ?_
    refine qJ ?_
    refine qQ ?_
    refine zV ?_
    refine zK (rs := [.tmp 4]) rfl (resC (kQ rfl) (resN)) (congrArg (vB) (?_ : _ = Iv.within (⟨a0, a1⟩ : Iv) (⟨b0, b1⟩ : Iv)))
    subst_vars; first | (simp_all [Iv.within]; done) | (simp_all [Iv.within] <;> omega) | grind [Iv.within]
  ·
   refine yW rfl rfl rfl ?_
   refine yW rfl rfl rfl ?_
   refine yW rfl rfl rfl ?_
   refine yW rfl rfl rfl ?_
   refine yW rfl rfl rfl ?_
   refine qY (uV rfl rfl rfl rfl) rfl rfl rfl ?_
   refine qY (qU rfl) rfl rfl rfl ?_
   refine yW rfl rfl rfl ?_
   refine yW rfl rfl rfl ?_
   refine yW rfl rfl rfl ?_
   refine yW rfl rfl rfl ?_
   refine yW rfl rfl rfl ?_
   refine qY (uV rfl rfl rfl rfl) rfl rfl rfl ?_
   refine qY (qX rfl) rfl rfl rfl ?_
   refine qJ ?_
   refine qQ ?_
   refine zV ?_
   refine zK (rs := [.tmp 4]) rfl (resC (kQ rfl) (resN)) (congrArg (vB) (?_ : _ = Iv.within (⟨a0, a1⟩ : Iv) (⟨b0, b1⟩ : Iv)))
   subst_vars; first | (simp_all [Iv.within]; done) | (simp_all [Iv.within] <;> omega) | grind [Iv.within]
 ·
  refine yW rfl rfl rfl ?_
  refine yW rfl rfl rfl ?_
  refine qY (uV rfl rfl rfl rfl) rfl rfl rfl ?_
  refine qY (qU rfl) rfl rfl rfl ?_
  refine yW rfl rfl rfl ?_
  refine yW rfl rfl rfl ?_
  refine yW rfl rfl rfl ?_
  refine yW rfl rfl rfl ?_
  refine yW rfl rfl rfl ?_
  refine qY (uV rfl rfl rfl rfl) rfl rfl rfl ?_
  refine qY (qU rfl) rfl rfl rfl ?_
  refine yW rfl rfl rfl ?_
  refine yW rfl rfl rfl ?_
  refine yW rfl rfl rfl ?_
  refine yW rfl rfl rfl ?_
  refine yW rfl rfl rfl ?_
  refine qY (uV rfl rfl rfl rfl) rfl rfl rfl ?_
  refine qY (qX rfl) rfl rfl rfl ?_
  refine qJ ?_
  refine qQ ?_
  refine zV ?_
  refine zK (rs := [.tmp 4]) rfl (resC (kQ rfl) (resN)) (congrArg (vB) (?_ : _ = Iv.within (⟨a0, a1⟩ : Iv) (⟨b0, b1⟩ : Iv)))
  subst_vars; first | (simp_all [Iv.within]; done) | (simp_all [Iv.within] <;> omega) | grind [Iv.within]
theorem iWithin (a0 a1 : Int) (b0 b1 : Int) (w : World) : Calls Tryz.prog 91 [.agg #[.int .i64 a0, .int .i64 a1], .agg #[.int .i64 b0, .int .i64 b1]].toArray w (Rets (vB (Iv.within (⟨a0, a1⟩ : Iv) (⟨b0, b1⟩ : Iv))) (w)) := by
 refine zX (n := 22) Tryz.func91 rfl rfl rfl ?_
 refine qK ?_
 refine qZ ?_
 refine kY 2 rfl rfl rfl rfl ?_; intro b2
 refine kY 3 rfl rfl rfl rfl ?_; intro b3
 refine qY (qX rfl) rfl rfl rfl ?_
 refine qJ ?_
 refine qQ ?_
 refine qK ?_
 refine qZ ?_
 refine qY (zJ 2 ty71 rfl rfl rfl) rfl rfl rfl ?_
 refine qY (zJ 3 ty71 rfl rfl rfl) rfl rfl rfl ?_
 refine jW (F := vB) (zQ en134 rfl (fun w _ => iValid2 _ _ _ _  w)) rfl rfl rfl ?_; intro r7 hr7
 refine qY (qU rfl) rfl rfl rfl ?_
 refine qJK 8 rfl (fun hg8 => ?_) (fun hg8 => ?_)
 ·
  refine qY (qV qZV rfl) rfl rfl rfl ?_
  refine qY (zY 3 ty2 rfl rfl rfl) rfl rfl rfl ?_
  refine qY (qV qZV rfl) rfl rfl rfl ?_
  refine qY (zY 2 ty2 rfl rfl rfl) rfl rfl rfl ?_
  refine qY (qZG rfl rfl) rfl rfl rfl ?_
  refine qY (qZJ rfl rfl rfl rfl) rfl rfl rfl ?_
  refine qY (qU rfl) rfl rfl rfl ?_
  refine qJK 15 rfl (fun hg15 => ?_) (fun hg15 => ?_)
  ·
   refine qY (qV qYJ rfl) rfl rfl rfl ?_
   refine qY (zY 2 ty2 rfl rfl rfl) rfl rfl rfl ?_
   refine qY (qV qYJ rfl) rfl rfl rfl ?_
   refine qY (zY 3 ty2 rfl rfl rfl) rfl rfl rfl ?_
   refine qY (qZG rfl rfl) rfl rfl rfl ?_
   refine qY (qZJ rfl rfl rfl rfl) rfl rfl rfl ?_
   refine qY (qX rfl) rfl rfl rfl ?_
   refine qJ ?_
   refine qQ ?_
   refine zV ?_
   refine zK (rs := [.tmp 4]) rfl (resC (kQ rfl) (resN)) (congrArg (vB) (?_ : _ = Iv.within (⟨a0, a1⟩ : Iv) (⟨b0, b1⟩ : Iv)))
   subst_vars; first | (simp_all [Iv.within]; done) | (simp_all [Iv.within] <;> omega) | grind [Iv.within]
  ·
   refine yW rfl rfl rfl ?_
   refine yW rfl rfl rfl ?_
   refine yW rfl rfl rfl ?_
   refine yW rfl rfl rfl ?_
   refine yW rfl rfl rfl ?_
   refine qY (uV rfl rfl rfl rfl) rfl rfl rfl ?_
   refine qY (qX rfl) rfl rfl rfl ?_
   refine qJ ?_
   refine qQ ?_
   refine zV ?_
   refine zK (rs := [.tmp 4]) rfl (resC (kQ rfl) (resN)) (congrArg (vB) (?_ : _ = Iv.within (⟨a0, a1⟩ : Iv) (⟨b0, b1⟩ : Iv)))
   subst_vars; first | (simp_all [Iv.within]; done) | (simp_all [Iv.within] <;> omega) | grind [Iv.within]
 ·
  refine yW rfl rfl rfl ?_
  refine yW rfl rfl rfl ?_
  refine yW rfl rfl rfl ?_
  refine yW rfl rfl rfl ?_
  refine yW rfl rfl rfl ?_
  refine qY (uV rfl rfl rfl rfl) rfl rfl rfl ?_
  refine qY (qU rfl) rfl rfl rfl ?_
  refine yW rfl rfl rfl ?_
  refine yW rfl rfl rfl ?_
  refine yW rfl rfl rfl ?_
  refine yW rfl rfl rfl ?_
  refine yW rfl rfl rfl ?_
  refine qY (uV rfl rfl rfl rfl) rfl rfl rfl ?_
  refine qY (qX rfl) rfl rfl rfl ?_
  refine qJ ?_
  refine qQ ?_
  refine zV ?_
  refine zK (rs := [.tmp 4]) rfl (resC (kQ rfl) (resN)) (congrArg (vB) (?_ : _ = Iv.within (⟨a0, a1⟩ : Iv) (⟨b0, b1⟩ : Iv)))
  subst_vars; first | (simp_all [Iv.within]; done) | (simp_all [Iv.within] <;> omega) | grind [Iv.within]
theorem rMul (a0 a1 : Int) (b0 b1 : Int) (w : World) : Calls Tryz.prog 104 [.agg #[.int .i64 a0, .int .i64 a1], .agg #[.int .i64 b0, .int .i64 b1]].toArray w (Rets (iv (Iv.mul (⟨a0, a1⟩ : Iv) (⟨b0, b1⟩ : Iv))) (w)) := by
 refine zX (n := 51) Tryz.func104 rfl rfl rfl ?_
 refine qK ?_
 refine qZ ?_
 refine kY 2 rfl rfl rfl rfl ?_; intro b2
 refine kY 3 rfl rfl rfl rfl ?_; intro b3
 refine yQ 4 ze71 rfl rfl rfl ?_; intro b4
 refine qJ ?_
 refine qQ ?_
 refine qK ?_
 refine qK ?_
 refine qZ ?_
 refine qY (zJ 2 ty71 rfl rfl rfl) rfl rfl rfl ?_
 refine jW (F := vB) (zQ en147 rfl (fun w _ => zQH _ _  w)) rfl rfl rfl ?_; intro r10 hr10
 refine qY (qUX rfl) rfl rfl rfl ?_
 refine qY (qU rfl) rfl rfl rfl ?_
 refine qJK 12 rfl (fun hg12 => ?_) (fun hg12 => ?_)
 ·
  refine yW rfl rfl rfl ?_
  refine yW rfl rfl rfl ?_
  refine yW rfl rfl rfl ?_
  refine qY (qZJ rfl rfl rfl rfl) rfl rfl rfl ?_
  refine qJ ?_
  refine qQ ?_
  refine yX rfl (rfl) ?_
  refine qK ?_
  refine qZ ?_
  refine qY (zH la71 rfl rfl) rfl rfl rfl ?_
  refine qG 4 ty71 rfl rfl rfl rfl rfl rfl rfl rfl ?_
  refine qJ ?_
  refine qQ ?_
  refine zV ?_
  refine jK ?_
  refine zK (rs := [.cell 4 71]) rfl (resC (zU 4 rfl rfl ty71 rfl) (resN)) (congrArg (iv) (?_ : ⟨_, _⟩ = Iv.mul (⟨a0, a1⟩ : Iv) (⟨b0, b1⟩ : Iv)))
  subst_vars; first | (simp_all [Iv.mul, Iv.limited, min4, max4]; done) | (simp_all [Iv.mul, Iv.limited, min4, max4] <;> omega) | grind [Iv.mul, Iv.limited, min4, max4]
 ·
  refine qY (zJ 3 ty71 rfl rfl rfl) rfl rfl rfl ?_
  refine jW (F := vB) (zQ en147 rfl (fun w _ => zQH _ _  w)) rfl rfl rfl ?_; intro r14 hr14
  refine qY (qUX rfl) rfl rfl rfl ?_
  refine qY (uV rfl rfl rfl rfl) rfl rfl rfl ?_
  refine qJ ?_
  refine qQ ?_
  refine yH rfl (fun hc16 => ?_) (fun hc16 => ?_)
  ·
   refine qK ?_
   refine qZ ?_
   refine qY (zH la71 rfl rfl) rfl rfl rfl ?_
   refine qG 4 ty71 rfl rfl rfl rfl rfl rfl rfl rfl ?_
   refine qJ ?_
   refine qQ ?_
   refine zV ?_
   refine jK ?_
   refine zK (rs := [.cell 4 71]) rfl (resC (zU 4 rfl rfl ty71 rfl) (resN)) (congrArg (iv) (?_ : ⟨_, _⟩ = Iv.mul (⟨a0, a1⟩ : Iv) (⟨b0, b1⟩ : Iv)))
   subst_vars; first | (simp_all [Iv.mul, Iv.limited, min4, max4]; done) | (simp_all [Iv.mul, Iv.limited, min4, max4] <;> omega) | grind [Iv.mul, Iv.limited, min4, max4]
  ·
   refine yZ ?_
   refine qQ ?_
   refine qK ?_
   have ha := qUH (hr10.symm.trans (by simpa using hg12))
   have hb := qUH (hr14.symm.trans (by simpa using hc16))
   have m1 := zQQ (a := a0) (b := b0) (by omega) (by omega)
   have m2 := zQQ (a := a0) (b := b1) (by omega) (by omega)
   have m3 := zQQ (a := a1) (b := b0) (by omega) (by omega)
   have m4 := zQQ (a := a1) (b := b1) (by omega) (by omega)
   refine yY 23 mo (by kernel_rfl) ?_
   simp only [List.take_succ_cons, List.take_zero, List.drop_succ_cons, List.drop_zero]
   refine qH (qV qZV rfl) rfl rfl rfl ?_
   refine qH (zY 2 ty2 rfl rfl rfl) rfl rfl rfl ?_
   refine qH (qV qZV rfl) rfl rfl rfl ?_
   refine qH (zY 3 ty2 rfl rfl rfl) rfl rfl rfl ?_
   refine qH (jZ rfl rfl (by first | exact zW ⟨by omega, by omega⟩ | rfl)) rfl rfl rfl ?_
   refine qH (qV qZV rfl) rfl rfl rfl ?_
   refine qH (zY 2 ty2 rfl rfl rfl) rfl rfl rfl ?_
   refine qH (qV qYJ rfl) rfl rfl rfl ?_
   refine qH (zY 3 ty2 rfl rfl rfl) rfl rfl rfl ?_
   refine qH (jZ rfl rfl (by first | exact zW ⟨by omega, by omega⟩ | rfl)) rfl rfl rfl ?_
   refine qH (qV qYJ rfl) rfl rfl rfl ?_
   refine qH (zY 2 ty2 rfl rfl rfl) rfl rfl rfl ?_
   refine qH (qV qZV rfl) rfl rfl rfl ?_
   refine qH (zY 3 ty2 rfl rfl rfl) rfl rfl rfl ?_
   refine qH (jZ rfl rfl (by first | exact zW ⟨by omega, by omega⟩ | rfl)) rfl rfl rfl ?_
   refine qH (qV qYJ rfl) rfl rfl rfl ?_
   refine qH (zY 2 ty2 rfl rfl rfl) rfl rfl rfl ?_
   refine qH (qV qYJ rfl) rfl rfl rfl ?_
   refine qH (zY 3 ty2 rfl rfl rfl) rfl rfl rfl ?_
   refine qH (jZ rfl rfl (by first | exact zW ⟨by omega, by omega⟩ | rfl)) rfl rfl rfl ?_
   refine qH (qX rfl) rfl rfl rfl ?_
   refine qH (qX rfl) rfl rfl rfl ?_
   refine qH (qX rfl) rfl rfl rfl ?_
   refine jX ?_
   refine yU ?_
   refine qY (qX rfl) rfl rfl rfl ?_
   refine qJ ?_
   refine qQ ?_
   refine qK ?_
   refine qZ ?_
   refine qY (qU rfl) rfl rfl rfl ?_
   refine qY (qU rfl) rfl rfl rfl ?_
   refine qY (qU rfl) rfl rfl rfl ?_
   refine qY (qU rfl) rfl rfl rfl ?_
   refine qY (opV_min4 rfl rfl rfl rfl) rfl rfl rfl ?_
   refine jW (F := vI) (zQ en149 rfl (fun w _ => qVW _ _ (by unfold In64; omega) (by omega) w)) rfl rfl rfl ?_; intro r43 hr43
   refine qY (qU rfl) rfl rfl rfl ?_
   refine qY (qU rfl) rfl rfl rfl ?_
   refine qY (qU rfl) rfl rfl rfl ?_
   refine qY (qU rfl) rfl rfl rfl ?_
   refine qY (opV_max4 rfl rfl rfl rfl) rfl rfl rfl ?_
   refine jW (F := vI) (zQ en150 rfl (fun w _ => rCeil _ _ (by unfold In64; omega) (by omega) w)) rfl rfl rfl ?_; intro r49 hr49
   refine jW (F := iv) (zQ en148 rfl (fun w _ => rLimited _ _  w)) rfl rfl rfl ?_; intro r50 hr50
   refine qG 4 ty71 rfl rfl rfl rfl rfl rfl rfl rfl ?_
   refine qJ ?_
   refine qQ ?_
   refine zV ?_
   refine zK (rs := [.cell 4 71]) rfl (resC (zU 4 rfl rfl ty71 rfl) (resN)) (congrArg (iv) (?_ : ⟨_, _⟩ = Iv.mul (⟨a0, a1⟩ : Iv) (⟨b0, b1⟩ : Iv)))
   subst_vars; first | (simp_all [Iv.mul, Iv.limited, min4, max4]; done) | (simp_all [Iv.mul, Iv.limited, min4, max4] <;> omega) | grind [Iv.mul, Iv.limited, min4, max4]
end Go.Proofs.YtmbnpjpggccefaaGreat

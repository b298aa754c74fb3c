/- A chain of integer points near the circle of radius 2^128: the powers of one rotation by a 65536th of a turn, rounded; each lies within the box of its sine and cosine (checked by the kernel). No condition. -/
import Derived.Test.YtonampcmhhhffaaVAngLaw3
namespace Go.Sx
def nn : Nat := 340282366920938463463374607431768211456
def uu : Nat := 5192296858534827628530496329220096
def uc : Nat := 340282365357037221779282487371359009126
def us : Nat := 32624163282081701561065576601652201
def w : Nat → Nat × Nat
  | 0 => (nn, 0)
  | n + 1 => (((w n).1 * uc - (w n).2 * us) / nn, ((w n).1 * us + (w n).2 * uc) / nn)
def bx (S C a b c d : Nat) : Bool := Nat.ble (a * 5192296858534827628530496329220096) S && (Nat.ble S (b * 5192296858534827628530496329220096) && (Nat.ble (c * 5192296858534827628530496329220096) C && Nat.ble C (d * 5192296858534827628530496329220096)))
def goU (C' T' : Nat) : Nat → Nat → Nat → Nat → Bool
  | 0, C, T, _ => Nat.beq C C' && Nat.beq T T'
  | k + 1, C, T, x => (valsK x fun a b c d => bx T C a b c d) && (Nat.ble (T * 32624163282081701561065576601652201) (C * 340282365357037221779282487371359009126) && frc ((C * 340282365357037221779282487371359009126 - T * 32624163282081701561065576601652201) / 340282366920938463463374607431768211456) fun C2 => frc ((C * 32624163282081701561065576601652201 + T * 340282365357037221779282487371359009126) / 340282366920938463463374607431768211456) fun T2 => frc (x + 1) fun x2 => goU C' T' k C2 T2 x2)
def goD (C' T' : Nat) : Nat → Nat → Nat → Nat → Bool
  | 0, C, T, _ => Nat.beq C C' && Nat.beq T T'
  | k + 1, C, T, x => (valsK x fun a b c d => bx C T a b c d) && (Nat.ble (T * 32624163282081701561065576601652201) (C * 340282365357037221779282487371359009126) && frc ((C * 340282365357037221779282487371359009126 - T * 32624163282081701561065576601652201) / 340282366920938463463374607431768211456) fun C2 => frc ((C * 32624163282081701561065576601652201 + T * 340282365357037221779282487371359009126) / 340282366920938463463374607431768211456) fun T2 => frc (x - 1) fun x2 => goD C' T' k C2 T2 x2)
structure BoxU (r : Nat) : Prop where
  sl : sLo r * uu ≤ (w r).2
  sh : (w r).2 ≤ sHi r * uu
  cl : cLo r * uu ≤ (w r).1
  ch : (w r).1 ≤ cHi r * uu
  st : (w r).2 * us ≤ (w r).1 * uc
structure BoxD (r : Nat) : Prop where
  sl : sLo (16384 - r) * uu ≤ (w r).1
  sh : (w r).1 ≤ sHi (16384 - r) * uu
  cl : cLo (16384 - r) * uu ≤ (w r).2
  ch : (w r).2 ≤ cHi (16384 - r) * uu
  st : (w r).2 * us ≤ (w r).1 * uc
theorem goU_spec {C' T' : Nat} : ∀ k C T x, goU C' T' k C T x = true → w x = (C, T) → w (x + k) = (C', T') ∧ ∀ i, x ≤ i → i < x + k → BoxU i
  | 0, C, T, x, h, e => by
    simp only [goU, Bool.and_eq_true] at h
    refine ⟨?_, fun i a b => absurd b (by omega)⟩
    rw [Nat.add_zero, e, Nat.eq_of_beq_eq_true h.1, Nat.eq_of_beq_eq_true h.2]
  | k + 1, C, T, x, h, e => by
    simp only [goU, frc_eq, valsK_eq, bx, Bool.and_eq_true] at h
    obtain ⟨⟨h1, h2, h3, h4⟩, h5, h6⟩ := h
    obtain ⟨q1, q2⟩ := goU_spec k _ _ (x + 1) h6 (by rw [w, e]; rfl)
    refine ⟨by rw [← q1]; congr 1; omega, fun i a b => ?_⟩
    by_cases hi : i = x
    · subst hi
      exact ⟨by rw [e]; exact Nat.le_of_ble_eq_true h1, by rw [e]; exact Nat.le_of_ble_eq_true h2, by rw [e]; exact Nat.le_of_ble_eq_true h3, by rw [e]; exact Nat.le_of_ble_eq_true h4, by rw [e]; exact Nat.le_of_ble_eq_true h5⟩
    · exact q2 i (by omega) (by omega)
theorem goD_spec {C' T' : Nat} : ∀ k C T r, r ≤ 16384 → k ≤ 16384 - r → goD C' T' k C T (16384 - r) = true → w r = (C, T) → w (r + k) = (C', T') ∧ ∀ i, r ≤ i → i < r + k → BoxD i
  | 0, C, T, x, _, _, h, e => by
    simp only [goD, Bool.and_eq_true] at h
    refine ⟨?_, fun i a b => absurd b (by omega)⟩
    rw [Nat.add_zero, e, Nat.eq_of_beq_eq_true h.1, Nat.eq_of_beq_eq_true h.2]
  | k + 1, C, T, x, g1, g2, h, e => by
    simp only [goD, frc_eq, valsK_eq, bx, Bool.and_eq_true] at h
    obtain ⟨⟨h1, h2, h3, h4⟩, h5, h6⟩ := h
    rw [show 16384 - x - 1 = 16384 - (x + 1) by omega] at h6
    obtain ⟨q1, q2⟩ := goD_spec k _ _ (x + 1) (by omega) (by omega) h6 (by rw [w, e]; rfl)
    refine ⟨by rw [← q1]; congr 1; omega, fun i a b => ?_⟩
    by_cases hi : i = x
    · subst hi
      exact ⟨by rw [e]; exact Nat.le_of_ble_eq_true h1, by rw [e]; exact Nat.le_of_ble_eq_true h2, by rw [e]; exact Nat.le_of_ble_eq_true h3, by rw [e]; exact Nat.le_of_ble_eq_true h4, by rw [e]; exact Nat.le_of_ble_eq_true h5⟩
    · exact q2 i (by omega) (by omega)
theorem wk0 : goU 338643814315582355912937410983956791763 33353504510164655995148692933346502990 1024 340282366920938463463374607431768211456 0 0 = true := by decide +kernel
theorem wk1 : goU 333743936656827580393945988194117882553 66385796539016198537004233666266150132 1024 338643814315582355912937410983956791763 33353504510164655995148692933346502990 1024 = true := by decide +kernel
theorem wk2 : goU 325629922445073537381874007154866693371 98778757057029163154891549979681820108 1024 333743936656827580393945988194117882553 66385796539016198537004233666266150132 2048 = true := by decide +kernel
theorem wk3 : goU 314379914072750776175968446003616356708 130220424146621615521356287373662035415 1024 325629922445073537381874007154866693371 98778757057029163154891549979681820108 3072 = true := by decide +kernel
theorem wk4 : goU 300102255270364911803307903246760032214 160407997365957196655387116525924829546 1024 314379914072750776175968446003616356708 130220424146621615521356287373662035415 4096 = true := by decide +kernel
theorem wk5 : goU 282934447697145148265594844368147524013 189050753882727566157415671255032869469 1024 300102255270364911803307903246760032214 160407997365957196655387116525924829546 5120 = true := by decide +kernel
theorem wk6 : goU 263041826724899848421390153308517431640 215872848293952797667059038248426017122 1024 282934447697145148265594844368147524013 189050753882727566157415671255032869469 6144 = true := by decide +kernel
theorem wk7 : goU 240615969168004511545033772483698474358 240615969168004511545033772471550468243 1024 263041826724899848421390153308517431640 215872848293952797667059038248426017122 7168 = true := by decide +kernel
theorem wk8 : goD 215872848293952797667059038261706108609 263041826724899848421390153297618474197 1024 240615969168004511545033772483698474358 240615969168004511545033772471550468243 8192 = true := by decide +kernel
theorem wk9 : goD 189050753882727566157415671269317183057 282934447697145148265594844358602552466 1024 215872848293952797667059038261706108609 263041826724899848421390153297618474197 7168 = true := by decide +kernel
theorem wk10 : goD 160407997365957196655387116541075833093 300102255270364911803307903238660947340 1024 189050753882727566157415671269317183057 282934447697145148265594844358602552466 6144 = true := by decide +kernel
theorem wk11 : goD 130220424146621615521356287389533852184 314379914072750776175968445997041138024 1024 160407997365957196655387116541075833093 300102255270364911803307903238660947340 5120 = true := by decide +kernel
theorem wk12 : goD 98778757057029163154891549996121633199 325629922445073537381874007149878648288 1024 130220424146621615521356287389533852184 314379914072750776175968445997041138024 4096 = true := by decide +kernel
theorem wk13 : goD 66385796539016198537004233683115673837 333743936656827580393945988190765036869 1024 98778757057029163154891549996121633199 325629922445073537381874007149878648288 3072 = true := by decide +kernel
theorem wk14 : goD 33353504510164655995148692950443506845 338643814315582355912937410982271427247 1024 66385796539016198537004233683115673837 333743936656827580393945988190765036869 2048 = true := by decide +kernel
theorem wk15 : goD 17179870747 340282366920938463463374607431766555032 1024 33353504510164655995148692950443506845 338643814315582355912937410982271427247 1024 = true := by decide +kernel
theorem ws0 : w 0 = (340282366920938463463374607431768211456, 0) := rfl
theorem ws1 : w 1024 = (338643814315582355912937410983956791763, 33353504510164655995148692933346502990) := (goU_spec 1024 _ _ 0 wk0 ws0).1
theorem ws2 : w 2048 = (333743936656827580393945988194117882553, 66385796539016198537004233666266150132) := (goU_spec 1024 _ _ 1024 wk1 ws1).1
theorem ws3 : w 3072 = (325629922445073537381874007154866693371, 98778757057029163154891549979681820108) := (goU_spec 1024 _ _ 2048 wk2 ws2).1
theorem ws4 : w 4096 = (314379914072750776175968446003616356708, 130220424146621615521356287373662035415) := (goU_spec 1024 _ _ 3072 wk3 ws3).1
theorem ws5 : w 5120 = (300102255270364911803307903246760032214, 160407997365957196655387116525924829546) := (goU_spec 1024 _ _ 4096 wk4 ws4).1
theorem ws6 : w 6144 = (282934447697145148265594844368147524013, 189050753882727566157415671255032869469) := (goU_spec 1024 _ _ 5120 wk5 ws5).1
theorem ws7 : w 7168 = (263041826724899848421390153308517431640, 215872848293952797667059038248426017122) := (goU_spec 1024 _ _ 6144 wk6 ws6).1
theorem ws8 : w 8192 = (240615969168004511545033772483698474358, 240615969168004511545033772471550468243) := (goU_spec 1024 _ _ 7168 wk7 ws7).1
theorem ws9 : w 9216 = (215872848293952797667059038261706108609, 263041826724899848421390153297618474197) := (goD_spec 1024 _ _ 8192 (by decide) (by decide) wk8 ws8).1
theorem ws10 : w 10240 = (189050753882727566157415671269317183057, 282934447697145148265594844358602552466) := (goD_spec 1024 _ _ 9216 (by decide) (by decide) wk9 ws9).1
theorem ws11 : w 11264 = (160407997365957196655387116541075833093, 300102255270364911803307903238660947340) := (goD_spec 1024 _ _ 10240 (by decide) (by decide) wk10 ws10).1
theorem ws12 : w 12288 = (130220424146621615521356287389533852184, 314379914072750776175968445997041138024) := (goD_spec 1024 _ _ 11264 (by decide) (by decide) wk11 ws11).1
theorem ws13 : w 13312 = (98778757057029163154891549996121633199, 325629922445073537381874007149878648288) := (goD_spec 1024 _ _ 12288 (by decide) (by decide) wk12 ws12).1
theorem ws14 : w 14336 = (66385796539016198537004233683115673837, 333743936656827580393945988190765036869) := (goD_spec 1024 _ _ 13312 (by decide) (by decide) wk13 ws13).1
theorem ws15 : w 15360 = (33353504510164655995148692950443506845, 338643814315582355912937410982271427247) := (goD_spec 1024 _ _ 14336 (by decide) (by decide) wk14 ws14).1
theorem ws16 : w 16384 = (17179870747, 340282366920938463463374607431766555032) := (goD_spec 1024 _ _ 15360 (by decide) (by decide) wk15 ws15).1
theorem boxU {r : Nat} (h : r < 8192) : BoxU r := by
  have hq : (0 ≤ r ∧ r < 1024) ∨ (1024 ≤ r ∧ r < 2048) ∨ (2048 ≤ r ∧ r < 3072) ∨ (3072 ≤ r ∧ r < 4096) ∨ (4096 ≤ r ∧ r < 5120) ∨ (5120 ≤ r ∧ r < 6144) ∨ (6144 ≤ r ∧ r < 7168) ∨ (7168 ≤ r ∧ r < 8192) := by omega
  rcases hq with h | h | h | h | h | h | h | h
  · exact (goU_spec 1024 _ _ 0 wk0 ws0).2 r h.1 h.2
  · exact (goU_spec 1024 _ _ 1024 wk1 ws1).2 r h.1 h.2
  · exact (goU_spec 1024 _ _ 2048 wk2 ws2).2 r h.1 h.2
  · exact (goU_spec 1024 _ _ 3072 wk3 ws3).2 r h.1 h.2
  · exact (goU_spec 1024 _ _ 4096 wk4 ws4).2 r h.1 h.2
  · exact (goU_spec 1024 _ _ 5120 wk5 ws5).2 r h.1 h.2
  · exact (goU_spec 1024 _ _ 6144 wk6 ws6).2 r h.1 h.2
  · exact (goU_spec 1024 _ _ 7168 wk7 ws7).2 r h.1 h.2
theorem boxD {r : Nat} (g : 8192 ≤ r) (h : r < 16384) : BoxD r := by
  have hq : (8192 ≤ r ∧ r < 9216) ∨ (9216 ≤ r ∧ r < 10240) ∨ (10240 ≤ r ∧ r < 11264) ∨ (11264 ≤ r ∧ r < 12288) ∨ (12288 ≤ r ∧ r < 13312) ∨ (13312 ≤ r ∧ r < 14336) ∨ (14336 ≤ r ∧ r < 15360) ∨ (15360 ≤ r ∧ r < 16384) := by omega
  rcases hq with h | h | h | h | h | h | h | h
  · exact (goD_spec 1024 _ _ 8192 (by decide) (by decide) wk8 ws8).2 r h.1 h.2
  · exact (goD_spec 1024 _ _ 9216 (by decide) (by decide) wk9 ws9).2 r h.1 h.2
  · exact (goD_spec 1024 _ _ 10240 (by decide) (by decide) wk10 ws10).2 r h.1 h.2
  · exact (goD_spec 1024 _ _ 11264 (by decide) (by decide) wk11 ws11).2 r h.1 h.2
  · exact (goD_spec 1024 _ _ 12288 (by decide) (by decide) wk12 ws12).2 r h.1 h.2
  · exact (goD_spec 1024 _ _ 13312 (by decide) (by decide) wk13 ws13).2 r h.1 h.2
  · exact (goD_spec 1024 _ _ 14336 (by decide) (by decide) wk14 ws14).2 r h.1 h.2
  · exact (goD_spec 1024 _ _ 15360 (by decide) (by decide) wk15 ws15).2 r h.1 h.2
theorem mid0 : (valsK 8192 fun a b c d => bx 240615969168004511545033772471550468243 240615969168004511545033772483698474358 a b c d) = true := by decide +kernel
theorem mid : sLo 8192 * uu ≤ (w 8192).2 ∧ (w 8192).2 ≤ sHi 8192 * uu := by
  have := mid0
  simp only [valsK_eq, bx, Bool.and_eq_true] at this
  rw [ws8]
  exact ⟨Nat.le_of_ble_eq_true this.1, Nat.le_of_ble_eq_true this.2.1⟩
/-- each point lies within its box -/
theorem box {r : Nat} (h : r < 16384) : fLo r * uu ≤ (w r).2 ∧ (w r).2 ≤ fHi r * uu ∧ fLo (16384 - r) * uu ≤ (w r).1 ∧ (w r).1 ≤ fHi (16384 - r) * uu := by
  rcases Nat.lt_or_ge r 8192 with h1 | h1
  · have b := boxU h1
    rw [(fLo_lo (r := r) (by omega)).1, (fLo_lo (r := r) (by omega)).2, (fLo_hi (r := 16384 - r) (by omega)).1, (fLo_hi (r := 16384 - r) (by omega)).2, show 16384 - (16384 - r) = r by omega]
    exact ⟨b.sl, b.sh, b.cl, b.ch⟩
  · have b := boxD h1 h
    rw [(fLo_lo (r := 16384 - r) (by omega)).1, (fLo_lo (r := 16384 - r) (by omega)).2]
    rcases Nat.lt_or_ge 8192 r with h2 | h2
    · rw [(fLo_hi (r := r) (by omega)).1, (fLo_hi (r := r) (by omega)).2]
      exact ⟨b.cl, b.ch, b.sl, b.sh⟩
    · have e : r = 8192 := by omega
      subst e
      rw [(fLo_lo (r := 8192) (by omega)).1, (fLo_lo (r := 8192) (by omega)).2]
      have k := mid
      exact ⟨k.1, k.2, b.sl, b.sh⟩
theorem step_le {r : Nat} (h : r < 16384) : (w r).2 * us ≤ (w r).1 * uc := by
  rcases Nat.lt_or_ge r 8192 with h1 | h1
  · exact (boxU h1).st
  · exact (boxD h1 h).st
end Go.Sx

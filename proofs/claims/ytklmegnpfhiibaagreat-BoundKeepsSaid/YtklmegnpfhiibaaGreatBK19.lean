/- Part 19 of the texts behind the last one: rules and contracts. No condition. -/
import Derived.Test.YtklmegnpfhiibaaGreatBK18
open Bool renaming and_eq_true → vQJ
open Nat renaming eq_of_beq_eq_true → vQU, le_of_ble_eq_true → vZJ
open Go.IntKind renaming wrap → vYW
namespace Go.Sx
def cN (a b:Nat):Nat:=(a + (b - 1)) / b
def d1N (x:Nat):Nat:=x * 6746518852 / 65536
def u1N (x:Nat):Nat:=(x * 6746518853 + 65535) / 65536
def dN (x:Nat):Nat→Nat
 | 0=>1073741824
 | 1=>d1N x
 | k + 2=>dN x (k + 1) * d1N x / 1073741824
def uN (x:Nat):Nat→Nat
 | 0=>1073741824
 | 1=>u1N x
 | k + 2=>(uN x (k + 1) * u1N x + 1073741823) / 1073741824
def sLo (x:Nat):Nat:=((dN x 1 + dN x 5 / 120) - (cN (uN x 3) 6 + cN (uN x 7) 5040)) / 16384
def sHi (x:Nat):Nat:=min 65536 ((((uN x 1 + cN (uN x 5) 120 + cN (uN x 9) 362880) - (dN x 3 / 6 + dN x 7 / 5040)) + 16383) / 16384)
def cLo (x:Nat):Nat:=((1073741824 + dN x 4 / 24 + dN x 8 / 40320) - (cN (uN x 2) 2 + cN (uN x 6) 720 + cN (uN x 10) 3628800)) / 16384
def cHi (x:Nat):Nat:=min 65536 ((((1073741824 + cN (uN x 4) 24 + cN (uN x 8) 40320) - (dN x 2 / 2 + dN x 6 / 720)) + 16383) / 16384)
def fLo (r:Nat):Nat:=if r≤8192 then sLo r else cLo (16384 - r)
def fHi (r:Nat):Nat:=if r≤8192 then sHi r else cHi (16384 - r)
theorem zJK {r:Nat} (h:r≤8192):fLo r=sLo r∧fHi r=sHi r:=⟨if_pos h,if_pos h⟩
theorem zGK {r:Nat} (_:8192 < r):fLo r=cLo (16384 - r)∧fHi r=cHi (16384 - r):=⟨if_neg (by omega),if_neg (by omega)⟩
def frc (n:Nat) (k:Nat→Bool):Bool:=Nat.rec (motive:=fun _=>Bool) (k 0) (fun m _=>k (Nat.succ m)) n
theorem yQC (n:Nat) (k:Nat→Bool):frc n k=k n:=by cases n <;> rfl
def zHF (x:Nat) (K:Nat→Nat→Nat→Nat→Bool):Bool :=
 frc x fun x=>frc (x * 6746518852 / 65536) fun d1=>frc ((x * 6746518853 + 65535) / 65536) fun u1 =>
 frc (d1 * d1 / 1073741824) fun d2=>frc ((u1 * u1 + 1073741823) / 1073741824) fun u2 =>
 frc (d2 * d1 / 1073741824) fun d3=>frc ((u2 * u1 + 1073741823) / 1073741824) fun u3 =>
 frc (d3 * d1 / 1073741824) fun d4=>frc ((u3 * u1 + 1073741823) / 1073741824) fun u4 =>
 frc (d4 * d1 / 1073741824) fun d5=>frc ((u4 * u1 + 1073741823) / 1073741824) fun u5 =>
 frc (d5 * d1 / 1073741824) fun d6=>frc ((u5 * u1 + 1073741823) / 1073741824) fun u6 =>
 frc (d6 * d1 / 1073741824) fun d7=>frc ((u6 * u1 + 1073741823) / 1073741824) fun u7 =>
 frc (d7 * d1 / 1073741824) fun d8=>frc ((u7 * u1 + 1073741823) / 1073741824) fun u8 =>
 frc ((u8 * u1 + 1073741823) / 1073741824) fun u9=>frc ((u9 * u1 + 1073741823) / 1073741824) fun u10 =>
 frc (((d1 + d5 / 120) - ((u3 + 5) / 6 + (u7 + 5039) / 5040)) / 16384) fun slo =>
 frc (min 65536 ((((u1 + (u5 + 119) / 120 + (u9 + 362879) / 362880) - (d3 / 6 + d7 / 5040)) + 16383) / 16384)) fun shi =>
 frc (((1073741824 + d4 / 24 + d8 / 40320) - ((u2 + 1) / 2 + (u6 + 719) / 720 + (u10 + 3628799) / 3628800)) / 16384) fun clo =>
 frc (min 65536 ((((1073741824 + (u4 + 23) / 24 + (u8 + 40319) / 40320) - (d2 / 2 + d6 / 720)) + 16383) / 16384)) fun chi=>K slo shi clo chi
theorem zJH (x:Nat) (K:Nat→Nat→Nat→Nat→Bool):zHF x K=K (sLo x) (sHi x) (cLo x) (cHi x):=by
 unfold zHF;simp only [yQC];rfl
def one (x a b c d:Nat):Bool :=
 Nat.ble a b && (Nat.ble b 65536 && (Nat.ble b (a + 2) && (Nat.ble c d && (Nat.ble d 65536 && (Nat.ble d (c + 2) &&
 (Nat.ble (4 * x) b && (Nat.ble (4 * x) (a + 2) && (Nat.ble a (x * 411775 / 65536 + 1) &&
 (Nat.ble (4 * (16384 - x)) d && (Nat.ble (4 * (16384 - x)) (c + 2) && (Nat.ble c ((16384 - x) * 411775 / 65536 + 1) &&
 (Nat.ble (a * a / 65536 + c * c / 65536) 65536 && Nat.ble 65536 ((b * b + 65535) / 65536 + (d * d + 65535) / 65536)))))))))))))
structure Fst (r:Nat):Prop where
 ord:fLo r≤fHi r
 top:fHi r≤65536
 wid:fHi r≤fLo r + 2
 ch1:4 * r≤fHi r
 ch2:4 * r≤fLo r + 2
 ch3:fLo r≤r * 411775 / 65536 + 1
end Go.Sx
namespace Go.Sx
def nn:Nat:=340282366920938463463374607431768211456
def uu:Nat:=5192296858534827628530496329220096
def uc:Nat:=340282365357037221779282487371359009126
def us:Nat:=32624163282081701561065576601652201
def w:Nat→Nat × Nat
 | 0=>(nn,0)
 | n + 1=>(((w n).1 * uc - (w n).2 * us) / nn,((w n).1 * us + (w n).2 * uc) / nn)
def bx (S C a b c d:Nat):Bool:=Nat.ble (a * 5192296858534827628530496329220096) S && (Nat.ble S (b * 5192296858534827628530496329220096) && (Nat.ble (c * 5192296858534827628530496329220096) C && Nat.ble C (d * 5192296858534827628530496329220096)))
def goU (C' T':Nat):Nat→Nat→Nat→Nat→Bool
 | 0,C,T,_=>Nat.beq C C' && Nat.beq T T'
 | k + 1,C,T,x=>(zHF x fun a b c d=>bx T C a b c d) && (Nat.ble (T * 32624163282081701561065576601652201) (C * 340282365357037221779282487371359009126) && frc ((C * 340282365357037221779282487371359009126 - T * 32624163282081701561065576601652201) / 340282366920938463463374607431768211456) fun C2=>frc ((C * 32624163282081701561065576601652201 + T * 340282365357037221779282487371359009126) / 340282366920938463463374607431768211456) fun T2=>frc (x + 1) fun x2=>goU C' T' k C2 T2 x2)
def goD (C' T':Nat):Nat→Nat→Nat→Nat→Bool
 | 0,C,T,_=>Nat.beq C C' && Nat.beq T T'
 | k + 1,C,T,x=>(zHF x fun a b c d=>bx C T a b c d) && (Nat.ble (T * 32624163282081701561065576601652201) (C * 340282365357037221779282487371359009126) && frc ((C * 340282365357037221779282487371359009126 - T * 32624163282081701561065576601652201) / 340282366920938463463374607431768211456) fun C2=>frc ((C * 32624163282081701561065576601652201 + T * 340282365357037221779282487371359009126) / 340282366920938463463374607431768211456) fun T2=>frc (x - 1) fun x2=>goD C' T' k C2 T2 x2)
structure BoxU (r:Nat):Prop where
 sl:sLo r * uu≤(w r).2
 sh:(w r).2≤sHi r * uu
 cl:cLo r * uu≤(w r).1
 ch:(w r).1≤cHi r * uu
 st:(w r).2 * us≤(w r).1 * uc
structure BoxD (r:Nat):Prop where
 sl:sLo (16384 - r) * uu≤(w r).1
 sh:(w r).1≤sHi (16384 - r) * uu
 cl:cLo (16384 - r) * uu≤(w r).2
 ch:(w r).2≤cHi (16384 - r) * uu
 st:(w r).2 * us≤(w r).1 * uc
theorem uX {C' T':Nat}:∀ k C T x,goU C' T' k C T x=true→w x=(C,T)→w (x + k)=(C',T')∧∀ i,x≤i→i < x + k→BoxU i
 | 0,C,T,x,h,e=>by
  simp only [goU,vQJ] at h;refine ⟨?_,fun i a b=>absurd b (by omega)⟩;rw [Nat.add_zero,e,vQU h.1,vQU h.2]
 | k + 1,C,T,x,h,e=>by
  simp only [goU,yQC,zJH,bx,vQJ] at h;obtain ⟨⟨h1,h2,h3,h4⟩,h5,h6⟩:=h;obtain ⟨q1,q2⟩:=uX k _ _ (x + 1) h6 (by rw [w,e]; rfl);refine ⟨by rw [← q1]; congr 1; omega,fun i a b => ?_⟩;by_cases hi:i=x
  ·subst hi;exact ⟨by rw [e]; exact vZJ h1,by rw [e]; exact vZJ h2,by rw [e]; exact vZJ h3,by rw [e]; exact vZJ h4,by rw [e]; exact vZJ h5⟩
  ·exact q2 i (by omega) (by omega)
theorem qQZ {C' T':Nat}:∀ k C T r,r≤16384→k≤16384 - r→goD C' T' k C T (16384 - r)=true→w r=(C,T)→w (r + k)=(C',T')∧∀ i,r≤i→i < r + k→BoxD i
 | 0,C,T,x,_,_,h,e=>by
  simp only [goD,vQJ] at h;refine ⟨?_,fun i a b=>absurd b (by omega)⟩;rw [Nat.add_zero,e,vQU h.1,vQU h.2]
 | k + 1,C,T,x,g1,g2,h,e=>by
  simp only [goD,yQC,zJH,bx,vQJ] at h;obtain ⟨⟨h1,h2,h3,h4⟩,h5,h6⟩:=h;rw [show 16384 - x - 1=16384 - (x + 1) by omega] at h6;obtain ⟨q1,q2⟩:=qQZ k _ _ (x + 1) (by omega) (by omega) h6 (by rw [w,e]; rfl);refine ⟨by rw [← q1]; congr 1; omega,fun i a b => ?_⟩;by_cases hi:i=x
  ·subst hi;exact ⟨by rw [e]; exact vZJ h1,by rw [e]; exact vZJ h2,by rw [e]; exact vZJ h3,by rw [e]; exact vZJ h4,by rw [e]; exact vZJ h5⟩
  ·exact q2 i (by omega) (by omega)
theorem wk0:goU 338643814315582355912937410983956791763 33353504510164655995148692933346502990 1024 340282366920938463463374607431768211456 0 0=true:=by decide +kernel
theorem wk1:goU 333743936656827580393945988194117882553 66385796539016198537004233666266150132 1024 338643814315582355912937410983956791763 33353504510164655995148692933346502990 1024=true:=by decide +kernel
theorem wk2:goU 325629922445073537381874007154866693371 98778757057029163154891549979681820108 1024 333743936656827580393945988194117882553 66385796539016198537004233666266150132 2048=true:=by decide +kernel
theorem wk3:goU 314379914072750776175968446003616356708 130220424146621615521356287373662035415 1024 325629922445073537381874007154866693371 98778757057029163154891549979681820108 3072=true:=by decide +kernel
theorem wk4:goU 300102255270364911803307903246760032214 160407997365957196655387116525924829546 1024 314379914072750776175968446003616356708 130220424146621615521356287373662035415 4096=true:=by decide +kernel
theorem wk5:goU 282934447697145148265594844368147524013 189050753882727566157415671255032869469 1024 300102255270364911803307903246760032214 160407997365957196655387116525924829546 5120=true:=by decide +kernel
theorem wk6:goU 263041826724899848421390153308517431640 215872848293952797667059038248426017122 1024 282934447697145148265594844368147524013 189050753882727566157415671255032869469 6144=true:=by decide +kernel
theorem wk7:goU 240615969168004511545033772483698474358 240615969168004511545033772471550468243 1024 263041826724899848421390153308517431640 215872848293952797667059038248426017122 7168=true:=by decide +kernel
theorem wk8:goD 215872848293952797667059038261706108609 263041826724899848421390153297618474197 1024 240615969168004511545033772483698474358 240615969168004511545033772471550468243 8192=true:=by decide +kernel
theorem wk9:goD 189050753882727566157415671269317183057 282934447697145148265594844358602552466 1024 215872848293952797667059038261706108609 263041826724899848421390153297618474197 7168=true:=by decide +kernel
theorem wk10:goD 160407997365957196655387116541075833093 300102255270364911803307903238660947340 1024 189050753882727566157415671269317183057 282934447697145148265594844358602552466 6144=true:=by decide +kernel
theorem wk11:goD 130220424146621615521356287389533852184 314379914072750776175968445997041138024 1024 160407997365957196655387116541075833093 300102255270364911803307903238660947340 5120=true:=by decide +kernel
theorem wk12:goD 98778757057029163154891549996121633199 325629922445073537381874007149878648288 1024 130220424146621615521356287389533852184 314379914072750776175968445997041138024 4096=true:=by decide +kernel
theorem wk13:goD 66385796539016198537004233683115673837 333743936656827580393945988190765036869 1024 98778757057029163154891549996121633199 325629922445073537381874007149878648288 3072=true:=by decide +kernel
theorem wk14:goD 33353504510164655995148692950443506845 338643814315582355912937410982271427247 1024 66385796539016198537004233683115673837 333743936656827580393945988190765036869 2048=true:=by decide +kernel
theorem wk15:goD 17179870747 340282366920938463463374607431766555032 1024 33353504510164655995148692950443506845 338643814315582355912937410982271427247 1024=true:=by decide +kernel
theorem ws0:w 0=(340282366920938463463374607431768211456,0):=rfl
theorem ws1:w 1024=(338643814315582355912937410983956791763,33353504510164655995148692933346502990):=(uX 1024 _ _ 0 wk0 ws0).1
theorem ws2:w 2048=(333743936656827580393945988194117882553,66385796539016198537004233666266150132):=(uX 1024 _ _ 1024 wk1 ws1).1
theorem ws3:w 3072=(325629922445073537381874007154866693371,98778757057029163154891549979681820108):=(uX 1024 _ _ 2048 wk2 ws2).1
theorem ws4:w 4096=(314379914072750776175968446003616356708,130220424146621615521356287373662035415):=(uX 1024 _ _ 3072 wk3 ws3).1
theorem ws5:w 5120=(300102255270364911803307903246760032214,160407997365957196655387116525924829546):=(uX 1024 _ _ 4096 wk4 ws4).1
theorem ws6:w 6144=(282934447697145148265594844368147524013,189050753882727566157415671255032869469):=(uX 1024 _ _ 5120 wk5 ws5).1
theorem ws7:w 7168=(263041826724899848421390153308517431640,215872848293952797667059038248426017122):=(uX 1024 _ _ 6144 wk6 ws6).1
theorem ws8:w 8192=(240615969168004511545033772483698474358,240615969168004511545033772471550468243):=(uX 1024 _ _ 7168 wk7 ws7).1
theorem ws9:w 9216=(215872848293952797667059038261706108609,263041826724899848421390153297618474197):=(qQZ 1024 _ _ 8192 (by decide) (by decide) wk8 ws8).1
theorem ws10:w 10240=(189050753882727566157415671269317183057,282934447697145148265594844358602552466):=(qQZ 1024 _ _ 9216 (by decide) (by decide) wk9 ws9).1
theorem ws11:w 11264=(160407997365957196655387116541075833093,300102255270364911803307903238660947340):=(qQZ 1024 _ _ 10240 (by decide) (by decide) wk10 ws10).1
theorem ws12:w 12288=(130220424146621615521356287389533852184,314379914072750776175968445997041138024):=(qQZ 1024 _ _ 11264 (by decide) (by decide) wk11 ws11).1
theorem ws13:w 13312=(98778757057029163154891549996121633199,325629922445073537381874007149878648288):=(qQZ 1024 _ _ 12288 (by decide) (by decide) wk12 ws12).1
theorem ws14:w 14336=(66385796539016198537004233683115673837,333743936656827580393945988190765036869):=(qQZ 1024 _ _ 13312 (by decide) (by decide) wk13 ws13).1
theorem ws15:w 15360=(33353504510164655995148692950443506845,338643814315582355912937410982271427247):=(qQZ 1024 _ _ 14336 (by decide) (by decide) wk14 ws14).1
theorem boxU {r:Nat} (h:r < 8192):BoxU r:=by
 have hq:(0≤r∧r < 1024) ∨ (1024≤r∧r < 2048) ∨ (2048≤r∧r < 3072) ∨ (3072≤r∧r < 4096) ∨ (4096≤r∧r < 5120) ∨ (5120≤r∧r < 6144) ∨ (6144≤r∧r < 7168) ∨ (7168≤r∧r < 8192):=by omega
 rcases hq with h | h | h | h | h | h | h | h
 ·exact (uX 1024 _ _ 0 wk0 ws0).2 r h.1 h.2
 ·exact (uX 1024 _ _ 1024 wk1 ws1).2 r h.1 h.2
 ·exact (uX 1024 _ _ 2048 wk2 ws2).2 r h.1 h.2
 ·exact (uX 1024 _ _ 3072 wk3 ws3).2 r h.1 h.2
 ·exact (uX 1024 _ _ 4096 wk4 ws4).2 r h.1 h.2
 ·exact (uX 1024 _ _ 5120 wk5 ws5).2 r h.1 h.2
 ·exact (uX 1024 _ _ 6144 wk6 ws6).2 r h.1 h.2
 ·exact (uX 1024 _ _ 7168 wk7 ws7).2 r h.1 h.2
theorem boxD {r:Nat} (g:8192≤r) (h:r < 16384):BoxD r:=by
 have hq:(8192≤r∧r < 9216) ∨ (9216≤r∧r < 10240) ∨ (10240≤r∧r < 11264) ∨ (11264≤r∧r < 12288) ∨ (12288≤r∧r < 13312) ∨ (13312≤r∧r < 14336) ∨ (14336≤r∧r < 15360) ∨ (15360≤r∧r < 16384):=by omega
 rcases hq with h | h | h | h | h | h | h | h
 ·exact (qQZ 1024 _ _ 8192 (by decide) (by decide) wk8 ws8).2 r h.1 h.2
 ·exact (qQZ 1024 _ _ 9216 (by decide) (by decide) wk9 ws9).2 r h.1 h.2
 ·exact (qQZ 1024 _ _ 10240 (by decide) (by decide) wk10 ws10).2 r h.1 h.2
 ·exact (qQZ 1024 _ _ 11264 (by decide) (by decide) wk11 ws11).2 r h.1 h.2
 ·exact (qQZ 1024 _ _ 12288 (by decide) (by decide) wk12 ws12).2 r h.1 h.2
 ·exact (qQZ 1024 _ _ 13312 (by decide) (by decide) wk13 ws13).2 r h.1 h.2
 ·exact (qQZ 1024 _ _ 14336 (by decide) (by decide) wk14 ws14).2 r h.1 h.2
 ·exact (qQZ 1024 _ _ 15360 (by decide) (by decide) wk15 ws15).2 r h.1 h.2
theorem mid0:(zHF 8192 fun a b c d=>bx 240615969168004511545033772471550468243 240615969168004511545033772483698474358 a b c d)=true:=by decide +kernel
theorem mid:sLo 8192 * uu≤(w 8192).2∧(w 8192).2≤sHi 8192 * uu:=by
 have:=mid0
 simp only [zJH,bx,vQJ] at this;rw [ws8];exact ⟨vZJ this.1,vZJ this.2.1⟩
theorem box {r:Nat} (h:r < 16384):fLo r * uu≤(w r).2∧(w r).2≤fHi r * uu∧fLo (16384 - r) * uu≤(w r).1∧(w r).1≤fHi (16384 - r) * uu:=by
 rcases Nat.lt_or_ge r 8192 with h1 | h1
 ·have b:=boxU h1;rw [(zJK (r:=r) (by omega)).1,(zJK (r:=r) (by omega)).2,(zGK (r:=16384 - r) (by omega)).1,(zGK (r:=16384 - r) (by omega)).2,show 16384 - (16384 - r)=r by omega];exact ⟨b.sl,b.sh,b.cl,b.ch⟩
 ·have b:=boxD h1 h;rw [(zJK (r:=16384 - r) (by omega)).1,(zJK (r:=16384 - r) (by omega)).2];rcases Nat.lt_or_ge 8192 r with h2 | h2
  ·rw [(zGK (r:=r) (by omega)).1,(zGK (r:=r) (by omega)).2];exact ⟨b.cl,b.ch,b.sl,b.sh⟩
  ·have e:r=8192:=by omega
   subst e;rw [(zJK (r:=8192) (by omega)).1,(zJK (r:=8192) (by omega)).2];have k:=mid;exact ⟨k.1,k.2,b.sl,b.sh⟩
end Go.Sx
namespace Go.Sx
def WC (r:Nat):Int:=((w r).1:Int)
def WT (r:Nat):Int:=((w r).2:Int)
theorem w0:WC 0=(340282366920938463463374607431768211456:Int)∧WT 0=0:=⟨rfl,rfl⟩
end Go.Sx
namespace Go.Sx
structure In (I:Iv) (m x:Int):Prop where
 lo:I.lo * m≤x
 hi:x≤I.hi * m
def Ok (a:Iv):Prop:=-2147483648≤a.lo∧a.lo≤a.hi∧a.hi≤2147483648
end Go.Sx
namespace Go.Sx
structure V3 where
 x:Iv
 y:Iv
 z:Iv
structure M3 where
 x:V3
 y:V3
 z:V3
structure Po where
 r:M3
 t:V3
structure Z3 where
 x:Int
 y:Int
 z:Int
def z3 (v:Z3):Value:=.agg #[.int .i64 v.x,.int .i64 v.y,.int .i64 v.z]
def v3 (v:V3):Value:=.agg #[.int .i64 v.x.lo,.int .i64 v.x.hi,.int .i64 v.y.lo,.int .i64 v.y.hi,.int .i64 v.z.lo,.int .i64 v.z.hi]
def m3 (v:M3):Value:=.agg #[.int .i64 v.x.x.lo,.int .i64 v.x.x.hi,.int .i64 v.x.y.lo,.int .i64 v.x.y.hi,.int .i64 v.x.z.lo,.int .i64 v.x.z.hi,
 .int .i64 v.y.x.lo,.int .i64 v.y.x.hi,.int .i64 v.y.y.lo,.int .i64 v.y.y.hi,.int .i64 v.y.z.lo,.int .i64 v.y.z.hi,
 .int .i64 v.z.x.lo,.int .i64 v.z.x.hi,.int .i64 v.z.y.lo,.int .i64 v.z.y.hi,.int .i64 v.z.z.lo,.int .i64 v.z.z.hi]
def V3.of (p:Z3):V3:=⟨Iv.of p.x,Iv.of p.y,Iv.of p.z⟩
def V3.add (a b:V3):V3:=⟨Iv.add a.x b.x,Iv.add a.y b.y,Iv.add a.z b.z⟩
def V3.sub (a b:V3):V3:=⟨Iv.sub a.x b.x,Iv.sub a.y b.y,Iv.sub a.z b.z⟩
def V3.neg (a:V3):V3:=⟨Iv.neg a.x,Iv.neg a.y,Iv.neg a.z⟩
def V3.within (a b:V3):Bool:=Iv.within a.x b.x && Iv.within a.y b.y && Iv.within a.z b.z
def V3.dot (a b:V3):Iv:=Iv.add (Iv.add (Iv.mul a.x b.x) (Iv.mul a.y b.y)) (Iv.mul a.z b.z)
def M3.apply (m:M3) (v:V3):V3:=⟨V3.dot m.x v,V3.dot m.y v,V3.dot m.z v⟩
def limI (x:Int):Int:=min (max x (-65536)) 65536
def limV (a:Iv):Iv:=⟨limI a.lo,limI a.hi⟩
def M3.tr (m:M3):M3:=⟨⟨m.x.x,m.y.x,m.z.x⟩,⟨m.x.y,m.y.y,m.z.y⟩,⟨m.x.z,m.y.z,m.z.z⟩⟩
def M3.row (a:V3) (b:M3):V3:=⟨limV (V3.dot a b.tr.x),limV (V3.dot a b.tr.y),limV (V3.dot a b.tr.z)⟩
def M3.mul (a b:M3):M3:=⟨M3.row a.x b,M3.row a.y b,M3.row a.z b⟩
def M3.within (a b:M3):Bool:=V3.within a.x b.x && V3.within a.y b.y && V3.within a.z b.z
def iv0:Iv:=⟨0,0⟩
def iv1:Iv:=⟨65536,65536⟩
def M3.unit:M3:=⟨⟨iv1,iv0,iv0⟩,⟨iv0,iv1,iv0⟩,⟨iv0,iv0,iv1⟩⟩
def M3.zero:M3:=⟨⟨iv0,iv0,iv0⟩,⟨iv0,iv0,iv0⟩,⟨iv0,iv0,iv0⟩⟩
end Go.Sx
namespace Go.Sx
def V3.zero:V3:=⟨iv0,iv0,iv0⟩
def Po.shift (v:V3):Po:=⟨M3.unit,v⟩
def Po.rest:Po:=⟨M3.unit,V3.zero⟩
def Po.app (p:Po) (v:V3):V3:=V3.add p.t (M3.apply p.r v)
def Po.mul (p q:Po):Po:=⟨M3.mul p.r q.r,Po.app p q.t⟩
def Po.inv (p:Po):Po:=⟨M3.tr p.r,V3.neg (M3.apply (M3.tr p.r) p.t)⟩
def Po.within (p q:Po):Bool:=M3.within p.r q.r && V3.within p.t q.t
end Go.Sx
namespace Go.Sx
structure J where
 name:ByteArray
 kind:Int
 parent:Int
 off:Z3
 lo:Int
 hi:Int
 weight:Int
 speed:Int
 accel:Int
 torque:Int
def z3c (v:Z3):List Value:=[.int .i64 v.x,.int .i64 v.y,.int .i64 v.z]
theorem zGE (l:List Z3):∀ r ∈ l.map z3c,r.length=3:=fun r hr=>by
 obtain ⟨v,_,rfl⟩:=List.mem_map.1 hr;rfl
structure Ms where
 link:Int
 mass:Int
 p:Z3
structure Sp where
 link:Int
 radius:Int
 pts:List Z3
end Go.Sx
namespace Go.Sx
open Go.RowKit
structure Cn where
 kind:Int
 link:Int
 p:Z3
 n:Z3
 lo:Int
 hi:Int
section
variable {nf:Int→Int→Int→Z3} {L:List Int} {m:Int} {k q:Nat} {l:List Cn} {a0 a1 a2 a3 a4 a5 a6 a7 a8 a9 b0 b1:Int} {z:Z3}
end
end Go.Sx
namespace Go.Sx
def ivc (v:Iv):List Value:=[.int .i64 v.lo,.int .i64 v.hi]
theorem zQV (l:List Iv):∀ r ∈ l.map ivc,r.length=2:=fun r hr=>by
 obtain ⟨v,_,rfl⟩:=List.mem_map.1 hr;rfl
end Go.Sx
namespace Go.Sx
section
variable {P:Program} {w0:Base} {S:yY} {H:Heap} {d:Option Tmp} {ty:TypeId} {pos:String} {af:Array Edge} {g:Option (Nat × Bool)}
end
def V3.put (k:Int) (a:Iv):V3:=if k=0 then ⟨a,iv0,iv0⟩ else if k=1 then ⟨iv0,a,iv0⟩ else ⟨iv0,iv0,a⟩
end Go.Sx
namespace Go.Sx
def pc (p:Po):List Value:=[.int .i64 p.r.x.x.lo,.int .i64 p.r.x.x.hi,.int .i64 p.r.x.y.lo,.int .i64 p.r.x.y.hi,.int .i64 p.r.x.z.lo,.int .i64 p.r.x.z.hi,.int .i64 p.r.y.x.lo,.int .i64 p.r.y.x.hi,.int .i64 p.r.y.y.lo,.int .i64 p.r.y.y.hi,.int .i64 p.r.y.z.lo,.int .i64 p.r.y.z.hi,.int .i64 p.r.z.x.lo,.int .i64 p.r.z.x.hi,.int .i64 p.r.z.y.lo,.int .i64 p.r.z.y.hi,.int .i64 p.r.z.z.lo,.int .i64 p.r.z.z.hi,.int .i64 p.t.x.lo,.int .i64 p.t.x.hi,.int .i64 p.t.y.lo,.int .i64 p.t.y.hi,.int .i64 p.t.z.lo,.int .i64 p.t.z.hi]
end Go.Sx
namespace Go.Proofs.YtklmegnpfhiibaaGreat.Od
open Go.Rx Rt Go.Sx Go.RowKit
def F_b:Bool→Option (Ret × Mem):=fun v=>some (.v (.b v),[])
def limK (k:Int):Int:=if k=1 ∨ k=2 ∨ k=3 then 524288 else if k=4 ∨ k=5 ∨ k=6 then 4194304 else 0
def jp (j:J):List PV:=[.s j.name,.n .i64 j.kind,.n .i64 j.parent,.n .i64 j.off.x,.n .i64 j.off.y,.n .i64 j.off.z,.n .i64 j.lo,.n .i64 j.hi,.n .i64 j.weight,.n .i64 j.speed,.n .i64 j.accel,.n .i64 j.torque]
def mp (m:Ms):List PV:=[.n .i64 m.link,.n .i64 m.mass,.n .i64 m.p.x,.n .i64 m.p.y,.n .i64 m.p.z]
def cp (c:Cn):List PV:=[.n .i64 c.kind,.n .i64 c.link,.n .i64 c.p.x,.n .i64 c.p.y,.n .i64 c.p.z,.n .i64 c.n.x,.n .i64 c.n.y,.n .i64 c.n.z,.n .i64 c.lo,.n .i64 c.hi]
def F_n:Int→Option (Ret × Mem):=fun v=>some (.v (.n .i64 v),[])
def JF (i:Int) (j:J):Prop:=(0≤j.kind∧j.kind≤6)∧(-1≤j.parent∧j.parent < i)∧(-4194304≤j.off.x∧j.off.x≤4194304)∧(-4194304≤j.off.y∧j.off.y≤4194304)∧(-4194304≤j.off.z∧j.off.z≤4194304)∧(j.lo≤j.hi ∧ -limK j.kind≤j.lo∧j.hi≤limK j.kind) ∧
  (1≤j.weight∧j.weight≤1024)∧(1≤j.speed∧j.speed≤1048576)∧(1≤j.accel∧j.accel≤1048576)∧(1≤j.torque∧j.torque≤1099511627776)
def cjT {α:Type} (f:Int→α) (i:Int) (j:J):α:=(bif (decide (j.kind < 0)) then (f 803) else (bif (decide (6 < j.kind)) then (f 803) else (bif (decide (j.parent < (-1))) then (f 804) else (bif (decide (i≤j.parent)) then (f 804) else (bif (decide (j.off.x < (-4194304))) then (f 805) else (bif (decide (4194304 < j.off.x)) then (f 805) else (bif (decide (j.off.y < (-4194304))) then (f 805) else (bif (decide (4194304 < j.off.y)) then (f 805) else (bif (decide (j.off.z < (-4194304))) then (f 805) else (bif (decide (4194304 < j.off.z)) then (f 805) else (bif (decide (j.kind=0)) then (bif (decide (j.hi < j.lo)) then (f 806) else (bif (decide (j.lo < 0)) then (f 806) else (bif (decide (0 < j.hi)) then (f 806) else (bif (decide (1≤j.weight)) then (bif (decide (j.weight≤1024)) then (bif (decide (1≤j.speed)) then (bif (decide (j.speed≤1048576)) then (bif (decide (1≤j.accel)) then (bif (decide (j.accel≤1048576)) then (bif (decide (1≤j.torque)) then (bif (decide (j.torque≤1099511627776)) then (f 0) else (f 807)) else (f 807)) else (f 807)) else (f 807)) else (f 807)) else (f 807)) else (f 807)) else (f 807))))) else (bif (decide (j.kind=1)) then (bif (decide (j.hi < j.lo)) then (f 806) else (bif (decide (j.lo < (-524288))) then (f 806) else (bif (decide (524288 < j.hi)) then (f 806) else (bif (decide (1≤j.weight)) then (bif (decide (j.weight≤1024)) then (bif (decide (1≤j.speed)) then (bif (decide (j.speed≤1048576)) then (bif (decide (1≤j.accel)) then (bif (decide (j.accel≤1048576)) then (bif (decide (1≤j.torque)) then (bif (decide (j.torque≤1099511627776)) then (f 0) else (f 807)) else (f 807)) else (f 807)) else (f 807)) else (f 807)) else (f 807)) else (f 807)) else (f 807))))) else (bif (decide (j.kind=2)) then (bif (decide (j.hi < j.lo)) then (f 806) else (bif (decide (j.lo < (-524288))) then (f 806) else (bif (decide (524288 < j.hi)) then (f 806) else (bif (decide (1≤j.weight)) then (bif (decide (j.weight≤1024)) then (bif (decide (1≤j.speed)) then (bif (decide (j.speed≤1048576)) then (bif (decide (1≤j.accel)) then (bif (decide (j.accel≤1048576)) then (bif (decide (1≤j.torque)) then (bif (decide (j.torque≤1099511627776)) then (f 0) else (f 807)) else (f 807)) else (f 807)) else (f 807)) else (f 807)) else (f 807)) else (f 807)) else (f 807))))) else (bif (decide (j.kind=3)) then (bif (decide (j.hi < j.lo)) then (f 806) else (bif (decide (j.lo < (-524288))) then (f 806) else (bif (decide (524288 < j.hi)) then (f 806) else (bif (decide (1≤j.weight)) then (bif (decide (j.weight≤1024)) then (bif (decide (1≤j.speed)) then (bif (decide (j.speed≤1048576)) then (bif (decide (1≤j.accel)) then (bif (decide (j.accel≤1048576)) then (bif (decide (1≤j.torque)) then (bif (decide (j.torque≤1099511627776)) then (f 0) else (f 807)) else (f 807)) else (f 807)) else (f 807)) else (f 807)) else (f 807)) else (f 807)) else (f 807))))) else (bif (decide (j.hi < j.lo)) then (f 806) else (bif (decide (j.lo < (-4194304))) then (f 806) else (bif (decide (4194304 < j.hi)) then (f 806) else (bif (decide (1≤j.weight)) then (bif (decide (j.weight≤1024)) then (bif (decide (1≤j.speed)) then (bif (decide (j.speed≤1048576)) then (bif (decide (1≤j.accel)) then (bif (decide (j.accel≤1048576)) then (bif (decide (1≤j.torque)) then (bif (decide (j.torque≤1099511627776)) then (f 0) else (f 807)) else (f 807)) else (f 807)) else (f 807)) else (f 807)) else (f 807)) else (f 807)) else (f 807)))))))))))))))))))
theorem cjT_ok {α:Type} (f:Int→α) {i:Int} {j:J} (h:JF i j):cjT f i j=f 0:=by
 obtain ⟨h1,h2,h3,h4,h5,h6,h7,h8,h9,h10⟩:=h;have a0:decide (j.kind < 0)=false:=vYJ (by omega);have a1:decide (6 < j.kind)=false:=vYJ (by omega);have a2:decide (j.parent < (-1))=false:=vYJ (by omega);have a3:decide (i≤j.parent)=false:=vYJ (by omega);have a4:decide (j.off.x < (-4194304))=false:=vYJ (by omega);have a5:decide (4194304 < j.off.x)=false:=vYJ (by omega);have a6:decide (j.off.y < (-4194304))=false:=vYJ (by omega);have a7:decide (4194304 < j.off.y)=false:=vYJ (by omega);have a8:decide (j.off.z < (-4194304))=false:=vYJ (by omega);have a9:decide (4194304 < j.off.z)=false:=vYJ (by omega);have a10:decide (j.hi < j.lo)=false:=vYJ (by omega);have b0:decide (1≤j.weight)=true:=vYK (by omega);have b1:decide (j.weight≤1024)=true:=vYK (by omega);have b2:decide (1≤j.speed)=true:=vYK (by omega);have b3:decide (j.speed≤1048576)=true:=vYK (by omega);have b4:decide (1≤j.accel)=true:=vYK (by omega);have b5:decide (j.accel≤1048576)=true:=vYK (by omega);have b6:decide (1≤j.torque)=true:=vYK (by omega);have b7:decide (j.torque≤1099511627776)=true:=vYK (by omega);unfold cjT;rcases (by omega:j.kind=0 ∨ j.kind=1 ∨ j.kind=2 ∨ j.kind=3 ∨ 4≤j.kind) with h | h | h | h | h
 ·have hm:limK j.kind=0:=by unfold limK; rw [if_neg (by omega),if_neg (by omega)]
  rw [hm] at h6;have c0:decide (j.lo < 0)=false:=vYJ (by omega);have c1:decide (0 < j.hi)=false:=vYJ (by omega);simp only [a0,a1,a2,a3,a4,a5,a6,a7,a8,a9,a10,b0,b1,b2,b3,b4,b5,b6,b7,c0,c1,vYK h,vYZ,vYY]
 ·have hm:limK j.kind=524288:=by unfold limK; rw [if_pos (by omega)]
  rw [hm] at h6;have c0:decide (j.lo < (-524288))=false:=vYJ (by omega);have c1:decide (524288 < j.hi)=false:=vYJ (by omega);simp only [a0,a1,a2,a3,a4,a5,a6,a7,a8,a9,a10,b0,b1,b2,b3,b4,b5,b6,b7,c0,c1,vYJ (show ¬ j.kind=0 by omega),vYK h,vYZ,vYY]
 ·have hm:limK j.kind=524288:=by unfold limK; rw [if_pos (by omega)]
  rw [hm] at h6;have c0:decide (j.lo < (-524288))=false:=vYJ (by omega);have c1:decide (524288 < j.hi)=false:=vYJ (by omega);simp only [a0,a1,a2,a3,a4,a5,a6,a7,a8,a9,a10,b0,b1,b2,b3,b4,b5,b6,b7,c0,c1,vYJ (show ¬ j.kind=0 by omega),vYJ (show ¬ j.kind=1 by omega),vYK h,vYZ,vYY]
 ·have hm:limK j.kind=524288:=by unfold limK; rw [if_pos (by omega)]
  rw [hm] at h6;have c0:decide (j.lo < (-524288))=false:=vYJ (by omega);have c1:decide (524288 < j.hi)=false:=vYJ (by omega);simp only [a0,a1,a2,a3,a4,a5,a6,a7,a8,a9,a10,b0,b1,b2,b3,b4,b5,b6,b7,c0,c1,vYJ (show ¬ j.kind=0 by omega),vYJ (show ¬ j.kind=1 by omega),vYJ (show ¬ j.kind=2 by omega),vYK h,vYZ,vYY]
 ·have hm:limK j.kind=4194304:=by unfold limK; rw [if_neg (by omega),if_pos (by omega)]
  rw [hm] at h6;have c0:decide (j.lo < (-4194304))=false:=vYJ (by omega);have c1:decide (4194304 < j.hi)=false:=vYJ (by omega);simp only [a0,a1,a2,a3,a4,a5,a6,a7,a8,a9,a10,b0,b1,b2,b3,b4,b5,b6,b7,c0,c1,vYJ (show ¬ j.kind=0 by omega),vYJ (show ¬ j.kind=1 by omega),vYJ (show ¬ j.kind=2 by omega),vYJ (show ¬ j.kind=3 by omega),vYZ,vYY]
end Go.Proofs.YtklmegnpfhiibaaGreat.Od
namespace Go.Proofs.YtklmegnpfhiibaaGreat.Na
open Go.Rx Rt Go.Sx Go.RowKit Od
def okC (first:Bool) (c:Int):Bool:=(decide (97≤c) && decide (c≤122)) || (!first && ((decide (48≤c) && decide (c≤57)) || decide (c=95)))
def allC (s:ByteArray):Nat→Nat→Bool
 | 0,_=>true
 | k + 1,p=>okC (decide ((p:Int)=0)) (qGL s p) && allC s k (p + 1)
def wrld:ByteArray:=ByteArray.mk #[119,111,114,108,100]
def nmB (s:ByteArray):Bool:=!(decide ((s.size:Int)=0)) && (!(decide (16 < (s.size:Int))) && (!(s.toList == wrld.toList) && allC s s.size 0))
theorem okC_high {f:Bool} {c:Int} (_:128≤c):okC f c=false:=by
 unfold okC;rw [vYJ (show ¬ c≤122 by omega),vYJ (show ¬ c≤57 by omega),vYJ (show ¬ c=95 by omega)]
 simp
theorem byteAt_get {s:ByteArray} {p:Nat} (h:p < s.size):qGL s p=((s[p]'h).toNat:Int):=by
 unfold qGL;rw [getElem?_pos s p h];rfl
def hTn (s:ByteArray) (pos:Nat):St:=⟨[(18,.p 18 0)],[(18,.itr s pos)]⟩
def yJJ {α:Type} (first:Bool) (c:Int) (g k:α):α:=(bif (decide (97≤c)) then (bif (decide (c≤122)) then g else (bif first then k else (bif (decide (48≤c)) then (bif (decide (c≤57)) then g else (bif (!decide (c=95)) then k else g)) else (bif (!decide (c=95)) then k else g)))) else (bif first then k else (bif (decide (48≤c)) then (bif (decide (c≤57)) then g else (bif (!decide (c=95)) then k else g)) else (bif (!decide (c=95)) then k else g))))
theorem rawTn_eq {α:Type} (first:Bool) (c:Int) (g k:α):yJJ first c g k=bif okC first c then g else k:=by
 unfold yJJ okC;cases first <;> cases hA:decide (97≤c) <;> cases hB:decide (c≤122) <;> cases hC:decide (48≤c) <;> cases hD:decide (c≤57) <;> cases hE:decide (c=95) <;> first | rfl | (exfalso; simp only [decide_eq_true_eq,decide_eq_false_iff_not] at *; omega)
set_option maxRecDepth 100000 in
theorem rdTn (G:St→Option (Ret × Mem)) (K:Cont) (s:ByteArray) (pos:Nat):qJD 60 (cxF T (OrL.k ([]:OrL)) 60 88 (ntmF T 88)) (ckF T (OrL.k ([]:OrL)) 60) (qZ T 88 [0,1,0,1,1]) (fun e τ=>match e with
 | .normal=>G (qZB ((cxF T (OrL.k ([]:OrL)) 60 88 (ntmF T 88)).T.hint (cxF T (OrL.k ([]:OrL)) 60 88 (ntmF T 88)).me (zZ (qZ T 88 [0,1,0,1,1]))) τ)
 | e=>K e (qQE ((cxF T (OrL.k ([]:OrL)) 60 88 (ntmF T 88)).T.hint (cxF T (OrL.k ([]:OrL)) 60 88 (ntmF T 88)).me (zZ (qZ T 88 [0,1,0,1,1]))) τ)) (hTn s pos) =
 bif (decide (pos < s.size)) then yJJ (decide ((pos:Int)=0)) ((Utf8.decode s pos).1:Int) (G (hTn s (pos + (Utf8.decode s pos).2))) (K .ret ⟨[(2,.v (.b false))],[]⟩) else (K (.exit 0) ⟨[],[]⟩):=by kernel_rfl
theorem lpTn (K:Cont) (s:ByteArray):∀ (k p m:Nat),p + k=s.size→k < m→LF 60 (cxF T (OrL.k ([]:OrL)) 60 88 (ntmF T 88)) (ckF T (OrL.k ([]:OrL)) 60) (qZ T 88 [0,1,0,1,1]) ((cxF T (OrL.k ([]:OrL)) 60 88 (ntmF T 88)).T.hint (cxF T (OrL.k ([]:OrL)) 60 88 (ntmF T 88)).me (zZ (qZ T 88 [0,1,0,1,1]))) K m (hTn s p)=bif allC s k p then (K (.exit 0) ⟨[],[]⟩) else (K .ret ⟨[(2,.v (.b false))],[]⟩)
 | 0,p,m + 1,hp,hm=>by
  refine (rdTn (fun σ=>LF 60 (cxF T (OrL.k ([]:OrL)) 60 88 (ntmF T 88)) (ckF T (OrL.k ([]:OrL)) 60) (qZ T 88 [0,1,0,1,1]) ((cxF T (OrL.k ([]:OrL)) 60 88 (ntmF T 88)).T.hint (cxF T (OrL.k ([]:OrL)) 60 88 (ntmF T 88)).me (zZ (qZ T 88 [0,1,0,1,1]))) K m σ) K s p).trans ?_;rw [vYJ (show ¬ p < s.size by omega)];rfl
 | k + 1,p,m + 1,hp,hm=>by
  refine (rdTn (fun σ=>LF 60 (cxF T (OrL.k ([]:OrL)) 60 88 (ntmF T 88)) (ckF T (OrL.k ([]:OrL)) 60) (qZ T 88 [0,1,0,1,1]) ((cxF T (OrL.k ([]:OrL)) 60 88 (ntmF T 88)).T.hint (cxF T (OrL.k ([]:OrL)) 60 88 (ntmF T 88)).me (zZ (qZ T 88 [0,1,0,1,1]))) K m σ) K s p).trans ?_;have hlt:p < s.size:=by omega
  rw [vYK hlt,vYZ,rawTn_eq];simp only [allC];have hb:=byteAt_get hlt;by_cases h128:(s[p]'hlt).toNat < 128
  ·rw [Go.decode_ascii s p hlt h128,hb];rw [lpTn K s k (p + 1) m (by omega) (by omega)];cases okC (decide ((p:Int)=0)) ((s[p]'hlt).toNat:Int) <;> rfl
  ·have hd:=(Go.decode_high s p hlt (by omega)).1;rw [okC_high (c:=((Utf8.decode s p).1:Int)) (by omega),okC_high (c:=qGL s p) (by omega)];rfl
set_option maxRecDepth 100000 in
theorem pxTn (s:ByteArray):qWK T (OrL.k ([]:OrL)) (qY [([0,1,0,1,1],kW (hTn s 0) (fun K=>bif decide (16 < (s.size:Int)) then none else (bif allC s s.size 0 then (K (.exit 0) ⟨[],[]⟩) else (K .ret ⟨[(2,.v (.b false))],[]⟩))))]) 60 88 [.s s] =
 (bif (decide ((s.size:Int)=0)) then some (.v (.b false),[]) else (bif (decide (16 < (s.size:Int))) then some (.v (.b false),[]) else (bif (s.toList == (ByteArray.mk #[119,111,114,108,100]).toList) then some (.v (.b false),[]) else (bif gSt (hTn s 0) (hTn s 0) then (bif decide (16 < (s.size:Int)) then none else (bif allC s s.size 0 then some (.v (.b true),[]) else some (.v (.b false),[]))) else none)))):=by kernel_rfl
theorem snd_Tn (s:ByteArray):zY Tryz.prog 88 [.s s] (.v (.b (nmB s))):=by
 refine uY (N:=60) (LO:=qY [([0,1,0,1,1],kW (hTn s 0) (fun K=>bif decide (16 < (s.size:Int)) then none else (bif allC s s.size 0 then (K (.exit 0) ⟨[],[]⟩) else (K .ret ⟨[(2,.v (.b false))],[]⟩))))]) qZF yH (OrL.ok (l:=[]) trivial) (fun p S hp => ?_) ?_
 ·refine qQV (L:=qZ T 88) (l:=[([0,1,0,1,1],kW (hTn s 0) (fun K=>bif decide (16 < (s.size:Int)) then none else (bif allC s s.size 0 then (K (.exit 0) ⟨[],[]⟩) else (K .ret ⟨[(2,.v (.b false))],[]⟩))))]) (show AllP _ [([0,1,0,1,1],kW (hTn s 0) (fun K=>bif decide (16 < (s.size:Int)) then none else (bif allC s s.size 0 then (K (.exit 0) ⟨[],[]⟩) else (K .ret ⟨[(2,.v (.b false))],[]⟩))))] from ⟨qYZ fun K r hr => ?_,trivial⟩) p S hp;cases hq:decide (16 < (s.size:Int)) with
  | true=>rw [hq] at hr; cases hr
  | false =>
   rw [hq] at hr;have h16:=vYX hq;exact (lpTn K s s.size 0 60 (by omega) (by omega)).trans hr
 ·refine (pxTn s).trans ?_;rw [zW,vYZ];show _=some (Ret.v (.b (!(decide ((s.size:Int)=0)) && (!(decide (16 < (s.size:Int))) && (!(s.toList == (ByteArray.mk #[119,111,114,108,100]).toList) && allC s s.size 0)))),[]);cases decide ((s.size:Int)=0) <;> cases decide (16 < (s.size:Int)) <;> cases (s.toList == (ByteArray.mk #[119,111,114,108,100]).toList) <;> cases allC s s.size 0 <;> rfl
def hRn (s:ByteArray) (i:Int):St:=⟨[(0,.v (.s s)),(3,.v (.n .i64 i))],[]⟩
def yJK {α:Type} (b:Bool) (first:Bool) (c:Int) (g k:Option α):Option α:=(bif b then (bif (decide (97≤c)) then (bif b then (bif (decide (c≤122)) then g else (bif first then k else (bif b then (bif (!decide (c=95)) then (bif b then (bif (decide (c < 48)) then k else (bif b then (bif (decide (57 < c)) then k else g) else none)) else none) else g) else none))) else none) else (bif first then k else (bif b then (bif (!decide (c=95)) then (bif b then (bif (decide (c < 48)) then k else (bif b then (bif (decide (57 < c)) then k else g) else none)) else none) else g) else none))) else none)
theorem rawRn_eq {α:Type} (first:Bool) (c:Int) (g k:Option α):yJK true first c g k=bif okC first c then g else k:=by
 unfold yJK okC;rw [show decide (c < 48) = !decide (48≤c) by rw [← decide_not]; exact decide_eq_decide.2 (by omega),show decide (57 < c) = !decide (c≤57) by rw [← decide_not]; exact decide_eq_decide.2 (by omega)];cases first <;> cases hA:decide (97≤c) <;> cases hB:decide (c≤122) <;> cases hC:decide (48≤c) <;> cases hD:decide (c≤57) <;> cases hE:decide (c=95) <;> first | rfl | (exfalso; simp only [decide_eq_true_eq,decide_eq_false_iff_not] at *; omega)
set_option maxRecDepth 100000 in
theorem rdRn (G:St→Option (Ret × Mem)) (K:Cont) (s:ByteArray) (i:Int):qJD 60 (cxF T (OrL.k ([]:OrL)) 60 86 (ntmF T 86)) (ckF T (OrL.k ([]:OrL)) 60) (qZ T 86 [0,1,0,1,1]) (fun e τ=>match e with
 | .normal=>G (qZB ((cxF T (OrL.k ([]:OrL)) 60 86 (ntmF T 86)).T.hint (cxF T (OrL.k ([]:OrL)) 60 86 (ntmF T 86)).me (zZ (qZ T 86 [0,1,0,1,1]))) τ)
 | e=>K e (qQE ((cxF T (OrL.k ([]:OrL)) 60 86 (ntmF T 86)).T.hint (cxF T (OrL.k ([]:OrL)) 60 86 (ntmF T 86)).me (zZ (qZ T 86 [0,1,0,1,1]))) τ)) (hRn s i) =
 bif (decide (i < (s.size:Int))) then yJK (inB i s.size) (decide (i=0)) (qGL s i.toNat) (G (hRn s (vYW .i64 (i + 1)))) (K .ret ⟨[(2,.v (.b false))],[]⟩) else (K (.exit 0) ⟨[],[]⟩):=by kernel_rfl
theorem lpRn (K:Cont) (s:ByteArray) (hs:s.size≤1000):∀ (k p m:Nat),p + k=s.size→k < m→LF 60 (cxF T (OrL.k ([]:OrL)) 60 86 (ntmF T 86)) (ckF T (OrL.k ([]:OrL)) 60) (qZ T 86 [0,1,0,1,1]) ((cxF T (OrL.k ([]:OrL)) 60 86 (ntmF T 86)).T.hint (cxF T (OrL.k ([]:OrL)) 60 86 (ntmF T 86)).me (zZ (qZ T 86 [0,1,0,1,1]))) K m (hRn s p)=bif allC s k p then (K (.exit 0) ⟨[],[]⟩) else (K .ret ⟨[(2,.v (.b false))],[]⟩)
 | 0,p,m + 1,hp,hm=>by
  refine (rdRn (fun σ=>LF 60 (cxF T (OrL.k ([]:OrL)) 60 86 (ntmF T 86)) (ckF T (OrL.k ([]:OrL)) 60) (qZ T 86 [0,1,0,1,1]) ((cxF T (OrL.k ([]:OrL)) 60 86 (ntmF T 86)).T.hint (cxF T (OrL.k ([]:OrL)) 60 86 (ntmF T 86)).me (zZ (qZ T 86 [0,1,0,1,1]))) K m σ) K s p).trans ?_;rw [vYJ (show ¬ (p:Int) < (s.size:Int) by omega)];rfl
 | k + 1,p,m + 1,hp,hm=>by
  refine (rdRn (fun σ=>LF 60 (cxF T (OrL.k ([]:OrL)) 60 86 (ntmF T 86)) (ckF T (OrL.k ([]:OrL)) 60) (qZ T 86 [0,1,0,1,1]) ((cxF T (OrL.k ([]:OrL)) 60 86 (ntmF T 86)).T.hint (cxF T (OrL.k ([]:OrL)) 60 86 (ntmF T 86)).me (zZ (qZ T 86 [0,1,0,1,1]))) K m σ) K s p).trans ?_;have hB:inB (p:Int) s.size=true:=by unfold inB; rw [vYK (show (0:Int)≤p by omega),vYK (show (p:Int).toNat < s.size by omega)]; rfl
  rw [vYK (show (p:Int) < (s.size:Int) by omega),vYZ,hB,rawRn_eq];simp only [allC];rw [show vYW .i64 ((p:Int) + 1)=((p + 1:Nat):Int) by rw [zV (by omega)]; omega,lpRn K s hs k (p + 1) m (by omega) (by omega)];show (bif okC (decide ((p:Int)=0)) (qGL s (p:Int).toNat) then _ else _)=_;rw [show (p:Int).toNat=p by omega];cases okC (decide ((p:Int)=0)) (qGL s p) <;> rfl
set_option maxRecDepth 100000 in
theorem pxRn (s:ByteArray):qWK T (OrL.k ([]:OrL)) (qY [([0,1,0,1,1],kW (hRn s 0) (fun K=>bif decide (16 < (s.size:Int)) then none else (bif allC s s.size 0 then (K (.exit 0) ⟨[],[]⟩) else (K .ret ⟨[(2,.v (.b false))],[]⟩))))]) 60 86 [.s s] =
 (bif (decide ((s.size:Int) < 1)) then some (.v (.b false),[]) else (bif (decide (16 < (s.size:Int))) then some (.v (.b false),[]) else (bif (s.toList == (ByteArray.mk #[119,111,114,108,100]).toList) then some (.v (.b false),[]) else (bif gSt (hRn s 0) (hRn s 0) then (bif decide (16 < (s.size:Int)) then none else (bif allC s s.size 0 then some (.v (.b true),[]) else some (.v (.b false),[]))) else none)))):=by kernel_rfl
theorem snd_Rn (s:ByteArray):zY Tryz.prog 86 [.s s] (.v (.b (nmB s))):=by
 refine uY (N:=60) (LO:=qY [([0,1,0,1,1],kW (hRn s 0) (fun K=>bif decide (16 < (s.size:Int)) then none else (bif allC s s.size 0 then (K (.exit 0) ⟨[],[]⟩) else (K .ret ⟨[(2,.v (.b false))],[]⟩))))]) qZF yH (OrL.ok (l:=[]) trivial) (fun p S hp => ?_) ?_
 ·refine qQV (L:=qZ T 86) (l:=[([0,1,0,1,1],kW (hRn s 0) (fun K=>bif decide (16 < (s.size:Int)) then none else (bif allC s s.size 0 then (K (.exit 0) ⟨[],[]⟩) else (K .ret ⟨[(2,.v (.b false))],[]⟩))))]) (show AllP _ [([0,1,0,1,1],kW (hRn s 0) (fun K=>bif decide (16 < (s.size:Int)) then none else (bif allC s s.size 0 then (K (.exit 0) ⟨[],[]⟩) else (K .ret ⟨[(2,.v (.b false))],[]⟩))))] from ⟨qYZ fun K r hr => ?_,trivial⟩) p S hp;cases hq:decide (16 < (s.size:Int)) with
  | true=>rw [hq] at hr; cases hr
  | false =>
   rw [hq] at hr;have h16:=vYX hq;exact (lpRn K s (by omega) s.size 0 60 (by omega) (by omega)).trans hr
 ·refine (pxRn s).trans ?_;rw [zW,vYZ];rw [show decide ((s.size:Int) < 1)=decide ((s.size:Int)=0) from decide_eq_decide.2 (by omega)];show _=some (Ret.v (.b (!(decide ((s.size:Int)=0)) && (!(decide (16 < (s.size:Int))) && (!(s.toList == (ByteArray.mk #[119,111,114,108,100]).toList) && allC s s.size 0)))),[]);cases decide ((s.size:Int)=0) <;> cases decide (16 < (s.size:Int)) <;> cases (s.toList == (ByteArray.mk #[119,111,114,108,100]).toList) <;> cases allC s s.size 0 <;> rfl
end Go.Proofs.YtklmegnpfhiibaaGreat.Na

/- Part 10 of the texts behind the last one: rules and contracts. No condition. -/
import Derived.Test.YtgmbkkkbfbocnaaGreatGC9
open Option renaming bind_eq_some_iff → vQQ
open Option.some renaming injEq → vQZ
open Prod.mk renaming injEq → vQY
open Bool renaming and_eq_true → vQJ, and_self → vZJ
open List renaming length_cons → vQW, length_nil → vQV, take_succ_cons → vYK, drop_succ_cons → vYU, take_zero → vYX, drop_zero → vYW
open Nat renaming add_right_cancel_iff → vQU, eq_of_beq_eq_true → vQX, le_of_ble_eq_true → vZX
open Go.IntKind renaming wrap → vJJ
namespace Go.Sx
def dn (x:Int):Nat→Int
 | 0=>1073741824
 | 1=>x * 6746518852 / 65536
 | k + 2=>dn x (k + 1) * (x * 6746518852 / 65536) / 1073741824
def up (x:Int):Nat→Int
 | 0=>1073741824
 | 1=>zK (x * 6746518853) 65536
 | k + 2=>zK (up x (k + 1) * zK (x * 6746518853) 65536) 1073741824
theorem step_dn {m t r:Int} (h:r=m * t / 1073741824) (hm:0≤m∧m≤1073741824) (ht:0≤t∧t≤1073741824):0≤r∧r≤1073741824:=by
 subst h;have h1:0≤m * t:=Int.mul_nonneg hm.1 ht.1;have h2:m * t≤1073741824 * 1073741824:=Int.mul_le_mul hm.2 ht.2 ht.1 (by decide);omega
theorem zKW {a b:Int} (hb:0 < b):a≤zK a b * b∧zK a b * b < a + b:=by
 unfold zK;have h1:=Int.ediv_mul_le (-a) (Int.ne_of_gt hb);have h2:=Int.lt_ediv_add_one_mul_self (-a) hb;rw [Int.add_mul] at h2;rw [Int.neg_mul];omega
theorem step_up {m t r:Int} (h:r=zK (m * t) 1073741824) (hm:0≤m∧m≤1073741824) (ht:0≤t∧t≤1073741824):0≤r∧r≤1073741824:=by
 subst h;have h1:0≤m * t:=Int.mul_nonneg hm.1 ht.1;have h2:m * t≤1073741824 * 1073741824:=Int.mul_le_mul hm.2 ht.2 ht.1 (by decide);have h3:=zKW (a:=m * t) (b:=1073741824) (by decide);omega
theorem jQW {x r:Int} (_:r=zK (x * 6746518853) 65536) (_:0≤x∧x≤8192):0≤r∧r≤1073741824:=by
 have h3:=zKW (a:=x * 6746518853) (b:=65536) (by decide);omega
theorem qKH {x:Int} (hx:0≤x∧x≤8192):∀ k,0≤dn x k∧dn x k≤1073741824
 | 0=>by simp [dn]
 | 1=>by simp only [dn]; omega
 | k + 2=>step_dn rfl (qKH hx (k + 1)) (by omega)
theorem qYK {x:Int} (hx:0≤x∧x≤8192):∀ k,0≤up x k∧up x k≤1073741824
 | 0=>by simp [up]
 | 1=>jQW rfl hx
 | k + 2=>step_up rfl (qYK hx (k + 1)) (jQW rfl hx)
def encI (low high:Int):Iv:=⟨max 0 (low / 16384),min 65536 (zK high 16384)⟩
def sinL (x:Int):Int:=dn x 1 - zK (up x 3) 6 + dn x 5 / 120 - zK (up x 7) 5040
def sinU (x:Int):Int:=up x 1 - dn x 3 / 6 + zK (up x 5) 120 - dn x 7 / 5040 + zK (up x 9) 362880
def cosL (x:Int):Int:=1073741824 - zK (up x 2) 2 + dn x 4 / 24 - zK (up x 6) 720 + dn x 8 / 40320 - zK (up x 10) 3628800
def cosU (x:Int):Int:=1073741824 - dn x 2 / 2 + zK (up x 4) 24 - dn x 6 / 720 + zK (up x 8) 40320
def yKG (x:Int):Iv:=encI (sinL x) (sinU x)
def qHJ (x:Int):Iv:=encI (cosL x) (cosU x)
def qJV (r:Int):Iv:=bif decide (r≤8192) then yKG r else qHJ (16384 - r)
def sinM (m:Int):Iv:=bif decide (m / 16384=0) then qJV (m % 16384) else bif decide (m / 16384=1) then qJV (16384 - m % 16384)
 else bif decide (m / 16384=2) then Iv.neg (qJV (m % 16384)) else Iv.neg (qJV (16384 - m % 16384))
def sinI (a:Int):Iv:=sinM (a % 65536)
def cosI (a:Int):Iv:=sinI (a % 65536 + 16384)
def kK (a:Iv) (c:Int):Bool:=decide (a.lo + (c - a.lo) % 65536≤a.hi)
def overI (a:Iv) (low high:Iv) (top bottom:Int):Iv :=
 bif !a.valid then ⟨0,0⟩ else bif decide (65536≤a.hi - a.lo) then ⟨-65536,65536⟩ else
  let x:=Iv.hull low high
  let y:=bif kK a top then Iv.hull x (Iv.of 65536) else x
  bif kK a bottom then Iv.hull y (Iv.of (-65536)) else y
def jH (a:Iv):Iv:=overI a (sinI a.lo) (sinI a.hi) 16384 49152
def kQ (a:Iv):Iv:=overI a (cosI a.lo) (cosI a.hi) 0 32768
theorem ceiling_eq {a b:Int} (_:0≤a) (hb:0 < b):(a + b - 1) / b=zK a b:=by
 refine (zKV hb ?_ ?_).symm
 ·have:=Int.lt_ediv_add_one_mul_self (a + b - 1) hb
  rw [Int.add_mul] at this;omega
 ·have:=Int.ediv_mul_le (a + b - 1) (Int.ne_of_gt hb)
  omega
theorem ceil_nonneg {a b:Int} (ha:0≤a) (hb:0 < b):0≤zK a b∧zK a b≤a:=by
 have h:=zKW (a:=a) hb;constructor
 ·rcases Int.lt_or_le (zK a b) 0 with h1 | h1
  ·have:zK a b * b ≤ -1 * b:=Int.mul_le_mul_of_nonneg_right (by omega) (Int.le_of_lt hb)
   omega
  ·exact h1
 ·rcases Int.lt_or_le a (zK a b) with h1 | h1
  ·have:(a + 1) * b≤zK a b * b:=Int.mul_le_mul_of_nonneg_right (by omega) (Int.le_of_lt hb)
   rw [Int.add_mul] at this;have h3:a * 1≤a * b:=Int.mul_le_mul_of_nonneg_left (by omega) ha;omega
  ·exact h1
theorem yK {r a b:Int} (_:r=zK a b) (ha:0≤a∧a≤1073741824) (hb:0 < b):0≤r∧r≤1073741824:=by
 have:=ceil_nonneg ha.1 hb
 omega
theorem ceil_quo {a b:Int} (ha:0≤a∧a≤1073741824) (hb:0 < b∧b≤1073741824):vJJ .i64 ((a + b - 1).tdiv b)=zK a b:=by
 rw [tdiv_nonneg (by omega) (by omega),ceiling_eq ha.1 hb.1];exact qH (by have:=ceil_nonneg ha.1 hb.1; omega)
theorem round_neg {n k:Int} (hk:0 < k) (h:n.tmod k < 0):n.tmod k + k=n % k:=by
 have e:=Int.tdiv_mul_add_tmod n k;have f:=yYX hk h;have g:=Int.mul_ediv_add_emod n k;rw [← f,Int.mul_comm,Int.sub_mul] at g;omega
theorem round_pos {n k:Int} (hk:0 < k) (h:¬ n.tmod k < 0):n.tmod k=n % k:=by
 have e:=Int.tdiv_mul_add_tmod n k;have f:=floor_pos hk h;have g:=Int.mul_ediv_add_emod n k;rw [← f,Int.mul_comm] at g;omega
end Go.Sx
namespace Go.Sx
def cN (a b:Nat):Nat:=(a + (b - 1)) / b
def d1N (x:Nat):Nat:=x * 6746518852 / 65536
def u1N (x:Nat):Nat:=(x * 6746518853 + 65535) / 65536
def dN (x:Nat):Nat→Nat
 | 0=>1073741824
 | 1=>d1N x
 | k + 2=>dN x (k + 1) * d1N x / 1073741824
def uN (x:Nat):Nat→Nat
 | 0=>1073741824
 | 1=>u1N x
 | k + 2=>(uN x (k + 1) * u1N x + 1073741823) / 1073741824
def sLo (x:Nat):Nat:=((dN x 1 + dN x 5 / 120) - (cN (uN x 3) 6 + cN (uN x 7) 5040)) / 16384
def sHi (x:Nat):Nat:=min 65536 ((((uN x 1 + cN (uN x 5) 120 + cN (uN x 9) 362880) - (dN x 3 / 6 + dN x 7 / 5040)) + 16383) / 16384)
def cLo (x:Nat):Nat:=((1073741824 + dN x 4 / 24 + dN x 8 / 40320) - (cN (uN x 2) 2 + cN (uN x 6) 720 + cN (uN x 10) 3628800)) / 16384
def cHi (x:Nat):Nat:=min 65536 ((((1073741824 + cN (uN x 4) 24 + cN (uN x 8) 40320) - (dN x 2 / 2 + dN x 6 / 720)) + 16383) / 16384)
def fLo (r:Nat):Nat:=if r≤8192 then sLo r else cLo (16384 - r)
def fHi (r:Nat):Nat:=if r≤8192 then sHi r else cHi (16384 - r)
theorem yJH {r:Nat} (h:r≤8192):fLo r=sLo r∧fHi r=sHi r:=⟨if_pos h,if_pos h⟩
theorem jUZ {r:Nat} (_:8192 < r):fLo r=cLo (16384 - r)∧fHi r=cHi (16384 - r):=⟨if_neg (by omega),if_neg (by omega)⟩
def frc (n:Nat) (k:Nat→Bool):Bool:=Nat.rec (motive:=fun _=>Bool) (k 0) (fun m _=>k (Nat.succ m)) n
theorem jGY (n:Nat) (k:Nat→Bool):frc n k=k n:=by cases n <;> rfl
def jXG (x:Nat) (K:Nat→Nat→Nat→Nat→Bool):Bool :=
 frc x fun x=>frc (x * 6746518852 / 65536) fun d1=>frc ((x * 6746518853 + 65535) / 65536) fun u1 =>
 frc (d1 * d1 / 1073741824) fun d2=>frc ((u1 * u1 + 1073741823) / 1073741824) fun u2 =>
 frc (d2 * d1 / 1073741824) fun d3=>frc ((u2 * u1 + 1073741823) / 1073741824) fun u3 =>
 frc (d3 * d1 / 1073741824) fun d4=>frc ((u3 * u1 + 1073741823) / 1073741824) fun u4 =>
 frc (d4 * d1 / 1073741824) fun d5=>frc ((u4 * u1 + 1073741823) / 1073741824) fun u5 =>
 frc (d5 * d1 / 1073741824) fun d6=>frc ((u5 * u1 + 1073741823) / 1073741824) fun u6 =>
 frc (d6 * d1 / 1073741824) fun d7=>frc ((u6 * u1 + 1073741823) / 1073741824) fun u7 =>
 frc (d7 * d1 / 1073741824) fun d8=>frc ((u7 * u1 + 1073741823) / 1073741824) fun u8 =>
 frc ((u8 * u1 + 1073741823) / 1073741824) fun u9=>frc ((u9 * u1 + 1073741823) / 1073741824) fun u10 =>
 frc (((d1 + d5 / 120) - ((u3 + 5) / 6 + (u7 + 5039) / 5040)) / 16384) fun slo =>
 frc (min 65536 ((((u1 + (u5 + 119) / 120 + (u9 + 362879) / 362880) - (d3 / 6 + d7 / 5040)) + 16383) / 16384)) fun shi =>
 frc (((1073741824 + d4 / 24 + d8 / 40320) - ((u2 + 1) / 2 + (u6 + 719) / 720 + (u10 + 3628799) / 3628800)) / 16384) fun clo =>
 frc (min 65536 ((((1073741824 + (u4 + 23) / 24 + (u8 + 40319) / 40320) - (d2 / 2 + d6 / 720)) + 16383) / 16384)) fun chi=>K slo shi clo chi
theorem yKU (x:Nat) (K:Nat→Nat→Nat→Nat→Bool):jXG x K=K (sLo x) (sHi x) (cLo x) (cHi x):=by
 unfold jXG;simp only [jGY];rfl
def one (x a b c d:Nat):Bool :=
 Nat.ble a b && (Nat.ble b 65536 && (Nat.ble b (a + 2) && (Nat.ble c d && (Nat.ble d 65536 && (Nat.ble d (c + 2) &&
 (Nat.ble (4 * x) b && (Nat.ble (4 * x) (a + 2) && (Nat.ble a (x * 411775 / 65536 + 1) &&
 (Nat.ble (4 * (16384 - x)) d && (Nat.ble (4 * (16384 - x)) (c + 2) && (Nat.ble c ((16384 - x) * 411775 / 65536 + 1) &&
 (Nat.ble (a * a / 65536 + c * c / 65536) 65536 && Nat.ble 65536 ((b * b + 65535) / 65536 + (d * d + 65535) / 65536)))))))))))))
structure Fst (r:Nat):Prop where
 ord:fLo r≤fHi r
 top:fHi r≤65536
 wid:fHi r≤fLo r + 2
 ch1:4 * r≤fHi r
 ch2:4 * r≤fLo r + 2
 ch3:fLo r≤r * 411775 / 65536 + 1
end Go.Sx
namespace Go.Sx
theorem neg_mk {x y:Int} (_: -2147483648≤x∧x≤y∧y≤2147483648):Iv.neg ⟨x,y⟩=⟨-y,-x⟩:=by
 have:Iv.valid ⟨x,y⟩=true:=by simp [Iv.valid]; omega
 simp [Iv.neg,this]
theorem neg_of {a:Iv} (h : -2147483648≤a.lo∧a.lo≤a.hi∧a.hi≤2147483648):Iv.neg a=⟨-a.hi,-a.lo⟩:=neg_mk (x:=a.lo) (y:=a.hi) h
theorem valid_of {a:Iv} (_: -2147483648≤a.lo∧a.lo≤a.hi∧a.hi≤2147483648):a.valid=true:=by simp [Iv.valid]; omega
theorem neg_neg {a:Iv} (h : -2147483648≤a.lo∧a.lo≤a.hi∧a.hi≤2147483648):Iv.neg (Iv.neg a)=a:=by
 rw [neg_of h,neg_mk (by omega),Int.neg_neg,Int.neg_neg]
end Go.Sx
namespace Go.Sx
def nn:Nat:=340282366920938463463374607431768211456
def uu:Nat:=5192296858534827628530496329220096
def uc:Nat:=340282365357037221779282487371359009126
def us:Nat:=32624163282081701561065576601652201
def w:Nat→Nat × Nat
 | 0=>(nn,0)
 | n + 1=>(((w n).1 * uc - (w n).2 * us) / nn,((w n).1 * us + (w n).2 * uc) / nn)
def bx (S C a b c d:Nat):Bool:=Nat.ble (a * 5192296858534827628530496329220096) S && (Nat.ble S (b * 5192296858534827628530496329220096) && (Nat.ble (c * 5192296858534827628530496329220096) C && Nat.ble C (d * 5192296858534827628530496329220096)))
def goU (C' T':Nat):Nat→Nat→Nat→Nat→Bool
 | 0,C,T,_=>Nat.beq C C' && Nat.beq T T'
 | k + 1,C,T,x=>(jXG x fun a b c d=>bx T C a b c d) && (Nat.ble (T * 32624163282081701561065576601652201) (C * 340282365357037221779282487371359009126) && frc ((C * 340282365357037221779282487371359009126 - T * 32624163282081701561065576601652201) / 340282366920938463463374607431768211456) fun C2=>frc ((C * 32624163282081701561065576601652201 + T * 340282365357037221779282487371359009126) / 340282366920938463463374607431768211456) fun T2=>frc (x + 1) fun x2=>goU C' T' k C2 T2 x2)
def goD (C' T':Nat):Nat→Nat→Nat→Nat→Bool
 | 0,C,T,_=>Nat.beq C C' && Nat.beq T T'
 | k + 1,C,T,x=>(jXG x fun a b c d=>bx C T a b c d) && (Nat.ble (T * 32624163282081701561065576601652201) (C * 340282365357037221779282487371359009126) && frc ((C * 340282365357037221779282487371359009126 - T * 32624163282081701561065576601652201) / 340282366920938463463374607431768211456) fun C2=>frc ((C * 32624163282081701561065576601652201 + T * 340282365357037221779282487371359009126) / 340282366920938463463374607431768211456) fun T2=>frc (x - 1) fun x2=>goD C' T' k C2 T2 x2)
structure BoxU (r:Nat):Prop where
 sl:sLo r * uu≤(w r).2
 sh:(w r).2≤sHi r * uu
 cl:cLo r * uu≤(w r).1
 ch:(w r).1≤cHi r * uu
 st:(w r).2 * us≤(w r).1 * uc
structure BoxD (r:Nat):Prop where
 sl:sLo (16384 - r) * uu≤(w r).1
 sh:(w r).1≤sHi (16384 - r) * uu
 cl:cLo (16384 - r) * uu≤(w r).2
 ch:(w r).2≤cHi (16384 - r) * uu
 st:(w r).2 * us≤(w r).1 * uc
theorem qQK {C' T':Nat}:∀ k C T x,goU C' T' k C T x=true→w x=(C,T)→w (x + k)=(C',T')∧∀ i,x≤i→i < x + k→BoxU i
 | 0,C,T,x,h,e=>by
  simp only [goU,vQJ] at h;refine ⟨?_,fun i a b=>absurd b (by omega)⟩;rw [Nat.add_zero,e,vQX h.1,vQX h.2]
 | k + 1,C,T,x,h,e=>by
  simp only [goU,jGY,yKU,bx,vQJ] at h;obtain ⟨⟨h1,h2,h3,h4⟩,h5,h6⟩:=h;obtain ⟨q1,q2⟩:=qQK k _ _ (x + 1) h6 (by rw [w,e]; rfl);refine ⟨by rw [← q1]; congr 1; omega,fun i a b => ?_⟩;by_cases hi:i=x
  ·subst hi;exact ⟨by rw [e]; exact vZX h1,by rw [e]; exact vZX h2,by rw [e]; exact vZX h3,by rw [e]; exact vZX h4,by rw [e]; exact vZX h5⟩
  ·exact q2 i (by omega) (by omega)
theorem qQH {C' T':Nat}:∀ k C T r,r≤16384→k≤16384 - r→goD C' T' k C T (16384 - r)=true→w r=(C,T)→w (r + k)=(C',T')∧∀ i,r≤i→i < r + k→BoxD i
 | 0,C,T,x,_,_,h,e=>by
  simp only [goD,vQJ] at h;refine ⟨?_,fun i a b=>absurd b (by omega)⟩;rw [Nat.add_zero,e,vQX h.1,vQX h.2]
 | k + 1,C,T,x,g1,g2,h,e=>by
  simp only [goD,jGY,yKU,bx,vQJ] at h;obtain ⟨⟨h1,h2,h3,h4⟩,h5,h6⟩:=h;rw [show 16384 - x - 1=16384 - (x + 1) by omega] at h6;obtain ⟨q1,q2⟩:=qQH k _ _ (x + 1) (by omega) (by omega) h6 (by rw [w,e]; rfl);refine ⟨by rw [← q1]; congr 1; omega,fun i a b => ?_⟩;by_cases hi:i=x
  ·subst hi;exact ⟨by rw [e]; exact vZX h1,by rw [e]; exact vZX h2,by rw [e]; exact vZX h3,by rw [e]; exact vZX h4,by rw [e]; exact vZX h5⟩
  ·exact q2 i (by omega) (by omega)
theorem wk0:goU 338643814315582355912937410983956791763 33353504510164655995148692933346502990 1024 340282366920938463463374607431768211456 0 0=true:=by decide +kernel
theorem wk1:goU 333743936656827580393945988194117882553 66385796539016198537004233666266150132 1024 338643814315582355912937410983956791763 33353504510164655995148692933346502990 1024=true:=by decide +kernel
theorem wk2:goU 325629922445073537381874007154866693371 98778757057029163154891549979681820108 1024 333743936656827580393945988194117882553 66385796539016198537004233666266150132 2048=true:=by decide +kernel
theorem wk3:goU 314379914072750776175968446003616356708 130220424146621615521356287373662035415 1024 325629922445073537381874007154866693371 98778757057029163154891549979681820108 3072=true:=by decide +kernel
theorem wk4:goU 300102255270364911803307903246760032214 160407997365957196655387116525924829546 1024 314379914072750776175968446003616356708 130220424146621615521356287373662035415 4096=true:=by decide +kernel
theorem wk5:goU 282934447697145148265594844368147524013 189050753882727566157415671255032869469 1024 300102255270364911803307903246760032214 160407997365957196655387116525924829546 5120=true:=by decide +kernel
theorem wk6:goU 263041826724899848421390153308517431640 215872848293952797667059038248426017122 1024 282934447697145148265594844368147524013 189050753882727566157415671255032869469 6144=true:=by decide +kernel
theorem wk7:goU 240615969168004511545033772483698474358 240615969168004511545033772471550468243 1024 263041826724899848421390153308517431640 215872848293952797667059038248426017122 7168=true:=by decide +kernel
theorem wk8:goD 215872848293952797667059038261706108609 263041826724899848421390153297618474197 1024 240615969168004511545033772483698474358 240615969168004511545033772471550468243 8192=true:=by decide +kernel
theorem wk9:goD 189050753882727566157415671269317183057 282934447697145148265594844358602552466 1024 215872848293952797667059038261706108609 263041826724899848421390153297618474197 7168=true:=by decide +kernel
theorem wk10:goD 160407997365957196655387116541075833093 300102255270364911803307903238660947340 1024 189050753882727566157415671269317183057 282934447697145148265594844358602552466 6144=true:=by decide +kernel
theorem wk11:goD 130220424146621615521356287389533852184 314379914072750776175968445997041138024 1024 160407997365957196655387116541075833093 300102255270364911803307903238660947340 5120=true:=by decide +kernel
theorem wk12:goD 98778757057029163154891549996121633199 325629922445073537381874007149878648288 1024 130220424146621615521356287389533852184 314379914072750776175968445997041138024 4096=true:=by decide +kernel
theorem wk13:goD 66385796539016198537004233683115673837 333743936656827580393945988190765036869 1024 98778757057029163154891549996121633199 325629922445073537381874007149878648288 3072=true:=by decide +kernel
theorem wk14:goD 33353504510164655995148692950443506845 338643814315582355912937410982271427247 1024 66385796539016198537004233683115673837 333743936656827580393945988190765036869 2048=true:=by decide +kernel
theorem wk15:goD 17179870747 340282366920938463463374607431766555032 1024 33353504510164655995148692950443506845 338643814315582355912937410982271427247 1024=true:=by decide +kernel
theorem ws0:w 0=(340282366920938463463374607431768211456,0):=rfl
theorem ws1:w 1024=(338643814315582355912937410983956791763,33353504510164655995148692933346502990):=(qQK 1024 _ _ 0 wk0 ws0).1
theorem ws2:w 2048=(333743936656827580393945988194117882553,66385796539016198537004233666266150132):=(qQK 1024 _ _ 1024 wk1 ws1).1
theorem ws3:w 3072=(325629922445073537381874007154866693371,98778757057029163154891549979681820108):=(qQK 1024 _ _ 2048 wk2 ws2).1
theorem ws4:w 4096=(314379914072750776175968446003616356708,130220424146621615521356287373662035415):=(qQK 1024 _ _ 3072 wk3 ws3).1
theorem ws5:w 5120=(300102255270364911803307903246760032214,160407997365957196655387116525924829546):=(qQK 1024 _ _ 4096 wk4 ws4).1
theorem ws6:w 6144=(282934447697145148265594844368147524013,189050753882727566157415671255032869469):=(qQK 1024 _ _ 5120 wk5 ws5).1
theorem ws7:w 7168=(263041826724899848421390153308517431640,215872848293952797667059038248426017122):=(qQK 1024 _ _ 6144 wk6 ws6).1
theorem ws8:w 8192=(240615969168004511545033772483698474358,240615969168004511545033772471550468243):=(qQK 1024 _ _ 7168 wk7 ws7).1
theorem ws9:w 9216=(215872848293952797667059038261706108609,263041826724899848421390153297618474197):=(qQH 1024 _ _ 8192 (by decide) (by decide) wk8 ws8).1
theorem ws10:w 10240=(189050753882727566157415671269317183057,282934447697145148265594844358602552466):=(qQH 1024 _ _ 9216 (by decide) (by decide) wk9 ws9).1
theorem ws11:w 11264=(160407997365957196655387116541075833093,300102255270364911803307903238660947340):=(qQH 1024 _ _ 10240 (by decide) (by decide) wk10 ws10).1
theorem ws12:w 12288=(130220424146621615521356287389533852184,314379914072750776175968445997041138024):=(qQH 1024 _ _ 11264 (by decide) (by decide) wk11 ws11).1
theorem ws13:w 13312=(98778757057029163154891549996121633199,325629922445073537381874007149878648288):=(qQH 1024 _ _ 12288 (by decide) (by decide) wk12 ws12).1
theorem ws14:w 14336=(66385796539016198537004233683115673837,333743936656827580393945988190765036869):=(qQH 1024 _ _ 13312 (by decide) (by decide) wk13 ws13).1
theorem ws15:w 15360=(33353504510164655995148692950443506845,338643814315582355912937410982271427247):=(qQH 1024 _ _ 14336 (by decide) (by decide) wk14 ws14).1
theorem boxU {r:Nat} (h:r < 8192):BoxU r:=by
 have hq:(0≤r∧r < 1024) ∨ (1024≤r∧r < 2048) ∨ (2048≤r∧r < 3072) ∨ (3072≤r∧r < 4096) ∨ (4096≤r∧r < 5120) ∨ (5120≤r∧r < 6144) ∨ (6144≤r∧r < 7168) ∨ (7168≤r∧r < 8192):=by omega
 rcases hq with h | h | h | h | h | h | h | h
 ·exact (qQK 1024 _ _ 0 wk0 ws0).2 r h.1 h.2
 ·exact (qQK 1024 _ _ 1024 wk1 ws1).2 r h.1 h.2
 ·exact (qQK 1024 _ _ 2048 wk2 ws2).2 r h.1 h.2
 ·exact (qQK 1024 _ _ 3072 wk3 ws3).2 r h.1 h.2
 ·exact (qQK 1024 _ _ 4096 wk4 ws4).2 r h.1 h.2
 ·exact (qQK 1024 _ _ 5120 wk5 ws5).2 r h.1 h.2
 ·exact (qQK 1024 _ _ 6144 wk6 ws6).2 r h.1 h.2
 ·exact (qQK 1024 _ _ 7168 wk7 ws7).2 r h.1 h.2
theorem boxD {r:Nat} (g:8192≤r) (h:r < 16384):BoxD r:=by
 have hq:(8192≤r∧r < 9216) ∨ (9216≤r∧r < 10240) ∨ (10240≤r∧r < 11264) ∨ (11264≤r∧r < 12288) ∨ (12288≤r∧r < 13312) ∨ (13312≤r∧r < 14336) ∨ (14336≤r∧r < 15360) ∨ (15360≤r∧r < 16384):=by omega
 rcases hq with h | h | h | h | h | h | h | h
 ·exact (qQH 1024 _ _ 8192 (by decide) (by decide) wk8 ws8).2 r h.1 h.2
 ·exact (qQH 1024 _ _ 9216 (by decide) (by decide) wk9 ws9).2 r h.1 h.2
 ·exact (qQH 1024 _ _ 10240 (by decide) (by decide) wk10 ws10).2 r h.1 h.2
 ·exact (qQH 1024 _ _ 11264 (by decide) (by decide) wk11 ws11).2 r h.1 h.2
 ·exact (qQH 1024 _ _ 12288 (by decide) (by decide) wk12 ws12).2 r h.1 h.2
 ·exact (qQH 1024 _ _ 13312 (by decide) (by decide) wk13 ws13).2 r h.1 h.2
 ·exact (qQH 1024 _ _ 14336 (by decide) (by decide) wk14 ws14).2 r h.1 h.2
 ·exact (qQH 1024 _ _ 15360 (by decide) (by decide) wk15 ws15).2 r h.1 h.2
theorem mid0:(jXG 8192 fun a b c d=>bx 240615969168004511545033772471550468243 240615969168004511545033772483698474358 a b c d)=true:=by decide +kernel
theorem mid:sLo 8192 * uu≤(w 8192).2∧(w 8192).2≤sHi 8192 * uu:=by
 have:=mid0
 simp only [yKU,bx,vQJ] at this;rw [ws8];exact ⟨vZX this.1,vZX this.2.1⟩
theorem box {r:Nat} (h:r < 16384):fLo r * uu≤(w r).2∧(w r).2≤fHi r * uu∧fLo (16384 - r) * uu≤(w r).1∧(w r).1≤fHi (16384 - r) * uu:=by
 rcases Nat.lt_or_ge r 8192 with h1 | h1
 ·have b:=boxU h1;rw [(yJH (r:=r) (by omega)).1,(yJH (r:=r) (by omega)).2,(jUZ (r:=16384 - r) (by omega)).1,(jUZ (r:=16384 - r) (by omega)).2,show 16384 - (16384 - r)=r by omega];exact ⟨b.sl,b.sh,b.cl,b.ch⟩
 ·have b:=boxD h1 h;rw [(yJH (r:=16384 - r) (by omega)).1,(yJH (r:=16384 - r) (by omega)).2];rcases Nat.lt_or_ge 8192 r with h2 | h2
  ·rw [(jUZ (r:=r) (by omega)).1,(jUZ (r:=r) (by omega)).2];exact ⟨b.cl,b.ch,b.sl,b.sh⟩
  ·have e:r=8192:=by omega
   subst e;rw [(yJH (r:=8192) (by omega)).1,(yJH (r:=8192) (by omega)).2];have k:=mid;exact ⟨k.1,k.2,b.sl,b.sh⟩
end Go.Sx
namespace Go.Sx
def WC (r:Nat):Int:=((w r).1:Int)
def WT (r:Nat):Int:=((w r).2:Int)
theorem w0:WC 0=(340282366920938463463374607431768211456:Int)∧WT 0=0:=⟨rfl,rfl⟩
end Go.Sx
namespace Go.Sx
structure In (I:Iv) (m x:Int):Prop where
 lo:I.lo * m≤x
 hi:x≤I.hi * m
def Ok (a:Iv):Prop:=-2147483648≤a.lo∧a.lo≤a.hi∧a.hi≤2147483648
theorem clamp_bnd (z:Int) : -2147483648≤qQQ z∧qQQ z≤2147483648:=by unfold qQQ; omega
theorem clamp_mono {x y:Int} (_:x≤y):qQQ x≤qQQ y:=by unfold qQQ; omega
theorem mul_Ok (a b:Iv):Ok (Iv.mul a b):=by
 unfold Iv.mul;cases a.valid && b.valid
 ·exact (show Ok ⟨0,0⟩ by unfold Ok; decide)
 ·refine ⟨(clamp_bnd _).1,clamp_mono ?_,(clamp_bnd _).2⟩;have hc:=zKW (a:=max4 (a.lo * b.lo) (a.lo * b.hi) (a.hi * b.lo) (a.hi * b.hi)) (b:=65536) (by decide)
  have:min4 (a.lo * b.lo) (a.lo * b.hi) (a.hi * b.lo) (a.hi * b.hi)≤max4 (a.lo * b.lo) (a.lo * b.hi) (a.hi * b.lo) (a.hi * b.hi):=by unfold min4 max4; omega
  omega
end Go.Sx
namespace Go.Sx
structure V3 where
 x:Iv
 y:Iv
 z:Iv
structure M3 where
 x:V3
 y:V3
 z:V3
structure Po where
 r:M3
 t:V3
structure Z3 where
 x:Int
 y:Int
 z:Int
def v3 (v:V3):Value:=.agg #[.int .i64 v.x.lo,.int .i64 v.x.hi,.int .i64 v.y.lo,.int .i64 v.y.hi,.int .i64 v.z.lo,.int .i64 v.z.hi]
def m3 (v:M3):Value:=.agg #[.int .i64 v.x.x.lo,.int .i64 v.x.x.hi,.int .i64 v.x.y.lo,.int .i64 v.x.y.hi,.int .i64 v.x.z.lo,.int .i64 v.x.z.hi,
 .int .i64 v.y.x.lo,.int .i64 v.y.x.hi,.int .i64 v.y.y.lo,.int .i64 v.y.y.hi,.int .i64 v.y.z.lo,.int .i64 v.y.z.hi,
 .int .i64 v.z.x.lo,.int .i64 v.z.x.hi,.int .i64 v.z.y.lo,.int .i64 v.z.y.hi,.int .i64 v.z.z.lo,.int .i64 v.z.z.hi]
def po (p:Po):Value:=.agg #[.int .i64 p.r.x.x.lo,.int .i64 p.r.x.x.hi,.int .i64 p.r.x.y.lo,.int .i64 p.r.x.y.hi,.int .i64 p.r.x.z.lo,.int .i64 p.r.x.z.hi,
 .int .i64 p.r.y.x.lo,.int .i64 p.r.y.x.hi,.int .i64 p.r.y.y.lo,.int .i64 p.r.y.y.hi,.int .i64 p.r.y.z.lo,.int .i64 p.r.y.z.hi,
 .int .i64 p.r.z.x.lo,.int .i64 p.r.z.x.hi,.int .i64 p.r.z.y.lo,.int .i64 p.r.z.y.hi,.int .i64 p.r.z.z.lo,.int .i64 p.r.z.z.hi,
 .int .i64 p.t.x.lo,.int .i64 p.t.x.hi,.int .i64 p.t.y.lo,.int .i64 p.t.y.hi,.int .i64 p.t.z.lo,.int .i64 p.t.z.hi]
def V3.of (p:Z3):V3:=⟨Iv.of p.x,Iv.of p.y,Iv.of p.z⟩
def V3.add (a b:V3):V3:=⟨Iv.add a.x b.x,Iv.add a.y b.y,Iv.add a.z b.z⟩
def V3.sub (a b:V3):V3:=⟨Iv.sub a.x b.x,Iv.sub a.y b.y,Iv.sub a.z b.z⟩
def V3.neg (a:V3):V3:=⟨Iv.neg a.x,Iv.neg a.y,Iv.neg a.z⟩
def V3.dot (a b:V3):Iv:=Iv.add (Iv.add (Iv.mul a.x b.x) (Iv.mul a.y b.y)) (Iv.mul a.z b.z)
def M3.apply (m:M3) (v:V3):V3:=⟨V3.dot m.x v,V3.dot m.y v,V3.dot m.z v⟩
def limI (x:Int):Int:=min (max x (-65536)) 65536
def limV (a:Iv):Iv:=⟨limI a.lo,limI a.hi⟩
def M3.tr (m:M3):M3:=⟨⟨m.x.x,m.y.x,m.z.x⟩,⟨m.x.y,m.y.y,m.z.y⟩,⟨m.x.z,m.y.z,m.z.z⟩⟩
def M3.row (a:V3) (b:M3):V3:=⟨limV (V3.dot a b.tr.x),limV (V3.dot a b.tr.y),limV (V3.dot a b.tr.z)⟩
def M3.mul (a b:M3):M3:=⟨M3.row a.x b,M3.row a.y b,M3.row a.z b⟩
def iv0:Iv:=⟨0,0⟩
def iv1:Iv:=⟨65536,65536⟩
def M3.unit:M3:=⟨⟨iv1,iv0,iv0⟩,⟨iv0,iv1,iv0⟩,⟨iv0,iv0,iv1⟩⟩
def M3.zero:M3:=⟨⟨iv0,iv0,iv0⟩,⟨iv0,iv0,iv0⟩,⟨iv0,iv0,iv0⟩⟩
def M3.turn (axis:Int) (a:Iv):M3:=bif !a.valid then M3.zero else
 bif decide (axis=0) then ⟨⟨iv1,iv0,iv0⟩,⟨iv0,kQ a,Iv.neg (jH a)⟩,⟨iv0,jH a,kQ a⟩⟩ else
 bif decide (axis=1) then ⟨⟨kQ a,iv0,jH a⟩,⟨iv0,iv1,iv0⟩,⟨Iv.neg (jH a),iv0,kQ a⟩⟩ else
 bif decide (axis=2) then ⟨⟨kQ a,Iv.neg (jH a),iv0⟩,⟨jH a,kQ a,iv0⟩,⟨iv0,iv0,iv1⟩⟩ else M3.zero
theorem of_one:Iv.of 65536=iv1:=by kernel_rfl
theorem of_zero:Iv.of 0=iv0:=by kernel_rfl
theorem add_zero_mul (a b:Iv):Iv.add ⟨0,0⟩ (Iv.mul a b)=Iv.mul a b:=by
 have h:=mul_Ok a b;have hz:Iv.valid ⟨0,0⟩=true:=by decide
 simp only [Iv.add,hz,valid_of h,vZJ,vYV,Int.zero_add];unfold Ok at h;rw [clampI_id (by omega),clampI_id (by omega)]
theorem lim_ref (x:Int):max (-65536) (min x 65536)=limI x:=by unfold limI; omega
end Go.Sx
namespace Go.Sx
def V3.zero:V3:=⟨iv0,iv0,iv0⟩
def Po.shift (v:V3):Po:=⟨M3.unit,v⟩
def Po.rest:Po:=⟨M3.unit,V3.zero⟩
def Po.turn (axis:Int) (a:Iv):Po:=⟨M3.turn axis a,V3.zero⟩
def Po.app (p:Po) (v:V3):V3:=V3.add p.t (M3.apply p.r v)
def Po.mul (p q:Po):Po:=⟨M3.mul p.r q.r,Po.app p q.t⟩
def Po.inv (p:Po):Po:=⟨M3.tr p.r,V3.neg (M3.apply (M3.tr p.r) p.t)⟩
end Go.Sx
namespace Go.Sx
structure J where
 name:ByteArray
 kind:Int
 parent:Int
 off:Z3
 lo:Int
 hi:Int
 weight:Int
 speed:Int
 accel:Int
 torque:Int
def jc (j:J):List Value:=[.string j.name,.int .i64 j.kind,.int .i64 j.parent,.int .i64 j.off.x,.int .i64 j.off.y,.int .i64 j.off.z,.int .i64 j.lo,.int .i64 j.hi,.int .i64 j.weight,.int .i64 j.speed,.int .i64 j.accel,.int .i64 j.torque]
structure Ms where
 link:Int
 mass:Int
 p:Z3
def mc (m:Ms):List Value:=[.int .i64 m.link,.int .i64 m.mass,.int .i64 m.p.x,.int .i64 m.p.y,.int .i64 m.p.z]
structure Sp where
 link:Int
 radius:Int
 pts:List Z3
end Go.Sx
namespace Go.Sx
def ivc (v:Iv):List Value:=[.int .i64 v.lo,.int .i64 v.hi]
def ivC (rows:List Iv):List Value:=(rows.map ivc).flatten
theorem rows2 (l:List Iv):∀ r ∈ l.map ivc,r.length=2:=fun r hr=>by
 obtain ⟨v,_,rfl⟩:=List.mem_map.1 hr;rfl
end Go.Sx
namespace Go.Sx
section
variable {P:Program} {w0:Base} {S:yX} {H:Heap} {d:Option Tmp} {ty:TypeId} {pos:String} {af:Array Edge} {g:Option (Nat × Bool)}
end
def V3.put (k:Int) (a:Iv):V3:=if k=0 then ⟨a,iv0,iv0⟩ else if k=1 then ⟨iv0,a,iv0⟩ else ⟨iv0,iv0,a⟩
def jMot (k:Int) (a:Iv):Po:=if k=1 ∨ k=2 ∨ k=3 then Po.turn (k - 1) a else if k=4 ∨ k=5 ∨ k=6 then Po.shift (V3.put (k - 4) a) else Po.rest
def kZG (k:Int) (o:Z3) (a:Iv):Po:=Po.mul (Po.shift (V3.of o)) (jMot k a)
end Go.Sx
namespace Go.Sx
def pc (p:Po):List Value:=[.int .i64 p.r.x.x.lo,.int .i64 p.r.x.x.hi,.int .i64 p.r.x.y.lo,.int .i64 p.r.x.y.hi,.int .i64 p.r.x.z.lo,.int .i64 p.r.x.z.hi,.int .i64 p.r.y.x.lo,.int .i64 p.r.y.x.hi,.int .i64 p.r.y.y.lo,.int .i64 p.r.y.y.hi,.int .i64 p.r.y.z.lo,.int .i64 p.r.y.z.hi,.int .i64 p.r.z.x.lo,.int .i64 p.r.z.x.hi,.int .i64 p.r.z.y.lo,.int .i64 p.r.z.y.hi,.int .i64 p.r.z.z.lo,.int .i64 p.r.z.z.hi,.int .i64 p.t.x.lo,.int .i64 p.t.x.hi,.int .i64 p.t.y.lo,.int .i64 p.t.y.hi,.int .i64 p.t.z.lo,.int .i64 p.t.z.hi]
def lkP (ps:List Po) (j:J) (a:Iv):Po:=if j.parent = -1 then kZG j.kind j.off a else Po.mul (ps.getD j.parent.toNat Po.rest) (kZG j.kind j.off a)
def lks (js:List J) (bx:List Iv):Nat→List Po
 | 0=>[]
 | k + 1=>match js[k]?,bx[k]? with
  | some j,some a=>lks js bx k ++ [lkP (lks js bx k) j a]
  | _,_=>lks js bx k
theorem lks_succ {js:List J} {bx:List Iv} {k:Nat} {j:J} {a:Iv} (h1:js[k]? = some j) (h2:bx[k]? = some a):lks js bx (k + 1)=lks js bx k ++ [lkP (lks js bx k) j a]:=by
 simp only [lks,h1,h2]
end Go.Sx
namespace Go.Rx
open Go.RowKit Go.Sx
def PV.i64:PV→Option Int
 | .n .i64 x=>some x
 | _=>none
def ints (cs:List PV):Option (List Int):=mapO PV.i64 cs
theorem zWX:∀ {cs:List PV} {l:List Int},ints cs=some l→cs=l.map fun x=>.n .i64 x
 | [],l,h=>by cases h; rfl
 | c :: cs,l,h=>by
  simp only [ints,mapO,vQQ,vQZ] at h;obtain ⟨x,hx,ys,hys,rfl⟩:=h;rw [List.map_cons,← zWX (cs:=cs) hys];unfold PV.i64 at hx;split at hx
  ·cases hx; rfl
  ·cases hx
def ivs:List Iv→List PV
 | []=>[]
 | p :: l=>.n .i64 p.lo :: .n .i64 p.hi :: ivs l
def ivC (p:Iv):List PV:=[.n .i64 p.lo,.n .i64 p.hi]
def ivD (cs:List PV):Option Iv:=(ints cs).bind fun l=>bif Nat.beq l.length 2 then some ⟨(l.getD 0 0),(l.getD 1 0)⟩ else none
theorem qQG {cs:List PV} {p:Iv} (h:ivD cs=some p):cs=ivC p:=by
 simp only [ivD,vQQ] at h;obtain ⟨l,hl,h⟩:=h;obtain ⟨hn,h⟩:=qY h;have hn:=vQX hn;rw [zWX hl];cases h;obtain _ | ⟨x0,l0⟩:=l <;> simp only [vQW,vQV,vQU] at hn <;> first | (exact absurd hn (by omega)) | skip
 obtain _ | ⟨x1,l1⟩:=l0 <;> simp only [vQW,vQV,vQU] at hn <;> first | (exact absurd hn (by omega)) | skip
 obtain _ | ⟨y,l⟩:=l1 <;> simp only [vQW,vQV] at hn <;> first | (exact absurd hn (by omega)) | skip
 rfl
def z3C (p:Z3):List PV:=[.n .i64 p.x,.n .i64 p.y,.n .i64 p.z]
def z3D (cs:List PV):Option Z3:=(ints cs).bind fun l=>bif Nat.beq l.length 3 then some ⟨(l.getD 0 0),(l.getD 1 0),(l.getD 2 0)⟩ else none
theorem jKZ {cs:List PV} {p:Z3} (h:z3D cs=some p):cs=z3C p:=by
 simp only [z3D,vQQ] at h;obtain ⟨l,hl,h⟩:=h;obtain ⟨hn,h⟩:=qY h;have hn:=vQX hn;rw [zWX hl];cases h;obtain _ | ⟨x0,l0⟩:=l <;> simp only [vQW,vQV,vQU] at hn <;> first | (exact absurd hn (by omega)) | skip
 obtain _ | ⟨x1,l1⟩:=l0 <;> simp only [vQW,vQV,vQU] at hn <;> first | (exact absurd hn (by omega)) | skip
 obtain _ | ⟨x2,l2⟩:=l1 <;> simp only [vQW,vQV,vQU] at hn <;> first | (exact absurd hn (by omega)) | skip
 obtain _ | ⟨y,l⟩:=l2 <;> simp only [vQW,vQV] at hn <;> first | (exact absurd hn (by omega)) | skip
 rfl
def v3C (p:V3):List PV:=[.n .i64 p.x.lo,.n .i64 p.x.hi,.n .i64 p.y.lo,.n .i64 p.y.hi,.n .i64 p.z.lo,.n .i64 p.z.hi]
def v3D (cs:List PV):Option V3:=(ints cs).bind fun l=>bif Nat.beq l.length 6 then some ⟨⟨(l.getD 0 0),(l.getD 1 0)⟩,⟨(l.getD 2 0),(l.getD 3 0)⟩,⟨(l.getD 4 0),(l.getD 5 0)⟩⟩ else none
theorem zZW {cs:List PV} {p:V3} (h:v3D cs=some p):cs=v3C p:=by
 simp only [v3D,vQQ] at h;obtain ⟨l,hl,h⟩:=h;obtain ⟨hn,h⟩:=qY h;have hn:=vQX hn;rw [zWX hl];cases h;obtain _ | ⟨x0,l0⟩:=l <;> simp only [vQW,vQV,vQU] at hn <;> first | (exact absurd hn (by omega)) | skip
 obtain _ | ⟨x1,l1⟩:=l0 <;> simp only [vQW,vQV,vQU] at hn <;> first | (exact absurd hn (by omega)) | skip
 obtain _ | ⟨x2,l2⟩:=l1 <;> simp only [vQW,vQV,vQU] at hn <;> first | (exact absurd hn (by omega)) | skip
 obtain _ | ⟨x3,l3⟩:=l2 <;> simp only [vQW,vQV,vQU] at hn <;> first | (exact absurd hn (by omega)) | skip
 obtain _ | ⟨x4,l4⟩:=l3 <;> simp only [vQW,vQV,vQU] at hn <;> first | (exact absurd hn (by omega)) | skip
 obtain _ | ⟨x5,l5⟩:=l4 <;> simp only [vQW,vQV,vQU] at hn <;> first | (exact absurd hn (by omega)) | skip
 obtain _ | ⟨y,l⟩:=l5 <;> simp only [vQW,vQV] at hn <;> first | (exact absurd hn (by omega)) | skip
 rfl
def m3C (p:M3):List PV:=[.n .i64 p.x.x.lo,.n .i64 p.x.x.hi,.n .i64 p.x.y.lo,.n .i64 p.x.y.hi,.n .i64 p.x.z.lo,.n .i64 p.x.z.hi,.n .i64 p.y.x.lo,.n .i64 p.y.x.hi,.n .i64 p.y.y.lo,.n .i64 p.y.y.hi,.n .i64 p.y.z.lo,.n .i64 p.y.z.hi,.n .i64 p.z.x.lo,.n .i64 p.z.x.hi,.n .i64 p.z.y.lo,.n .i64 p.z.y.hi,.n .i64 p.z.z.lo,.n .i64 p.z.z.hi]
def m3D (cs:List PV):Option M3:=(ints cs).bind fun l=>bif Nat.beq l.length 18 then some ⟨⟨⟨(l.getD 0 0),(l.getD 1 0)⟩,⟨(l.getD 2 0),(l.getD 3 0)⟩,⟨(l.getD 4 0),(l.getD 5 0)⟩⟩,⟨⟨(l.getD 6 0),(l.getD 7 0)⟩,⟨(l.getD 8 0),(l.getD 9 0)⟩,⟨(l.getD 10 0),(l.getD 11 0)⟩⟩,⟨⟨(l.getD 12 0),(l.getD 13 0)⟩,⟨(l.getD 14 0),(l.getD 15 0)⟩,⟨(l.getD 16 0),(l.getD 17 0)⟩⟩⟩ else none
theorem yZH {cs:List PV} {p:M3} (h:m3D cs=some p):cs=m3C p:=by
 simp only [m3D,vQQ] at h;obtain ⟨l,hl,h⟩:=h;obtain ⟨hn,h⟩:=qY h;have hn:=vQX hn;rw [zWX hl];cases h;obtain _ | ⟨x0,l0⟩:=l <;> simp only [vQW,vQV,vQU] at hn <;> first | (exact absurd hn (by omega)) | skip
 obtain _ | ⟨x1,l1⟩:=l0 <;> simp only [vQW,vQV,vQU] at hn <;> first | (exact absurd hn (by omega)) | skip
 obtain _ | ⟨x2,l2⟩:=l1 <;> simp only [vQW,vQV,vQU] at hn <;> first | (exact absurd hn (by omega)) | skip
 obtain _ | ⟨x3,l3⟩:=l2 <;> simp only [vQW,vQV,vQU] at hn <;> first | (exact absurd hn (by omega)) | skip
 obtain _ | ⟨x4,l4⟩:=l3 <;> simp only [vQW,vQV,vQU] at hn <;> first | (exact absurd hn (by omega)) | skip
 obtain _ | ⟨x5,l5⟩:=l4 <;> simp only [vQW,vQV,vQU] at hn <;> first | (exact absurd hn (by omega)) | skip
 obtain _ | ⟨x6,l6⟩:=l5 <;> simp only [vQW,vQV,vQU] at hn <;> first | (exact absurd hn (by omega)) | skip
 obtain _ | ⟨x7,l7⟩:=l6 <;> simp only [vQW,vQV,vQU] at hn <;> first | (exact absurd hn (by omega)) | skip
 obtain _ | ⟨x8,l8⟩:=l7 <;> simp only [vQW,vQV,vQU] at hn <;> first | (exact absurd hn (by omega)) | skip
 obtain _ | ⟨x9,l9⟩:=l8 <;> simp only [vQW,vQV,vQU] at hn <;> first | (exact absurd hn (by omega)) | skip
 obtain _ | ⟨x10,l10⟩:=l9 <;> simp only [vQW,vQV,vQU] at hn <;> first | (exact absurd hn (by omega)) | skip
 obtain _ | ⟨x11,l11⟩:=l10 <;> simp only [vQW,vQV,vQU] at hn <;> first | (exact absurd hn (by omega)) | skip
 obtain _ | ⟨x12,l12⟩:=l11 <;> simp only [vQW,vQV,vQU] at hn <;> first | (exact absurd hn (by omega)) | skip
 obtain _ | ⟨x13,l13⟩:=l12 <;> simp only [vQW,vQV,vQU] at hn <;> first | (exact absurd hn (by omega)) | skip
 obtain _ | ⟨x14,l14⟩:=l13 <;> simp only [vQW,vQV,vQU] at hn <;> first | (exact absurd hn (by omega)) | skip
 obtain _ | ⟨x15,l15⟩:=l14 <;> simp only [vQW,vQV,vQU] at hn <;> first | (exact absurd hn (by omega)) | skip
 obtain _ | ⟨x16,l16⟩:=l15 <;> simp only [vQW,vQV,vQU] at hn <;> first | (exact absurd hn (by omega)) | skip
 obtain _ | ⟨x17,l17⟩:=l16 <;> simp only [vQW,vQV,vQU] at hn <;> first | (exact absurd hn (by omega)) | skip
 obtain _ | ⟨y,l⟩:=l17 <;> simp only [vQW,vQV] at hn <;> first | (exact absurd hn (by omega)) | skip
 rfl
def poC (p:Po):List PV:=[.n .i64 p.r.x.x.lo,.n .i64 p.r.x.x.hi,.n .i64 p.r.x.y.lo,.n .i64 p.r.x.y.hi,.n .i64 p.r.x.z.lo,.n .i64 p.r.x.z.hi,.n .i64 p.r.y.x.lo,.n .i64 p.r.y.x.hi,.n .i64 p.r.y.y.lo,.n .i64 p.r.y.y.hi,.n .i64 p.r.y.z.lo,.n .i64 p.r.y.z.hi,.n .i64 p.r.z.x.lo,.n .i64 p.r.z.x.hi,.n .i64 p.r.z.y.lo,.n .i64 p.r.z.y.hi,.n .i64 p.r.z.z.lo,.n .i64 p.r.z.z.hi,.n .i64 p.t.x.lo,.n .i64 p.t.x.hi,.n .i64 p.t.y.lo,.n .i64 p.t.y.hi,.n .i64 p.t.z.lo,.n .i64 p.t.z.hi]
def poD (cs:List PV):Option Po:=(ints cs).bind fun l=>bif Nat.beq l.length 24 then some ⟨⟨⟨⟨(l.getD 0 0),(l.getD 1 0)⟩,⟨(l.getD 2 0),(l.getD 3 0)⟩,⟨(l.getD 4 0),(l.getD 5 0)⟩⟩,⟨⟨(l.getD 6 0),(l.getD 7 0)⟩,⟨(l.getD 8 0),(l.getD 9 0)⟩,⟨(l.getD 10 0),(l.getD 11 0)⟩⟩,⟨⟨(l.getD 12 0),(l.getD 13 0)⟩,⟨(l.getD 14 0),(l.getD 15 0)⟩,⟨(l.getD 16 0),(l.getD 17 0)⟩⟩⟩,⟨⟨(l.getD 18 0),(l.getD 19 0)⟩,⟨(l.getD 20 0),(l.getD 21 0)⟩,⟨(l.getD 22 0),(l.getD 23 0)⟩⟩⟩ else none
theorem jKV {cs:List PV} {p:Po} (h:poD cs=some p):cs=poC p:=by
 simp only [poD,vQQ] at h;obtain ⟨l,hl,h⟩:=h;obtain ⟨hn,h⟩:=qY h;have hn:=vQX hn;rw [zWX hl];cases h;obtain _ | ⟨x0,l0⟩:=l <;> simp only [vQW,vQV,vQU] at hn <;> first | (exact absurd hn (by omega)) | skip
 obtain _ | ⟨x1,l1⟩:=l0 <;> simp only [vQW,vQV,vQU] at hn <;> first | (exact absurd hn (by omega)) | skip
 obtain _ | ⟨x2,l2⟩:=l1 <;> simp only [vQW,vQV,vQU] at hn <;> first | (exact absurd hn (by omega)) | skip
 obtain _ | ⟨x3,l3⟩:=l2 <;> simp only [vQW,vQV,vQU] at hn <;> first | (exact absurd hn (by omega)) | skip
 obtain _ | ⟨x4,l4⟩:=l3 <;> simp only [vQW,vQV,vQU] at hn <;> first | (exact absurd hn (by omega)) | skip
 obtain _ | ⟨x5,l5⟩:=l4 <;> simp only [vQW,vQV,vQU] at hn <;> first | (exact absurd hn (by omega)) | skip
 obtain _ | ⟨x6,l6⟩:=l5 <;> simp only [vQW,vQV,vQU] at hn <;> first | (exact absurd hn (by omega)) | skip
 obtain _ | ⟨x7,l7⟩:=l6 <;> simp only [vQW,vQV,vQU] at hn <;> first | (exact absurd hn (by omega)) | skip
 obtain _ | ⟨x8,l8⟩:=l7 <;> simp only [vQW,vQV,vQU] at hn <;> first | (exact absurd hn (by omega)) | skip
 obtain _ | ⟨x9,l9⟩:=l8 <;> simp only [vQW,vQV,vQU] at hn <;> first | (exact absurd hn (by omega)) | skip
 obtain _ | ⟨x10,l10⟩:=l9 <;> simp only [vQW,vQV,vQU] at hn <;> first | (exact absurd hn (by omega)) | skip
 obtain _ | ⟨x11,l11⟩:=l10 <;> simp only [vQW,vQV,vQU] at hn <;> first | (exact absurd hn (by omega)) | skip
 obtain _ | ⟨x12,l12⟩:=l11 <;> simp only [vQW,vQV,vQU] at hn <;> first | (exact absurd hn (by omega)) | skip
 obtain _ | ⟨x13,l13⟩:=l12 <;> simp only [vQW,vQV,vQU] at hn <;> first | (exact absurd hn (by omega)) | skip
 obtain _ | ⟨x14,l14⟩:=l13 <;> simp only [vQW,vQV,vQU] at hn <;> first | (exact absurd hn (by omega)) | skip
 obtain _ | ⟨x15,l15⟩:=l14 <;> simp only [vQW,vQV,vQU] at hn <;> first | (exact absurd hn (by omega)) | skip
 obtain _ | ⟨x16,l16⟩:=l15 <;> simp only [vQW,vQV,vQU] at hn <;> first | (exact absurd hn (by omega)) | skip
 obtain _ | ⟨x17,l17⟩:=l16 <;> simp only [vQW,vQV,vQU] at hn <;> first | (exact absurd hn (by omega)) | skip
 obtain _ | ⟨x18,l18⟩:=l17 <;> simp only [vQW,vQV,vQU] at hn <;> first | (exact absurd hn (by omega)) | skip
 obtain _ | ⟨x19,l19⟩:=l18 <;> simp only [vQW,vQV,vQU] at hn <;> first | (exact absurd hn (by omega)) | skip
 obtain _ | ⟨x20,l20⟩:=l19 <;> simp only [vQW,vQV,vQU] at hn <;> first | (exact absurd hn (by omega)) | skip
 obtain _ | ⟨x21,l21⟩:=l20 <;> simp only [vQW,vQV,vQU] at hn <;> first | (exact absurd hn (by omega)) | skip
 obtain _ | ⟨x22,l22⟩:=l21 <;> simp only [vQW,vQV,vQU] at hn <;> first | (exact absurd hn (by omega)) | skip
 obtain _ | ⟨x23,l23⟩:=l22 <;> simp only [vQW,vQV,vQU] at hn <;> first | (exact absurd hn (by omega)) | skip
 obtain _ | ⟨y,l⟩:=l23 <;> simp only [vQW,vQV] at hn <;> first | (exact absurd hn (by omega)) | skip
 rfl
end Go.Rx
namespace Go.Proofs.YtgmbkkkbfbocnaaGreat
open Go.Sx Go.Rx Rt Go.RowKit
namespace Tn
end Tn
open Tn
theorem qHU:zZH Tryz.prog 62 0 0=true:=by kernel_rfl
theorem ty2:tyB Tryz.prog 2 false 1=true:=by kernel_rfl
theorem zKU:zZH Tryz.prog 62 1 1=true:=by kernel_rfl
theorem ze62:qKX Tryz.prog 62 (.agg #[.int .i64 0,.int .i64 0]):=by unfold qKX; kernel_rfl
theorem la62:qXX Tryz.prog 62=some ([.int .i64 0,.int .i64 0],[(0,1),(1,1)]):=by kernel_rfl
theorem ty62:tyB Tryz.prog 62 true 2=true:=by kernel_rfl
theorem en152:uY Tryz.prog 152:=qW Tryz.func152 (by kernel_rfl) (by kernel_rfl)
theorem en148:uY Tryz.prog 148:=qW Tryz.func148 (by kernel_rfl) (by kernel_rfl)
theorem en160:uY Tryz.prog 160:=qW Tryz.func160 (by kernel_rfl) (by kernel_rfl)
theorem en174:uY Tryz.prog 174:=qW Tryz.func174 (by kernel_rfl) (by kernel_rfl)
theorem mo:Tryz.prog.follows .mixedOrders=true:=by kernel_rfl
theorem en161:uY Tryz.prog 161:=qW Tryz.func161 (by kernel_rfl) (by kernel_rfl)
theorem en162:uY Tryz.prog 162:=qW Tryz.func162 (by kernel_rfl) (by kernel_rfl)
set_option maxRecDepth 100000 in
theorem iValid (a0 a1:Int) (w:World):Calls Tryz.prog 135 [.agg #[.int .i64 a0,.int .i64 a1]].toArray w (Rets (vB (Iv.valid (⟨a0,a1⟩:Iv))) (w)) :=
 zZ (x:=.b (Iv.valid ⟨a0,a1⟩)) (zY (N:=60) (ps:=[.a [.n .i64 a0,.n .i64 a1]]) yJ zW (OrL.ok (l:=([]:OrL)) trivial) ((by kernel_rfl:_=bif (decide ((-2147483648)≤a0)) then (bif (decide (a0≤a1)) then (bif (decide (a1≤2147483648)) then some (.v (.b true),[])
 else some (.v (.b false),[]))
 else some (.v (.b false),[]))
 else some (.v (.b false),[])).trans (by
 show _=some (Ret.v (.b (decide (-2147483648≤a0) && decide (a0≤a1) && decide (a1≤2147483648))),[]);cases decide (-2147483648≤a0) <;> cases decide (a0≤a1) <;> cases decide (a1≤2147483648) <;> rfl))) rfl rfl w
set_option maxRecDepth 100000 in
theorem jKW (a0 a1:Int) (w:World):Calls Tryz.prog 148 [.agg #[.int .i64 a0,.int .i64 a1]].toArray w (Rets (vB (Iv.valid (⟨a0,a1⟩:Iv))) (w)) :=
 zZ (x:=.b (Iv.valid ⟨a0,a1⟩)) (zY (N:=60) (ps:=[.a [.n .i64 a0,.n .i64 a1]]) yJ zW (OrL.ok (l:=([]:OrL)) trivial) ((by kernel_rfl:_=bif (decide ((-2147483648)≤a0)) then (bif (decide (a0≤a1)) then (bif (decide (a1≤2147483648)) then some (.v (.b true),[])
 else some (.v (.b false),[]))
 else some (.v (.b false),[]))
 else some (.v (.b false),[])).trans (by
 show _=some (Ret.v (.b (decide (-2147483648≤a0) && decide (a0≤a1) && decide (a1≤2147483648))),[]);cases decide (-2147483648≤a0) <;> cases decide (a0≤a1) <;> cases decide (a1≤2147483648) <;> rfl))) rfl rfl w
namespace Tn
noncomputable def o_iValid:List PV→Option (Bool × Ret):=fun ps=>match ps with
 | [.a a']=>(ivD a').bind fun a=>some (true,.v (.b (Iv.valid a)))
 | _=>none
theorem ok_iValid:zJ Tryz.prog 135 o_iValid:=by
 intro ps r h;unfold o_iValid at h;split at h
 ·simp only [vQQ,vQZ,vQY] at h;obtain ⟨a,ha,hg,rfl⟩:=h;rw [qQG ha];exact qX (qW Tryz.func135 (by kernel_rfl) (by kernel_rfl)) rfl rfl (fun w=>iValid _ _ w)
 ·cases h
noncomputable def LTn1:OrL:=(135,o_iValid) :: ([]:OrL)
theorem LTn1_ok:AllP (fun x:Nat × (List PV→Option (Bool × Ret))=>zJ Tryz.prog x.1 x.2) LTn1:=⟨ok_iValid,trivial⟩
noncomputable def o_rValid:List PV→Option (Bool × Ret):=fun ps=>match ps with
 | [.a a']=>(ivD a').bind fun a=>some (true,.v (.b (Iv.valid a)))
 | _=>none
theorem ok_rValid:zJ Tryz.prog 148 o_rValid:=by
 intro ps r h;unfold o_rValid at h;split at h
 ·simp only [vQQ,vQZ,vQY] at h;obtain ⟨a,ha,hg,rfl⟩:=h;rw [qQG ha];exact qX (qW Tryz.func148 (by kernel_rfl) (by kernel_rfl)) rfl rfl (fun w=>jKW _ _ w)
 ·cases h
noncomputable def LTn2:OrL:=(148,o_rValid) :: LTn1
theorem jJG:AllP (fun x:Nat × (List PV→Option (Bool × Ret))=>zJ Tryz.prog x.1 x.2) LTn2:=⟨ok_rValid,LTn1_ok⟩
end Tn
set_option maxRecDepth 100000 in
theorem fClamp (a:Int) (w:World):Calls Tryz.prog 173 [.int .i64 a].toArray w (Rets (vI (qQQ a)) (w)) :=
 zZ (x:=.n .i64 (qQQ a)) (zY (N:=60) (ps:=[.n .i64 a]) yJ zW (OrL.ok (l:=LTn2) jJG) (by kernel_rfl)) rfl rfl w
set_option maxRecDepth 100000 in
theorem rClamp (a:Int) (w:World):Calls Tryz.prog 81 [.int .i64 a].toArray w (Rets (vI (qQQ a)) (w)) :=
 zZ (x:=.n .i64 (qQQ a)) (zY (N:=60) (ps:=[.n .i64 a]) yJ zW (OrL.ok (l:=LTn2) jJG) ((by kernel_rfl:_=some (.v (.n .i64 (max (-2147483648) (min a 2147483648))),[])).trans (by
 rw [show max (-2147483648) (min a 2147483648)=qQQ a by unfold qQQ; omega]))) rfl rfl w
namespace Tn
noncomputable def yXJ:List PV→Option (Bool × Ret):=fun ps=>match ps with
 | [.n .i64 a]=>some (true,.v (.n .i64 ((qQQ a))))
 | _=>none
theorem ok_fClamp:zJ Tryz.prog 173 yXJ:=by
 intro ps r h;unfold yXJ at h;split at h
 ·simp only [vQZ,vQY] at h;obtain ⟨hg,rfl⟩:=h;exact qX (qW Tryz.func173 (by kernel_rfl) (by kernel_rfl)) rfl rfl (fun w=>fClamp _ w)
 ·cases h
noncomputable def LTn3:OrL:=(173,yXJ) :: LTn2
theorem LTn3_ok:AllP (fun x:Nat × (List PV→Option (Bool × Ret))=>zJ Tryz.prog x.1 x.2) LTn3:=⟨ok_fClamp,jJG⟩
noncomputable def yUW:List PV→Option (Bool × Ret):=fun ps=>match ps with
 | [.n .i64 a]=>some (true,.v (.n .i64 ((qQQ a))))
 | _=>none
theorem ok_rClamp:zJ Tryz.prog 81 yUW:=by
 intro ps r h;unfold yUW at h;split at h
 ·simp only [vQZ,vQY] at h;obtain ⟨hg,rfl⟩:=h;exact qX (qW Tryz.func81 (by kernel_rfl) (by kernel_rfl)) rfl rfl (fun w=>rClamp _ w)
 ·cases h
noncomputable def LTn4:OrL:=(81,yUW) :: LTn3
theorem jJV:AllP (fun x:Nat × (List PV→Option (Bool × Ret))=>zJ Tryz.prog x.1 x.2) LTn4:=⟨ok_rClamp,LTn3_ok⟩
end Tn
set_option maxRecDepth 100000 in
theorem iLimited (lo:Int) (hi:Int) (w:World):Calls Tryz.prog 152 [.int .i64 lo,.int .i64 hi].toArray w (Rets (iv (Iv.limited lo hi)) (w)) :=
 zZ (x:=.a (ivC (Iv.limited lo hi))) (zY (N:=60) (ps:=[.n .i64 lo,.n .i64 hi]) yJ zW (OrL.ok (l:=LTn4) jJV) (by kernel_rfl)) rfl rfl w
set_option maxRecDepth 100000 in
theorem iOf (x:Int) (w:World):Calls Tryz.prog 122 [.int .i64 x].toArray w (Rets (iv (Iv.of x)) (w)) :=
 zZ (x:=.a (ivC (Iv.of x))) (zY (N:=60) (ps:=[.n .i64 x]) yJ zW (OrL.ok (l:=LTn4) jJV) (by kernel_rfl)) rfl rfl w
namespace Tn
noncomputable def zWQ:List PV→Option (Bool × Ret):=fun ps=>match ps with
 | [.n .i64 a,.n .i64 b]=>some (true,.v (.a (ivC (Iv.limited a b))))
 | _=>none
theorem ok_iLimited:zJ Tryz.prog 152 zWQ:=by
 intro ps r h;unfold zWQ at h;split at h
 ·simp only [vQZ,vQY] at h;obtain ⟨hg,rfl⟩:=h;exact qX (qW Tryz.func152 (by kernel_rfl) (by kernel_rfl)) rfl rfl (fun w=>iLimited _ _ w)
 ·cases h
noncomputable def LTn5:OrL:=(152,zWQ) :: LTn4
theorem jJW:AllP (fun x:Nat × (List PV→Option (Bool × Ret))=>zJ Tryz.prog x.1 x.2) LTn5:=⟨ok_iLimited,jJV⟩
end Tn
set_option maxRecDepth 100000 in
theorem rLimited (lo:Int) (hi:Int) (w:World):Calls Tryz.prog 160 [.int .i64 lo,.int .i64 hi].toArray w (Rets (iv (Iv.limited lo hi)) (w)) :=
 zZ (x:=.a (ivC (Iv.limited lo hi))) (zY (N:=60) (ps:=[.n .i64 lo,.n .i64 hi]) yJ zW (OrL.ok (l:=LTn5) jJW) (by kernel_rfl)) rfl rfl w
set_option maxRecDepth 100000 in
theorem rOf (x:Int) (w:World):Calls Tryz.prog 34 [.int .i64 x].toArray w (Rets (iv (Iv.of x)) (w)) :=
 zZ (x:=.a (ivC (Iv.of x))) (zY (N:=60) (ps:=[.n .i64 x]) yJ zW (OrL.ok (l:=LTn5) jJW) (by kernel_rfl)) rfl rfl w
namespace Tn
noncomputable def zXU:List PV→Option (Bool × Ret):=fun ps=>match ps with
 | [.n .i64 a,.n .i64 b]=>some (true,.v (.a (ivC (Iv.limited a b))))
 | _=>none
theorem ok_rLimited:zJ Tryz.prog 160 zXU:=by
 intro ps r h;unfold zXU at h;split at h
 ·simp only [vQZ,vQY] at h;obtain ⟨hg,rfl⟩:=h;exact qX (qW Tryz.func160 (by kernel_rfl) (by kernel_rfl)) rfl rfl (fun w=>rLimited _ _ w)
 ·cases h
noncomputable def LTn6:OrL:=(160,zXU) :: LTn5
theorem qHK:AllP (fun x:Nat × (List PV→Option (Bool × Ret))=>zJ Tryz.prog x.1 x.2) LTn6:=⟨ok_rLimited,jJW⟩
end Tn
set_option maxRecDepth 100000 in
theorem iNeg (a0 a1:Int) (w:World):Calls Tryz.prog 184 [.agg #[.int .i64 a0,.int .i64 a1]].toArray w (Rets (iv (Iv.neg (⟨a0,a1⟩:Iv))) (w)) :=
 zZ (x:=.a (ivC (Iv.neg ⟨a0,a1⟩))) (zY (N:=60) (ps:=[.a [.n .i64 a0,.n .i64 a1]]) yJ zW (OrL.ok (l:=LTn6) qHK) ((by kernel_rfl:_=bif Iv.valid (Iv.mk a0 a1) then some (.v (.a [.n .i64 (vJJ .i64 (0 - a1)),.n .i64 (vJJ .i64 (0 - a0))]),[])
 else some (.v (.a [.n .i64 0,.n .i64 0]),[])).trans (by
 unfold Iv.neg;cases ha:Iv.valid (Iv.mk a0 a1) with
 | false=>rfl
 | true =>
  have va:=uQ ha;rw [qH (show -9223372036854775808≤0 - a1∧0 - a1≤9223372036854775807 by omega),qH (show -9223372036854775808≤0 - a0∧0 - a0≤9223372036854775807 by omega),show 0 - a1 = -a1 by omega,show 0 - a0 = -a0 by omega]; rfl))) rfl rfl w
set_option maxRecDepth 100000 in
theorem rNeg (a0 a1:Int) (w:World):Calls Tryz.prog 171 [.agg #[.int .i64 a0,.int .i64 a1]].toArray w (Rets (iv (Iv.neg (⟨a0,a1⟩:Iv))) (w)) :=
 zZ (x:=.a (ivC (Iv.neg ⟨a0,a1⟩))) (zY (N:=60) (ps:=[.a [.n .i64 a0,.n .i64 a1]]) yJ zW (OrL.ok (l:=LTn6) qHK) ((by kernel_rfl:_=bif Iv.valid (Iv.mk a0 a1) then some (.v (.a [.n .i64 (vJJ .i64 (0 - a1)),.n .i64 (vJJ .i64 (0 - a0))]),[])
 else some (.v (.a [.n .i64 0,.n .i64 0]),[])).trans (by
 unfold Iv.neg;cases ha:Iv.valid (Iv.mk a0 a1) with
 | false=>rfl
 | true =>
  have va:=uQ ha;rw [qH (show -9223372036854775808≤0 - a1∧0 - a1≤9223372036854775807 by omega),qH (show -9223372036854775808≤0 - a0∧0 - a0≤9223372036854775807 by omega),show 0 - a1 = -a1 by omega,show 0 - a0 = -a0 by omega]; rfl))) rfl rfl w
set_option maxRecDepth 100000 in
theorem iValid2 (a0 a1:Int) (b0 b1:Int) (w:World):Calls Tryz.prog 174 [.agg #[.int .i64 a0,.int .i64 a1],.agg #[.int .i64 b0,.int .i64 b1]].toArray w (Rets (vB ((Iv.valid (⟨a0,a1⟩:Iv) && Iv.valid (⟨b0,b1⟩:Iv)))) (w)) :=
 zZ (x:=.b (Iv.valid ⟨a0,a1⟩ && Iv.valid ⟨b0,b1⟩)) (zY (N:=60) (ps:=[.a [.n .i64 a0,.n .i64 a1],.a [.n .i64 b0,.n .i64 b1]]) yJ zW (OrL.ok (l:=LTn6) qHK) ((by kernel_rfl:_=bif Iv.valid (Iv.mk a0 a1) then (bif Iv.valid (Iv.mk b0 b1) then some (.v (.b true),[])
 else some (.v (.b false),[]))
 else some (.v (.b false),[])).trans (by
 cases Iv.valid (Iv.mk a0 a1) <;> cases Iv.valid (Iv.mk b0 b1) <;> rfl))) rfl rfl w
set_option maxRecDepth 100000 in
theorem rAdd (a0 a1:Int) (b0 b1:Int) (w:World):Calls Tryz.prog 131 [.agg #[.int .i64 a0,.int .i64 a1],.agg #[.int .i64 b0,.int .i64 b1]].toArray w (Rets (iv (Iv.add (⟨a0,a1⟩:Iv) (⟨b0,b1⟩:Iv))) (w)) :=
 zZ (x:=.a (ivC (Iv.add ⟨a0,a1⟩ ⟨b0,b1⟩))) (zY (N:=60) (ps:=[.a [.n .i64 a0,.n .i64 a1],.a [.n .i64 b0,.n .i64 b1]]) yJ zW (OrL.ok (l:=LTn6) qHK) ((by kernel_rfl:_=bif Iv.valid (Iv.mk a0 a1) then (bif Iv.valid (Iv.mk b0 b1) then some (.v (.a (ivC (Iv.limited (vJJ .i64 (a0 + b0)) (vJJ .i64 (a1 + b1))))),[])
 else some (.v (.a [.n .i64 0,.n .i64 0]),[]))
 else some (.v (.a [.n .i64 0,.n .i64 0]),[])).trans (by
 unfold Iv.add;cases ha:Iv.valid (Iv.mk a0 a1) with
 | false=>rfl
 | true =>
  cases hb:Iv.valid (Iv.mk b0 b1) with
  | false=>rfl
  | true =>
   have va:=uQ ha;have vb:=uQ hb;rw [qH (show -9223372036854775808≤a0 + b0∧a0 + b0≤9223372036854775807 by omega),qH (show -9223372036854775808≤a1 + b1∧a1 + b1≤9223372036854775807 by omega)]; rfl))) rfl rfl w
set_option maxRecDepth 100000 in
theorem iAdd (a0 a1:Int) (b0 b1:Int) (w:World):Calls Tryz.prog 156 [.agg #[.int .i64 a0,.int .i64 a1],.agg #[.int .i64 b0,.int .i64 b1]].toArray w (Rets (iv (Iv.add (⟨a0,a1⟩:Iv) (⟨b0,b1⟩:Iv))) (w)) :=
 zZ (x:=.a (ivC (Iv.add ⟨a0,a1⟩ ⟨b0,b1⟩))) (zY (N:=60) (ps:=[.a [.n .i64 a0,.n .i64 a1],.a [.n .i64 b0,.n .i64 b1]]) yJ zW (OrL.ok (l:=LTn6) qHK) ((by kernel_rfl:_=bif Iv.valid (Iv.mk a0 a1) then (bif Iv.valid (Iv.mk b0 b1) then some (.v (.a (ivC (Iv.limited (vJJ .i64 (a0 + b0)) (vJJ .i64 (a1 + b1))))),[])
 else some (.v (.a [.n .i64 0,.n .i64 0]),[]))
 else some (.v (.a [.n .i64 0,.n .i64 0]),[])).trans (by
 unfold Iv.add;cases ha:Iv.valid (Iv.mk a0 a1) with
 | false=>rfl
 | true =>
  cases hb:Iv.valid (Iv.mk b0 b1) with
  | false=>rfl
  | true =>
   have va:=uQ ha;have vb:=uQ hb;rw [qH (show -9223372036854775808≤a0 + b0∧a0 + b0≤9223372036854775807 by omega),qH (show -9223372036854775808≤a1 + b1∧a1 + b1≤9223372036854775807 by omega)]; rfl))) rfl rfl w
set_option maxRecDepth 100000 in
theorem rHull (a0 a1:Int) (b0 b1:Int) (w:World):Calls Tryz.prog 185 [.agg #[.int .i64 a0,.int .i64 a1],.agg #[.int .i64 b0,.int .i64 b1]].toArray w (Rets (iv (Iv.hull (⟨a0,a1⟩:Iv) (⟨b0,b1⟩:Iv))) (w)) :=
 zZ (x:=.a (ivC (Iv.hull ⟨a0,a1⟩ ⟨b0,b1⟩))) (zY (N:=60) (ps:=[.a [.n .i64 a0,.n .i64 a1],.a [.n .i64 b0,.n .i64 b1]]) yJ zW (OrL.ok (l:=LTn6) qHK) ((by kernel_rfl:_=bif Iv.valid (Iv.mk a0 a1) then (bif Iv.valid (Iv.mk b0 b1) then some (.v (.a [.n .i64 (min a0 b0),.n .i64 (max a1 b1)]),[])
 else some (.v (.a [.n .i64 0,.n .i64 0]),[]))
 else some (.v (.a [.n .i64 0,.n .i64 0]),[])).trans (by
 unfold Iv.hull;cases ha:Iv.valid (Iv.mk a0 a1) with
 | false=>rfl
 | true =>
  cases hb:Iv.valid (Iv.mk b0 b1) with
  | false=>rfl
  | true =>
   have va:=uQ ha;have vb:=uQ hb
   rfl))) rfl rfl w
set_option maxRecDepth 100000 in
theorem iHull (a0 a1:Int) (b0 b1:Int) (w:World):Calls Tryz.prog 195 [.agg #[.int .i64 a0,.int .i64 a1],.agg #[.int .i64 b0,.int .i64 b1]].toArray w (Rets (iv (Iv.hull (⟨a0,a1⟩:Iv) (⟨b0,b1⟩:Iv))) (w)) :=
 zZ (x:=.a (ivC (Iv.hull ⟨a0,a1⟩ ⟨b0,b1⟩))) (zY (N:=60) (ps:=[.a [.n .i64 a0,.n .i64 a1],.a [.n .i64 b0,.n .i64 b1]]) yJ zW (OrL.ok (l:=LTn6) qHK) ((by kernel_rfl:_=bif Iv.valid (Iv.mk a0 a1) then (bif Iv.valid (Iv.mk b0 b1) then some (.v (.a [.n .i64 (min a0 b0),.n .i64 (max a1 b1)]),[])
 else some (.v (.a [.n .i64 0,.n .i64 0]),[]))
 else some (.v (.a [.n .i64 0,.n .i64 0]),[])).trans (by
 unfold Iv.hull;cases ha:Iv.valid (Iv.mk a0 a1) with
 | false=>rfl
 | true =>
  cases hb:Iv.valid (Iv.mk b0 b1) with
  | false=>rfl
  | true =>
   have va:=uQ ha;have vb:=uQ hb
   rfl))) rfl rfl w
set_option maxRecDepth 100000 in
theorem iWidth (a0 a1:Int) (w:World):Calls Tryz.prog 194 [.agg #[.int .i64 a0,.int .i64 a1]].toArray w (Rets (vI (Iv.width (⟨a0,a1⟩:Iv))) (w)) :=
 zZ (x:=.n .i64 (Iv.width ⟨a0,a1⟩)) (zY (N:=60) (ps:=[.a [.n .i64 a0,.n .i64 a1]]) yJ zW (OrL.ok (l:=LTn6) qHK) ((by kernel_rfl:_=bif Iv.valid (Iv.mk a0 a1) then some (.v (.n .i64 (vJJ .i64 (a1 - a0))),[])
 else some (.v (.n .i64 0),[])).trans (by
 unfold Iv.width;cases ha:Iv.valid (Iv.mk a0 a1) with
 | false=>rfl
 | true =>
  have va:=uQ ha;rw [qH (show -9223372036854775808≤a1 - a0∧a1 - a0≤9223372036854775807 by omega)]; rfl))) rfl rfl w
set_option maxRecDepth 100000 in
theorem iHas (a0 a1:Int) (x:Int) (w:World):Calls Tryz.prog 201 [.agg #[.int .i64 a0,.int .i64 a1],.int .i64 x].toArray w (Rets (vB (Iv.has (⟨a0,a1⟩:Iv) x)) (w)) :=
 zZ (x:=.b (Iv.has ⟨a0,a1⟩ x)) (zY (N:=60) (ps:=[.a [.n .i64 a0,.n .i64 a1],.n .i64 x]) yJ zW (OrL.ok (l:=LTn6) qHK) ((by kernel_rfl:_=bif Iv.valid (Iv.mk a0 a1) then (bif (decide (a0≤x)) then (bif (decide (x≤a1)) then some (.v (.b true),[])
 else some (.v (.b false),[]))
 else some (.v (.b false),[]))
 else some (.v (.b false),[])).trans (by
 show _=some (Ret.v (.b (Iv.valid (Iv.mk a0 a1) && decide (a0≤x) && decide (x≤a1))),[]);cases Iv.valid (Iv.mk a0 a1) <;> cases decide (a0≤x) <;> cases decide (x≤a1) <;> rfl))) rfl rfl w
theorem zWG (a:Int) (k:Int) (_:0≤k∧k≤62) (w:World):Calls Tryz.prog 180 [.int .i64 a,.int .i64 k].toArray w (Rets (vI (a / 2 ^ (k).toNat)) (w)):=by
 refine jU (n:=11) Tryz.func180 rfl rfl rfl ?_;refine zU ?_;refine qK ?_;refine qV (zQ rfl) rfl rfl rfl ?_;refine zX ?_;refine qJ ?_;refine zU ?_;refine zU ?_;refine qK ?_;refine qV (qG rfl) rfl rfl rfl ?_;refine qV (qWZ rfl rfl) rfl rfl rfl ?_;refine zX ?_;refine qJ ?_;refine zZJ rfl (by simp; omega) ?_;refine qZW ?_;refine qJ ?_;refine zU ?_;refine qK ?_;refine qV (qG rfl) rfl rfl rfl ?_;refine qV (qG rfl) rfl rfl rfl ?_;refine qV (jZX rfl rfl (by first | decide | omega) (shr_eq (by omega) (by omega))) rfl rfl rfl ?_;refine qV (zQ rfl) rfl rfl rfl ?_;refine zX ?_;refine qJ ?_;refine uV ?_;refine jG (rs:=[.tmp 4]) rfl (resC (uW rfl) (resN)) (congrArg (vI) (?_:_=a / 2 ^ (k).toNat))
 first | rfl | (subst_vars; rfl) | (subst_vars; simp_all)
theorem yVY (a:Int) (k:Int) (_:0≤k∧k≤62) (ha:In64 a) (w:World):Calls Tryz.prog 181 [.int .i64 a,.int .i64 k].toArray w (Rets (vI (zK a (2 ^ (k).toNat))) (w)):=by
 refine jU (n:=20) Tryz.func181 rfl rfl rfl ?_;refine zU ?_;refine qK ?_;refine qV (zQ rfl) rfl rfl rfl ?_;refine zX ?_;refine qJ ?_;refine zU ?_;refine zU ?_;refine qK ?_;refine qV (qG rfl) rfl rfl rfl ?_;refine qV (qWZ rfl rfl) rfl rfl rfl ?_;refine zX ?_;refine qJ ?_;refine zZJ rfl (by simp; omega) ?_;refine qZW ?_;refine qJ ?_;refine zU ?_;refine qK ?_;refine qV (qG rfl) rfl rfl rfl ?_;refine qV (qG rfl) rfl rfl rfl ?_;refine qV (jZX rfl rfl (by first | decide | omega) (shr_eq (by omega) (by omega))) rfl rfl rfl ?_;refine qV (zQ rfl) rfl rfl rfl ?_;refine zX ?_;refine qJ ?_;refine zU ?_;refine zU ?_;refine qK ?_;refine qV (qG rfl) rfl rfl rfl ?_;refine qV (qG rfl) rfl rfl rfl ?_;refine qV (opV_shl rfl rfl (by first | decide | omega) (shl_eq ha (by omega) (by omega))) rfl rfl rfl ?_;refine qV (qG rfl) rfl rfl rfl ?_;refine qV (yUJ rfl rfl) rfl rfl rfl ?_;refine zX ?_;refine qJ ?_;refine qUW rfl (fun hc16 => ?_) (fun hc16 => ?_)
 ·
  have h1:¬ a / 2 ^ k.toNat * 2 ^ k.toNat=a:=by simpa using hc16
  have h2:=ceil_of_ne (Int.pow_pos (by decide)) h1;refine qK ?_;refine qV (qG rfl) rfl rfl rfl ?_;refine qV (qKG rfl rfl (qH (shiftUp_bnd ha h1))) rfl rfl rfl ?_;refine qV (zQ rfl) rfl rfl rfl ?_;refine zX ?_;refine qJ ?_;refine zU ?_;refine qK ?_;refine qV (qG rfl) rfl rfl rfl ?_;refine qV (zQ rfl) rfl rfl rfl ?_;refine zX ?_;refine qJ ?_;refine uV ?_;refine jG (rs:=[.tmp 4]) rfl (resC (uW rfl) (resN)) (congrArg (vI) (?_:_=zK a (2 ^ (k).toNat)));exact h2
 ·
  have h1:a / 2 ^ k.toNat * 2 ^ k.toNat=a:=by simpa using hc16
  have h2:=ceil_of_mul (Int.pow_pos (by decide)) h1;refine qZW ?_;refine qJ ?_;refine zU ?_;refine qK ?_;refine qV (qG rfl) rfl rfl rfl ?_;refine qV (zQ rfl) rfl rfl rfl ?_;refine zX ?_;refine qJ ?_;refine uV ?_;refine jG (rs:=[.tmp 4]) rfl (resC (uW rfl) (resN)) (congrArg (vI) (?_:_=zK a (2 ^ (k).toNat)));exact h2
theorem jWK (a:Int) (b:Int) (ha:In64 a) (hb:0 < b) (w:World):Calls Tryz.prog 161 [.int .i64 a,.int .i64 b].toArray w (Rets (vI (a / b)) (w)):=by
 refine jU (n:=16) Tryz.func161 rfl rfl rfl ?_;refine zU ?_;have hq:=zGY ha hb;refine qK ?_;refine qV (zQ rfl) rfl rfl rfl ?_;refine zX ?_;refine qJ ?_;refine zU ?_;refine qK ?_;refine qV (qG rfl) rfl rfl rfl ?_;refine qV (qG rfl) rfl rfl rfl ?_;refine qV (yUY rfl rfl (by first | decide | omega) (qH hq)) rfl rfl rfl ?_;refine qV (zQ rfl) rfl rfl rfl ?_;refine zX ?_;refine qJ ?_;refine zU ?_;refine zU ?_;refine qK ?_;refine qV (qG rfl) rfl rfl rfl ?_;refine qV (qG rfl) rfl rfl rfl ?_;refine qV (zUH rfl rfl (by first | decide | omega) rfl) rfl rfl rfl ?_;refine qV (qWZ rfl rfl) rfl rfl rfl ?_;refine zX ?_;refine qJ ?_;refine qUW rfl (fun hc12 => ?_) (fun hc12 => ?_)
 ·
  refine qK ?_;refine qV (qG rfl) rfl rfl rfl ?_;refine qV (yZY rfl rfl (qH (floor_bnd ha hb (by simpa using hc12)))) rfl rfl rfl ?_;refine qV (zQ rfl) rfl rfl rfl ?_;refine zX ?_;refine qJ ?_;refine zU ?_;refine qK ?_;refine qV (qG rfl) rfl rfl rfl ?_;refine qV (zQ rfl) rfl rfl rfl ?_;refine zX ?_;refine qJ ?_;refine uV ?_;refine jG (rs:=[.tmp 4]) rfl (resC (uW rfl) (resN)) (congrArg (vI) (?_:_=a / b));exact yYX hb (by simpa using hc12)
 ·
  refine qZW ?_;refine qJ ?_;refine zU ?_;refine qK ?_;refine qV (qG rfl) rfl rfl rfl ?_;refine qV (zQ rfl) rfl rfl rfl ?_;refine zX ?_;refine qJ ?_;refine uV ?_;refine jG (rs:=[.tmp 4]) rfl (resC (uW rfl) (resN)) (congrArg (vI) (?_:_=a / b));exact floor_pos hb (by simpa using hc12)
theorem kJZ (a:Int) (b:Int) (ha:In64 a) (hb:0 < b) (w:World):Calls Tryz.prog 162 [.int .i64 a,.int .i64 b].toArray w (Rets (vI (zK a b)) (w)):=by
 refine jU (n:=16) Tryz.func162 rfl rfl rfl ?_;refine zU ?_;have hq:=zGY ha hb;refine qK ?_;refine qV (zQ rfl) rfl rfl rfl ?_;refine zX ?_;refine qJ ?_;refine zU ?_;refine qK ?_;refine qV (qG rfl) rfl rfl rfl ?_;refine qV (qG rfl) rfl rfl rfl ?_;refine qV (yUY rfl rfl (by first | decide | omega) (qH hq)) rfl rfl rfl ?_;refine qV (zQ rfl) rfl rfl rfl ?_;refine zX ?_;refine qJ ?_;refine zU ?_;refine zU ?_;refine qK ?_;refine qV (qG rfl) rfl rfl rfl ?_;refine qV (qG rfl) rfl rfl rfl ?_;refine qV (zUH rfl rfl (by first | decide | omega) rfl) rfl rfl rfl ?_;refine qV (opV_gtr rfl rfl) rfl rfl rfl ?_;refine zX ?_;refine qJ ?_;refine qUW rfl (fun hc12 => ?_) (fun hc12 => ?_)
 ·
  refine qK ?_;refine qV (qG rfl) rfl rfl rfl ?_;refine qV (qKG rfl rfl (qH (ceil_bnd ha hb (by simpa using hc12)))) rfl rfl rfl ?_;refine qV (zQ rfl) rfl rfl rfl ?_;refine zX ?_;refine qJ ?_;refine zU ?_;refine qK ?_;refine qV (qG rfl) rfl rfl rfl ?_;refine qV (zQ rfl) rfl rfl rfl ?_;refine zX ?_;refine qJ ?_;refine uV ?_;refine jG (rs:=[.tmp 4]) rfl (resC (uW rfl) (resN)) (congrArg (vI) (?_:_=zK a b));exact ceil_pos hb (by simpa using hc12)
 ·
  refine qZW ?_;refine qJ ?_;refine zU ?_;refine qK ?_;refine qV (qG rfl) rfl rfl rfl ?_;refine qV (zQ rfl) rfl rfl rfl ?_;refine zX ?_;refine qJ ?_;refine uV ?_;refine jG (rs:=[.tmp 4]) rfl (resC (uW rfl) (resN)) (congrArg (vI) (?_:_=zK a b));exact ceil_neg hb (by simpa using hc12)
theorem rMul (a0 a1:Int) (b0 b1:Int) (w:World):Calls Tryz.prog 132 [.agg #[.int .i64 a0,.int .i64 a1],.agg #[.int .i64 b0,.int .i64 b1]].toArray w (Rets (iv (Iv.mul (⟨a0,a1⟩:Iv) (⟨b0,b1⟩:Iv))) (w)):=by
 refine jU (n:=51) Tryz.func132 rfl rfl rfl ?_;refine zU ?_;refine qK ?_;refine zYW 2 rfl rfl rfl rfl ?_; intro b2;refine zYW 3 rfl rfl rfl rfl ?_; intro b3;refine qVW 4 ze62 rfl rfl rfl ?_; intro b4;refine zX ?_;refine qJ ?_;refine zU ?_;refine zU ?_;refine qK ?_;refine qV (qYG 2 ty62 rfl rfl rfl) rfl rfl rfl ?_;refine qXJ (F:=vB) (uZ en148 rfl (fun w _=>jKW _ _  w)) rfl rfl rfl ?_; intro r10 hr10;refine qV (yZJ rfl) rfl rfl rfl ?_;refine qV (qG rfl) rfl rfl rfl ?_;refine doL_split 12 rfl (fun hg12 => ?_) (fun hg12 => ?_)
 ·
  refine yVX rfl rfl rfl ?_;refine yVX rfl rfl rfl ?_;refine yVX rfl rfl rfl ?_;refine qV (opV_pick_t rfl rfl rfl rfl) rfl rfl rfl ?_;refine zX ?_;refine qJ ?_;refine qVG rfl (rfl) ?_;refine zU ?_;refine qK ?_;refine qV (qUH la62 rfl rfl) rfl rfl rfl ?_;refine qJZ 4 ty62 rfl rfl rfl rfl rfl rfl rfl rfl ?_;refine zX ?_;refine qJ ?_;refine uV ?_;refine qGK ?_;refine jG (rs:=[.cell 4 62]) rfl (resC (qKU 4 rfl rfl ty62 rfl) (resN)) (congrArg (iv) (?_:⟨_,_⟩=Iv.mul (⟨a0,a1⟩:Iv) (⟨b0,b1⟩:Iv)))
  subst_vars; first | (simp_all [Iv.mul,Iv.limited,min4,max4]; done) | (simp_all [Iv.mul,Iv.limited,min4,max4] <;> omega) | grind [Iv.mul,Iv.limited,min4,max4]
 ·
  refine qV (qYG 3 ty62 rfl rfl rfl) rfl rfl rfl ?_;refine qXJ (F:=vB) (uZ en148 rfl (fun w _=>jKW _ _  w)) rfl rfl rfl ?_; intro r14 hr14;refine qV (yZJ rfl) rfl rfl rfl ?_;refine qV (zXQ rfl rfl rfl rfl) rfl rfl rfl ?_;refine zX ?_;refine qJ ?_;refine qUW rfl (fun hc16 => ?_) (fun hc16 => ?_)
  ·
   refine zU ?_;refine qK ?_;refine qV (qUH la62 rfl rfl) rfl rfl rfl ?_;refine qJZ 4 ty62 rfl rfl rfl rfl rfl rfl rfl rfl ?_;refine zX ?_;refine qJ ?_;refine uV ?_;refine qGK ?_;refine jG (rs:=[.cell 4 62]) rfl (resC (qKU 4 rfl rfl ty62 rfl) (resN)) (congrArg (iv) (?_:⟨_,_⟩=Iv.mul (⟨a0,a1⟩:Iv) (⟨b0,b1⟩:Iv)))
   subst_vars; first | (simp_all [Iv.mul,Iv.limited,min4,max4]; done) | (simp_all [Iv.mul,Iv.limited,min4,max4] <;> omega) | grind [Iv.mul,Iv.limited,min4,max4]
  ·
   refine qZW ?_;refine qJ ?_;refine zU ?_;have ha:=uQ (hr10.symm.trans (by simpa using hg12));have hb:=uQ (hr14.symm.trans (by simpa using hc16));have m1:=qHZ (a:=a0) (b:=b0) (by omega) (by omega);have m2:=qHZ (a:=a0) (b:=b1) (by omega) (by omega);have m3:=qHZ (a:=a1) (b:=b0) (by omega) (by omega);have m4:=qHZ (a:=a1) (b:=b1) (by omega) (by omega);refine qVV 23 mo (by kernel_rfl) ?_;simp only [vYK,vYX,vYU,vYW];refine kZ (zG qHU rfl) rfl rfl rfl ?_;refine kZ (jQ 2 ty2 rfl rfl rfl) rfl rfl rfl ?_;refine kZ (zG qHU rfl) rfl rfl rfl ?_;refine kZ (jQ 3 ty2 rfl rfl rfl) rfl rfl rfl ?_;refine kZ (qGX rfl rfl (by first | exact qH ⟨by omega,by omega⟩ | rfl)) rfl rfl rfl ?_;refine kZ (zG qHU rfl) rfl rfl rfl ?_;refine kZ (jQ 2 ty2 rfl rfl rfl) rfl rfl rfl ?_;refine kZ (zG zKU rfl) rfl rfl rfl ?_;refine kZ (jQ 3 ty2 rfl rfl rfl) rfl rfl rfl ?_;refine kZ (qGX rfl rfl (by first | exact qH ⟨by omega,by omega⟩ | rfl)) rfl rfl rfl ?_;refine kZ (zG zKU rfl) rfl rfl rfl ?_;refine kZ (jQ 2 ty2 rfl rfl rfl) rfl rfl rfl ?_;refine kZ (zG qHU rfl) rfl rfl rfl ?_;refine kZ (jQ 3 ty2 rfl rfl rfl) rfl rfl rfl ?_;refine kZ (qGX rfl rfl (by first | exact qH ⟨by omega,by omega⟩ | rfl)) rfl rfl rfl ?_;refine kZ (zG zKU rfl) rfl rfl rfl ?_;refine kZ (jQ 2 ty2 rfl rfl rfl) rfl rfl rfl ?_;refine kZ (zG zKU rfl) rfl rfl rfl ?_;refine kZ (jQ 3 ty2 rfl rfl rfl) rfl rfl rfl ?_;refine kZ (qGX rfl rfl (by first | exact qH ⟨by omega,by omega⟩ | rfl)) rfl rfl rfl ?_;refine kZ (zQ rfl) rfl rfl rfl ?_;refine kZ (zQ rfl) rfl rfl rfl ?_;refine kZ (zQ rfl) rfl rfl rfl ?_;refine zWH ?_;refine zQX ?_;refine qV (zQ rfl) rfl rfl rfl ?_;refine zX ?_;refine qJ ?_;refine zU ?_;refine qK ?_;refine qV (qG rfl) rfl rfl rfl ?_;refine qV (qG rfl) rfl rfl rfl ?_;refine qV (qG rfl) rfl rfl rfl ?_;refine qV (qG rfl) rfl rfl rfl ?_;refine qV (opV_min4 rfl rfl rfl rfl) rfl rfl rfl ?_;refine qXJ (F:=vI) (uZ en161 rfl (fun w _=>jWK _ _ (by unfold In64; omega) (by omega) w)) rfl rfl rfl ?_; intro r43 hr43;refine qV (qG rfl) rfl rfl rfl ?_;refine qV (qG rfl) rfl rfl rfl ?_;refine qV (qG rfl) rfl rfl rfl ?_;refine qV (qG rfl) rfl rfl rfl ?_;refine qV (opV_max4 rfl rfl rfl rfl) rfl rfl rfl ?_;refine qXJ (F:=vI) (uZ en162 rfl (fun w _=>kJZ _ _ (by unfold In64; omega) (by omega) w)) rfl rfl rfl ?_; intro r49 hr49;refine qXJ (F:=iv) (uZ en160 rfl (fun w _=>rLimited _ _  w)) rfl rfl rfl ?_; intro r50 hr50;refine qJZ 4 ty62 rfl rfl rfl rfl rfl rfl rfl rfl ?_;refine zX ?_;refine qJ ?_;refine uV ?_;refine jG (rs:=[.cell 4 62]) rfl (resC (qKU 4 rfl rfl ty62 rfl) (resN)) (congrArg (iv) (?_:⟨_,_⟩=Iv.mul (⟨a0,a1⟩:Iv) (⟨b0,b1⟩:Iv)))
   subst_vars; first | (simp_all [Iv.mul,Iv.limited,min4,max4]; done) | (simp_all [Iv.mul,Iv.limited,min4,max4] <;> omega) | grind [Iv.mul,Iv.limited,min4,max4]
end Go.Proofs.YtgmbkkkbfbocnaaGreat

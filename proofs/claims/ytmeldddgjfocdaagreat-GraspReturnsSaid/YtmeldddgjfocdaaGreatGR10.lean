/- Part 10 of the texts behind the last one: rules and contracts. No condition. -/
import Derived.Test.YtmeldddgjfocdaaGreatGR9
open Option renaming bind_eq_some_iff → vQQ
open Option.some renaming injEq → vQZ
open Prod.mk renaming injEq → vQY
open Bool renaming and_eq_true → vQJ, and_self → vZJ, true_and → vZH
open List renaming take_succ_cons → vYK, drop_succ_cons → vYU, take_zero → vYX, drop_zero → vYW
open Go.IntKind renaming wrap → vJJ
namespace Go.Proofs.YtmeldddgjfocdaaGreat
open Go.Sx Go.Rx Rt Go.RowKit
namespace Ta
end Ta
open Ta
theorem xYB:uW Tryz.prog 184:=qW Tryz.func184 (by kernel_rfl) (by kernel_rfl)
theorem xYA:uW Tryz.prog 185:=qW Tryz.func185 (by kernel_rfl) (by kernel_rfl)
theorem fZX:uW Tryz.prog 201:=qW Tryz.func201 (by kernel_rfl) (by kernel_rfl)
theorem fZW:uW Tryz.prog 191:=qW Tryz.func191 (by kernel_rfl) (by kernel_rfl)
theorem fZU:uW Tryz.prog 205:=qW Tryz.func205 (by kernel_rfl) (by kernel_rfl)
theorem fZK (a:Int) (w:World):Calls Tryz.prog 184 [.int .i64 a,.int .i64 14].toArray w (Rets (vI (a / 16384)) w):=zZJ a 14 (by decide) w
theorem fZJ (a:Int) (ha:In64 a) (w:World):Calls Tryz.prog 185 [.int .i64 a,.int .i64 14].toArray w (Rets (vI (zX a 16384)) w):=zHJ a 14 (by decide) ha w
theorem aMod (a:Int) (w:World):Calls Tryz.prog 201 [.int .i64 a].toArray w (Rets (vI (a % 65536)) (w)):=by
 refine jX (n:=5) Tryz.func201 rfl rfl rfl ?_;refine zK ?_;refine qU ?_;refine qG (zY rfl) rfl rfl rfl ?_;refine zU ?_;refine qK ?_;refine zK ?_;refine qU ?_;refine qG (qV rfl) rfl rfl rfl ?_;refine qG (jKD rfl rfl kXZ) rfl rfl rfl ?_;refine qG (zY rfl) rfl rfl rfl ?_;refine zU ?_;refine qK ?_;refine qQJ ?_;refine kJ (rs:=[.tmp 2]) rfl (resC (qQY rfl) (resN)) (congrArg (vI) (?_:_=a % 65536))
 first | rfl | (subst_vars; rfl) | (subst_vars; simp_all)
theorem rMod (a:Int) (w:World):Calls Tryz.prog 191 [.int .i64 a].toArray w (Rets (vI (a % 65536)) (w)):=by
 refine jX (n:=7) Tryz.func191 rfl rfl rfl ?_;refine zK ?_;have h0 : -65536 < a.tmod 65536:=by have:=Int.lt_tmod_of_pos a (show (0:Int) < 65536 by decide); omega
 have h1:a.tmod 65536 < 65536:=Int.tmod_lt_of_pos a (by decide);refine qU ?_;refine qG (zY rfl) rfl rfl rfl ?_;refine zU ?_;refine qK ?_;refine zK ?_;refine qU ?_;refine qG (qV rfl) rfl rfl rfl ?_;refine qG (zQK rfl rfl (by first | decide | omega) (by first | exact tmod_nonneg (by omega) (by omega) | rfl)) rfl rfl rfl ?_;refine qG (qYB rfl rfl (by first | exact zQ ⟨by omega,by omega⟩ | rfl)) rfl rfl rfl ?_;refine qG (zQK rfl rfl (by first | decide | omega) (by first | exact tmod_nonneg (by omega) (by omega) | rfl)) rfl rfl rfl ?_;refine qG (zY rfl) rfl rfl rfl ?_;refine zU ?_;refine qK ?_;refine qQJ ?_;refine kJ (rs:=[.tmp 2]) rfl (resC (qQY rfl) (resN)) (congrArg (vI) (?_:_=a % 65536))
 have:=Int.tdiv_mul_add_tmod a 65536; omega
theorem fZI (a:Int) (b:Int) (ha:0≤a∧a≤1073741824) (hb:0 < b∧b≤1073741824) (w:World):Calls Tryz.prog 210 [.int .i64 a,.int .i64 b].toArray w (Rets (vI (zX a b)) (w)):=by
 refine jX (n:=11) Tryz.func210 rfl rfl rfl ?_;refine zK ?_;refine qU ?_;refine qG (zY rfl) rfl rfl rfl ?_;refine zU ?_;refine qK ?_;refine zK ?_;refine qU ?_;refine qG (qV rfl) rfl rfl rfl ?_;refine qG (qV rfl) rfl rfl rfl ?_;refine qG (qYB rfl rfl (by first | exact zQ ⟨by omega,by omega⟩ | rfl)) rfl rfl rfl ?_;refine qG (zKY rfl rfl (by first | exact zQ ⟨by omega,by omega⟩ | rfl)) rfl rfl rfl ?_;refine qG (qV rfl) rfl rfl rfl ?_;refine qG (zVV rfl rfl (by first | decide | omega) (kUC ha hb)) rfl rfl rfl ?_;refine qG (zY rfl) rfl rfl rfl ?_;refine zU ?_;refine qK ?_;refine qQJ ?_;refine kJ (rs:=[.tmp 4]) rfl (resC (qQY rfl) (resN)) (congrArg (vI) (?_:_=zX a b))
 first | rfl | (subst_vars; rfl) | (subst_vars; simp_all)
theorem aEnc (lo:Int) (hi:Int) (hh:In64 hi) (w:World):Calls Tryz.prog 211 [.int .i64 lo,.int .i64 hi].toArray w (Rets (iv (encI lo hi)) (w)):=by
 refine jX (n:=12) Tryz.func211 rfl rfl rfl ?_;refine zK ?_;refine qU ?_;refine qUY 4 ze62 rfl rfl rfl ?_; intro b4;refine zU ?_;refine qK ?_;refine zK ?_;refine qU ?_;refine qG (qV rfl) rfl rfl rfl ?_;refine qKX (F:=vI) (uJ xYB rfl (fun w _=>fZK _ w)) rfl rfl rfl ?_; intro r6 hr6;refine qG (qXV rfl rfl) rfl rfl rfl ?_;refine qG (qV rfl) rfl rfl rfl ?_;refine qKX (F:=vI) (uJ xYA rfl (fun w _=>fZJ _ hh w)) rfl rfl rfl ?_; intro r9 hr9;refine qG (qXW rfl rfl) rfl rfl rfl ?_;refine qG (qJI la62 rfl rfl) rfl rfl rfl ?_;refine qZC 4 ty62 rfl rfl rfl rfl rfl rfl rfl rfl ?_;refine zU ?_;refine qK ?_;refine qQJ ?_;refine kJ (rs:=[.cell 4 62]) rfl (resC (qJX 4 rfl rfl ty62 rfl) (resN)) (congrArg (iv) (?_:⟨_,_⟩=encI lo hi))
 subst_vars; first | (simp_all [encI]; done) | (simp_all [encI] <;> omega) | grind [encI]
theorem rEnc (lo:Int) (hi:Int) (hl:In64 lo) (hh:In64 hi) (w:World):Calls Tryz.prog 204 [.int .i64 lo,.int .i64 hi].toArray w (Rets (iv (encI lo hi)) (w)):=by
 refine jX (n:=12) Tryz.func204 rfl rfl rfl ?_;refine zK ?_;refine qU ?_;refine qUY 4 ze62 rfl rfl rfl ?_; intro b4;refine zU ?_;refine qK ?_;refine zK ?_;refine qU ?_;refine qG (qV rfl) rfl rfl rfl ?_;refine qKX (F:=vI) (uJ xYD rfl (fun w _=>jKV _ _ hl (by decide) w)) rfl rfl rfl ?_; intro r6 hr6;refine qG (qXV rfl rfl) rfl rfl rfl ?_;refine qG (qV rfl) rfl rfl rfl ?_;refine qKX (F:=vI) (uJ xYC rfl (fun w _=>uZD _ _ hh (by decide) w)) rfl rfl rfl ?_; intro r9 hr9;refine qG (qXW rfl rfl) rfl rfl rfl ?_;refine qG (qJI la62 rfl rfl) rfl rfl rfl ?_;refine qZC 4 ty62 rfl rfl rfl rfl rfl rfl rfl rfl ?_;refine zU ?_;refine qK ?_;refine qQJ ?_;refine kJ (rs:=[.cell 4 62]) rfl (resC (qJX 4 rfl rfl ty62 rfl) (resN)) (congrArg (iv) (?_:⟨_,_⟩=encI lo hi))
 subst_vars; first | (simp_all [encI]; done) | (simp_all [encI] <;> omega) | grind [encI]
theorem xJG (a0 a1:Int) (c:Int) (hv:Iv.valid (⟨a0,a1⟩:Iv)=true) (_:0≤c∧c < 65536) (w:World):Calls Tryz.prog 200 [.agg #[.int .i64 a0,.int .i64 a1],.int .i64 c].toArray w (Rets (vB (uQ (⟨a0,a1⟩:Iv) c)) (w)):=by
 refine jX (n:=15) Tryz.func200 rfl rfl rfl ?_;refine zK ?_;have hv2:=uV hv;refine qU ?_;refine qWC 2 rfl rfl rfl rfl ?_; intro b2;refine qG (zY rfl) rfl rfl rfl ?_;refine zU ?_;refine qK ?_;refine zK ?_;refine qJL 10 mo (by kernel_rfl) ?_;simp only [vYK,vYX,vYU,vYW];refine jK (qZB 2 ty62 rfl rfl rfl) rfl rfl rfl ?_;refine jK (zH qXL rfl) rfl rfl rfl ?_;refine jK (jZ 2 ty2 rfl rfl rfl) rfl rfl rfl ?_;refine jK (qV rfl) rfl rfl rfl ?_;refine jK (zH qXL rfl) rfl rfl rfl ?_;refine jK (jZ 2 ty2 rfl rfl rfl) rfl rfl rfl ?_;refine jK (zKY rfl rfl (by first | exact zQ ⟨by omega,by omega⟩ | rfl)) rfl rfl rfl ?_;refine zUU (F:=vI) (uJ fZX rfl (fun w _=>aMod _  w)) rfl rfl rfl ?_; intro r12 hr12;have qr12:0≤r12∧r12 < 65536:=by omega
 refine jK (qYB rfl rfl (by first | exact zQ ⟨by omega,by omega⟩ | rfl)) rfl rfl rfl ?_;refine zUU (F:=vB) (uJ fZU rfl (fun w _=>iHas _ _ _  w)) rfl rfl rfl ?_; intro r14 hr14;refine qWD ?_;refine qUW ?_;refine qG (zY rfl) rfl rfl rfl ?_;refine zU ?_;refine qK ?_;refine qQJ ?_;refine kJ (rs:=[.tmp 4]) rfl (resC (qQY rfl) (resN)) (congrArg (vB) (?_:_=uQ (⟨a0,a1⟩:Iv) c))
 subst_vars; simp only [Iv.has,uQ,hv,vZH]; rw [vJQ (by omega),vZH]
theorem uVV (a0 a1:Int) (c:Int) (hv:Iv.valid (⟨a0,a1⟩:Iv)=true) (_:0≤c∧c < 65536) (w:World):Calls Tryz.prog 190 [.agg #[.int .i64 a0,.int .i64 a1],.int .i64 c].toArray w (Rets (vB (uQ (⟨a0,a1⟩:Iv) c)) (w)):=by
 refine jX (n:=16) Tryz.func190 rfl rfl rfl ?_;refine zK ?_;have hv2:=uV hv;refine qU ?_;refine qWC 2 rfl rfl rfl rfl ?_; intro b2;refine qG (zY rfl) rfl rfl rfl ?_;refine zU ?_;refine qK ?_;refine zK ?_;refine qJL 11 mo (by kernel_rfl) ?_;simp only [vYK,vYX,vYU,vYW];refine jK (zH qXL rfl) rfl rfl rfl ?_;refine jK (jZ 2 ty2 rfl rfl rfl) rfl rfl rfl ?_;refine jK (qV rfl) rfl rfl rfl ?_;refine jK (zH qXL rfl) rfl rfl rfl ?_;refine jK (jZ 2 ty2 rfl rfl rfl) rfl rfl rfl ?_;refine jK (zKY rfl rfl (by first | exact zQ ⟨by omega,by omega⟩ | rfl)) rfl rfl rfl ?_;refine zUU (F:=vI) (uJ fZW rfl (fun w _=>rMod _  w)) rfl rfl rfl ?_; intro r11 hr11;have qr11:0≤r11∧r11 < 65536:=by omega
 refine jK (qYB rfl rfl (by first | exact zQ ⟨by omega,by omega⟩ | rfl)) rfl rfl rfl ?_;refine jK (zH qHX rfl) rfl rfl rfl ?_;refine jK (jZ 2 ty2 rfl rfl rfl) rfl rfl rfl ?_;refine jK (jKA rfl rfl) rfl rfl rfl ?_;refine qWD ?_;refine qUW ?_;refine qG (zY rfl) rfl rfl rfl ?_;refine zU ?_;refine qK ?_;refine qQJ ?_;refine kJ (rs:=[.tmp 4]) rfl (resC (qQY rfl) (resN)) (congrArg (vB) (?_:_=uQ (⟨a0,a1⟩:Iv) c))
 subst_vars; simp [uQ]
theorem xZV (n:Int) (k:Int) (hk:0 < k∧k≤9223372036854775807) (w:World):Calls Tryz.prog 23 [.int .i64 n,.int .i64 k].toArray w (Rets (vI (n % k)) (w)):=by
 refine jX (n:=15) Tryz.func23 rfl rfl rfl ?_;refine zK ?_;have h0:=Int.lt_tmod_of_pos n hk.1;have h1:=Int.tmod_lt_of_pos n hk.1;refine qU ?_;refine qG (zY rfl) rfl rfl rfl ?_;refine zU ?_;refine qK ?_;refine zK ?_;refine qU ?_;refine qG (qV rfl) rfl rfl rfl ?_;refine qG (qV rfl) rfl rfl rfl ?_;refine qG (zQK rfl rfl (by first | decide | omega) rfl) rfl rfl rfl ?_;refine qG (zY rfl) rfl rfl rfl ?_;refine zU ?_;refine qK ?_;refine zK ?_;refine zK ?_;refine qU ?_;refine qG (qV rfl) rfl rfl rfl ?_;refine qG (qKK rfl rfl) rfl rfl rfl ?_;refine zU ?_;refine qK ?_;refine qYI rfl (fun hc10 => ?_) (fun hc10 => ?_)
 ·
  have h2:=vJZ hc10;refine qU ?_;refine qG (qV rfl) rfl rfl rfl ?_;refine qG (qV rfl) rfl rfl rfl ?_;refine qG (qYB rfl rfl (by first | exact zQ ⟨by omega,by omega⟩ | rfl)) rfl rfl rfl ?_;refine qG (zY rfl) rfl rfl rfl ?_;refine zU ?_;refine qK ?_;refine zK ?_;refine qU ?_;refine qG (qV rfl) rfl rfl rfl ?_;refine qG (zY rfl) rfl rfl rfl ?_;refine zU ?_;refine qK ?_;refine qQJ ?_;refine kJ (rs:=[.tmp 4]) rfl (resC (qQY rfl) (resN)) (congrArg (vI) (?_:_=n % k));exact jJF hk.1 h2
 ·
  have h2:=vJY hc10;refine qQE ?_;refine qK ?_;refine zK ?_;refine qU ?_;refine qG (qV rfl) rfl rfl rfl ?_;refine qG (zY rfl) rfl rfl rfl ?_;refine zU ?_;refine qK ?_;refine qQJ ?_;refine kJ (rs:=[.tmp 4]) rfl (resC (qQY rfl) (resN)) (congrArg (vI) (?_:_=n % k));exact jJE hk.1 h2
namespace Ta
def iw (a:Int):Bool:=decide (-9223372036854775808≤a∧a≤9223372036854775807)
def pw (a:Int):Bool:=decide (0≤a∧a≤1073741824)
theorem jZV {a:Int} (h:iw a=true):In64 a:=by unfold iw at h; simp only [decide_eq_true_eq] at h; unfold In64; omega
theorem xWD {a:Int} (h:pw a=true):0≤a∧a≤1073741824:=vJZ h
theorem iww (y:Int):iw (vJJ .i64 y)=true:=by
 refine vJQ ?_;unfold IntKind.wrap;have hb:IntKind.i64.bits=64:=rfl;have hs:IntKind.i64.signed=true:=rfl;simp only [hb,hs,vZH,decide_eq_true_eq]
 split <;> omega
theorem kUU {x:Int} (h:0≤x∧x≤8192) (k:Nat):iw (dn x k)=true:=by have:=qJH h k; exact vJQ (by omega)
theorem kUK {x:Int} (h:0≤x∧x≤8192) (k:Nat):iw (up x k)=true:=by have:=qZL h k; exact vJQ (by omega)
theorem kZZ {x:Int} (h:0≤x∧x≤8192) (k:Nat):pw (up x k)=true:=vJQ (qZL h k)
noncomputable def qWH:List PV→Option (Bool × Ret):=fun ps=>match ps with
 | [.n .i64 a,.n .i64 k]=>some (decide (0≤k∧k≤62),.v (.n .i64 (a / 2 ^ Int.toNat k)))
 | _=>none
theorem zVC:zJ Tryz.prog 184 qWH:=by
 intro ps r h;unfold qWH at h;split at h
 ·simp only [vQZ,vQY] at h;obtain ⟨hg,rfl⟩:=h
  try simp only [vQJ,decide_eq_true_eq] at hg
  exact qX (qW Tryz.func184 (by kernel_rfl) (by kernel_rfl)) rfl rfl (fun w=>zZJ _ _ hg w)
 ·cases h
noncomputable def LTa1:OrL:=(184,qWH) :: ([]:OrL)
theorem uXE:AllP (fun x:Nat × (List PV→Option (Bool × Ret))=>zJ Tryz.prog x.1 x.2) LTa1:=⟨zVC,trivial⟩
noncomputable def zQF:List PV→Option (Bool × Ret):=fun ps=>match ps with
 | [.n .i64 a,.n .i64 k]=>some (decide (0≤k∧k≤62) && iw a,.v (.n .i64 (zX a (2 ^ Int.toNat k))))
 | _=>none
theorem yUB:zJ Tryz.prog 185 zQF:=by
 intro ps r h;unfold zQF at h;split at h
 ·simp only [vQZ,vQY] at h;obtain ⟨hg,rfl⟩:=h
  try simp only [vQJ,decide_eq_true_eq] at hg
  exact qX (qW Tryz.func185 (by kernel_rfl) (by kernel_rfl)) rfl rfl (fun w=>zHJ _ _ hg.1 (jZV hg.2) w)
 ·cases h
noncomputable def LTa2:OrL:=(185,zQF) :: LTa1
theorem uXD:AllP (fun x:Nat × (List PV→Option (Bool × Ret))=>zJ Tryz.prog x.1 x.2) LTa2:=⟨yUB,uXE⟩
noncomputable def zVE:List PV→Option (Bool × Ret):=fun ps=>match ps with
 | [.n .i64 a,.n .i64 b]=>some (decide (0 < b) && iw a,.v (.n .i64 (a / b)))
 | _=>none
theorem jKF:zJ Tryz.prog 165 zVE:=by
 intro ps r h;unfold zVE at h;split at h
 ·simp only [vQZ,vQY] at h;obtain ⟨hg,rfl⟩:=h
  try simp only [vQJ,decide_eq_true_eq] at hg
  exact qX (qW Tryz.func165 (by kernel_rfl) (by kernel_rfl)) rfl rfl (fun w=>jKV _ _ (jZV hg.2) hg.1 w)
 ·cases h
noncomputable def LTa3:OrL:=(165,zVE) :: LTa2
theorem uXC:AllP (fun x:Nat × (List PV→Option (Bool × Ret))=>zJ Tryz.prog x.1 x.2) LTa3:=⟨jKF,uXD⟩
noncomputable def yXQ:List PV→Option (Bool × Ret):=fun ps=>match ps with
 | [.n .i64 a,.n .i64 b]=>some (decide (0 < b) && iw a,.v (.n .i64 (zX a b)))
 | _=>none
theorem kYY:zJ Tryz.prog 166 yXQ:=by
 intro ps r h;unfold yXQ at h;split at h
 ·simp only [vQZ,vQY] at h;obtain ⟨hg,rfl⟩:=h
  try simp only [vQJ,decide_eq_true_eq] at hg
  exact qX (qW Tryz.func166 (by kernel_rfl) (by kernel_rfl)) rfl rfl (fun w=>uZD _ _ (jZV hg.2) hg.1 w)
 ·cases h
noncomputable def LTa4:OrL:=(166,yXQ) :: LTa3
theorem uXB:AllP (fun x:Nat × (List PV→Option (Bool × Ret))=>zJ Tryz.prog x.1 x.2) LTa4:=⟨kYY,uXC⟩
noncomputable def yXX:List PV→Option (Bool × Ret):=fun ps=>match ps with
 | [.n .i64 a,.n .i64 b]=>some (decide (0 < b∧b≤1073741824) && pw a,.v (.n .i64 (zX a b)))
 | _=>none
theorem kYF:zJ Tryz.prog 210 yXX:=by
 intro ps r h;unfold yXX at h;split at h
 ·simp only [vQZ,vQY] at h;obtain ⟨hg,rfl⟩:=h
  try simp only [vQJ,decide_eq_true_eq] at hg
  exact qX (qW Tryz.func210 (by kernel_rfl) (by kernel_rfl)) rfl rfl (fun w=>fZI _ _ (xWD hg.2) hg.1 w)
 ·cases h
noncomputable def LTa5:OrL:=(210,yXX) :: LTa4
theorem uXA:AllP (fun x:Nat × (List PV→Option (Bool × Ret))=>zJ Tryz.prog x.1 x.2) LTa5:=⟨kYF,uXB⟩
noncomputable def jXU:List PV→Option (Bool × Ret):=fun ps=>match ps with
 | [.n .i64 l,.n .i64 a]=>some (iw a,.v (.a (ivC (encI l a))))
 | _=>none
theorem uJK:zJ Tryz.prog 211 jXU:=by
 intro ps r h;unfold jXU at h;split at h
 ·simp only [vQZ,vQY] at h;obtain ⟨hg,rfl⟩:=h
  try simp only [vQJ,decide_eq_true_eq] at hg
  exact qX (qW Tryz.func211 (by kernel_rfl) (by kernel_rfl)) rfl rfl (fun w=>aEnc _ _ (jZV hg) w)
 ·cases h
noncomputable def LTa6:OrL:=(211,jXU) :: LTa5
theorem uXH:AllP (fun x:Nat × (List PV→Option (Bool × Ret))=>zJ Tryz.prog x.1 x.2) LTa6:=⟨uJK,uXA⟩
noncomputable def jUI:List PV→Option (Bool × Ret):=fun ps=>match ps with
 | [.n .i64 l,.n .i64 a]=>some (iw a && iw l,.v (.a (ivC (encI l a))))
 | _=>none
theorem uYG:zJ Tryz.prog 204 jUI:=by
 intro ps r h;unfold jUI at h;split at h
 ·simp only [vQZ,vQY] at h;obtain ⟨hg,rfl⟩:=h
  try simp only [vQJ,decide_eq_true_eq] at hg
  exact qX (qW Tryz.func204 (by kernel_rfl) (by kernel_rfl)) rfl rfl (fun w=>rEnc _ _ (jZV hg.2) (jZV hg.1) w)
 ·cases h
noncomputable def LTa7:OrL:=(204,jUI) :: LTa6
theorem yWA:AllP (fun x:Nat × (List PV→Option (Bool × Ret))=>zJ Tryz.prog x.1 x.2) LTa7:=⟨uYG,uXH⟩
def wdn (x:Int):Nat→Int
 | 0=>1073741824
 | 1=>(vJJ .i64 (x * 6746518852)) / 65536
 | k + 2=>(vJJ .i64 (wdn x (k + 1) * ((vJJ .i64 (x * 6746518852)) / 65536))) / 1073741824
def wup (x:Int):Nat→Int
 | 0=>1073741824
 | 1=>zX (vJJ .i64 (x * 6746518853)) 65536
 | k + 2=>zX (vJJ .i64 (wup x (k + 1) * zX (vJJ .i64 (x * 6746518853)) 65536)) 1073741824
theorem wmul {a b:Int} (_:0≤a∧a≤1073741824) (_:0≤b∧b≤1073741824):vJJ .i64 (a * b)=a * b:=xZZ (by omega) (by omega)
theorem jYQ {x:Int} (h:0≤x∧x≤8192):∀ k,wdn x k=dn x k
 | 0=>rfl
 | 1=>by unfold wdn dn; rw [zQ (by omega)]
 | k + 2=>by rw [wdn,dn,jYQ h (k + 1),zQ (show -9223372036854775808≤x * 6746518852∧x * 6746518852≤9223372036854775807 by omega),wmul (qJH h (k + 1)) (show 0≤x * 6746518852 / 65536∧x * 6746518852 / 65536≤1073741824 by omega)]
theorem jZL {x:Int} (h:0≤x∧x≤8192):∀ k,wup x k=up x k
 | 0=>rfl
 | 1=>by unfold wup up; rw [zQ (by omega)]
 | k + 2=>by rw [wup,up,jZL h (k + 1),zQ (show -9223372036854775808≤x * 6746518853∧x * 6746518853≤9223372036854775807 by omega),wmul (qZL h (k + 1)) (yJL rfl h)]
set_option maxRecDepth 100000 in
theorem kGG (x:Int) (h:0≤x∧x≤8192):yK Tryz.prog 208 [.n .i64 x] (.v (.t [.a [.n .i64 1073741824,.n .i64 (dn x 1),.n .i64 (dn x 2),.n .i64 (dn x 3),.n .i64 (dn x 4),.n .i64 (dn x 5),.n .i64 (dn x 6),.n .i64 (dn x 7),.n .i64 (dn x 8),.n .i64 (dn x 9),.n .i64 (dn x 10)],.a [.n .i64 1073741824,.n .i64 (up x 1),.n .i64 (up x 2),.n .i64 (up x 3),.n .i64 (up x 4),.n .i64 (up x 5),.n .i64 (up x 6),.n .i64 (up x 7),.n .i64 (up x 8),.n .i64 (up x 9),.n .i64 (up x 10)]])):=qH (N:=60) (ps:=[.n .i64 x]) yJ zV (OrL.ok (l:=LTa7) yWA) ((by kernel_rfl:_=bif iw (vJJ .i64 (x * 6746518853)) then (bif iw (vJJ .i64 (wup x 1 * wup x 1)) then (bif iw (vJJ .i64 (wup x 2 * wup x 1)) then (bif iw (vJJ .i64 (wup x 3 * wup x 1)) then (bif iw (vJJ .i64 (wup x 4 * wup x 1)) then (bif iw (vJJ .i64 (wup x 5 * wup x 1)) then (bif iw (vJJ .i64 (wup x 6 * wup x 1)) then (bif iw (vJJ .i64 (wup x 7 * wup x 1)) then (bif iw (vJJ .i64 (wup x 8 * wup x 1)) then (bif iw (vJJ .i64 (wup x 9 * wup x 1)) then some (.v (.t [.a [.n .i64 1073741824,.n .i64 (wdn x 1),.n .i64 (wdn x 2),.n .i64 (wdn x 3),.n .i64 (wdn x 4),.n .i64 (wdn x 5),.n .i64 (wdn x 6),.n .i64 (wdn x 7),.n .i64 (wdn x 8),.n .i64 (wdn x 9),.n .i64 (wdn x 10)],.a [.n .i64 1073741824,.n .i64 (wup x 1),.n .i64 (wup x 2),.n .i64 (wup x 3),.n .i64 (wup x 4),.n .i64 (wup x 5),.n .i64 (wup x 6),.n .i64 (wup x 7),.n .i64 (wup x 8),.n .i64 (wup x 9),.n .i64 (wup x 10)]]),[])
 else none)
 else none)
 else none)
 else none)
 else none)
 else none)
 else none)
 else none)
 else none)
 else none).trans (by
 simp only [iww,vYV,jYQ h,jZL h]))
set_option maxRecDepth 100000 in
theorem kGV (x:Int) (h:0≤x∧x≤8192):yK Tryz.prog 203 [.n .i64 x] (.v (.t [.a [.n .i64 0,.n .i64 (dn x 1),.n .i64 (dn x 2),.n .i64 (dn x 3),.n .i64 (dn x 4),.n .i64 (dn x 5),.n .i64 (dn x 6),.n .i64 (dn x 7),.n .i64 (dn x 8),.n .i64 (dn x 9),.n .i64 (dn x 10)],.a [.n .i64 0,.n .i64 (up x 1),.n .i64 (up x 2),.n .i64 (up x 3),.n .i64 (up x 4),.n .i64 (up x 5),.n .i64 (up x 6),.n .i64 (up x 7),.n .i64 (up x 8),.n .i64 (up x 9),.n .i64 (up x 10)]])):=qH (N:=60) (ps:=[.n .i64 x]) yJ zV (OrL.ok (l:=LTa7) yWA) ((by kernel_rfl:_=bif iw (vJJ .i64 (x * 6746518852)) then (bif iw (vJJ .i64 (x * 6746518853)) then (bif iw (vJJ .i64 (wdn x 1 * wdn x 1)) then (bif iw (vJJ .i64 (wup x 1 * wup x 1)) then (bif iw (vJJ .i64 (wdn x 2 * wdn x 1)) then (bif iw (vJJ .i64 (wup x 2 * wup x 1)) then (bif iw (vJJ .i64 (wdn x 3 * wdn x 1)) then (bif iw (vJJ .i64 (wup x 3 * wup x 1)) then (bif iw (vJJ .i64 (wdn x 4 * wdn x 1)) then (bif iw (vJJ .i64 (wup x 4 * wup x 1)) then (bif iw (vJJ .i64 (wdn x 5 * wdn x 1)) then (bif iw (vJJ .i64 (wup x 5 * wup x 1)) then (bif iw (vJJ .i64 (wdn x 6 * wdn x 1)) then (bif iw (vJJ .i64 (wup x 6 * wup x 1)) then (bif iw (vJJ .i64 (wdn x 7 * wdn x 1)) then (bif iw (vJJ .i64 (wup x 7 * wup x 1)) then (bif iw (vJJ .i64 (wdn x 8 * wdn x 1)) then (bif iw (vJJ .i64 (wup x 8 * wup x 1)) then (bif iw (vJJ .i64 (wdn x 9 * wdn x 1)) then (bif iw (vJJ .i64 (wup x 9 * wup x 1)) then some (.v (.t [.a [.n .i64 0,.n .i64 (wdn x 1),.n .i64 (wdn x 2),.n .i64 (wdn x 3),.n .i64 (wdn x 4),.n .i64 (wdn x 5),.n .i64 (wdn x 6),.n .i64 (wdn x 7),.n .i64 (wdn x 8),.n .i64 (wdn x 9),.n .i64 (wdn x 10)],.a [.n .i64 0,.n .i64 (wup x 1),.n .i64 (wup x 2),.n .i64 (wup x 3),.n .i64 (wup x 4),.n .i64 (wup x 5),.n .i64 (wup x 6),.n .i64 (wup x 7),.n .i64 (wup x 8),.n .i64 (wup x 9),.n .i64 (wup x 10)]]),[])
 else none)
 else none)
 else none)
 else none)
 else none)
 else none)
 else none)
 else none)
 else none)
 else none)
 else none)
 else none)
 else none)
 else none)
 else none)
 else none)
 else none)
 else none)
 else none)
 else none).trans (by
 simp only [iww,vYV,jYQ h,jZL h]))
noncomputable def jXJ:List PV→Option (Bool × Ret):=fun ps=>match ps with
 | [.n .i64 x]=>some (decide (0≤x∧x≤8192),.v (.t [.a [.n .i64 1073741824,.n .i64 (dn x 1),.n .i64 (dn x 2),.n .i64 (dn x 3),.n .i64 (dn x 4),.n .i64 (dn x 5),.n .i64 (dn x 6),.n .i64 (dn x 7),.n .i64 (dn x 8),.n .i64 (dn x 9),.n .i64 (dn x 10)],.a [.n .i64 1073741824,.n .i64 (up x 1),.n .i64 (up x 2),.n .i64 (up x 3),.n .i64 (up x 4),.n .i64 (up x 5),.n .i64 (up x 6),.n .i64 (up x 7),.n .i64 (up x 8),.n .i64 (up x 9),.n .i64 (up x 10)]]))
 | _=>none
theorem uJY:zJ Tryz.prog 208 jXJ:=by
 intro ps r h;unfold jXJ at h;split at h
 ·simp only [vQZ,vQY] at h;obtain ⟨hg,rfl⟩:=h;exact kGG _ (vJZ hg)
 ·cases h
noncomputable def LTa8:OrL:=(208,jXJ) :: LTa7
theorem uXG:AllP (fun x:Nat × (List PV→Option (Bool × Ret))=>zJ Tryz.prog x.1 x.2) LTa8:=⟨uJY,yWA⟩
noncomputable def jUD:List PV→Option (Bool × Ret):=fun ps=>match ps with
 | [.n .i64 x]=>some (decide (0≤x∧x≤8192),.v (.t [.a [.n .i64 0,.n .i64 (dn x 1),.n .i64 (dn x 2),.n .i64 (dn x 3),.n .i64 (dn x 4),.n .i64 (dn x 5),.n .i64 (dn x 6),.n .i64 (dn x 7),.n .i64 (dn x 8),.n .i64 (dn x 9),.n .i64 (dn x 10)],.a [.n .i64 0,.n .i64 (up x 1),.n .i64 (up x 2),.n .i64 (up x 3),.n .i64 (up x 4),.n .i64 (up x 5),.n .i64 (up x 6),.n .i64 (up x 7),.n .i64 (up x 8),.n .i64 (up x 9),.n .i64 (up x 10)]]))
 | _=>none
theorem uYX:zJ Tryz.prog 203 jUD:=by
 intro ps r h;unfold jUD at h;split at h
 ·simp only [vQZ,vQY] at h;obtain ⟨hg,rfl⟩:=h;exact kGV _ (vJZ hg)
 ·cases h
noncomputable def LTa9:OrL:=(203,jUD) :: LTa8
theorem zUC:AllP (fun x:Nat × (List PV→Option (Bool × Ret))=>zJ Tryz.prog x.1 x.2) LTa9:=⟨uYX,uXG⟩
theorem tdnn {a b:Int} (h:0≤a):a.tdiv b=a / b:=Int.tdiv_eq_ediv_of_nonneg h
def yHU (x:Int):Int:=(vJJ .i64 ((vJJ .i64 ((vJJ .i64 ((vJJ .i64 (0 + (vJJ .i64 (1 * (dn x 1))))) + (vJJ .i64 ((-1) * zX (up x 3) 6)))) + (vJJ .i64 (1 * (vJJ .i64 ((dn x 5).tdiv 120)))))) + (vJJ .i64 ((-1) * zX (up x 7) 5040))))
theorem jGY {x:Int} (h:0≤x∧x≤8192):yHU x=sinL x:=by
 have d1:=qJH h 1;have d5:=qJH h 5;have u3:=qZL h 3;have u7:=qZL h 7;have c3:=yW (r:=zX (up x 3) 6) rfl u3 (by decide);have c7:=yW (r:=zX (up x 7) 5040) rfl u7 (by decide);unfold yHU sinL;simp only [tdnn d5.1];have w0:vJJ .i64 (1 * (dn x 1))=(1 * (dn x 1)):=zQ (by omega);have w1:vJJ .i64 (0 + (1 * (dn x 1)))=(0 + (1 * (dn x 1))):=zQ (by omega);have w2:vJJ .i64 ((-1) * zX (up x 3) 6)=((-1) * zX (up x 3) 6):=zQ (by omega);have w3:vJJ .i64 ((0 + (1 * (dn x 1))) + ((-1) * zX (up x 3) 6))=((0 + (1 * (dn x 1))) + ((-1) * zX (up x 3) 6)):=zQ (by omega);have w4:vJJ .i64 (((dn x 5) / 120))=(((dn x 5) / 120)):=zQ (by omega);have w5:vJJ .i64 (1 * (((dn x 5) / 120)))=(1 * (((dn x 5) / 120))):=zQ (by omega);have w6:vJJ .i64 (((0 + (1 * (dn x 1))) + ((-1) * zX (up x 3) 6)) + (1 * (((dn x 5) / 120))))=(((0 + (1 * (dn x 1))) + ((-1) * zX (up x 3) 6)) + (1 * (((dn x 5) / 120)))):=zQ (by omega);have w7:vJJ .i64 ((-1) * zX (up x 7) 5040)=((-1) * zX (up x 7) 5040):=zQ (by omega);have w8:vJJ .i64 ((((0 + (1 * (dn x 1))) + ((-1) * zX (up x 3) 6)) + (1 * (((dn x 5) / 120)))) + ((-1) * zX (up x 7) 5040))=((((0 + (1 * (dn x 1))) + ((-1) * zX (up x 3) 6)) + (1 * (((dn x 5) / 120)))) + ((-1) * zX (up x 7) 5040)):=zQ (by omega);simp only [w0,w1,w2,w3,w4,w5,w6,w7,w8]
 try omega
def yJV (x:Int):Int:=(vJJ .i64 ((vJJ .i64 ((vJJ .i64 ((vJJ .i64 ((vJJ .i64 (0 + (vJJ .i64 (1 * (up x 1))))) + (vJJ .i64 ((-1) * (vJJ .i64 ((dn x 3).tdiv 6)))))) + (vJJ .i64 (1 * zX (up x 5) 120)))) + (vJJ .i64 ((-1) * (vJJ .i64 ((dn x 7).tdiv 5040)))))) + (vJJ .i64 (1 * zX (up x 9) 362880))))
theorem jGZ {x:Int} (h:0≤x∧x≤8192):yJV x=sinU x:=by
 have d3:=qJH h 3;have d7:=qJH h 7;have u1:=qZL h 1;have u5:=qZL h 5;have u9:=qZL h 9;have c5:=yW (r:=zX (up x 5) 120) rfl u5 (by decide);have c9:=yW (r:=zX (up x 9) 362880) rfl u9 (by decide);unfold yJV sinU;simp only [tdnn d3.1,tdnn d7.1];have w0:vJJ .i64 (1 * (up x 1))=(1 * (up x 1)):=zQ (by omega);have w1:vJJ .i64 (0 + (1 * (up x 1)))=(0 + (1 * (up x 1))):=zQ (by omega);have w2:vJJ .i64 (((dn x 3) / 6))=(((dn x 3) / 6)):=zQ (by omega);have w3:vJJ .i64 ((-1) * (((dn x 3) / 6)))=((-1) * (((dn x 3) / 6))):=zQ (by omega);have w4:vJJ .i64 ((0 + (1 * (up x 1))) + ((-1) * (((dn x 3) / 6))))=((0 + (1 * (up x 1))) + ((-1) * (((dn x 3) / 6)))):=zQ (by omega);have w5:vJJ .i64 (1 * zX (up x 5) 120)=(1 * zX (up x 5) 120):=zQ (by omega);have w6:vJJ .i64 (((0 + (1 * (up x 1))) + ((-1) * (((dn x 3) / 6)))) + (1 * zX (up x 5) 120))=(((0 + (1 * (up x 1))) + ((-1) * (((dn x 3) / 6)))) + (1 * zX (up x 5) 120)):=zQ (by omega);have w7:vJJ .i64 (((dn x 7) / 5040))=(((dn x 7) / 5040)):=zQ (by omega);have w8:vJJ .i64 ((-1) * (((dn x 7) / 5040)))=((-1) * (((dn x 7) / 5040))):=zQ (by omega);have w9:vJJ .i64 ((((0 + (1 * (up x 1))) + ((-1) * (((dn x 3) / 6)))) + (1 * zX (up x 5) 120)) + ((-1) * (((dn x 7) / 5040))))=((((0 + (1 * (up x 1))) + ((-1) * (((dn x 3) / 6)))) + (1 * zX (up x 5) 120)) + ((-1) * (((dn x 7) / 5040)))):=zQ (by omega);have w10:vJJ .i64 (1 * zX (up x 9) 362880)=(1 * zX (up x 9) 362880):=zQ (by omega);have w11:vJJ .i64 (((((0 + (1 * (up x 1))) + ((-1) * (((dn x 3) / 6)))) + (1 * zX (up x 5) 120)) + ((-1) * (((dn x 7) / 5040)))) + (1 * zX (up x 9) 362880))=(((((0 + (1 * (up x 1))) + ((-1) * (((dn x 3) / 6)))) + (1 * zX (up x 5) 120)) + ((-1) * (((dn x 7) / 5040)))) + (1 * zX (up x 9) 362880)):=zQ (by omega);simp only [w0,w1,w2,w3,w4,w5,w6,w7,w8,w9,w10,w11]
 try omega
end Ta
set_option maxRecDepth 100000 in
theorem fZF (x:Int) (h:0≤x∧x≤8192) (w:World):Calls Tryz.prog 206 [.int .i64 x].toArray w (Rets (iv (zVJ x)) (w)) :=
 zZ (x:=.a (ivC (zVJ x))) (qH (N:=60) (ps:=[.n .i64 x]) yJ zV (OrL.ok (l:=LTa9) zUC) ((by kernel_rfl:_=bif decide (0≤x∧x≤8192) then (bif pw (up x 3) then (bif pw (up x 7) then (bif pw (up x 5) then (bif pw (up x 9) then (bif iw (yJV x) then some (.v (.a (ivC (encI (yHU x) (yJV x)))),[])
 else none)
 else none)
 else none)
 else none)
 else none)
 else none).trans (by
 have iL:iw (yHU x)=true:=iww _;have iU:iw (yJV x)=true:=iww _;rw [jGY h] at iL ⊢;rw [jGZ h] at iU ⊢;simp only [vJQ h,kZZ h,kUK h,kUU h,iL,iU,vYV,vZJ]
 rfl))) rfl rfl w
namespace Ta
def zJJ (x:Int):Int:=(vJJ .i64 ((vJJ .i64 ((vJJ .i64 ((vJJ .i64 ((vJJ .i64 (1073741824 + (vJJ .i64 ((-1) * zX (up x 2) 2)))) + (vJJ .i64 (1 * (vJJ .i64 ((dn x 4).tdiv 24)))))) + (vJJ .i64 ((-1) * zX (up x 6) 720)))) + (vJJ .i64 (1 * (vJJ .i64 ((dn x 8).tdiv 40320)))))) + (vJJ .i64 ((-1) * zX (up x 10) 3628800))))
theorem yWU {x:Int} (h:0≤x∧x≤8192):zJJ x=cosL x:=by
 have d4:=qJH h 4;have d8:=qJH h 8;have u2:=qZL h 2;have u6:=qZL h 6;have u10:=qZL h 10;have c10:=yW (r:=zX (up x 10) 3628800) rfl u10 (by decide);have c2:=yW (r:=zX (up x 2) 2) rfl u2 (by decide);have c6:=yW (r:=zX (up x 6) 720) rfl u6 (by decide);unfold zJJ cosL;simp only [tdnn d4.1,tdnn d8.1];have w0:vJJ .i64 ((-1) * zX (up x 2) 2)=((-1) * zX (up x 2) 2):=zQ (by omega);have w1:vJJ .i64 (1073741824 + ((-1) * zX (up x 2) 2))=(1073741824 + ((-1) * zX (up x 2) 2)):=zQ (by omega);have w2:vJJ .i64 (((dn x 4) / 24))=(((dn x 4) / 24)):=zQ (by omega);have w3:vJJ .i64 (1 * (((dn x 4) / 24)))=(1 * (((dn x 4) / 24))):=zQ (by omega);have w4:vJJ .i64 ((1073741824 + ((-1) * zX (up x 2) 2)) + (1 * (((dn x 4) / 24))))=((1073741824 + ((-1) * zX (up x 2) 2)) + (1 * (((dn x 4) / 24)))):=zQ (by omega);have w5:vJJ .i64 ((-1) * zX (up x 6) 720)=((-1) * zX (up x 6) 720):=zQ (by omega);have w6:vJJ .i64 (((1073741824 + ((-1) * zX (up x 2) 2)) + (1 * (((dn x 4) / 24)))) + ((-1) * zX (up x 6) 720))=(((1073741824 + ((-1) * zX (up x 2) 2)) + (1 * (((dn x 4) / 24)))) + ((-1) * zX (up x 6) 720)):=zQ (by omega);have w7:vJJ .i64 (((dn x 8) / 40320))=(((dn x 8) / 40320)):=zQ (by omega);have w8:vJJ .i64 (1 * (((dn x 8) / 40320)))=(1 * (((dn x 8) / 40320))):=zQ (by omega);have w9:vJJ .i64 ((((1073741824 + ((-1) * zX (up x 2) 2)) + (1 * (((dn x 4) / 24)))) + ((-1) * zX (up x 6) 720)) + (1 * (((dn x 8) / 40320))))=((((1073741824 + ((-1) * zX (up x 2) 2)) + (1 * (((dn x 4) / 24)))) + ((-1) * zX (up x 6) 720)) + (1 * (((dn x 8) / 40320)))):=zQ (by omega);have w10:vJJ .i64 ((-1) * zX (up x 10) 3628800)=((-1) * zX (up x 10) 3628800):=zQ (by omega);have w11:vJJ .i64 (((((1073741824 + ((-1) * zX (up x 2) 2)) + (1 * (((dn x 4) / 24)))) + ((-1) * zX (up x 6) 720)) + (1 * (((dn x 8) / 40320)))) + ((-1) * zX (up x 10) 3628800))=(((((1073741824 + ((-1) * zX (up x 2) 2)) + (1 * (((dn x 4) / 24)))) + ((-1) * zX (up x 6) 720)) + (1 * (((dn x 8) / 40320)))) + ((-1) * zX (up x 10) 3628800)):=zQ (by omega);simp only [w0,w1,w2,w3,w4,w5,w6,w7,w8,w9,w10,w11]
 try omega
def qHD (x:Int):Int:=(vJJ .i64 ((vJJ .i64 ((vJJ .i64 ((vJJ .i64 (1073741824 + (vJJ .i64 ((-1) * (vJJ .i64 ((dn x 2).tdiv 2)))))) + (vJJ .i64 (1 * zX (up x 4) 24)))) + (vJJ .i64 ((-1) * (vJJ .i64 ((dn x 6).tdiv 720)))))) + (vJJ .i64 (1 * zX (up x 8) 40320))))
theorem yWK {x:Int} (h:0≤x∧x≤8192):qHD x=cosU x:=by
 have d2:=qJH h 2;have d6:=qJH h 6;have u4:=qZL h 4;have u8:=qZL h 8;have c4:=yW (r:=zX (up x 4) 24) rfl u4 (by decide);have c8:=yW (r:=zX (up x 8) 40320) rfl u8 (by decide);unfold qHD cosU;simp only [tdnn d2.1,tdnn d6.1];have w0:vJJ .i64 (((dn x 2) / 2))=(((dn x 2) / 2)):=zQ (by omega);have w1:vJJ .i64 ((-1) * (((dn x 2) / 2)))=((-1) * (((dn x 2) / 2))):=zQ (by omega);have w2:vJJ .i64 (1073741824 + ((-1) * (((dn x 2) / 2))))=(1073741824 + ((-1) * (((dn x 2) / 2)))):=zQ (by omega);have w3:vJJ .i64 (1 * zX (up x 4) 24)=(1 * zX (up x 4) 24):=zQ (by omega);have w4:vJJ .i64 ((1073741824 + ((-1) * (((dn x 2) / 2)))) + (1 * zX (up x 4) 24))=((1073741824 + ((-1) * (((dn x 2) / 2)))) + (1 * zX (up x 4) 24)):=zQ (by omega);have w5:vJJ .i64 (((dn x 6) / 720))=(((dn x 6) / 720)):=zQ (by omega);have w6:vJJ .i64 ((-1) * (((dn x 6) / 720)))=((-1) * (((dn x 6) / 720))):=zQ (by omega);have w7:vJJ .i64 (((1073741824 + ((-1) * (((dn x 2) / 2)))) + (1 * zX (up x 4) 24)) + ((-1) * (((dn x 6) / 720))))=(((1073741824 + ((-1) * (((dn x 2) / 2)))) + (1 * zX (up x 4) 24)) + ((-1) * (((dn x 6) / 720)))):=zQ (by omega);have w8:vJJ .i64 (1 * zX (up x 8) 40320)=(1 * zX (up x 8) 40320):=zQ (by omega);have w9:vJJ .i64 ((((1073741824 + ((-1) * (((dn x 2) / 2)))) + (1 * zX (up x 4) 24)) + ((-1) * (((dn x 6) / 720)))) + (1 * zX (up x 8) 40320))=((((1073741824 + ((-1) * (((dn x 2) / 2)))) + (1 * zX (up x 4) 24)) + ((-1) * (((dn x 6) / 720)))) + (1 * zX (up x 8) 40320)):=zQ (by omega);simp only [w0,w1,w2,w3,w4,w5,w6,w7,w8,w9]
 try omega
end Ta
set_option maxRecDepth 100000 in
theorem uKD (x:Int) (h:0≤x∧x≤8192) (w:World):Calls Tryz.prog 207 [.int .i64 x].toArray w (Rets (iv (qXF x)) (w)) :=
 zZ (x:=.a (ivC (qXF x))) (qH (N:=60) (ps:=[.n .i64 x]) yJ zV (OrL.ok (l:=LTa9) zUC) ((by kernel_rfl:_=bif decide (0≤x∧x≤8192) then (bif pw (up x 2) then (bif pw (up x 6) then (bif pw (up x 10) then (bif pw (up x 4) then (bif pw (up x 8) then (bif iw (qHD x) then some (.v (.a (ivC (encI (zJJ x) (qHD x)))),[])
 else none)
 else none)
 else none)
 else none)
 else none)
 else none)
 else none).trans (by
 have iL:iw (zJJ x)=true:=iww _;have iU:iw (qHD x)=true:=iww _;rw [yWU h] at iL ⊢;rw [yWK h] at iU ⊢;simp only [vJQ h,kZZ h,kUK h,kUU h,iL,iU,vYV,vZJ]
 rfl))) rfl rfl w
namespace Ta
def yQF (x:Int):Int:=(vJJ .i64 ((vJJ .i64 ((vJJ .i64 ((dn x 1) - zX (up x 3) 6)) + (dn x 5) / 120)) - zX (up x 7) 5040))
theorem jKW {x:Int} (h:0≤x∧x≤8192):yQF x=sinL x:=by
 have d1:=qJH h 1;have d5:=qJH h 5;have u3:=qZL h 3;have u7:=qZL h 7;have c3:=yW (r:=zX (up x 3) 6) rfl u3 (by decide);have c7:=yW (r:=zX (up x 7) 5040) rfl u7 (by decide);unfold yQF sinL;have w0:vJJ .i64 ((dn x 1) - zX (up x 3) 6)=((dn x 1) - zX (up x 3) 6):=zQ (by omega);have w1:vJJ .i64 (((dn x 1) - zX (up x 3) 6) + (dn x 5) / 120)=(((dn x 1) - zX (up x 3) 6) + (dn x 5) / 120):=zQ (by omega);have w2:vJJ .i64 ((((dn x 1) - zX (up x 3) 6) + (dn x 5) / 120) - zX (up x 7) 5040)=((((dn x 1) - zX (up x 3) 6) + (dn x 5) / 120) - zX (up x 7) 5040):=zQ (by omega);simp only [w0,w1,w2]
 try omega
def yQE (x:Int):Int:=(vJJ .i64 ((vJJ .i64 ((vJJ .i64 ((vJJ .i64 ((up x 1) - (dn x 3) / 6)) + zX (up x 5) 120)) - (dn x 7) / 5040)) + zX (up x 9) 362880))
theorem jKX {x:Int} (h:0≤x∧x≤8192):yQE x=sinU x:=by
 have d3:=qJH h 3;have d7:=qJH h 7;have u1:=qZL h 1;have u5:=qZL h 5;have u9:=qZL h 9;have c5:=yW (r:=zX (up x 5) 120) rfl u5 (by decide);have c9:=yW (r:=zX (up x 9) 362880) rfl u9 (by decide);unfold yQE sinU;have w0:vJJ .i64 ((up x 1) - (dn x 3) / 6)=((up x 1) - (dn x 3) / 6):=zQ (by omega);have w1:vJJ .i64 (((up x 1) - (dn x 3) / 6) + zX (up x 5) 120)=(((up x 1) - (dn x 3) / 6) + zX (up x 5) 120):=zQ (by omega);have w2:vJJ .i64 ((((up x 1) - (dn x 3) / 6) + zX (up x 5) 120) - (dn x 7) / 5040)=((((up x 1) - (dn x 3) / 6) + zX (up x 5) 120) - (dn x 7) / 5040):=zQ (by omega);have w3:vJJ .i64 (((((up x 1) - (dn x 3) / 6) + zX (up x 5) 120) - (dn x 7) / 5040) + zX (up x 9) 362880)=(((((up x 1) - (dn x 3) / 6) + zX (up x 5) 120) - (dn x 7) / 5040) + zX (up x 9) 362880):=zQ (by omega);simp only [w0,w1,w2,w3]
 try omega
end Ta
set_option maxRecDepth 100000 in
theorem xUC (x:Int) (h:0≤x∧x≤8192) (w:World):Calls Tryz.prog 196 [.int .i64 x].toArray w (Rets (iv (zVJ x)) (w)) :=
 zZ (x:=.a (ivC (zVJ x))) (qH (N:=60) (ps:=[.n .i64 x]) yJ zV (OrL.ok (l:=LTa9) zUC) ((by kernel_rfl:_=bif decide (0≤x∧x≤8192) then (bif iw (up x 3) then (bif iw (dn x 5) then (bif iw (up x 7) then (bif iw (dn x 3) then (bif iw (up x 5) then (bif iw (dn x 7) then (bif iw (up x 9) then (bif (iw (yQE x) && iw (yQF x)) then some (.v (.a (ivC (encI (yQF x) (yQE x)))),[])
 else none)
 else none)
 else none)
 else none)
 else none)
 else none)
 else none)
 else none)
 else none).trans (by
 have iL:iw (yQF x)=true:=iww _;have iU:iw (yQE x)=true:=iww _;rw [jKW h] at iL ⊢;rw [jKX h] at iU ⊢;simp only [vJQ h,kZZ h,kUK h,kUU h,iL,iU,vYV,vZJ]
 rfl))) rfl rfl w
namespace Ta
def qGI (x:Int):Int:=(vJJ .i64 ((vJJ .i64 ((vJJ .i64 ((vJJ .i64 ((vJJ .i64 (1073741824 - zX (up x 2) 2)) + (dn x 4) / 24)) - zX (up x 6) 720)) + (dn x 8) / 40320)) - zX (up x 10) 3628800))
theorem yKE {x:Int} (h:0≤x∧x≤8192):qGI x=cosL x:=by
 have d4:=qJH h 4;have d8:=qJH h 8;have u2:=qZL h 2;have u6:=qZL h 6;have u10:=qZL h 10;have c10:=yW (r:=zX (up x 10) 3628800) rfl u10 (by decide);have c2:=yW (r:=zX (up x 2) 2) rfl u2 (by decide);have c6:=yW (r:=zX (up x 6) 720) rfl u6 (by decide);unfold qGI cosL;have w0:vJJ .i64 (1073741824 - zX (up x 2) 2)=(1073741824 - zX (up x 2) 2):=zQ (by omega);have w1:vJJ .i64 ((1073741824 - zX (up x 2) 2) + (dn x 4) / 24)=((1073741824 - zX (up x 2) 2) + (dn x 4) / 24):=zQ (by omega);have w2:vJJ .i64 (((1073741824 - zX (up x 2) 2) + (dn x 4) / 24) - zX (up x 6) 720)=(((1073741824 - zX (up x 2) 2) + (dn x 4) / 24) - zX (up x 6) 720):=zQ (by omega);have w3:vJJ .i64 ((((1073741824 - zX (up x 2) 2) + (dn x 4) / 24) - zX (up x 6) 720) + (dn x 8) / 40320)=((((1073741824 - zX (up x 2) 2) + (dn x 4) / 24) - zX (up x 6) 720) + (dn x 8) / 40320):=zQ (by omega);have w4:vJJ .i64 (((((1073741824 - zX (up x 2) 2) + (dn x 4) / 24) - zX (up x 6) 720) + (dn x 8) / 40320) - zX (up x 10) 3628800)=(((((1073741824 - zX (up x 2) 2) + (dn x 4) / 24) - zX (up x 6) 720) + (dn x 8) / 40320) - zX (up x 10) 3628800):=zQ (by omega);simp only [w0,w1,w2,w3,w4]
 try omega
def qGF (x:Int):Int:=(vJJ .i64 ((vJJ .i64 ((vJJ .i64 ((vJJ .i64 (1073741824 - (dn x 2) / 2)) + zX (up x 4) 24)) - (dn x 6) / 720)) + zX (up x 8) 40320))
theorem yKD {x:Int} (h:0≤x∧x≤8192):qGF x=cosU x:=by
 have d2:=qJH h 2;have d6:=qJH h 6;have u4:=qZL h 4;have u8:=qZL h 8;have c4:=yW (r:=zX (up x 4) 24) rfl u4 (by decide);have c8:=yW (r:=zX (up x 8) 40320) rfl u8 (by decide);unfold qGF cosU;have w0:vJJ .i64 (1073741824 - (dn x 2) / 2)=(1073741824 - (dn x 2) / 2):=zQ (by omega);have w1:vJJ .i64 ((1073741824 - (dn x 2) / 2) + zX (up x 4) 24)=((1073741824 - (dn x 2) / 2) + zX (up x 4) 24):=zQ (by omega);have w2:vJJ .i64 (((1073741824 - (dn x 2) / 2) + zX (up x 4) 24) - (dn x 6) / 720)=(((1073741824 - (dn x 2) / 2) + zX (up x 4) 24) - (dn x 6) / 720):=zQ (by omega);have w3:vJJ .i64 ((((1073741824 - (dn x 2) / 2) + zX (up x 4) 24) - (dn x 6) / 720) + zX (up x 8) 40320)=((((1073741824 - (dn x 2) / 2) + zX (up x 4) 24) - (dn x 6) / 720) + zX (up x 8) 40320):=zQ (by omega);simp only [w0,w1,w2,w3]
 try omega
end Ta
set_option maxRecDepth 100000 in
theorem uZC (x:Int) (h:0≤x∧x≤8192) (w:World):Calls Tryz.prog 197 [.int .i64 x].toArray w (Rets (iv (qXF x)) (w)) :=
 zZ (x:=.a (ivC (qXF x))) (qH (N:=60) (ps:=[.n .i64 x]) yJ zV (OrL.ok (l:=LTa9) zUC) ((by kernel_rfl:_=bif decide (0≤x∧x≤8192) then (bif iw (up x 2) then (bif iw (dn x 4) then (bif iw (up x 6) then (bif iw (dn x 8) then (bif iw (up x 10) then (bif iw (dn x 2) then (bif iw (up x 4) then (bif iw (dn x 6) then (bif iw (up x 8) then (bif (iw (qGF x) && iw (qGI x)) then some (.v (.a (ivC (encI (qGI x) (qGF x)))),[])
 else none)
 else none)
 else none)
 else none)
 else none)
 else none)
 else none)
 else none)
 else none)
 else none)
 else none).trans (by
 have iL:iw (qGI x)=true:=iww _;have iU:iw (qGF x)=true:=iww _;rw [yKE h] at iL ⊢;rw [yKD h] at iU ⊢;simp only [vJQ h,kZZ h,kUK h,kUU h,iL,iU,vYV,vZJ]
 rfl))) rfl rfl w
namespace Ta
noncomputable def yXU:List PV→Option (Bool × Ret):=fun ps=>match ps with
 | [.n .i64 x]=>some (decide (0≤x∧x≤8192),.v (.a (ivC (zVJ x))))
 | _=>none
theorem kYE:zJ Tryz.prog 206 yXU:=by
 intro ps r h;unfold yXU at h;split at h
 ·simp only [vQZ,vQY] at h;obtain ⟨hg,rfl⟩:=h
  try simp only [vQJ,decide_eq_true_eq] at hg
  exact qX (qW Tryz.func206 (by kernel_rfl) (by kernel_rfl)) rfl rfl (fun w=>fZF _ hg w)
 ·cases h
noncomputable def xKI:OrL:=(206,yXU) :: LTa9
theorem kWB:AllP (fun x:Nat × (List PV→Option (Bool × Ret))=>zJ Tryz.prog x.1 x.2) xKI:=⟨kYE,zUC⟩
noncomputable def zKH:List PV→Option (Bool × Ret):=fun ps=>match ps with
 | [.n .i64 x]=>some (decide (0≤x∧x≤8192),.v (.a (ivC (qXF x))))
 | _=>none
theorem jQL:zJ Tryz.prog 207 zKH:=by
 intro ps r h;unfold zKH at h;split at h
 ·simp only [vQZ,vQY] at h;obtain ⟨hg,rfl⟩:=h
  try simp only [vQJ,decide_eq_true_eq] at hg
  exact qX (qW Tryz.func207 (by kernel_rfl) (by kernel_rfl)) rfl rfl (fun w=>uKD _ hg w)
 ·cases h
noncomputable def xKF:OrL:=(207,zKH) :: xKI
theorem kWA:AllP (fun x:Nat × (List PV→Option (Bool × Ret))=>zJ Tryz.prog x.1 x.2) xKF:=⟨jQL,kWB⟩
noncomputable def yUI:List PV→Option (Bool × Ret):=fun ps=>match ps with
 | [.n .i64 x]=>some (decide (0≤x∧x≤8192),.v (.a (ivC (zVJ x))))
 | _=>none
theorem kYQ:zJ Tryz.prog 196 yUI:=by
 intro ps r h;unfold yUI at h;split at h
 ·simp only [vQZ,vQY] at h;obtain ⟨hg,rfl⟩:=h
  try simp only [vQJ,decide_eq_true_eq] at hg
  exact qX (qW Tryz.func196 (by kernel_rfl) (by kernel_rfl)) rfl rfl (fun w=>xUC _ hg w)
 ·cases h
noncomputable def xKE:OrL:=(196,yUI) :: xKF
theorem kWH:AllP (fun x:Nat × (List PV→Option (Bool × Ret))=>zJ Tryz.prog x.1 x.2) xKE:=⟨kYQ,kWA⟩
noncomputable def zKV:List PV→Option (Bool × Ret):=fun ps=>match ps with
 | [.n .i64 x]=>some (decide (0≤x∧x≤8192),.v (.a (ivC (qXF x))))
 | _=>none
theorem jQD:zJ Tryz.prog 197 zKV:=by
 intro ps r h;unfold zKV at h;split at h
 ·simp only [vQZ,vQY] at h;obtain ⟨hg,rfl⟩:=h
  try simp only [vQJ,decide_eq_true_eq] at hg
  exact qX (qW Tryz.func197 (by kernel_rfl) (by kernel_rfl)) rfl rfl (fun w=>uZC _ hg w)
 ·cases h
noncomputable def kWG:OrL:=(197,zKV) :: xKE
theorem zHD:AllP (fun x:Nat × (List PV→Option (Bool × Ret))=>zJ Tryz.prog x.1 x.2) kWG:=⟨jQD,kWH⟩
end Ta
set_option maxRecDepth 100000 in
theorem xJH (r:Int) (_:0≤r∧r≤16384) (w:World):Calls Tryz.prog 202 [.int .i64 r].toArray w (Rets (iv (qYG r)) (w)) :=
 zZ (x:=.a (ivC (qYG r))) (qH (N:=60) (ps:=[.n .i64 r]) yJ zV (OrL.ok (l:=kWG) zHD) ((by kernel_rfl:_=bif (decide (r≤8192)) then (bif decide (0≤r∧r≤8192) then some (.v (.a (ivC (zVJ r))),[])
 else none)
 else bif decide (0≤(vJJ .i64 (16384 - r))∧(vJJ .i64 (16384 - r))≤8192) then some (.v (.a (ivC (qXF (vJJ .i64 (16384 - r))))),[])
 else none).trans (by
 by_cases p:r≤8192
 ·simp only [vJQ p,vYV,vJQ (show 0≤r∧r≤8192 by omega)];unfold qYG;rw [vJQ p]; rfl
 ·have w0:vJJ .i64 (16384 - r)=16384 - r:=zQ (by omega);simp only [w0,vYH p,vYG,vJQ (show 0≤16384 - r∧16384 - r≤8192 by omega),vYV];unfold qYG;rw [vYH p]; rfl))) rfl rfl w
set_option maxRecDepth 100000 in
theorem kQE (r:Int) (_:0≤r∧r≤16384) (w:World):Calls Tryz.prog 192 [.int .i64 r].toArray w (Rets (iv (qYG r)) (w)) :=
 zZ (x:=.a (ivC (qYG r))) (qH (N:=60) (ps:=[.n .i64 r]) yJ zV (OrL.ok (l:=kWG) zHD) ((by kernel_rfl:_=bif (decide (r≤8192)) then (bif decide (0≤r∧r≤8192) then some (.v (.a (ivC (zVJ r))),[])
 else none)
 else bif decide (0≤(vJJ .i64 (16384 - r))∧(vJJ .i64 (16384 - r))≤8192) then some (.v (.a (ivC (qXF (vJJ .i64 (16384 - r))))),[])
 else none).trans (by
 by_cases p:r≤8192
 ·simp only [vJQ p,vYV,vJQ (show 0≤r∧r≤8192 by omega)];unfold qYG;rw [vJQ p]; rfl
 ·have w0:vJJ .i64 (16384 - r)=16384 - r:=zQ (by omega);simp only [w0,vYH p,vYG,vJQ (show 0≤16384 - r∧16384 - r≤8192 by omega),vYV];unfold qYG;rw [vYH p]; rfl))) rfl rfl w
namespace Ta
noncomputable def zGW:List PV→Option (Bool × Ret):=fun ps=>match ps with
 | [.n .i64 r]=>some (decide (0≤r∧r≤16384),.v (.a (ivC (qYG r))))
 | _=>none
theorem jUA:zJ Tryz.prog 202 zGW:=by
 intro ps r h;unfold zGW at h;split at h
 ·simp only [vQZ,vQY] at h;obtain ⟨hg,rfl⟩:=h
  try simp only [vQJ,decide_eq_true_eq] at hg
  exact qX (qW Tryz.func202 (by kernel_rfl) (by kernel_rfl)) rfl rfl (fun w=>xJH _ hg w)
 ·cases h
noncomputable def xKD:OrL:=(202,zGW) :: kWG
theorem kWV:AllP (fun x:Nat × (List PV→Option (Bool × Ret))=>zJ Tryz.prog x.1 x.2) xKD:=⟨jUA,zHD⟩
noncomputable def zQV:List PV→Option (Bool × Ret):=fun ps=>match ps with
 | [.n .i64 r]=>some (decide (0≤r∧r≤16384),.v (.a (ivC (qYG r))))
 | _=>none
theorem yUY:zJ Tryz.prog 192 zQV:=by
 intro ps r h;unfold zQV at h;split at h
 ·simp only [vQZ,vQY] at h;obtain ⟨hg,rfl⟩:=h
  try simp only [vQJ,decide_eq_true_eq] at hg
  exact qX (qW Tryz.func192 (by kernel_rfl) (by kernel_rfl)) rfl rfl (fun w=>kQE _ hg w)
 ·cases h
noncomputable def xKC:OrL:=(192,zQV) :: xKD
theorem kWW:AllP (fun x:Nat × (List PV→Option (Bool × Ret))=>zJ Tryz.prog x.1 x.2) xKC:=⟨yUY,kWV⟩
noncomputable def jXK:List PV→Option (Bool × Ret):=fun ps=>match ps with
 | [.n .i64 a]=>some (true,.v (.n .i64 ((a % 65536))))
 | _=>none
theorem uJJ:zJ Tryz.prog 201 jXK:=by
 intro ps r h;unfold jXK at h;split at h
 ·simp only [vQZ,vQY] at h;obtain ⟨hg,rfl⟩:=h;exact qX (qW Tryz.func201 (by kernel_rfl) (by kernel_rfl)) rfl rfl (fun w=>aMod _ w)
 ·cases h
noncomputable def xKB:OrL:=(201,jXK) :: xKC
theorem kWX:AllP (fun x:Nat × (List PV→Option (Bool × Ret))=>zJ Tryz.prog x.1 x.2) xKB:=⟨uJJ,kWW⟩
noncomputable def jUF:List PV→Option (Bool × Ret):=fun ps=>match ps with
 | [.n .i64 a]=>some (true,.v (.n .i64 ((a % 65536))))
 | _=>none
theorem uYV:zJ Tryz.prog 191 jUF:=by
 intro ps r h;unfold jUF at h;split at h
 ·simp only [vQZ,vQY] at h;obtain ⟨hg,rfl⟩:=h;exact qX (qW Tryz.func191 (by kernel_rfl) (by kernel_rfl)) rfl rfl (fun w=>rMod _ w)
 ·cases h
noncomputable def xKA:OrL:=(191,jUF) :: xKB
theorem kWU:AllP (fun x:Nat × (List PV→Option (Bool × Ret))=>zJ Tryz.prog x.1 x.2) xKA:=⟨uYV,kWX⟩
noncomputable def o_iNeg:List PV→Option (Bool × Ret):=fun ps=>match ps with
 | [.a a']=>(ivD a').bind fun a=>some (true,.v (.a (ivC (Iv.neg a))))
 | _=>none
theorem ok_iNeg:zJ Tryz.prog 188 o_iNeg:=by
 intro ps r h;unfold o_iNeg at h;split at h
 ·simp only [vQQ,vQZ,vQY] at h;obtain ⟨a,ha,hg,rfl⟩:=h;rw [qQV ha];exact qX (qW Tryz.func188 (by kernel_rfl) (by kernel_rfl)) rfl rfl (fun w=>iNeg _ _ w)
 ·cases h
noncomputable def xKH:OrL:=(188,o_iNeg) :: xKA
theorem kWK:AllP (fun x:Nat × (List PV→Option (Bool × Ret))=>zJ Tryz.prog x.1 x.2) xKH:=⟨ok_iNeg,kWU⟩
noncomputable def o_rNeg:List PV→Option (Bool × Ret):=fun ps=>match ps with
 | [.a a']=>(ivD a').bind fun a=>some (true,.v (.a (ivC (Iv.neg a))))
 | _=>none
theorem ok_rNeg:zJ Tryz.prog 175 o_rNeg:=by
 intro ps r h;unfold o_rNeg at h;split at h
 ·simp only [vQQ,vQZ,vQY] at h;obtain ⟨a,ha,hg,rfl⟩:=h;rw [qQV ha];exact qX (qW Tryz.func175 (by kernel_rfl) (by kernel_rfl)) rfl rfl (fun w=>rNeg _ _ w)
 ·cases h
noncomputable def kWJ:OrL:=(175,o_rNeg) :: xKH
theorem zHC:AllP (fun x:Nat × (List PV→Option (Bool × Ret))=>zJ Tryz.prog x.1 x.2) kWJ:=⟨ok_rNeg,kWK⟩
end Ta
set_option maxRecDepth 100000 in
theorem aSin (a:Int) (w:World):Calls Tryz.prog 195 [.int .i64 a].toArray w (Rets (iv (sinI a)) (w)) :=
 zZ (x:=.a (ivC (sinI a))) (qH (N:=60) (ps:=[.n .i64 a]) yJ zV (OrL.ok (l:=kWJ) zHC) ((by kernel_rfl:_=bif (decide ((vJJ .i64 ((a % 65536).tdiv 16384))=0)) then (bif decide (0≤((a % 65536).tmod 16384)∧((a % 65536).tmod 16384)≤16384) then some (.v (.a (ivC (qYG ((a % 65536).tmod 16384)))),[])
 else none)
 else bif (decide ((vJJ .i64 ((a % 65536).tdiv 16384))=1)) then (bif decide (0≤(vJJ .i64 (16384 - ((a % 65536).tmod 16384)))∧(vJJ .i64 (16384 - ((a % 65536).tmod 16384)))≤16384) then some (.v (.a (ivC (qYG (vJJ .i64 (16384 - ((a % 65536).tmod 16384)))))),[])
 else none)
 else bif (decide ((vJJ .i64 ((a % 65536).tdiv 16384))=2)) then (bif decide (0≤((a % 65536).tmod 16384)∧((a % 65536).tmod 16384)≤16384) then some (.v (.a (ivC (Iv.neg (qYG ((a % 65536).tmod 16384))))),[])
 else none)
 else bif decide (0≤(vJJ .i64 (16384 - ((a % 65536).tmod 16384)))∧(vJJ .i64 (16384 - ((a % 65536).tmod 16384)))≤16384) then some (.v (.a (ivC (Iv.neg (qYG (vJJ .i64 (16384 - ((a % 65536).tmod 16384))))))),[])
 else none).trans (by
 have ht:(a % 65536).tdiv 16384=a % 65536 / 16384:=tdnn (by omega);have hm:(a % 65536).tmod 16384=a % 65536 % 16384:=Int.tmod_eq_emod_of_nonneg (by omega);have w1:vJJ .i64 (a % 65536 % 16384)=a % 65536 % 16384:=zQ (by omega);have w2:vJJ .i64 (a % 65536 / 16384)=a % 65536 / 16384:=zQ (by omega);have w3:vJJ .i64 (16384 - a % 65536 % 16384)=16384 - a % 65536 % 16384:=zQ (by omega);simp only [ht,hm,w1,w2,w3,vJQ (show 0≤a % 65536 % 16384∧a % 65536 % 16384≤16384 by omega),vJQ (show 0≤16384 - a % 65536 % 16384∧16384 - a % 65536 % 16384≤16384 by omega),vYV];unfold sinI sinM;cases decide (a % 65536 / 16384=0) <;> cases decide (a % 65536 / 16384=1) <;> cases decide (a % 65536 / 16384=2) <;> rfl))) rfl rfl w
set_option maxRecDepth 100000 in
theorem rSin (a:Int) (w:World):Calls Tryz.prog 183 [.int .i64 a].toArray w (Rets (iv (sinI a)) (w)) :=
 zZ (x:=.a (ivC (sinI a))) (qH (N:=60) (ps:=[.n .i64 a]) yJ zV (OrL.ok (l:=kWJ) zHC) ((by kernel_rfl:_=bif (decide ((vJJ .i64 ((a % 65536).tdiv 16384))=0)) then (bif decide (0≤((a % 65536).tmod 16384)∧((a % 65536).tmod 16384)≤16384) then some (.v (.a (ivC (qYG ((a % 65536).tmod 16384)))),[])
 else none)
 else bif (decide ((vJJ .i64 ((a % 65536).tdiv 16384))=1)) then (bif decide (0≤(vJJ .i64 (16384 - ((a % 65536).tmod 16384)))∧(vJJ .i64 (16384 - ((a % 65536).tmod 16384)))≤16384) then some (.v (.a (ivC (qYG (vJJ .i64 (16384 - ((a % 65536).tmod 16384)))))),[])
 else none)
 else bif (decide ((vJJ .i64 ((a % 65536).tdiv 16384))=2)) then (bif decide (0≤((a % 65536).tmod 16384)∧((a % 65536).tmod 16384)≤16384) then some (.v (.a (ivC (Iv.neg (qYG ((a % 65536).tmod 16384))))),[])
 else none)
 else bif decide (0≤(vJJ .i64 (16384 - ((a % 65536).tmod 16384)))∧(vJJ .i64 (16384 - ((a % 65536).tmod 16384)))≤16384) then some (.v (.a (ivC (Iv.neg (qYG (vJJ .i64 (16384 - ((a % 65536).tmod 16384))))))),[])
 else none).trans (by
 have ht:(a % 65536).tdiv 16384=a % 65536 / 16384:=tdnn (by omega);have hm:(a % 65536).tmod 16384=a % 65536 % 16384:=Int.tmod_eq_emod_of_nonneg (by omega);have w1:vJJ .i64 (a % 65536 % 16384)=a % 65536 % 16384:=zQ (by omega);have w2:vJJ .i64 (a % 65536 / 16384)=a % 65536 / 16384:=zQ (by omega);have w3:vJJ .i64 (16384 - a % 65536 % 16384)=16384 - a % 65536 % 16384:=zQ (by omega);simp only [ht,hm,w1,w2,w3,vJQ (show 0≤a % 65536 % 16384∧a % 65536 % 16384≤16384 by omega),vJQ (show 0≤16384 - a % 65536 % 16384∧16384 - a % 65536 % 16384≤16384 by omega),vYV];unfold sinI sinM;cases decide (a % 65536 / 16384=0) <;> cases decide (a % 65536 / 16384=1) <;> cases decide (a % 65536 / 16384=2) <;> rfl))) rfl rfl w
namespace Ta
noncomputable def jXY:List PV→Option (Bool × Ret):=fun ps=>match ps with
 | [.n .i64 a]=>some (true,.v (.a (ivC (sinI a))))
 | _=>none
theorem uJZ:zJ Tryz.prog 195 jXY:=by
 intro ps r h;unfold jXY at h;split at h
 ·simp only [vQZ,vQY] at h;obtain ⟨hg,rfl⟩:=h;exact qX (qW Tryz.func195 (by kernel_rfl) (by kernel_rfl)) rfl rfl (fun w=>aSin _ w)
 ·cases h
noncomputable def xKG:OrL:=(195,jXY) :: kWJ
theorem kWY:AllP (fun x:Nat × (List PV→Option (Bool × Ret))=>zJ Tryz.prog x.1 x.2) xKG:=⟨uJZ,zHC⟩
noncomputable def jUC:List PV→Option (Bool × Ret):=fun ps=>match ps with
 | [.n .i64 a]=>some (true,.v (.a (ivC (sinI a))))
 | _=>none
theorem uYU:zJ Tryz.prog 183 jUC:=by
 intro ps r h;unfold jUC at h;split at h
 ·simp only [vQZ,vQY] at h;obtain ⟨hg,rfl⟩:=h;exact qX (qW Tryz.func183 (by kernel_rfl) (by kernel_rfl)) rfl rfl (fun w=>rSin _ w)
 ·cases h
noncomputable def kWZ:OrL:=(183,jUC) :: xKG
theorem zHB:AllP (fun x:Nat × (List PV→Option (Bool × Ret))=>zJ Tryz.prog x.1 x.2) kWZ:=⟨uYU,kWY⟩
end Ta
set_option maxRecDepth 100000 in
theorem aCos (a:Int) (w:World):Calls Tryz.prog 194 [.int .i64 a].toArray w (Rets (iv (cosI a)) (w)) :=
 zZ (x:=.a (ivC (cosI a))) (qH (N:=60) (ps:=[.n .i64 a]) yJ zV (OrL.ok (l:=kWZ) zHB) ((by kernel_rfl:_=some (.v (.a (ivC (sinI (vJJ .i64 ((a % 65536) + 16384))))),[])).trans (by
 rw [zQ (show -9223372036854775808≤a % 65536 + 16384∧a % 65536 + 16384≤9223372036854775807 by omega)]
 rfl))) rfl rfl w
set_option maxRecDepth 100000 in
theorem rCos (a:Int) (w:World):Calls Tryz.prog 182 [.int .i64 a].toArray w (Rets (iv (cosI a)) (w)) :=
 zZ (x:=.a (ivC (cosI a))) (qH (N:=60) (ps:=[.n .i64 a]) yJ zV (OrL.ok (l:=kWZ) zHB) ((by kernel_rfl:_=some (.v (.a (ivC (sinI (vJJ .i64 ((a % 65536) + 16384))))),[])).trans (by
 rw [zQ (show -9223372036854775808≤a % 65536 + 16384∧a % 65536 + 16384≤9223372036854775807 by omega)]
 rfl))) rfl rfl w
namespace Ta
noncomputable def jXX:List PV→Option (Bool × Ret):=fun ps=>match ps with
 | [.n .i64 a]=>some (true,.v (.a (ivC (cosI a))))
 | _=>none
theorem uJU:zJ Tryz.prog 194 jXX:=by
 intro ps r h;unfold jXX at h;split at h
 ·simp only [vQZ,vQY] at h;obtain ⟨hg,rfl⟩:=h;exact qX (qW Tryz.func194 (by kernel_rfl) (by kernel_rfl)) rfl rfl (fun w=>aCos _ w)
 ·cases h
noncomputable def xKV:OrL:=(194,jXX) :: kWZ
theorem kWQ:AllP (fun x:Nat × (List PV→Option (Bool × Ret))=>zJ Tryz.prog x.1 x.2) xKV:=⟨uJU,zHB⟩
noncomputable def jUL:List PV→Option (Bool × Ret):=fun ps=>match ps with
 | [.n .i64 a]=>some (true,.v (.a (ivC (cosI a))))
 | _=>none
theorem uYH:zJ Tryz.prog 182 jUL:=by
 intro ps r h;unfold jUL at h;split at h
 ·simp only [vQZ,vQY] at h;obtain ⟨hg,rfl⟩:=h;exact qX (qW Tryz.func182 (by kernel_rfl) (by kernel_rfl)) rfl rfl (fun w=>rCos _ w)
 ·cases h
noncomputable def xKW:OrL:=(182,jUL) :: xKV
theorem kXL:AllP (fun x:Nat × (List PV→Option (Bool × Ret))=>zJ Tryz.prog x.1 x.2) xKW:=⟨uYH,kWQ⟩
noncomputable def xKX:OrL:=(145,Tn.o_iValid) :: xKW
theorem kXI:AllP (fun x:Nat × (List PV→Option (Bool × Ret))=>zJ Tryz.prog x.1 x.2) xKX:=⟨Tn.ok_iValid,kXL⟩
noncomputable def yXK:List PV→Option (Bool × Ret):=fun ps=>match ps with
 | [.a a',.a b']=>(ivD a').bind fun a=>(ivD b').bind fun b=>some (true,.v (.a (ivC (Iv.hull a b))))
 | _=>none
theorem kYG:zJ Tryz.prog 199 yXK:=by
 intro ps r h;unfold yXK at h;split at h
 ·simp only [vQQ,vQZ,vQY] at h;obtain ⟨a,ha,b,hb,hg,rfl⟩:=h;rw [qQV ha];rw [qQV hb];exact qX (qW Tryz.func199 (by kernel_rfl) (by kernel_rfl)) rfl rfl (fun w=>fZY _ _ _ _ w)
 ·cases h
noncomputable def xKU:OrL:=(199,yXK) :: xKX
theorem kXF:AllP (fun x:Nat × (List PV→Option (Bool × Ret))=>zJ Tryz.prog x.1 x.2) xKU:=⟨kYG,kXI⟩
noncomputable def o_iOf:List PV→Option (Bool × Ret):=fun ps=>match ps with
 | [.n .i64 x]=>some (true,.v (.a (ivC (Iv.of x))))
 | _=>none
theorem ok_iOf:zJ Tryz.prog 128 o_iOf:=by
 intro ps r h;unfold o_iOf at h;split at h
 ·simp only [vQZ,vQY] at h;obtain ⟨hg,rfl⟩:=h;exact qX (qW Tryz.func128 (by kernel_rfl) (by kernel_rfl)) rfl rfl (fun w=>iOf _ w)
 ·cases h
noncomputable def xKK:OrL:=(128,o_iOf) :: xKU
theorem kXE:AllP (fun x:Nat × (List PV→Option (Bool × Ret))=>zJ Tryz.prog x.1 x.2) xKK:=⟨ok_iOf,kXF⟩
noncomputable def xKJ:OrL:=(152,Tn.o_rValid) :: xKK
theorem kXD:AllP (fun x:Nat × (List PV→Option (Bool × Ret))=>zJ Tryz.prog x.1 x.2) xKJ:=⟨Tn.ok_rValid,kXE⟩
noncomputable def yUL:List PV→Option (Bool × Ret):=fun ps=>match ps with
 | [.a a',.a b']=>(ivD a').bind fun a=>(ivD b').bind fun b=>some (true,.v (.a (ivC (Iv.hull a b))))
 | _=>none
theorem kYZ:zJ Tryz.prog 189 yUL:=by
 intro ps r h;unfold yUL at h;split at h
 ·simp only [vQQ,vQZ,vQY] at h;obtain ⟨a,ha,b,hb,hg,rfl⟩:=h;rw [qQV ha];rw [qQV hb];exact qX (qW Tryz.func189 (by kernel_rfl) (by kernel_rfl)) rfl rfl (fun w=>xUD _ _ _ _ w)
 ·cases h
noncomputable def xKY:OrL:=(189,yUL) :: xKJ
theorem kXC:AllP (fun x:Nat × (List PV→Option (Bool × Ret))=>zJ Tryz.prog x.1 x.2) xKY:=⟨kYZ,kXD⟩
noncomputable def o_rOf:List PV→Option (Bool × Ret):=fun ps=>match ps with
 | [.n .i64 x]=>some (true,.v (.a (ivC (Iv.of x))))
 | _=>none
theorem ok_rOf:zJ Tryz.prog 47 o_rOf:=by
 intro ps r h;unfold o_rOf at h;split at h
 ·simp only [vQZ,vQY] at h;obtain ⟨hg,rfl⟩:=h;exact qX (qW Tryz.func47 (by kernel_rfl) (by kernel_rfl)) rfl rfl (fun w=>rOf _ w)
 ·cases h
noncomputable def xKZ:OrL:=(47,o_rOf) :: xKY
theorem kXB:AllP (fun x:Nat × (List PV→Option (Bool × Ret))=>zJ Tryz.prog x.1 x.2) xKZ:=⟨ok_rOf,kXC⟩
noncomputable def zGK:List PV→Option (Bool × Ret):=fun ps=>match ps with
 | [.a a']=>(ivD a').bind fun a=>some (true,.v (.n .i64 (Iv.width a)))
 | _=>none
theorem jUU:zJ Tryz.prog 198 zGK:=by
 intro ps r h;unfold zGK at h;split at h
 ·simp only [vQQ,vQZ,vQY] at h;obtain ⟨a,ha,hg,rfl⟩:=h;rw [qQV ha];exact qX (qW Tryz.func198 (by kernel_rfl) (by kernel_rfl)) rfl rfl (fun w=>xZE _ _ w)
 ·cases h
noncomputable def xKQ:OrL:=(198,zGK) :: xKZ
theorem kXA:AllP (fun x:Nat × (List PV→Option (Bool × Ret))=>zJ Tryz.prog x.1 x.2) xKQ:=⟨jUU,kXB⟩
noncomputable def zGX:List PV→Option (Bool × Ret):=fun ps=>match ps with
 | [.a a',.n .i64 c]=>(ivD a').bind fun a=>some (decide (0≤c∧c < 65536) && Iv.valid a,.v (.b (uQ a c)))
 | _=>none
theorem jUH:zJ Tryz.prog 200 zGX:=by
 intro ps r h;unfold zGX at h;split at h
 ·simp only [vQQ,vQZ,vQY] at h;obtain ⟨a,ha,hg,rfl⟩:=h;rw [qQV ha]
  try simp only [vQJ,decide_eq_true_eq] at hg
  exact qX (qW Tryz.func200 (by kernel_rfl) (by kernel_rfl)) rfl rfl (fun w=>xJG _ _ _ hg.2 hg.1 w)
 ·cases h
noncomputable def xJL:OrL:=(200,zGX) :: xKQ
theorem kXH:AllP (fun x:Nat × (List PV→Option (Bool × Ret))=>zJ Tryz.prog x.1 x.2) xJL:=⟨jUH,kXA⟩
noncomputable def zVD:List PV→Option (Bool × Ret):=fun ps=>match ps with
 | [.a a',.n .i64 c]=>(ivD a').bind fun a=>some (decide (0≤c∧c < 65536) && Iv.valid a,.v (.b (uQ a c)))
 | _=>none
theorem jKE:zJ Tryz.prog 190 zVD:=by
 intro ps r h;unfold zVD at h;split at h
 ·simp only [vQQ,vQZ,vQY] at h;obtain ⟨a,ha,hg,rfl⟩:=h;rw [qQV ha]
  try simp only [vQJ,decide_eq_true_eq] at hg
  exact qX (qW Tryz.func190 (by kernel_rfl) (by kernel_rfl)) rfl rfl (fun w=>uVV _ _ _ hg.2 hg.1 w)
 ·cases h
noncomputable def jGX:OrL:=(190,zVD) :: xJL
theorem zJU:AllP (fun x:Nat × (List PV→Option (Bool × Ret))=>zJ Tryz.prog x.1 x.2) jGX:=⟨jKE,kXH⟩
end Ta
set_option maxRecDepth 100000 in
theorem kXY (a0 a1:Int) (w:World):Calls Tryz.prog 187 [.agg #[.int .i64 a0,.int .i64 a1]].toArray w (Rets (iv (kK (⟨a0,a1⟩:Iv))) (w)) :=
 zZ (x:=.a (ivC (kK ⟨a0,a1⟩))) (qH (N:=60) (ps:=[.a [.n .i64 a0,.n .i64 a1]]) yJ zV (OrL.ok (l:=jGX) zJU) ((by kernel_rfl:_=bif Iv.valid (Iv.mk a0 a1) then (bif (decide (65536≤Iv.width (Iv.mk a0 a1))) then some (.v (.a [.n .i64 (-65536),.n .i64 65536]),[])
 else bif Iv.valid (Iv.mk a0 a1) then (bif uQ (Iv.mk a0 a1) 16384 then (bif Iv.valid (Iv.mk a0 a1) then (bif uQ (Iv.mk a0 a1) 49152 then some (.v (.a (ivC (Iv.hull (Iv.hull (Iv.hull (sinI a0) (sinI a1)) (Iv.of 65536)) (Iv.of (-65536))))),[])
 else some (.v (.a (ivC (Iv.hull (Iv.hull (sinI a0) (sinI a1)) (Iv.of 65536)))),[]))
 else none)
 else bif Iv.valid (Iv.mk a0 a1) then (bif uQ (Iv.mk a0 a1) 49152 then some (.v (.a (ivC (Iv.hull (Iv.hull (sinI a0) (sinI a1)) (Iv.of (-65536))))),[])
 else some (.v (.a (ivC (Iv.hull (sinI a0) (sinI a1)))),[]))
 else none)
 else none)
 else some (.v (.a [.n .i64 0,.n .i64 0]),[])).trans (by
 have e:kK ⟨a0,a1⟩=bif !Iv.valid (Iv.mk a0 a1) then ⟨0,0⟩ else bif decide (65536≤a1 - a0) then ⟨-65536,65536⟩ else bif uQ (Iv.mk a0 a1) 49152 then Iv.hull (bif uQ (Iv.mk a0 a1) 16384 then Iv.hull (Iv.hull (sinI a0) (sinI a1)) (Iv.of 65536) else Iv.hull (sinI a0) (sinI a1)) (Iv.of (-65536)) else (bif uQ (Iv.mk a0 a1) 16384 then Iv.hull (Iv.hull (sinI a0) (sinI a1)) (Iv.of 65536) else Iv.hull (sinI a0) (sinI a1)):=rfl
 rw [e];cases hv:Iv.valid (Iv.mk a0 a1) with
 | false=>rfl
 | true =>
  have hb:=uV hv;have hw:Iv.width (Iv.mk a0 a1)=a1 - a0:=by unfold Iv.width; rw [hv]; rfl
  rw [hw];cases decide (65536≤a1 - a0) <;> cases uQ (Iv.mk a0 a1) 16384 <;> cases uQ (Iv.mk a0 a1) 49152 <;> rfl))) rfl rfl w
set_option maxRecDepth 100000 in
theorem kXJ (a0 a1:Int) (w:World):Calls Tryz.prog 186 [.agg #[.int .i64 a0,.int .i64 a1]].toArray w (Rets (iv (kX (⟨a0,a1⟩:Iv))) (w)) :=
 zZ (x:=.a (ivC (kX ⟨a0,a1⟩))) (qH (N:=60) (ps:=[.a [.n .i64 a0,.n .i64 a1]]) yJ zV (OrL.ok (l:=jGX) zJU) ((by kernel_rfl:_=bif Iv.valid (Iv.mk a0 a1) then (bif (decide (65536≤Iv.width (Iv.mk a0 a1))) then some (.v (.a [.n .i64 (-65536),.n .i64 65536]),[])
 else bif Iv.valid (Iv.mk a0 a1) then (bif uQ (Iv.mk a0 a1) 0 then (bif Iv.valid (Iv.mk a0 a1) then (bif uQ (Iv.mk a0 a1) 32768 then some (.v (.a (ivC (Iv.hull (Iv.hull (Iv.hull (cosI a0) (cosI a1)) (Iv.of 65536)) (Iv.of (-65536))))),[])
 else some (.v (.a (ivC (Iv.hull (Iv.hull (cosI a0) (cosI a1)) (Iv.of 65536)))),[]))
 else none)
 else bif Iv.valid (Iv.mk a0 a1) then (bif uQ (Iv.mk a0 a1) 32768 then some (.v (.a (ivC (Iv.hull (Iv.hull (cosI a0) (cosI a1)) (Iv.of (-65536))))),[])
 else some (.v (.a (ivC (Iv.hull (cosI a0) (cosI a1)))),[]))
 else none)
 else none)
 else some (.v (.a [.n .i64 0,.n .i64 0]),[])).trans (by
 have e:kX ⟨a0,a1⟩=bif !Iv.valid (Iv.mk a0 a1) then ⟨0,0⟩ else bif decide (65536≤a1 - a0) then ⟨-65536,65536⟩ else bif uQ (Iv.mk a0 a1) 32768 then Iv.hull (bif uQ (Iv.mk a0 a1) 0 then Iv.hull (Iv.hull (cosI a0) (cosI a1)) (Iv.of 65536) else Iv.hull (cosI a0) (cosI a1)) (Iv.of (-65536)) else (bif uQ (Iv.mk a0 a1) 0 then Iv.hull (Iv.hull (cosI a0) (cosI a1)) (Iv.of 65536) else Iv.hull (cosI a0) (cosI a1)):=rfl
 rw [e];cases hv:Iv.valid (Iv.mk a0 a1) with
 | false=>rfl
 | true =>
  have hb:=uV hv;have hw:Iv.width (Iv.mk a0 a1)=a1 - a0:=by unfold Iv.width; rw [hv]; rfl
  rw [hw];cases decide (65536≤a1 - a0) <;> cases uQ (Iv.mk a0 a1) 0 <;> cases uQ (Iv.mk a0 a1) 32768 <;> rfl))) rfl rfl w
set_option maxRecDepth 100000 in
theorem kQD (a0 a1:Int) (w:World):Calls Tryz.prog 174 [.agg #[.int .i64 a0,.int .i64 a1]].toArray w (Rets (iv (kK (⟨a0,a1⟩:Iv))) (w)) :=
 zZ (x:=.a (ivC (kK ⟨a0,a1⟩))) (qH (N:=60) (ps:=[.a [.n .i64 a0,.n .i64 a1]]) yJ zV (OrL.ok (l:=jGX) zJU) ((by kernel_rfl:_=bif Iv.valid (Iv.mk a0 a1) then (bif (decide (65536≤(vJJ .i64 (a1 - a0)))) then some (.v (.a [.n .i64 (-65536),.n .i64 65536]),[])
 else bif Iv.valid (Iv.mk a0 a1) then (bif uQ (Iv.mk a0 a1) 16384 then (bif Iv.valid (Iv.mk a0 a1) then (bif uQ (Iv.mk a0 a1) 49152 then some (.v (.a (ivC (Iv.hull (Iv.hull (Iv.hull (sinI a0) (sinI a1)) (Iv.of 65536)) (Iv.of (-65536))))),[])
 else some (.v (.a (ivC (Iv.hull (Iv.hull (sinI a0) (sinI a1)) (Iv.of 65536)))),[]))
 else none)
 else bif Iv.valid (Iv.mk a0 a1) then (bif uQ (Iv.mk a0 a1) 49152 then some (.v (.a (ivC (Iv.hull (Iv.hull (sinI a0) (sinI a1)) (Iv.of (-65536))))),[])
 else some (.v (.a (ivC (Iv.hull (sinI a0) (sinI a1)))),[]))
 else none)
 else none)
 else some (.v (.a [.n .i64 0,.n .i64 0]),[])).trans (by
 have e:kK ⟨a0,a1⟩=bif !Iv.valid (Iv.mk a0 a1) then ⟨0,0⟩ else bif decide (65536≤a1 - a0) then ⟨-65536,65536⟩ else bif uQ (Iv.mk a0 a1) 49152 then Iv.hull (bif uQ (Iv.mk a0 a1) 16384 then Iv.hull (Iv.hull (sinI a0) (sinI a1)) (Iv.of 65536) else Iv.hull (sinI a0) (sinI a1)) (Iv.of (-65536)) else (bif uQ (Iv.mk a0 a1) 16384 then Iv.hull (Iv.hull (sinI a0) (sinI a1)) (Iv.of 65536) else Iv.hull (sinI a0) (sinI a1)):=rfl
 rw [e];cases hv:Iv.valid (Iv.mk a0 a1) with
 | false=>rfl
 | true =>
  have hb:=uV hv;have hw:vJJ .i64 (a1 - a0)=a1 - a0:=zQ (by omega);rw [hw];cases decide (65536≤a1 - a0) <;> cases uQ (Iv.mk a0 a1) 16384 <;> cases uQ (Iv.mk a0 a1) 49152 <;> rfl))) rfl rfl w
set_option maxRecDepth 100000 in
theorem kQF (a0 a1:Int) (w:World):Calls Tryz.prog 173 [.agg #[.int .i64 a0,.int .i64 a1]].toArray w (Rets (iv (kX (⟨a0,a1⟩:Iv))) (w)) :=
 zZ (x:=.a (ivC (kX ⟨a0,a1⟩))) (qH (N:=60) (ps:=[.a [.n .i64 a0,.n .i64 a1]]) yJ zV (OrL.ok (l:=jGX) zJU) ((by kernel_rfl:_=bif Iv.valid (Iv.mk a0 a1) then (bif (decide (65536≤(vJJ .i64 (a1 - a0)))) then some (.v (.a [.n .i64 (-65536),.n .i64 65536]),[])
 else bif Iv.valid (Iv.mk a0 a1) then (bif uQ (Iv.mk a0 a1) 0 then (bif Iv.valid (Iv.mk a0 a1) then (bif uQ (Iv.mk a0 a1) 32768 then some (.v (.a (ivC (Iv.hull (Iv.hull (Iv.hull (cosI a0) (cosI a1)) (Iv.of 65536)) (Iv.of (-65536))))),[])
 else some (.v (.a (ivC (Iv.hull (Iv.hull (cosI a0) (cosI a1)) (Iv.of 65536)))),[]))
 else none)
 else bif Iv.valid (Iv.mk a0 a1) then (bif uQ (Iv.mk a0 a1) 32768 then some (.v (.a (ivC (Iv.hull (Iv.hull (cosI a0) (cosI a1)) (Iv.of (-65536))))),[])
 else some (.v (.a (ivC (Iv.hull (cosI a0) (cosI a1)))),[]))
 else none)
 else none)
 else some (.v (.a [.n .i64 0,.n .i64 0]),[])).trans (by
 have e:kX ⟨a0,a1⟩=bif !Iv.valid (Iv.mk a0 a1) then ⟨0,0⟩ else bif decide (65536≤a1 - a0) then ⟨-65536,65536⟩ else bif uQ (Iv.mk a0 a1) 32768 then Iv.hull (bif uQ (Iv.mk a0 a1) 0 then Iv.hull (Iv.hull (cosI a0) (cosI a1)) (Iv.of 65536) else Iv.hull (cosI a0) (cosI a1)) (Iv.of (-65536)) else (bif uQ (Iv.mk a0 a1) 0 then Iv.hull (Iv.hull (cosI a0) (cosI a1)) (Iv.of 65536) else Iv.hull (cosI a0) (cosI a1)):=rfl
 rw [e];cases hv:Iv.valid (Iv.mk a0 a1) with
 | false=>rfl
 | true =>
  have hb:=uV hv;have hw:vJJ .i64 (a1 - a0)=a1 - a0:=zQ (by omega);rw [hw];cases decide (65536≤a1 - a0) <;> cases uQ (Iv.mk a0 a1) 0 <;> cases uQ (Iv.mk a0 a1) 32768 <;> rfl))) rfl rfl w
end Go.Proofs.YtmeldddgjfocdaaGreat
namespace Go.Proofs.YtmeldddgjfocdaaGreat
open Go.Sx Go.Rx Rt Go.RowKit
namespace Tm
end Tm
open Tm
theorem fQD:qKH Tryz.prog 201=some ([.int .i64 0,.int .i64 0,.int .i64 0,.int .i64 0],[(0,1),(1,1),(2,1),(3,1)]):=by kernel_rfl
theorem xUZ:qYD Tryz.prog 201 (.agg #[.int .i64 0,.int .i64 0,.int .i64 0,.int .i64 0]):=by unfold qYD; kernel_rfl
theorem uWY:tyB Tryz.prog 201 true 4=true:=by kernel_rfl
theorem xJV:arrB Tryz.prog 201 4 1=true:=by kernel_rfl
theorem fZV:uW Tryz.prog 179:=qW Tryz.func179 (by kernel_rfl) (by kernel_rfl)
theorem uKY (a:Int) (b:Int) (_:In64 a) (hb:In64 b) (_:b≤4611686018427387904) (w:World):Calls Tryz.prog 179 [.int .i64 a,.int .i64 b].toArray w (Rets (iv (Iv.mk (qQG (a / 65536)) (qQG (zX b 65536)))) (w)):=by
 refine jX (n:=10) Tryz.func179 rfl rfl rfl ?_;refine zK ?_;refine qU ?_;refine qUY 4 ze62 rfl rfl rfl ?_; intro b4;refine zU ?_;refine qK ?_;refine zK ?_;refine qU ?_;refine qG (qV rfl) rfl rfl rfl ?_;refine qKX (F:=vI) (uJ xYB rfl (fun w _=>zZJ _ _ (by decide) w)) rfl rfl rfl ?_; intro r6 hr6;refine qG (qV rfl) rfl rfl rfl ?_;refine qKX (F:=vI) (uJ xYA rfl (fun w _=>zHJ _ _ (by decide) hb w)) rfl rfl rfl ?_; intro r8 hr8;refine qKX (F:=iv) (uJ fZA rfl (fun w _=>yGX _ _  w)) rfl rfl rfl ?_; intro r9 hr9;refine qZC 4 ty62 rfl rfl rfl rfl rfl rfl rfl rfl ?_;refine zU ?_;refine qK ?_;refine qQJ ?_;refine kJ (rs:=[.cell 4 62]) rfl (resC (qJX 4 rfl rfl ty62 rfl) (resN)) (congrArg (iv) (?_:⟨_,_⟩=Iv.mk (qQG (a / 65536)) (qQG (zX b 65536))))
 subst_vars; rfl
theorem fZZ {p0 p1 p2 p3:Int}:∀ w:World,(Instr.index 201 (.agg #[.int .i64 p0,.int .i64 p1,.int .i64 p2,.int .i64 p3]) (.int .i64 0)).run Tryz.prog w=.ok (.int .i64 p0) w:=fun w=>by kernel_rfl
theorem fZQ {p0 p1 p2 p3:Int}:∀ w:World,(Instr.index 201 (.agg #[.int .i64 p0,.int .i64 p1,.int .i64 p2,.int .i64 p3]) (.int .i64 1)).run Tryz.prog w=.ok (.int .i64 p1) w:=fun w=>by kernel_rfl
theorem fQL {p0 p1 p2 p3:Int}:∀ w:World,(Instr.index 201 (.agg #[.int .i64 p0,.int .i64 p1,.int .i64 p2,.int .i64 p3]) (.int .i64 2)).run Tryz.prog w=.ok (.int .i64 p2) w:=fun w=>by kernel_rfl
theorem fQI {p0 p1 p2 p3:Int}:∀ w:World,(Instr.index 201 (.agg #[.int .i64 p0,.int .i64 p1,.int .i64 p2,.int .i64 p3]) (.int .i64 3)).run Tryz.prog w=.ok (.int .i64 p3) w:=fun w=>by kernel_rfl
theorem iMul (a0 a1:Int) (b0 b1:Int) (w:World):Calls Tryz.prog 161 [.agg #[.int .i64 a0,.int .i64 a1],.agg #[.int .i64 b0,.int .i64 b1]].toArray w (Rets (iv (Iv.mul (⟨a0,a1⟩:Iv) (⟨b0,b1⟩:Iv))) (w)):=by
 refine jX (n:=54) Tryz.func161 rfl rfl rfl ?_;refine zK ?_;refine qU ?_;refine qWC 2 rfl rfl rfl rfl ?_; intro b2;refine qWC 3 rfl rfl rfl rfl ?_; intro b3;refine qUY 4 ze62 rfl rfl rfl ?_; intro b4;refine zU ?_;refine qK ?_;refine zK ?_;refine zK ?_;refine qU ?_;refine qG (qZB 2 ty62 rfl rfl rfl) rfl rfl rfl ?_;refine qG (qZB 3 ty62 rfl rfl rfl) rfl rfl rfl ?_;refine qKX (F:=vB) (uJ fZG rfl (fun w _=>uKZ _ _ _ _  w)) rfl rfl rfl ?_; intro r12 hr12;refine qG (zKJ rfl) rfl rfl rfl ?_;refine zU ?_;refine qK ?_;refine qYI rfl (fun hc13 => ?_) (fun hc13 => ?_)
 ·
  refine zK ?_;refine qU ?_;refine qG (qJI la62 rfl rfl) rfl rfl rfl ?_;refine qZC 4 ty62 rfl rfl rfl rfl rfl rfl rfl rfl ?_;refine zU ?_;refine qK ?_;refine qQJ ?_;refine qXK ?_;refine kJ (rs:=[.cell 4 62]) rfl (resC (qJX 4 rfl rfl ty62 rfl) (resN)) (congrArg (iv) (?_:⟨_,_⟩=Iv.mul (⟨a0,a1⟩:Iv) (⟨b0,b1⟩:Iv)))
  subst_vars; first | (simp_all [Iv.mul,min4,max4]; done) | (simp_all [Iv.mul,min4,max4] <;> omega) | grind [Iv.mul,min4,max4]
 ·
  refine qQE ?_;refine qK ?_;refine zK ?_;have hv:=(hr12.symm.trans (by simpa using hc13))
  rw [vQJ] at hv;have ha:=uV hv.1;have hb:=uV hv.2;have m1:=qXD (a:=a0) (b:=b0) (by omega) (by omega);have m2:=qXD (a:=a0) (b:=b1) (by omega) (by omega);have m3:=qXD (a:=a1) (b:=b0) (by omega) (by omega);have m4:=qXD (a:=a1) (b:=b1) (by omega) (by omega);refine qU ?_;refine qG (zH qXL rfl) rfl rfl rfl ?_;refine qG (jZ 2 ty2 rfl rfl rfl) rfl rfl rfl ?_;refine qG (zH qXL rfl) rfl rfl rfl ?_;refine qG (jZ 3 ty2 rfl rfl rfl) rfl rfl rfl ?_;refine qG (qXX rfl rfl (by first | exact zQ ⟨by omega,by omega⟩ | rfl)) rfl rfl rfl ?_;refine qG (zH qXL rfl) rfl rfl rfl ?_;refine qG (jZ 2 ty2 rfl rfl rfl) rfl rfl rfl ?_;refine qG (zH qHX rfl) rfl rfl rfl ?_;refine qG (jZ 3 ty2 rfl rfl rfl) rfl rfl rfl ?_;refine qG (qXX rfl rfl (by first | exact zQ ⟨by omega,by omega⟩ | rfl)) rfl rfl rfl ?_;refine qG (zH qHX rfl) rfl rfl rfl ?_;refine qG (jZ 2 ty2 rfl rfl rfl) rfl rfl rfl ?_;refine qG (zH qXL rfl) rfl rfl rfl ?_;refine qG (jZ 3 ty2 rfl rfl rfl) rfl rfl rfl ?_;refine qG (qXX rfl rfl (by first | exact zQ ⟨by omega,by omega⟩ | rfl)) rfl rfl rfl ?_;refine qG (zH qHX rfl) rfl rfl rfl ?_;refine qG (jZ 2 ty2 rfl rfl rfl) rfl rfl rfl ?_;refine qG (zH qHX rfl) rfl rfl rfl ?_;refine qG (jZ 3 ty2 rfl rfl rfl) rfl rfl rfl ?_;refine qG (qXX rfl rfl (by first | exact zQ ⟨by omega,by omega⟩ | rfl)) rfl rfl rfl ?_;refine qG (qJI fQD rfl rfl) rfl rfl rfl ?_;refine qUY 5 xUZ rfl rfl rfl ?_; intro b5;refine qZC 5 uWY rfl rfl rfl rfl rfl rfl rfl rfl ?_;refine zU ?_;refine qK ?_;refine zK ?_;refine qJL 5 mo (by kernel_rfl) ?_;simp only [vYK,vYX,vYU,vYW];refine jK (qXH xJV rfl rfl (by first | decide | omega) (by first | decide | omega)) rfl rfl rfl ?_;refine jK (jZ 5 ty2 rfl rfl rfl) rfl rfl rfl ?_;refine jK (qXH xJV rfl rfl (by first | decide | omega) (by first | decide | omega)) rfl rfl rfl ?_;refine jK (jZ 5 ty2 rfl rfl rfl) rfl rfl rfl ?_;refine jK (zY rfl) rfl rfl rfl ?_;refine qWD ?_;refine qUW ?_;refine qG (zY rfl) rfl rfl rfl ?_;refine zU ?_;refine qK ?_;refine zK ?_;refine zK ?_;refine qU ?_;refine qG (qZB 5 uWY rfl rfl rfl) rfl rfl rfl ?_;refine qG (qV rfl) rfl rfl rfl ?_;refine zU ?_;refine qK ?_;refine qJG ?_;refine jZA 5 ?_;refine qHG ?_;refine zK ?_;refine qU ?_;refine qG (qKK rfl rfl) rfl rfl rfl ?_;refine zU ?_;refine qK ?_;refine zK ?_;refine qUL rfl (by decide) ?_;refine qQE ?_;refine qK ?_;refine zK ?_;refine qJG ?_;refine zK ?_;refine qU ?_;refine qG (qUF rfl rfl (fZZ)) rfl rfl rfl ?_;refine qG (zY rfl) rfl rfl rfl ?_;refine zU ?_;refine qK ?_;refine qU ?_;refine qG (qV rfl) rfl rfl rfl ?_;refine qG (qV rfl) rfl rfl rfl ?_;refine qG (qXW rfl rfl) rfl rfl rfl ?_;refine qG (qV rfl) rfl rfl rfl ?_;refine qG (qV rfl) rfl rfl rfl ?_;refine qG (qXV rfl rfl) rfl rfl rfl ?_;refine qG (zY rfl) rfl rfl rfl ?_;refine qG (zY rfl) rfl rfl rfl ?_;refine zU ?_;refine uZ ?_;refine qK ?_;refine qU ?_;refine qG (qYB rfl rfl (by first | exact zQ ⟨by omega,by omega⟩ | rfl)) rfl rfl rfl ?_;refine qG (qV rfl) rfl rfl rfl ?_;refine zU ?_;refine qXU ?_;refine qHG ?_;refine zK ?_;refine qU ?_;refine qG (qKK rfl rfl) rfl rfl rfl ?_;refine zU ?_;refine qK ?_;refine zK ?_;refine qUL rfl (by decide) ?_;refine qQE ?_;refine qK ?_;refine zK ?_;refine qJG ?_;refine zK ?_;refine qU ?_;refine qG (qUF rfl rfl (fZQ)) rfl rfl rfl ?_;refine qG (zY rfl) rfl rfl rfl ?_;refine zU ?_;refine qK ?_;refine qU ?_;refine qG (qV rfl) rfl rfl rfl ?_;refine qG (qV rfl) rfl rfl rfl ?_;refine qG (qXW rfl rfl) rfl rfl rfl ?_;refine qG (qV rfl) rfl rfl rfl ?_;refine qG (qV rfl) rfl rfl rfl ?_;refine qG (qXV rfl rfl) rfl rfl rfl ?_;refine qG (zY rfl) rfl rfl rfl ?_;refine qG (zY rfl) rfl rfl rfl ?_;refine zU ?_;refine uZ ?_;refine qK ?_;refine qU ?_;refine qG (qYB rfl rfl (by first | exact zQ ⟨by omega,by omega⟩ | rfl)) rfl rfl rfl ?_;refine qG (qV rfl) rfl rfl rfl ?_;refine zU ?_;refine qXU ?_;refine qHG ?_;refine zK ?_;refine qU ?_;refine qG (qKK rfl rfl) rfl rfl rfl ?_;refine zU ?_;refine qK ?_;refine zK ?_;refine qUL rfl (by decide) ?_;refine qQE ?_;refine qK ?_;refine zK ?_;refine qJG ?_;refine zK ?_;refine qU ?_;refine qG (qUF rfl rfl (fQL)) rfl rfl rfl ?_;refine qG (zY rfl) rfl rfl rfl ?_;refine zU ?_;refine qK ?_;refine qU ?_;refine qG (qV rfl) rfl rfl rfl ?_;refine qG (qV rfl) rfl rfl rfl ?_;refine qG (qXW rfl rfl) rfl rfl rfl ?_;refine qG (qV rfl) rfl rfl rfl ?_;refine qG (qV rfl) rfl rfl rfl ?_;refine qG (qXV rfl rfl) rfl rfl rfl ?_;refine qG (zY rfl) rfl rfl rfl ?_;refine qG (zY rfl) rfl rfl rfl ?_;refine zU ?_;refine uZ ?_;refine qK ?_;refine qU ?_;refine qG (qYB rfl rfl (by first | exact zQ ⟨by omega,by omega⟩ | rfl)) rfl rfl rfl ?_;refine qG (qV rfl) rfl rfl rfl ?_;refine zU ?_;refine qXU ?_;refine qHG ?_;refine zK ?_;refine qU ?_;refine qG (qKK rfl rfl) rfl rfl rfl ?_;refine zU ?_;refine qK ?_;refine zK ?_;refine qUL rfl (by decide) ?_;refine qQE ?_;refine qK ?_;refine zK ?_;refine qJG ?_;refine zK ?_;refine qU ?_;refine qG (qUF rfl rfl (fQI)) rfl rfl rfl ?_;refine qG (zY rfl) rfl rfl rfl ?_;refine zU ?_;refine qK ?_;refine qU ?_;refine qG (qV rfl) rfl rfl rfl ?_;refine qG (qV rfl) rfl rfl rfl ?_;refine qG (qXW rfl rfl) rfl rfl rfl ?_;refine qG (qV rfl) rfl rfl rfl ?_;refine qG (qV rfl) rfl rfl rfl ?_;refine qG (qXV rfl rfl) rfl rfl rfl ?_;refine qG (zY rfl) rfl rfl rfl ?_;refine qG (zY rfl) rfl rfl rfl ?_;refine zU ?_;refine uZ ?_;refine qK ?_;refine qU ?_;refine qG (qYB rfl rfl (by first | exact zQ ⟨by omega,by omega⟩ | rfl)) rfl rfl rfl ?_;refine qG (qV rfl) rfl rfl rfl ?_;refine zU ?_;refine qXU ?_;refine qHG ?_;refine zK ?_;refine qU ?_;refine qG (qKK rfl rfl) rfl rfl rfl ?_;refine zU ?_;refine qK ?_;refine zK ?_;refine qVU rfl (by decide) ?_;refine zHV ?_;refine qZF ?_;refine qZF ?_;refine qKL ?_;refine qK ?_;refine zK ?_;refine qU ?_;refine qG (qV rfl) rfl rfl rfl ?_;refine qG (qV rfl) rfl rfl rfl ?_;refine qKX (F:=iv) (uJ fZV rfl (fun w _=>uKY _ _ (by unfold In64; omega) (by unfold In64; omega) (by omega) w)) rfl rfl rfl ?_; intro r53 hr53;refine qZC 4 ty62 rfl rfl rfl rfl rfl rfl rfl rfl ?_;refine zU ?_;refine qK ?_;refine qQJ ?_;refine kJ (rs:=[.cell 4 62]) rfl (resC (qJX 4 rfl rfl ty62 rfl) (resN)) (congrArg (iv) (?_:⟨_,_⟩=Iv.mul (⟨a0,a1⟩:Iv) (⟨b0,b1⟩:Iv)))
  subst_vars; first | (simp_all [Iv.mul,min4,max4]; done) | (simp_all [Iv.mul,min4,max4] <;> omega) | grind [Iv.mul,min4,max4]
namespace Tm
noncomputable def LTm1:OrL:=(128,Ta.o_iOf) :: ([]:OrL)
theorem uXY:AllP (fun x:Nat × (List PV→Option (Bool × Ret))=>zJ Tryz.prog x.1 x.2) LTm1:=⟨Ta.ok_iOf,trivial⟩
noncomputable def LTm2:OrL:=(47,Ta.o_rOf) :: LTm1
theorem yWH:AllP (fun x:Nat × (List PV→Option (Bool × Ret))=>zJ Tryz.prog x.1 x.2) LTm2:=⟨Ta.ok_rOf,uXY⟩
end Tm
set_option maxRecDepth 100000 in
theorem kVH (p0 p1 p2:Int) (w:World):Calls Tryz.prog 79 [.agg #[.int .i64 p0,.int .i64 p1,.int .i64 p2]].toArray w (Rets (v3 (V3.of (⟨p0,p1,p2⟩:Z3))) (w)) :=
 zZ (x:=.a (v3C (V3.of ⟨p0,p1,p2⟩))) (qH (N:=60) (ps:=[.a [.n .i64 p0,.n .i64 p1,.n .i64 p2]]) yJ zV (OrL.ok (l:=LTm2) yWH) (by kernel_rfl)) rfl rfl w
set_option maxRecDepth 100000 in
theorem kVQ (p0 p1 p2:Int) (w:World):Calls Tryz.prog 49 [.agg #[.int .i64 p0,.int .i64 p1,.int .i64 p2]].toArray w (Rets (v3 (V3.of (⟨p0,p1,p2⟩:Z3))) (w)) :=
 zZ (x:=.a (v3C (V3.of ⟨p0,p1,p2⟩))) (qH (N:=60) (ps:=[.a [.n .i64 p0,.n .i64 p1,.n .i64 p2]]) yJ zV (OrL.ok (l:=LTm2) yWH) (by kernel_rfl)) rfl rfl w
namespace Tm
noncomputable def LTm3:OrL:=(145,Tn.o_iValid) :: LTm2
theorem uXZ:AllP (fun x:Nat × (List PV→Option (Bool × Ret))=>zJ Tryz.prog x.1 x.2) LTm3:=⟨Tn.ok_iValid,yWH⟩
noncomputable def o_iAdd:List PV→Option (Bool × Ret):=fun ps=>match ps with
 | [.a a',.a b']=>(ivD a').bind fun a=>(ivD b').bind fun b=>some (true,.v (.a (ivC (Iv.add a b))))
 | _=>none
theorem ok_iAdd:zJ Tryz.prog 160 o_iAdd:=by
 intro ps r h;unfold o_iAdd at h;split at h
 ·simp only [vQQ,vQZ,vQY] at h;obtain ⟨a,ha,b,hb,hg,rfl⟩:=h;rw [qQV ha];rw [qQV hb];exact qX (qW Tryz.func160 (by kernel_rfl) (by kernel_rfl)) rfl rfl (fun w=>iAdd _ _ _ _ w)
 ·cases h
noncomputable def LTm4:OrL:=(160,o_iAdd) :: LTm3
theorem uXQ:AllP (fun x:Nat × (List PV→Option (Bool × Ret))=>zJ Tryz.prog x.1 x.2) LTm4:=⟨ok_iAdd,uXZ⟩
noncomputable def LTm5:OrL:=(188,Ta.o_iNeg) :: LTm4
theorem uUL:AllP (fun x:Nat × (List PV→Option (Bool × Ret))=>zJ Tryz.prog x.1 x.2) LTm5:=⟨Ta.ok_iNeg,uXQ⟩
noncomputable def LTm6:OrL:=(152,Tn.o_rValid) :: LTm5
theorem uUI:AllP (fun x:Nat × (List PV→Option (Bool × Ret))=>zJ Tryz.prog x.1 x.2) LTm6:=⟨Tn.ok_rValid,uUL⟩
noncomputable def o_rAdd:List PV→Option (Bool × Ret):=fun ps=>match ps with
 | [.a a',.a b']=>(ivD a').bind fun a=>(ivD b').bind fun b=>some (true,.v (.a (ivC (Iv.add a b))))
 | _=>none
theorem ok_rAdd:zJ Tryz.prog 141 o_rAdd:=by
 intro ps r h;unfold o_rAdd at h;split at h
 ·simp only [vQQ,vQZ,vQY] at h;obtain ⟨a,ha,b,hb,hg,rfl⟩:=h;rw [qQV ha];rw [qQV hb];exact qX (qW Tryz.func141 (by kernel_rfl) (by kernel_rfl)) rfl rfl (fun w=>rAdd _ _ _ _ w)
 ·cases h
noncomputable def LTm7:OrL:=(141,o_rAdd) :: LTm6
theorem uUF:AllP (fun x:Nat × (List PV→Option (Bool × Ret))=>zJ Tryz.prog x.1 x.2) LTm7:=⟨ok_rAdd,uUI⟩
noncomputable def LTm8:OrL:=(175,Ta.o_rNeg) :: LTm7
theorem zUB:AllP (fun x:Nat × (List PV→Option (Bool × Ret))=>zJ Tryz.prog x.1 x.2) LTm8:=⟨Ta.ok_rNeg,uUF⟩
end Tm
set_option maxRecDepth 100000 in
theorem mAdd (p0 p1 p2 p3 p4 p5:Int) (q0 q1 q2 q3 q4 q5:Int) (w:World):Calls Tryz.prog 158 [.agg #[.int .i64 p0,.int .i64 p1,.int .i64 p2,.int .i64 p3,.int .i64 p4,.int .i64 p5],.agg #[.int .i64 q0,.int .i64 q1,.int .i64 q2,.int .i64 q3,.int .i64 q4,.int .i64 q5]].toArray w (Rets (v3 (V3.add (⟨⟨p0,p1⟩,⟨p2,p3⟩,⟨p4,p5⟩⟩:V3) (⟨⟨q0,q1⟩,⟨q2,q3⟩,⟨q4,q5⟩⟩:V3))) (w)) :=
 zZ (x:=.a (v3C (V3.add ⟨⟨p0,p1⟩,⟨p2,p3⟩,⟨p4,p5⟩⟩ ⟨⟨q0,q1⟩,⟨q2,q3⟩,⟨q4,q5⟩⟩))) (qH (N:=60) (ps:=[.a (ivs [⟨p0,p1⟩,⟨p2,p3⟩,⟨p4,p5⟩]),.a (ivs [⟨q0,q1⟩,⟨q2,q3⟩,⟨q4,q5⟩])]) yJ zV (OrL.ok (l:=LTm8) zUB) (by kernel_rfl)) rfl rfl w
set_option maxRecDepth 100000 in
theorem uZE (p0 p1 p2 p3 p4 p5:Int) (q0 q1 q2 q3 q4 q5:Int) (w:World):Calls Tryz.prog 101 [.agg #[.int .i64 p0,.int .i64 p1,.int .i64 p2,.int .i64 p3,.int .i64 p4,.int .i64 p5],.agg #[.int .i64 q0,.int .i64 q1,.int .i64 q2,.int .i64 q3,.int .i64 q4,.int .i64 q5]].toArray w (Rets (v3 (V3.add (⟨⟨p0,p1⟩,⟨p2,p3⟩,⟨p4,p5⟩⟩:V3) (⟨⟨q0,q1⟩,⟨q2,q3⟩,⟨q4,q5⟩⟩:V3))) (w)) :=
 zZ (x:=.a (v3C (V3.add ⟨⟨p0,p1⟩,⟨p2,p3⟩,⟨p4,p5⟩⟩ ⟨⟨q0,q1⟩,⟨q2,q3⟩,⟨q4,q5⟩⟩))) (qH (N:=60) (ps:=[.a (ivs [⟨p0,p1⟩,⟨p2,p3⟩,⟨p4,p5⟩]),.a (ivs [⟨q0,q1⟩,⟨q2,q3⟩,⟨q4,q5⟩])]) yJ zV (OrL.ok (l:=LTm8) zUB) (by kernel_rfl)) rfl rfl w
set_option maxRecDepth 100000 in
theorem jXH  (w:World):Calls Tryz.prog 137 [].toArray w (Rets (m3 (M3.unit)) (w)) :=
 zZ (x:=.a (m3C M3.unit)) (qH (N:=60) (ps:=[]) yJ zV (OrL.ok (l:=LTm8) zUB) (by kernel_rfl)) rfl rfl w
set_option maxRecDepth 100000 in
theorem xUA  (w:World):Calls Tryz.prog 135 [].toArray w (Rets (m3 (M3.unit)) (w)) :=
 zZ (x:=.a (m3C M3.unit)) (qH (N:=60) (ps:=[]) yJ zV (OrL.ok (l:=LTm8) zUB) (by kernel_rfl)) rfl rfl w
namespace Tm
noncomputable def zQI:List PV→Option (Bool × Ret):=fun ps=>match ps with
 | [.a a']=>(ivD a').bind fun a=>some (true,.v (.a (ivC (kK a))))
 | _=>none
theorem yUC:zJ Tryz.prog 187 zQI:=by
 intro ps r h;unfold zQI at h;split at h
 ·simp only [vQQ,vQZ,vQY] at h;obtain ⟨a,ha,hg,rfl⟩:=h;rw [qQV ha];exact qX (qW Tryz.func187 (by kernel_rfl) (by kernel_rfl)) rfl rfl (fun w=>kXY _ _ w)
 ·cases h
noncomputable def LTm9:OrL:=(187,zQI) :: LTm8
theorem uUE:AllP (fun x:Nat × (List PV→Option (Bool × Ret))=>zJ Tryz.prog x.1 x.2) LTm9:=⟨yUC,zUB⟩
noncomputable def zQL:List PV→Option (Bool × Ret):=fun ps=>match ps with
 | [.a a']=>(ivD a').bind fun a=>some (true,.v (.a (ivC (kX a))))
 | _=>none
theorem yUD:zJ Tryz.prog 186 zQL:=by
 intro ps r h;unfold zQL at h;split at h
 ·simp only [vQQ,vQZ,vQY] at h;obtain ⟨a,ha,hg,rfl⟩:=h;rw [qQV ha];exact qX (qW Tryz.func186 (by kernel_rfl) (by kernel_rfl)) rfl rfl (fun w=>kXJ _ _ w)
 ·cases h
noncomputable def xJI:OrL:=(186,zQL) :: LTm9
theorem kXG:AllP (fun x:Nat × (List PV→Option (Bool × Ret))=>zJ Tryz.prog x.1 x.2) xJI:=⟨yUD,uUE⟩
noncomputable def zQW:List PV→Option (Bool × Ret):=fun ps=>match ps with
 | [.a a']=>(ivD a').bind fun a=>some (true,.v (.a (ivC (kK a))))
 | _=>none
theorem yUZ:zJ Tryz.prog 174 zQW:=by
 intro ps r h;unfold zQW at h;split at h
 ·simp only [vQQ,vQZ,vQY] at h;obtain ⟨a,ha,hg,rfl⟩:=h;rw [qQV ha];exact qX (qW Tryz.func174 (by kernel_rfl) (by kernel_rfl)) rfl rfl (fun w=>kQD _ _ w)
 ·cases h
noncomputable def xJF:OrL:=(174,zQW) :: xJI
theorem kXV:AllP (fun x:Nat × (List PV→Option (Bool × Ret))=>zJ Tryz.prog x.1 x.2) xJF:=⟨yUZ,kXG⟩
noncomputable def zQH:List PV→Option (Bool × Ret):=fun ps=>match ps with
 | [.a a']=>(ivD a').bind fun a=>some (true,.v (.a (ivC (kX a))))
 | _=>none
theorem yUK:zJ Tryz.prog 173 zQH:=by
 intro ps r h;unfold zQH at h;split at h
 ·simp only [vQQ,vQZ,vQY] at h;obtain ⟨a,ha,hg,rfl⟩:=h;rw [qQV ha];exact qX (qW Tryz.func173 (by kernel_rfl) (by kernel_rfl)) rfl rfl (fun w=>kQF _ _ w)
 ·cases h
noncomputable def uXJ:OrL:=(173,zQH) :: xJF
theorem yHW:AllP (fun x:Nat × (List PV→Option (Bool × Ret))=>zJ Tryz.prog x.1 x.2) uXJ:=⟨yUK,kXV⟩
end Tm
set_option maxRecDepth 100000 in
theorem fQC (axis:Int) (a0 a1:Int) (w:World):Calls Tryz.prog 180 [.int .i64 axis,.agg #[.int .i64 a0,.int .i64 a1]].toArray w (Rets (m3 (M3.turn axis (⟨a0,a1⟩:Iv))) (w)) :=
 zZ (x:=.a (m3C (M3.turn axis ⟨a0,a1⟩))) (qH (N:=60) (ps:=[.n .i64 axis,.a [.n .i64 a0,.n .i64 a1]]) yJ zV (OrL.ok (l:=uXJ) yHW) ((by kernel_rfl:_=bif Iv.valid (Iv.mk a0 a1) then (bif (decide (axis=0)) then some (.v (.a (ivs [(Iv.of 65536),(Iv.of 0),(Iv.of 0),(Iv.of 0),(kX (Iv.mk a0 a1)),(Iv.neg (kK (Iv.mk a0 a1))),(Iv.of 0),(kK (Iv.mk a0 a1)),(kX (Iv.mk a0 a1))])),[])
 else bif (decide (axis=1)) then some (.v (.a (ivs [(kX (Iv.mk a0 a1)),(Iv.of 0),(kK (Iv.mk a0 a1)),(Iv.of 0),(Iv.of 65536),(Iv.of 0),(Iv.neg (kK (Iv.mk a0 a1))),(Iv.of 0),(kX (Iv.mk a0 a1))])),[])
 else bif (decide (axis=2)) then some (.v (.a (ivs [(kX (Iv.mk a0 a1)),(Iv.neg (kK (Iv.mk a0 a1))),(Iv.of 0),(kK (Iv.mk a0 a1)),(kX (Iv.mk a0 a1)),(Iv.of 0),(Iv.of 0),(Iv.of 0),(Iv.of 65536)])),[])
 else some (.v (.a (ivs [iv0,iv0,iv0,iv0,iv0,iv0,iv0,iv0,iv0])),[]))
 else some (.v (.a (ivs [iv0,iv0,iv0,iv0,iv0,iv0,iv0,iv0,iv0])),[])).trans (by
 simp only [kVU,jUB];unfold M3.turn;cases Iv.valid (Iv.mk a0 a1) <;> cases decide (axis=0) <;> cases decide (axis=1) <;> cases decide (axis=2) <;> rfl))) rfl rfl w
set_option maxRecDepth 100000 in
theorem xUB (axis:Int) (a0 a1:Int) (w:World):Calls Tryz.prog 153 [.int .i64 axis,.agg #[.int .i64 a0,.int .i64 a1]].toArray w (Rets (m3 (M3.turn axis (⟨a0,a1⟩:Iv))) (w)) :=
 zZ (x:=.a (m3C (M3.turn axis ⟨a0,a1⟩))) (qH (N:=60) (ps:=[.n .i64 axis,.a [.n .i64 a0,.n .i64 a1]]) yJ zV (OrL.ok (l:=uXJ) yHW) ((by kernel_rfl:_=bif Iv.valid (Iv.mk a0 a1) then (bif (decide (axis=0)) then some (.v (.a (ivs [(Iv.of 65536),iv0,iv0,iv0,(kX (Iv.mk a0 a1)),(Iv.neg (kK (Iv.mk a0 a1))),iv0,(kK (Iv.mk a0 a1)),(kX (Iv.mk a0 a1))])),[])
 else bif (decide (axis=1)) then some (.v (.a (ivs [(kX (Iv.mk a0 a1)),iv0,(kK (Iv.mk a0 a1)),iv0,(Iv.of 65536),iv0,(Iv.neg (kK (Iv.mk a0 a1))),iv0,(kX (Iv.mk a0 a1))])),[])
 else bif (decide (axis=2)) then some (.v (.a (ivs [(kX (Iv.mk a0 a1)),(Iv.neg (kK (Iv.mk a0 a1))),iv0,(kK (Iv.mk a0 a1)),(kX (Iv.mk a0 a1)),iv0,iv0,iv0,(Iv.of 65536)])),[])
 else some (.v (.a (ivs [iv0,iv0,iv0,iv0,iv0,iv0,iv0,iv0,iv0])),[]))
 else some (.v (.a (ivs [iv0,iv0,iv0,iv0,iv0,iv0,iv0,iv0,iv0])),[])).trans (by
 simp only [kVU,jUB];unfold M3.turn;cases Iv.valid (Iv.mk a0 a1) <;> cases decide (axis=0) <;> cases decide (axis=1) <;> cases decide (axis=2) <;> rfl))) rfl rfl w
end Go.Proofs.YtmeldddgjfocdaaGreat

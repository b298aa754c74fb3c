/- Part 10 of the texts behind the last one: rules and contracts. No condition. -/
import Derived.Test.YtgmbkkkbfbocnaaGreatGS9
open Option renaming bind_eq_some_iff → vQQ
open Option.some renaming injEq → vQZ
open Prod.mk renaming injEq → vQY
open Bool renaming and_eq_true → vQJ, and_self → vZJ, true_and → vZH
open List renaming take_succ_cons → vYK, drop_succ_cons → vYU, take_zero → vYX, drop_zero → vYW
open Go.IntKind renaming wrap → vJJ
namespace Go.Proofs.YtgmbkkkbfbocnaaGreat
open Go.Sx Go.Rx Rt Go.RowKit
namespace Ta
end Ta
open Ta
theorem xKD:uV Tryz.prog 180:=qW Tryz.func180 (by kernel_rfl) (by kernel_rfl)
theorem xKC:uV Tryz.prog 181:=qW Tryz.func181 (by kernel_rfl) (by kernel_rfl)
theorem fKX:uV Tryz.prog 197:=qW Tryz.func197 (by kernel_rfl) (by kernel_rfl)
theorem fKW:uV Tryz.prog 187:=qW Tryz.func187 (by kernel_rfl) (by kernel_rfl)
theorem fKU:uV Tryz.prog 201:=qW Tryz.func201 (by kernel_rfl) (by kernel_rfl)
theorem fKK (a:Int) (w:World):Calls Tryz.prog 180 [.int .i64 a,.int .i64 14].toArray w (Rets (vI (a / 16384)) w):=zQC a 14 (by decide) w
theorem fKJ (a:Int) (ha:In64 a) (w:World):Calls Tryz.prog 181 [.int .i64 a,.int .i64 14].toArray w (Rets (vI (zX a 16384)) w):=zHC a 14 (by decide) ha w
theorem aMod (a:Int) (w:World):Calls Tryz.prog 197 [.int .i64 a].toArray w (Rets (vI (a % 65536)) (w)):=by
 refine kJ (n:=5) Tryz.func197 rfl rfl rfl ?_;refine zV ?_;refine qU ?_;refine qG (zJ rfl) rfl rfl rfl ?_;refine zG ?_;refine qK ?_;refine zV ?_;refine qU ?_;refine qG (zQ rfl) rfl rfl rfl ?_;refine qG (jUL rfl rfl kWD) rfl rfl rfl ?_;refine qG (zJ rfl) rfl rfl rfl ?_;refine zG ?_;refine qK ?_;refine qQK ?_;refine kX (rs:=[.tmp 2]) rfl (resC (qQY rfl) (resN)) (congrArg (vI) (?_:_=a % 65536))
 first | rfl | (subst_vars; rfl) | (subst_vars; simp_all)
theorem rMod (a:Int) (w:World):Calls Tryz.prog 187 [.int .i64 a].toArray w (Rets (vI (a % 65536)) (w)):=by
 refine kJ (n:=7) Tryz.func187 rfl rfl rfl ?_;refine zV ?_;have h0 : -65536 < a.tmod 65536:=by have:=Int.lt_tmod_of_pos a (show (0:Int) < 65536 by decide); omega
 have h1:a.tmod 65536 < 65536:=Int.tmod_lt_of_pos a (by decide);refine qU ?_;refine qG (zJ rfl) rfl rfl rfl ?_;refine zG ?_;refine qK ?_;refine zV ?_;refine qU ?_;refine qG (zQ rfl) rfl rfl rfl ?_;refine qG (qHB rfl rfl (by first | decide | omega) (by first | exact tmod_nonneg (by omega) (by omega) | rfl)) rfl rfl rfl ?_;refine qG (qJY rfl rfl (by first | exact qV ⟨by omega,by omega⟩ | rfl)) rfl rfl rfl ?_;refine qG (qHB rfl rfl (by first | decide | omega) (by first | exact tmod_nonneg (by omega) (by omega) | rfl)) rfl rfl rfl ?_;refine qG (zJ rfl) rfl rfl rfl ?_;refine zG ?_;refine qK ?_;refine qQK ?_;refine kX (rs:=[.tmp 2]) rfl (resC (qQY rfl) (resN)) (congrArg (vI) (?_:_=a % 65536))
 have:=Int.tdiv_mul_add_tmod a 65536; omega
theorem fKI (a:Int) (b:Int) (ha:0≤a∧a≤1073741824) (hb:0 < b∧b≤1073741824) (w:World):Calls Tryz.prog 206 [.int .i64 a,.int .i64 b].toArray w (Rets (vI (zX a b)) (w)):=by
 refine kJ (n:=11) Tryz.func206 rfl rfl rfl ?_;refine zV ?_;refine qU ?_;refine qG (zJ rfl) rfl rfl rfl ?_;refine zG ?_;refine qK ?_;refine zV ?_;refine qU ?_;refine qG (zQ rfl) rfl rfl rfl ?_;refine qG (zQ rfl) rfl rfl rfl ?_;refine qG (qJY rfl rfl (by first | exact qV ⟨by omega,by omega⟩ | rfl)) rfl rfl rfl ?_;refine qG (zKU rfl rfl (by first | exact qV ⟨by omega,by omega⟩ | rfl)) rfl rfl rfl ?_;refine qG (zQ rfl) rfl rfl rfl ?_;refine qG (zVA rfl rfl (by first | decide | omega) (kWX ha hb)) rfl rfl rfl ?_;refine qG (zJ rfl) rfl rfl rfl ?_;refine zG ?_;refine qK ?_;refine qQK ?_;refine kX (rs:=[.tmp 4]) rfl (resC (qQY rfl) (resN)) (congrArg (vI) (?_:_=zX a b))
 first | rfl | (subst_vars; rfl) | (subst_vars; simp_all)
theorem aEnc (lo:Int) (hi:Int) (hh:In64 hi) (w:World):Calls Tryz.prog 207 [.int .i64 lo,.int .i64 hi].toArray w (Rets (iv (encI lo hi)) (w)):=by
 refine kJ (n:=12) Tryz.func207 rfl rfl rfl ?_;refine zV ?_;refine qU ?_;refine qUV 4 ze62 rfl rfl rfl ?_; intro b4;refine zG ?_;refine qK ?_;refine zV ?_;refine qU ?_;refine qG (zQ rfl) rfl rfl rfl ?_;refine qJL (F:=vI) (uX xKD rfl (fun w _=>fKK _ w)) rfl rfl rfl ?_; intro r6 hr6;refine qG (qXZ rfl rfl) rfl rfl rfl ?_;refine qG (zQ rfl) rfl rfl rfl ?_;refine qJL (F:=vI) (uX xKC rfl (fun w _=>fKJ _ hh w)) rfl rfl rfl ?_; intro r9 hr9;refine qG (qXQ rfl rfl) rfl rfl rfl ?_;refine qG (qJD la62 rfl rfl) rfl rfl rfl ?_;refine qYZ 4 ty62 rfl rfl rfl rfl rfl rfl rfl rfl ?_;refine zG ?_;refine qK ?_;refine qQK ?_;refine kX (rs:=[.cell 4 62]) rfl (resC (qYE 4 rfl rfl ty62 rfl) (resN)) (congrArg (iv) (?_:⟨_,_⟩=encI lo hi))
 subst_vars; first | (simp_all [encI]; done) | (simp_all [encI] <;> omega) | grind [encI]
theorem rEnc (lo:Int) (hi:Int) (hl:In64 lo) (hh:In64 hi) (w:World):Calls Tryz.prog 200 [.int .i64 lo,.int .i64 hi].toArray w (Rets (iv (encI lo hi)) (w)):=by
 refine kJ (n:=12) Tryz.func200 rfl rfl rfl ?_;refine zV ?_;refine qU ?_;refine qUV 4 ze62 rfl rfl rfl ?_; intro b4;refine zG ?_;refine qK ?_;refine zV ?_;refine qU ?_;refine qG (zQ rfl) rfl rfl rfl ?_;refine qJL (F:=vI) (uX xKF rfl (fun w _=>jUG _ _ hl (by decide) w)) rfl rfl rfl ?_; intro r6 hr6;refine qG (qXZ rfl rfl) rfl rfl rfl ?_;refine qG (zQ rfl) rfl rfl rfl ?_;refine qJL (F:=vI) (uX xKE rfl (fun w _=>uJH _ _ hh (by decide) w)) rfl rfl rfl ?_; intro r9 hr9;refine qG (qXQ rfl rfl) rfl rfl rfl ?_;refine qG (qJD la62 rfl rfl) rfl rfl rfl ?_;refine qYZ 4 ty62 rfl rfl rfl rfl rfl rfl rfl rfl ?_;refine zG ?_;refine qK ?_;refine qQK ?_;refine kX (rs:=[.cell 4 62]) rfl (resC (qYE 4 rfl rfl ty62 rfl) (resN)) (congrArg (iv) (?_:⟨_,_⟩=encI lo hi))
 subst_vars; first | (simp_all [encI]; done) | (simp_all [encI] <;> omega) | grind [encI]
theorem xXZ (a0 a1:Int) (c:Int) (hv:Iv.valid (⟨a0,a1⟩:Iv)=true) (_:0≤c∧c < 65536) (w:World):Calls Tryz.prog 196 [.agg #[.int .i64 a0,.int .i64 a1],.int .i64 c].toArray w (Rets (vB (uZ (⟨a0,a1⟩:Iv) c)) (w)):=by
 refine kJ (n:=15) Tryz.func196 rfl rfl rfl ?_;refine zV ?_;have hv2:=uU hv;refine qU ?_;refine qVU 2 rfl rfl rfl rfl ?_; intro b2;refine qG (zJ rfl) rfl rfl rfl ?_;refine zG ?_;refine qK ?_;refine zV ?_;refine qUG 10 mo (by kernel_rfl) ?_;simp only [vYK,vYX,vYU,vYW];refine kH (qZL 2 ty62 rfl rfl rfl) rfl rfl rfl ?_;refine kH (yQ qXV rfl) rfl rfl rfl ?_;refine kH (kQ 2 ty2 rfl rfl rfl) rfl rfl rfl ?_;refine kH (zQ rfl) rfl rfl rfl ?_;refine kH (yQ qXV rfl) rfl rfl rfl ?_;refine kH (kQ 2 ty2 rfl rfl rfl) rfl rfl rfl ?_;refine kH (zKU rfl rfl (by first | exact qV ⟨by omega,by omega⟩ | rfl)) rfl rfl rfl ?_;refine yJU (F:=vI) (uX fKX rfl (fun w _=>aMod _  w)) rfl rfl rfl ?_; intro r12 hr12;have qr12:0≤r12∧r12 < 65536:=by omega
 refine kH (qJY rfl rfl (by first | exact qV ⟨by omega,by omega⟩ | rfl)) rfl rfl rfl ?_;refine yJU (F:=vB) (uX fKU rfl (fun w _=>iHas _ _ _  w)) rfl rfl rfl ?_; intro r14 hr14;refine zQD ?_;refine qWY ?_;refine qG (zJ rfl) rfl rfl rfl ?_;refine zG ?_;refine qK ?_;refine qQK ?_;refine kX (rs:=[.tmp 4]) rfl (resC (qQY rfl) (resN)) (congrArg (vB) (?_:_=uZ (⟨a0,a1⟩:Iv) c))
 subst_vars; simp only [Iv.has,uZ,hv,vZH]; rw [vJQ (by omega),vZH]
theorem uHE (a0 a1:Int) (c:Int) (hv:Iv.valid (⟨a0,a1⟩:Iv)=true) (_:0≤c∧c < 65536) (w:World):Calls Tryz.prog 186 [.agg #[.int .i64 a0,.int .i64 a1],.int .i64 c].toArray w (Rets (vB (uZ (⟨a0,a1⟩:Iv) c)) (w)):=by
 refine kJ (n:=16) Tryz.func186 rfl rfl rfl ?_;refine zV ?_;have hv2:=uU hv;refine qU ?_;refine qVU 2 rfl rfl rfl rfl ?_; intro b2;refine qG (zJ rfl) rfl rfl rfl ?_;refine zG ?_;refine qK ?_;refine zV ?_;refine qUG 11 mo (by kernel_rfl) ?_;simp only [vYK,vYX,vYU,vYW];refine kH (yQ qXV rfl) rfl rfl rfl ?_;refine kH (kQ 2 ty2 rfl rfl rfl) rfl rfl rfl ?_;refine kH (zQ rfl) rfl rfl rfl ?_;refine kH (yQ qXV rfl) rfl rfl rfl ?_;refine kH (kQ 2 ty2 rfl rfl rfl) rfl rfl rfl ?_;refine kH (zKU rfl rfl (by first | exact qV ⟨by omega,by omega⟩ | rfl)) rfl rfl rfl ?_;refine yJU (F:=vI) (uX fKW rfl (fun w _=>rMod _  w)) rfl rfl rfl ?_; intro r11 hr11;have qr11:0≤r11∧r11 < 65536:=by omega
 refine kH (qJY rfl rfl (by first | exact qV ⟨by omega,by omega⟩ | rfl)) rfl rfl rfl ?_;refine kH (yQ qGB rfl) rfl rfl rfl ?_;refine kH (kQ 2 ty2 rfl rfl rfl) rfl rfl rfl ?_;refine kH (jUE rfl rfl) rfl rfl rfl ?_;refine zQD ?_;refine qWY ?_;refine qG (zJ rfl) rfl rfl rfl ?_;refine zG ?_;refine qK ?_;refine qQK ?_;refine kX (rs:=[.tmp 4]) rfl (resC (qQY rfl) (resN)) (congrArg (vB) (?_:_=uZ (⟨a0,a1⟩:Iv) c))
 subst_vars; simp [uZ]
theorem xJL (n:Int) (k:Int) (hk:0 < k∧k≤9223372036854775807) (w:World):Calls Tryz.prog 20 [.int .i64 n,.int .i64 k].toArray w (Rets (vI (n % k)) (w)):=by
 refine kJ (n:=15) Tryz.func20 rfl rfl rfl ?_;refine zV ?_;have h0:=Int.lt_tmod_of_pos n hk.1;have h1:=Int.tmod_lt_of_pos n hk.1;refine qU ?_;refine qG (zJ rfl) rfl rfl rfl ?_;refine zG ?_;refine qK ?_;refine zV ?_;refine qU ?_;refine qG (zQ rfl) rfl rfl rfl ?_;refine qG (zQ rfl) rfl rfl rfl ?_;refine qG (qHB rfl rfl (by first | decide | omega) rfl) rfl rfl rfl ?_;refine qG (zJ rfl) rfl rfl rfl ?_;refine zG ?_;refine qK ?_;refine zV ?_;refine zV ?_;refine qU ?_;refine qG (zQ rfl) rfl rfl rfl ?_;refine qG (qKG rfl rfl) rfl rfl rfl ?_;refine zG ?_;refine qK ?_;refine qJH rfl (fun hc10 => ?_) (fun hc10 => ?_)
 ·
  have h2:=vJZ hc10;refine qU ?_;refine qG (zQ rfl) rfl rfl rfl ?_;refine qG (zQ rfl) rfl rfl rfl ?_;refine qG (qJY rfl rfl (by first | exact qV ⟨by omega,by omega⟩ | rfl)) rfl rfl rfl ?_;refine qG (zJ rfl) rfl rfl rfl ?_;refine zG ?_;refine qK ?_;refine zV ?_;refine qU ?_;refine qG (zQ rfl) rfl rfl rfl ?_;refine qG (zJ rfl) rfl rfl rfl ?_;refine zG ?_;refine qK ?_;refine qQK ?_;refine kX (rs:=[.tmp 4]) rfl (resC (qQY rfl) (resN)) (congrArg (vI) (?_:_=n % k));exact jKI hk.1 h2
 ·
  have h2:=vJY hc10;refine qZW ?_;refine qK ?_;refine zV ?_;refine qU ?_;refine qG (zQ rfl) rfl rfl rfl ?_;refine qG (zJ rfl) rfl rfl rfl ?_;refine zG ?_;refine qK ?_;refine qQK ?_;refine kX (rs:=[.tmp 4]) rfl (resC (qQY rfl) (resN)) (congrArg (vI) (?_:_=n % k));exact jKF hk.1 h2
namespace Ta
def iw (a:Int):Bool:=decide (-9223372036854775808≤a∧a≤9223372036854775807)
def pw (a:Int):Bool:=decide (0≤a∧a≤1073741824)
theorem jYW {a:Int} (h:iw a=true):In64 a:=by unfold iw at h; simp only [decide_eq_true_eq] at h; unfold In64; omega
theorem xHG {a:Int} (h:pw a=true):0≤a∧a≤1073741824:=vJZ h
theorem iww (y:Int):iw (vJJ .i64 y)=true:=by
 refine vJQ ?_;unfold IntKind.wrap;have hb:IntKind.i64.bits=64:=rfl;have hs:IntKind.i64.signed=true:=rfl;simp only [hb,hs,vZH,decide_eq_true_eq]
 split <;> omega
theorem kXL {x:Int} (h:0≤x∧x≤8192) (k:Nat):iw (dn x k)=true:=by have:=qJJ h k; exact vJQ (by omega)
theorem kXI {x:Int} (h:0≤x∧x≤8192) (k:Nat):iw (up x k)=true:=by have:=qZE h k; exact vJQ (by omega)
theorem kYH {x:Int} (h:0≤x∧x≤8192) (k:Nat):pw (up x k)=true:=vJQ (qZE h k)
noncomputable def qWQ:List PV→Option (Bool × Ret):=fun ps=>match ps with
 | [.n .i64 a,.n .i64 k]=>some (decide (0≤k∧k≤62),.v (.n .i64 (a / 2 ^ Int.toNat k)))
 | _=>none
theorem zVI:zY Tryz.prog 180 qWQ:=by
 intro ps r h;unfold qWQ at h;split at h
 ·simp only [vQZ,vQY] at h;obtain ⟨hg,rfl⟩:=h
  try simp only [vQJ,decide_eq_true_eq] at hg
  exact qX (qW Tryz.func180 (by kernel_rfl) (by kernel_rfl)) rfl rfl (fun w=>zQC _ _ hg w)
 ·cases h
noncomputable def LTa1:OrL:=(180,qWQ) :: ([]:OrL)
theorem uGG:AllP (fun x:Nat × (List PV→Option (Bool × Ret))=>zY Tryz.prog x.1 x.2) LTa1:=⟨zVI,trivial⟩
noncomputable def zQX:List PV→Option (Bool × Ret):=fun ps=>match ps with
 | [.n .i64 a,.n .i64 k]=>some (decide (0≤k∧k≤62) && iw a,.v (.n .i64 (zX a (2 ^ Int.toNat k))))
 | _=>none
theorem yUL:zY Tryz.prog 181 zQX:=by
 intro ps r h;unfold zQX at h;split at h
 ·simp only [vQZ,vQY] at h;obtain ⟨hg,rfl⟩:=h
  try simp only [vQJ,decide_eq_true_eq] at hg
  exact qX (qW Tryz.func181 (by kernel_rfl) (by kernel_rfl)) rfl rfl (fun w=>zHC _ _ hg.1 (jYW hg.2) w)
 ·cases h
noncomputable def LTa2:OrL:=(181,zQX) :: LTa1
theorem uGV:AllP (fun x:Nat × (List PV→Option (Bool × Ret))=>zY Tryz.prog x.1 x.2) LTa2:=⟨yUL,uGG⟩
noncomputable def zGZ:List PV→Option (Bool × Ret):=fun ps=>match ps with
 | [.n .i64 a,.n .i64 b]=>some (decide (0 < b) && iw a,.v (.n .i64 (a / b)))
 | _=>none
theorem jXZ:zY Tryz.prog 161 zGZ:=by
 intro ps r h;unfold zGZ at h;split at h
 ·simp only [vQZ,vQY] at h;obtain ⟨hg,rfl⟩:=h
  try simp only [vQJ,decide_eq_true_eq] at hg
  exact qX (qW Tryz.func161 (by kernel_rfl) (by kernel_rfl)) rfl rfl (fun w=>jUG _ _ (jYW hg.2) hg.1 w)
 ·cases h
noncomputable def LTa3:OrL:=(161,zGZ) :: LTa2
theorem uGW:AllP (fun x:Nat × (List PV→Option (Bool × Ret))=>zY Tryz.prog x.1 x.2) LTa3:=⟨jXZ,uGV⟩
noncomputable def yXX:List PV→Option (Bool × Ret):=fun ps=>match ps with
 | [.n .i64 a,.n .i64 b]=>some (decide (0 < b) && iw a,.v (.n .i64 (zX a b)))
 | _=>none
theorem kKZ:zY Tryz.prog 162 yXX:=by
 intro ps r h;unfold yXX at h;split at h
 ·simp only [vQZ,vQY] at h;obtain ⟨hg,rfl⟩:=h
  try simp only [vQJ,decide_eq_true_eq] at hg
  exact qX (qW Tryz.func162 (by kernel_rfl) (by kernel_rfl)) rfl rfl (fun w=>uJH _ _ (jYW hg.2) hg.1 w)
 ·cases h
noncomputable def LTa4:OrL:=(162,yXX) :: LTa3
theorem uGX:AllP (fun x:Nat × (List PV→Option (Bool × Ret))=>zY Tryz.prog x.1 x.2) LTa4:=⟨kKZ,uGW⟩
noncomputable def yXA:List PV→Option (Bool × Ret):=fun ps=>match ps with
 | [.n .i64 a,.n .i64 b]=>some (decide (0 < b∧b≤1073741824) && pw a,.v (.n .i64 (zX a b)))
 | _=>none
theorem kKD:zY Tryz.prog 206 yXA:=by
 intro ps r h;unfold yXA at h;split at h
 ·simp only [vQZ,vQY] at h;obtain ⟨hg,rfl⟩:=h
  try simp only [vQJ,decide_eq_true_eq] at hg
  exact qX (qW Tryz.func206 (by kernel_rfl) (by kernel_rfl)) rfl rfl (fun w=>fKI _ _ (xHG hg.2) hg.1 w)
 ·cases h
noncomputable def LTa5:OrL:=(206,yXA) :: LTa4
theorem uGU:AllP (fun x:Nat × (List PV→Option (Bool × Ret))=>zY Tryz.prog x.1 x.2) LTa5:=⟨kKD,uGX⟩
noncomputable def jWV:List PV→Option (Bool × Ret):=fun ps=>match ps with
 | [.n .i64 l,.n .i64 a]=>some (iw a,.v (.a (ivC (encI l a))))
 | _=>none
theorem uUC:zY Tryz.prog 207 jWV:=by
 intro ps r h;unfold jWV at h;split at h
 ·simp only [vQZ,vQY] at h;obtain ⟨hg,rfl⟩:=h
  try simp only [vQJ,decide_eq_true_eq] at hg
  exact qX (qW Tryz.func207 (by kernel_rfl) (by kernel_rfl)) rfl rfl (fun w=>aEnc _ _ (jYW hg) w)
 ·cases h
noncomputable def LTa6:OrL:=(207,jWV) :: LTa5
theorem uGK:AllP (fun x:Nat × (List PV→Option (Bool × Ret))=>zY Tryz.prog x.1 x.2) LTa6:=⟨uUC,uGU⟩
noncomputable def jWZ:List PV→Option (Bool × Ret):=fun ps=>match ps with
 | [.n .i64 l,.n .i64 a]=>some (iw a && iw l,.v (.a (ivC (encI l a))))
 | _=>none
theorem uKL:zY Tryz.prog 200 jWZ:=by
 intro ps r h;unfold jWZ at h;split at h
 ·simp only [vQZ,vQY] at h;obtain ⟨hg,rfl⟩:=h
  try simp only [vQJ,decide_eq_true_eq] at hg
  exact qX (qW Tryz.func200 (by kernel_rfl) (by kernel_rfl)) rfl rfl (fun w=>rEnc _ _ (jYW hg.2) (jYW hg.1) w)
 ·cases h
noncomputable def LTa7:OrL:=(200,jWZ) :: LTa6
theorem yWL:AllP (fun x:Nat × (List PV→Option (Bool × Ret))=>zY Tryz.prog x.1 x.2) LTa7:=⟨uKL,uGK⟩
def wdn (x:Int):Nat→Int
 | 0=>1073741824
 | 1=>(vJJ .i64 (x * 6746518852)) / 65536
 | k + 2=>(vJJ .i64 (wdn x (k + 1) * ((vJJ .i64 (x * 6746518852)) / 65536))) / 1073741824
def wup (x:Int):Nat→Int
 | 0=>1073741824
 | 1=>zX (vJJ .i64 (x * 6746518853)) 65536
 | k + 2=>zX (vJJ .i64 (wup x (k + 1) * zX (vJJ .i64 (x * 6746518853)) 65536)) 1073741824
theorem wmul {a b:Int} (_:0≤a∧a≤1073741824) (_:0≤b∧b≤1073741824):vJJ .i64 (a * b)=a * b:=xJB (by omega) (by omega)
theorem jJQ {x:Int} (h:0≤x∧x≤8192):∀ k,wdn x k=dn x k
 | 0=>rfl
 | 1=>by unfold wdn dn; rw [qV (by omega)]
 | k + 2=>by rw [wdn,dn,jJQ h (k + 1),qV (show -9223372036854775808≤x * 6746518852∧x * 6746518852≤9223372036854775807 by omega),wmul (qJJ h (k + 1)) (show 0≤x * 6746518852 / 65536∧x * 6746518852 / 65536≤1073741824 by omega)]
theorem jYL {x:Int} (h:0≤x∧x≤8192):∀ k,wup x k=up x k
 | 0=>rfl
 | 1=>by unfold wup up; rw [qV (by omega)]
 | k + 2=>by rw [wup,up,jYL h (k + 1),qV (show -9223372036854775808≤x * 6746518853∧x * 6746518853≤9223372036854775807 by omega),wmul (qZE h (k + 1)) (yKX rfl h)]
set_option maxRecDepth 100000 in
theorem uQV (x:Int) (h:0≤x∧x≤8192):yK Tryz.prog 204 [.n .i64 x] (.v (.t [.a [.n .i64 1073741824,.n .i64 (dn x 1),.n .i64 (dn x 2),.n .i64 (dn x 3),.n .i64 (dn x 4),.n .i64 (dn x 5),.n .i64 (dn x 6),.n .i64 (dn x 7),.n .i64 (dn x 8),.n .i64 (dn x 9),.n .i64 (dn x 10)],.a [.n .i64 1073741824,.n .i64 (up x 1),.n .i64 (up x 2),.n .i64 (up x 3),.n .i64 (up x 4),.n .i64 (up x 5),.n .i64 (up x 6),.n .i64 (up x 7),.n .i64 (up x 8),.n .i64 (up x 9),.n .i64 (up x 10)]])):=zU (N:=60) (ps:=[.n .i64 x]) yX zW (OrL.ok (l:=LTa7) yWL) ((by kernel_rfl:_=bif iw (vJJ .i64 (x * 6746518853)) then (bif iw (vJJ .i64 (wup x 1 * wup x 1)) then (bif iw (vJJ .i64 (wup x 2 * wup x 1)) then (bif iw (vJJ .i64 (wup x 3 * wup x 1)) then (bif iw (vJJ .i64 (wup x 4 * wup x 1)) then (bif iw (vJJ .i64 (wup x 5 * wup x 1)) then (bif iw (vJJ .i64 (wup x 6 * wup x 1)) then (bif iw (vJJ .i64 (wup x 7 * wup x 1)) then (bif iw (vJJ .i64 (wup x 8 * wup x 1)) then (bif iw (vJJ .i64 (wup x 9 * wup x 1)) then some (.v (.t [.a [.n .i64 1073741824,.n .i64 (wdn x 1),.n .i64 (wdn x 2),.n .i64 (wdn x 3),.n .i64 (wdn x 4),.n .i64 (wdn x 5),.n .i64 (wdn x 6),.n .i64 (wdn x 7),.n .i64 (wdn x 8),.n .i64 (wdn x 9),.n .i64 (wdn x 10)],.a [.n .i64 1073741824,.n .i64 (wup x 1),.n .i64 (wup x 2),.n .i64 (wup x 3),.n .i64 (wup x 4),.n .i64 (wup x 5),.n .i64 (wup x 6),.n .i64 (wup x 7),.n .i64 (wup x 8),.n .i64 (wup x 9),.n .i64 (wup x 10)]]),[])
 else none)
 else none)
 else none)
 else none)
 else none)
 else none)
 else none)
 else none)
 else none)
 else none).trans (by
 simp only [iww,vYV,jJQ h,jYL h]))
set_option maxRecDepth 100000 in
theorem uQW (x:Int) (h:0≤x∧x≤8192):yK Tryz.prog 199 [.n .i64 x] (.v (.t [.a [.n .i64 0,.n .i64 (dn x 1),.n .i64 (dn x 2),.n .i64 (dn x 3),.n .i64 (dn x 4),.n .i64 (dn x 5),.n .i64 (dn x 6),.n .i64 (dn x 7),.n .i64 (dn x 8),.n .i64 (dn x 9),.n .i64 (dn x 10)],.a [.n .i64 0,.n .i64 (up x 1),.n .i64 (up x 2),.n .i64 (up x 3),.n .i64 (up x 4),.n .i64 (up x 5),.n .i64 (up x 6),.n .i64 (up x 7),.n .i64 (up x 8),.n .i64 (up x 9),.n .i64 (up x 10)]])):=zU (N:=60) (ps:=[.n .i64 x]) yX zW (OrL.ok (l:=LTa7) yWL) ((by kernel_rfl:_=bif iw (vJJ .i64 (x * 6746518852)) then (bif iw (vJJ .i64 (x * 6746518853)) then (bif iw (vJJ .i64 (wdn x 1 * wdn x 1)) then (bif iw (vJJ .i64 (wup x 1 * wup x 1)) then (bif iw (vJJ .i64 (wdn x 2 * wdn x 1)) then (bif iw (vJJ .i64 (wup x 2 * wup x 1)) then (bif iw (vJJ .i64 (wdn x 3 * wdn x 1)) then (bif iw (vJJ .i64 (wup x 3 * wup x 1)) then (bif iw (vJJ .i64 (wdn x 4 * wdn x 1)) then (bif iw (vJJ .i64 (wup x 4 * wup x 1)) then (bif iw (vJJ .i64 (wdn x 5 * wdn x 1)) then (bif iw (vJJ .i64 (wup x 5 * wup x 1)) then (bif iw (vJJ .i64 (wdn x 6 * wdn x 1)) then (bif iw (vJJ .i64 (wup x 6 * wup x 1)) then (bif iw (vJJ .i64 (wdn x 7 * wdn x 1)) then (bif iw (vJJ .i64 (wup x 7 * wup x 1)) then (bif iw (vJJ .i64 (wdn x 8 * wdn x 1)) then (bif iw (vJJ .i64 (wup x 8 * wup x 1)) then (bif iw (vJJ .i64 (wdn x 9 * wdn x 1)) then (bif iw (vJJ .i64 (wup x 9 * wup x 1)) then some (.v (.t [.a [.n .i64 0,.n .i64 (wdn x 1),.n .i64 (wdn x 2),.n .i64 (wdn x 3),.n .i64 (wdn x 4),.n .i64 (wdn x 5),.n .i64 (wdn x 6),.n .i64 (wdn x 7),.n .i64 (wdn x 8),.n .i64 (wdn x 9),.n .i64 (wdn x 10)],.a [.n .i64 0,.n .i64 (wup x 1),.n .i64 (wup x 2),.n .i64 (wup x 3),.n .i64 (wup x 4),.n .i64 (wup x 5),.n .i64 (wup x 6),.n .i64 (wup x 7),.n .i64 (wup x 8),.n .i64 (wup x 9),.n .i64 (wup x 10)]]),[])
 else none)
 else none)
 else none)
 else none)
 else none)
 else none)
 else none)
 else none)
 else none)
 else none)
 else none)
 else none)
 else none)
 else none)
 else none)
 else none)
 else none)
 else none)
 else none)
 else none).trans (by
 simp only [iww,vYV,jJQ h,jYL h]))
noncomputable def jWX:List PV→Option (Bool × Ret):=fun ps=>match ps with
 | [.n .i64 x]=>some (decide (0≤x∧x≤8192),.v (.t [.a [.n .i64 1073741824,.n .i64 (dn x 1),.n .i64 (dn x 2),.n .i64 (dn x 3),.n .i64 (dn x 4),.n .i64 (dn x 5),.n .i64 (dn x 6),.n .i64 (dn x 7),.n .i64 (dn x 8),.n .i64 (dn x 9),.n .i64 (dn x 10)],.a [.n .i64 1073741824,.n .i64 (up x 1),.n .i64 (up x 2),.n .i64 (up x 3),.n .i64 (up x 4),.n .i64 (up x 5),.n .i64 (up x 6),.n .i64 (up x 7),.n .i64 (up x 8),.n .i64 (up x 9),.n .i64 (up x 10)]]))
 | _=>none
theorem uUA:zY Tryz.prog 204 jWX:=by
 intro ps r h;unfold jWX at h;split at h
 ·simp only [vQZ,vQY] at h;obtain ⟨hg,rfl⟩:=h;exact uQV _ (vJZ hg)
 ·cases h
noncomputable def LTa8:OrL:=(204,jWX) :: LTa7
theorem uGJ:AllP (fun x:Nat × (List PV→Option (Bool × Ret))=>zY Tryz.prog x.1 x.2) LTa8:=⟨uUA,yWL⟩
noncomputable def jXI:List PV→Option (Bool × Ret):=fun ps=>match ps with
 | [.n .i64 x]=>some (decide (0≤x∧x≤8192),.v (.t [.a [.n .i64 0,.n .i64 (dn x 1),.n .i64 (dn x 2),.n .i64 (dn x 3),.n .i64 (dn x 4),.n .i64 (dn x 5),.n .i64 (dn x 6),.n .i64 (dn x 7),.n .i64 (dn x 8),.n .i64 (dn x 9),.n .i64 (dn x 10)],.a [.n .i64 0,.n .i64 (up x 1),.n .i64 (up x 2),.n .i64 (up x 3),.n .i64 (up x 4),.n .i64 (up x 5),.n .i64 (up x 6),.n .i64 (up x 7),.n .i64 (up x 8),.n .i64 (up x 9),.n .i64 (up x 10)]]))
 | _=>none
theorem uKE:zY Tryz.prog 199 jXI:=by
 intro ps r h;unfold jXI at h;split at h
 ·simp only [vQZ,vQY] at h;obtain ⟨hg,rfl⟩:=h;exact uQW _ (vJZ hg)
 ·cases h
noncomputable def LTa9:OrL:=(199,jXI) :: LTa8
theorem zUC:AllP (fun x:Nat × (List PV→Option (Bool × Ret))=>zY Tryz.prog x.1 x.2) LTa9:=⟨uKE,uGJ⟩
theorem tdnn {a b:Int} (h:0≤a):a.tdiv b=a / b:=Int.tdiv_eq_ediv_of_nonneg h
def jQQ (x:Int):Int:=(vJJ .i64 ((vJJ .i64 ((vJJ .i64 ((vJJ .i64 (0 + (vJJ .i64 (1 * (dn x 1))))) + (vJJ .i64 ((-1) * zX (up x 3) 6)))) + (vJJ .i64 (1 * (vJJ .i64 ((dn x 5).tdiv 120)))))) + (vJJ .i64 ((-1) * zX (up x 7) 5040))))
theorem jHU {x:Int} (h:0≤x∧x≤8192):jQQ x=sinL x:=by
 have d1:=qJJ h 1;have d5:=qJJ h 5;have u3:=qZE h 3;have u7:=qZE h 7;have c3:=yV (r:=zX (up x 3) 6) rfl u3 (by decide);have c7:=yV (r:=zX (up x 7) 5040) rfl u7 (by decide);unfold jQQ sinL;simp only [tdnn d5.1];have w0:vJJ .i64 (1 * (dn x 1))=(1 * (dn x 1)):=qV (by omega);have w1:vJJ .i64 (0 + (1 * (dn x 1)))=(0 + (1 * (dn x 1))):=qV (by omega);have w2:vJJ .i64 ((-1) * zX (up x 3) 6)=((-1) * zX (up x 3) 6):=qV (by omega);have w3:vJJ .i64 ((0 + (1 * (dn x 1))) + ((-1) * zX (up x 3) 6))=((0 + (1 * (dn x 1))) + ((-1) * zX (up x 3) 6)):=qV (by omega);have w4:vJJ .i64 (((dn x 5) / 120))=(((dn x 5) / 120)):=qV (by omega);have w5:vJJ .i64 (1 * (((dn x 5) / 120)))=(1 * (((dn x 5) / 120))):=qV (by omega);have w6:vJJ .i64 (((0 + (1 * (dn x 1))) + ((-1) * zX (up x 3) 6)) + (1 * (((dn x 5) / 120))))=(((0 + (1 * (dn x 1))) + ((-1) * zX (up x 3) 6)) + (1 * (((dn x 5) / 120)))):=qV (by omega);have w7:vJJ .i64 ((-1) * zX (up x 7) 5040)=((-1) * zX (up x 7) 5040):=qV (by omega);have w8:vJJ .i64 ((((0 + (1 * (dn x 1))) + ((-1) * zX (up x 3) 6)) + (1 * (((dn x 5) / 120)))) + ((-1) * zX (up x 7) 5040))=((((0 + (1 * (dn x 1))) + ((-1) * zX (up x 3) 6)) + (1 * (((dn x 5) / 120)))) + ((-1) * zX (up x 7) 5040)):=qV (by omega);simp only [w0,w1,w2,w3,w4,w5,w6,w7,w8]
 try omega
def yJE (x:Int):Int:=(vJJ .i64 ((vJJ .i64 ((vJJ .i64 ((vJJ .i64 ((vJJ .i64 (0 + (vJJ .i64 (1 * (up x 1))))) + (vJJ .i64 ((-1) * (vJJ .i64 ((dn x 3).tdiv 6)))))) + (vJJ .i64 (1 * zX (up x 5) 120)))) + (vJJ .i64 ((-1) * (vJJ .i64 ((dn x 7).tdiv 5040)))))) + (vJJ .i64 (1 * zX (up x 9) 362880))))
theorem jHK {x:Int} (h:0≤x∧x≤8192):yJE x=sinU x:=by
 have d3:=qJJ h 3;have d7:=qJJ h 7;have u1:=qZE h 1;have u5:=qZE h 5;have u9:=qZE h 9;have c5:=yV (r:=zX (up x 5) 120) rfl u5 (by decide);have c9:=yV (r:=zX (up x 9) 362880) rfl u9 (by decide);unfold yJE sinU;simp only [tdnn d3.1,tdnn d7.1];have w0:vJJ .i64 (1 * (up x 1))=(1 * (up x 1)):=qV (by omega);have w1:vJJ .i64 (0 + (1 * (up x 1)))=(0 + (1 * (up x 1))):=qV (by omega);have w2:vJJ .i64 (((dn x 3) / 6))=(((dn x 3) / 6)):=qV (by omega);have w3:vJJ .i64 ((-1) * (((dn x 3) / 6)))=((-1) * (((dn x 3) / 6))):=qV (by omega);have w4:vJJ .i64 ((0 + (1 * (up x 1))) + ((-1) * (((dn x 3) / 6))))=((0 + (1 * (up x 1))) + ((-1) * (((dn x 3) / 6)))):=qV (by omega);have w5:vJJ .i64 (1 * zX (up x 5) 120)=(1 * zX (up x 5) 120):=qV (by omega);have w6:vJJ .i64 (((0 + (1 * (up x 1))) + ((-1) * (((dn x 3) / 6)))) + (1 * zX (up x 5) 120))=(((0 + (1 * (up x 1))) + ((-1) * (((dn x 3) / 6)))) + (1 * zX (up x 5) 120)):=qV (by omega);have w7:vJJ .i64 (((dn x 7) / 5040))=(((dn x 7) / 5040)):=qV (by omega);have w8:vJJ .i64 ((-1) * (((dn x 7) / 5040)))=((-1) * (((dn x 7) / 5040))):=qV (by omega);have w9:vJJ .i64 ((((0 + (1 * (up x 1))) + ((-1) * (((dn x 3) / 6)))) + (1 * zX (up x 5) 120)) + ((-1) * (((dn x 7) / 5040))))=((((0 + (1 * (up x 1))) + ((-1) * (((dn x 3) / 6)))) + (1 * zX (up x 5) 120)) + ((-1) * (((dn x 7) / 5040)))):=qV (by omega);have w10:vJJ .i64 (1 * zX (up x 9) 362880)=(1 * zX (up x 9) 362880):=qV (by omega);have w11:vJJ .i64 (((((0 + (1 * (up x 1))) + ((-1) * (((dn x 3) / 6)))) + (1 * zX (up x 5) 120)) + ((-1) * (((dn x 7) / 5040)))) + (1 * zX (up x 9) 362880))=(((((0 + (1 * (up x 1))) + ((-1) * (((dn x 3) / 6)))) + (1 * zX (up x 5) 120)) + ((-1) * (((dn x 7) / 5040)))) + (1 * zX (up x 9) 362880)):=qV (by omega);simp only [w0,w1,w2,w3,w4,w5,w6,w7,w8,w9,w10,w11]
 try omega
end Ta
set_option maxRecDepth 100000 in
theorem fKF (x:Int) (h:0≤x∧x≤8192) (w:World):Calls Tryz.prog 202 [.int .i64 x].toArray w (Rets (iv (zVK x)) (w)) :=
 zK (x:=.a (ivC (zVK x))) (zU (N:=60) (ps:=[.n .i64 x]) yX zW (OrL.ok (l:=LTa9) zUC) ((by kernel_rfl:_=bif decide (0≤x∧x≤8192) then (bif pw (up x 3) then (bif pw (up x 7) then (bif pw (up x 5) then (bif pw (up x 9) then (bif iw (yJE x) then some (.v (.a (ivC (encI (jQQ x) (yJE x)))),[])
 else none)
 else none)
 else none)
 else none)
 else none)
 else none).trans (by
 have iL:iw (jQQ x)=true:=iww _;have iU:iw (yJE x)=true:=iww _;rw [jHU h] at iL ⊢;rw [jHK h] at iU ⊢;simp only [vJQ h,kYH h,kXI h,kXL h,iL,iU,vYV,vZJ]
 rfl))) rfl rfl w
namespace Ta
def zYL (x:Int):Int:=(vJJ .i64 ((vJJ .i64 ((vJJ .i64 ((vJJ .i64 ((vJJ .i64 (1073741824 + (vJJ .i64 ((-1) * zX (up x 2) 2)))) + (vJJ .i64 (1 * (vJJ .i64 ((dn x 4).tdiv 24)))))) + (vJJ .i64 ((-1) * zX (up x 6) 720)))) + (vJJ .i64 (1 * (vJJ .i64 ((dn x 8).tdiv 40320)))))) + (vJJ .i64 ((-1) * zX (up x 10) 3628800))))
theorem yWA {x:Int} (h:0≤x∧x≤8192):zYL x=cosL x:=by
 have d4:=qJJ h 4;have d8:=qJJ h 8;have u2:=qZE h 2;have u6:=qZE h 6;have u10:=qZE h 10;have c10:=yV (r:=zX (up x 10) 3628800) rfl u10 (by decide);have c2:=yV (r:=zX (up x 2) 2) rfl u2 (by decide);have c6:=yV (r:=zX (up x 6) 720) rfl u6 (by decide);unfold zYL cosL;simp only [tdnn d4.1,tdnn d8.1];have w0:vJJ .i64 ((-1) * zX (up x 2) 2)=((-1) * zX (up x 2) 2):=qV (by omega);have w1:vJJ .i64 (1073741824 + ((-1) * zX (up x 2) 2))=(1073741824 + ((-1) * zX (up x 2) 2)):=qV (by omega);have w2:vJJ .i64 (((dn x 4) / 24))=(((dn x 4) / 24)):=qV (by omega);have w3:vJJ .i64 (1 * (((dn x 4) / 24)))=(1 * (((dn x 4) / 24))):=qV (by omega);have w4:vJJ .i64 ((1073741824 + ((-1) * zX (up x 2) 2)) + (1 * (((dn x 4) / 24))))=((1073741824 + ((-1) * zX (up x 2) 2)) + (1 * (((dn x 4) / 24)))):=qV (by omega);have w5:vJJ .i64 ((-1) * zX (up x 6) 720)=((-1) * zX (up x 6) 720):=qV (by omega);have w6:vJJ .i64 (((1073741824 + ((-1) * zX (up x 2) 2)) + (1 * (((dn x 4) / 24)))) + ((-1) * zX (up x 6) 720))=(((1073741824 + ((-1) * zX (up x 2) 2)) + (1 * (((dn x 4) / 24)))) + ((-1) * zX (up x 6) 720)):=qV (by omega);have w7:vJJ .i64 (((dn x 8) / 40320))=(((dn x 8) / 40320)):=qV (by omega);have w8:vJJ .i64 (1 * (((dn x 8) / 40320)))=(1 * (((dn x 8) / 40320))):=qV (by omega);have w9:vJJ .i64 ((((1073741824 + ((-1) * zX (up x 2) 2)) + (1 * (((dn x 4) / 24)))) + ((-1) * zX (up x 6) 720)) + (1 * (((dn x 8) / 40320))))=((((1073741824 + ((-1) * zX (up x 2) 2)) + (1 * (((dn x 4) / 24)))) + ((-1) * zX (up x 6) 720)) + (1 * (((dn x 8) / 40320)))):=qV (by omega);have w10:vJJ .i64 ((-1) * zX (up x 10) 3628800)=((-1) * zX (up x 10) 3628800):=qV (by omega);have w11:vJJ .i64 (((((1073741824 + ((-1) * zX (up x 2) 2)) + (1 * (((dn x 4) / 24)))) + ((-1) * zX (up x 6) 720)) + (1 * (((dn x 8) / 40320)))) + ((-1) * zX (up x 10) 3628800))=(((((1073741824 + ((-1) * zX (up x 2) 2)) + (1 * (((dn x 4) / 24)))) + ((-1) * zX (up x 6) 720)) + (1 * (((dn x 8) / 40320)))) + ((-1) * zX (up x 10) 3628800)):=qV (by omega);simp only [w0,w1,w2,w3,w4,w5,w6,w7,w8,w9,w10,w11]
 try omega
def qHQ (x:Int):Int:=(vJJ .i64 ((vJJ .i64 ((vJJ .i64 ((vJJ .i64 (1073741824 + (vJJ .i64 ((-1) * (vJJ .i64 ((dn x 2).tdiv 2)))))) + (vJJ .i64 (1 * zX (up x 4) 24)))) + (vJJ .i64 ((-1) * (vJJ .i64 ((dn x 6).tdiv 720)))))) + (vJJ .i64 (1 * zX (up x 8) 40320))))
theorem yWH {x:Int} (h:0≤x∧x≤8192):qHQ x=cosU x:=by
 have d2:=qJJ h 2;have d6:=qJJ h 6;have u4:=qZE h 4;have u8:=qZE h 8;have c4:=yV (r:=zX (up x 4) 24) rfl u4 (by decide);have c8:=yV (r:=zX (up x 8) 40320) rfl u8 (by decide);unfold qHQ cosU;simp only [tdnn d2.1,tdnn d6.1];have w0:vJJ .i64 (((dn x 2) / 2))=(((dn x 2) / 2)):=qV (by omega);have w1:vJJ .i64 ((-1) * (((dn x 2) / 2)))=((-1) * (((dn x 2) / 2))):=qV (by omega);have w2:vJJ .i64 (1073741824 + ((-1) * (((dn x 2) / 2))))=(1073741824 + ((-1) * (((dn x 2) / 2)))):=qV (by omega);have w3:vJJ .i64 (1 * zX (up x 4) 24)=(1 * zX (up x 4) 24):=qV (by omega);have w4:vJJ .i64 ((1073741824 + ((-1) * (((dn x 2) / 2)))) + (1 * zX (up x 4) 24))=((1073741824 + ((-1) * (((dn x 2) / 2)))) + (1 * zX (up x 4) 24)):=qV (by omega);have w5:vJJ .i64 (((dn x 6) / 720))=(((dn x 6) / 720)):=qV (by omega);have w6:vJJ .i64 ((-1) * (((dn x 6) / 720)))=((-1) * (((dn x 6) / 720))):=qV (by omega);have w7:vJJ .i64 (((1073741824 + ((-1) * (((dn x 2) / 2)))) + (1 * zX (up x 4) 24)) + ((-1) * (((dn x 6) / 720))))=(((1073741824 + ((-1) * (((dn x 2) / 2)))) + (1 * zX (up x 4) 24)) + ((-1) * (((dn x 6) / 720)))):=qV (by omega);have w8:vJJ .i64 (1 * zX (up x 8) 40320)=(1 * zX (up x 8) 40320):=qV (by omega);have w9:vJJ .i64 ((((1073741824 + ((-1) * (((dn x 2) / 2)))) + (1 * zX (up x 4) 24)) + ((-1) * (((dn x 6) / 720)))) + (1 * zX (up x 8) 40320))=((((1073741824 + ((-1) * (((dn x 2) / 2)))) + (1 * zX (up x 4) 24)) + ((-1) * (((dn x 6) / 720)))) + (1 * zX (up x 8) 40320)):=qV (by omega);simp only [w0,w1,w2,w3,w4,w5,w6,w7,w8,w9]
 try omega
end Ta
set_option maxRecDepth 100000 in
theorem uWC (x:Int) (h:0≤x∧x≤8192) (w:World):Calls Tryz.prog 203 [.int .i64 x].toArray w (Rets (iv (qXX x)) (w)) :=
 zK (x:=.a (ivC (qXX x))) (zU (N:=60) (ps:=[.n .i64 x]) yX zW (OrL.ok (l:=LTa9) zUC) ((by kernel_rfl:_=bif decide (0≤x∧x≤8192) then (bif pw (up x 2) then (bif pw (up x 6) then (bif pw (up x 10) then (bif pw (up x 4) then (bif pw (up x 8) then (bif iw (qHQ x) then some (.v (.a (ivC (encI (zYL x) (qHQ x)))),[])
 else none)
 else none)
 else none)
 else none)
 else none)
 else none)
 else none).trans (by
 have iL:iw (zYL x)=true:=iww _;have iU:iw (qHQ x)=true:=iww _;rw [yWA h] at iL ⊢;rw [yWH h] at iU ⊢;simp only [vJQ h,kYH h,kXI h,kXL h,iL,iU,vYV,vZJ]
 rfl))) rfl rfl w
namespace Ta
def yZW (x:Int):Int:=(vJJ .i64 ((vJJ .i64 ((vJJ .i64 ((dn x 1) - zX (up x 3) 6)) + (dn x 5) / 120)) - zX (up x 7) 5040))
theorem jUV {x:Int} (h:0≤x∧x≤8192):yZW x=sinL x:=by
 have d1:=qJJ h 1;have d5:=qJJ h 5;have u3:=qZE h 3;have u7:=qZE h 7;have c3:=yV (r:=zX (up x 3) 6) rfl u3 (by decide);have c7:=yV (r:=zX (up x 7) 5040) rfl u7 (by decide);unfold yZW sinL;have w0:vJJ .i64 ((dn x 1) - zX (up x 3) 6)=((dn x 1) - zX (up x 3) 6):=qV (by omega);have w1:vJJ .i64 (((dn x 1) - zX (up x 3) 6) + (dn x 5) / 120)=(((dn x 1) - zX (up x 3) 6) + (dn x 5) / 120):=qV (by omega);have w2:vJJ .i64 ((((dn x 1) - zX (up x 3) 6) + (dn x 5) / 120) - zX (up x 7) 5040)=((((dn x 1) - zX (up x 3) 6) + (dn x 5) / 120) - zX (up x 7) 5040):=qV (by omega);simp only [w0,w1,w2]
 try omega
def yZX (x:Int):Int:=(vJJ .i64 ((vJJ .i64 ((vJJ .i64 ((vJJ .i64 ((up x 1) - (dn x 3) / 6)) + zX (up x 5) 120)) - (dn x 7) / 5040)) + zX (up x 9) 362880))
theorem jUW {x:Int} (h:0≤x∧x≤8192):yZX x=sinU x:=by
 have d3:=qJJ h 3;have d7:=qJJ h 7;have u1:=qZE h 1;have u5:=qZE h 5;have u9:=qZE h 9;have c5:=yV (r:=zX (up x 5) 120) rfl u5 (by decide);have c9:=yV (r:=zX (up x 9) 362880) rfl u9 (by decide);unfold yZX sinU;have w0:vJJ .i64 ((up x 1) - (dn x 3) / 6)=((up x 1) - (dn x 3) / 6):=qV (by omega);have w1:vJJ .i64 (((up x 1) - (dn x 3) / 6) + zX (up x 5) 120)=(((up x 1) - (dn x 3) / 6) + zX (up x 5) 120):=qV (by omega);have w2:vJJ .i64 ((((up x 1) - (dn x 3) / 6) + zX (up x 5) 120) - (dn x 7) / 5040)=((((up x 1) - (dn x 3) / 6) + zX (up x 5) 120) - (dn x 7) / 5040):=qV (by omega);have w3:vJJ .i64 (((((up x 1) - (dn x 3) / 6) + zX (up x 5) 120) - (dn x 7) / 5040) + zX (up x 9) 362880)=(((((up x 1) - (dn x 3) / 6) + zX (up x 5) 120) - (dn x 7) / 5040) + zX (up x 9) 362880):=qV (by omega);simp only [w0,w1,w2,w3]
 try omega
end Ta
set_option maxRecDepth 100000 in
theorem xVC (x:Int) (h:0≤x∧x≤8192) (w:World):Calls Tryz.prog 192 [.int .i64 x].toArray w (Rets (iv (zVK x)) (w)) :=
 zK (x:=.a (ivC (zVK x))) (zU (N:=60) (ps:=[.n .i64 x]) yX zW (OrL.ok (l:=LTa9) zUC) ((by kernel_rfl:_=bif decide (0≤x∧x≤8192) then (bif iw (up x 3) then (bif iw (dn x 5) then (bif iw (up x 7) then (bif iw (dn x 3) then (bif iw (up x 5) then (bif iw (dn x 7) then (bif iw (up x 9) then (bif (iw (yZX x) && iw (yZW x)) then some (.v (.a (ivC (encI (yZW x) (yZX x)))),[])
 else none)
 else none)
 else none)
 else none)
 else none)
 else none)
 else none)
 else none)
 else none).trans (by
 have iL:iw (yZW x)=true:=iww _;have iU:iw (yZX x)=true:=iww _;rw [jUV h] at iL ⊢;rw [jUW h] at iU ⊢;simp only [vJQ h,kYH h,kXI h,kXL h,iL,iU,vYV,vZJ]
 rfl))) rfl rfl w
namespace Ta
def qGK (x:Int):Int:=(vJJ .i64 ((vJJ .i64 ((vJJ .i64 ((vJJ .i64 ((vJJ .i64 (1073741824 - zX (up x 2) 2)) + (dn x 4) / 24)) - zX (up x 6) 720)) + (dn x 8) / 40320)) - zX (up x 10) 3628800))
theorem yUK {x:Int} (h:0≤x∧x≤8192):qGK x=cosL x:=by
 have d4:=qJJ h 4;have d8:=qJJ h 8;have u2:=qZE h 2;have u6:=qZE h 6;have u10:=qZE h 10;have c10:=yV (r:=zX (up x 10) 3628800) rfl u10 (by decide);have c2:=yV (r:=zX (up x 2) 2) rfl u2 (by decide);have c6:=yV (r:=zX (up x 6) 720) rfl u6 (by decide);unfold qGK cosL;have w0:vJJ .i64 (1073741824 - zX (up x 2) 2)=(1073741824 - zX (up x 2) 2):=qV (by omega);have w1:vJJ .i64 ((1073741824 - zX (up x 2) 2) + (dn x 4) / 24)=((1073741824 - zX (up x 2) 2) + (dn x 4) / 24):=qV (by omega);have w2:vJJ .i64 (((1073741824 - zX (up x 2) 2) + (dn x 4) / 24) - zX (up x 6) 720)=(((1073741824 - zX (up x 2) 2) + (dn x 4) / 24) - zX (up x 6) 720):=qV (by omega);have w3:vJJ .i64 ((((1073741824 - zX (up x 2) 2) + (dn x 4) / 24) - zX (up x 6) 720) + (dn x 8) / 40320)=((((1073741824 - zX (up x 2) 2) + (dn x 4) / 24) - zX (up x 6) 720) + (dn x 8) / 40320):=qV (by omega);have w4:vJJ .i64 (((((1073741824 - zX (up x 2) 2) + (dn x 4) / 24) - zX (up x 6) 720) + (dn x 8) / 40320) - zX (up x 10) 3628800)=(((((1073741824 - zX (up x 2) 2) + (dn x 4) / 24) - zX (up x 6) 720) + (dn x 8) / 40320) - zX (up x 10) 3628800):=qV (by omega);simp only [w0,w1,w2,w3,w4]
 try omega
def qGJ (x:Int):Int:=(vJJ .i64 ((vJJ .i64 ((vJJ .i64 ((vJJ .i64 (1073741824 - (dn x 2) / 2)) + zX (up x 4) 24)) - (dn x 6) / 720)) + zX (up x 8) 40320))
theorem yUJ {x:Int} (h:0≤x∧x≤8192):qGJ x=cosU x:=by
 have d2:=qJJ h 2;have d6:=qJJ h 6;have u4:=qZE h 4;have u8:=qZE h 8;have c4:=yV (r:=zX (up x 4) 24) rfl u4 (by decide);have c8:=yV (r:=zX (up x 8) 40320) rfl u8 (by decide);unfold qGJ cosU;have w0:vJJ .i64 (1073741824 - (dn x 2) / 2)=(1073741824 - (dn x 2) / 2):=qV (by omega);have w1:vJJ .i64 ((1073741824 - (dn x 2) / 2) + zX (up x 4) 24)=((1073741824 - (dn x 2) / 2) + zX (up x 4) 24):=qV (by omega);have w2:vJJ .i64 (((1073741824 - (dn x 2) / 2) + zX (up x 4) 24) - (dn x 6) / 720)=(((1073741824 - (dn x 2) / 2) + zX (up x 4) 24) - (dn x 6) / 720):=qV (by omega);have w3:vJJ .i64 ((((1073741824 - (dn x 2) / 2) + zX (up x 4) 24) - (dn x 6) / 720) + zX (up x 8) 40320)=((((1073741824 - (dn x 2) / 2) + zX (up x 4) 24) - (dn x 6) / 720) + zX (up x 8) 40320):=qV (by omega);simp only [w0,w1,w2,w3]
 try omega
end Ta
set_option maxRecDepth 100000 in
theorem uJG (x:Int) (h:0≤x∧x≤8192) (w:World):Calls Tryz.prog 193 [.int .i64 x].toArray w (Rets (iv (qXX x)) (w)) :=
 zK (x:=.a (ivC (qXX x))) (zU (N:=60) (ps:=[.n .i64 x]) yX zW (OrL.ok (l:=LTa9) zUC) ((by kernel_rfl:_=bif decide (0≤x∧x≤8192) then (bif iw (up x 2) then (bif iw (dn x 4) then (bif iw (up x 6) then (bif iw (dn x 8) then (bif iw (up x 10) then (bif iw (dn x 2) then (bif iw (up x 4) then (bif iw (dn x 6) then (bif iw (up x 8) then (bif (iw (qGJ x) && iw (qGK x)) then some (.v (.a (ivC (encI (qGK x) (qGJ x)))),[])
 else none)
 else none)
 else none)
 else none)
 else none)
 else none)
 else none)
 else none)
 else none)
 else none)
 else none).trans (by
 have iL:iw (qGK x)=true:=iww _;have iU:iw (qGJ x)=true:=iww _;rw [yUK h] at iL ⊢;rw [yUJ h] at iU ⊢;simp only [vJQ h,kYH h,kXI h,kXL h,iL,iU,vYV,vZJ]
 rfl))) rfl rfl w
namespace Ta
noncomputable def yXH:List PV→Option (Bool × Ret):=fun ps=>match ps with
 | [.n .i64 x]=>some (decide (0≤x∧x≤8192),.v (.a (ivC (zVK x))))
 | _=>none
theorem kKC:zY Tryz.prog 202 yXH:=by
 intro ps r h;unfold yXH at h;split at h
 ·simp only [vQZ,vQY] at h;obtain ⟨hg,rfl⟩:=h
  try simp only [vQJ,decide_eq_true_eq] at hg
  exact qX (qW Tryz.func202 (by kernel_rfl) (by kernel_rfl)) rfl rfl (fun w=>fKF _ hg w)
 ·cases h
noncomputable def xWH:OrL:=(202,yXH) :: LTa9
theorem kGU:AllP (fun x:Nat × (List PV→Option (Bool × Ret))=>zY Tryz.prog x.1 x.2) xWH:=⟨kKC,zUC⟩
noncomputable def zKB:List PV→Option (Bool × Ret):=fun ps=>match ps with
 | [.n .i64 x]=>some (decide (0≤x∧x≤8192),.v (.a (ivC (qXX x))))
 | _=>none
theorem jZL:zY Tryz.prog 203 zKB:=by
 intro ps r h;unfold zKB at h;split at h
 ·simp only [vQZ,vQY] at h;obtain ⟨hg,rfl⟩:=h
  try simp only [vQJ,decide_eq_true_eq] at hg
  exact qX (qW Tryz.func203 (by kernel_rfl) (by kernel_rfl)) rfl rfl (fun w=>uWC _ hg w)
 ·cases h
noncomputable def xWG:OrL:=(203,zKB) :: xWH
theorem kGK:AllP (fun x:Nat × (List PV→Option (Bool × Ret))=>zY Tryz.prog x.1 x.2) xWG:=⟨jZL,kGU⟩
noncomputable def yXK:List PV→Option (Bool × Ret):=fun ps=>match ps with
 | [.n .i64 x]=>some (decide (0≤x∧x≤8192),.v (.a (ivC (zVK x))))
 | _=>none
theorem kJL:zY Tryz.prog 192 yXK:=by
 intro ps r h;unfold yXK at h;split at h
 ·simp only [vQZ,vQY] at h;obtain ⟨hg,rfl⟩:=h
  try simp only [vQJ,decide_eq_true_eq] at hg
  exact qX (qW Tryz.func192 (by kernel_rfl) (by kernel_rfl)) rfl rfl (fun w=>xVC _ hg w)
 ·cases h
noncomputable def xWV:OrL:=(192,yXK) :: xWG
theorem kGJ:AllP (fun x:Nat × (List PV→Option (Bool × Ret))=>zY Tryz.prog x.1 x.2) xWV:=⟨kJL,kGK⟩
noncomputable def zKG:List PV→Option (Bool × Ret):=fun ps=>match ps with
 | [.n .i64 x]=>some (decide (0≤x∧x≤8192),.v (.a (ivC (qXX x))))
 | _=>none
theorem jZD:zY Tryz.prog 193 zKG:=by
 intro ps r h;unfold zKG at h;split at h
 ·simp only [vQZ,vQY] at h;obtain ⟨hg,rfl⟩:=h
  try simp only [vQJ,decide_eq_true_eq] at hg
  exact qX (qW Tryz.func193 (by kernel_rfl) (by kernel_rfl)) rfl rfl (fun w=>uJG _ hg w)
 ·cases h
noncomputable def kGY:OrL:=(193,zKG) :: xWV
theorem yQX:AllP (fun x:Nat × (List PV→Option (Bool × Ret))=>zY Tryz.prog x.1 x.2) kGY:=⟨jZD,kGJ⟩
end Ta
set_option maxRecDepth 100000 in
theorem xXY (r:Int) (_:0≤r∧r≤16384) (w:World):Calls Tryz.prog 198 [.int .i64 r].toArray w (Rets (iv (qYX r)) (w)) :=
 zK (x:=.a (ivC (qYX r))) (zU (N:=60) (ps:=[.n .i64 r]) yX zW (OrL.ok (l:=kGY) yQX) ((by kernel_rfl:_=bif (decide (r≤8192)) then (bif decide (0≤r∧r≤8192) then some (.v (.a (ivC (zVK r))),[])
 else none)
 else bif decide (0≤(vJJ .i64 (16384 - r))∧(vJJ .i64 (16384 - r))≤8192) then some (.v (.a (ivC (qXX (vJJ .i64 (16384 - r))))),[])
 else none).trans (by
 by_cases p:r≤8192
 ·simp only [vJQ p,vYV,vJQ (show 0≤r∧r≤8192 by omega)];unfold qYX;rw [vJQ p]; rfl
 ·have w0:vJJ .i64 (16384 - r)=16384 - r:=qV (by omega);simp only [w0,vYH p,vYG,vJQ (show 0≤16384 - r∧16384 - r≤8192 by omega),vYV];unfold qYX;rw [vYH p]; rfl))) rfl rfl w
set_option maxRecDepth 100000 in
theorem kYQ (r:Int) (_:0≤r∧r≤16384) (w:World):Calls Tryz.prog 188 [.int .i64 r].toArray w (Rets (iv (qYX r)) (w)) :=
 zK (x:=.a (ivC (qYX r))) (zU (N:=60) (ps:=[.n .i64 r]) yX zW (OrL.ok (l:=kGY) yQX) ((by kernel_rfl:_=bif (decide (r≤8192)) then (bif decide (0≤r∧r≤8192) then some (.v (.a (ivC (zVK r))),[])
 else none)
 else bif decide (0≤(vJJ .i64 (16384 - r))∧(vJJ .i64 (16384 - r))≤8192) then some (.v (.a (ivC (qXX (vJJ .i64 (16384 - r))))),[])
 else none).trans (by
 by_cases p:r≤8192
 ·simp only [vJQ p,vYV,vJQ (show 0≤r∧r≤8192 by omega)];unfold qYX;rw [vJQ p]; rfl
 ·have w0:vJJ .i64 (16384 - r)=16384 - r:=qV (by omega);simp only [w0,vYH p,vYG,vJQ (show 0≤16384 - r∧16384 - r≤8192 by omega),vYV];unfold qYX;rw [vYH p]; rfl))) rfl rfl w
namespace Ta
noncomputable def zGA:List PV→Option (Bool × Ret):=fun ps=>match ps with
 | [.n .i64 r]=>some (decide (0≤r∧r≤16384),.v (.a (ivC (qYX r))))
 | _=>none
theorem jXD:zY Tryz.prog 198 zGA:=by
 intro ps r h;unfold zGA at h;split at h
 ·simp only [vQZ,vQY] at h;obtain ⟨hg,rfl⟩:=h
  try simp only [vQJ,decide_eq_true_eq] at hg
  exact qX (qW Tryz.func198 (by kernel_rfl) (by kernel_rfl)) rfl rfl (fun w=>xXY _ hg w)
 ·cases h
noncomputable def xWW:OrL:=(198,zGA) :: kGY
theorem kGZ:AllP (fun x:Nat × (List PV→Option (Bool × Ret))=>zY Tryz.prog x.1 x.2) xWW:=⟨jXD,yQX⟩
noncomputable def qHI:List PV→Option (Bool × Ret):=fun ps=>match ps with
 | [.n .i64 r]=>some (decide (0≤r∧r≤16384),.v (.a (ivC (qYX r))))
 | _=>none
theorem yUH:zY Tryz.prog 188 qHI:=by
 intro ps r h;unfold qHI at h;split at h
 ·simp only [vQZ,vQY] at h;obtain ⟨hg,rfl⟩:=h
  try simp only [vQJ,decide_eq_true_eq] at hg
  exact qX (qW Tryz.func188 (by kernel_rfl) (by kernel_rfl)) rfl rfl (fun w=>kYQ _ hg w)
 ·cases h
noncomputable def xWX:OrL:=(188,qHI) :: xWW
theorem kGQ:AllP (fun x:Nat × (List PV→Option (Bool × Ret))=>zY Tryz.prog x.1 x.2) xWX:=⟨yUH,kGZ⟩
noncomputable def jWW:List PV→Option (Bool × Ret):=fun ps=>match ps with
 | [.n .i64 a]=>some (true,.v (.n .i64 ((a % 65536))))
 | _=>none
theorem uUB:zY Tryz.prog 197 jWW:=by
 intro ps r h;unfold jWW at h;split at h
 ·simp only [vQZ,vQY] at h;obtain ⟨hg,rfl⟩:=h;exact qX (qW Tryz.func197 (by kernel_rfl) (by kernel_rfl)) rfl rfl (fun w=>aMod _ w)
 ·cases h
noncomputable def xWU:OrL:=(197,jWW) :: xWX
theorem kVL:AllP (fun x:Nat × (List PV→Option (Bool × Ret))=>zY Tryz.prog x.1 x.2) xWU:=⟨uUB,kGQ⟩
noncomputable def jWQ:List PV→Option (Bool × Ret):=fun ps=>match ps with
 | [.n .i64 a]=>some (true,.v (.n .i64 ((a % 65536))))
 | _=>none
theorem uKI:zY Tryz.prog 187 jWQ:=by
 intro ps r h;unfold jWQ at h;split at h
 ·simp only [vQZ,vQY] at h;obtain ⟨hg,rfl⟩:=h;exact qX (qW Tryz.func187 (by kernel_rfl) (by kernel_rfl)) rfl rfl (fun w=>rMod _ w)
 ·cases h
noncomputable def xWK:OrL:=(187,jWQ) :: xWU
theorem kVI:AllP (fun x:Nat × (List PV→Option (Bool × Ret))=>zY Tryz.prog x.1 x.2) xWK:=⟨uKI,kVL⟩
noncomputable def o_iNeg:List PV→Option (Bool × Ret):=fun ps=>match ps with
 | [.a a']=>(ivD a').bind fun a=>some (true,.v (.a (ivC (Iv.neg a))))
 | _=>none
theorem ok_iNeg:zY Tryz.prog 184 o_iNeg:=by
 intro ps r h;unfold o_iNeg at h;split at h
 ·simp only [vQQ,vQZ,vQY] at h;obtain ⟨a,ha,hg,rfl⟩:=h;rw [qQI ha];exact qX (qW Tryz.func184 (by kernel_rfl) (by kernel_rfl)) rfl rfl (fun w=>iNeg _ _ w)
 ·cases h
noncomputable def xWJ:OrL:=(184,o_iNeg) :: xWK
theorem kVF:AllP (fun x:Nat × (List PV→Option (Bool × Ret))=>zY Tryz.prog x.1 x.2) xWJ:=⟨ok_iNeg,kVI⟩
noncomputable def o_rNeg:List PV→Option (Bool × Ret):=fun ps=>match ps with
 | [.a a']=>(ivD a').bind fun a=>some (true,.v (.a (ivC (Iv.neg a))))
 | _=>none
theorem ok_rNeg:zY Tryz.prog 171 o_rNeg:=by
 intro ps r h;unfold o_rNeg at h;split at h
 ·simp only [vQQ,vQZ,vQY] at h;obtain ⟨a,ha,hg,rfl⟩:=h;rw [qQI ha];exact qX (qW Tryz.func171 (by kernel_rfl) (by kernel_rfl)) rfl rfl (fun w=>rNeg _ _ w)
 ·cases h
noncomputable def kVE:OrL:=(171,o_rNeg) :: xWJ
theorem yQU:AllP (fun x:Nat × (List PV→Option (Bool × Ret))=>zY Tryz.prog x.1 x.2) kVE:=⟨ok_rNeg,kVF⟩
end Ta
set_option maxRecDepth 100000 in
theorem aSin (a:Int) (w:World):Calls Tryz.prog 191 [.int .i64 a].toArray w (Rets (iv (sinI a)) (w)) :=
 zK (x:=.a (ivC (sinI a))) (zU (N:=60) (ps:=[.n .i64 a]) yX zW (OrL.ok (l:=kVE) yQU) ((by kernel_rfl:_=bif (decide ((vJJ .i64 ((a % 65536).tdiv 16384))=0)) then (bif decide (0≤((a % 65536).tmod 16384)∧((a % 65536).tmod 16384)≤16384) then some (.v (.a (ivC (qYX ((a % 65536).tmod 16384)))),[])
 else none)
 else bif (decide ((vJJ .i64 ((a % 65536).tdiv 16384))=1)) then (bif decide (0≤(vJJ .i64 (16384 - ((a % 65536).tmod 16384)))∧(vJJ .i64 (16384 - ((a % 65536).tmod 16384)))≤16384) then some (.v (.a (ivC (qYX (vJJ .i64 (16384 - ((a % 65536).tmod 16384)))))),[])
 else none)
 else bif (decide ((vJJ .i64 ((a % 65536).tdiv 16384))=2)) then (bif decide (0≤((a % 65536).tmod 16384)∧((a % 65536).tmod 16384)≤16384) then some (.v (.a (ivC (Iv.neg (qYX ((a % 65536).tmod 16384))))),[])
 else none)
 else bif decide (0≤(vJJ .i64 (16384 - ((a % 65536).tmod 16384)))∧(vJJ .i64 (16384 - ((a % 65536).tmod 16384)))≤16384) then some (.v (.a (ivC (Iv.neg (qYX (vJJ .i64 (16384 - ((a % 65536).tmod 16384))))))),[])
 else none).trans (by
 have ht:(a % 65536).tdiv 16384=a % 65536 / 16384:=tdnn (by omega);have hm:(a % 65536).tmod 16384=a % 65536 % 16384:=Int.tmod_eq_emod_of_nonneg (by omega);have w1:vJJ .i64 (a % 65536 % 16384)=a % 65536 % 16384:=qV (by omega);have w2:vJJ .i64 (a % 65536 / 16384)=a % 65536 / 16384:=qV (by omega);have w3:vJJ .i64 (16384 - a % 65536 % 16384)=16384 - a % 65536 % 16384:=qV (by omega);simp only [ht,hm,w1,w2,w3,vJQ (show 0≤a % 65536 % 16384∧a % 65536 % 16384≤16384 by omega),vJQ (show 0≤16384 - a % 65536 % 16384∧16384 - a % 65536 % 16384≤16384 by omega),vYV];unfold sinI sinM;cases decide (a % 65536 / 16384=0) <;> cases decide (a % 65536 / 16384=1) <;> cases decide (a % 65536 / 16384=2) <;> rfl))) rfl rfl w
set_option maxRecDepth 100000 in
theorem rSin (a:Int) (w:World):Calls Tryz.prog 179 [.int .i64 a].toArray w (Rets (iv (sinI a)) (w)) :=
 zK (x:=.a (ivC (sinI a))) (zU (N:=60) (ps:=[.n .i64 a]) yX zW (OrL.ok (l:=kVE) yQU) ((by kernel_rfl:_=bif (decide ((vJJ .i64 ((a % 65536).tdiv 16384))=0)) then (bif decide (0≤((a % 65536).tmod 16384)∧((a % 65536).tmod 16384)≤16384) then some (.v (.a (ivC (qYX ((a % 65536).tmod 16384)))),[])
 else none)
 else bif (decide ((vJJ .i64 ((a % 65536).tdiv 16384))=1)) then (bif decide (0≤(vJJ .i64 (16384 - ((a % 65536).tmod 16384)))∧(vJJ .i64 (16384 - ((a % 65536).tmod 16384)))≤16384) then some (.v (.a (ivC (qYX (vJJ .i64 (16384 - ((a % 65536).tmod 16384)))))),[])
 else none)
 else bif (decide ((vJJ .i64 ((a % 65536).tdiv 16384))=2)) then (bif decide (0≤((a % 65536).tmod 16384)∧((a % 65536).tmod 16384)≤16384) then some (.v (.a (ivC (Iv.neg (qYX ((a % 65536).tmod 16384))))),[])
 else none)
 else bif decide (0≤(vJJ .i64 (16384 - ((a % 65536).tmod 16384)))∧(vJJ .i64 (16384 - ((a % 65536).tmod 16384)))≤16384) then some (.v (.a (ivC (Iv.neg (qYX (vJJ .i64 (16384 - ((a % 65536).tmod 16384))))))),[])
 else none).trans (by
 have ht:(a % 65536).tdiv 16384=a % 65536 / 16384:=tdnn (by omega);have hm:(a % 65536).tmod 16384=a % 65536 % 16384:=Int.tmod_eq_emod_of_nonneg (by omega);have w1:vJJ .i64 (a % 65536 % 16384)=a % 65536 % 16384:=qV (by omega);have w2:vJJ .i64 (a % 65536 / 16384)=a % 65536 / 16384:=qV (by omega);have w3:vJJ .i64 (16384 - a % 65536 % 16384)=16384 - a % 65536 % 16384:=qV (by omega);simp only [ht,hm,w1,w2,w3,vJQ (show 0≤a % 65536 % 16384∧a % 65536 % 16384≤16384 by omega),vJQ (show 0≤16384 - a % 65536 % 16384∧16384 - a % 65536 % 16384≤16384 by omega),vYV];unfold sinI sinM;cases decide (a % 65536 / 16384=0) <;> cases decide (a % 65536 / 16384=1) <;> cases decide (a % 65536 / 16384=2) <;> rfl))) rfl rfl w
namespace Ta
noncomputable def jWU:List PV→Option (Bool × Ret):=fun ps=>match ps with
 | [.n .i64 a]=>some (true,.v (.a (ivC (sinI a))))
 | _=>none
theorem uUH:zY Tryz.prog 191 jWU:=by
 intro ps r h;unfold jWU at h;split at h
 ·simp only [vQZ,vQY] at h;obtain ⟨hg,rfl⟩:=h;exact qX (qW Tryz.func191 (by kernel_rfl) (by kernel_rfl)) rfl rfl (fun w=>aSin _ w)
 ·cases h
noncomputable def xWY:OrL:=(191,jWU) :: kVE
theorem kVD:AllP (fun x:Nat × (List PV→Option (Bool × Ret))=>zY Tryz.prog x.1 x.2) xWY:=⟨uUH,yQU⟩
noncomputable def jXF:List PV→Option (Bool × Ret):=fun ps=>match ps with
 | [.n .i64 a]=>some (true,.v (.a (ivC (sinI a))))
 | _=>none
theorem uKD:zY Tryz.prog 179 jXF:=by
 intro ps r h;unfold jXF at h;split at h
 ·simp only [vQZ,vQY] at h;obtain ⟨hg,rfl⟩:=h;exact qX (qW Tryz.func179 (by kernel_rfl) (by kernel_rfl)) rfl rfl (fun w=>rSin _ w)
 ·cases h
noncomputable def kVC:OrL:=(179,jXF) :: xWY
theorem yQK:AllP (fun x:Nat × (List PV→Option (Bool × Ret))=>zY Tryz.prog x.1 x.2) kVC:=⟨uKD,kVD⟩
end Ta
set_option maxRecDepth 100000 in
theorem aCos (a:Int) (w:World):Calls Tryz.prog 190 [.int .i64 a].toArray w (Rets (iv (cosI a)) (w)) :=
 zK (x:=.a (ivC (cosI a))) (zU (N:=60) (ps:=[.n .i64 a]) yX zW (OrL.ok (l:=kVC) yQK) ((by kernel_rfl:_=some (.v (.a (ivC (sinI (vJJ .i64 ((a % 65536) + 16384))))),[])).trans (by
 rw [qV (show -9223372036854775808≤a % 65536 + 16384∧a % 65536 + 16384≤9223372036854775807 by omega)]
 rfl))) rfl rfl w
set_option maxRecDepth 100000 in
theorem rCos (a:Int) (w:World):Calls Tryz.prog 178 [.int .i64 a].toArray w (Rets (iv (cosI a)) (w)) :=
 zK (x:=.a (ivC (cosI a))) (zU (N:=60) (ps:=[.n .i64 a]) yX zW (OrL.ok (l:=kVC) yQK) ((by kernel_rfl:_=some (.v (.a (ivC (sinI (vJJ .i64 ((a % 65536) + 16384))))),[])).trans (by
 rw [qV (show -9223372036854775808≤a % 65536 + 16384∧a % 65536 + 16384≤9223372036854775807 by omega)]
 rfl))) rfl rfl w
namespace Ta
noncomputable def jWG:List PV→Option (Bool × Ret):=fun ps=>match ps with
 | [.n .i64 a]=>some (true,.v (.a (ivC (cosI a))))
 | _=>none
theorem uUD:zY Tryz.prog 190 jWG:=by
 intro ps r h;unfold jWG at h;split at h
 ·simp only [vQZ,vQY] at h;obtain ⟨hg,rfl⟩:=h;exact qX (qW Tryz.func190 (by kernel_rfl) (by kernel_rfl)) rfl rfl (fun w=>aCos _ w)
 ·cases h
noncomputable def xWZ:OrL:=(190,jWG) :: kVC
theorem kVB:AllP (fun x:Nat × (List PV→Option (Bool × Ret))=>zY Tryz.prog x.1 x.2) xWZ:=⟨uUD,yQK⟩
noncomputable def jWY:List PV→Option (Bool × Ret):=fun ps=>match ps with
 | [.n .i64 a]=>some (true,.v (.a (ivC (cosI a))))
 | _=>none
theorem uUQ:zY Tryz.prog 178 jWY:=by
 intro ps r h;unfold jWY at h;split at h
 ·simp only [vQZ,vQY] at h;obtain ⟨hg,rfl⟩:=h;exact qX (qW Tryz.func178 (by kernel_rfl) (by kernel_rfl)) rfl rfl (fun w=>rCos _ w)
 ·cases h
noncomputable def xWQ:OrL:=(178,jWY) :: xWZ
theorem kVA:AllP (fun x:Nat × (List PV→Option (Bool × Ret))=>zY Tryz.prog x.1 x.2) xWQ:=⟨uUQ,kVB⟩
noncomputable def xXL:OrL:=(135,Tn.o_iValid) :: xWQ
theorem kVH:AllP (fun x:Nat × (List PV→Option (Bool × Ret))=>zY Tryz.prog x.1 x.2) xXL:=⟨Tn.ok_iValid,kVA⟩
noncomputable def yXG:List PV→Option (Bool × Ret):=fun ps=>match ps with
 | [.a a',.a b']=>(ivD a').bind fun a=>(ivD b').bind fun b=>some (true,.v (.a (ivC (Iv.hull a b))))
 | _=>none
theorem kKW:zY Tryz.prog 195 yXG:=by
 intro ps r h;unfold yXG at h;split at h
 ·simp only [vQQ,vQZ,vQY] at h;obtain ⟨a,ha,b,hb,hg,rfl⟩:=h;rw [qQI ha];rw [qQI hb];exact qX (qW Tryz.func195 (by kernel_rfl) (by kernel_rfl)) rfl rfl (fun w=>fKY _ _ _ _ w)
 ·cases h
noncomputable def xXI:OrL:=(195,yXG) :: xXL
theorem kVG:AllP (fun x:Nat × (List PV→Option (Bool × Ret))=>zY Tryz.prog x.1 x.2) xXI:=⟨kKW,kVH⟩
noncomputable def o_iOf:List PV→Option (Bool × Ret):=fun ps=>match ps with
 | [.n .i64 x]=>some (true,.v (.a (ivC (Iv.of x))))
 | _=>none
theorem ok_iOf:zY Tryz.prog 122 o_iOf:=by
 intro ps r h;unfold o_iOf at h;split at h
 ·simp only [vQZ,vQY] at h;obtain ⟨hg,rfl⟩:=h;exact qX (qW Tryz.func122 (by kernel_rfl) (by kernel_rfl)) rfl rfl (fun w=>iOf _ w)
 ·cases h
noncomputable def xXF:OrL:=(122,o_iOf) :: xXI
theorem kVV:AllP (fun x:Nat × (List PV→Option (Bool × Ret))=>zY Tryz.prog x.1 x.2) xXF:=⟨ok_iOf,kVG⟩
noncomputable def xXE:OrL:=(148,Tn.o_rValid) :: xXF
theorem kVW:AllP (fun x:Nat × (List PV→Option (Bool × Ret))=>zY Tryz.prog x.1 x.2) xXE:=⟨Tn.ok_rValid,kVV⟩
noncomputable def yXU:List PV→Option (Bool × Ret):=fun ps=>match ps with
 | [.a a',.a b']=>(ivD a').bind fun a=>(ivD b').bind fun b=>some (true,.v (.a (ivC (Iv.hull a b))))
 | _=>none
theorem kKQ:zY Tryz.prog 185 yXU:=by
 intro ps r h;unfold yXU at h;split at h
 ·simp only [vQQ,vQZ,vQY] at h;obtain ⟨a,ha,b,hb,hg,rfl⟩:=h;rw [qQI ha];rw [qQI hb];exact qX (qW Tryz.func185 (by kernel_rfl) (by kernel_rfl)) rfl rfl (fun w=>xVD _ _ _ _ w)
 ·cases h
noncomputable def xXD:OrL:=(185,yXU) :: xXE
theorem kVX:AllP (fun x:Nat × (List PV→Option (Bool × Ret))=>zY Tryz.prog x.1 x.2) xXD:=⟨kKQ,kVW⟩
noncomputable def o_rOf:List PV→Option (Bool × Ret):=fun ps=>match ps with
 | [.n .i64 x]=>some (true,.v (.a (ivC (Iv.of x))))
 | _=>none
theorem ok_rOf:zY Tryz.prog 34 o_rOf:=by
 intro ps r h;unfold o_rOf at h;split at h
 ·simp only [vQZ,vQY] at h;obtain ⟨hg,rfl⟩:=h;exact qX (qW Tryz.func34 (by kernel_rfl) (by kernel_rfl)) rfl rfl (fun w=>rOf _ w)
 ·cases h
noncomputable def xXC:OrL:=(34,o_rOf) :: xXD
theorem kVU:AllP (fun x:Nat × (List PV→Option (Bool × Ret))=>zY Tryz.prog x.1 x.2) xXC:=⟨ok_rOf,kVX⟩
noncomputable def zGV:List PV→Option (Bool × Ret):=fun ps=>match ps with
 | [.a a']=>(ivD a').bind fun a=>some (true,.v (.n .i64 (Iv.width a)))
 | _=>none
theorem jXV:zY Tryz.prog 194 zGV:=by
 intro ps r h;unfold zGV at h;split at h
 ·simp only [vQQ,vQZ,vQY] at h;obtain ⟨a,ha,hg,rfl⟩:=h;rw [qQI ha];exact qX (qW Tryz.func194 (by kernel_rfl) (by kernel_rfl)) rfl rfl (fun w=>xKY _ _ w)
 ·cases h
noncomputable def xXB:OrL:=(194,zGV) :: xXC
theorem kVK:AllP (fun x:Nat × (List PV→Option (Bool × Ret))=>zY Tryz.prog x.1 x.2) xXB:=⟨jXV,kVU⟩
noncomputable def zGH:List PV→Option (Bool × Ret):=fun ps=>match ps with
 | [.a a',.n .i64 c]=>(ivD a').bind fun a=>some (decide (0≤c∧c < 65536) && Iv.valid a,.v (.b (uZ a c)))
 | _=>none
theorem jXC:zY Tryz.prog 196 zGH:=by
 intro ps r h;unfold zGH at h;split at h
 ·simp only [vQQ,vQZ,vQY] at h;obtain ⟨a,ha,hg,rfl⟩:=h;rw [qQI ha]
  try simp only [vQJ,decide_eq_true_eq] at hg
  exact qX (qW Tryz.func196 (by kernel_rfl) (by kernel_rfl)) rfl rfl (fun w=>xXZ _ _ _ hg.2 hg.1 w)
 ·cases h
noncomputable def xXA:OrL:=(196,zGH) :: xXB
theorem kVJ:AllP (fun x:Nat × (List PV→Option (Bool × Ret))=>zY Tryz.prog x.1 x.2) xXA:=⟨jXC,kVK⟩
noncomputable def zGQ:List PV→Option (Bool × Ret):=fun ps=>match ps with
 | [.a a',.n .i64 c]=>(ivD a').bind fun a=>some (decide (0≤c∧c < 65536) && Iv.valid a,.v (.b (uZ a c)))
 | _=>none
theorem jXQ:zY Tryz.prog 186 zGQ:=by
 intro ps r h;unfold zGQ at h;split at h
 ·simp only [vQQ,vQZ,vQY] at h;obtain ⟨a,ha,hg,rfl⟩:=h;rw [qQI ha]
  try simp only [vQJ,decide_eq_true_eq] at hg
  exact qX (qW Tryz.func186 (by kernel_rfl) (by kernel_rfl)) rfl rfl (fun w=>uHE _ _ _ hg.2 hg.1 w)
 ·cases h
noncomputable def jHG:OrL:=(186,zGQ) :: xXA
theorem zJZ:AllP (fun x:Nat × (List PV→Option (Bool × Ret))=>zY Tryz.prog x.1 x.2) jHG:=⟨jXQ,kVJ⟩
end Ta
set_option maxRecDepth 100000 in
theorem kWE (a0 a1:Int) (w:World):Calls Tryz.prog 183 [.agg #[.int .i64 a0,.int .i64 a1]].toArray w (Rets (iv (kV (⟨a0,a1⟩:Iv))) (w)) :=
 zK (x:=.a (ivC (kV ⟨a0,a1⟩))) (zU (N:=60) (ps:=[.a [.n .i64 a0,.n .i64 a1]]) yX zW (OrL.ok (l:=jHG) zJZ) ((by kernel_rfl:_=bif Iv.valid (Iv.mk a0 a1) then (bif (decide (65536≤Iv.width (Iv.mk a0 a1))) then some (.v (.a [.n .i64 (-65536),.n .i64 65536]),[])
 else bif Iv.valid (Iv.mk a0 a1) then (bif uZ (Iv.mk a0 a1) 16384 then (bif Iv.valid (Iv.mk a0 a1) then (bif uZ (Iv.mk a0 a1) 49152 then some (.v (.a (ivC (Iv.hull (Iv.hull (Iv.hull (sinI a0) (sinI a1)) (Iv.of 65536)) (Iv.of (-65536))))),[])
 else some (.v (.a (ivC (Iv.hull (Iv.hull (sinI a0) (sinI a1)) (Iv.of 65536)))),[]))
 else none)
 else bif Iv.valid (Iv.mk a0 a1) then (bif uZ (Iv.mk a0 a1) 49152 then some (.v (.a (ivC (Iv.hull (Iv.hull (sinI a0) (sinI a1)) (Iv.of (-65536))))),[])
 else some (.v (.a (ivC (Iv.hull (sinI a0) (sinI a1)))),[]))
 else none)
 else none)
 else some (.v (.a [.n .i64 0,.n .i64 0]),[])).trans (by
 have e:kV ⟨a0,a1⟩=bif !Iv.valid (Iv.mk a0 a1) then ⟨0,0⟩ else bif decide (65536≤a1 - a0) then ⟨-65536,65536⟩ else bif uZ (Iv.mk a0 a1) 49152 then Iv.hull (bif uZ (Iv.mk a0 a1) 16384 then Iv.hull (Iv.hull (sinI a0) (sinI a1)) (Iv.of 65536) else Iv.hull (sinI a0) (sinI a1)) (Iv.of (-65536)) else (bif uZ (Iv.mk a0 a1) 16384 then Iv.hull (Iv.hull (sinI a0) (sinI a1)) (Iv.of 65536) else Iv.hull (sinI a0) (sinI a1)):=rfl
 rw [e];cases hv:Iv.valid (Iv.mk a0 a1) with
 | false=>rfl
 | true =>
  have hb:=uU hv;have hw:Iv.width (Iv.mk a0 a1)=a1 - a0:=by unfold Iv.width; rw [hv]; rfl
  rw [hw];cases decide (65536≤a1 - a0) <;> cases uZ (Iv.mk a0 a1) 16384 <;> cases uZ (Iv.mk a0 a1) 49152 <;> rfl))) rfl rfl w
set_option maxRecDepth 100000 in
theorem kWF (a0 a1:Int) (w:World):Calls Tryz.prog 182 [.agg #[.int .i64 a0,.int .i64 a1]].toArray w (Rets (iv (kG (⟨a0,a1⟩:Iv))) (w)) :=
 zK (x:=.a (ivC (kG ⟨a0,a1⟩))) (zU (N:=60) (ps:=[.a [.n .i64 a0,.n .i64 a1]]) yX zW (OrL.ok (l:=jHG) zJZ) ((by kernel_rfl:_=bif Iv.valid (Iv.mk a0 a1) then (bif (decide (65536≤Iv.width (Iv.mk a0 a1))) then some (.v (.a [.n .i64 (-65536),.n .i64 65536]),[])
 else bif Iv.valid (Iv.mk a0 a1) then (bif uZ (Iv.mk a0 a1) 0 then (bif Iv.valid (Iv.mk a0 a1) then (bif uZ (Iv.mk a0 a1) 32768 then some (.v (.a (ivC (Iv.hull (Iv.hull (Iv.hull (cosI a0) (cosI a1)) (Iv.of 65536)) (Iv.of (-65536))))),[])
 else some (.v (.a (ivC (Iv.hull (Iv.hull (cosI a0) (cosI a1)) (Iv.of 65536)))),[]))
 else none)
 else bif Iv.valid (Iv.mk a0 a1) then (bif uZ (Iv.mk a0 a1) 32768 then some (.v (.a (ivC (Iv.hull (Iv.hull (cosI a0) (cosI a1)) (Iv.of (-65536))))),[])
 else some (.v (.a (ivC (Iv.hull (cosI a0) (cosI a1)))),[]))
 else none)
 else none)
 else some (.v (.a [.n .i64 0,.n .i64 0]),[])).trans (by
 have e:kG ⟨a0,a1⟩=bif !Iv.valid (Iv.mk a0 a1) then ⟨0,0⟩ else bif decide (65536≤a1 - a0) then ⟨-65536,65536⟩ else bif uZ (Iv.mk a0 a1) 32768 then Iv.hull (bif uZ (Iv.mk a0 a1) 0 then Iv.hull (Iv.hull (cosI a0) (cosI a1)) (Iv.of 65536) else Iv.hull (cosI a0) (cosI a1)) (Iv.of (-65536)) else (bif uZ (Iv.mk a0 a1) 0 then Iv.hull (Iv.hull (cosI a0) (cosI a1)) (Iv.of 65536) else Iv.hull (cosI a0) (cosI a1)):=rfl
 rw [e];cases hv:Iv.valid (Iv.mk a0 a1) with
 | false=>rfl
 | true =>
  have hb:=uU hv;have hw:Iv.width (Iv.mk a0 a1)=a1 - a0:=by unfold Iv.width; rw [hv]; rfl
  rw [hw];cases decide (65536≤a1 - a0) <;> cases uZ (Iv.mk a0 a1) 0 <;> cases uZ (Iv.mk a0 a1) 32768 <;> rfl))) rfl rfl w
set_option maxRecDepth 100000 in
theorem kZL (a0 a1:Int) (w:World):Calls Tryz.prog 170 [.agg #[.int .i64 a0,.int .i64 a1]].toArray w (Rets (iv (kV (⟨a0,a1⟩:Iv))) (w)) :=
 zK (x:=.a (ivC (kV ⟨a0,a1⟩))) (zU (N:=60) (ps:=[.a [.n .i64 a0,.n .i64 a1]]) yX zW (OrL.ok (l:=jHG) zJZ) ((by kernel_rfl:_=bif Iv.valid (Iv.mk a0 a1) then (bif (decide (65536≤(vJJ .i64 (a1 - a0)))) then some (.v (.a [.n .i64 (-65536),.n .i64 65536]),[])
 else bif Iv.valid (Iv.mk a0 a1) then (bif uZ (Iv.mk a0 a1) 16384 then (bif Iv.valid (Iv.mk a0 a1) then (bif uZ (Iv.mk a0 a1) 49152 then some (.v (.a (ivC (Iv.hull (Iv.hull (Iv.hull (sinI a0) (sinI a1)) (Iv.of 65536)) (Iv.of (-65536))))),[])
 else some (.v (.a (ivC (Iv.hull (Iv.hull (sinI a0) (sinI a1)) (Iv.of 65536)))),[]))
 else none)
 else bif Iv.valid (Iv.mk a0 a1) then (bif uZ (Iv.mk a0 a1) 49152 then some (.v (.a (ivC (Iv.hull (Iv.hull (sinI a0) (sinI a1)) (Iv.of (-65536))))),[])
 else some (.v (.a (ivC (Iv.hull (sinI a0) (sinI a1)))),[]))
 else none)
 else none)
 else some (.v (.a [.n .i64 0,.n .i64 0]),[])).trans (by
 have e:kV ⟨a0,a1⟩=bif !Iv.valid (Iv.mk a0 a1) then ⟨0,0⟩ else bif decide (65536≤a1 - a0) then ⟨-65536,65536⟩ else bif uZ (Iv.mk a0 a1) 49152 then Iv.hull (bif uZ (Iv.mk a0 a1) 16384 then Iv.hull (Iv.hull (sinI a0) (sinI a1)) (Iv.of 65536) else Iv.hull (sinI a0) (sinI a1)) (Iv.of (-65536)) else (bif uZ (Iv.mk a0 a1) 16384 then Iv.hull (Iv.hull (sinI a0) (sinI a1)) (Iv.of 65536) else Iv.hull (sinI a0) (sinI a1)):=rfl
 rw [e];cases hv:Iv.valid (Iv.mk a0 a1) with
 | false=>rfl
 | true =>
  have hb:=uU hv;have hw:vJJ .i64 (a1 - a0)=a1 - a0:=qV (by omega);rw [hw];cases decide (65536≤a1 - a0) <;> cases uZ (Iv.mk a0 a1) 16384 <;> cases uZ (Iv.mk a0 a1) 49152 <;> rfl))) rfl rfl w
set_option maxRecDepth 100000 in
theorem kYZ (a0 a1:Int) (w:World):Calls Tryz.prog 169 [.agg #[.int .i64 a0,.int .i64 a1]].toArray w (Rets (iv (kG (⟨a0,a1⟩:Iv))) (w)) :=
 zK (x:=.a (ivC (kG ⟨a0,a1⟩))) (zU (N:=60) (ps:=[.a [.n .i64 a0,.n .i64 a1]]) yX zW (OrL.ok (l:=jHG) zJZ) ((by kernel_rfl:_=bif Iv.valid (Iv.mk a0 a1) then (bif (decide (65536≤(vJJ .i64 (a1 - a0)))) then some (.v (.a [.n .i64 (-65536),.n .i64 65536]),[])
 else bif Iv.valid (Iv.mk a0 a1) then (bif uZ (Iv.mk a0 a1) 0 then (bif Iv.valid (Iv.mk a0 a1) then (bif uZ (Iv.mk a0 a1) 32768 then some (.v (.a (ivC (Iv.hull (Iv.hull (Iv.hull (cosI a0) (cosI a1)) (Iv.of 65536)) (Iv.of (-65536))))),[])
 else some (.v (.a (ivC (Iv.hull (Iv.hull (cosI a0) (cosI a1)) (Iv.of 65536)))),[]))
 else none)
 else bif Iv.valid (Iv.mk a0 a1) then (bif uZ (Iv.mk a0 a1) 32768 then some (.v (.a (ivC (Iv.hull (Iv.hull (cosI a0) (cosI a1)) (Iv.of (-65536))))),[])
 else some (.v (.a (ivC (Iv.hull (cosI a0) (cosI a1)))),[]))
 else none)
 else none)
 else some (.v (.a [.n .i64 0,.n .i64 0]),[])).trans (by
 have e:kG ⟨a0,a1⟩=bif !Iv.valid (Iv.mk a0 a1) then ⟨0,0⟩ else bif decide (65536≤a1 - a0) then ⟨-65536,65536⟩ else bif uZ (Iv.mk a0 a1) 32768 then Iv.hull (bif uZ (Iv.mk a0 a1) 0 then Iv.hull (Iv.hull (cosI a0) (cosI a1)) (Iv.of 65536) else Iv.hull (cosI a0) (cosI a1)) (Iv.of (-65536)) else (bif uZ (Iv.mk a0 a1) 0 then Iv.hull (Iv.hull (cosI a0) (cosI a1)) (Iv.of 65536) else Iv.hull (cosI a0) (cosI a1)):=rfl
 rw [e];cases hv:Iv.valid (Iv.mk a0 a1) with
 | false=>rfl
 | true =>
  have hb:=uU hv;have hw:vJJ .i64 (a1 - a0)=a1 - a0:=qV (by omega);rw [hw];cases decide (65536≤a1 - a0) <;> cases uZ (Iv.mk a0 a1) 0 <;> cases uZ (Iv.mk a0 a1) 32768 <;> rfl))) rfl rfl w
end Go.Proofs.YtgmbkkkbfbocnaaGreat
namespace Go.Proofs.YtgmbkkkbfbocnaaGreat
open Go.Sx Go.Rx Rt Go.RowKit
namespace Tm
end Tm
open Tm
theorem fJD:qKY Tryz.prog 197=some ([.int .i64 0,.int .i64 0,.int .i64 0,.int .i64 0],[(0,1),(1,1),(2,1),(3,1)]):=by kernel_rfl
theorem xWC:qYF Tryz.prog 197 (.agg #[.int .i64 0,.int .i64 0,.int .i64 0,.int .i64 0]):=by unfold qYF; kernel_rfl
theorem uGD:tyB Tryz.prog 197 true 4=true:=by kernel_rfl
theorem xUH:arrB Tryz.prog 197 4 1=true:=by kernel_rfl
theorem fKV:uV Tryz.prog 175:=qW Tryz.func175 (by kernel_rfl) (by kernel_rfl)
theorem uWQ (a:Int) (b:Int) (_:In64 a) (hb:In64 b) (_:b≤4611686018427387904) (w:World):Calls Tryz.prog 175 [.int .i64 a,.int .i64 b].toArray w (Rets (iv (Iv.mk (qQX (a / 65536)) (qQX (zX b 65536)))) (w)):=by
 refine kJ (n:=10) Tryz.func175 rfl rfl rfl ?_;refine zV ?_;refine qU ?_;refine qUV 4 ze62 rfl rfl rfl ?_; intro b4;refine zG ?_;refine qK ?_;refine zV ?_;refine qU ?_;refine qG (zQ rfl) rfl rfl rfl ?_;refine qJL (F:=vI) (uX xKD rfl (fun w _=>zQC _ _ (by decide) w)) rfl rfl rfl ?_; intro r6 hr6;refine qG (zQ rfl) rfl rfl rfl ?_;refine qJL (F:=vI) (uX xKC rfl (fun w _=>zHC _ _ (by decide) hb w)) rfl rfl rfl ?_; intro r8 hr8;refine qJL (F:=iv) (uX fKA rfl (fun w _=>yHZ _ _  w)) rfl rfl rfl ?_; intro r9 hr9;refine qYZ 4 ty62 rfl rfl rfl rfl rfl rfl rfl rfl ?_;refine zG ?_;refine qK ?_;refine qQK ?_;refine kX (rs:=[.cell 4 62]) rfl (resC (qYE 4 rfl rfl ty62 rfl) (resN)) (congrArg (iv) (?_:⟨_,_⟩=Iv.mk (qQX (a / 65536)) (qQX (zX b 65536))))
 subst_vars; rfl
theorem fKZ {p0 p1 p2 p3:Int}:∀ w:World,(Instr.index 197 (.agg #[.int .i64 p0,.int .i64 p1,.int .i64 p2,.int .i64 p3]) (.int .i64 0)).run Tryz.prog w=.ok (.int .i64 p0) w:=fun w=>by kernel_rfl
theorem fKQ {p0 p1 p2 p3:Int}:∀ w:World,(Instr.index 197 (.agg #[.int .i64 p0,.int .i64 p1,.int .i64 p2,.int .i64 p3]) (.int .i64 1)).run Tryz.prog w=.ok (.int .i64 p1) w:=fun w=>by kernel_rfl
theorem fJL {p0 p1 p2 p3:Int}:∀ w:World,(Instr.index 197 (.agg #[.int .i64 p0,.int .i64 p1,.int .i64 p2,.int .i64 p3]) (.int .i64 2)).run Tryz.prog w=.ok (.int .i64 p2) w:=fun w=>by kernel_rfl
theorem fJI {p0 p1 p2 p3:Int}:∀ w:World,(Instr.index 197 (.agg #[.int .i64 p0,.int .i64 p1,.int .i64 p2,.int .i64 p3]) (.int .i64 3)).run Tryz.prog w=.ok (.int .i64 p3) w:=fun w=>by kernel_rfl
theorem iMul (a0 a1:Int) (b0 b1:Int) (w:World):Calls Tryz.prog 157 [.agg #[.int .i64 a0,.int .i64 a1],.agg #[.int .i64 b0,.int .i64 b1]].toArray w (Rets (iv (Iv.mul (⟨a0,a1⟩:Iv) (⟨b0,b1⟩:Iv))) (w)):=by
 refine kJ (n:=54) Tryz.func157 rfl rfl rfl ?_;refine zV ?_;refine qU ?_;refine qVU 2 rfl rfl rfl rfl ?_; intro b2;refine qVU 3 rfl rfl rfl rfl ?_; intro b3;refine qUV 4 ze62 rfl rfl rfl ?_; intro b4;refine zG ?_;refine qK ?_;refine zV ?_;refine zV ?_;refine qU ?_;refine qG (qZL 2 ty62 rfl rfl rfl) rfl rfl rfl ?_;refine qG (qZL 3 ty62 rfl rfl rfl) rfl rfl rfl ?_;refine qJL (F:=vB) (uX fKG rfl (fun w _=>uXL _ _ _ _  w)) rfl rfl rfl ?_; intro r12 hr12;refine qG (zKX rfl) rfl rfl rfl ?_;refine zG ?_;refine qK ?_;refine qJH rfl (fun hc13 => ?_) (fun hc13 => ?_)
 ·
  refine zV ?_;refine qU ?_;refine qG (qJD la62 rfl rfl) rfl rfl rfl ?_;refine qYZ 4 ty62 rfl rfl rfl rfl rfl rfl rfl rfl ?_;refine zG ?_;refine qK ?_;refine qQK ?_;refine qUF ?_;refine kX (rs:=[.cell 4 62]) rfl (resC (qYE 4 rfl rfl ty62 rfl) (resN)) (congrArg (iv) (?_:⟨_,_⟩=Iv.mul (⟨a0,a1⟩:Iv) (⟨b0,b1⟩:Iv)))
  subst_vars; first | (simp_all [Iv.mul,min4,max4]; done) | (simp_all [Iv.mul,min4,max4] <;> omega) | grind [Iv.mul,min4,max4]
 ·
  refine qZW ?_;refine qK ?_;refine zV ?_;have hv:=(hr12.symm.trans (by simpa using hc13))
  rw [vQJ] at hv;have ha:=uU hv.1;have hb:=uU hv.2;have m1:=qXU (a:=a0) (b:=b0) (by omega) (by omega);have m2:=qXU (a:=a0) (b:=b1) (by omega) (by omega);have m3:=qXU (a:=a1) (b:=b0) (by omega) (by omega);have m4:=qXU (a:=a1) (b:=b1) (by omega) (by omega);refine qU ?_;refine qG (yQ qXV rfl) rfl rfl rfl ?_;refine qG (kQ 2 ty2 rfl rfl rfl) rfl rfl rfl ?_;refine qG (yQ qXV rfl) rfl rfl rfl ?_;refine qG (kQ 3 ty2 rfl rfl rfl) rfl rfl rfl ?_;refine qG (qUL rfl rfl (by first | exact qV ⟨by omega,by omega⟩ | rfl)) rfl rfl rfl ?_;refine qG (yQ qXV rfl) rfl rfl rfl ?_;refine qG (kQ 2 ty2 rfl rfl rfl) rfl rfl rfl ?_;refine qG (yQ qGB rfl) rfl rfl rfl ?_;refine qG (kQ 3 ty2 rfl rfl rfl) rfl rfl rfl ?_;refine qG (qUL rfl rfl (by first | exact qV ⟨by omega,by omega⟩ | rfl)) rfl rfl rfl ?_;refine qG (yQ qGB rfl) rfl rfl rfl ?_;refine qG (kQ 2 ty2 rfl rfl rfl) rfl rfl rfl ?_;refine qG (yQ qXV rfl) rfl rfl rfl ?_;refine qG (kQ 3 ty2 rfl rfl rfl) rfl rfl rfl ?_;refine qG (qUL rfl rfl (by first | exact qV ⟨by omega,by omega⟩ | rfl)) rfl rfl rfl ?_;refine qG (yQ qGB rfl) rfl rfl rfl ?_;refine qG (kQ 2 ty2 rfl rfl rfl) rfl rfl rfl ?_;refine qG (yQ qGB rfl) rfl rfl rfl ?_;refine qG (kQ 3 ty2 rfl rfl rfl) rfl rfl rfl ?_;refine qG (qUL rfl rfl (by first | exact qV ⟨by omega,by omega⟩ | rfl)) rfl rfl rfl ?_;refine qG (qJD fJD rfl rfl) rfl rfl rfl ?_;refine qUV 5 xWC rfl rfl rfl ?_; intro b5;refine qYZ 5 uGD rfl rfl rfl rfl rfl rfl rfl rfl ?_;refine zG ?_;refine qK ?_;refine zV ?_;refine qUG 5 mo (by kernel_rfl) ?_;simp only [vYK,vYX,vYU,vYW];refine kH (qXY xUH rfl rfl (by first | decide | omega) (by first | decide | omega)) rfl rfl rfl ?_;refine kH (kQ 5 ty2 rfl rfl rfl) rfl rfl rfl ?_;refine kH (qXY xUH rfl rfl (by first | decide | omega) (by first | decide | omega)) rfl rfl rfl ?_;refine kH (kQ 5 ty2 rfl rfl rfl) rfl rfl rfl ?_;refine kH (zJ rfl) rfl rfl rfl ?_;refine zQD ?_;refine qWY ?_;refine qG (zJ rfl) rfl rfl rfl ?_;refine zG ?_;refine qK ?_;refine zV ?_;refine zV ?_;refine qU ?_;refine qG (qZL 5 uGD rfl rfl rfl) rfl rfl rfl ?_;refine qG (zQ rfl) rfl rfl rfl ?_;refine zG ?_;refine qK ?_;refine qKA ?_;refine jYA 5 ?_;refine qGD ?_;refine zV ?_;refine qU ?_;refine qG (qKG rfl rfl) rfl rfl rfl ?_;refine zG ?_;refine qK ?_;refine zV ?_;refine qUH rfl (by decide) ?_;refine qZW ?_;refine qK ?_;refine zV ?_;refine qKA ?_;refine zV ?_;refine qU ?_;refine qG (qUW rfl rfl (fKZ)) rfl rfl rfl ?_;refine qG (zJ rfl) rfl rfl rfl ?_;refine zG ?_;refine qK ?_;refine qU ?_;refine qG (zQ rfl) rfl rfl rfl ?_;refine qG (zQ rfl) rfl rfl rfl ?_;refine qG (qXQ rfl rfl) rfl rfl rfl ?_;refine qG (zQ rfl) rfl rfl rfl ?_;refine qG (zQ rfl) rfl rfl rfl ?_;refine qG (qXZ rfl rfl) rfl rfl rfl ?_;refine qG (zJ rfl) rfl rfl rfl ?_;refine qG (zJ rfl) rfl rfl rfl ?_;refine zG ?_;refine uH ?_;refine qK ?_;refine qU ?_;refine qG (qJY rfl rfl (by first | exact qV ⟨by omega,by omega⟩ | rfl)) rfl rfl rfl ?_;refine qG (zQ rfl) rfl rfl rfl ?_;refine zG ?_;refine qUI ?_;refine qGD ?_;refine zV ?_;refine qU ?_;refine qG (qKG rfl rfl) rfl rfl rfl ?_;refine zG ?_;refine qK ?_;refine zV ?_;refine qUH rfl (by decide) ?_;refine qZW ?_;refine qK ?_;refine zV ?_;refine qKA ?_;refine zV ?_;refine qU ?_;refine qG (qUW rfl rfl (fKQ)) rfl rfl rfl ?_;refine qG (zJ rfl) rfl rfl rfl ?_;refine zG ?_;refine qK ?_;refine qU ?_;refine qG (zQ rfl) rfl rfl rfl ?_;refine qG (zQ rfl) rfl rfl rfl ?_;refine qG (qXQ rfl rfl) rfl rfl rfl ?_;refine qG (zQ rfl) rfl rfl rfl ?_;refine qG (zQ rfl) rfl rfl rfl ?_;refine qG (qXZ rfl rfl) rfl rfl rfl ?_;refine qG (zJ rfl) rfl rfl rfl ?_;refine qG (zJ rfl) rfl rfl rfl ?_;refine zG ?_;refine uH ?_;refine qK ?_;refine qU ?_;refine qG (qJY rfl rfl (by first | exact qV ⟨by omega,by omega⟩ | rfl)) rfl rfl rfl ?_;refine qG (zQ rfl) rfl rfl rfl ?_;refine zG ?_;refine qUI ?_;refine qGD ?_;refine zV ?_;refine qU ?_;refine qG (qKG rfl rfl) rfl rfl rfl ?_;refine zG ?_;refine qK ?_;refine zV ?_;refine qUH rfl (by decide) ?_;refine qZW ?_;refine qK ?_;refine zV ?_;refine qKA ?_;refine zV ?_;refine qU ?_;refine qG (qUW rfl rfl (fJL)) rfl rfl rfl ?_;refine qG (zJ rfl) rfl rfl rfl ?_;refine zG ?_;refine qK ?_;refine qU ?_;refine qG (zQ rfl) rfl rfl rfl ?_;refine qG (zQ rfl) rfl rfl rfl ?_;refine qG (qXQ rfl rfl) rfl rfl rfl ?_;refine qG (zQ rfl) rfl rfl rfl ?_;refine qG (zQ rfl) rfl rfl rfl ?_;refine qG (qXZ rfl rfl) rfl rfl rfl ?_;refine qG (zJ rfl) rfl rfl rfl ?_;refine qG (zJ rfl) rfl rfl rfl ?_;refine zG ?_;refine uH ?_;refine qK ?_;refine qU ?_;refine qG (qJY rfl rfl (by first | exact qV ⟨by omega,by omega⟩ | rfl)) rfl rfl rfl ?_;refine qG (zQ rfl) rfl rfl rfl ?_;refine zG ?_;refine qUI ?_;refine qGD ?_;refine zV ?_;refine qU ?_;refine qG (qKG rfl rfl) rfl rfl rfl ?_;refine zG ?_;refine qK ?_;refine zV ?_;refine qUH rfl (by decide) ?_;refine qZW ?_;refine qK ?_;refine zV ?_;refine qKA ?_;refine zV ?_;refine qU ?_;refine qG (qUW rfl rfl (fJI)) rfl rfl rfl ?_;refine qG (zJ rfl) rfl rfl rfl ?_;refine zG ?_;refine qK ?_;refine qU ?_;refine qG (zQ rfl) rfl rfl rfl ?_;refine qG (zQ rfl) rfl rfl rfl ?_;refine qG (qXQ rfl rfl) rfl rfl rfl ?_;refine qG (zQ rfl) rfl rfl rfl ?_;refine qG (zQ rfl) rfl rfl rfl ?_;refine qG (qXZ rfl rfl) rfl rfl rfl ?_;refine qG (zJ rfl) rfl rfl rfl ?_;refine qG (zJ rfl) rfl rfl rfl ?_;refine zG ?_;refine uH ?_;refine qK ?_;refine qU ?_;refine qG (qJY rfl rfl (by first | exact qV ⟨by omega,by omega⟩ | rfl)) rfl rfl rfl ?_;refine qG (zQ rfl) rfl rfl rfl ?_;refine zG ?_;refine qUI ?_;refine qGD ?_;refine zV ?_;refine qU ?_;refine qG (qKG rfl rfl) rfl rfl rfl ?_;refine zG ?_;refine qK ?_;refine zV ?_;refine qWH rfl (by decide) ?_;refine yHA ?_;refine qJG ?_;refine qJG ?_;refine qXI ?_;refine qK ?_;refine zV ?_;refine qU ?_;refine qG (zQ rfl) rfl rfl rfl ?_;refine qG (zQ rfl) rfl rfl rfl ?_;refine qJL (F:=iv) (uX fKV rfl (fun w _=>uWQ _ _ (by unfold In64; omega) (by unfold In64; omega) (by omega) w)) rfl rfl rfl ?_; intro r53 hr53;refine qYZ 4 ty62 rfl rfl rfl rfl rfl rfl rfl rfl ?_;refine zG ?_;refine qK ?_;refine qQK ?_;refine kX (rs:=[.cell 4 62]) rfl (resC (qYE 4 rfl rfl ty62 rfl) (resN)) (congrArg (iv) (?_:⟨_,_⟩=Iv.mul (⟨a0,a1⟩:Iv) (⟨b0,b1⟩:Iv)))
  subst_vars; first | (simp_all [Iv.mul,min4,max4]; done) | (simp_all [Iv.mul,min4,max4] <;> omega) | grind [Iv.mul,min4,max4]
namespace Tm
noncomputable def LTm1:OrL:=(122,Ta.o_iOf) :: ([]:OrL)
theorem uGZ:AllP (fun x:Nat × (List PV→Option (Bool × Ret))=>zY Tryz.prog x.1 x.2) LTm1:=⟨Ta.ok_iOf,trivial⟩
noncomputable def LTm2:OrL:=(34,Ta.o_rOf) :: LTm1
theorem yWI:AllP (fun x:Nat × (List PV→Option (Bool × Ret))=>zY Tryz.prog x.1 x.2) LTm2:=⟨Ta.ok_rOf,uGZ⟩
end Tm
set_option maxRecDepth 100000 in
theorem kGL (p0 p1 p2:Int) (w:World):Calls Tryz.prog 74 [.agg #[.int .i64 p0,.int .i64 p1,.int .i64 p2]].toArray w (Rets (v3 (V3.of (⟨p0,p1,p2⟩:Z3))) (w)) :=
 zK (x:=.a (v3C (V3.of ⟨p0,p1,p2⟩))) (zU (N:=60) (ps:=[.a [.n .i64 p0,.n .i64 p1,.n .i64 p2]]) yX zW (OrL.ok (l:=LTm2) yWI) (by kernel_rfl)) rfl rfl w
set_option maxRecDepth 100000 in
theorem kGG (p0 p1 p2:Int) (w:World):Calls Tryz.prog 36 [.agg #[.int .i64 p0,.int .i64 p1,.int .i64 p2]].toArray w (Rets (v3 (V3.of (⟨p0,p1,p2⟩:Z3))) (w)) :=
 zK (x:=.a (v3C (V3.of ⟨p0,p1,p2⟩))) (zU (N:=60) (ps:=[.a [.n .i64 p0,.n .i64 p1,.n .i64 p2]]) yX zW (OrL.ok (l:=LTm2) yWI) (by kernel_rfl)) rfl rfl w
namespace Tm
noncomputable def LTm3:OrL:=(135,Tn.o_iValid) :: LTm2
theorem uGQ:AllP (fun x:Nat × (List PV→Option (Bool × Ret))=>zY Tryz.prog x.1 x.2) LTm3:=⟨Tn.ok_iValid,yWI⟩
noncomputable def o_iAdd:List PV→Option (Bool × Ret):=fun ps=>match ps with
 | [.a a',.a b']=>(ivD a').bind fun a=>(ivD b').bind fun b=>some (true,.v (.a (ivC (Iv.add a b))))
 | _=>none
theorem ok_iAdd:zY Tryz.prog 156 o_iAdd:=by
 intro ps r h;unfold o_iAdd at h;split at h
 ·simp only [vQQ,vQZ,vQY] at h;obtain ⟨a,ha,b,hb,hg,rfl⟩:=h;rw [qQI ha];rw [qQI hb];exact qX (qW Tryz.func156 (by kernel_rfl) (by kernel_rfl)) rfl rfl (fun w=>iAdd _ _ _ _ w)
 ·cases h
noncomputable def LTm4:OrL:=(156,o_iAdd) :: LTm3
theorem uVL:AllP (fun x:Nat × (List PV→Option (Bool × Ret))=>zY Tryz.prog x.1 x.2) LTm4:=⟨ok_iAdd,uGQ⟩
noncomputable def LTm5:OrL:=(184,Ta.o_iNeg) :: LTm4
theorem uVI:AllP (fun x:Nat × (List PV→Option (Bool × Ret))=>zY Tryz.prog x.1 x.2) LTm5:=⟨Ta.ok_iNeg,uVL⟩
noncomputable def LTm6:OrL:=(148,Tn.o_rValid) :: LTm5
theorem uVF:AllP (fun x:Nat × (List PV→Option (Bool × Ret))=>zY Tryz.prog x.1 x.2) LTm6:=⟨Tn.ok_rValid,uVI⟩
noncomputable def o_rAdd:List PV→Option (Bool × Ret):=fun ps=>match ps with
 | [.a a',.a b']=>(ivD a').bind fun a=>(ivD b').bind fun b=>some (true,.v (.a (ivC (Iv.add a b))))
 | _=>none
theorem ok_rAdd:zY Tryz.prog 131 o_rAdd:=by
 intro ps r h;unfold o_rAdd at h;split at h
 ·simp only [vQQ,vQZ,vQY] at h;obtain ⟨a,ha,b,hb,hg,rfl⟩:=h;rw [qQI ha];rw [qQI hb];exact qX (qW Tryz.func131 (by kernel_rfl) (by kernel_rfl)) rfl rfl (fun w=>rAdd _ _ _ _ w)
 ·cases h
noncomputable def LTm7:OrL:=(131,o_rAdd) :: LTm6
theorem uVE:AllP (fun x:Nat × (List PV→Option (Bool × Ret))=>zY Tryz.prog x.1 x.2) LTm7:=⟨ok_rAdd,uVF⟩
noncomputable def LTm8:OrL:=(171,Ta.o_rNeg) :: LTm7
theorem zUB:AllP (fun x:Nat × (List PV→Option (Bool × Ret))=>zY Tryz.prog x.1 x.2) LTm8:=⟨Ta.ok_rNeg,uVE⟩
end Tm
set_option maxRecDepth 100000 in
theorem mAdd (p0 p1 p2 p3 p4 p5:Int) (q0 q1 q2 q3 q4 q5:Int) (w:World):Calls Tryz.prog 154 [.agg #[.int .i64 p0,.int .i64 p1,.int .i64 p2,.int .i64 p3,.int .i64 p4,.int .i64 p5],.agg #[.int .i64 q0,.int .i64 q1,.int .i64 q2,.int .i64 q3,.int .i64 q4,.int .i64 q5]].toArray w (Rets (v3 (V3.add (⟨⟨p0,p1⟩,⟨p2,p3⟩,⟨p4,p5⟩⟩:V3) (⟨⟨q0,q1⟩,⟨q2,q3⟩,⟨q4,q5⟩⟩:V3))) (w)) :=
 zK (x:=.a (v3C (V3.add ⟨⟨p0,p1⟩,⟨p2,p3⟩,⟨p4,p5⟩⟩ ⟨⟨q0,q1⟩,⟨q2,q3⟩,⟨q4,q5⟩⟩))) (zU (N:=60) (ps:=[.a (ivs [⟨p0,p1⟩,⟨p2,p3⟩,⟨p4,p5⟩]),.a (ivs [⟨q0,q1⟩,⟨q2,q3⟩,⟨q4,q5⟩])]) yX zW (OrL.ok (l:=LTm8) zUB) (by kernel_rfl)) rfl rfl w
set_option maxRecDepth 100000 in
theorem uJA (p0 p1 p2 p3 p4 p5:Int) (q0 q1 q2 q3 q4 q5:Int) (w:World):Calls Tryz.prog 82 [.agg #[.int .i64 p0,.int .i64 p1,.int .i64 p2,.int .i64 p3,.int .i64 p4,.int .i64 p5],.agg #[.int .i64 q0,.int .i64 q1,.int .i64 q2,.int .i64 q3,.int .i64 q4,.int .i64 q5]].toArray w (Rets (v3 (V3.add (⟨⟨p0,p1⟩,⟨p2,p3⟩,⟨p4,p5⟩⟩:V3) (⟨⟨q0,q1⟩,⟨q2,q3⟩,⟨q4,q5⟩⟩:V3))) (w)) :=
 zK (x:=.a (v3C (V3.add ⟨⟨p0,p1⟩,⟨p2,p3⟩,⟨p4,p5⟩⟩ ⟨⟨q0,q1⟩,⟨q2,q3⟩,⟨q4,q5⟩⟩))) (zU (N:=60) (ps:=[.a (ivs [⟨p0,p1⟩,⟨p2,p3⟩,⟨p4,p5⟩]),.a (ivs [⟨q0,q1⟩,⟨q2,q3⟩,⟨q4,q5⟩])]) yX zW (OrL.ok (l:=LTm8) zUB) (by kernel_rfl)) rfl rfl w
set_option maxRecDepth 100000 in
theorem jWD  (w:World):Calls Tryz.prog 127 [].toArray w (Rets (m3 (M3.unit)) (w)) :=
 zK (x:=.a (m3C M3.unit)) (zU (N:=60) (ps:=[]) yX zW (OrL.ok (l:=LTm8) zUB) (by kernel_rfl)) rfl rfl w
set_option maxRecDepth 100000 in
theorem xVA  (w:World):Calls Tryz.prog 141 [].toArray w (Rets (m3 (M3.unit)) (w)) :=
 zK (x:=.a (m3C M3.unit)) (zU (N:=60) (ps:=[]) yX zW (OrL.ok (l:=LTm8) zUB) (by kernel_rfl)) rfl rfl w
namespace Tm
noncomputable def zQW:List PV→Option (Bool × Ret):=fun ps=>match ps with
 | [.a a']=>(ivD a').bind fun a=>some (true,.v (.a (ivC (kV a))))
 | _=>none
theorem yXQ:zY Tryz.prog 183 zQW:=by
 intro ps r h;unfold zQW at h;split at h
 ·simp only [vQQ,vQZ,vQY] at h;obtain ⟨a,ha,hg,rfl⟩:=h;rw [qQI ha];exact qX (qW Tryz.func183 (by kernel_rfl) (by kernel_rfl)) rfl rfl (fun w=>kWE _ _ w)
 ·cases h
noncomputable def LTm9:OrL:=(183,zQW) :: LTm8
theorem uVD:AllP (fun x:Nat × (List PV→Option (Bool × Ret))=>zY Tryz.prog x.1 x.2) LTm9:=⟨yXQ,zUB⟩
noncomputable def zQV:List PV→Option (Bool × Ret):=fun ps=>match ps with
 | [.a a']=>(ivD a').bind fun a=>some (true,.v (.a (ivC (kG a))))
 | _=>none
theorem yXZ:zY Tryz.prog 182 zQV:=by
 intro ps r h;unfold zQV at h;split at h
 ·simp only [vQQ,vQZ,vQY] at h;obtain ⟨a,ha,hg,rfl⟩:=h;rw [qQI ha];exact qX (qW Tryz.func182 (by kernel_rfl) (by kernel_rfl)) rfl rfl (fun w=>kWF _ _ w)
 ·cases h
noncomputable def xXH:OrL:=(182,zQV) :: LTm9
theorem kVY:AllP (fun x:Nat × (List PV→Option (Bool × Ret))=>zY Tryz.prog x.1 x.2) xXH:=⟨yXZ,uVD⟩
noncomputable def qHF:List PV→Option (Bool × Ret):=fun ps=>match ps with
 | [.a a']=>(ivD a').bind fun a=>some (true,.v (.a (ivC (kV a))))
 | _=>none
theorem yUG:zY Tryz.prog 170 qHF:=by
 intro ps r h;unfold qHF at h;split at h
 ·simp only [vQQ,vQZ,vQY] at h;obtain ⟨a,ha,hg,rfl⟩:=h;rw [qQI ha];exact qX (qW Tryz.func170 (by kernel_rfl) (by kernel_rfl)) rfl rfl (fun w=>kZL _ _ w)
 ·cases h
noncomputable def xXG:OrL:=(170,qHF) :: xXH
theorem kVZ:AllP (fun x:Nat × (List PV→Option (Bool × Ret))=>zY Tryz.prog x.1 x.2) xXG:=⟨yUG,kVY⟩
noncomputable def zQQ:List PV→Option (Bool × Ret):=fun ps=>match ps with
 | [.a a']=>(ivD a').bind fun a=>some (true,.v (.a (ivC (kG a))))
 | _=>none
theorem yUB:zY Tryz.prog 169 zQQ:=by
 intro ps r h;unfold zQQ at h;split at h
 ·simp only [vQQ,vQZ,vQY] at h;obtain ⟨a,ha,hg,rfl⟩:=h;rw [qQI ha];exact qX (qW Tryz.func169 (by kernel_rfl) (by kernel_rfl)) rfl rfl (fun w=>kYZ _ _ w)
 ·cases h
noncomputable def uGY:OrL:=(169,zQQ) :: xXG
theorem jQY:AllP (fun x:Nat × (List PV→Option (Bool × Ret))=>zY Tryz.prog x.1 x.2) uGY:=⟨yUB,kVZ⟩
end Tm
set_option maxRecDepth 100000 in
theorem fJC (axis:Int) (a0 a1:Int) (w:World):Calls Tryz.prog 176 [.int .i64 axis,.agg #[.int .i64 a0,.int .i64 a1]].toArray w (Rets (m3 (M3.turn axis (⟨a0,a1⟩:Iv))) (w)) :=
 zK (x:=.a (m3C (M3.turn axis ⟨a0,a1⟩))) (zU (N:=60) (ps:=[.n .i64 axis,.a [.n .i64 a0,.n .i64 a1]]) yX zW (OrL.ok (l:=uGY) jQY) ((by kernel_rfl:_=bif Iv.valid (Iv.mk a0 a1) then (bif (decide (axis=0)) then some (.v (.a (ivs [(Iv.of 65536),(Iv.of 0),(Iv.of 0),(Iv.of 0),(kG (Iv.mk a0 a1)),(Iv.neg (kV (Iv.mk a0 a1))),(Iv.of 0),(kV (Iv.mk a0 a1)),(kG (Iv.mk a0 a1))])),[])
 else bif (decide (axis=1)) then some (.v (.a (ivs [(kG (Iv.mk a0 a1)),(Iv.of 0),(kV (Iv.mk a0 a1)),(Iv.of 0),(Iv.of 65536),(Iv.of 0),(Iv.neg (kV (Iv.mk a0 a1))),(Iv.of 0),(kG (Iv.mk a0 a1))])),[])
 else bif (decide (axis=2)) then some (.v (.a (ivs [(kG (Iv.mk a0 a1)),(Iv.neg (kV (Iv.mk a0 a1))),(Iv.of 0),(kV (Iv.mk a0 a1)),(kG (Iv.mk a0 a1)),(Iv.of 0),(Iv.of 0),(Iv.of 0),(Iv.of 65536)])),[])
 else some (.v (.a (ivs [iv0,iv0,iv0,iv0,iv0,iv0,iv0,iv0,iv0])),[]))
 else some (.v (.a (ivs [iv0,iv0,iv0,iv0,iv0,iv0,iv0,iv0,iv0])),[])).trans (by
 simp only [kGD,jXE];unfold M3.turn;cases Iv.valid (Iv.mk a0 a1) <;> cases decide (axis=0) <;> cases decide (axis=1) <;> cases decide (axis=2) <;> rfl))) rfl rfl w
set_option maxRecDepth 100000 in
theorem xVB (axis:Int) (a0 a1:Int) (w:World):Calls Tryz.prog 149 [.int .i64 axis,.agg #[.int .i64 a0,.int .i64 a1]].toArray w (Rets (m3 (M3.turn axis (⟨a0,a1⟩:Iv))) (w)) :=
 zK (x:=.a (m3C (M3.turn axis ⟨a0,a1⟩))) (zU (N:=60) (ps:=[.n .i64 axis,.a [.n .i64 a0,.n .i64 a1]]) yX zW (OrL.ok (l:=uGY) jQY) ((by kernel_rfl:_=bif Iv.valid (Iv.mk a0 a1) then (bif (decide (axis=0)) then some (.v (.a (ivs [(Iv.of 65536),iv0,iv0,iv0,(kG (Iv.mk a0 a1)),(Iv.neg (kV (Iv.mk a0 a1))),iv0,(kV (Iv.mk a0 a1)),(kG (Iv.mk a0 a1))])),[])
 else bif (decide (axis=1)) then some (.v (.a (ivs [(kG (Iv.mk a0 a1)),iv0,(kV (Iv.mk a0 a1)),iv0,(Iv.of 65536),iv0,(Iv.neg (kV (Iv.mk a0 a1))),iv0,(kG (Iv.mk a0 a1))])),[])
 else bif (decide (axis=2)) then some (.v (.a (ivs [(kG (Iv.mk a0 a1)),(Iv.neg (kV (Iv.mk a0 a1))),iv0,(kV (Iv.mk a0 a1)),(kG (Iv.mk a0 a1)),iv0,iv0,iv0,(Iv.of 65536)])),[])
 else some (.v (.a (ivs [iv0,iv0,iv0,iv0,iv0,iv0,iv0,iv0,iv0])),[]))
 else some (.v (.a (ivs [iv0,iv0,iv0,iv0,iv0,iv0,iv0,iv0,iv0])),[])).trans (by
 simp only [kGD,jXE];unfold M3.turn;cases Iv.valid (Iv.mk a0 a1) <;> cases decide (axis=0) <;> cases decide (axis=1) <;> cases decide (axis=2) <;> rfl))) rfl rfl w
end Go.Proofs.YtgmbkkkbfbocnaaGreat

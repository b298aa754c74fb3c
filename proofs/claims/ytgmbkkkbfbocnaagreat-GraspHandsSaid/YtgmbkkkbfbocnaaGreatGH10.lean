/- Part 10 of the texts behind the last one: rules and contracts. No condition. -/
import Derived.Test.YtgmbkkkbfbocnaaGreatGH9
open Option renaming bind_eq_some_iff → vQQ
open Option.some renaming injEq → vQZ
open Prod.mk renaming injEq → vQY
open Bool renaming and_eq_true → vQJ, and_self → vZJ, true_and → vZH
open List renaming take_succ_cons → vYK, drop_succ_cons → vYU, take_zero → vYX, drop_zero → vYW
open Go.IntKind renaming wrap → vJJ
namespace Go.Proofs.YtgmbkkkbfbocnaaGreat
open Go.Sx Go.Rx Rt Go.RowKit
namespace Ta
end Ta
open Ta
theorem xYH:qQY Tryz.prog 180:=qW Tryz.func180 (by kernel_rfl) (by kernel_rfl)
theorem xYG:qQY Tryz.prog 181:=qW Tryz.func181 (by kernel_rfl) (by kernel_rfl)
theorem fZV:qQY Tryz.prog 197:=qW Tryz.func197 (by kernel_rfl) (by kernel_rfl)
theorem fZG:qQY Tryz.prog 187:=qW Tryz.func187 (by kernel_rfl) (by kernel_rfl)
theorem fZW:qQY Tryz.prog 201:=qW Tryz.func201 (by kernel_rfl) (by kernel_rfl)
theorem fZX (a:Int) (w:World):Calls Tryz.prog 180 [.int .i64 a,.int .i64 14].toArray w (Rets (vI (a / 16384)) w):=zZE a 14 (by decide) w
theorem fZU (a:Int) (ha:In64 a) (w:World):Calls Tryz.prog 181 [.int .i64 a,.int .i64 14].toArray w (Rets (vI (zX a 16384)) w):=yQQ a 14 (by decide) ha w
theorem aMod (a:Int) (w:World):Calls Tryz.prog 197 [.int .i64 a].toArray w (Rets (vI (a % 65536)) (w)):=by
 refine jX (n:=5) Tryz.func197 rfl rfl rfl ?_;refine zK ?_;refine qU ?_;refine qH (zY rfl) rfl rfl rfl ?_;refine zU ?_;refine qK ?_;refine zK ?_;refine qU ?_;refine qH (qG rfl) rfl rfl rfl ?_;refine qH (jXQ rfl rfl kXF) rfl rfl rfl ?_;refine qH (zY rfl) rfl rfl rfl ?_;refine zU ?_;refine qK ?_;refine qQG ?_;refine kJ (rs:=[.tmp 2]) rfl (resC (qQW rfl) (resN)) (congrArg (vI) (?_:_=a % 65536))
 first | rfl | (subst_vars; rfl) | (subst_vars; simp_all)
theorem rMod (a:Int) (w:World):Calls Tryz.prog 187 [.int .i64 a].toArray w (Rets (vI (a % 65536)) (w)):=by
 refine jX (n:=7) Tryz.func187 rfl rfl rfl ?_;refine zK ?_;have h0 : -65536 < a.tmod 65536:=by have:=Int.lt_tmod_of_pos a (show (0:Int) < 65536 by decide); omega
 have h1:a.tmod 65536 < 65536:=Int.tmod_lt_of_pos a (by decide);refine qU ?_;refine qH (zY rfl) rfl rfl rfl ?_;refine zU ?_;refine qK ?_;refine zK ?_;refine qU ?_;refine qH (qG rfl) rfl rfl rfl ?_;refine qH (zQF rfl rfl (by first | decide | omega) (by first | exact tmod_nonneg (by omega) (by omega) | rfl)) rfl rfl rfl ?_;refine qH (qJY rfl rfl (by first | exact qV ⟨by omega,by omega⟩ | rfl)) rfl rfl rfl ?_;refine qH (zQF rfl rfl (by first | decide | omega) (by first | exact tmod_nonneg (by omega) (by omega) | rfl)) rfl rfl rfl ?_;refine qH (zY rfl) rfl rfl rfl ?_;refine zU ?_;refine qK ?_;refine qQG ?_;refine kJ (rs:=[.tmp 2]) rfl (resC (qQW rfl) (resN)) (congrArg (vI) (?_:_=a % 65536))
 have:=Int.tdiv_mul_add_tmod a 65536; omega
theorem fZL (a:Int) (b:Int) (ha:0≤a∧a≤1073741824) (hb:0 < b∧b≤1073741824) (w:World):Calls Tryz.prog 206 [.int .i64 a,.int .i64 b].toArray w (Rets (vI (zX a b)) (w)):=by
 refine jX (n:=11) Tryz.func206 rfl rfl rfl ?_;refine zK ?_;refine qU ?_;refine qH (zY rfl) rfl rfl rfl ?_;refine zU ?_;refine qK ?_;refine zK ?_;refine qU ?_;refine qH (qG rfl) rfl rfl rfl ?_;refine qH (qG rfl) rfl rfl rfl ?_;refine qH (qJY rfl rfl (by first | exact qV ⟨by omega,by omega⟩ | rfl)) rfl rfl rfl ?_;refine qH (zKE rfl rfl (by first | exact qV ⟨by omega,by omega⟩ | rfl)) rfl rfl rfl ?_;refine qH (qG rfl) rfl rfl rfl ?_;refine qH (zGW rfl rfl (by first | decide | omega) (kXG ha hb)) rfl rfl rfl ?_;refine qH (zY rfl) rfl rfl rfl ?_;refine zU ?_;refine qK ?_;refine qQG ?_;refine kJ (rs:=[.tmp 4]) rfl (resC (qQW rfl) (resN)) (congrArg (vI) (?_:_=zX a b))
 first | rfl | (subst_vars; rfl) | (subst_vars; simp_all)
theorem aEnc (lo:Int) (hi:Int) (hh:In64 hi) (w:World):Calls Tryz.prog 207 [.int .i64 lo,.int .i64 hi].toArray w (Rets (iv (encI lo hi)) (w)):=by
 refine jX (n:=12) Tryz.func207 rfl rfl rfl ?_;refine zK ?_;refine qU ?_;refine qUW 4 ze62 rfl rfl rfl ?_; intro b4;refine zU ?_;refine qK ?_;refine zK ?_;refine qU ?_;refine qH (qG rfl) rfl rfl rfl ?_;refine qKD (F:=vI) (uU xYH rfl (fun w _=>fZX _ w)) rfl rfl rfl ?_; intro r6 hr6;refine qH (qXB rfl rfl) rfl rfl rfl ?_;refine qH (qG rfl) rfl rfl rfl ?_;refine qKD (F:=vI) (uU xYG rfl (fun w _=>fZU _ hh w)) rfl rfl rfl ?_; intro r9 hr9;refine qH (qXA rfl rfl) rfl rfl rfl ?_;refine qH (qKX la62 rfl rfl) rfl rfl rfl ?_;refine qYZ 4 ty62 rfl rfl rfl rfl rfl rfl rfl rfl ?_;refine zU ?_;refine qK ?_;refine qQG ?_;refine kJ (rs:=[.cell 4 62]) rfl (resC (qJE 4 rfl rfl ty62 rfl) (resN)) (congrArg (iv) (?_:⟨_,_⟩=encI lo hi))
 subst_vars; first | (simp_all [encI]; done) | (simp_all [encI] <;> omega) | grind [encI]
theorem rEnc (lo:Int) (hi:Int) (hl:In64 lo) (hh:In64 hi) (w:World):Calls Tryz.prog 200 [.int .i64 lo,.int .i64 hi].toArray w (Rets (iv (encI lo hi)) (w)):=by
 refine jX (n:=12) Tryz.func200 rfl rfl rfl ?_;refine zK ?_;refine qU ?_;refine qUW 4 ze62 rfl rfl rfl ?_; intro b4;refine zU ?_;refine qK ?_;refine zK ?_;refine qU ?_;refine qH (qG rfl) rfl rfl rfl ?_;refine qKD (F:=vI) (uU xYB rfl (fun w _=>jUB _ _ hl (by decide) w)) rfl rfl rfl ?_; intro r6 hr6;refine qH (qXB rfl rfl) rfl rfl rfl ?_;refine qH (qG rfl) rfl rfl rfl ?_;refine qKD (F:=vI) (uU xYA rfl (fun w _=>uYX _ _ hh (by decide) w)) rfl rfl rfl ?_; intro r9 hr9;refine qH (qXA rfl rfl) rfl rfl rfl ?_;refine qH (qKX la62 rfl rfl) rfl rfl rfl ?_;refine qYZ 4 ty62 rfl rfl rfl rfl rfl rfl rfl rfl ?_;refine zU ?_;refine qK ?_;refine qQG ?_;refine kJ (rs:=[.cell 4 62]) rfl (resC (qJE 4 rfl rfl ty62 rfl) (resN)) (congrArg (iv) (?_:⟨_,_⟩=encI lo hi))
 subst_vars; first | (simp_all [encI]; done) | (simp_all [encI] <;> omega) | grind [encI]
theorem xJG (a0 a1:Int) (c:Int) (hv:Iv.valid (⟨a0,a1⟩:Iv)=true) (_:0≤c∧c < 65536) (w:World):Calls Tryz.prog 196 [.agg #[.int .i64 a0,.int .i64 a1],.int .i64 c].toArray w (Rets (vB (kH (⟨a0,a1⟩:Iv) c)) (w)):=by
 refine jX (n:=15) Tryz.func196 rfl rfl rfl ?_;refine zK ?_;have hv2:=qQJ hv;refine qU ?_;refine qWL 2 rfl rfl rfl rfl ?_; intro b2;refine qH (zY rfl) rfl rfl rfl ?_;refine zU ?_;refine qK ?_;refine zK ?_;refine qKW 10 mo (by kernel_rfl) ?_;simp only [vYK,vYX,vYU,vYW];refine jJ (qYQ 2 ty62 rfl rfl rfl) rfl rfl rfl ?_;refine jJ (zV qWJ rfl) rfl rfl rfl ?_;refine jJ (jQ 2 ty2 rfl rfl rfl) rfl rfl rfl ?_;refine jJ (qG rfl) rfl rfl rfl ?_;refine jJ (zV qWJ rfl) rfl rfl rfl ?_;refine jJ (jQ 2 ty2 rfl rfl rfl) rfl rfl rfl ?_;refine jJ (zKE rfl rfl (by first | exact qV ⟨by omega,by omega⟩ | rfl)) rfl rfl rfl ?_;refine zXQ (F:=vI) (uU fZV rfl (fun w _=>aMod _  w)) rfl rfl rfl ?_; intro r12 hr12;have qr12:0≤r12∧r12 < 65536:=by omega
 refine jJ (qJY rfl rfl (by first | exact qV ⟨by omega,by omega⟩ | rfl)) rfl rfl rfl ?_;refine zXQ (F:=vB) (uU fZW rfl (fun w _=>iHas _ _ _  w)) rfl rfl rfl ?_; intro r14 hr14;refine qVQ ?_;refine qUA ?_;refine qH (zY rfl) rfl rfl rfl ?_;refine zU ?_;refine qK ?_;refine qQG ?_;refine kJ (rs:=[.tmp 4]) rfl (resC (qQW rfl) (resN)) (congrArg (vB) (?_:_=kH (⟨a0,a1⟩:Iv) c))
 subst_vars; simp only [Iv.has,kH,hv,vZH]; rw [vJQ (by omega),vZH]
theorem uGQ (a0 a1:Int) (c:Int) (hv:Iv.valid (⟨a0,a1⟩:Iv)=true) (_:0≤c∧c < 65536) (w:World):Calls Tryz.prog 186 [.agg #[.int .i64 a0,.int .i64 a1],.int .i64 c].toArray w (Rets (vB (kH (⟨a0,a1⟩:Iv) c)) (w)):=by
 refine jX (n:=16) Tryz.func186 rfl rfl rfl ?_;refine zK ?_;have hv2:=qQJ hv;refine qU ?_;refine qWL 2 rfl rfl rfl rfl ?_; intro b2;refine qH (zY rfl) rfl rfl rfl ?_;refine zU ?_;refine qK ?_;refine zK ?_;refine qKW 11 mo (by kernel_rfl) ?_;simp only [vYK,vYX,vYU,vYW];refine jJ (zV qWJ rfl) rfl rfl rfl ?_;refine jJ (jQ 2 ty2 rfl rfl rfl) rfl rfl rfl ?_;refine jJ (qG rfl) rfl rfl rfl ?_;refine jJ (zV qWJ rfl) rfl rfl rfl ?_;refine jJ (jQ 2 ty2 rfl rfl rfl) rfl rfl rfl ?_;refine jJ (zKE rfl rfl (by first | exact qV ⟨by omega,by omega⟩ | rfl)) rfl rfl rfl ?_;refine zXQ (F:=vI) (uU fZG rfl (fun w _=>rMod _  w)) rfl rfl rfl ?_; intro r11 hr11;have qr11:0≤r11∧r11 < 65536:=by omega
 refine jJ (qJY rfl rfl (by first | exact qV ⟨by omega,by omega⟩ | rfl)) rfl rfl rfl ?_;refine jJ (zV qHI rfl) rfl rfl rfl ?_;refine jJ (jQ 2 ty2 rfl rfl rfl) rfl rfl rfl ?_;refine jJ (jUF rfl rfl) rfl rfl rfl ?_;refine qVQ ?_;refine qUA ?_;refine qH (zY rfl) rfl rfl rfl ?_;refine zU ?_;refine qK ?_;refine qQG ?_;refine kJ (rs:=[.tmp 4]) rfl (resC (qQW rfl) (resN)) (congrArg (vB) (?_:_=kH (⟨a0,a1⟩:Iv) c))
 subst_vars; simp [kH]
theorem xZW (n:Int) (k:Int) (hk:0 < k∧k≤9223372036854775807) (w:World):Calls Tryz.prog 20 [.int .i64 n,.int .i64 k].toArray w (Rets (vI (n % k)) (w)):=by
 refine jX (n:=15) Tryz.func20 rfl rfl rfl ?_;refine zK ?_;have h0:=Int.lt_tmod_of_pos n hk.1;have h1:=Int.tmod_lt_of_pos n hk.1;refine qU ?_;refine qH (zY rfl) rfl rfl rfl ?_;refine zU ?_;refine qK ?_;refine zK ?_;refine qU ?_;refine qH (qG rfl) rfl rfl rfl ?_;refine qH (qG rfl) rfl rfl rfl ?_;refine qH (zQF rfl rfl (by first | decide | omega) rfl) rfl rfl rfl ?_;refine qH (zY rfl) rfl rfl rfl ?_;refine zU ?_;refine qK ?_;refine zK ?_;refine zK ?_;refine qU ?_;refine qH (qG rfl) rfl rfl rfl ?_;refine qH (qKB rfl rfl) rfl rfl rfl ?_;refine zU ?_;refine qK ?_;refine qJW rfl (fun hc10 => ?_) (fun hc10 => ?_)
 ·
  have h2:=vJZ hc10;refine qU ?_;refine qH (qG rfl) rfl rfl rfl ?_;refine qH (qG rfl) rfl rfl rfl ?_;refine qH (qJY rfl rfl (by first | exact qV ⟨by omega,by omega⟩ | rfl)) rfl rfl rfl ?_;refine qH (zY rfl) rfl rfl rfl ?_;refine zU ?_;refine qK ?_;refine zK ?_;refine qU ?_;refine qH (qG rfl) rfl rfl rfl ?_;refine qH (zY rfl) rfl rfl rfl ?_;refine zU ?_;refine qK ?_;refine qQG ?_;refine kJ (rs:=[.tmp 4]) rfl (resC (qQW rfl) (resN)) (congrArg (vI) (?_:_=n % k));exact jUZ hk.1 h2
 ·
  have h2:=vJY hc10;refine qZJ ?_;refine qK ?_;refine zK ?_;refine qU ?_;refine qH (qG rfl) rfl rfl rfl ?_;refine qH (zY rfl) rfl rfl rfl ?_;refine zU ?_;refine qK ?_;refine qQG ?_;refine kJ (rs:=[.tmp 4]) rfl (resC (qQW rfl) (resN)) (congrArg (vI) (?_:_=n % k));exact jUQ hk.1 h2
namespace Ta
def iw (a:Int):Bool:=decide (-9223372036854775808≤a∧a≤9223372036854775807)
def pw (a:Int):Bool:=decide (0≤a∧a≤1073741824)
theorem jYH {a:Int} (h:iw a=true):In64 a:=by unfold iw at h; simp only [decide_eq_true_eq] at h; unfold In64; omega
theorem xWI {a:Int} (h:pw a=true):0≤a∧a≤1073741824:=vJZ h
theorem iww (y:Int):iw (vJJ .i64 y)=true:=by
 refine vJQ ?_;unfold IntKind.wrap;have hb:IntKind.i64.bits=64:=rfl;have hs:IntKind.i64.signed=true:=rfl;simp only [hb,hs,vZH,decide_eq_true_eq]
 split <;> omega
theorem kXZ {x:Int} (h:0≤x∧x≤8192) (k:Nat):iw (dn x k)=true:=by have:=qKQ h k; exact vJQ (by omega)
theorem kXQ {x:Int} (h:0≤x∧x≤8192) (k:Nat):iw (up x k)=true:=by have:=qYV h k; exact vJQ (by omega)
theorem kZI {x:Int} (h:0≤x∧x≤8192) (k:Nat):pw (up x k)=true:=vJQ (qYV h k)
noncomputable def qWF:List PV→Option (Bool × Ret):=fun ps=>match ps with
 | [.n .i64 a,.n .i64 k]=>some (decide (0≤k∧k≤62),.v (.n .i64 (a / 2 ^ Int.toNat k)))
 | _=>none
theorem zGB:zJ Tryz.prog 180 qWF:=by
 intro ps r h;unfold qWF at h;split at h
 ·simp only [vQZ,vQY] at h;obtain ⟨hg,rfl⟩:=h
  try simp only [vQJ,decide_eq_true_eq] at hg
  exact qX (qW Tryz.func180 (by kernel_rfl) (by kernel_rfl)) rfl rfl (fun w=>zZE _ _ hg w)
 ·cases h
noncomputable def LTa1:OrL:=(180,qWF) :: ([]:OrL)
theorem uWK:AllP (fun x:Nat × (List PV→Option (Bool × Ret))=>zJ Tryz.prog x.1 x.2) LTa1:=⟨zGB,trivial⟩
noncomputable def zZG:List PV→Option (Bool × Ret):=fun ps=>match ps with
 | [.n .i64 a,.n .i64 k]=>some (decide (0≤k∧k≤62) && iw a,.v (.n .i64 (zX a (2 ^ Int.toNat k))))
 | _=>none
theorem yXG:zJ Tryz.prog 181 zZG:=by
 intro ps r h;unfold zZG at h;split at h
 ·simp only [vQZ,vQY] at h;obtain ⟨hg,rfl⟩:=h
  try simp only [vQJ,decide_eq_true_eq] at hg
  exact qX (qW Tryz.func181 (by kernel_rfl) (by kernel_rfl)) rfl rfl (fun w=>yQQ _ _ hg.1 (jYH hg.2) w)
 ·cases h
noncomputable def LTa2:OrL:=(181,zZG) :: LTa1
theorem uWJ:AllP (fun x:Nat × (List PV→Option (Bool × Ret))=>zJ Tryz.prog x.1 x.2) LTa2:=⟨yXG,uWK⟩
noncomputable def zGD:List PV→Option (Bool × Ret):=fun ps=>match ps with
 | [.n .i64 a,.n .i64 b]=>some (decide (0 < b) && iw a,.v (.n .i64 (a / b)))
 | _=>none
theorem jXY:zJ Tryz.prog 161 zGD:=by
 intro ps r h;unfold zGD at h;split at h
 ·simp only [vQZ,vQY] at h;obtain ⟨hg,rfl⟩:=h
  try simp only [vQJ,decide_eq_true_eq] at hg
  exact qX (qW Tryz.func161 (by kernel_rfl) (by kernel_rfl)) rfl rfl (fun w=>jUB _ _ (jYH hg.2) hg.1 w)
 ·cases h
noncomputable def LTa3:OrL:=(161,zGD) :: LTa2
theorem uWY:AllP (fun x:Nat × (List PV→Option (Bool × Ret))=>zJ Tryz.prog x.1 x.2) LTa3:=⟨jXY,uWJ⟩
noncomputable def yXF:List PV→Option (Bool × Ret):=fun ps=>match ps with
 | [.n .i64 a,.n .i64 b]=>some (decide (0 < b) && iw a,.v (.n .i64 (zX a b)))
 | _=>none
theorem kYL:zJ Tryz.prog 162 yXF:=by
 intro ps r h;unfold yXF at h;split at h
 ·simp only [vQZ,vQY] at h;obtain ⟨hg,rfl⟩:=h
  try simp only [vQJ,decide_eq_true_eq] at hg
  exact qX (qW Tryz.func162 (by kernel_rfl) (by kernel_rfl)) rfl rfl (fun w=>uYX _ _ (jYH hg.2) hg.1 w)
 ·cases h
noncomputable def LTa4:OrL:=(162,yXF) :: LTa3
theorem uWZ:AllP (fun x:Nat × (List PV→Option (Bool × Ret))=>zJ Tryz.prog x.1 x.2) LTa4:=⟨kYL,uWY⟩
noncomputable def yWJ:List PV→Option (Bool × Ret):=fun ps=>match ps with
 | [.n .i64 a,.n .i64 b]=>some (decide (0 < b∧b≤1073741824) && pw a,.v (.n .i64 (zX a b)))
 | _=>none
theorem kJD:zJ Tryz.prog 206 yWJ:=by
 intro ps r h;unfold yWJ at h;split at h
 ·simp only [vQZ,vQY] at h;obtain ⟨hg,rfl⟩:=h
  try simp only [vQJ,decide_eq_true_eq] at hg
  exact qX (qW Tryz.func206 (by kernel_rfl) (by kernel_rfl)) rfl rfl (fun w=>fZL _ _ (xWI hg.2) hg.1 w)
 ·cases h
noncomputable def LTa5:OrL:=(206,yWJ) :: LTa4
theorem uWQ:AllP (fun x:Nat × (List PV→Option (Bool × Ret))=>zJ Tryz.prog x.1 x.2) LTa5:=⟨kJD,uWZ⟩
noncomputable def jWH:List PV→Option (Bool × Ret):=fun ps=>match ps with
 | [.n .i64 l,.n .i64 a]=>some (iw a,.v (.a (ivC (encI l a))))
 | _=>none
theorem uJC:zJ Tryz.prog 207 jWH:=by
 intro ps r h;unfold jWH at h;split at h
 ·simp only [vQZ,vQY] at h;obtain ⟨hg,rfl⟩:=h
  try simp only [vQJ,decide_eq_true_eq] at hg
  exact qX (qW Tryz.func207 (by kernel_rfl) (by kernel_rfl)) rfl rfl (fun w=>aEnc _ _ (jYH hg) w)
 ·cases h
noncomputable def LTa6:OrL:=(207,jWH) :: LTa5
theorem uXL:AllP (fun x:Nat × (List PV→Option (Bool × Ret))=>zJ Tryz.prog x.1 x.2) LTa6:=⟨uJC,uWQ⟩
noncomputable def jWJ:List PV→Option (Bool × Ret):=fun ps=>match ps with
 | [.n .i64 l,.n .i64 a]=>some (iw a && iw l,.v (.a (ivC (encI l a))))
 | _=>none
theorem uJQ:zJ Tryz.prog 200 jWJ:=by
 intro ps r h;unfold jWJ at h;split at h
 ·simp only [vQZ,vQY] at h;obtain ⟨hg,rfl⟩:=h
  try simp only [vQJ,decide_eq_true_eq] at hg
  exact qX (qW Tryz.func200 (by kernel_rfl) (by kernel_rfl)) rfl rfl (fun w=>rEnc _ _ (jYH hg.2) (jYH hg.1) w)
 ·cases h
noncomputable def LTa7:OrL:=(200,jWJ) :: LTa6
theorem yVX:AllP (fun x:Nat × (List PV→Option (Bool × Ret))=>zJ Tryz.prog x.1 x.2) LTa7:=⟨uJQ,uXL⟩
def wdn (x:Int):Nat→Int
 | 0=>1073741824
 | 1=>(vJJ .i64 (x * 6746518852)) / 65536
 | k + 2=>(vJJ .i64 (wdn x (k + 1) * ((vJJ .i64 (x * 6746518852)) / 65536))) / 1073741824
def wup (x:Int):Nat→Int
 | 0=>1073741824
 | 1=>zX (vJJ .i64 (x * 6746518853)) 65536
 | k + 2=>zX (vJJ .i64 (wup x (k + 1) * zX (vJJ .i64 (x * 6746518853)) 65536)) 1073741824
theorem wmul {a b:Int} (_:0≤a∧a≤1073741824) (_:0≤b∧b≤1073741824):vJJ .i64 (a * b)=a * b:=xZZ (by omega) (by omega)
theorem jJY {x:Int} (h:0≤x∧x≤8192):∀ k,wdn x k=dn x k
 | 0=>rfl
 | 1=>by unfold wdn dn; rw [qV (by omega)]
 | k + 2=>by rw [wdn,dn,jJY h (k + 1),qV (show -9223372036854775808≤x * 6746518852∧x * 6746518852≤9223372036854775807 by omega),wmul (qKQ h (k + 1)) (show 0≤x * 6746518852 / 65536∧x * 6746518852 / 65536≤1073741824 by omega)]
theorem jJZ {x:Int} (h:0≤x∧x≤8192):∀ k,wup x k=up x k
 | 0=>rfl
 | 1=>by unfold wup up; rw [qV (by omega)]
 | k + 2=>by rw [wup,up,jJZ h (k + 1),qV (show -9223372036854775808≤x * 6746518853∧x * 6746518853≤9223372036854775807 by omega),wmul (qYV h (k + 1)) (yKD rfl h)]
set_option maxRecDepth 100000 in
theorem kHH (x:Int) (h:0≤x∧x≤8192):yK Tryz.prog 204 [.n .i64 x] (.v (.t [.a [.n .i64 1073741824,.n .i64 (dn x 1),.n .i64 (dn x 2),.n .i64 (dn x 3),.n .i64 (dn x 4),.n .i64 (dn x 5),.n .i64 (dn x 6),.n .i64 (dn x 7),.n .i64 (dn x 8),.n .i64 (dn x 9),.n .i64 (dn x 10)],.a [.n .i64 1073741824,.n .i64 (up x 1),.n .i64 (up x 2),.n .i64 (up x 3),.n .i64 (up x 4),.n .i64 (up x 5),.n .i64 (up x 6),.n .i64 (up x 7),.n .i64 (up x 8),.n .i64 (up x 9),.n .i64 (up x 10)]])):=zQ (N:=60) (ps:=[.n .i64 x]) yJ zW (OrL.ok (l:=LTa7) yVX) ((by kernel_rfl:_=bif iw (vJJ .i64 (x * 6746518853)) then (bif iw (vJJ .i64 (wup x 1 * wup x 1)) then (bif iw (vJJ .i64 (wup x 2 * wup x 1)) then (bif iw (vJJ .i64 (wup x 3 * wup x 1)) then (bif iw (vJJ .i64 (wup x 4 * wup x 1)) then (bif iw (vJJ .i64 (wup x 5 * wup x 1)) then (bif iw (vJJ .i64 (wup x 6 * wup x 1)) then (bif iw (vJJ .i64 (wup x 7 * wup x 1)) then (bif iw (vJJ .i64 (wup x 8 * wup x 1)) then (bif iw (vJJ .i64 (wup x 9 * wup x 1)) then some (.v (.t [.a [.n .i64 1073741824,.n .i64 (wdn x 1),.n .i64 (wdn x 2),.n .i64 (wdn x 3),.n .i64 (wdn x 4),.n .i64 (wdn x 5),.n .i64 (wdn x 6),.n .i64 (wdn x 7),.n .i64 (wdn x 8),.n .i64 (wdn x 9),.n .i64 (wdn x 10)],.a [.n .i64 1073741824,.n .i64 (wup x 1),.n .i64 (wup x 2),.n .i64 (wup x 3),.n .i64 (wup x 4),.n .i64 (wup x 5),.n .i64 (wup x 6),.n .i64 (wup x 7),.n .i64 (wup x 8),.n .i64 (wup x 9),.n .i64 (wup x 10)]]),[])
 else none)
 else none)
 else none)
 else none)
 else none)
 else none)
 else none)
 else none)
 else none)
 else none).trans (by
 simp only [iww,vYV,jJY h,jJZ h]))
set_option maxRecDepth 100000 in
theorem kHG (x:Int) (h:0≤x∧x≤8192):yK Tryz.prog 199 [.n .i64 x] (.v (.t [.a [.n .i64 0,.n .i64 (dn x 1),.n .i64 (dn x 2),.n .i64 (dn x 3),.n .i64 (dn x 4),.n .i64 (dn x 5),.n .i64 (dn x 6),.n .i64 (dn x 7),.n .i64 (dn x 8),.n .i64 (dn x 9),.n .i64 (dn x 10)],.a [.n .i64 0,.n .i64 (up x 1),.n .i64 (up x 2),.n .i64 (up x 3),.n .i64 (up x 4),.n .i64 (up x 5),.n .i64 (up x 6),.n .i64 (up x 7),.n .i64 (up x 8),.n .i64 (up x 9),.n .i64 (up x 10)]])):=zQ (N:=60) (ps:=[.n .i64 x]) yJ zW (OrL.ok (l:=LTa7) yVX) ((by kernel_rfl:_=bif iw (vJJ .i64 (x * 6746518852)) then (bif iw (vJJ .i64 (x * 6746518853)) then (bif iw (vJJ .i64 (wdn x 1 * wdn x 1)) then (bif iw (vJJ .i64 (wup x 1 * wup x 1)) then (bif iw (vJJ .i64 (wdn x 2 * wdn x 1)) then (bif iw (vJJ .i64 (wup x 2 * wup x 1)) then (bif iw (vJJ .i64 (wdn x 3 * wdn x 1)) then (bif iw (vJJ .i64 (wup x 3 * wup x 1)) then (bif iw (vJJ .i64 (wdn x 4 * wdn x 1)) then (bif iw (vJJ .i64 (wup x 4 * wup x 1)) then (bif iw (vJJ .i64 (wdn x 5 * wdn x 1)) then (bif iw (vJJ .i64 (wup x 5 * wup x 1)) then (bif iw (vJJ .i64 (wdn x 6 * wdn x 1)) then (bif iw (vJJ .i64 (wup x 6 * wup x 1)) then (bif iw (vJJ .i64 (wdn x 7 * wdn x 1)) then (bif iw (vJJ .i64 (wup x 7 * wup x 1)) then (bif iw (vJJ .i64 (wdn x 8 * wdn x 1)) then (bif iw (vJJ .i64 (wup x 8 * wup x 1)) then (bif iw (vJJ .i64 (wdn x 9 * wdn x 1)) then (bif iw (vJJ .i64 (wup x 9 * wup x 1)) then some (.v (.t [.a [.n .i64 0,.n .i64 (wdn x 1),.n .i64 (wdn x 2),.n .i64 (wdn x 3),.n .i64 (wdn x 4),.n .i64 (wdn x 5),.n .i64 (wdn x 6),.n .i64 (wdn x 7),.n .i64 (wdn x 8),.n .i64 (wdn x 9),.n .i64 (wdn x 10)],.a [.n .i64 0,.n .i64 (wup x 1),.n .i64 (wup x 2),.n .i64 (wup x 3),.n .i64 (wup x 4),.n .i64 (wup x 5),.n .i64 (wup x 6),.n .i64 (wup x 7),.n .i64 (wup x 8),.n .i64 (wup x 9),.n .i64 (wup x 10)]]),[])
 else none)
 else none)
 else none)
 else none)
 else none)
 else none)
 else none)
 else none)
 else none)
 else none)
 else none)
 else none)
 else none)
 else none)
 else none)
 else none)
 else none)
 else none)
 else none)
 else none).trans (by
 simp only [iww,vYV,jJY h,jJZ h]))
noncomputable def jWV:List PV→Option (Bool × Ret):=fun ps=>match ps with
 | [.n .i64 x]=>some (decide (0≤x∧x≤8192),.v (.t [.a [.n .i64 1073741824,.n .i64 (dn x 1),.n .i64 (dn x 2),.n .i64 (dn x 3),.n .i64 (dn x 4),.n .i64 (dn x 5),.n .i64 (dn x 6),.n .i64 (dn x 7),.n .i64 (dn x 8),.n .i64 (dn x 9),.n .i64 (dn x 10)],.a [.n .i64 1073741824,.n .i64 (up x 1),.n .i64 (up x 2),.n .i64 (up x 3),.n .i64 (up x 4),.n .i64 (up x 5),.n .i64 (up x 6),.n .i64 (up x 7),.n .i64 (up x 8),.n .i64 (up x 9),.n .i64 (up x 10)]]))
 | _=>none
theorem uJA:zJ Tryz.prog 204 jWV:=by
 intro ps r h;unfold jWV at h;split at h
 ·simp only [vQZ,vQY] at h;obtain ⟨hg,rfl⟩:=h;exact kHH _ (vJZ hg)
 ·cases h
noncomputable def LTa8:OrL:=(204,jWV) :: LTa7
theorem uXI:AllP (fun x:Nat × (List PV→Option (Bool × Ret))=>zJ Tryz.prog x.1 x.2) LTa8:=⟨uJA,yVX⟩
noncomputable def jWQ:List PV→Option (Bool × Ret):=fun ps=>match ps with
 | [.n .i64 x]=>some (decide (0≤x∧x≤8192),.v (.t [.a [.n .i64 0,.n .i64 (dn x 1),.n .i64 (dn x 2),.n .i64 (dn x 3),.n .i64 (dn x 4),.n .i64 (dn x 5),.n .i64 (dn x 6),.n .i64 (dn x 7),.n .i64 (dn x 8),.n .i64 (dn x 9),.n .i64 (dn x 10)],.a [.n .i64 0,.n .i64 (up x 1),.n .i64 (up x 2),.n .i64 (up x 3),.n .i64 (up x 4),.n .i64 (up x 5),.n .i64 (up x 6),.n .i64 (up x 7),.n .i64 (up x 8),.n .i64 (up x 9),.n .i64 (up x 10)]]))
 | _=>none
theorem uYF:zJ Tryz.prog 199 jWQ:=by
 intro ps r h;unfold jWQ at h;split at h
 ·simp only [vQZ,vQY] at h;obtain ⟨hg,rfl⟩:=h;exact kHG _ (vJZ hg)
 ·cases h
noncomputable def LTa9:OrL:=(199,jWQ) :: LTa8
theorem zXG:AllP (fun x:Nat × (List PV→Option (Bool × Ret))=>zJ Tryz.prog x.1 x.2) LTa9:=⟨uYF,uXI⟩
theorem tdnn {a b:Int} (h:0≤a):a.tdiv b=a / b:=Int.tdiv_eq_ediv_of_nonneg h
def jQU (x:Int):Int:=(vJJ .i64 ((vJJ .i64 ((vJJ .i64 ((vJJ .i64 (0 + (vJJ .i64 (1 * (dn x 1))))) + (vJJ .i64 ((-1) * zX (up x 3) 6)))) + (vJJ .i64 (1 * (vJJ .i64 ((dn x 5).tdiv 120)))))) + (vJJ .i64 ((-1) * zX (up x 7) 5040))))
theorem jHK {x:Int} (h:0≤x∧x≤8192):jQU x=sinL x:=by
 have d1:=qKQ h 1;have d5:=qKQ h 5;have u3:=qYV h 3;have u7:=qYV h 7;have c3:=yX (r:=zX (up x 3) 6) rfl u3 (by decide);have c7:=yX (r:=zX (up x 7) 5040) rfl u7 (by decide);unfold jQU sinL;simp only [tdnn d5.1];have w0:vJJ .i64 (1 * (dn x 1))=(1 * (dn x 1)):=qV (by omega);have w1:vJJ .i64 (0 + (1 * (dn x 1)))=(0 + (1 * (dn x 1))):=qV (by omega);have w2:vJJ .i64 ((-1) * zX (up x 3) 6)=((-1) * zX (up x 3) 6):=qV (by omega);have w3:vJJ .i64 ((0 + (1 * (dn x 1))) + ((-1) * zX (up x 3) 6))=((0 + (1 * (dn x 1))) + ((-1) * zX (up x 3) 6)):=qV (by omega);have w4:vJJ .i64 (((dn x 5) / 120))=(((dn x 5) / 120)):=qV (by omega);have w5:vJJ .i64 (1 * (((dn x 5) / 120)))=(1 * (((dn x 5) / 120))):=qV (by omega);have w6:vJJ .i64 (((0 + (1 * (dn x 1))) + ((-1) * zX (up x 3) 6)) + (1 * (((dn x 5) / 120))))=(((0 + (1 * (dn x 1))) + ((-1) * zX (up x 3) 6)) + (1 * (((dn x 5) / 120)))):=qV (by omega);have w7:vJJ .i64 ((-1) * zX (up x 7) 5040)=((-1) * zX (up x 7) 5040):=qV (by omega);have w8:vJJ .i64 ((((0 + (1 * (dn x 1))) + ((-1) * zX (up x 3) 6)) + (1 * (((dn x 5) / 120)))) + ((-1) * zX (up x 7) 5040))=((((0 + (1 * (dn x 1))) + ((-1) * zX (up x 3) 6)) + (1 * (((dn x 5) / 120)))) + ((-1) * zX (up x 7) 5040)):=qV (by omega);simp only [w0,w1,w2,w3,w4,w5,w6,w7,w8]
 try omega
def yKK (x:Int):Int:=(vJJ .i64 ((vJJ .i64 ((vJJ .i64 ((vJJ .i64 ((vJJ .i64 (0 + (vJJ .i64 (1 * (up x 1))))) + (vJJ .i64 ((-1) * (vJJ .i64 ((dn x 3).tdiv 6)))))) + (vJJ .i64 (1 * zX (up x 5) 120)))) + (vJJ .i64 ((-1) * (vJJ .i64 ((dn x 7).tdiv 5040)))))) + (vJJ .i64 (1 * zX (up x 9) 362880))))
theorem jHJ {x:Int} (h:0≤x∧x≤8192):yKK x=sinU x:=by
 have d3:=qKQ h 3;have d7:=qKQ h 7;have u1:=qYV h 1;have u5:=qYV h 5;have u9:=qYV h 9;have c5:=yX (r:=zX (up x 5) 120) rfl u5 (by decide);have c9:=yX (r:=zX (up x 9) 362880) rfl u9 (by decide);unfold yKK sinU;simp only [tdnn d3.1,tdnn d7.1];have w0:vJJ .i64 (1 * (up x 1))=(1 * (up x 1)):=qV (by omega);have w1:vJJ .i64 (0 + (1 * (up x 1)))=(0 + (1 * (up x 1))):=qV (by omega);have w2:vJJ .i64 (((dn x 3) / 6))=(((dn x 3) / 6)):=qV (by omega);have w3:vJJ .i64 ((-1) * (((dn x 3) / 6)))=((-1) * (((dn x 3) / 6))):=qV (by omega);have w4:vJJ .i64 ((0 + (1 * (up x 1))) + ((-1) * (((dn x 3) / 6))))=((0 + (1 * (up x 1))) + ((-1) * (((dn x 3) / 6)))):=qV (by omega);have w5:vJJ .i64 (1 * zX (up x 5) 120)=(1 * zX (up x 5) 120):=qV (by omega);have w6:vJJ .i64 (((0 + (1 * (up x 1))) + ((-1) * (((dn x 3) / 6)))) + (1 * zX (up x 5) 120))=(((0 + (1 * (up x 1))) + ((-1) * (((dn x 3) / 6)))) + (1 * zX (up x 5) 120)):=qV (by omega);have w7:vJJ .i64 (((dn x 7) / 5040))=(((dn x 7) / 5040)):=qV (by omega);have w8:vJJ .i64 ((-1) * (((dn x 7) / 5040)))=((-1) * (((dn x 7) / 5040))):=qV (by omega);have w9:vJJ .i64 ((((0 + (1 * (up x 1))) + ((-1) * (((dn x 3) / 6)))) + (1 * zX (up x 5) 120)) + ((-1) * (((dn x 7) / 5040))))=((((0 + (1 * (up x 1))) + ((-1) * (((dn x 3) / 6)))) + (1 * zX (up x 5) 120)) + ((-1) * (((dn x 7) / 5040)))):=qV (by omega);have w10:vJJ .i64 (1 * zX (up x 9) 362880)=(1 * zX (up x 9) 362880):=qV (by omega);have w11:vJJ .i64 (((((0 + (1 * (up x 1))) + ((-1) * (((dn x 3) / 6)))) + (1 * zX (up x 5) 120)) + ((-1) * (((dn x 7) / 5040)))) + (1 * zX (up x 9) 362880))=(((((0 + (1 * (up x 1))) + ((-1) * (((dn x 3) / 6)))) + (1 * zX (up x 5) 120)) + ((-1) * (((dn x 7) / 5040)))) + (1 * zX (up x 9) 362880)):=qV (by omega);simp only [w0,w1,w2,w3,w4,w5,w6,w7,w8,w9,w10,w11]
 try omega
end Ta
set_option maxRecDepth 100000 in
theorem fZI (x:Int) (h:0≤x∧x≤8192) (w:World):Calls Tryz.prog 202 [.int .i64 x].toArray w (Rets (iv (zGZ x)) (w)) :=
 zZ (x:=.a (ivC (zGZ x))) (zQ (N:=60) (ps:=[.n .i64 x]) yJ zW (OrL.ok (l:=LTa9) zXG) ((by kernel_rfl:_=bif decide (0≤x∧x≤8192) then (bif pw (up x 3) then (bif pw (up x 7) then (bif pw (up x 5) then (bif pw (up x 9) then (bif iw (yKK x) then some (.v (.a (ivC (encI (jQU x) (yKK x)))),[])
 else none)
 else none)
 else none)
 else none)
 else none)
 else none).trans (by
 have iL:iw (jQU x)=true:=iww _;have iU:iw (yKK x)=true:=iww _;rw [jHK h] at iL ⊢;rw [jHJ h] at iU ⊢;simp only [vJQ h,kZI h,kXQ h,kXZ h,iL,iU,vYV,vZJ]
 rfl))) rfl rfl w
namespace Ta
def zJD (x:Int):Int:=(vJJ .i64 ((vJJ .i64 ((vJJ .i64 ((vJJ .i64 ((vJJ .i64 (1073741824 + (vJJ .i64 ((-1) * zX (up x 2) 2)))) + (vJJ .i64 (1 * (vJJ .i64 ((dn x 4).tdiv 24)))))) + (vJJ .i64 ((-1) * zX (up x 6) 720)))) + (vJJ .i64 (1 * (vJJ .i64 ((dn x 8).tdiv 40320)))))) + (vJJ .i64 ((-1) * zX (up x 10) 3628800))))
theorem yVZ {x:Int} (h:0≤x∧x≤8192):zJD x=cosL x:=by
 have d4:=qKQ h 4;have d8:=qKQ h 8;have u2:=qYV h 2;have u6:=qYV h 6;have u10:=qYV h 10;have c10:=yX (r:=zX (up x 10) 3628800) rfl u10 (by decide);have c2:=yX (r:=zX (up x 2) 2) rfl u2 (by decide);have c6:=yX (r:=zX (up x 6) 720) rfl u6 (by decide);unfold zJD cosL;simp only [tdnn d4.1,tdnn d8.1];have w0:vJJ .i64 ((-1) * zX (up x 2) 2)=((-1) * zX (up x 2) 2):=qV (by omega);have w1:vJJ .i64 (1073741824 + ((-1) * zX (up x 2) 2))=(1073741824 + ((-1) * zX (up x 2) 2)):=qV (by omega);have w2:vJJ .i64 (((dn x 4) / 24))=(((dn x 4) / 24)):=qV (by omega);have w3:vJJ .i64 (1 * (((dn x 4) / 24)))=(1 * (((dn x 4) / 24))):=qV (by omega);have w4:vJJ .i64 ((1073741824 + ((-1) * zX (up x 2) 2)) + (1 * (((dn x 4) / 24))))=((1073741824 + ((-1) * zX (up x 2) 2)) + (1 * (((dn x 4) / 24)))):=qV (by omega);have w5:vJJ .i64 ((-1) * zX (up x 6) 720)=((-1) * zX (up x 6) 720):=qV (by omega);have w6:vJJ .i64 (((1073741824 + ((-1) * zX (up x 2) 2)) + (1 * (((dn x 4) / 24)))) + ((-1) * zX (up x 6) 720))=(((1073741824 + ((-1) * zX (up x 2) 2)) + (1 * (((dn x 4) / 24)))) + ((-1) * zX (up x 6) 720)):=qV (by omega);have w7:vJJ .i64 (((dn x 8) / 40320))=(((dn x 8) / 40320)):=qV (by omega);have w8:vJJ .i64 (1 * (((dn x 8) / 40320)))=(1 * (((dn x 8) / 40320))):=qV (by omega);have w9:vJJ .i64 ((((1073741824 + ((-1) * zX (up x 2) 2)) + (1 * (((dn x 4) / 24)))) + ((-1) * zX (up x 6) 720)) + (1 * (((dn x 8) / 40320))))=((((1073741824 + ((-1) * zX (up x 2) 2)) + (1 * (((dn x 4) / 24)))) + ((-1) * zX (up x 6) 720)) + (1 * (((dn x 8) / 40320)))):=qV (by omega);have w10:vJJ .i64 ((-1) * zX (up x 10) 3628800)=((-1) * zX (up x 10) 3628800):=qV (by omega);have w11:vJJ .i64 (((((1073741824 + ((-1) * zX (up x 2) 2)) + (1 * (((dn x 4) / 24)))) + ((-1) * zX (up x 6) 720)) + (1 * (((dn x 8) / 40320)))) + ((-1) * zX (up x 10) 3628800))=(((((1073741824 + ((-1) * zX (up x 2) 2)) + (1 * (((dn x 4) / 24)))) + ((-1) * zX (up x 6) 720)) + (1 * (((dn x 8) / 40320)))) + ((-1) * zX (up x 10) 3628800)):=qV (by omega);simp only [w0,w1,w2,w3,w4,w5,w6,w7,w8,w9,w10,w11]
 try omega
def zQX (x:Int):Int:=(vJJ .i64 ((vJJ .i64 ((vJJ .i64 ((vJJ .i64 (1073741824 + (vJJ .i64 ((-1) * (vJJ .i64 ((dn x 2).tdiv 2)))))) + (vJJ .i64 (1 * zX (up x 4) 24)))) + (vJJ .i64 ((-1) * (vJJ .i64 ((dn x 6).tdiv 720)))))) + (vJJ .i64 (1 * zX (up x 8) 40320))))
theorem yVQ {x:Int} (h:0≤x∧x≤8192):zQX x=cosU x:=by
 have d2:=qKQ h 2;have d6:=qKQ h 6;have u4:=qYV h 4;have u8:=qYV h 8;have c4:=yX (r:=zX (up x 4) 24) rfl u4 (by decide);have c8:=yX (r:=zX (up x 8) 40320) rfl u8 (by decide);unfold zQX cosU;simp only [tdnn d2.1,tdnn d6.1];have w0:vJJ .i64 (((dn x 2) / 2))=(((dn x 2) / 2)):=qV (by omega);have w1:vJJ .i64 ((-1) * (((dn x 2) / 2)))=((-1) * (((dn x 2) / 2))):=qV (by omega);have w2:vJJ .i64 (1073741824 + ((-1) * (((dn x 2) / 2))))=(1073741824 + ((-1) * (((dn x 2) / 2)))):=qV (by omega);have w3:vJJ .i64 (1 * zX (up x 4) 24)=(1 * zX (up x 4) 24):=qV (by omega);have w4:vJJ .i64 ((1073741824 + ((-1) * (((dn x 2) / 2)))) + (1 * zX (up x 4) 24))=((1073741824 + ((-1) * (((dn x 2) / 2)))) + (1 * zX (up x 4) 24)):=qV (by omega);have w5:vJJ .i64 (((dn x 6) / 720))=(((dn x 6) / 720)):=qV (by omega);have w6:vJJ .i64 ((-1) * (((dn x 6) / 720)))=((-1) * (((dn x 6) / 720))):=qV (by omega);have w7:vJJ .i64 (((1073741824 + ((-1) * (((dn x 2) / 2)))) + (1 * zX (up x 4) 24)) + ((-1) * (((dn x 6) / 720))))=(((1073741824 + ((-1) * (((dn x 2) / 2)))) + (1 * zX (up x 4) 24)) + ((-1) * (((dn x 6) / 720)))):=qV (by omega);have w8:vJJ .i64 (1 * zX (up x 8) 40320)=(1 * zX (up x 8) 40320):=qV (by omega);have w9:vJJ .i64 ((((1073741824 + ((-1) * (((dn x 2) / 2)))) + (1 * zX (up x 4) 24)) + ((-1) * (((dn x 6) / 720)))) + (1 * zX (up x 8) 40320))=((((1073741824 + ((-1) * (((dn x 2) / 2)))) + (1 * zX (up x 4) 24)) + ((-1) * (((dn x 6) / 720)))) + (1 * zX (up x 8) 40320)):=qV (by omega);simp only [w0,w1,w2,w3,w4,w5,w6,w7,w8,w9]
 try omega
end Ta
set_option maxRecDepth 100000 in
theorem uUJ (x:Int) (h:0≤x∧x≤8192) (w:World):Calls Tryz.prog 203 [.int .i64 x].toArray w (Rets (iv (qWZ x)) (w)) :=
 zZ (x:=.a (ivC (qWZ x))) (zQ (N:=60) (ps:=[.n .i64 x]) yJ zW (OrL.ok (l:=LTa9) zXG) ((by kernel_rfl:_=bif decide (0≤x∧x≤8192) then (bif pw (up x 2) then (bif pw (up x 6) then (bif pw (up x 10) then (bif pw (up x 4) then (bif pw (up x 8) then (bif iw (zQX x) then some (.v (.a (ivC (encI (zJD x) (zQX x)))),[])
 else none)
 else none)
 else none)
 else none)
 else none)
 else none)
 else none).trans (by
 have iL:iw (zJD x)=true:=iww _;have iU:iw (zQX x)=true:=iww _;rw [yVZ h] at iL ⊢;rw [yVQ h] at iU ⊢;simp only [vJQ h,kZI h,kXQ h,kXZ h,iL,iU,vYV,vZJ]
 rfl))) rfl rfl w
namespace Ta
def yZC (x:Int):Int:=(vJJ .i64 ((vJJ .i64 ((vJJ .i64 ((dn x 1) - zX (up x 3) 6)) + (dn x 5) / 120)) - zX (up x 7) 5040))
theorem jUA {x:Int} (h:0≤x∧x≤8192):yZC x=sinL x:=by
 have d1:=qKQ h 1;have d5:=qKQ h 5;have u3:=qYV h 3;have u7:=qYV h 7;have c3:=yX (r:=zX (up x 3) 6) rfl u3 (by decide);have c7:=yX (r:=zX (up x 7) 5040) rfl u7 (by decide);unfold yZC sinL;have w0:vJJ .i64 ((dn x 1) - zX (up x 3) 6)=((dn x 1) - zX (up x 3) 6):=qV (by omega);have w1:vJJ .i64 (((dn x 1) - zX (up x 3) 6) + (dn x 5) / 120)=(((dn x 1) - zX (up x 3) 6) + (dn x 5) / 120):=qV (by omega);have w2:vJJ .i64 ((((dn x 1) - zX (up x 3) 6) + (dn x 5) / 120) - zX (up x 7) 5040)=((((dn x 1) - zX (up x 3) 6) + (dn x 5) / 120) - zX (up x 7) 5040):=qV (by omega);simp only [w0,w1,w2]
 try omega
def yZB (x:Int):Int:=(vJJ .i64 ((vJJ .i64 ((vJJ .i64 ((vJJ .i64 ((up x 1) - (dn x 3) / 6)) + zX (up x 5) 120)) - (dn x 7) / 5040)) + zX (up x 9) 362880))
theorem jUH {x:Int} (h:0≤x∧x≤8192):yZB x=sinU x:=by
 have d3:=qKQ h 3;have d7:=qKQ h 7;have u1:=qYV h 1;have u5:=qYV h 5;have u9:=qYV h 9;have c5:=yX (r:=zX (up x 5) 120) rfl u5 (by decide);have c9:=yX (r:=zX (up x 9) 362880) rfl u9 (by decide);unfold yZB sinU;have w0:vJJ .i64 ((up x 1) - (dn x 3) / 6)=((up x 1) - (dn x 3) / 6):=qV (by omega);have w1:vJJ .i64 (((up x 1) - (dn x 3) / 6) + zX (up x 5) 120)=(((up x 1) - (dn x 3) / 6) + zX (up x 5) 120):=qV (by omega);have w2:vJJ .i64 ((((up x 1) - (dn x 3) / 6) + zX (up x 5) 120) - (dn x 7) / 5040)=((((up x 1) - (dn x 3) / 6) + zX (up x 5) 120) - (dn x 7) / 5040):=qV (by omega);have w3:vJJ .i64 (((((up x 1) - (dn x 3) / 6) + zX (up x 5) 120) - (dn x 7) / 5040) + zX (up x 9) 362880)=(((((up x 1) - (dn x 3) / 6) + zX (up x 5) 120) - (dn x 7) / 5040) + zX (up x 9) 362880):=qV (by omega);simp only [w0,w1,w2,w3]
 try omega
end Ta
set_option maxRecDepth 100000 in
theorem xXZ (x:Int) (h:0≤x∧x≤8192) (w:World):Calls Tryz.prog 192 [.int .i64 x].toArray w (Rets (iv (zGZ x)) (w)) :=
 zZ (x:=.a (ivC (zGZ x))) (zQ (N:=60) (ps:=[.n .i64 x]) yJ zW (OrL.ok (l:=LTa9) zXG) ((by kernel_rfl:_=bif decide (0≤x∧x≤8192) then (bif iw (up x 3) then (bif iw (dn x 5) then (bif iw (up x 7) then (bif iw (dn x 3) then (bif iw (up x 5) then (bif iw (dn x 7) then (bif iw (up x 9) then (bif (iw (yZB x) && iw (yZC x)) then some (.v (.a (ivC (encI (yZC x) (yZB x)))),[])
 else none)
 else none)
 else none)
 else none)
 else none)
 else none)
 else none)
 else none)
 else none).trans (by
 have iL:iw (yZC x)=true:=iww _;have iU:iw (yZB x)=true:=iww _;rw [jUA h] at iL ⊢;rw [jUH h] at iU ⊢;simp only [vJQ h,kZI h,kXQ h,kXZ h,iL,iU,vYV,vZJ]
 rfl))) rfl rfl w
namespace Ta
def qHX (x:Int):Int:=(vJJ .i64 ((vJJ .i64 ((vJJ .i64 ((vJJ .i64 ((vJJ .i64 (1073741824 - zX (up x 2) 2)) + (dn x 4) / 24)) - zX (up x 6) 720)) + (dn x 8) / 40320)) - zX (up x 10) 3628800))
theorem yUA {x:Int} (h:0≤x∧x≤8192):qHX x=cosL x:=by
 have d4:=qKQ h 4;have d8:=qKQ h 8;have u2:=qYV h 2;have u6:=qYV h 6;have u10:=qYV h 10;have c10:=yX (r:=zX (up x 10) 3628800) rfl u10 (by decide);have c2:=yX (r:=zX (up x 2) 2) rfl u2 (by decide);have c6:=yX (r:=zX (up x 6) 720) rfl u6 (by decide);unfold qHX cosL;have w0:vJJ .i64 (1073741824 - zX (up x 2) 2)=(1073741824 - zX (up x 2) 2):=qV (by omega);have w1:vJJ .i64 ((1073741824 - zX (up x 2) 2) + (dn x 4) / 24)=((1073741824 - zX (up x 2) 2) + (dn x 4) / 24):=qV (by omega);have w2:vJJ .i64 (((1073741824 - zX (up x 2) 2) + (dn x 4) / 24) - zX (up x 6) 720)=(((1073741824 - zX (up x 2) 2) + (dn x 4) / 24) - zX (up x 6) 720):=qV (by omega);have w3:vJJ .i64 ((((1073741824 - zX (up x 2) 2) + (dn x 4) / 24) - zX (up x 6) 720) + (dn x 8) / 40320)=((((1073741824 - zX (up x 2) 2) + (dn x 4) / 24) - zX (up x 6) 720) + (dn x 8) / 40320):=qV (by omega);have w4:vJJ .i64 (((((1073741824 - zX (up x 2) 2) + (dn x 4) / 24) - zX (up x 6) 720) + (dn x 8) / 40320) - zX (up x 10) 3628800)=(((((1073741824 - zX (up x 2) 2) + (dn x 4) / 24) - zX (up x 6) 720) + (dn x 8) / 40320) - zX (up x 10) 3628800):=qV (by omega);simp only [w0,w1,w2,w3,w4]
 try omega
def qHU (x:Int):Int:=(vJJ .i64 ((vJJ .i64 ((vJJ .i64 ((vJJ .i64 (1073741824 - (dn x 2) / 2)) + zX (up x 4) 24)) - (dn x 6) / 720)) + zX (up x 8) 40320))
theorem yUH {x:Int} (h:0≤x∧x≤8192):qHU x=cosU x:=by
 have d2:=qKQ h 2;have d6:=qKQ h 6;have u4:=qYV h 4;have u8:=qYV h 8;have c4:=yX (r:=zX (up x 4) 24) rfl u4 (by decide);have c8:=yX (r:=zX (up x 8) 40320) rfl u8 (by decide);unfold qHU cosU;have w0:vJJ .i64 (1073741824 - (dn x 2) / 2)=(1073741824 - (dn x 2) / 2):=qV (by omega);have w1:vJJ .i64 ((1073741824 - (dn x 2) / 2) + zX (up x 4) 24)=((1073741824 - (dn x 2) / 2) + zX (up x 4) 24):=qV (by omega);have w2:vJJ .i64 (((1073741824 - (dn x 2) / 2) + zX (up x 4) 24) - (dn x 6) / 720)=(((1073741824 - (dn x 2) / 2) + zX (up x 4) 24) - (dn x 6) / 720):=qV (by omega);have w3:vJJ .i64 ((((1073741824 - (dn x 2) / 2) + zX (up x 4) 24) - (dn x 6) / 720) + zX (up x 8) 40320)=((((1073741824 - (dn x 2) / 2) + zX (up x 4) 24) - (dn x 6) / 720) + zX (up x 8) 40320):=qV (by omega);simp only [w0,w1,w2,w3]
 try omega
end Ta
set_option maxRecDepth 100000 in
theorem uYU (x:Int) (h:0≤x∧x≤8192) (w:World):Calls Tryz.prog 193 [.int .i64 x].toArray w (Rets (iv (qWZ x)) (w)) :=
 zZ (x:=.a (ivC (qWZ x))) (zQ (N:=60) (ps:=[.n .i64 x]) yJ zW (OrL.ok (l:=LTa9) zXG) ((by kernel_rfl:_=bif decide (0≤x∧x≤8192) then (bif iw (up x 2) then (bif iw (dn x 4) then (bif iw (up x 6) then (bif iw (dn x 8) then (bif iw (up x 10) then (bif iw (dn x 2) then (bif iw (up x 4) then (bif iw (dn x 6) then (bif iw (up x 8) then (bif (iw (qHU x) && iw (qHX x)) then some (.v (.a (ivC (encI (qHX x) (qHU x)))),[])
 else none)
 else none)
 else none)
 else none)
 else none)
 else none)
 else none)
 else none)
 else none)
 else none)
 else none).trans (by
 have iL:iw (qHX x)=true:=iww _;have iU:iw (qHU x)=true:=iww _;rw [yUA h] at iL ⊢;rw [yUH h] at iU ⊢;simp only [vJQ h,kZI h,kXQ h,kXZ h,iL,iU,vYV,vZJ]
 rfl))) rfl rfl w
namespace Ta
noncomputable def yWY:List PV→Option (Bool × Ret):=fun ps=>match ps with
 | [.n .i64 x]=>some (decide (0≤x∧x≤8192),.v (.a (ivC (zGZ x))))
 | _=>none
theorem kJC:zJ Tryz.prog 202 yWY:=by
 intro ps r h;unfold yWY at h;split at h
 ·simp only [vQZ,vQY] at h;obtain ⟨hg,rfl⟩:=h
  try simp only [vQJ,decide_eq_true_eq] at hg
  exact qX (qW Tryz.func202 (by kernel_rfl) (by kernel_rfl)) rfl rfl (fun w=>fZI _ hg w)
 ·cases h
noncomputable def xKI:OrL:=(202,yWY) :: LTa9
theorem kVV:AllP (fun x:Nat × (List PV→Option (Bool × Ret))=>zJ Tryz.prog x.1 x.2) xKI:=⟨kJC,zXG⟩
noncomputable def zUK:List PV→Option (Bool × Ret):=fun ps=>match ps with
 | [.n .i64 x]=>some (decide (0≤x∧x≤8192),.v (.a (ivC (qWZ x))))
 | _=>none
theorem jYZ:zJ Tryz.prog 203 zUK:=by
 intro ps r h;unfold zUK at h;split at h
 ·simp only [vQZ,vQY] at h;obtain ⟨hg,rfl⟩:=h
  try simp only [vQJ,decide_eq_true_eq] at hg
  exact qX (qW Tryz.func203 (by kernel_rfl) (by kernel_rfl)) rfl rfl (fun w=>uUJ _ hg w)
 ·cases h
noncomputable def xKF:OrL:=(203,zUK) :: xKI
theorem kVW:AllP (fun x:Nat × (List PV→Option (Bool × Ret))=>zJ Tryz.prog x.1 x.2) xKF:=⟨jYZ,kVV⟩
noncomputable def yXD:List PV→Option (Bool × Ret):=fun ps=>match ps with
 | [.n .i64 x]=>some (decide (0≤x∧x≤8192),.v (.a (ivC (zGZ x))))
 | _=>none
theorem kYF:zJ Tryz.prog 192 yXD:=by
 intro ps r h;unfold yXD at h;split at h
 ·simp only [vQZ,vQY] at h;obtain ⟨hg,rfl⟩:=h
  try simp only [vQJ,decide_eq_true_eq] at hg
  exact qX (qW Tryz.func192 (by kernel_rfl) (by kernel_rfl)) rfl rfl (fun w=>xXZ _ hg w)
 ·cases h
noncomputable def xKE:OrL:=(192,yXD) :: xKF
theorem kVX:AllP (fun x:Nat × (List PV→Option (Bool × Ret))=>zJ Tryz.prog x.1 x.2) xKE:=⟨kYF,kVW⟩
noncomputable def zUY:List PV→Option (Bool × Ret):=fun ps=>match ps with
 | [.n .i64 x]=>some (decide (0≤x∧x≤8192),.v (.a (ivC (qWZ x))))
 | _=>none
theorem jZE:zJ Tryz.prog 193 zUY:=by
 intro ps r h;unfold zUY at h;split at h
 ·simp only [vQZ,vQY] at h;obtain ⟨hg,rfl⟩:=h
  try simp only [vQJ,decide_eq_true_eq] at hg
  exact qX (qW Tryz.func193 (by kernel_rfl) (by kernel_rfl)) rfl rfl (fun w=>uYU _ hg w)
 ·cases h
noncomputable def kVU:OrL:=(193,zUY) :: xKE
theorem yQA:AllP (fun x:Nat × (List PV→Option (Bool × Ret))=>zJ Tryz.prog x.1 x.2) kVU:=⟨jZE,kVX⟩
end Ta
set_option maxRecDepth 100000 in
theorem xJH (r:Int) (_:0≤r∧r≤16384) (w:World):Calls Tryz.prog 198 [.int .i64 r].toArray w (Rets (iv (qYI r)) (w)) :=
 zZ (x:=.a (ivC (qYI r))) (zQ (N:=60) (ps:=[.n .i64 r]) yJ zW (OrL.ok (l:=kVU) yQA) ((by kernel_rfl:_=bif (decide (r≤8192)) then (bif decide (0≤r∧r≤8192) then some (.v (.a (ivC (zGZ r))),[])
 else none)
 else bif decide (0≤(vJJ .i64 (16384 - r))∧(vJJ .i64 (16384 - r))≤8192) then some (.v (.a (ivC (qWZ (vJJ .i64 (16384 - r))))),[])
 else none).trans (by
 by_cases p:r≤8192
 ·simp only [vJQ p,vYV,vJQ (show 0≤r∧r≤8192 by omega)];unfold qYI;rw [vJQ p]; rfl
 ·have w0:vJJ .i64 (16384 - r)=16384 - r:=qV (by omega);simp only [w0,vYH p,vYG,vJQ (show 0≤16384 - r∧16384 - r≤8192 by omega),vYV];unfold qYI;rw [vYH p]; rfl))) rfl rfl w
set_option maxRecDepth 100000 in
theorem kZB (r:Int) (_:0≤r∧r≤16384) (w:World):Calls Tryz.prog 188 [.int .i64 r].toArray w (Rets (iv (qYI r)) (w)) :=
 zZ (x:=.a (ivC (qYI r))) (zQ (N:=60) (ps:=[.n .i64 r]) yJ zW (OrL.ok (l:=kVU) yQA) ((by kernel_rfl:_=bif (decide (r≤8192)) then (bif decide (0≤r∧r≤8192) then some (.v (.a (ivC (zGZ r))),[])
 else none)
 else bif decide (0≤(vJJ .i64 (16384 - r))∧(vJJ .i64 (16384 - r))≤8192) then some (.v (.a (ivC (qWZ (vJJ .i64 (16384 - r))))),[])
 else none).trans (by
 by_cases p:r≤8192
 ·simp only [vJQ p,vYV,vJQ (show 0≤r∧r≤8192 by omega)];unfold qYI;rw [vJQ p]; rfl
 ·have w0:vJJ .i64 (16384 - r)=16384 - r:=qV (by omega);simp only [w0,vYH p,vYG,vJQ (show 0≤16384 - r∧16384 - r≤8192 by omega),vYV];unfold qYI;rw [vYH p]; rfl))) rfl rfl w
namespace Ta
noncomputable def zHX:List PV→Option (Bool × Ret):=fun ps=>match ps with
 | [.n .i64 r]=>some (decide (0≤r∧r≤16384),.v (.a (ivC (qYI r))))
 | _=>none
theorem jXF:zJ Tryz.prog 198 zHX:=by
 intro ps r h;unfold zHX at h;split at h
 ·simp only [vQZ,vQY] at h;obtain ⟨hg,rfl⟩:=h
  try simp only [vQJ,decide_eq_true_eq] at hg
  exact qX (qW Tryz.func198 (by kernel_rfl) (by kernel_rfl)) rfl rfl (fun w=>xJH _ hg w)
 ·cases h
noncomputable def xKD:OrL:=(198,zHX) :: kVU
theorem kVK:AllP (fun x:Nat × (List PV→Option (Bool × Ret))=>zJ Tryz.prog x.1 x.2) xKD:=⟨jXF,yQA⟩
noncomputable def zZZ:List PV→Option (Bool × Ret):=fun ps=>match ps with
 | [.n .i64 r]=>some (decide (0≤r∧r≤16384),.v (.a (ivC (qYI r))))
 | _=>none
theorem yUL:zJ Tryz.prog 188 zZZ:=by
 intro ps r h;unfold zZZ at h;split at h
 ·simp only [vQZ,vQY] at h;obtain ⟨hg,rfl⟩:=h
  try simp only [vQJ,decide_eq_true_eq] at hg
  exact qX (qW Tryz.func188 (by kernel_rfl) (by kernel_rfl)) rfl rfl (fun w=>kZB _ hg w)
 ·cases h
noncomputable def xKC:OrL:=(188,zZZ) :: xKD
theorem kVJ:AllP (fun x:Nat × (List PV→Option (Bool × Ret))=>zJ Tryz.prog x.1 x.2) xKC:=⟨yUL,kVK⟩
noncomputable def jWG:List PV→Option (Bool × Ret):=fun ps=>match ps with
 | [.n .i64 a]=>some (true,.v (.n .i64 ((a % 65536))))
 | _=>none
theorem uJB:zJ Tryz.prog 197 jWG:=by
 intro ps r h;unfold jWG at h;split at h
 ·simp only [vQZ,vQY] at h;obtain ⟨hg,rfl⟩:=h;exact qX (qW Tryz.func197 (by kernel_rfl) (by kernel_rfl)) rfl rfl (fun w=>aMod _ w)
 ·cases h
noncomputable def xKB:OrL:=(197,jWG) :: xKC
theorem kVY:AllP (fun x:Nat × (List PV→Option (Bool × Ret))=>zJ Tryz.prog x.1 x.2) xKB:=⟨uJB,kVJ⟩
noncomputable def jWY:List PV→Option (Bool × Ret):=fun ps=>match ps with
 | [.n .i64 a]=>some (true,.v (.n .i64 ((a % 65536))))
 | _=>none
theorem uYL:zJ Tryz.prog 187 jWY:=by
 intro ps r h;unfold jWY at h;split at h
 ·simp only [vQZ,vQY] at h;obtain ⟨hg,rfl⟩:=h;exact qX (qW Tryz.func187 (by kernel_rfl) (by kernel_rfl)) rfl rfl (fun w=>rMod _ w)
 ·cases h
noncomputable def xKA:OrL:=(187,jWY) :: xKB
theorem kVZ:AllP (fun x:Nat × (List PV→Option (Bool × Ret))=>zJ Tryz.prog x.1 x.2) xKA:=⟨uYL,kVY⟩
noncomputable def o_iNeg:List PV→Option (Bool × Ret):=fun ps=>match ps with
 | [.a a']=>(ivD a').bind fun a=>some (true,.v (.a (ivC (Iv.neg a))))
 | _=>none
theorem ok_iNeg:zJ Tryz.prog 184 o_iNeg:=by
 intro ps r h;unfold o_iNeg at h;split at h
 ·simp only [vQQ,vQZ,vQY] at h;obtain ⟨a,ha,hg,rfl⟩:=h;rw [qQE ha];exact qX (qW Tryz.func184 (by kernel_rfl) (by kernel_rfl)) rfl rfl (fun w=>iNeg _ _ w)
 ·cases h
noncomputable def xKH:OrL:=(184,o_iNeg) :: xKA
theorem kVQ:AllP (fun x:Nat × (List PV→Option (Bool × Ret))=>zJ Tryz.prog x.1 x.2) xKH:=⟨ok_iNeg,kVZ⟩
noncomputable def o_rNeg:List PV→Option (Bool × Ret):=fun ps=>match ps with
 | [.a a']=>(ivD a').bind fun a=>some (true,.v (.a (ivC (Iv.neg a))))
 | _=>none
theorem ok_rNeg:zJ Tryz.prog 171 o_rNeg:=by
 intro ps r h;unfold o_rNeg at h;split at h
 ·simp only [vQQ,vQZ,vQY] at h;obtain ⟨a,ha,hg,rfl⟩:=h;rw [qQE ha];exact qX (qW Tryz.func171 (by kernel_rfl) (by kernel_rfl)) rfl rfl (fun w=>rNeg _ _ w)
 ·cases h
noncomputable def kWL:OrL:=(171,o_rNeg) :: xKH
theorem yQH:AllP (fun x:Nat × (List PV→Option (Bool × Ret))=>zJ Tryz.prog x.1 x.2) kWL:=⟨ok_rNeg,kVQ⟩
end Ta
set_option maxRecDepth 100000 in
theorem aSin (a:Int) (w:World):Calls Tryz.prog 191 [.int .i64 a].toArray w (Rets (iv (sinI a)) (w)) :=
 zZ (x:=.a (ivC (sinI a))) (zQ (N:=60) (ps:=[.n .i64 a]) yJ zW (OrL.ok (l:=kWL) yQH) ((by kernel_rfl:_=bif (decide ((vJJ .i64 ((a % 65536).tdiv 16384))=0)) then (bif decide (0≤((a % 65536).tmod 16384)∧((a % 65536).tmod 16384)≤16384) then some (.v (.a (ivC (qYI ((a % 65536).tmod 16384)))),[])
 else none)
 else bif (decide ((vJJ .i64 ((a % 65536).tdiv 16384))=1)) then (bif decide (0≤(vJJ .i64 (16384 - ((a % 65536).tmod 16384)))∧(vJJ .i64 (16384 - ((a % 65536).tmod 16384)))≤16384) then some (.v (.a (ivC (qYI (vJJ .i64 (16384 - ((a % 65536).tmod 16384)))))),[])
 else none)
 else bif (decide ((vJJ .i64 ((a % 65536).tdiv 16384))=2)) then (bif decide (0≤((a % 65536).tmod 16384)∧((a % 65536).tmod 16384)≤16384) then some (.v (.a (ivC (Iv.neg (qYI ((a % 65536).tmod 16384))))),[])
 else none)
 else bif decide (0≤(vJJ .i64 (16384 - ((a % 65536).tmod 16384)))∧(vJJ .i64 (16384 - ((a % 65536).tmod 16384)))≤16384) then some (.v (.a (ivC (Iv.neg (qYI (vJJ .i64 (16384 - ((a % 65536).tmod 16384))))))),[])
 else none).trans (by
 have ht:(a % 65536).tdiv 16384=a % 65536 / 16384:=tdnn (by omega);have hm:(a % 65536).tmod 16384=a % 65536 % 16384:=Int.tmod_eq_emod_of_nonneg (by omega);have w1:vJJ .i64 (a % 65536 % 16384)=a % 65536 % 16384:=qV (by omega);have w2:vJJ .i64 (a % 65536 / 16384)=a % 65536 / 16384:=qV (by omega);have w3:vJJ .i64 (16384 - a % 65536 % 16384)=16384 - a % 65536 % 16384:=qV (by omega);simp only [ht,hm,w1,w2,w3,vJQ (show 0≤a % 65536 % 16384∧a % 65536 % 16384≤16384 by omega),vJQ (show 0≤16384 - a % 65536 % 16384∧16384 - a % 65536 % 16384≤16384 by omega),vYV];unfold sinI sinM;cases decide (a % 65536 / 16384=0) <;> cases decide (a % 65536 / 16384=1) <;> cases decide (a % 65536 / 16384=2) <;> rfl))) rfl rfl w
set_option maxRecDepth 100000 in
theorem rSin (a:Int) (w:World):Calls Tryz.prog 179 [.int .i64 a].toArray w (Rets (iv (sinI a)) (w)) :=
 zZ (x:=.a (ivC (sinI a))) (zQ (N:=60) (ps:=[.n .i64 a]) yJ zW (OrL.ok (l:=kWL) yQH) ((by kernel_rfl:_=bif (decide ((vJJ .i64 ((a % 65536).tdiv 16384))=0)) then (bif decide (0≤((a % 65536).tmod 16384)∧((a % 65536).tmod 16384)≤16384) then some (.v (.a (ivC (qYI ((a % 65536).tmod 16384)))),[])
 else none)
 else bif (decide ((vJJ .i64 ((a % 65536).tdiv 16384))=1)) then (bif decide (0≤(vJJ .i64 (16384 - ((a % 65536).tmod 16384)))∧(vJJ .i64 (16384 - ((a % 65536).tmod 16384)))≤16384) then some (.v (.a (ivC (qYI (vJJ .i64 (16384 - ((a % 65536).tmod 16384)))))),[])
 else none)
 else bif (decide ((vJJ .i64 ((a % 65536).tdiv 16384))=2)) then (bif decide (0≤((a % 65536).tmod 16384)∧((a % 65536).tmod 16384)≤16384) then some (.v (.a (ivC (Iv.neg (qYI ((a % 65536).tmod 16384))))),[])
 else none)
 else bif decide (0≤(vJJ .i64 (16384 - ((a % 65536).tmod 16384)))∧(vJJ .i64 (16384 - ((a % 65536).tmod 16384)))≤16384) then some (.v (.a (ivC (Iv.neg (qYI (vJJ .i64 (16384 - ((a % 65536).tmod 16384))))))),[])
 else none).trans (by
 have ht:(a % 65536).tdiv 16384=a % 65536 / 16384:=tdnn (by omega);have hm:(a % 65536).tmod 16384=a % 65536 % 16384:=Int.tmod_eq_emod_of_nonneg (by omega);have w1:vJJ .i64 (a % 65536 % 16384)=a % 65536 % 16384:=qV (by omega);have w2:vJJ .i64 (a % 65536 / 16384)=a % 65536 / 16384:=qV (by omega);have w3:vJJ .i64 (16384 - a % 65536 % 16384)=16384 - a % 65536 % 16384:=qV (by omega);simp only [ht,hm,w1,w2,w3,vJQ (show 0≤a % 65536 % 16384∧a % 65536 % 16384≤16384 by omega),vJQ (show 0≤16384 - a % 65536 % 16384∧16384 - a % 65536 % 16384≤16384 by omega),vYV];unfold sinI sinM;cases decide (a % 65536 / 16384=0) <;> cases decide (a % 65536 / 16384=1) <;> cases decide (a % 65536 / 16384=2) <;> rfl))) rfl rfl w
namespace Ta
noncomputable def jWW:List PV→Option (Bool × Ret):=fun ps=>match ps with
 | [.n .i64 a]=>some (true,.v (.a (ivC (sinI a))))
 | _=>none
theorem uJH:zJ Tryz.prog 191 jWW:=by
 intro ps r h;unfold jWW at h;split at h
 ·simp only [vQZ,vQY] at h;obtain ⟨hg,rfl⟩:=h;exact qX (qW Tryz.func191 (by kernel_rfl) (by kernel_rfl)) rfl rfl (fun w=>aSin _ w)
 ·cases h
noncomputable def xKG:OrL:=(191,jWW) :: kWL
theorem kWI:AllP (fun x:Nat × (List PV→Option (Bool × Ret))=>zJ Tryz.prog x.1 x.2) xKG:=⟨uJH,yQH⟩
noncomputable def jXL:List PV→Option (Bool × Ret):=fun ps=>match ps with
 | [.n .i64 a]=>some (true,.v (.a (ivC (sinI a))))
 | _=>none
theorem uYE:zJ Tryz.prog 179 jXL:=by
 intro ps r h;unfold jXL at h;split at h
 ·simp only [vQZ,vQY] at h;obtain ⟨hg,rfl⟩:=h;exact qX (qW Tryz.func179 (by kernel_rfl) (by kernel_rfl)) rfl rfl (fun w=>rSin _ w)
 ·cases h
noncomputable def kWF:OrL:=(179,jXL) :: xKG
theorem yQG:AllP (fun x:Nat × (List PV→Option (Bool × Ret))=>zJ Tryz.prog x.1 x.2) kWF:=⟨uYE,kWI⟩
end Ta
set_option maxRecDepth 100000 in
theorem aCos (a:Int) (w:World):Calls Tryz.prog 190 [.int .i64 a].toArray w (Rets (iv (cosI a)) (w)) :=
 zZ (x:=.a (ivC (cosI a))) (zQ (N:=60) (ps:=[.n .i64 a]) yJ zW (OrL.ok (l:=kWF) yQG) ((by kernel_rfl:_=some (.v (.a (ivC (sinI (vJJ .i64 ((a % 65536) + 16384))))),[])).trans (by
 rw [qV (show -9223372036854775808≤a % 65536 + 16384∧a % 65536 + 16384≤9223372036854775807 by omega)]
 rfl))) rfl rfl w
set_option maxRecDepth 100000 in
theorem rCos (a:Int) (w:World):Calls Tryz.prog 178 [.int .i64 a].toArray w (Rets (iv (cosI a)) (w)) :=
 zZ (x:=.a (ivC (cosI a))) (zQ (N:=60) (ps:=[.n .i64 a]) yJ zW (OrL.ok (l:=kWF) yQG) ((by kernel_rfl:_=some (.v (.a (ivC (sinI (vJJ .i64 ((a % 65536) + 16384))))),[])).trans (by
 rw [qV (show -9223372036854775808≤a % 65536 + 16384∧a % 65536 + 16384≤9223372036854775807 by omega)]
 rfl))) rfl rfl w
namespace Ta
noncomputable def jWA:List PV→Option (Bool × Ret):=fun ps=>match ps with
 | [.n .i64 a]=>some (true,.v (.a (ivC (cosI a))))
 | _=>none
theorem uJD:zJ Tryz.prog 190 jWA:=by
 intro ps r h;unfold jWA at h;split at h
 ·simp only [vQZ,vQY] at h;obtain ⟨hg,rfl⟩:=h;exact qX (qW Tryz.func190 (by kernel_rfl) (by kernel_rfl)) rfl rfl (fun w=>aCos _ w)
 ·cases h
noncomputable def xKV:OrL:=(190,jWA) :: kWF
theorem kWE:AllP (fun x:Nat × (List PV→Option (Bool × Ret))=>zJ Tryz.prog x.1 x.2) xKV:=⟨uJD,yQG⟩
noncomputable def jWK:List PV→Option (Bool × Ret):=fun ps=>match ps with
 | [.n .i64 a]=>some (true,.v (.a (ivC (cosI a))))
 | _=>none
theorem uJZ:zJ Tryz.prog 178 jWK:=by
 intro ps r h;unfold jWK at h;split at h
 ·simp only [vQZ,vQY] at h;obtain ⟨hg,rfl⟩:=h;exact qX (qW Tryz.func178 (by kernel_rfl) (by kernel_rfl)) rfl rfl (fun w=>rCos _ w)
 ·cases h
noncomputable def xKW:OrL:=(178,jWK) :: xKV
theorem kWD:AllP (fun x:Nat × (List PV→Option (Bool × Ret))=>zJ Tryz.prog x.1 x.2) xKW:=⟨uJZ,kWE⟩
noncomputable def xKX:OrL:=(135,Tn.o_iValid) :: xKW
theorem kWC:AllP (fun x:Nat × (List PV→Option (Bool × Ret))=>zJ Tryz.prog x.1 x.2) xKX:=⟨Tn.ok_iValid,kWD⟩
noncomputable def yWZ:List PV→Option (Bool × Ret):=fun ps=>match ps with
 | [.a a',.a b']=>(ivD a').bind fun a=>(ivD b').bind fun b=>some (true,.v (.a (ivC (Iv.hull a b))))
 | _=>none
theorem kJX:zJ Tryz.prog 195 yWZ:=by
 intro ps r h;unfold yWZ at h;split at h
 ·simp only [vQQ,vQZ,vQY] at h;obtain ⟨a,ha,b,hb,hg,rfl⟩:=h;rw [qQE ha];rw [qQE hb];exact qX (qW Tryz.func195 (by kernel_rfl) (by kernel_rfl)) rfl rfl (fun w=>fZK _ _ _ _ w)
 ·cases h
noncomputable def xKU:OrL:=(195,yWZ) :: xKX
theorem kWB:AllP (fun x:Nat × (List PV→Option (Bool × Ret))=>zJ Tryz.prog x.1 x.2) xKU:=⟨kJX,kWC⟩
noncomputable def o_iOf:List PV→Option (Bool × Ret):=fun ps=>match ps with
 | [.n .i64 x]=>some (true,.v (.a (ivC (Iv.of x))))
 | _=>none
theorem ok_iOf:zJ Tryz.prog 122 o_iOf:=by
 intro ps r h;unfold o_iOf at h;split at h
 ·simp only [vQZ,vQY] at h;obtain ⟨hg,rfl⟩:=h;exact qX (qW Tryz.func122 (by kernel_rfl) (by kernel_rfl)) rfl rfl (fun w=>iOf _ w)
 ·cases h
noncomputable def xKK:OrL:=(122,o_iOf) :: xKU
theorem kWA:AllP (fun x:Nat × (List PV→Option (Bool × Ret))=>zJ Tryz.prog x.1 x.2) xKK:=⟨ok_iOf,kWB⟩
noncomputable def xKJ:OrL:=(148,Tn.o_rValid) :: xKK
theorem kWH:AllP (fun x:Nat × (List PV→Option (Bool × Ret))=>zJ Tryz.prog x.1 x.2) xKJ:=⟨Tn.ok_rValid,kWA⟩
noncomputable def yXE:List PV→Option (Bool × Ret):=fun ps=>match ps with
 | [.a a',.a b']=>(ivD a').bind fun a=>(ivD b').bind fun b=>some (true,.v (.a (ivC (Iv.hull a b))))
 | _=>none
theorem kYI:zJ Tryz.prog 185 yXE:=by
 intro ps r h;unfold yXE at h;split at h
 ·simp only [vQQ,vQZ,vQY] at h;obtain ⟨a,ha,b,hb,hg,rfl⟩:=h;rw [qQE ha];rw [qQE hb];exact qX (qW Tryz.func185 (by kernel_rfl) (by kernel_rfl)) rfl rfl (fun w=>xXY _ _ _ _ w)
 ·cases h
noncomputable def xKY:OrL:=(185,yXE) :: xKJ
theorem kWG:AllP (fun x:Nat × (List PV→Option (Bool × Ret))=>zJ Tryz.prog x.1 x.2) xKY:=⟨kYI,kWH⟩
noncomputable def o_rOf:List PV→Option (Bool × Ret):=fun ps=>match ps with
 | [.n .i64 x]=>some (true,.v (.a (ivC (Iv.of x))))
 | _=>none
theorem ok_rOf:zJ Tryz.prog 34 o_rOf:=by
 intro ps r h;unfold o_rOf at h;split at h
 ·simp only [vQZ,vQY] at h;obtain ⟨hg,rfl⟩:=h;exact qX (qW Tryz.func34 (by kernel_rfl) (by kernel_rfl)) rfl rfl (fun w=>rOf _ w)
 ·cases h
noncomputable def xKZ:OrL:=(34,o_rOf) :: xKY
theorem kWV:AllP (fun x:Nat × (List PV→Option (Bool × Ret))=>zJ Tryz.prog x.1 x.2) xKZ:=⟨ok_rOf,kWG⟩
noncomputable def zHJ:List PV→Option (Bool × Ret):=fun ps=>match ps with
 | [.a a']=>(ivD a').bind fun a=>some (true,.v (.n .i64 (Iv.width a)))
 | _=>none
theorem jXH:zJ Tryz.prog 194 zHJ:=by
 intro ps r h;unfold zHJ at h;split at h
 ·simp only [vQQ,vQZ,vQY] at h;obtain ⟨a,ha,hg,rfl⟩:=h;rw [qQE ha];exact qX (qW Tryz.func194 (by kernel_rfl) (by kernel_rfl)) rfl rfl (fun w=>xZE _ _ w)
 ·cases h
noncomputable def xKQ:OrL:=(194,zHJ) :: xKZ
theorem kWW:AllP (fun x:Nat × (List PV→Option (Bool × Ret))=>zJ Tryz.prog x.1 x.2) xKQ:=⟨jXH,kWV⟩
noncomputable def zHU:List PV→Option (Bool × Ret):=fun ps=>match ps with
 | [.a a',.n .i64 c]=>(ivD a').bind fun a=>some (decide (0≤c∧c < 65536) && Iv.valid a,.v (.b (kH a c)))
 | _=>none
theorem jXE:zJ Tryz.prog 196 zHU:=by
 intro ps r h;unfold zHU at h;split at h
 ·simp only [vQQ,vQZ,vQY] at h;obtain ⟨a,ha,hg,rfl⟩:=h;rw [qQE ha]
  try simp only [vQJ,decide_eq_true_eq] at hg
  exact qX (qW Tryz.func196 (by kernel_rfl) (by kernel_rfl)) rfl rfl (fun w=>xJG _ _ _ hg.2 hg.1 w)
 ·cases h
noncomputable def xJL:OrL:=(196,zHU) :: xKQ
theorem kWX:AllP (fun x:Nat × (List PV→Option (Bool × Ret))=>zJ Tryz.prog x.1 x.2) xJL:=⟨jXE,kWW⟩
noncomputable def zGC:List PV→Option (Bool × Ret):=fun ps=>match ps with
 | [.a a',.n .i64 c]=>(ivD a').bind fun a=>some (decide (0≤c∧c < 65536) && Iv.valid a,.v (.b (kH a c)))
 | _=>none
theorem jXZ:zJ Tryz.prog 186 zGC:=by
 intro ps r h;unfold zGC at h;split at h
 ·simp only [vQQ,vQZ,vQY] at h;obtain ⟨a,ha,hg,rfl⟩:=h;rw [qQE ha]
  try simp only [vQJ,decide_eq_true_eq] at hg
  exact qX (qW Tryz.func186 (by kernel_rfl) (by kernel_rfl)) rfl rfl (fun w=>uGQ _ _ _ hg.2 hg.1 w)
 ·cases h
noncomputable def jHW:OrL:=(186,zGC) :: xJL
theorem zJF:AllP (fun x:Nat × (List PV→Option (Bool × Ret))=>zJ Tryz.prog x.1 x.2) jHW:=⟨jXZ,kWX⟩
end Ta
set_option maxRecDepth 100000 in
theorem kXI (a0 a1:Int) (w:World):Calls Tryz.prog 183 [.agg #[.int .i64 a0,.int .i64 a1]].toArray w (Rets (iv (kK (⟨a0,a1⟩:Iv))) (w)) :=
 zZ (x:=.a (ivC (kK ⟨a0,a1⟩))) (zQ (N:=60) (ps:=[.a [.n .i64 a0,.n .i64 a1]]) yJ zW (OrL.ok (l:=jHW) zJF) ((by kernel_rfl:_=bif Iv.valid (Iv.mk a0 a1) then (bif (decide (65536≤Iv.width (Iv.mk a0 a1))) then some (.v (.a [.n .i64 (-65536),.n .i64 65536]),[])
 else bif Iv.valid (Iv.mk a0 a1) then (bif kH (Iv.mk a0 a1) 16384 then (bif Iv.valid (Iv.mk a0 a1) then (bif kH (Iv.mk a0 a1) 49152 then some (.v (.a (ivC (Iv.hull (Iv.hull (Iv.hull (sinI a0) (sinI a1)) (Iv.of 65536)) (Iv.of (-65536))))),[])
 else some (.v (.a (ivC (Iv.hull (Iv.hull (sinI a0) (sinI a1)) (Iv.of 65536)))),[]))
 else none)
 else bif Iv.valid (Iv.mk a0 a1) then (bif kH (Iv.mk a0 a1) 49152 then some (.v (.a (ivC (Iv.hull (Iv.hull (sinI a0) (sinI a1)) (Iv.of (-65536))))),[])
 else some (.v (.a (ivC (Iv.hull (sinI a0) (sinI a1)))),[]))
 else none)
 else none)
 else some (.v (.a [.n .i64 0,.n .i64 0]),[])).trans (by
 have e:kK ⟨a0,a1⟩=bif !Iv.valid (Iv.mk a0 a1) then ⟨0,0⟩ else bif decide (65536≤a1 - a0) then ⟨-65536,65536⟩ else bif kH (Iv.mk a0 a1) 49152 then Iv.hull (bif kH (Iv.mk a0 a1) 16384 then Iv.hull (Iv.hull (sinI a0) (sinI a1)) (Iv.of 65536) else Iv.hull (sinI a0) (sinI a1)) (Iv.of (-65536)) else (bif kH (Iv.mk a0 a1) 16384 then Iv.hull (Iv.hull (sinI a0) (sinI a1)) (Iv.of 65536) else Iv.hull (sinI a0) (sinI a1)):=rfl
 rw [e];cases hv:Iv.valid (Iv.mk a0 a1) with
 | false=>rfl
 | true =>
  have hb:=qQJ hv;have hw:Iv.width (Iv.mk a0 a1)=a1 - a0:=by unfold Iv.width; rw [hv]; rfl
  rw [hw];cases decide (65536≤a1 - a0) <;> cases kH (Iv.mk a0 a1) 16384 <;> cases kH (Iv.mk a0 a1) 49152 <;> rfl))) rfl rfl w
set_option maxRecDepth 100000 in
theorem kXL (a0 a1:Int) (w:World):Calls Tryz.prog 182 [.agg #[.int .i64 a0,.int .i64 a1]].toArray w (Rets (iv (kU (⟨a0,a1⟩:Iv))) (w)) :=
 zZ (x:=.a (ivC (kU ⟨a0,a1⟩))) (zQ (N:=60) (ps:=[.a [.n .i64 a0,.n .i64 a1]]) yJ zW (OrL.ok (l:=jHW) zJF) ((by kernel_rfl:_=bif Iv.valid (Iv.mk a0 a1) then (bif (decide (65536≤Iv.width (Iv.mk a0 a1))) then some (.v (.a [.n .i64 (-65536),.n .i64 65536]),[])
 else bif Iv.valid (Iv.mk a0 a1) then (bif kH (Iv.mk a0 a1) 0 then (bif Iv.valid (Iv.mk a0 a1) then (bif kH (Iv.mk a0 a1) 32768 then some (.v (.a (ivC (Iv.hull (Iv.hull (Iv.hull (cosI a0) (cosI a1)) (Iv.of 65536)) (Iv.of (-65536))))),[])
 else some (.v (.a (ivC (Iv.hull (Iv.hull (cosI a0) (cosI a1)) (Iv.of 65536)))),[]))
 else none)
 else bif Iv.valid (Iv.mk a0 a1) then (bif kH (Iv.mk a0 a1) 32768 then some (.v (.a (ivC (Iv.hull (Iv.hull (cosI a0) (cosI a1)) (Iv.of (-65536))))),[])
 else some (.v (.a (ivC (Iv.hull (cosI a0) (cosI a1)))),[]))
 else none)
 else none)
 else some (.v (.a [.n .i64 0,.n .i64 0]),[])).trans (by
 have e:kU ⟨a0,a1⟩=bif !Iv.valid (Iv.mk a0 a1) then ⟨0,0⟩ else bif decide (65536≤a1 - a0) then ⟨-65536,65536⟩ else bif kH (Iv.mk a0 a1) 32768 then Iv.hull (bif kH (Iv.mk a0 a1) 0 then Iv.hull (Iv.hull (cosI a0) (cosI a1)) (Iv.of 65536) else Iv.hull (cosI a0) (cosI a1)) (Iv.of (-65536)) else (bif kH (Iv.mk a0 a1) 0 then Iv.hull (Iv.hull (cosI a0) (cosI a1)) (Iv.of 65536) else Iv.hull (cosI a0) (cosI a1)):=rfl
 rw [e];cases hv:Iv.valid (Iv.mk a0 a1) with
 | false=>rfl
 | true =>
  have hb:=qQJ hv;have hw:Iv.width (Iv.mk a0 a1)=a1 - a0:=by unfold Iv.width; rw [hv]; rfl
  rw [hw];cases decide (65536≤a1 - a0) <;> cases kH (Iv.mk a0 a1) 0 <;> cases kH (Iv.mk a0 a1) 32768 <;> rfl))) rfl rfl w
set_option maxRecDepth 100000 in
theorem kZA (a0 a1:Int) (w:World):Calls Tryz.prog 170 [.agg #[.int .i64 a0,.int .i64 a1]].toArray w (Rets (iv (kK (⟨a0,a1⟩:Iv))) (w)) :=
 zZ (x:=.a (ivC (kK ⟨a0,a1⟩))) (zQ (N:=60) (ps:=[.a [.n .i64 a0,.n .i64 a1]]) yJ zW (OrL.ok (l:=jHW) zJF) ((by kernel_rfl:_=bif Iv.valid (Iv.mk a0 a1) then (bif (decide (65536≤(vJJ .i64 (a1 - a0)))) then some (.v (.a [.n .i64 (-65536),.n .i64 65536]),[])
 else bif Iv.valid (Iv.mk a0 a1) then (bif kH (Iv.mk a0 a1) 16384 then (bif Iv.valid (Iv.mk a0 a1) then (bif kH (Iv.mk a0 a1) 49152 then some (.v (.a (ivC (Iv.hull (Iv.hull (Iv.hull (sinI a0) (sinI a1)) (Iv.of 65536)) (Iv.of (-65536))))),[])
 else some (.v (.a (ivC (Iv.hull (Iv.hull (sinI a0) (sinI a1)) (Iv.of 65536)))),[]))
 else none)
 else bif Iv.valid (Iv.mk a0 a1) then (bif kH (Iv.mk a0 a1) 49152 then some (.v (.a (ivC (Iv.hull (Iv.hull (sinI a0) (sinI a1)) (Iv.of (-65536))))),[])
 else some (.v (.a (ivC (Iv.hull (sinI a0) (sinI a1)))),[]))
 else none)
 else none)
 else some (.v (.a [.n .i64 0,.n .i64 0]),[])).trans (by
 have e:kK ⟨a0,a1⟩=bif !Iv.valid (Iv.mk a0 a1) then ⟨0,0⟩ else bif decide (65536≤a1 - a0) then ⟨-65536,65536⟩ else bif kH (Iv.mk a0 a1) 49152 then Iv.hull (bif kH (Iv.mk a0 a1) 16384 then Iv.hull (Iv.hull (sinI a0) (sinI a1)) (Iv.of 65536) else Iv.hull (sinI a0) (sinI a1)) (Iv.of (-65536)) else (bif kH (Iv.mk a0 a1) 16384 then Iv.hull (Iv.hull (sinI a0) (sinI a1)) (Iv.of 65536) else Iv.hull (sinI a0) (sinI a1)):=rfl
 rw [e];cases hv:Iv.valid (Iv.mk a0 a1) with
 | false=>rfl
 | true =>
  have hb:=qQJ hv;have hw:vJJ .i64 (a1 - a0)=a1 - a0:=qV (by omega);rw [hw];cases decide (65536≤a1 - a0) <;> cases kH (Iv.mk a0 a1) 16384 <;> cases kH (Iv.mk a0 a1) 49152 <;> rfl))) rfl rfl w
set_option maxRecDepth 100000 in
theorem kZC (a0 a1:Int) (w:World):Calls Tryz.prog 169 [.agg #[.int .i64 a0,.int .i64 a1]].toArray w (Rets (iv (kU (⟨a0,a1⟩:Iv))) (w)) :=
 zZ (x:=.a (ivC (kU ⟨a0,a1⟩))) (zQ (N:=60) (ps:=[.a [.n .i64 a0,.n .i64 a1]]) yJ zW (OrL.ok (l:=jHW) zJF) ((by kernel_rfl:_=bif Iv.valid (Iv.mk a0 a1) then (bif (decide (65536≤(vJJ .i64 (a1 - a0)))) then some (.v (.a [.n .i64 (-65536),.n .i64 65536]),[])
 else bif Iv.valid (Iv.mk a0 a1) then (bif kH (Iv.mk a0 a1) 0 then (bif Iv.valid (Iv.mk a0 a1) then (bif kH (Iv.mk a0 a1) 32768 then some (.v (.a (ivC (Iv.hull (Iv.hull (Iv.hull (cosI a0) (cosI a1)) (Iv.of 65536)) (Iv.of (-65536))))),[])
 else some (.v (.a (ivC (Iv.hull (Iv.hull (cosI a0) (cosI a1)) (Iv.of 65536)))),[]))
 else none)
 else bif Iv.valid (Iv.mk a0 a1) then (bif kH (Iv.mk a0 a1) 32768 then some (.v (.a (ivC (Iv.hull (Iv.hull (cosI a0) (cosI a1)) (Iv.of (-65536))))),[])
 else some (.v (.a (ivC (Iv.hull (cosI a0) (cosI a1)))),[]))
 else none)
 else none)
 else some (.v (.a [.n .i64 0,.n .i64 0]),[])).trans (by
 have e:kU ⟨a0,a1⟩=bif !Iv.valid (Iv.mk a0 a1) then ⟨0,0⟩ else bif decide (65536≤a1 - a0) then ⟨-65536,65536⟩ else bif kH (Iv.mk a0 a1) 32768 then Iv.hull (bif kH (Iv.mk a0 a1) 0 then Iv.hull (Iv.hull (cosI a0) (cosI a1)) (Iv.of 65536) else Iv.hull (cosI a0) (cosI a1)) (Iv.of (-65536)) else (bif kH (Iv.mk a0 a1) 0 then Iv.hull (Iv.hull (cosI a0) (cosI a1)) (Iv.of 65536) else Iv.hull (cosI a0) (cosI a1)):=rfl
 rw [e];cases hv:Iv.valid (Iv.mk a0 a1) with
 | false=>rfl
 | true =>
  have hb:=qQJ hv;have hw:vJJ .i64 (a1 - a0)=a1 - a0:=qV (by omega);rw [hw];cases decide (65536≤a1 - a0) <;> cases kH (Iv.mk a0 a1) 0 <;> cases kH (Iv.mk a0 a1) 32768 <;> rfl))) rfl rfl w
end Go.Proofs.YtgmbkkkbfbocnaaGreat
namespace Go.Proofs.YtgmbkkkbfbocnaaGreat
open Go.Sx Go.Rx Rt Go.RowKit
namespace Tm
end Tm
open Tm
theorem fQE:qKL Tryz.prog 197=some ([.int .i64 0,.int .i64 0,.int .i64 0,.int .i64 0],[(0,1),(1,1),(2,1),(3,1)]):=by kernel_rfl
theorem xUZ:qJU Tryz.prog 197 (.agg #[.int .i64 0,.int .i64 0,.int .i64 0,.int .i64 0]):=by unfold qJU; kernel_rfl
theorem uWA:tyB Tryz.prog 197 true 4=true:=by kernel_rfl
theorem xJV:arrB Tryz.prog 197 4 1=true:=by kernel_rfl
theorem fZH:qQY Tryz.prog 175:=qW Tryz.func175 (by kernel_rfl) (by kernel_rfl)
theorem uKH (a:Int) (b:Int) (_:In64 a) (hb:In64 b) (_:b≤4611686018427387904) (w:World):Calls Tryz.prog 175 [.int .i64 a,.int .i64 b].toArray w (Rets (iv (Iv.mk (qQF (a / 65536)) (qQF (zX b 65536)))) (w)):=by
 refine jX (n:=10) Tryz.func175 rfl rfl rfl ?_;refine zK ?_;refine qU ?_;refine qUW 4 ze62 rfl rfl rfl ?_; intro b4;refine zU ?_;refine qK ?_;refine zK ?_;refine qU ?_;refine qH (qG rfl) rfl rfl rfl ?_;refine qKD (F:=vI) (uU xYH rfl (fun w _=>zZE _ _ (by decide) w)) rfl rfl rfl ?_; intro r6 hr6;refine qH (qG rfl) rfl rfl rfl ?_;refine qKD (F:=vI) (uU xYG rfl (fun w _=>yQQ _ _ (by decide) hb w)) rfl rfl rfl ?_; intro r8 hr8;refine qKD (F:=iv) (uU fZC rfl (fun w _=>yHK _ _  w)) rfl rfl rfl ?_; intro r9 hr9;refine qYZ 4 ty62 rfl rfl rfl rfl rfl rfl rfl rfl ?_;refine zU ?_;refine qK ?_;refine qQG ?_;refine kJ (rs:=[.cell 4 62]) rfl (resC (qJE 4 rfl rfl ty62 rfl) (resN)) (congrArg (iv) (?_:⟨_,_⟩=Iv.mk (qQF (a / 65536)) (qQF (zX b 65536))))
 subst_vars; rfl
theorem fZJ {p0 p1 p2 p3:Int}:∀ w:World,(Instr.index 197 (.agg #[.int .i64 p0,.int .i64 p1,.int .i64 p2,.int .i64 p3]) (.int .i64 0)).run Tryz.prog w=.ok (.int .i64 p0) w:=fun w=>by kernel_rfl
theorem fZY {p0 p1 p2 p3:Int}:∀ w:World,(Instr.index 197 (.agg #[.int .i64 p0,.int .i64 p1,.int .i64 p2,.int .i64 p3]) (.int .i64 1)).run Tryz.prog w=.ok (.int .i64 p1) w:=fun w=>by kernel_rfl
theorem fZZ {p0 p1 p2 p3:Int}:∀ w:World,(Instr.index 197 (.agg #[.int .i64 p0,.int .i64 p1,.int .i64 p2,.int .i64 p3]) (.int .i64 2)).run Tryz.prog w=.ok (.int .i64 p2) w:=fun w=>by kernel_rfl
theorem fZQ {p0 p1 p2 p3:Int}:∀ w:World,(Instr.index 197 (.agg #[.int .i64 p0,.int .i64 p1,.int .i64 p2,.int .i64 p3]) (.int .i64 3)).run Tryz.prog w=.ok (.int .i64 p3) w:=fun w=>by kernel_rfl
theorem iMul (a0 a1:Int) (b0 b1:Int) (w:World):Calls Tryz.prog 157 [.agg #[.int .i64 a0,.int .i64 a1],.agg #[.int .i64 b0,.int .i64 b1]].toArray w (Rets (iv (Iv.mul (⟨a0,a1⟩:Iv) (⟨b0,b1⟩:Iv))) (w)):=by
 refine jX (n:=54) Tryz.func157 rfl rfl rfl ?_;refine zK ?_;refine qU ?_;refine qWL 2 rfl rfl rfl rfl ?_; intro b2;refine qWL 3 rfl rfl rfl rfl ?_; intro b3;refine qUW 4 ze62 rfl rfl rfl ?_; intro b4;refine zU ?_;refine qK ?_;refine zK ?_;refine zK ?_;refine qU ?_;refine qH (qYQ 2 ty62 rfl rfl rfl) rfl rfl rfl ?_;refine qH (qYQ 3 ty62 rfl rfl rfl) rfl rfl rfl ?_;refine qKD (F:=vB) (uU fZA rfl (fun w _=>uKG _ _ _ _  w)) rfl rfl rfl ?_; intro r12 hr12;refine qH (zKF rfl) rfl rfl rfl ?_;refine zU ?_;refine qK ?_;refine qJW rfl (fun hc13 => ?_) (fun hc13 => ?_)
 ·
  refine zK ?_;refine qU ?_;refine qH (qKX la62 rfl rfl) rfl rfl rfl ?_;refine qYZ 4 ty62 rfl rfl rfl rfl rfl rfl rfl rfl ?_;refine zU ?_;refine qK ?_;refine qQG ?_;refine qXV ?_;refine kJ (rs:=[.cell 4 62]) rfl (resC (qJE 4 rfl rfl ty62 rfl) (resN)) (congrArg (iv) (?_:⟨_,_⟩=Iv.mul (⟨a0,a1⟩:Iv) (⟨b0,b1⟩:Iv)))
  subst_vars; first | (simp_all [Iv.mul,min4,max4]; done) | (simp_all [Iv.mul,min4,max4] <;> omega) | grind [Iv.mul,min4,max4]
 ·
  refine qZJ ?_;refine qK ?_;refine zK ?_;have hv:=(hr12.symm.trans (by simpa using hc13))
  rw [vQJ] at hv;have ha:=qQJ hv.1;have hb:=qQJ hv.2;have m1:=qXL (a:=a0) (b:=b0) (by omega) (by omega);have m2:=qXL (a:=a0) (b:=b1) (by omega) (by omega);have m3:=qXL (a:=a1) (b:=b0) (by omega) (by omega);have m4:=qXL (a:=a1) (b:=b1) (by omega) (by omega);refine qU ?_;refine qH (zV qWJ rfl) rfl rfl rfl ?_;refine qH (jQ 2 ty2 rfl rfl rfl) rfl rfl rfl ?_;refine qH (zV qWJ rfl) rfl rfl rfl ?_;refine qH (jQ 3 ty2 rfl rfl rfl) rfl rfl rfl ?_;refine qH (qXH rfl rfl (by first | exact qV ⟨by omega,by omega⟩ | rfl)) rfl rfl rfl ?_;refine qH (zV qWJ rfl) rfl rfl rfl ?_;refine qH (jQ 2 ty2 rfl rfl rfl) rfl rfl rfl ?_;refine qH (zV qHI rfl) rfl rfl rfl ?_;refine qH (jQ 3 ty2 rfl rfl rfl) rfl rfl rfl ?_;refine qH (qXH rfl rfl (by first | exact qV ⟨by omega,by omega⟩ | rfl)) rfl rfl rfl ?_;refine qH (zV qHI rfl) rfl rfl rfl ?_;refine qH (jQ 2 ty2 rfl rfl rfl) rfl rfl rfl ?_;refine qH (zV qWJ rfl) rfl rfl rfl ?_;refine qH (jQ 3 ty2 rfl rfl rfl) rfl rfl rfl ?_;refine qH (qXH rfl rfl (by first | exact qV ⟨by omega,by omega⟩ | rfl)) rfl rfl rfl ?_;refine qH (zV qHI rfl) rfl rfl rfl ?_;refine qH (jQ 2 ty2 rfl rfl rfl) rfl rfl rfl ?_;refine qH (zV qHI rfl) rfl rfl rfl ?_;refine qH (jQ 3 ty2 rfl rfl rfl) rfl rfl rfl ?_;refine qH (qXH rfl rfl (by first | exact qV ⟨by omega,by omega⟩ | rfl)) rfl rfl rfl ?_;refine qH (qKX fQE rfl rfl) rfl rfl rfl ?_;refine qUW 5 xUZ rfl rfl rfl ?_; intro b5;refine qYZ 5 uWA rfl rfl rfl rfl rfl rfl rfl rfl ?_;refine zU ?_;refine qK ?_;refine zK ?_;refine qKW 5 mo (by kernel_rfl) ?_;simp only [vYK,vYX,vYU,vYW];refine jJ (qXD xJV rfl rfl (by first | decide | omega) (by first | decide | omega)) rfl rfl rfl ?_;refine jJ (jQ 5 ty2 rfl rfl rfl) rfl rfl rfl ?_;refine jJ (qXD xJV rfl rfl (by first | decide | omega) (by first | decide | omega)) rfl rfl rfl ?_;refine jJ (jQ 5 ty2 rfl rfl rfl) rfl rfl rfl ?_;refine jJ (zY rfl) rfl rfl rfl ?_;refine qVQ ?_;refine qUA ?_;refine qH (zY rfl) rfl rfl rfl ?_;refine zU ?_;refine qK ?_;refine zK ?_;refine zK ?_;refine qU ?_;refine qH (qYQ 5 uWA rfl rfl rfl) rfl rfl rfl ?_;refine qH (qG rfl) rfl rfl rfl ?_;refine zU ?_;refine qK ?_;refine qJL ?_;refine jYC 5 ?_;refine zQZ ?_;refine zK ?_;refine qU ?_;refine qH (qKB rfl rfl) rfl rfl rfl ?_;refine zU ?_;refine qK ?_;refine zK ?_;refine qXY rfl (by decide) ?_;refine qZJ ?_;refine qK ?_;refine zK ?_;refine qJL ?_;refine zK ?_;refine qU ?_;refine qH (qXQ rfl rfl (fZJ)) rfl rfl rfl ?_;refine qH (zY rfl) rfl rfl rfl ?_;refine zU ?_;refine qK ?_;refine qU ?_;refine qH (qG rfl) rfl rfl rfl ?_;refine qH (qG rfl) rfl rfl rfl ?_;refine qH (qXA rfl rfl) rfl rfl rfl ?_;refine qH (qG rfl) rfl rfl rfl ?_;refine qH (qG rfl) rfl rfl rfl ?_;refine qH (qXB rfl rfl) rfl rfl rfl ?_;refine qH (zY rfl) rfl rfl rfl ?_;refine qH (zY rfl) rfl rfl rfl ?_;refine zU ?_;refine uQ ?_;refine qK ?_;refine qU ?_;refine qH (qJY rfl rfl (by first | exact qV ⟨by omega,by omega⟩ | rfl)) rfl rfl rfl ?_;refine qH (qG rfl) rfl rfl rfl ?_;refine zU ?_;refine qXG ?_;refine zQZ ?_;refine zK ?_;refine qU ?_;refine qH (qKB rfl rfl) rfl rfl rfl ?_;refine zU ?_;refine qK ?_;refine zK ?_;refine qXY rfl (by decide) ?_;refine qZJ ?_;refine qK ?_;refine zK ?_;refine qJL ?_;refine zK ?_;refine qU ?_;refine qH (qXQ rfl rfl (fZY)) rfl rfl rfl ?_;refine qH (zY rfl) rfl rfl rfl ?_;refine zU ?_;refine qK ?_;refine qU ?_;refine qH (qG rfl) rfl rfl rfl ?_;refine qH (qG rfl) rfl rfl rfl ?_;refine qH (qXA rfl rfl) rfl rfl rfl ?_;refine qH (qG rfl) rfl rfl rfl ?_;refine qH (qG rfl) rfl rfl rfl ?_;refine qH (qXB rfl rfl) rfl rfl rfl ?_;refine qH (zY rfl) rfl rfl rfl ?_;refine qH (zY rfl) rfl rfl rfl ?_;refine zU ?_;refine uQ ?_;refine qK ?_;refine qU ?_;refine qH (qJY rfl rfl (by first | exact qV ⟨by omega,by omega⟩ | rfl)) rfl rfl rfl ?_;refine qH (qG rfl) rfl rfl rfl ?_;refine zU ?_;refine qXG ?_;refine zQZ ?_;refine zK ?_;refine qU ?_;refine qH (qKB rfl rfl) rfl rfl rfl ?_;refine zU ?_;refine qK ?_;refine zK ?_;refine qXY rfl (by decide) ?_;refine qZJ ?_;refine qK ?_;refine zK ?_;refine qJL ?_;refine zK ?_;refine qU ?_;refine qH (qXQ rfl rfl (fZZ)) rfl rfl rfl ?_;refine qH (zY rfl) rfl rfl rfl ?_;refine zU ?_;refine qK ?_;refine qU ?_;refine qH (qG rfl) rfl rfl rfl ?_;refine qH (qG rfl) rfl rfl rfl ?_;refine qH (qXA rfl rfl) rfl rfl rfl ?_;refine qH (qG rfl) rfl rfl rfl ?_;refine qH (qG rfl) rfl rfl rfl ?_;refine qH (qXB rfl rfl) rfl rfl rfl ?_;refine qH (zY rfl) rfl rfl rfl ?_;refine qH (zY rfl) rfl rfl rfl ?_;refine zU ?_;refine uQ ?_;refine qK ?_;refine qU ?_;refine qH (qJY rfl rfl (by first | exact qV ⟨by omega,by omega⟩ | rfl)) rfl rfl rfl ?_;refine qH (qG rfl) rfl rfl rfl ?_;refine zU ?_;refine qXG ?_;refine zQZ ?_;refine zK ?_;refine qU ?_;refine qH (qKB rfl rfl) rfl rfl rfl ?_;refine zU ?_;refine qK ?_;refine zK ?_;refine qXY rfl (by decide) ?_;refine qZJ ?_;refine qK ?_;refine zK ?_;refine qJL ?_;refine zK ?_;refine qU ?_;refine qH (qXQ rfl rfl (fZQ)) rfl rfl rfl ?_;refine qH (zY rfl) rfl rfl rfl ?_;refine zU ?_;refine qK ?_;refine qU ?_;refine qH (qG rfl) rfl rfl rfl ?_;refine qH (qG rfl) rfl rfl rfl ?_;refine qH (qXA rfl rfl) rfl rfl rfl ?_;refine qH (qG rfl) rfl rfl rfl ?_;refine qH (qG rfl) rfl rfl rfl ?_;refine qH (qXB rfl rfl) rfl rfl rfl ?_;refine qH (zY rfl) rfl rfl rfl ?_;refine qH (zY rfl) rfl rfl rfl ?_;refine zU ?_;refine uQ ?_;refine qK ?_;refine qU ?_;refine qH (qJY rfl rfl (by first | exact qV ⟨by omega,by omega⟩ | rfl)) rfl rfl rfl ?_;refine qH (qG rfl) rfl rfl rfl ?_;refine zU ?_;refine qXG ?_;refine zQZ ?_;refine zK ?_;refine qU ?_;refine qH (qKB rfl rfl) rfl rfl rfl ?_;refine zU ?_;refine qK ?_;refine zK ?_;refine qVA rfl (by decide) ?_;refine yQU ?_;refine qYK ?_;refine qYK ?_;refine qUU ?_;refine qK ?_;refine zK ?_;refine qU ?_;refine qH (qG rfl) rfl rfl rfl ?_;refine qH (qG rfl) rfl rfl rfl ?_;refine qKD (F:=iv) (uU fZH rfl (fun w _=>uKH _ _ (by unfold In64; omega) (by unfold In64; omega) (by omega) w)) rfl rfl rfl ?_; intro r53 hr53;refine qYZ 4 ty62 rfl rfl rfl rfl rfl rfl rfl rfl ?_;refine zU ?_;refine qK ?_;refine qQG ?_;refine kJ (rs:=[.cell 4 62]) rfl (resC (qJE 4 rfl rfl ty62 rfl) (resN)) (congrArg (iv) (?_:⟨_,_⟩=Iv.mul (⟨a0,a1⟩:Iv) (⟨b0,b1⟩:Iv)))
  subst_vars; first | (simp_all [Iv.mul,min4,max4]; done) | (simp_all [Iv.mul,min4,max4] <;> omega) | grind [Iv.mul,min4,max4]
namespace Tm
noncomputable def LTm1:OrL:=(122,Ta.o_iOf) :: ([]:OrL)
theorem uXH:AllP (fun x:Nat × (List PV→Option (Bool × Ret))=>zJ Tryz.prog x.1 x.2) LTm1:=⟨Ta.ok_iOf,trivial⟩
noncomputable def LTm2:OrL:=(34,Ta.o_rOf) :: LTm1
theorem yVU:AllP (fun x:Nat × (List PV→Option (Bool × Ret))=>zJ Tryz.prog x.1 x.2) LTm2:=⟨Ta.ok_rOf,uXH⟩
end Tm
set_option maxRecDepth 100000 in
theorem kGG (p0 p1 p2:Int) (w:World):Calls Tryz.prog 74 [.agg #[.int .i64 p0,.int .i64 p1,.int .i64 p2]].toArray w (Rets (v3 (V3.of (⟨p0,p1,p2⟩:Z3))) (w)) :=
 zZ (x:=.a (v3C (V3.of ⟨p0,p1,p2⟩))) (zQ (N:=60) (ps:=[.a [.n .i64 p0,.n .i64 p1,.n .i64 p2]]) yJ zW (OrL.ok (l:=LTm2) yVU) (by kernel_rfl)) rfl rfl w
set_option maxRecDepth 100000 in
theorem kVI (p0 p1 p2:Int) (w:World):Calls Tryz.prog 36 [.agg #[.int .i64 p0,.int .i64 p1,.int .i64 p2]].toArray w (Rets (v3 (V3.of (⟨p0,p1,p2⟩:Z3))) (w)) :=
 zZ (x:=.a (v3C (V3.of ⟨p0,p1,p2⟩))) (zQ (N:=60) (ps:=[.a [.n .i64 p0,.n .i64 p1,.n .i64 p2]]) yJ zW (OrL.ok (l:=LTm2) yVU) (by kernel_rfl)) rfl rfl w
namespace Tm
noncomputable def LTm3:OrL:=(135,Tn.o_iValid) :: LTm2
theorem uXG:AllP (fun x:Nat × (List PV→Option (Bool × Ret))=>zJ Tryz.prog x.1 x.2) LTm3:=⟨Tn.ok_iValid,yVU⟩
noncomputable def o_iAdd:List PV→Option (Bool × Ret):=fun ps=>match ps with
 | [.a a',.a b']=>(ivD a').bind fun a=>(ivD b').bind fun b=>some (true,.v (.a (ivC (Iv.add a b))))
 | _=>none
theorem ok_iAdd:zJ Tryz.prog 156 o_iAdd:=by
 intro ps r h;unfold o_iAdd at h;split at h
 ·simp only [vQQ,vQZ,vQY] at h;obtain ⟨a,ha,b,hb,hg,rfl⟩:=h;rw [qQE ha];rw [qQE hb];exact qX (qW Tryz.func156 (by kernel_rfl) (by kernel_rfl)) rfl rfl (fun w=>iAdd _ _ _ _ w)
 ·cases h
noncomputable def LTm4:OrL:=(156,o_iAdd) :: LTm3
theorem uXV:AllP (fun x:Nat × (List PV→Option (Bool × Ret))=>zJ Tryz.prog x.1 x.2) LTm4:=⟨ok_iAdd,uXG⟩
noncomputable def LTm5:OrL:=(184,Ta.o_iNeg) :: LTm4
theorem uXW:AllP (fun x:Nat × (List PV→Option (Bool × Ret))=>zJ Tryz.prog x.1 x.2) LTm5:=⟨Ta.ok_iNeg,uXV⟩
noncomputable def LTm6:OrL:=(148,Tn.o_rValid) :: LTm5
theorem uXX:AllP (fun x:Nat × (List PV→Option (Bool × Ret))=>zJ Tryz.prog x.1 x.2) LTm6:=⟨Tn.ok_rValid,uXW⟩
noncomputable def o_rAdd:List PV→Option (Bool × Ret):=fun ps=>match ps with
 | [.a a',.a b']=>(ivD a').bind fun a=>(ivD b').bind fun b=>some (true,.v (.a (ivC (Iv.add a b))))
 | _=>none
theorem ok_rAdd:zJ Tryz.prog 131 o_rAdd:=by
 intro ps r h;unfold o_rAdd at h;split at h
 ·simp only [vQQ,vQZ,vQY] at h;obtain ⟨a,ha,b,hb,hg,rfl⟩:=h;rw [qQE ha];rw [qQE hb];exact qX (qW Tryz.func131 (by kernel_rfl) (by kernel_rfl)) rfl rfl (fun w=>rAdd _ _ _ _ w)
 ·cases h
noncomputable def LTm7:OrL:=(131,o_rAdd) :: LTm6
theorem uXU:AllP (fun x:Nat × (List PV→Option (Bool × Ret))=>zJ Tryz.prog x.1 x.2) LTm7:=⟨ok_rAdd,uXX⟩
noncomputable def LTm8:OrL:=(171,Ta.o_rNeg) :: LTm7
theorem zXV:AllP (fun x:Nat × (List PV→Option (Bool × Ret))=>zJ Tryz.prog x.1 x.2) LTm8:=⟨Ta.ok_rNeg,uXU⟩
end Tm
set_option maxRecDepth 100000 in
theorem mAdd (p0 p1 p2 p3 p4 p5:Int) (q0 q1 q2 q3 q4 q5:Int) (w:World):Calls Tryz.prog 154 [.agg #[.int .i64 p0,.int .i64 p1,.int .i64 p2,.int .i64 p3,.int .i64 p4,.int .i64 p5],.agg #[.int .i64 q0,.int .i64 q1,.int .i64 q2,.int .i64 q3,.int .i64 q4,.int .i64 q5]].toArray w (Rets (v3 (V3.add (⟨⟨p0,p1⟩,⟨p2,p3⟩,⟨p4,p5⟩⟩:V3) (⟨⟨q0,q1⟩,⟨q2,q3⟩,⟨q4,q5⟩⟩:V3))) (w)) :=
 zZ (x:=.a (v3C (V3.add ⟨⟨p0,p1⟩,⟨p2,p3⟩,⟨p4,p5⟩⟩ ⟨⟨q0,q1⟩,⟨q2,q3⟩,⟨q4,q5⟩⟩))) (zQ (N:=60) (ps:=[.a (ivs [⟨p0,p1⟩,⟨p2,p3⟩,⟨p4,p5⟩]),.a (ivs [⟨q0,q1⟩,⟨q2,q3⟩,⟨q4,q5⟩])]) yJ zW (OrL.ok (l:=LTm8) zXV) (by kernel_rfl)) rfl rfl w
set_option maxRecDepth 100000 in
theorem uYW (p0 p1 p2 p3 p4 p5:Int) (q0 q1 q2 q3 q4 q5:Int) (w:World):Calls Tryz.prog 82 [.agg #[.int .i64 p0,.int .i64 p1,.int .i64 p2,.int .i64 p3,.int .i64 p4,.int .i64 p5],.agg #[.int .i64 q0,.int .i64 q1,.int .i64 q2,.int .i64 q3,.int .i64 q4,.int .i64 q5]].toArray w (Rets (v3 (V3.add (⟨⟨p0,p1⟩,⟨p2,p3⟩,⟨p4,p5⟩⟩:V3) (⟨⟨q0,q1⟩,⟨q2,q3⟩,⟨q4,q5⟩⟩:V3))) (w)) :=
 zZ (x:=.a (v3C (V3.add ⟨⟨p0,p1⟩,⟨p2,p3⟩,⟨p4,p5⟩⟩ ⟨⟨q0,q1⟩,⟨q2,q3⟩,⟨q4,q5⟩⟩))) (zQ (N:=60) (ps:=[.a (ivs [⟨p0,p1⟩,⟨p2,p3⟩,⟨p4,p5⟩]),.a (ivs [⟨q0,q1⟩,⟨q2,q3⟩,⟨q4,q5⟩])]) yJ zW (OrL.ok (l:=LTm8) zXV) (by kernel_rfl)) rfl rfl w
set_option maxRecDepth 100000 in
theorem jWF  (w:World):Calls Tryz.prog 127 [].toArray w (Rets (m3 (M3.unit)) (w)) :=
 zZ (x:=.a (m3C M3.unit)) (zQ (N:=60) (ps:=[]) yJ zW (OrL.ok (l:=LTm8) zXV) (by kernel_rfl)) rfl rfl w
set_option maxRecDepth 100000 in
theorem xUL  (w:World):Calls Tryz.prog 141 [].toArray w (Rets (m3 (M3.unit)) (w)) :=
 zZ (x:=.a (m3C M3.unit)) (zQ (N:=60) (ps:=[]) yJ zW (OrL.ok (l:=LTm8) zXV) (by kernel_rfl)) rfl rfl w
namespace Tm
noncomputable def zZH:List PV→Option (Bool × Ret):=fun ps=>match ps with
 | [.a a']=>(ivD a').bind fun a=>some (true,.v (.a (ivC (kK a))))
 | _=>none
theorem yXH:zJ Tryz.prog 183 zZH:=by
 intro ps r h;unfold zZH at h;split at h
 ·simp only [vQQ,vQZ,vQY] at h;obtain ⟨a,ha,hg,rfl⟩:=h;rw [qQE ha];exact qX (qW Tryz.func183 (by kernel_rfl) (by kernel_rfl)) rfl rfl (fun w=>kXI _ _ w)
 ·cases h
noncomputable def LTm9:OrL:=(183,zZH) :: LTm8
theorem uXK:AllP (fun x:Nat × (List PV→Option (Bool × Ret))=>zJ Tryz.prog x.1 x.2) LTm9:=⟨yXH,zXV⟩
noncomputable def zZA:List PV→Option (Bool × Ret):=fun ps=>match ps with
 | [.a a']=>(ivD a').bind fun a=>some (true,.v (.a (ivC (kU a))))
 | _=>none
theorem yXA:zJ Tryz.prog 182 zZA:=by
 intro ps r h;unfold zZA at h;split at h
 ·simp only [vQQ,vQZ,vQY] at h;obtain ⟨a,ha,hg,rfl⟩:=h;rw [qQE ha];exact qX (qW Tryz.func182 (by kernel_rfl) (by kernel_rfl)) rfl rfl (fun w=>kXL _ _ w)
 ·cases h
noncomputable def xJI:OrL:=(182,zZA) :: LTm9
theorem kWU:AllP (fun x:Nat × (List PV→Option (Bool × Ret))=>zJ Tryz.prog x.1 x.2) xJI:=⟨yXA,uXK⟩
noncomputable def zZQ:List PV→Option (Bool × Ret):=fun ps=>match ps with
 | [.a a']=>(ivD a').bind fun a=>some (true,.v (.a (ivC (kK a))))
 | _=>none
theorem yUI:zJ Tryz.prog 170 zZQ:=by
 intro ps r h;unfold zZQ at h;split at h
 ·simp only [vQQ,vQZ,vQY] at h;obtain ⟨a,ha,hg,rfl⟩:=h;rw [qQE ha];exact qX (qW Tryz.func170 (by kernel_rfl) (by kernel_rfl)) rfl rfl (fun w=>kZA _ _ w)
 ·cases h
noncomputable def xJF:OrL:=(170,zZQ) :: xJI
theorem kWK:AllP (fun x:Nat × (List PV→Option (Bool × Ret))=>zJ Tryz.prog x.1 x.2) xJF:=⟨yUI,kWU⟩
noncomputable def zZJ:List PV→Option (Bool × Ret):=fun ps=>match ps with
 | [.a a']=>(ivD a').bind fun a=>some (true,.v (.a (ivC (kU a))))
 | _=>none
theorem yXZ:zJ Tryz.prog 169 zZJ:=by
 intro ps r h;unfold zZJ at h;split at h
 ·simp only [vQQ,vQZ,vQY] at h;obtain ⟨a,ha,hg,rfl⟩:=h;rw [qQE ha];exact qX (qW Tryz.func169 (by kernel_rfl) (by kernel_rfl)) rfl rfl (fun w=>kZC _ _ w)
 ·cases h
noncomputable def uXA:OrL:=(169,zZJ) :: xJF
theorem jQW:AllP (fun x:Nat × (List PV→Option (Bool × Ret))=>zJ Tryz.prog x.1 x.2) uXA:=⟨yXZ,kWK⟩
end Tm
set_option maxRecDepth 100000 in
theorem fQD (axis:Int) (a0 a1:Int) (w:World):Calls Tryz.prog 176 [.int .i64 axis,.agg #[.int .i64 a0,.int .i64 a1]].toArray w (Rets (m3 (M3.turn axis (⟨a0,a1⟩:Iv))) (w)) :=
 zZ (x:=.a (m3C (M3.turn axis ⟨a0,a1⟩))) (zQ (N:=60) (ps:=[.n .i64 axis,.a [.n .i64 a0,.n .i64 a1]]) yJ zW (OrL.ok (l:=uXA) jQW) ((by kernel_rfl:_=bif Iv.valid (Iv.mk a0 a1) then (bif (decide (axis=0)) then some (.v (.a (ivs [(Iv.of 65536),(Iv.of 0),(Iv.of 0),(Iv.of 0),(kU (Iv.mk a0 a1)),(Iv.neg (kK (Iv.mk a0 a1))),(Iv.of 0),(kK (Iv.mk a0 a1)),(kU (Iv.mk a0 a1))])),[])
 else bif (decide (axis=1)) then some (.v (.a (ivs [(kU (Iv.mk a0 a1)),(Iv.of 0),(kK (Iv.mk a0 a1)),(Iv.of 0),(Iv.of 65536),(Iv.of 0),(Iv.neg (kK (Iv.mk a0 a1))),(Iv.of 0),(kU (Iv.mk a0 a1))])),[])
 else bif (decide (axis=2)) then some (.v (.a (ivs [(kU (Iv.mk a0 a1)),(Iv.neg (kK (Iv.mk a0 a1))),(Iv.of 0),(kK (Iv.mk a0 a1)),(kU (Iv.mk a0 a1)),(Iv.of 0),(Iv.of 0),(Iv.of 0),(Iv.of 65536)])),[])
 else some (.v (.a (ivs [iv0,iv0,iv0,iv0,iv0,iv0,iv0,iv0,iv0])),[]))
 else some (.v (.a (ivs [iv0,iv0,iv0,iv0,iv0,iv0,iv0,iv0,iv0])),[])).trans (by
 simp only [kGK,jXI];unfold M3.turn;cases Iv.valid (Iv.mk a0 a1) <;> cases decide (axis=0) <;> cases decide (axis=1) <;> cases decide (axis=2) <;> rfl))) rfl rfl w
set_option maxRecDepth 100000 in
theorem xXQ (axis:Int) (a0 a1:Int) (w:World):Calls Tryz.prog 149 [.int .i64 axis,.agg #[.int .i64 a0,.int .i64 a1]].toArray w (Rets (m3 (M3.turn axis (⟨a0,a1⟩:Iv))) (w)) :=
 zZ (x:=.a (m3C (M3.turn axis ⟨a0,a1⟩))) (zQ (N:=60) (ps:=[.n .i64 axis,.a [.n .i64 a0,.n .i64 a1]]) yJ zW (OrL.ok (l:=uXA) jQW) ((by kernel_rfl:_=bif Iv.valid (Iv.mk a0 a1) then (bif (decide (axis=0)) then some (.v (.a (ivs [(Iv.of 65536),iv0,iv0,iv0,(kU (Iv.mk a0 a1)),(Iv.neg (kK (Iv.mk a0 a1))),iv0,(kK (Iv.mk a0 a1)),(kU (Iv.mk a0 a1))])),[])
 else bif (decide (axis=1)) then some (.v (.a (ivs [(kU (Iv.mk a0 a1)),iv0,(kK (Iv.mk a0 a1)),iv0,(Iv.of 65536),iv0,(Iv.neg (kK (Iv.mk a0 a1))),iv0,(kU (Iv.mk a0 a1))])),[])
 else bif (decide (axis=2)) then some (.v (.a (ivs [(kU (Iv.mk a0 a1)),(Iv.neg (kK (Iv.mk a0 a1))),iv0,(kK (Iv.mk a0 a1)),(kU (Iv.mk a0 a1)),iv0,iv0,iv0,(Iv.of 65536)])),[])
 else some (.v (.a (ivs [iv0,iv0,iv0,iv0,iv0,iv0,iv0,iv0,iv0])),[]))
 else some (.v (.a (ivs [iv0,iv0,iv0,iv0,iv0,iv0,iv0,iv0,iv0])),[])).trans (by
 simp only [kGK,jXI];unfold M3.turn;cases Iv.valid (Iv.mk a0 a1) <;> cases decide (axis=0) <;> cases decide (axis=1) <;> cases decide (axis=2) <;> rfl))) rfl rfl w
end Go.Proofs.YtgmbkkkbfbocnaaGreat

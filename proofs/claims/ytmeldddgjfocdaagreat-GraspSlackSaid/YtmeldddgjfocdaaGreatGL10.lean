/- Part 10 of the texts behind the last one: rules and contracts. No condition. -/
import Derived.Test.YtmeldddgjfocdaaGreatGL9
open Option renaming bind_eq_some_iff → vQQ
open Option.some renaming injEq → vQZ
open Prod.mk renaming injEq → vQY
open Bool renaming and_eq_true → vQJ, and_self → vZJ, true_and → vZH
open List renaming take_succ_cons → vYK, drop_succ_cons → vYU, take_zero → vYX, drop_zero → vYW
open Go.IntKind renaming wrap → vJJ
namespace Go.Proofs.YtmeldddgjfocdaaGreat
open Go.Sx Go.Rx Rt Go.RowKit
namespace Ta
end Ta
open Ta
theorem xGD:uV Tryz.prog 184:=qW Tryz.func184 (by kernel_rfl) (by kernel_rfl)
theorem xGC:uV Tryz.prog 185:=qW Tryz.func185 (by kernel_rfl) (by kernel_rfl)
theorem fWQ:uV Tryz.prog 201:=qW Tryz.func201 (by kernel_rfl) (by kernel_rfl)
theorem fWZ:uV Tryz.prog 191:=qW Tryz.func191 (by kernel_rfl) (by kernel_rfl)
theorem fXL:uV Tryz.prog 205:=qW Tryz.func205 (by kernel_rfl) (by kernel_rfl)
theorem fXI (a:Int) (w:World):Calls Tryz.prog 184 [.int .i64 a,.int .i64 14].toArray w (Rets (vI (a / 16384)) w):=zYV a 14 (by decide) w
theorem fXF (a:Int) (ha:In64 a) (w:World):Calls Tryz.prog 185 [.int .i64 a,.int .i64 14].toArray w (Rets (vI (zW a 16384)) w):=yZU a 14 (by decide) ha w
theorem aMod (a:Int) (w:World):Calls Tryz.prog 201 [.int .i64 a].toArray w (Rets (vI (a % 65536)) (w)):=by
 refine kZ (n:=5) Tryz.func201 rfl rfl rfl ?_;refine zU ?_;refine qJ ?_;refine qG (zJ rfl) rfl rfl rfl ?_;refine zX ?_;refine qZ ?_;refine zU ?_;refine qJ ?_;refine qG (qV rfl) rfl rfl rfl ?_;refine qG (jWH rfl rfl kHJ) rfl rfl rfl ?_;refine qG (zJ rfl) rfl rfl rfl ?_;refine zX ?_;refine qZ ?_;refine qQH ?_;refine kW (rs:=[.tmp 2]) rfl (resC (qQW rfl) (resN)) (congrArg (vI) (?_:_=a % 65536))
 first | rfl | (subst_vars; rfl) | (subst_vars; simp_all)
theorem rMod (a:Int) (w:World):Calls Tryz.prog 191 [.int .i64 a].toArray w (Rets (vI (a % 65536)) (w)):=by
 refine kZ (n:=7) Tryz.func191 rfl rfl rfl ?_;refine zU ?_;have h0 : -65536 < a.tmod 65536:=by have:=Int.lt_tmod_of_pos a (show (0:Int) < 65536 by decide); omega
 have h1:a.tmod 65536 < 65536:=Int.tmod_lt_of_pos a (by decide);refine qJ ?_;refine qG (zJ rfl) rfl rfl rfl ?_;refine zX ?_;refine qZ ?_;refine zU ?_;refine qJ ?_;refine qG (qV rfl) rfl rfl rfl ?_;refine qG (zZG rfl rfl (by first | decide | omega) (by first | exact tmod_nonneg (by omega) (by omega) | rfl)) rfl rfl rfl ?_;refine qG (qJQ rfl rfl (by first | exact qX ⟨by omega,by omega⟩ | rfl)) rfl rfl rfl ?_;refine qG (zZG rfl rfl (by first | decide | omega) (by first | exact tmod_nonneg (by omega) (by omega) | rfl)) rfl rfl rfl ?_;refine qG (zJ rfl) rfl rfl rfl ?_;refine zX ?_;refine qZ ?_;refine qQH ?_;refine kW (rs:=[.tmp 2]) rfl (resC (qQW rfl) (resN)) (congrArg (vI) (?_:_=a % 65536))
 have:=Int.tdiv_mul_add_tmod a 65536; omega
theorem fWB (a:Int) (b:Int) (ha:0≤a∧a≤1073741824) (hb:0 < b∧b≤1073741824) (w:World):Calls Tryz.prog 210 [.int .i64 a,.int .i64 b].toArray w (Rets (vI (zW a b)) (w)):=by
 refine kZ (n:=11) Tryz.func210 rfl rfl rfl ?_;refine zU ?_;refine qJ ?_;refine qG (zJ rfl) rfl rfl rfl ?_;refine zX ?_;refine qZ ?_;refine zU ?_;refine qJ ?_;refine qG (qV rfl) rfl rfl rfl ?_;refine qG (qV rfl) rfl rfl rfl ?_;refine qG (qJQ rfl rfl (by first | exact qX ⟨by omega,by omega⟩ | rfl)) rfl rfl rfl ?_;refine qG (zUI rfl rfl (by first | exact qX ⟨by omega,by omega⟩ | rfl)) rfl rfl rfl ?_;refine qG (qV rfl) rfl rfl rfl ?_;refine qG (zHH rfl rfl (by first | decide | omega) (kGC ha hb)) rfl rfl rfl ?_;refine qG (zJ rfl) rfl rfl rfl ?_;refine zX ?_;refine qZ ?_;refine qQH ?_;refine kW (rs:=[.tmp 4]) rfl (resC (qQW rfl) (resN)) (congrArg (vI) (?_:_=zW a b))
 first | rfl | (subst_vars; rfl) | (subst_vars; simp_all)
theorem aEnc (lo:Int) (hi:Int) (hh:In64 hi) (w:World):Calls Tryz.prog 211 [.int .i64 lo,.int .i64 hi].toArray w (Rets (iv (encI lo hi)) (w)):=by
 refine kZ (n:=12) Tryz.func211 rfl rfl rfl ?_;refine zU ?_;refine qJ ?_;refine qUA 4 ze62 rfl rfl rfl ?_; intro b4;refine zX ?_;refine qZ ?_;refine zU ?_;refine qJ ?_;refine qG (qV rfl) rfl rfl rfl ?_;refine qKD (F:=vI) (uK xGD rfl (fun w _=>fXI _ w)) rfl rfl rfl ?_; intro r6 hr6;refine qG (qWQ rfl rfl) rfl rfl rfl ?_;refine qG (qV rfl) rfl rfl rfl ?_;refine qKD (F:=vI) (uK xGC rfl (fun w _=>fXF _ hh w)) rfl rfl rfl ?_; intro r9 hr9;refine qG (qXL rfl rfl) rfl rfl rfl ?_;refine qG (qKX la62 rfl rfl) rfl rfl rfl ?_;refine qYK 4 ty62 rfl rfl rfl rfl rfl rfl rfl rfl ?_;refine zX ?_;refine qZ ?_;refine qQH ?_;refine kW (rs:=[.cell 4 62]) rfl (resC (qJB 4 rfl rfl ty62 rfl) (resN)) (congrArg (iv) (?_:⟨_,_⟩=encI lo hi))
 subst_vars; first | (simp_all [encI]; done) | (simp_all [encI] <;> omega) | grind [encI]
theorem rEnc (lo:Int) (hi:Int) (hl:In64 lo) (hh:In64 hi) (w:World):Calls Tryz.prog 204 [.int .i64 lo,.int .i64 hi].toArray w (Rets (iv (encI lo hi)) (w)):=by
 refine kZ (n:=12) Tryz.func204 rfl rfl rfl ?_;refine zU ?_;refine qJ ?_;refine qUA 4 ze62 rfl rfl rfl ?_; intro b4;refine zX ?_;refine qZ ?_;refine zU ?_;refine qJ ?_;refine qG (qV rfl) rfl rfl rfl ?_;refine qKD (F:=vI) (uK xGF rfl (fun w _=>jWJ _ _ hl (by decide) w)) rfl rfl rfl ?_; intro r6 hr6;refine qG (qWQ rfl rfl) rfl rfl rfl ?_;refine qG (qV rfl) rfl rfl rfl ?_;refine qKD (F:=vI) (uK xGE rfl (fun w _=>uXF _ _ hh (by decide) w)) rfl rfl rfl ?_; intro r9 hr9;refine qG (qXL rfl rfl) rfl rfl rfl ?_;refine qG (qKX la62 rfl rfl) rfl rfl rfl ?_;refine qYK 4 ty62 rfl rfl rfl rfl rfl rfl rfl rfl ?_;refine zX ?_;refine qZ ?_;refine qQH ?_;refine kW (rs:=[.cell 4 62]) rfl (resC (qJB 4 rfl rfl ty62 rfl) (resN)) (congrArg (iv) (?_:⟨_,_⟩=encI lo hi))
 subst_vars; first | (simp_all [encI]; done) | (simp_all [encI] <;> omega) | grind [encI]
theorem xHE (a0 a1:Int) (c:Int) (hv:Iv.valid (⟨a0,a1⟩:Iv)=true) (_:0≤c∧c < 65536) (w:World):Calls Tryz.prog 200 [.agg #[.int .i64 a0,.int .i64 a1],.int .i64 c].toArray w (Rets (vB (uZ (⟨a0,a1⟩:Iv) c)) (w)):=by
 refine kZ (n:=15) Tryz.func200 rfl rfl rfl ?_;refine zU ?_;have hv2:=uG hv;refine qJ ?_;refine qVW 2 rfl rfl rfl rfl ?_; intro b2;refine qG (zJ rfl) rfl rfl rfl ?_;refine zX ?_;refine qZ ?_;refine zU ?_;refine qKW 10 mo (by kernel_rfl) ?_;simp only [vYK,vYX,vYU,vYW];refine jG (qYY 2 ty62 rfl rfl rfl) rfl rfl rfl ?_;refine jG (zV qWA rfl) rfl rfl rfl ?_;refine jG (jJ 2 ty2 rfl rfl rfl) rfl rfl rfl ?_;refine jG (qV rfl) rfl rfl rfl ?_;refine jG (zV qWA rfl) rfl rfl rfl ?_;refine jG (jJ 2 ty2 rfl rfl rfl) rfl rfl rfl ?_;refine jG (zUI rfl rfl (by first | exact qX ⟨by omega,by omega⟩ | rfl)) rfl rfl rfl ?_;refine zWJ (F:=vI) (uK fWQ rfl (fun w _=>aMod _  w)) rfl rfl rfl ?_; intro r12 hr12;have qr12:0≤r12∧r12 < 65536:=by omega
 refine jG (qJQ rfl rfl (by first | exact qX ⟨by omega,by omega⟩ | rfl)) rfl rfl rfl ?_;refine zWJ (F:=vB) (uK fXL rfl (fun w _=>iHas _ _ _  w)) rfl rfl rfl ?_; intro r14 hr14;refine qVV ?_;refine qUF ?_;refine qG (zJ rfl) rfl rfl rfl ?_;refine zX ?_;refine qZ ?_;refine qQH ?_;refine kW (rs:=[.tmp 4]) rfl (resC (qQW rfl) (resN)) (congrArg (vB) (?_:_=uZ (⟨a0,a1⟩:Iv) c))
 subst_vars; simp only [Iv.has,uZ,hv,vZH]; rw [vJQ (by omega),vZH]
theorem xJW (a0 a1:Int) (c:Int) (hv:Iv.valid (⟨a0,a1⟩:Iv)=true) (_:0≤c∧c < 65536) (w:World):Calls Tryz.prog 190 [.agg #[.int .i64 a0,.int .i64 a1],.int .i64 c].toArray w (Rets (vB (uZ (⟨a0,a1⟩:Iv) c)) (w)):=by
 refine kZ (n:=16) Tryz.func190 rfl rfl rfl ?_;refine zU ?_;have hv2:=uG hv;refine qJ ?_;refine qVW 2 rfl rfl rfl rfl ?_; intro b2;refine qG (zJ rfl) rfl rfl rfl ?_;refine zX ?_;refine qZ ?_;refine zU ?_;refine qKW 11 mo (by kernel_rfl) ?_;simp only [vYK,vYX,vYU,vYW];refine jG (zV qWA rfl) rfl rfl rfl ?_;refine jG (jJ 2 ty2 rfl rfl rfl) rfl rfl rfl ?_;refine jG (qV rfl) rfl rfl rfl ?_;refine jG (zV qWA rfl) rfl rfl rfl ?_;refine jG (jJ 2 ty2 rfl rfl rfl) rfl rfl rfl ?_;refine jG (zUI rfl rfl (by first | exact qX ⟨by omega,by omega⟩ | rfl)) rfl rfl rfl ?_;refine zWJ (F:=vI) (uK fWZ rfl (fun w _=>rMod _  w)) rfl rfl rfl ?_; intro r11 hr11;have qr11:0≤r11∧r11 < 65536:=by omega
 refine jG (qJQ rfl rfl (by first | exact qX ⟨by omega,by omega⟩ | rfl)) rfl rfl rfl ?_;refine jG (zV zQV rfl) rfl rfl rfl ?_;refine jG (jJ 2 ty2 rfl rfl rfl) rfl rfl rfl ?_;refine jG (jWW rfl rfl) rfl rfl rfl ?_;refine qVV ?_;refine qUF ?_;refine qG (zJ rfl) rfl rfl rfl ?_;refine zX ?_;refine qZ ?_;refine qQH ?_;refine kW (rs:=[.tmp 4]) rfl (resC (qQW rfl) (resN)) (congrArg (vB) (?_:_=uZ (⟨a0,a1⟩:Iv) c))
 subst_vars; simp [uZ]
theorem xVH (n:Int) (k:Int) (hk:0 < k∧k≤9223372036854775807) (w:World):Calls Tryz.prog 23 [.int .i64 n,.int .i64 k].toArray w (Rets (vI (n % k)) (w)):=by
 refine kZ (n:=15) Tryz.func23 rfl rfl rfl ?_;refine zU ?_;have h0:=Int.lt_tmod_of_pos n hk.1;have h1:=Int.tmod_lt_of_pos n hk.1;refine qJ ?_;refine qG (zJ rfl) rfl rfl rfl ?_;refine zX ?_;refine qZ ?_;refine zU ?_;refine qJ ?_;refine qG (qV rfl) rfl rfl rfl ?_;refine qG (qV rfl) rfl rfl rfl ?_;refine qG (zZG rfl rfl (by first | decide | omega) rfl) rfl rfl rfl ?_;refine qG (zJ rfl) rfl rfl rfl ?_;refine zX ?_;refine qZ ?_;refine zU ?_;refine zU ?_;refine qJ ?_;refine qG (qV rfl) rfl rfl rfl ?_;refine qG (qKB rfl rfl) rfl rfl rfl ?_;refine zX ?_;refine qZ ?_;refine qJK rfl (fun hc10 => ?_) (fun hc10 => ?_)
 ·
  have h2:=vJZ hc10;refine qJ ?_;refine qG (qV rfl) rfl rfl rfl ?_;refine qG (qV rfl) rfl rfl rfl ?_;refine qG (qJQ rfl rfl (by first | exact qX ⟨by omega,by omega⟩ | rfl)) rfl rfl rfl ?_;refine qG (zJ rfl) rfl rfl rfl ?_;refine zX ?_;refine qZ ?_;refine zU ?_;refine qJ ?_;refine qG (qV rfl) rfl rfl rfl ?_;refine qG (zJ rfl) rfl rfl rfl ?_;refine zX ?_;refine qZ ?_;refine qQH ?_;refine kW (rs:=[.tmp 4]) rfl (resC (qQW rfl) (resN)) (congrArg (vI) (?_:_=n % k));exact jXA hk.1 h2
 ·
  have h2:=vJY hc10;refine qZJ ?_;refine qZ ?_;refine zU ?_;refine qJ ?_;refine qG (qV rfl) rfl rfl rfl ?_;refine qG (zJ rfl) rfl rfl rfl ?_;refine zX ?_;refine qZ ?_;refine qQH ?_;refine kW (rs:=[.tmp 4]) rfl (resC (qQW rfl) (resN)) (congrArg (vI) (?_:_=n % k));exact jXH hk.1 h2
namespace Ta
def iw (a:Int):Bool:=decide (-9223372036854775808≤a∧a≤9223372036854775807)
def pw (a:Int):Bool:=decide (0≤a∧a≤1073741824)
theorem jKU {a:Int} (h:iw a=true):In64 a:=by unfold iw at h; simp only [decide_eq_true_eq] at h; unfold In64; omega
theorem fKQ {a:Int} (h:pw a=true):0≤a∧a≤1073741824:=vJZ h
theorem iww (y:Int):iw (vJJ .i64 y)=true:=by
 refine vJQ ?_;unfold IntKind.wrap;have hb:IntKind.i64.bits=64:=rfl;have hs:IntKind.i64.signed=true:=rfl;simp only [hb,hs,vZH,decide_eq_true_eq]
 split <;> omega
theorem kGU {x:Int} (h:0≤x∧x≤8192) (k:Nat):iw (dn x k)=true:=by have:=qJI h k; exact vJQ (by omega)
theorem kGK {x:Int} (h:0≤x∧x≤8192) (k:Nat):iw (up x k)=true:=by have:=qYG h k; exact vJQ (by omega)
theorem kUZ {x:Int} (h:0≤x∧x≤8192) (k:Nat):pw (up x k)=true:=vJQ (qYG h k)
noncomputable def qVU:List PV→Option (Bool × Ret):=fun ps=>match ps with
 | [.n .i64 a,.n .i64 k]=>some (decide (0≤k∧k≤62),.v (.n .i64 (a / 2 ^ Int.toNat k)))
 | _=>none
theorem zHF:zZ Tryz.prog 184 qVU:=by
 intro ps r h;unfold qVU at h;split at h
 ·simp only [vQZ,vQY] at h;obtain ⟨hg,rfl⟩:=h
  try simp only [vQJ,decide_eq_true_eq] at hg
  exact qU (qW Tryz.func184 (by kernel_rfl) (by kernel_rfl)) rfl rfl (fun w=>zYV _ _ hg w)
 ·cases h
noncomputable def LTa1:OrL:=(184,qVU) :: ([]:OrL)
theorem xZW:AllP (fun x:Nat × (List PV→Option (Bool × Ret))=>zZ Tryz.prog x.1 x.2) LTa1:=⟨zHF,trivial⟩
noncomputable def zYY:List PV→Option (Bool × Ret):=fun ps=>match ps with
 | [.n .i64 a,.n .i64 k]=>some (decide (0≤k∧k≤62) && iw a,.v (.n .i64 (zW a (2 ^ Int.toNat k))))
 | _=>none
theorem yWB:zZ Tryz.prog 185 zYY:=by
 intro ps r h;unfold zYY at h;split at h
 ·simp only [vQZ,vQY] at h;obtain ⟨hg,rfl⟩:=h
  try simp only [vQJ,decide_eq_true_eq] at hg
  exact qU (qW Tryz.func185 (by kernel_rfl) (by kernel_rfl)) rfl rfl (fun w=>yZU _ _ hg.1 (jKU hg.2) w)
 ·cases h
noncomputable def LTa2:OrL:=(185,zYY) :: LTa1
theorem xZX:AllP (fun x:Nat × (List PV→Option (Bool × Ret))=>zZ Tryz.prog x.1 x.2) LTa2:=⟨yWB,xZW⟩
noncomputable def zHL:List PV→Option (Bool × Ret):=fun ps=>match ps with
 | [.n .i64 a,.n .i64 b]=>some (decide (0 < b) && iw a,.v (.n .i64 (a / b)))
 | _=>none
theorem jWC:zZ Tryz.prog 165 zHL:=by
 intro ps r h;unfold zHL at h;split at h
 ·simp only [vQZ,vQY] at h;obtain ⟨hg,rfl⟩:=h
  try simp only [vQJ,decide_eq_true_eq] at hg
  exact qU (qW Tryz.func165 (by kernel_rfl) (by kernel_rfl)) rfl rfl (fun w=>jWJ _ _ (jKU hg.2) hg.1 w)
 ·cases h
noncomputable def LTa3:OrL:=(165,zHL) :: LTa2
theorem xZU:AllP (fun x:Nat × (List PV→Option (Bool × Ret))=>zZ Tryz.prog x.1 x.2) LTa3:=⟨jWC,xZX⟩
noncomputable def yVQ:List PV→Option (Bool × Ret):=fun ps=>match ps with
 | [.n .i64 a,.n .i64 b]=>some (decide (0 < b) && iw a,.v (.n .i64 (zW a b)))
 | _=>none
theorem kXJ:zZ Tryz.prog 166 yVQ:=by
 intro ps r h;unfold yVQ at h;split at h
 ·simp only [vQZ,vQY] at h;obtain ⟨hg,rfl⟩:=h
  try simp only [vQJ,decide_eq_true_eq] at hg
  exact qU (qW Tryz.func166 (by kernel_rfl) (by kernel_rfl)) rfl rfl (fun w=>uXF _ _ (jKU hg.2) hg.1 w)
 ·cases h
noncomputable def LTa4:OrL:=(166,yVQ) :: LTa3
theorem xZK:AllP (fun x:Nat × (List PV→Option (Bool × Ret))=>zZ Tryz.prog x.1 x.2) LTa4:=⟨kXJ,xZU⟩
noncomputable def yVX:List PV→Option (Bool × Ret):=fun ps=>match ps with
 | [.n .i64 a,.n .i64 b]=>some (decide (0 < b∧b≤1073741824) && pw a,.v (.n .i64 (zW a b)))
 | _=>none
theorem kXI:zZ Tryz.prog 210 yVX:=by
 intro ps r h;unfold yVX at h;split at h
 ·simp only [vQZ,vQY] at h;obtain ⟨hg,rfl⟩:=h
  try simp only [vQJ,decide_eq_true_eq] at hg
  exact qU (qW Tryz.func210 (by kernel_rfl) (by kernel_rfl)) rfl rfl (fun w=>fWB _ _ (fKQ hg.2) hg.1 w)
 ·cases h
noncomputable def LTa5:OrL:=(210,yVX) :: LTa4
theorem xZJ:AllP (fun x:Nat × (List PV→Option (Bool × Ret))=>zZ Tryz.prog x.1 x.2) LTa5:=⟨kXI,xZK⟩
noncomputable def jGJ:List PV→Option (Bool × Ret):=fun ps=>match ps with
 | [.n .i64 l,.n .i64 a]=>some (iw a,.v (.a (ivC (encI l a))))
 | _=>none
theorem uVG:zZ Tryz.prog 211 jGJ:=by
 intro ps r h;unfold jGJ at h;split at h
 ·simp only [vQZ,vQY] at h;obtain ⟨hg,rfl⟩:=h
  try simp only [vQJ,decide_eq_true_eq] at hg
  exact qU (qW Tryz.func211 (by kernel_rfl) (by kernel_rfl)) rfl rfl (fun w=>aEnc _ _ (jKU hg) w)
 ·cases h
noncomputable def LTa6:OrL:=(211,jGJ) :: LTa5
theorem xZY:AllP (fun x:Nat × (List PV→Option (Bool × Ret))=>zZ Tryz.prog x.1 x.2) LTa6:=⟨uVG,xZJ⟩
noncomputable def jVE:List PV→Option (Bool × Ret):=fun ps=>match ps with
 | [.n .i64 l,.n .i64 a]=>some (iw a && iw l,.v (.a (ivC (encI l a))))
 | _=>none
theorem uWC:zZ Tryz.prog 204 jVE:=by
 intro ps r h;unfold jVE at h;split at h
 ·simp only [vQZ,vQY] at h;obtain ⟨hg,rfl⟩:=h
  try simp only [vQJ,decide_eq_true_eq] at hg
  exact qU (qW Tryz.func204 (by kernel_rfl) (by kernel_rfl)) rfl rfl (fun w=>rEnc _ _ (jKU hg.2) (jKU hg.1) w)
 ·cases h
noncomputable def LTa7:OrL:=(204,jVE) :: LTa6
theorem yGC:AllP (fun x:Nat × (List PV→Option (Bool × Ret))=>zZ Tryz.prog x.1 x.2) LTa7:=⟨uWC,xZY⟩
def wdn (x:Int):Nat→Int
 | 0=>1073741824
 | 1=>(vJJ .i64 (x * 6746518852)) / 65536
 | k + 2=>(vJJ .i64 (wdn x (k + 1) * ((vJJ .i64 (x * 6746518852)) / 65536))) / 1073741824
def wup (x:Int):Nat→Int
 | 0=>1073741824
 | 1=>zW (vJJ .i64 (x * 6746518853)) 65536
 | k + 2=>zW (vJJ .i64 (wup x (k + 1) * zW (vJJ .i64 (x * 6746518853)) 65536)) 1073741824
theorem wmul {a b:Int} (_:0≤a∧a≤1073741824) (_:0≤b∧b≤1073741824):vJJ .i64 (a * b)=a * b:=xVK (by omega) (by omega)
theorem jKF {x:Int} (h:0≤x∧x≤8192):∀ k,wdn x k=dn x k
 | 0=>rfl
 | 1=>by unfold wdn dn; rw [qX (by omega)]
 | k + 2=>by rw [wdn,dn,jKF h (k + 1),qX (show -9223372036854775808≤x * 6746518852∧x * 6746518852≤9223372036854775807 by omega),wmul (qJI h (k + 1)) (show 0≤x * 6746518852 / 65536∧x * 6746518852 / 65536≤1073741824 by omega)]
theorem jKE {x:Int} (h:0≤x∧x≤8192):∀ k,wup x k=up x k
 | 0=>rfl
 | 1=>by unfold wup up; rw [qX (by omega)]
 | k + 2=>by rw [wup,up,jKE h (k + 1),qX (show -9223372036854775808≤x * 6746518853∧x * 6746518853≤9223372036854775807 by omega),wmul (qYG h (k + 1)) (yUI rfl h)]
set_option maxRecDepth 100000 in
theorem uJY (x:Int) (h:0≤x∧x≤8192):zG Tryz.prog 208 [.n .i64 x] (.v (.t [.a [.n .i64 1073741824,.n .i64 (dn x 1),.n .i64 (dn x 2),.n .i64 (dn x 3),.n .i64 (dn x 4),.n .i64 (dn x 5),.n .i64 (dn x 6),.n .i64 (dn x 7),.n .i64 (dn x 8),.n .i64 (dn x 9),.n .i64 (dn x 10)],.a [.n .i64 1073741824,.n .i64 (up x 1),.n .i64 (up x 2),.n .i64 (up x 3),.n .i64 (up x 4),.n .i64 (up x 5),.n .i64 (up x 6),.n .i64 (up x 7),.n .i64 (up x 8),.n .i64 (up x 9),.n .i64 (up x 10)]])):=qH (N:=60) (ps:=[.n .i64 x]) jQ yQ (OrL.ok (l:=LTa7) yGC) ((by kernel_rfl:_=bif iw (vJJ .i64 (x * 6746518853)) then (bif iw (vJJ .i64 (wup x 1 * wup x 1)) then (bif iw (vJJ .i64 (wup x 2 * wup x 1)) then (bif iw (vJJ .i64 (wup x 3 * wup x 1)) then (bif iw (vJJ .i64 (wup x 4 * wup x 1)) then (bif iw (vJJ .i64 (wup x 5 * wup x 1)) then (bif iw (vJJ .i64 (wup x 6 * wup x 1)) then (bif iw (vJJ .i64 (wup x 7 * wup x 1)) then (bif iw (vJJ .i64 (wup x 8 * wup x 1)) then (bif iw (vJJ .i64 (wup x 9 * wup x 1)) then some (.v (.t [.a [.n .i64 1073741824,.n .i64 (wdn x 1),.n .i64 (wdn x 2),.n .i64 (wdn x 3),.n .i64 (wdn x 4),.n .i64 (wdn x 5),.n .i64 (wdn x 6),.n .i64 (wdn x 7),.n .i64 (wdn x 8),.n .i64 (wdn x 9),.n .i64 (wdn x 10)],.a [.n .i64 1073741824,.n .i64 (wup x 1),.n .i64 (wup x 2),.n .i64 (wup x 3),.n .i64 (wup x 4),.n .i64 (wup x 5),.n .i64 (wup x 6),.n .i64 (wup x 7),.n .i64 (wup x 8),.n .i64 (wup x 9),.n .i64 (wup x 10)]]),[])
 else none)
 else none)
 else none)
 else none)
 else none)
 else none)
 else none)
 else none)
 else none)
 else none).trans (by
 simp only [iww,vYV,jKF h,jKE h]))
set_option maxRecDepth 100000 in
theorem uJZ (x:Int) (h:0≤x∧x≤8192):zG Tryz.prog 203 [.n .i64 x] (.v (.t [.a [.n .i64 0,.n .i64 (dn x 1),.n .i64 (dn x 2),.n .i64 (dn x 3),.n .i64 (dn x 4),.n .i64 (dn x 5),.n .i64 (dn x 6),.n .i64 (dn x 7),.n .i64 (dn x 8),.n .i64 (dn x 9),.n .i64 (dn x 10)],.a [.n .i64 0,.n .i64 (up x 1),.n .i64 (up x 2),.n .i64 (up x 3),.n .i64 (up x 4),.n .i64 (up x 5),.n .i64 (up x 6),.n .i64 (up x 7),.n .i64 (up x 8),.n .i64 (up x 9),.n .i64 (up x 10)]])):=qH (N:=60) (ps:=[.n .i64 x]) jQ yQ (OrL.ok (l:=LTa7) yGC) ((by kernel_rfl:_=bif iw (vJJ .i64 (x * 6746518852)) then (bif iw (vJJ .i64 (x * 6746518853)) then (bif iw (vJJ .i64 (wdn x 1 * wdn x 1)) then (bif iw (vJJ .i64 (wup x 1 * wup x 1)) then (bif iw (vJJ .i64 (wdn x 2 * wdn x 1)) then (bif iw (vJJ .i64 (wup x 2 * wup x 1)) then (bif iw (vJJ .i64 (wdn x 3 * wdn x 1)) then (bif iw (vJJ .i64 (wup x 3 * wup x 1)) then (bif iw (vJJ .i64 (wdn x 4 * wdn x 1)) then (bif iw (vJJ .i64 (wup x 4 * wup x 1)) then (bif iw (vJJ .i64 (wdn x 5 * wdn x 1)) then (bif iw (vJJ .i64 (wup x 5 * wup x 1)) then (bif iw (vJJ .i64 (wdn x 6 * wdn x 1)) then (bif iw (vJJ .i64 (wup x 6 * wup x 1)) then (bif iw (vJJ .i64 (wdn x 7 * wdn x 1)) then (bif iw (vJJ .i64 (wup x 7 * wup x 1)) then (bif iw (vJJ .i64 (wdn x 8 * wdn x 1)) then (bif iw (vJJ .i64 (wup x 8 * wup x 1)) then (bif iw (vJJ .i64 (wdn x 9 * wdn x 1)) then (bif iw (vJJ .i64 (wup x 9 * wup x 1)) then some (.v (.t [.a [.n .i64 0,.n .i64 (wdn x 1),.n .i64 (wdn x 2),.n .i64 (wdn x 3),.n .i64 (wdn x 4),.n .i64 (wdn x 5),.n .i64 (wdn x 6),.n .i64 (wdn x 7),.n .i64 (wdn x 8),.n .i64 (wdn x 9),.n .i64 (wdn x 10)],.a [.n .i64 0,.n .i64 (wup x 1),.n .i64 (wup x 2),.n .i64 (wup x 3),.n .i64 (wup x 4),.n .i64 (wup x 5),.n .i64 (wup x 6),.n .i64 (wup x 7),.n .i64 (wup x 8),.n .i64 (wup x 9),.n .i64 (wup x 10)]]),[])
 else none)
 else none)
 else none)
 else none)
 else none)
 else none)
 else none)
 else none)
 else none)
 else none)
 else none)
 else none)
 else none)
 else none)
 else none)
 else none)
 else none)
 else none)
 else none)
 else none).trans (by
 simp only [iww,vYV,jKF h,jKE h]))
noncomputable def jGZ:List PV→Option (Bool × Ret):=fun ps=>match ps with
 | [.n .i64 x]=>some (decide (0≤x∧x≤8192),.v (.t [.a [.n .i64 1073741824,.n .i64 (dn x 1),.n .i64 (dn x 2),.n .i64 (dn x 3),.n .i64 (dn x 4),.n .i64 (dn x 5),.n .i64 (dn x 6),.n .i64 (dn x 7),.n .i64 (dn x 8),.n .i64 (dn x 9),.n .i64 (dn x 10)],.a [.n .i64 1073741824,.n .i64 (up x 1),.n .i64 (up x 2),.n .i64 (up x 3),.n .i64 (up x 4),.n .i64 (up x 5),.n .i64 (up x 6),.n .i64 (up x 7),.n .i64 (up x 8),.n .i64 (up x 9),.n .i64 (up x 10)]]))
 | _=>none
theorem uVW:zZ Tryz.prog 208 jGZ:=by
 intro ps r h;unfold jGZ at h;split at h
 ·simp only [vQZ,vQY] at h;obtain ⟨hg,rfl⟩:=h;exact uJY _ (vJZ hg)
 ·cases h
noncomputable def LTa8:OrL:=(208,jGZ) :: LTa7
theorem xZZ:AllP (fun x:Nat × (List PV→Option (Bool × Ret))=>zZ Tryz.prog x.1 x.2) LTa8:=⟨uVW,yGC⟩
noncomputable def jVB:List PV→Option (Bool × Ret):=fun ps=>match ps with
 | [.n .i64 x]=>some (decide (0≤x∧x≤8192),.v (.t [.a [.n .i64 0,.n .i64 (dn x 1),.n .i64 (dn x 2),.n .i64 (dn x 3),.n .i64 (dn x 4),.n .i64 (dn x 5),.n .i64 (dn x 6),.n .i64 (dn x 7),.n .i64 (dn x 8),.n .i64 (dn x 9),.n .i64 (dn x 10)],.a [.n .i64 0,.n .i64 (up x 1),.n .i64 (up x 2),.n .i64 (up x 3),.n .i64 (up x 4),.n .i64 (up x 5),.n .i64 (up x 6),.n .i64 (up x 7),.n .i64 (up x 8),.n .i64 (up x 9),.n .i64 (up x 10)]]))
 | _=>none
theorem uWH:zZ Tryz.prog 203 jVB:=by
 intro ps r h;unfold jVB at h;split at h
 ·simp only [vQZ,vQY] at h;obtain ⟨hg,rfl⟩:=h;exact uJZ _ (vJZ hg)
 ·cases h
noncomputable def LTa9:OrL:=(203,jVB) :: LTa8
theorem zWC:AllP (fun x:Nat × (List PV→Option (Bool × Ret))=>zZ Tryz.prog x.1 x.2) LTa9:=⟨uWH,xZZ⟩
theorem tdnn {a b:Int} (h:0≤a):a.tdiv b=a / b:=Int.tdiv_eq_ediv_of_nonneg h
def jYJ (x:Int):Int:=(vJJ .i64 ((vJJ .i64 ((vJJ .i64 ((vJJ .i64 (0 + (vJJ .i64 (1 * (dn x 1))))) + (vJJ .i64 ((-1) * zW (up x 3) 6)))) + (vJJ .i64 (1 * (vJJ .i64 ((dn x 5).tdiv 120)))))) + (vJJ .i64 ((-1) * zW (up x 7) 5040))))
theorem kZK {x:Int} (h:0≤x∧x≤8192):jYJ x=sinL x:=by
 have d1:=qJI h 1;have d5:=qJI h 5;have u3:=qYG h 3;have u7:=qYG h 7;have c3:=yW (r:=zW (up x 3) 6) rfl u3 (by decide);have c7:=yW (r:=zW (up x 7) 5040) rfl u7 (by decide);unfold jYJ sinL;simp only [tdnn d5.1];have w0:vJJ .i64 (1 * (dn x 1))=(1 * (dn x 1)):=qX (by omega);have w1:vJJ .i64 (0 + (1 * (dn x 1)))=(0 + (1 * (dn x 1))):=qX (by omega);have w2:vJJ .i64 ((-1) * zW (up x 3) 6)=((-1) * zW (up x 3) 6):=qX (by omega);have w3:vJJ .i64 ((0 + (1 * (dn x 1))) + ((-1) * zW (up x 3) 6))=((0 + (1 * (dn x 1))) + ((-1) * zW (up x 3) 6)):=qX (by omega);have w4:vJJ .i64 (((dn x 5) / 120))=(((dn x 5) / 120)):=qX (by omega);have w5:vJJ .i64 (1 * (((dn x 5) / 120)))=(1 * (((dn x 5) / 120))):=qX (by omega);have w6:vJJ .i64 (((0 + (1 * (dn x 1))) + ((-1) * zW (up x 3) 6)) + (1 * (((dn x 5) / 120))))=(((0 + (1 * (dn x 1))) + ((-1) * zW (up x 3) 6)) + (1 * (((dn x 5) / 120)))):=qX (by omega);have w7:vJJ .i64 ((-1) * zW (up x 7) 5040)=((-1) * zW (up x 7) 5040):=qX (by omega);have w8:vJJ .i64 ((((0 + (1 * (dn x 1))) + ((-1) * zW (up x 3) 6)) + (1 * (((dn x 5) / 120)))) + ((-1) * zW (up x 7) 5040))=((((0 + (1 * (dn x 1))) + ((-1) * zW (up x 3) 6)) + (1 * (((dn x 5) / 120)))) + ((-1) * zW (up x 7) 5040)):=qX (by omega);simp only [w0,w1,w2,w3,w4,w5,w6,w7,w8]
 try omega
def yUX (x:Int):Int:=(vJJ .i64 ((vJJ .i64 ((vJJ .i64 ((vJJ .i64 ((vJJ .i64 (0 + (vJJ .i64 (1 * (up x 1))))) + (vJJ .i64 ((-1) * (vJJ .i64 ((dn x 3).tdiv 6)))))) + (vJJ .i64 (1 * zW (up x 5) 120)))) + (vJJ .i64 ((-1) * (vJJ .i64 ((dn x 7).tdiv 5040)))))) + (vJJ .i64 (1 * zW (up x 9) 362880))))
theorem kZJ {x:Int} (h:0≤x∧x≤8192):yUX x=sinU x:=by
 have d3:=qJI h 3;have d7:=qJI h 7;have u1:=qYG h 1;have u5:=qYG h 5;have u9:=qYG h 9;have c5:=yW (r:=zW (up x 5) 120) rfl u5 (by decide);have c9:=yW (r:=zW (up x 9) 362880) rfl u9 (by decide);unfold yUX sinU;simp only [tdnn d3.1,tdnn d7.1];have w0:vJJ .i64 (1 * (up x 1))=(1 * (up x 1)):=qX (by omega);have w1:vJJ .i64 (0 + (1 * (up x 1)))=(0 + (1 * (up x 1))):=qX (by omega);have w2:vJJ .i64 (((dn x 3) / 6))=(((dn x 3) / 6)):=qX (by omega);have w3:vJJ .i64 ((-1) * (((dn x 3) / 6)))=((-1) * (((dn x 3) / 6))):=qX (by omega);have w4:vJJ .i64 ((0 + (1 * (up x 1))) + ((-1) * (((dn x 3) / 6))))=((0 + (1 * (up x 1))) + ((-1) * (((dn x 3) / 6)))):=qX (by omega);have w5:vJJ .i64 (1 * zW (up x 5) 120)=(1 * zW (up x 5) 120):=qX (by omega);have w6:vJJ .i64 (((0 + (1 * (up x 1))) + ((-1) * (((dn x 3) / 6)))) + (1 * zW (up x 5) 120))=(((0 + (1 * (up x 1))) + ((-1) * (((dn x 3) / 6)))) + (1 * zW (up x 5) 120)):=qX (by omega);have w7:vJJ .i64 (((dn x 7) / 5040))=(((dn x 7) / 5040)):=qX (by omega);have w8:vJJ .i64 ((-1) * (((dn x 7) / 5040)))=((-1) * (((dn x 7) / 5040))):=qX (by omega);have w9:vJJ .i64 ((((0 + (1 * (up x 1))) + ((-1) * (((dn x 3) / 6)))) + (1 * zW (up x 5) 120)) + ((-1) * (((dn x 7) / 5040))))=((((0 + (1 * (up x 1))) + ((-1) * (((dn x 3) / 6)))) + (1 * zW (up x 5) 120)) + ((-1) * (((dn x 7) / 5040)))):=qX (by omega);have w10:vJJ .i64 (1 * zW (up x 9) 362880)=(1 * zW (up x 9) 362880):=qX (by omega);have w11:vJJ .i64 (((((0 + (1 * (up x 1))) + ((-1) * (((dn x 3) / 6)))) + (1 * zW (up x 5) 120)) + ((-1) * (((dn x 7) / 5040)))) + (1 * zW (up x 9) 362880))=(((((0 + (1 * (up x 1))) + ((-1) * (((dn x 3) / 6)))) + (1 * zW (up x 5) 120)) + ((-1) * (((dn x 7) / 5040)))) + (1 * zW (up x 9) 362880)):=qX (by omega);simp only [w0,w1,w2,w3,w4,w5,w6,w7,w8,w9,w10,w11]
 try omega
end Ta
set_option maxRecDepth 100000 in
theorem fWA (x:Int) (h:0≤x∧x≤8192) (w:World):Calls Tryz.prog 206 [.int .i64 x].toArray w (Rets (iv (zHK x)) (w)) :=
 zY (x:=.a (ivC (zHK x))) (qH (N:=60) (ps:=[.n .i64 x]) jQ yQ (OrL.ok (l:=LTa9) zWC) ((by kernel_rfl:_=bif decide (0≤x∧x≤8192) then (bif pw (up x 3) then (bif pw (up x 7) then (bif pw (up x 5) then (bif pw (up x 9) then (bif iw (yUX x) then some (.v (.a (ivC (encI (jYJ x) (yUX x)))),[])
 else none)
 else none)
 else none)
 else none)
 else none)
 else none).trans (by
 have iL:iw (jYJ x)=true:=iww _;have iU:iw (yUX x)=true:=iww _;rw [kZK h] at iL ⊢;rw [kZJ h] at iU ⊢;simp only [vJQ h,kUZ h,kGK h,kGU h,iL,iU,vYV,vZJ]
 rfl))) rfl rfl w
namespace Ta
def zKA (x:Int):Int:=(vJJ .i64 ((vJJ .i64 ((vJJ .i64 ((vJJ .i64 ((vJJ .i64 (1073741824 + (vJJ .i64 ((-1) * zW (up x 2) 2)))) + (vJJ .i64 (1 * (vJJ .i64 ((dn x 4).tdiv 24)))))) + (vJJ .i64 ((-1) * zW (up x 6) 720)))) + (vJJ .i64 (1 * (vJJ .i64 ((dn x 8).tdiv 40320)))))) + (vJJ .i64 ((-1) * zW (up x 10) 3628800))))
theorem yGW {x:Int} (h:0≤x∧x≤8192):zKA x=cosL x:=by
 have d4:=qJI h 4;have d8:=qJI h 8;have u2:=qYG h 2;have u6:=qYG h 6;have u10:=qYG h 10;have c10:=yW (r:=zW (up x 10) 3628800) rfl u10 (by decide);have c2:=yW (r:=zW (up x 2) 2) rfl u2 (by decide);have c6:=yW (r:=zW (up x 6) 720) rfl u6 (by decide);unfold zKA cosL;simp only [tdnn d4.1,tdnn d8.1];have w0:vJJ .i64 ((-1) * zW (up x 2) 2)=((-1) * zW (up x 2) 2):=qX (by omega);have w1:vJJ .i64 (1073741824 + ((-1) * zW (up x 2) 2))=(1073741824 + ((-1) * zW (up x 2) 2)):=qX (by omega);have w2:vJJ .i64 (((dn x 4) / 24))=(((dn x 4) / 24)):=qX (by omega);have w3:vJJ .i64 (1 * (((dn x 4) / 24)))=(1 * (((dn x 4) / 24))):=qX (by omega);have w4:vJJ .i64 ((1073741824 + ((-1) * zW (up x 2) 2)) + (1 * (((dn x 4) / 24))))=((1073741824 + ((-1) * zW (up x 2) 2)) + (1 * (((dn x 4) / 24)))):=qX (by omega);have w5:vJJ .i64 ((-1) * zW (up x 6) 720)=((-1) * zW (up x 6) 720):=qX (by omega);have w6:vJJ .i64 (((1073741824 + ((-1) * zW (up x 2) 2)) + (1 * (((dn x 4) / 24)))) + ((-1) * zW (up x 6) 720))=(((1073741824 + ((-1) * zW (up x 2) 2)) + (1 * (((dn x 4) / 24)))) + ((-1) * zW (up x 6) 720)):=qX (by omega);have w7:vJJ .i64 (((dn x 8) / 40320))=(((dn x 8) / 40320)):=qX (by omega);have w8:vJJ .i64 (1 * (((dn x 8) / 40320)))=(1 * (((dn x 8) / 40320))):=qX (by omega);have w9:vJJ .i64 ((((1073741824 + ((-1) * zW (up x 2) 2)) + (1 * (((dn x 4) / 24)))) + ((-1) * zW (up x 6) 720)) + (1 * (((dn x 8) / 40320))))=((((1073741824 + ((-1) * zW (up x 2) 2)) + (1 * (((dn x 4) / 24)))) + ((-1) * zW (up x 6) 720)) + (1 * (((dn x 8) / 40320)))):=qX (by omega);have w10:vJJ .i64 ((-1) * zW (up x 10) 3628800)=((-1) * zW (up x 10) 3628800):=qX (by omega);have w11:vJJ .i64 (((((1073741824 + ((-1) * zW (up x 2) 2)) + (1 * (((dn x 4) / 24)))) + ((-1) * zW (up x 6) 720)) + (1 * (((dn x 8) / 40320)))) + ((-1) * zW (up x 10) 3628800))=(((((1073741824 + ((-1) * zW (up x 2) 2)) + (1 * (((dn x 4) / 24)))) + ((-1) * zW (up x 6) 720)) + (1 * (((dn x 8) / 40320)))) + ((-1) * zW (up x 10) 3628800)):=qX (by omega);simp only [w0,w1,w2,w3,w4,w5,w6,w7,w8,w9,w10,w11]
 try omega
def zQF (x:Int):Int:=(vJJ .i64 ((vJJ .i64 ((vJJ .i64 ((vJJ .i64 (1073741824 + (vJJ .i64 ((-1) * (vJJ .i64 ((dn x 2).tdiv 2)))))) + (vJJ .i64 (1 * zW (up x 4) 24)))) + (vJJ .i64 ((-1) * (vJJ .i64 ((dn x 6).tdiv 720)))))) + (vJJ .i64 (1 * zW (up x 8) 40320))))
theorem yGX {x:Int} (h:0≤x∧x≤8192):zQF x=cosU x:=by
 have d2:=qJI h 2;have d6:=qJI h 6;have u4:=qYG h 4;have u8:=qYG h 8;have c4:=yW (r:=zW (up x 4) 24) rfl u4 (by decide);have c8:=yW (r:=zW (up x 8) 40320) rfl u8 (by decide);unfold zQF cosU;simp only [tdnn d2.1,tdnn d6.1];have w0:vJJ .i64 (((dn x 2) / 2))=(((dn x 2) / 2)):=qX (by omega);have w1:vJJ .i64 ((-1) * (((dn x 2) / 2)))=((-1) * (((dn x 2) / 2))):=qX (by omega);have w2:vJJ .i64 (1073741824 + ((-1) * (((dn x 2) / 2))))=(1073741824 + ((-1) * (((dn x 2) / 2)))):=qX (by omega);have w3:vJJ .i64 (1 * zW (up x 4) 24)=(1 * zW (up x 4) 24):=qX (by omega);have w4:vJJ .i64 ((1073741824 + ((-1) * (((dn x 2) / 2)))) + (1 * zW (up x 4) 24))=((1073741824 + ((-1) * (((dn x 2) / 2)))) + (1 * zW (up x 4) 24)):=qX (by omega);have w5:vJJ .i64 (((dn x 6) / 720))=(((dn x 6) / 720)):=qX (by omega);have w6:vJJ .i64 ((-1) * (((dn x 6) / 720)))=((-1) * (((dn x 6) / 720))):=qX (by omega);have w7:vJJ .i64 (((1073741824 + ((-1) * (((dn x 2) / 2)))) + (1 * zW (up x 4) 24)) + ((-1) * (((dn x 6) / 720))))=(((1073741824 + ((-1) * (((dn x 2) / 2)))) + (1 * zW (up x 4) 24)) + ((-1) * (((dn x 6) / 720)))):=qX (by omega);have w8:vJJ .i64 (1 * zW (up x 8) 40320)=(1 * zW (up x 8) 40320):=qX (by omega);have w9:vJJ .i64 ((((1073741824 + ((-1) * (((dn x 2) / 2)))) + (1 * zW (up x 4) 24)) + ((-1) * (((dn x 6) / 720)))) + (1 * zW (up x 8) 40320))=((((1073741824 + ((-1) * (((dn x 2) / 2)))) + (1 * zW (up x 4) 24)) + ((-1) * (((dn x 6) / 720)))) + (1 * zW (up x 8) 40320)):=qX (by omega);simp only [w0,w1,w2,w3,w4,w5,w6,w7,w8,w9]
 try omega
end Ta
set_option maxRecDepth 100000 in
theorem uHX (x:Int) (h:0≤x∧x≤8192) (w:World):Calls Tryz.prog 207 [.int .i64 x].toArray w (Rets (iv (qWG x)) (w)) :=
 zY (x:=.a (ivC (qWG x))) (qH (N:=60) (ps:=[.n .i64 x]) jQ yQ (OrL.ok (l:=LTa9) zWC) ((by kernel_rfl:_=bif decide (0≤x∧x≤8192) then (bif pw (up x 2) then (bif pw (up x 6) then (bif pw (up x 10) then (bif pw (up x 4) then (bif pw (up x 8) then (bif iw (zQF x) then some (.v (.a (ivC (encI (zKA x) (zQF x)))),[])
 else none)
 else none)
 else none)
 else none)
 else none)
 else none)
 else none).trans (by
 have iL:iw (zKA x)=true:=iww _;have iU:iw (zQF x)=true:=iww _;rw [yGW h] at iL ⊢;rw [yGX h] at iU ⊢;simp only [vJQ h,kUZ h,kGK h,kGU h,iL,iU,vYV,vZJ]
 rfl))) rfl rfl w
namespace Ta
def yYI (x:Int):Int:=(vJJ .i64 ((vJJ .i64 ((vJJ .i64 ((dn x 1) - zW (up x 3) 6)) + (dn x 5) / 120)) - zW (up x 7) 5040))
theorem jWY {x:Int} (h:0≤x∧x≤8192):yYI x=sinL x:=by
 have d1:=qJI h 1;have d5:=qJI h 5;have u3:=qYG h 3;have u7:=qYG h 7;have c3:=yW (r:=zW (up x 3) 6) rfl u3 (by decide);have c7:=yW (r:=zW (up x 7) 5040) rfl u7 (by decide);unfold yYI sinL;have w0:vJJ .i64 ((dn x 1) - zW (up x 3) 6)=((dn x 1) - zW (up x 3) 6):=qX (by omega);have w1:vJJ .i64 (((dn x 1) - zW (up x 3) 6) + (dn x 5) / 120)=(((dn x 1) - zW (up x 3) 6) + (dn x 5) / 120):=qX (by omega);have w2:vJJ .i64 ((((dn x 1) - zW (up x 3) 6) + (dn x 5) / 120) - zW (up x 7) 5040)=((((dn x 1) - zW (up x 3) 6) + (dn x 5) / 120) - zW (up x 7) 5040):=qX (by omega);simp only [w0,w1,w2]
 try omega
def yYF (x:Int):Int:=(vJJ .i64 ((vJJ .i64 ((vJJ .i64 ((vJJ .i64 ((up x 1) - (dn x 3) / 6)) + zW (up x 5) 120)) - (dn x 7) / 5040)) + zW (up x 9) 362880))
theorem jWZ {x:Int} (h:0≤x∧x≤8192):yYF x=sinU x:=by
 have d3:=qJI h 3;have d7:=qJI h 7;have u1:=qYG h 1;have u5:=qYG h 5;have u9:=qYG h 9;have c5:=yW (r:=zW (up x 5) 120) rfl u5 (by decide);have c9:=yW (r:=zW (up x 9) 362880) rfl u9 (by decide);unfold yYF sinU;have w0:vJJ .i64 ((up x 1) - (dn x 3) / 6)=((up x 1) - (dn x 3) / 6):=qX (by omega);have w1:vJJ .i64 (((up x 1) - (dn x 3) / 6) + zW (up x 5) 120)=(((up x 1) - (dn x 3) / 6) + zW (up x 5) 120):=qX (by omega);have w2:vJJ .i64 ((((up x 1) - (dn x 3) / 6) + zW (up x 5) 120) - (dn x 7) / 5040)=((((up x 1) - (dn x 3) / 6) + zW (up x 5) 120) - (dn x 7) / 5040):=qX (by omega);have w3:vJJ .i64 (((((up x 1) - (dn x 3) / 6) + zW (up x 5) 120) - (dn x 7) / 5040) + zW (up x 9) 362880)=(((((up x 1) - (dn x 3) / 6) + zW (up x 5) 120) - (dn x 7) / 5040) + zW (up x 9) 362880):=qX (by omega);simp only [w0,w1,w2,w3]
 try omega
end Ta
set_option maxRecDepth 100000 in
theorem fZL (x:Int) (h:0≤x∧x≤8192) (w:World):Calls Tryz.prog 196 [.int .i64 x].toArray w (Rets (iv (zHK x)) (w)) :=
 zY (x:=.a (ivC (zHK x))) (qH (N:=60) (ps:=[.n .i64 x]) jQ yQ (OrL.ok (l:=LTa9) zWC) ((by kernel_rfl:_=bif decide (0≤x∧x≤8192) then (bif iw (up x 3) then (bif iw (dn x 5) then (bif iw (up x 7) then (bif iw (dn x 3) then (bif iw (up x 5) then (bif iw (dn x 7) then (bif iw (up x 9) then (bif (iw (yYF x) && iw (yYI x)) then some (.v (.a (ivC (encI (yYI x) (yYF x)))),[])
 else none)
 else none)
 else none)
 else none)
 else none)
 else none)
 else none)
 else none)
 else none).trans (by
 have iL:iw (yYI x)=true:=iww _;have iU:iw (yYF x)=true:=iww _;rw [jWY h] at iL ⊢;rw [jWZ h] at iU ⊢;simp only [vJQ h,kUZ h,kGK h,kGU h,iL,iU,vYV,vZJ]
 rfl))) rfl rfl w
namespace Ta
def qHD (x:Int):Int:=(vJJ .i64 ((vJJ .i64 ((vJJ .i64 ((vJJ .i64 ((vJJ .i64 (1073741824 - zW (up x 2) 2)) + (dn x 4) / 24)) - zW (up x 6) 720)) + (dn x 8) / 40320)) - zW (up x 10) 3628800))
theorem yXE {x:Int} (h:0≤x∧x≤8192):qHD x=cosL x:=by
 have d4:=qJI h 4;have d8:=qJI h 8;have u2:=qYG h 2;have u6:=qYG h 6;have u10:=qYG h 10;have c10:=yW (r:=zW (up x 10) 3628800) rfl u10 (by decide);have c2:=yW (r:=zW (up x 2) 2) rfl u2 (by decide);have c6:=yW (r:=zW (up x 6) 720) rfl u6 (by decide);unfold qHD cosL;have w0:vJJ .i64 (1073741824 - zW (up x 2) 2)=(1073741824 - zW (up x 2) 2):=qX (by omega);have w1:vJJ .i64 ((1073741824 - zW (up x 2) 2) + (dn x 4) / 24)=((1073741824 - zW (up x 2) 2) + (dn x 4) / 24):=qX (by omega);have w2:vJJ .i64 (((1073741824 - zW (up x 2) 2) + (dn x 4) / 24) - zW (up x 6) 720)=(((1073741824 - zW (up x 2) 2) + (dn x 4) / 24) - zW (up x 6) 720):=qX (by omega);have w3:vJJ .i64 ((((1073741824 - zW (up x 2) 2) + (dn x 4) / 24) - zW (up x 6) 720) + (dn x 8) / 40320)=((((1073741824 - zW (up x 2) 2) + (dn x 4) / 24) - zW (up x 6) 720) + (dn x 8) / 40320):=qX (by omega);have w4:vJJ .i64 (((((1073741824 - zW (up x 2) 2) + (dn x 4) / 24) - zW (up x 6) 720) + (dn x 8) / 40320) - zW (up x 10) 3628800)=(((((1073741824 - zW (up x 2) 2) + (dn x 4) / 24) - zW (up x 6) 720) + (dn x 8) / 40320) - zW (up x 10) 3628800):=qX (by omega);simp only [w0,w1,w2,w3,w4]
 try omega
def qHC (x:Int):Int:=(vJJ .i64 ((vJJ .i64 ((vJJ .i64 ((vJJ .i64 (1073741824 - (dn x 2) / 2)) + zW (up x 4) 24)) - (dn x 6) / 720)) + zW (up x 8) 40320))
theorem yXD {x:Int} (h:0≤x∧x≤8192):qHC x=cosU x:=by
 have d2:=qJI h 2;have d6:=qJI h 6;have u4:=qYG h 4;have u8:=qYG h 8;have c4:=yW (r:=zW (up x 4) 24) rfl u4 (by decide);have c8:=yW (r:=zW (up x 8) 40320) rfl u8 (by decide);unfold qHC cosU;have w0:vJJ .i64 (1073741824 - (dn x 2) / 2)=(1073741824 - (dn x 2) / 2):=qX (by omega);have w1:vJJ .i64 ((1073741824 - (dn x 2) / 2) + zW (up x 4) 24)=((1073741824 - (dn x 2) / 2) + zW (up x 4) 24):=qX (by omega);have w2:vJJ .i64 (((1073741824 - (dn x 2) / 2) + zW (up x 4) 24) - (dn x 6) / 720)=(((1073741824 - (dn x 2) / 2) + zW (up x 4) 24) - (dn x 6) / 720):=qX (by omega);have w3:vJJ .i64 ((((1073741824 - (dn x 2) / 2) + zW (up x 4) 24) - (dn x 6) / 720) + zW (up x 8) 40320)=((((1073741824 - (dn x 2) / 2) + zW (up x 4) 24) - (dn x 6) / 720) + zW (up x 8) 40320):=qX (by omega);simp only [w0,w1,w2,w3]
 try omega
end Ta
set_option maxRecDepth 100000 in
theorem uXE (x:Int) (h:0≤x∧x≤8192) (w:World):Calls Tryz.prog 197 [.int .i64 x].toArray w (Rets (iv (qWG x)) (w)) :=
 zY (x:=.a (ivC (qWG x))) (qH (N:=60) (ps:=[.n .i64 x]) jQ yQ (OrL.ok (l:=LTa9) zWC) ((by kernel_rfl:_=bif decide (0≤x∧x≤8192) then (bif iw (up x 2) then (bif iw (dn x 4) then (bif iw (up x 6) then (bif iw (dn x 8) then (bif iw (up x 10) then (bif iw (dn x 2) then (bif iw (up x 4) then (bif iw (dn x 6) then (bif iw (up x 8) then (bif (iw (qHC x) && iw (qHD x)) then some (.v (.a (ivC (encI (qHD x) (qHC x)))),[])
 else none)
 else none)
 else none)
 else none)
 else none)
 else none)
 else none)
 else none)
 else none)
 else none)
 else none).trans (by
 have iL:iw (qHD x)=true:=iww _;have iU:iw (qHC x)=true:=iww _;rw [yXE h] at iL ⊢;rw [yXD h] at iU ⊢;simp only [vJQ h,kUZ h,kGK h,kGU h,iL,iU,vYV,vZJ]
 rfl))) rfl rfl w
namespace Ta
noncomputable def yVU:List PV→Option (Bool × Ret):=fun ps=>match ps with
 | [.n .i64 x]=>some (decide (0≤x∧x≤8192),.v (.a (ivC (zHK x))))
 | _=>none
theorem kXF:zZ Tryz.prog 206 yVU:=by
 intro ps r h;unfold yVU at h;split at h
 ·simp only [vQZ,vQY] at h;obtain ⟨hg,rfl⟩:=h
  try simp only [vQJ,decide_eq_true_eq] at hg
  exact qU (qW Tryz.func206 (by kernel_rfl) (by kernel_rfl)) rfl rfl (fun w=>fWA _ hg w)
 ·cases h
noncomputable def fZK:OrL:=(206,yVU) :: LTa9
theorem uQD:AllP (fun x:Nat × (List PV→Option (Bool × Ret))=>zZ Tryz.prog x.1 x.2) fZK:=⟨kXF,zWC⟩
noncomputable def zXX:List PV→Option (Bool × Ret):=fun ps=>match ps with
 | [.n .i64 x]=>some (decide (0≤x∧x≤8192),.v (.a (ivC (qWG x))))
 | _=>none
theorem jJF:zZ Tryz.prog 207 zXX:=by
 intro ps r h;unfold zXX at h;split at h
 ·simp only [vQZ,vQY] at h;obtain ⟨hg,rfl⟩:=h
  try simp only [vQJ,decide_eq_true_eq] at hg
  exact qU (qW Tryz.func207 (by kernel_rfl) (by kernel_rfl)) rfl rfl (fun w=>uHX _ hg w)
 ·cases h
noncomputable def fZJ:OrL:=(207,zXX) :: fZK
theorem uQC:AllP (fun x:Nat × (List PV→Option (Bool × Ret))=>zZ Tryz.prog x.1 x.2) fZJ:=⟨jJF,uQD⟩
noncomputable def yWI:List PV→Option (Bool × Ret):=fun ps=>match ps with
 | [.n .i64 x]=>some (decide (0≤x∧x≤8192),.v (.a (ivC (zHK x))))
 | _=>none
theorem kXZ:zZ Tryz.prog 196 yWI:=by
 intro ps r h;unfold yWI at h;split at h
 ·simp only [vQZ,vQY] at h;obtain ⟨hg,rfl⟩:=h
  try simp only [vQJ,decide_eq_true_eq] at hg
  exact qU (qW Tryz.func196 (by kernel_rfl) (by kernel_rfl)) rfl rfl (fun w=>fZL _ hg w)
 ·cases h
noncomputable def fZY:OrL:=(196,yWI) :: fZJ
theorem uQB:AllP (fun x:Nat × (List PV→Option (Bool × Ret))=>zZ Tryz.prog x.1 x.2) fZY:=⟨kXZ,uQC⟩
noncomputable def zXK:List PV→Option (Bool × Ret):=fun ps=>match ps with
 | [.n .i64 x]=>some (decide (0≤x∧x≤8192),.v (.a (ivC (qWG x))))
 | _=>none
theorem jJB:zZ Tryz.prog 197 zXK:=by
 intro ps r h;unfold zXK at h;split at h
 ·simp only [vQZ,vQY] at h;obtain ⟨hg,rfl⟩:=h
  try simp only [vQJ,decide_eq_true_eq] at hg
  exact qU (qW Tryz.func197 (by kernel_rfl) (by kernel_rfl)) rfl rfl (fun w=>uXE _ hg w)
 ·cases h
noncomputable def uQA:OrL:=(197,zXK) :: fZY
theorem yZI:AllP (fun x:Nat × (List PV→Option (Bool × Ret))=>zZ Tryz.prog x.1 x.2) uQA:=⟨jJB,uQB⟩
end Ta
set_option maxRecDepth 100000 in
theorem xHF (r:Int) (_:0≤r∧r≤16384) (w:World):Calls Tryz.prog 202 [.int .i64 r].toArray w (Rets (iv (qYF r)) (w)) :=
 zY (x:=.a (ivC (qYF r))) (qH (N:=60) (ps:=[.n .i64 r]) jQ yQ (OrL.ok (l:=uQA) yZI) ((by kernel_rfl:_=bif (decide (r≤8192)) then (bif decide (0≤r∧r≤8192) then some (.v (.a (ivC (zHK r))),[])
 else none)
 else bif decide (0≤(vJJ .i64 (16384 - r))∧(vJJ .i64 (16384 - r))≤8192) then some (.v (.a (ivC (qWG (vJJ .i64 (16384 - r))))),[])
 else none).trans (by
 by_cases p:r≤8192
 ·simp only [vJQ p,vYV,vJQ (show 0≤r∧r≤8192 by omega)];unfold qYF;rw [vJQ p]; rfl
 ·have w0:vJJ .i64 (16384 - r)=16384 - r:=qX (by omega);simp only [w0,vYH p,vYG,vJQ (show 0≤16384 - r∧16384 - r≤8192 by omega),vYV];unfold qYF;rw [vYH p]; rfl))) rfl rfl w
set_option maxRecDepth 100000 in
theorem kKF (r:Int) (_:0≤r∧r≤16384) (w:World):Calls Tryz.prog 192 [.int .i64 r].toArray w (Rets (iv (qYF r)) (w)) :=
 zY (x:=.a (ivC (qYF r))) (qH (N:=60) (ps:=[.n .i64 r]) jQ yQ (OrL.ok (l:=uQA) yZI) ((by kernel_rfl:_=bif (decide (r≤8192)) then (bif decide (0≤r∧r≤8192) then some (.v (.a (ivC (zHK r))),[])
 else none)
 else bif decide (0≤(vJJ .i64 (16384 - r))∧(vJJ .i64 (16384 - r))≤8192) then some (.v (.a (ivC (qWG (vJJ .i64 (16384 - r))))),[])
 else none).trans (by
 by_cases p:r≤8192
 ·simp only [vJQ p,vYV,vJQ (show 0≤r∧r≤8192 by omega)];unfold qYF;rw [vJQ p]; rfl
 ·have w0:vJJ .i64 (16384 - r)=16384 - r:=qX (by omega);simp only [w0,vYH p,vYG,vJQ (show 0≤16384 - r∧16384 - r≤8192 by omega),vYV];unfold qYF;rw [vYH p]; rfl))) rfl rfl w
namespace Ta
noncomputable def yQH:List PV→Option (Bool × Ret):=fun ps=>match ps with
 | [.n .i64 r]=>some (decide (0≤r∧r≤16384),.v (.a (ivC (qYF r))))
 | _=>none
theorem jVV:zZ Tryz.prog 202 yQH:=by
 intro ps r h;unfold yQH at h;split at h
 ·simp only [vQZ,vQY] at h;obtain ⟨hg,rfl⟩:=h
  try simp only [vQJ,decide_eq_true_eq] at hg
  exact qU (qW Tryz.func202 (by kernel_rfl) (by kernel_rfl)) rfl rfl (fun w=>xHF _ hg w)
 ·cases h
noncomputable def fZZ:OrL:=(202,yQH) :: uQA
theorem uQH:AllP (fun x:Nat × (List PV→Option (Bool × Ret))=>zZ Tryz.prog x.1 x.2) fZZ:=⟨jVV,yZI⟩
noncomputable def zZC:List PV→Option (Bool × Ret):=fun ps=>match ps with
 | [.n .i64 r]=>some (decide (0≤r∧r≤16384),.v (.a (ivC (qYF r))))
 | _=>none
theorem yWJ:zZ Tryz.prog 192 zZC:=by
 intro ps r h;unfold zZC at h;split at h
 ·simp only [vQZ,vQY] at h;obtain ⟨hg,rfl⟩:=h
  try simp only [vQJ,decide_eq_true_eq] at hg
  exact qU (qW Tryz.func192 (by kernel_rfl) (by kernel_rfl)) rfl rfl (fun w=>kKF _ hg w)
 ·cases h
noncomputable def fZQ:OrL:=(192,zZC) :: fZZ
theorem uQG:AllP (fun x:Nat × (List PV→Option (Bool × Ret))=>zZ Tryz.prog x.1 x.2) fZQ:=⟨yWJ,uQH⟩
noncomputable def jGY:List PV→Option (Bool × Ret):=fun ps=>match ps with
 | [.n .i64 a]=>some (true,.v (.n .i64 ((a % 65536))))
 | _=>none
theorem uVV:zZ Tryz.prog 201 jGY:=by
 intro ps r h;unfold jGY at h;split at h
 ·simp only [vQZ,vQY] at h;obtain ⟨hg,rfl⟩:=h;exact qU (qW Tryz.func201 (by kernel_rfl) (by kernel_rfl)) rfl rfl (fun w=>aMod _ w)
 ·cases h
noncomputable def fQL:OrL:=(201,jGY) :: fZQ
theorem uQV:AllP (fun x:Nat × (List PV→Option (Bool × Ret))=>zZ Tryz.prog x.1 x.2) fQL:=⟨uVV,uQG⟩
noncomputable def jVD:List PV→Option (Bool × Ret):=fun ps=>match ps with
 | [.n .i64 a]=>some (true,.v (.n .i64 ((a % 65536))))
 | _=>none
theorem uWB:zZ Tryz.prog 191 jVD:=by
 intro ps r h;unfold jVD at h;split at h
 ·simp only [vQZ,vQY] at h;obtain ⟨hg,rfl⟩:=h;exact qU (qW Tryz.func191 (by kernel_rfl) (by kernel_rfl)) rfl rfl (fun w=>rMod _ w)
 ·cases h
noncomputable def fQI:OrL:=(191,jVD) :: fQL
theorem uQW:AllP (fun x:Nat × (List PV→Option (Bool × Ret))=>zZ Tryz.prog x.1 x.2) fQI:=⟨uWB,uQV⟩
noncomputable def o_iNeg:List PV→Option (Bool × Ret):=fun ps=>match ps with
 | [.a a']=>(ivD a').bind fun a=>some (true,.v (.a (ivC (Iv.neg a))))
 | _=>none
theorem ok_iNeg:zZ Tryz.prog 188 o_iNeg:=by
 intro ps r h;unfold o_iNeg at h;split at h
 ·simp only [vQQ,vQZ,vQY] at h;obtain ⟨a,ha,hg,rfl⟩:=h;rw [qQF ha];exact qU (qW Tryz.func188 (by kernel_rfl) (by kernel_rfl)) rfl rfl (fun w=>iNeg _ _ w)
 ·cases h
noncomputable def fQF:OrL:=(188,o_iNeg) :: fQI
theorem uQX:AllP (fun x:Nat × (List PV→Option (Bool × Ret))=>zZ Tryz.prog x.1 x.2) fQF:=⟨ok_iNeg,uQW⟩
noncomputable def o_rNeg:List PV→Option (Bool × Ret):=fun ps=>match ps with
 | [.a a']=>(ivD a').bind fun a=>some (true,.v (.a (ivC (Iv.neg a))))
 | _=>none
theorem ok_rNeg:zZ Tryz.prog 175 o_rNeg:=by
 intro ps r h;unfold o_rNeg at h;split at h
 ·simp only [vQQ,vQZ,vQY] at h;obtain ⟨a,ha,hg,rfl⟩:=h;rw [qQF ha];exact qU (qW Tryz.func175 (by kernel_rfl) (by kernel_rfl)) rfl rfl (fun w=>rNeg _ _ w)
 ·cases h
noncomputable def uQU:OrL:=(175,o_rNeg) :: fQF
theorem yZF:AllP (fun x:Nat × (List PV→Option (Bool × Ret))=>zZ Tryz.prog x.1 x.2) uQU:=⟨ok_rNeg,uQX⟩
end Ta
set_option maxRecDepth 100000 in
theorem aSin (a:Int) (w:World):Calls Tryz.prog 195 [.int .i64 a].toArray w (Rets (iv (sinI a)) (w)) :=
 zY (x:=.a (ivC (sinI a))) (qH (N:=60) (ps:=[.n .i64 a]) jQ yQ (OrL.ok (l:=uQU) yZF) ((by kernel_rfl:_=bif (decide ((vJJ .i64 ((a % 65536).tdiv 16384))=0)) then (bif decide (0≤((a % 65536).tmod 16384)∧((a % 65536).tmod 16384)≤16384) then some (.v (.a (ivC (qYF ((a % 65536).tmod 16384)))),[])
 else none)
 else bif (decide ((vJJ .i64 ((a % 65536).tdiv 16384))=1)) then (bif decide (0≤(vJJ .i64 (16384 - ((a % 65536).tmod 16384)))∧(vJJ .i64 (16384 - ((a % 65536).tmod 16384)))≤16384) then some (.v (.a (ivC (qYF (vJJ .i64 (16384 - ((a % 65536).tmod 16384)))))),[])
 else none)
 else bif (decide ((vJJ .i64 ((a % 65536).tdiv 16384))=2)) then (bif decide (0≤((a % 65536).tmod 16384)∧((a % 65536).tmod 16384)≤16384) then some (.v (.a (ivC (Iv.neg (qYF ((a % 65536).tmod 16384))))),[])
 else none)
 else bif decide (0≤(vJJ .i64 (16384 - ((a % 65536).tmod 16384)))∧(vJJ .i64 (16384 - ((a % 65536).tmod 16384)))≤16384) then some (.v (.a (ivC (Iv.neg (qYF (vJJ .i64 (16384 - ((a % 65536).tmod 16384))))))),[])
 else none).trans (by
 have ht:(a % 65536).tdiv 16384=a % 65536 / 16384:=tdnn (by omega);have hm:(a % 65536).tmod 16384=a % 65536 % 16384:=Int.tmod_eq_emod_of_nonneg (by omega);have w1:vJJ .i64 (a % 65536 % 16384)=a % 65536 % 16384:=qX (by omega);have w2:vJJ .i64 (a % 65536 / 16384)=a % 65536 / 16384:=qX (by omega);have w3:vJJ .i64 (16384 - a % 65536 % 16384)=16384 - a % 65536 % 16384:=qX (by omega);simp only [ht,hm,w1,w2,w3,vJQ (show 0≤a % 65536 % 16384∧a % 65536 % 16384≤16384 by omega),vJQ (show 0≤16384 - a % 65536 % 16384∧16384 - a % 65536 % 16384≤16384 by omega),vYV];unfold sinI sinM;cases decide (a % 65536 / 16384=0) <;> cases decide (a % 65536 / 16384=1) <;> cases decide (a % 65536 / 16384=2) <;> rfl))) rfl rfl w
set_option maxRecDepth 100000 in
theorem rSin (a:Int) (w:World):Calls Tryz.prog 183 [.int .i64 a].toArray w (Rets (iv (sinI a)) (w)) :=
 zY (x:=.a (ivC (sinI a))) (qH (N:=60) (ps:=[.n .i64 a]) jQ yQ (OrL.ok (l:=uQU) yZF) ((by kernel_rfl:_=bif (decide ((vJJ .i64 ((a % 65536).tdiv 16384))=0)) then (bif decide (0≤((a % 65536).tmod 16384)∧((a % 65536).tmod 16384)≤16384) then some (.v (.a (ivC (qYF ((a % 65536).tmod 16384)))),[])
 else none)
 else bif (decide ((vJJ .i64 ((a % 65536).tdiv 16384))=1)) then (bif decide (0≤(vJJ .i64 (16384 - ((a % 65536).tmod 16384)))∧(vJJ .i64 (16384 - ((a % 65536).tmod 16384)))≤16384) then some (.v (.a (ivC (qYF (vJJ .i64 (16384 - ((a % 65536).tmod 16384)))))),[])
 else none)
 else bif (decide ((vJJ .i64 ((a % 65536).tdiv 16384))=2)) then (bif decide (0≤((a % 65536).tmod 16384)∧((a % 65536).tmod 16384)≤16384) then some (.v (.a (ivC (Iv.neg (qYF ((a % 65536).tmod 16384))))),[])
 else none)
 else bif decide (0≤(vJJ .i64 (16384 - ((a % 65536).tmod 16384)))∧(vJJ .i64 (16384 - ((a % 65536).tmod 16384)))≤16384) then some (.v (.a (ivC (Iv.neg (qYF (vJJ .i64 (16384 - ((a % 65536).tmod 16384))))))),[])
 else none).trans (by
 have ht:(a % 65536).tdiv 16384=a % 65536 / 16384:=tdnn (by omega);have hm:(a % 65536).tmod 16384=a % 65536 % 16384:=Int.tmod_eq_emod_of_nonneg (by omega);have w1:vJJ .i64 (a % 65536 % 16384)=a % 65536 % 16384:=qX (by omega);have w2:vJJ .i64 (a % 65536 / 16384)=a % 65536 / 16384:=qX (by omega);have w3:vJJ .i64 (16384 - a % 65536 % 16384)=16384 - a % 65536 % 16384:=qX (by omega);simp only [ht,hm,w1,w2,w3,vJQ (show 0≤a % 65536 % 16384∧a % 65536 % 16384≤16384 by omega),vJQ (show 0≤16384 - a % 65536 % 16384∧16384 - a % 65536 % 16384≤16384 by omega),vYV];unfold sinI sinM;cases decide (a % 65536 / 16384=0) <;> cases decide (a % 65536 / 16384=1) <;> cases decide (a % 65536 / 16384=2) <;> rfl))) rfl rfl w
namespace Ta
noncomputable def jGQ:List PV→Option (Bool × Ret):=fun ps=>match ps with
 | [.n .i64 a]=>some (true,.v (.a (ivC (sinI a))))
 | _=>none
theorem uVX:zZ Tryz.prog 195 jGQ:=by
 intro ps r h;unfold jGQ at h;split at h
 ·simp only [vQZ,vQY] at h;obtain ⟨hg,rfl⟩:=h;exact qU (qW Tryz.func195 (by kernel_rfl) (by kernel_rfl)) rfl rfl (fun w=>aSin _ w)
 ·cases h
noncomputable def fQE:OrL:=(195,jGQ) :: uQU
theorem uQK:AllP (fun x:Nat × (List PV→Option (Bool × Ret))=>zZ Tryz.prog x.1 x.2) fQE:=⟨uVX,yZF⟩
noncomputable def jVA:List PV→Option (Bool × Ret):=fun ps=>match ps with
 | [.n .i64 a]=>some (true,.v (.a (ivC (sinI a))))
 | _=>none
theorem uWG:zZ Tryz.prog 183 jVA:=by
 intro ps r h;unfold jVA at h;split at h
 ·simp only [vQZ,vQY] at h;obtain ⟨hg,rfl⟩:=h;exact qU (qW Tryz.func183 (by kernel_rfl) (by kernel_rfl)) rfl rfl (fun w=>rSin _ w)
 ·cases h
noncomputable def uQJ:OrL:=(183,jVA) :: fQE
theorem yZE:AllP (fun x:Nat × (List PV→Option (Bool × Ret))=>zZ Tryz.prog x.1 x.2) uQJ:=⟨uWG,uQK⟩
end Ta
set_option maxRecDepth 100000 in
theorem aCos (a:Int) (w:World):Calls Tryz.prog 194 [.int .i64 a].toArray w (Rets (iv (cosI a)) (w)) :=
 zY (x:=.a (ivC (cosI a))) (qH (N:=60) (ps:=[.n .i64 a]) jQ yQ (OrL.ok (l:=uQJ) yZE) ((by kernel_rfl:_=some (.v (.a (ivC (sinI (vJJ .i64 ((a % 65536) + 16384))))),[])).trans (by
 rw [qX (show -9223372036854775808≤a % 65536 + 16384∧a % 65536 + 16384≤9223372036854775807 by omega)]
 rfl))) rfl rfl w
set_option maxRecDepth 100000 in
theorem rCos (a:Int) (w:World):Calls Tryz.prog 182 [.int .i64 a].toArray w (Rets (iv (cosI a)) (w)) :=
 zY (x:=.a (ivC (cosI a))) (qH (N:=60) (ps:=[.n .i64 a]) jQ yQ (OrL.ok (l:=uQJ) yZE) ((by kernel_rfl:_=some (.v (.a (ivC (sinI (vJJ .i64 ((a % 65536) + 16384))))),[])).trans (by
 rw [qX (show -9223372036854775808≤a % 65536 + 16384∧a % 65536 + 16384≤9223372036854775807 by omega)]
 rfl))) rfl rfl w
namespace Ta
noncomputable def jGK:List PV→Option (Bool × Ret):=fun ps=>match ps with
 | [.n .i64 a]=>some (true,.v (.a (ivC (cosI a))))
 | _=>none
theorem uVH:zZ Tryz.prog 194 jGK:=by
 intro ps r h;unfold jGK at h;split at h
 ·simp only [vQZ,vQY] at h;obtain ⟨hg,rfl⟩:=h;exact qU (qW Tryz.func194 (by kernel_rfl) (by kernel_rfl)) rfl rfl (fun w=>aCos _ w)
 ·cases h
noncomputable def fQD:OrL:=(194,jGK) :: uQJ
theorem uQY:AllP (fun x:Nat × (List PV→Option (Bool × Ret))=>zZ Tryz.prog x.1 x.2) fQD:=⟨uVH,yZE⟩
noncomputable def jVF:List PV→Option (Bool × Ret):=fun ps=>match ps with
 | [.n .i64 a]=>some (true,.v (.a (ivC (cosI a))))
 | _=>none
theorem uWD:zZ Tryz.prog 182 jVF:=by
 intro ps r h;unfold jVF at h;split at h
 ·simp only [vQZ,vQY] at h;obtain ⟨hg,rfl⟩:=h;exact qU (qW Tryz.func182 (by kernel_rfl) (by kernel_rfl)) rfl rfl (fun w=>rCos _ w)
 ·cases h
noncomputable def fQC:OrL:=(182,jVF) :: fQD
theorem uQZ:AllP (fun x:Nat × (List PV→Option (Bool × Ret))=>zZ Tryz.prog x.1 x.2) fQC:=⟨uWD,uQY⟩
noncomputable def fQB:OrL:=(145,Tn.o_iValid) :: fQC
theorem uQQ:AllP (fun x:Nat × (List PV→Option (Bool × Ret))=>zZ Tryz.prog x.1 x.2) fQB:=⟨Tn.ok_iValid,uQZ⟩
noncomputable def yVK:List PV→Option (Bool × Ret):=fun ps=>match ps with
 | [.a a',.a b']=>(ivD a').bind fun a=>(ivD b').bind fun b=>some (true,.v (.a (ivC (Iv.hull a b))))
 | _=>none
theorem kXH:zZ Tryz.prog 199 yVK:=by
 intro ps r h;unfold yVK at h;split at h
 ·simp only [vQQ,vQZ,vQY] at h;obtain ⟨a,ha,b,hb,hg,rfl⟩:=h;rw [qQF ha];rw [qQF hb];exact qU (qW Tryz.func199 (by kernel_rfl) (by kernel_rfl)) rfl rfl (fun w=>fXE _ _ _ _ w)
 ·cases h
noncomputable def fQA:OrL:=(199,yVK) :: fQB
theorem kHL:AllP (fun x:Nat × (List PV→Option (Bool × Ret))=>zZ Tryz.prog x.1 x.2) fQA:=⟨kXH,uQQ⟩
noncomputable def o_iOf:List PV→Option (Bool × Ret):=fun ps=>match ps with
 | [.n .i64 x]=>some (true,.v (.a (ivC (Iv.of x))))
 | _=>none
theorem ok_iOf:zZ Tryz.prog 128 o_iOf:=by
 intro ps r h;unfold o_iOf at h;split at h
 ·simp only [vQZ,vQY] at h;obtain ⟨hg,rfl⟩:=h;exact qU (qW Tryz.func128 (by kernel_rfl) (by kernel_rfl)) rfl rfl (fun w=>iOf _ w)
 ·cases h
noncomputable def fQH:OrL:=(128,o_iOf) :: fQA
theorem kHI:AllP (fun x:Nat × (List PV→Option (Bool × Ret))=>zZ Tryz.prog x.1 x.2) fQH:=⟨ok_iOf,kHL⟩
noncomputable def fQG:OrL:=(152,Tn.o_rValid) :: fQH
theorem kHF:AllP (fun x:Nat × (List PV→Option (Bool × Ret))=>zZ Tryz.prog x.1 x.2) fQG:=⟨Tn.ok_rValid,kHI⟩
noncomputable def yWL:List PV→Option (Bool × Ret):=fun ps=>match ps with
 | [.a a',.a b']=>(ivD a').bind fun a=>(ivD b').bind fun b=>some (true,.v (.a (ivC (Iv.hull a b))))
 | _=>none
theorem kXY:zZ Tryz.prog 189 yWL:=by
 intro ps r h;unfold yWL at h;split at h
 ·simp only [vQQ,vQZ,vQY] at h;obtain ⟨a,ha,b,hb,hg,rfl⟩:=h;rw [qQF ha];rw [qQF hb];exact qU (qW Tryz.func189 (by kernel_rfl) (by kernel_rfl)) rfl rfl (fun w=>fYQ _ _ _ _ w)
 ·cases h
noncomputable def fQV:OrL:=(189,yWL) :: fQG
theorem kHE:AllP (fun x:Nat × (List PV→Option (Bool × Ret))=>zZ Tryz.prog x.1 x.2) fQV:=⟨kXY,kHF⟩
noncomputable def o_rOf:List PV→Option (Bool × Ret):=fun ps=>match ps with
 | [.n .i64 x]=>some (true,.v (.a (ivC (Iv.of x))))
 | _=>none
theorem ok_rOf:zZ Tryz.prog 47 o_rOf:=by
 intro ps r h;unfold o_rOf at h;split at h
 ·simp only [vQZ,vQY] at h;obtain ⟨hg,rfl⟩:=h;exact qU (qW Tryz.func47 (by kernel_rfl) (by kernel_rfl)) rfl rfl (fun w=>rOf _ w)
 ·cases h
noncomputable def fQW:OrL:=(47,o_rOf) :: fQV
theorem kHD:AllP (fun x:Nat × (List PV→Option (Bool × Ret))=>zZ Tryz.prog x.1 x.2) fQW:=⟨ok_rOf,kHE⟩
noncomputable def yQW:List PV→Option (Bool × Ret):=fun ps=>match ps with
 | [.a a']=>(ivD a').bind fun a=>some (true,.v (.n .i64 (Iv.width a)))
 | _=>none
theorem jVY:zZ Tryz.prog 198 yQW:=by
 intro ps r h;unfold yQW at h;split at h
 ·simp only [vQQ,vQZ,vQY] at h;obtain ⟨a,ha,hg,rfl⟩:=h;rw [qQF ha];exact qU (qW Tryz.func198 (by kernel_rfl) (by kernel_rfl)) rfl rfl (fun w=>xVI _ _ w)
 ·cases h
noncomputable def fQX:OrL:=(198,yQW) :: fQW
theorem kHC:AllP (fun x:Nat × (List PV→Option (Bool × Ret))=>zZ Tryz.prog x.1 x.2) fQX:=⟨jVY,kHD⟩
noncomputable def yQG:List PV→Option (Bool × Ret):=fun ps=>match ps with
 | [.a a',.n .i64 c]=>(ivD a').bind fun a=>some (decide (0≤c∧c < 65536) && Iv.valid a,.v (.b (uZ a c)))
 | _=>none
theorem jVW:zZ Tryz.prog 200 yQG:=by
 intro ps r h;unfold yQG at h;split at h
 ·simp only [vQQ,vQZ,vQY] at h;obtain ⟨a,ha,hg,rfl⟩:=h;rw [qQF ha]
  try simp only [vQJ,decide_eq_true_eq] at hg
  exact qU (qW Tryz.func200 (by kernel_rfl) (by kernel_rfl)) rfl rfl (fun w=>xHE _ _ _ hg.2 hg.1 w)
 ·cases h
noncomputable def fQU:OrL:=(200,yQG) :: fQX
theorem kHB:AllP (fun x:Nat × (List PV→Option (Bool × Ret))=>zZ Tryz.prog x.1 x.2) fQU:=⟨jVW,kHC⟩
noncomputable def zHI:List PV→Option (Bool × Ret):=fun ps=>match ps with
 | [.a a',.n .i64 c]=>(ivD a').bind fun a=>some (decide (0≤c∧c < 65536) && Iv.valid a,.v (.b (uZ a c)))
 | _=>none
theorem jWB:zZ Tryz.prog 190 zHI:=by
 intro ps r h;unfold zHI at h;split at h
 ·simp only [vQQ,vQZ,vQY] at h;obtain ⟨a,ha,hg,rfl⟩:=h;rw [qQF ha]
  try simp only [vQJ,decide_eq_true_eq] at hg
  exact qU (qW Tryz.func190 (by kernel_rfl) (by kernel_rfl)) rfl rfl (fun w=>xJW _ _ _ hg.2 hg.1 w)
 ·cases h
noncomputable def kZV:OrL:=(190,zHI) :: fQU
theorem zKC:AllP (fun x:Nat × (List PV→Option (Bool × Ret))=>zZ Tryz.prog x.1 x.2) kZV:=⟨jWB,kHB⟩
end Ta
set_option maxRecDepth 100000 in
theorem kHK (a0 a1:Int) (w:World):Calls Tryz.prog 187 [.agg #[.int .i64 a0,.int .i64 a1]].toArray w (Rets (iv (kG (⟨a0,a1⟩:Iv))) (w)) :=
 zY (x:=.a (ivC (kG ⟨a0,a1⟩))) (qH (N:=60) (ps:=[.a [.n .i64 a0,.n .i64 a1]]) jQ yQ (OrL.ok (l:=kZV) zKC) ((by kernel_rfl:_=bif Iv.valid (Iv.mk a0 a1) then (bif (decide (65536≤Iv.width (Iv.mk a0 a1))) then some (.v (.a [.n .i64 (-65536),.n .i64 65536]),[])
 else bif Iv.valid (Iv.mk a0 a1) then (bif uZ (Iv.mk a0 a1) 16384 then (bif Iv.valid (Iv.mk a0 a1) then (bif uZ (Iv.mk a0 a1) 49152 then some (.v (.a (ivC (Iv.hull (Iv.hull (Iv.hull (sinI a0) (sinI a1)) (Iv.of 65536)) (Iv.of (-65536))))),[])
 else some (.v (.a (ivC (Iv.hull (Iv.hull (sinI a0) (sinI a1)) (Iv.of 65536)))),[]))
 else none)
 else bif Iv.valid (Iv.mk a0 a1) then (bif uZ (Iv.mk a0 a1) 49152 then some (.v (.a (ivC (Iv.hull (Iv.hull (sinI a0) (sinI a1)) (Iv.of (-65536))))),[])
 else some (.v (.a (ivC (Iv.hull (sinI a0) (sinI a1)))),[]))
 else none)
 else none)
 else some (.v (.a [.n .i64 0,.n .i64 0]),[])).trans (by
 have e:kG ⟨a0,a1⟩=bif !Iv.valid (Iv.mk a0 a1) then ⟨0,0⟩ else bif decide (65536≤a1 - a0) then ⟨-65536,65536⟩ else bif uZ (Iv.mk a0 a1) 49152 then Iv.hull (bif uZ (Iv.mk a0 a1) 16384 then Iv.hull (Iv.hull (sinI a0) (sinI a1)) (Iv.of 65536) else Iv.hull (sinI a0) (sinI a1)) (Iv.of (-65536)) else (bif uZ (Iv.mk a0 a1) 16384 then Iv.hull (Iv.hull (sinI a0) (sinI a1)) (Iv.of 65536) else Iv.hull (sinI a0) (sinI a1)):=rfl
 rw [e];cases hv:Iv.valid (Iv.mk a0 a1) with
 | false=>rfl
 | true =>
  have hb:=uG hv;have hw:Iv.width (Iv.mk a0 a1)=a1 - a0:=by unfold Iv.width; rw [hv]; rfl
  rw [hw];cases decide (65536≤a1 - a0) <;> cases uZ (Iv.mk a0 a1) 16384 <;> cases uZ (Iv.mk a0 a1) 49152 <;> rfl))) rfl rfl w
set_option maxRecDepth 100000 in
theorem kHU (a0 a1:Int) (w:World):Calls Tryz.prog 186 [.agg #[.int .i64 a0,.int .i64 a1]].toArray w (Rets (iv (kH (⟨a0,a1⟩:Iv))) (w)) :=
 zY (x:=.a (ivC (kH ⟨a0,a1⟩))) (qH (N:=60) (ps:=[.a [.n .i64 a0,.n .i64 a1]]) jQ yQ (OrL.ok (l:=kZV) zKC) ((by kernel_rfl:_=bif Iv.valid (Iv.mk a0 a1) then (bif (decide (65536≤Iv.width (Iv.mk a0 a1))) then some (.v (.a [.n .i64 (-65536),.n .i64 65536]),[])
 else bif Iv.valid (Iv.mk a0 a1) then (bif uZ (Iv.mk a0 a1) 0 then (bif Iv.valid (Iv.mk a0 a1) then (bif uZ (Iv.mk a0 a1) 32768 then some (.v (.a (ivC (Iv.hull (Iv.hull (Iv.hull (cosI a0) (cosI a1)) (Iv.of 65536)) (Iv.of (-65536))))),[])
 else some (.v (.a (ivC (Iv.hull (Iv.hull (cosI a0) (cosI a1)) (Iv.of 65536)))),[]))
 else none)
 else bif Iv.valid (Iv.mk a0 a1) then (bif uZ (Iv.mk a0 a1) 32768 then some (.v (.a (ivC (Iv.hull (Iv.hull (cosI a0) (cosI a1)) (Iv.of (-65536))))),[])
 else some (.v (.a (ivC (Iv.hull (cosI a0) (cosI a1)))),[]))
 else none)
 else none)
 else some (.v (.a [.n .i64 0,.n .i64 0]),[])).trans (by
 have e:kH ⟨a0,a1⟩=bif !Iv.valid (Iv.mk a0 a1) then ⟨0,0⟩ else bif decide (65536≤a1 - a0) then ⟨-65536,65536⟩ else bif uZ (Iv.mk a0 a1) 32768 then Iv.hull (bif uZ (Iv.mk a0 a1) 0 then Iv.hull (Iv.hull (cosI a0) (cosI a1)) (Iv.of 65536) else Iv.hull (cosI a0) (cosI a1)) (Iv.of (-65536)) else (bif uZ (Iv.mk a0 a1) 0 then Iv.hull (Iv.hull (cosI a0) (cosI a1)) (Iv.of 65536) else Iv.hull (cosI a0) (cosI a1)):=rfl
 rw [e];cases hv:Iv.valid (Iv.mk a0 a1) with
 | false=>rfl
 | true =>
  have hb:=uG hv;have hw:Iv.width (Iv.mk a0 a1)=a1 - a0:=by unfold Iv.width; rw [hv]; rfl
  rw [hw];cases decide (65536≤a1 - a0) <;> cases uZ (Iv.mk a0 a1) 0 <;> cases uZ (Iv.mk a0 a1) 32768 <;> rfl))) rfl rfl w
set_option maxRecDepth 100000 in
theorem kKE (a0 a1:Int) (w:World):Calls Tryz.prog 174 [.agg #[.int .i64 a0,.int .i64 a1]].toArray w (Rets (iv (kG (⟨a0,a1⟩:Iv))) (w)) :=
 zY (x:=.a (ivC (kG ⟨a0,a1⟩))) (qH (N:=60) (ps:=[.a [.n .i64 a0,.n .i64 a1]]) jQ yQ (OrL.ok (l:=kZV) zKC) ((by kernel_rfl:_=bif Iv.valid (Iv.mk a0 a1) then (bif (decide (65536≤(vJJ .i64 (a1 - a0)))) then some (.v (.a [.n .i64 (-65536),.n .i64 65536]),[])
 else bif Iv.valid (Iv.mk a0 a1) then (bif uZ (Iv.mk a0 a1) 16384 then (bif Iv.valid (Iv.mk a0 a1) then (bif uZ (Iv.mk a0 a1) 49152 then some (.v (.a (ivC (Iv.hull (Iv.hull (Iv.hull (sinI a0) (sinI a1)) (Iv.of 65536)) (Iv.of (-65536))))),[])
 else some (.v (.a (ivC (Iv.hull (Iv.hull (sinI a0) (sinI a1)) (Iv.of 65536)))),[]))
 else none)
 else bif Iv.valid (Iv.mk a0 a1) then (bif uZ (Iv.mk a0 a1) 49152 then some (.v (.a (ivC (Iv.hull (Iv.hull (sinI a0) (sinI a1)) (Iv.of (-65536))))),[])
 else some (.v (.a (ivC (Iv.hull (sinI a0) (sinI a1)))),[]))
 else none)
 else none)
 else some (.v (.a [.n .i64 0,.n .i64 0]),[])).trans (by
 have e:kG ⟨a0,a1⟩=bif !Iv.valid (Iv.mk a0 a1) then ⟨0,0⟩ else bif decide (65536≤a1 - a0) then ⟨-65536,65536⟩ else bif uZ (Iv.mk a0 a1) 49152 then Iv.hull (bif uZ (Iv.mk a0 a1) 16384 then Iv.hull (Iv.hull (sinI a0) (sinI a1)) (Iv.of 65536) else Iv.hull (sinI a0) (sinI a1)) (Iv.of (-65536)) else (bif uZ (Iv.mk a0 a1) 16384 then Iv.hull (Iv.hull (sinI a0) (sinI a1)) (Iv.of 65536) else Iv.hull (sinI a0) (sinI a1)):=rfl
 rw [e];cases hv:Iv.valid (Iv.mk a0 a1) with
 | false=>rfl
 | true =>
  have hb:=uG hv;have hw:vJJ .i64 (a1 - a0)=a1 - a0:=qX (by omega);rw [hw];cases decide (65536≤a1 - a0) <;> cases uZ (Iv.mk a0 a1) 16384 <;> cases uZ (Iv.mk a0 a1) 49152 <;> rfl))) rfl rfl w
set_option maxRecDepth 100000 in
theorem kKI (a0 a1:Int) (w:World):Calls Tryz.prog 173 [.agg #[.int .i64 a0,.int .i64 a1]].toArray w (Rets (iv (kH (⟨a0,a1⟩:Iv))) (w)) :=
 zY (x:=.a (ivC (kH ⟨a0,a1⟩))) (qH (N:=60) (ps:=[.a [.n .i64 a0,.n .i64 a1]]) jQ yQ (OrL.ok (l:=kZV) zKC) ((by kernel_rfl:_=bif Iv.valid (Iv.mk a0 a1) then (bif (decide (65536≤(vJJ .i64 (a1 - a0)))) then some (.v (.a [.n .i64 (-65536),.n .i64 65536]),[])
 else bif Iv.valid (Iv.mk a0 a1) then (bif uZ (Iv.mk a0 a1) 0 then (bif Iv.valid (Iv.mk a0 a1) then (bif uZ (Iv.mk a0 a1) 32768 then some (.v (.a (ivC (Iv.hull (Iv.hull (Iv.hull (cosI a0) (cosI a1)) (Iv.of 65536)) (Iv.of (-65536))))),[])
 else some (.v (.a (ivC (Iv.hull (Iv.hull (cosI a0) (cosI a1)) (Iv.of 65536)))),[]))
 else none)
 else bif Iv.valid (Iv.mk a0 a1) then (bif uZ (Iv.mk a0 a1) 32768 then some (.v (.a (ivC (Iv.hull (Iv.hull (cosI a0) (cosI a1)) (Iv.of (-65536))))),[])
 else some (.v (.a (ivC (Iv.hull (cosI a0) (cosI a1)))),[]))
 else none)
 else none)
 else some (.v (.a [.n .i64 0,.n .i64 0]),[])).trans (by
 have e:kH ⟨a0,a1⟩=bif !Iv.valid (Iv.mk a0 a1) then ⟨0,0⟩ else bif decide (65536≤a1 - a0) then ⟨-65536,65536⟩ else bif uZ (Iv.mk a0 a1) 32768 then Iv.hull (bif uZ (Iv.mk a0 a1) 0 then Iv.hull (Iv.hull (cosI a0) (cosI a1)) (Iv.of 65536) else Iv.hull (cosI a0) (cosI a1)) (Iv.of (-65536)) else (bif uZ (Iv.mk a0 a1) 0 then Iv.hull (Iv.hull (cosI a0) (cosI a1)) (Iv.of 65536) else Iv.hull (cosI a0) (cosI a1)):=rfl
 rw [e];cases hv:Iv.valid (Iv.mk a0 a1) with
 | false=>rfl
 | true =>
  have hb:=uG hv;have hw:vJJ .i64 (a1 - a0)=a1 - a0:=qX (by omega);rw [hw];cases decide (65536≤a1 - a0) <;> cases uZ (Iv.mk a0 a1) 0 <;> cases uZ (Iv.mk a0 a1) 32768 <;> rfl))) rfl rfl w
end Go.Proofs.YtmeldddgjfocdaaGreat
namespace Go.Proofs.YtmeldddgjfocdaaGreat
open Go.Sx Go.Rx Rt Go.RowKit
namespace Tm
end Tm
open Tm
theorem fXV:qKL Tryz.prog 201=some ([.int .i64 0,.int .i64 0,.int .i64 0,.int .i64 0],[(0,1),(1,1),(2,1),(3,1)]):=by kernel_rfl
theorem fZW:qJY Tryz.prog 201 (.agg #[.int .i64 0,.int .i64 0,.int .i64 0,.int .i64 0]):=by unfold qJY; kernel_rfl
theorem xZC:tyB Tryz.prog 201 true 4=true:=by kernel_rfl
theorem xHA:arrB Tryz.prog 201 4 1=true:=by kernel_rfl
theorem fWY:uV Tryz.prog 179:=qW Tryz.func179 (by kernel_rfl) (by kernel_rfl)
theorem uGA (a:Int) (b:Int) (_:In64 a) (hb:In64 b) (_:b≤4611686018427387904) (w:World):Calls Tryz.prog 179 [.int .i64 a,.int .i64 b].toArray w (Rets (iv (Iv.mk (qQK (a / 65536)) (qQK (zW b 65536)))) (w)):=by
 refine kZ (n:=10) Tryz.func179 rfl rfl rfl ?_;refine zU ?_;refine qJ ?_;refine qUA 4 ze62 rfl rfl rfl ?_; intro b4;refine zX ?_;refine qZ ?_;refine zU ?_;refine qJ ?_;refine qG (qV rfl) rfl rfl rfl ?_;refine qKD (F:=vI) (uK xGD rfl (fun w _=>zYV _ _ (by decide) w)) rfl rfl rfl ?_; intro r6 hr6;refine qG (qV rfl) rfl rfl rfl ?_;refine qKD (F:=vI) (uK xGC rfl (fun w _=>yZU _ _ (by decide) hb w)) rfl rfl rfl ?_; intro r8 hr8;refine qKD (F:=iv) (uK fWU rfl (fun w _=>jZY _ _  w)) rfl rfl rfl ?_; intro r9 hr9;refine qYK 4 ty62 rfl rfl rfl rfl rfl rfl rfl rfl ?_;refine zX ?_;refine qZ ?_;refine qQH ?_;refine kW (rs:=[.cell 4 62]) rfl (resC (qJB 4 rfl rfl ty62 rfl) (resN)) (congrArg (iv) (?_:⟨_,_⟩=Iv.mk (qQK (a / 65536)) (qQK (zW b 65536))))
 subst_vars; rfl
theorem fXD {p0 p1 p2 p3:Int}:∀ w:World,(Instr.index 201 (.agg #[.int .i64 p0,.int .i64 p1,.int .i64 p2,.int .i64 p3]) (.int .i64 0)).run Tryz.prog w=.ok (.int .i64 p0) w:=fun w=>by kernel_rfl
theorem fXC {p0 p1 p2 p3:Int}:∀ w:World,(Instr.index 201 (.agg #[.int .i64 p0,.int .i64 p1,.int .i64 p2,.int .i64 p3]) (.int .i64 1)).run Tryz.prog w=.ok (.int .i64 p1) w:=fun w=>by kernel_rfl
theorem fXB {p0 p1 p2 p3:Int}:∀ w:World,(Instr.index 201 (.agg #[.int .i64 p0,.int .i64 p1,.int .i64 p2,.int .i64 p3]) (.int .i64 2)).run Tryz.prog w=.ok (.int .i64 p2) w:=fun w=>by kernel_rfl
theorem fXA {p0 p1 p2 p3:Int}:∀ w:World,(Instr.index 201 (.agg #[.int .i64 p0,.int .i64 p1,.int .i64 p2,.int .i64 p3]) (.int .i64 3)).run Tryz.prog w=.ok (.int .i64 p3) w:=fun w=>by kernel_rfl
theorem iMul (a0 a1:Int) (b0 b1:Int) (w:World):Calls Tryz.prog 161 [.agg #[.int .i64 a0,.int .i64 a1],.agg #[.int .i64 b0,.int .i64 b1]].toArray w (Rets (iv (Iv.mul (⟨a0,a1⟩:Iv) (⟨b0,b1⟩:Iv))) (w)):=by
 refine kZ (n:=54) Tryz.func161 rfl rfl rfl ?_;refine zU ?_;refine qJ ?_;refine qVW 2 rfl rfl rfl rfl ?_; intro b2;refine qVW 3 rfl rfl rfl rfl ?_; intro b3;refine qUA 4 ze62 rfl rfl rfl ?_; intro b4;refine zX ?_;refine qZ ?_;refine zU ?_;refine zU ?_;refine qJ ?_;refine qG (qYY 2 ty62 rfl rfl rfl) rfl rfl rfl ?_;refine qG (qYY 3 ty62 rfl rfl rfl) rfl rfl rfl ?_;refine qKD (F:=vB) (uK fWJ rfl (fun w _=>uGH _ _ _ _  w)) rfl rfl rfl ?_; intro r12 hr12;refine qG (zUL rfl) rfl rfl rfl ?_;refine zX ?_;refine qZ ?_;refine qJK rfl (fun hc13 => ?_) (fun hc13 => ?_)
 ·
  refine zU ?_;refine qJ ?_;refine qG (qKX la62 rfl rfl) rfl rfl rfl ?_;refine qYK 4 ty62 rfl rfl rfl rfl rfl rfl rfl rfl ?_;refine zX ?_;refine qZ ?_;refine qQH ?_;refine qXE ?_;refine kW (rs:=[.cell 4 62]) rfl (resC (qJB 4 rfl rfl ty62 rfl) (resN)) (congrArg (iv) (?_:⟨_,_⟩=Iv.mul (⟨a0,a1⟩:Iv) (⟨b0,b1⟩:Iv)))
  subst_vars; first | (simp_all [Iv.mul,min4,max4]; done) | (simp_all [Iv.mul,min4,max4] <;> omega) | grind [Iv.mul,min4,max4]
 ·
  refine qZJ ?_;refine qZ ?_;refine zU ?_;have hv:=(hr12.symm.trans (by simpa using hc13))
  rw [vQJ] at hv;have ha:=uG hv.1;have hb:=uG hv.2;have m1:=qWX (a:=a0) (b:=b0) (by omega) (by omega);have m2:=qWX (a:=a0) (b:=b1) (by omega) (by omega);have m3:=qWX (a:=a1) (b:=b0) (by omega) (by omega);have m4:=qWX (a:=a1) (b:=b1) (by omega) (by omega);refine qJ ?_;refine qG (zV qWA rfl) rfl rfl rfl ?_;refine qG (jJ 2 ty2 rfl rfl rfl) rfl rfl rfl ?_;refine qG (zV qWA rfl) rfl rfl rfl ?_;refine qG (jJ 3 ty2 rfl rfl rfl) rfl rfl rfl ?_;refine qG (qXI rfl rfl (by first | exact qX ⟨by omega,by omega⟩ | rfl)) rfl rfl rfl ?_;refine qG (zV qWA rfl) rfl rfl rfl ?_;refine qG (jJ 2 ty2 rfl rfl rfl) rfl rfl rfl ?_;refine qG (zV zQV rfl) rfl rfl rfl ?_;refine qG (jJ 3 ty2 rfl rfl rfl) rfl rfl rfl ?_;refine qG (qXI rfl rfl (by first | exact qX ⟨by omega,by omega⟩ | rfl)) rfl rfl rfl ?_;refine qG (zV zQV rfl) rfl rfl rfl ?_;refine qG (jJ 2 ty2 rfl rfl rfl) rfl rfl rfl ?_;refine qG (zV qWA rfl) rfl rfl rfl ?_;refine qG (jJ 3 ty2 rfl rfl rfl) rfl rfl rfl ?_;refine qG (qXI rfl rfl (by first | exact qX ⟨by omega,by omega⟩ | rfl)) rfl rfl rfl ?_;refine qG (zV zQV rfl) rfl rfl rfl ?_;refine qG (jJ 2 ty2 rfl rfl rfl) rfl rfl rfl ?_;refine qG (zV zQV rfl) rfl rfl rfl ?_;refine qG (jJ 3 ty2 rfl rfl rfl) rfl rfl rfl ?_;refine qG (qXI rfl rfl (by first | exact qX ⟨by omega,by omega⟩ | rfl)) rfl rfl rfl ?_;refine qG (qKX fXV rfl rfl) rfl rfl rfl ?_;refine qUA 5 fZW rfl rfl rfl ?_; intro b5;refine qYK 5 xZC rfl rfl rfl rfl rfl rfl rfl rfl ?_;refine zX ?_;refine qZ ?_;refine zU ?_;refine qKW 5 mo (by kernel_rfl) ?_;simp only [vYK,vYX,vYU,vYW];refine jG (qWY xHA rfl rfl (by first | decide | omega) (by first | decide | omega)) rfl rfl rfl ?_;refine jG (jJ 5 ty2 rfl rfl rfl) rfl rfl rfl ?_;refine jG (qWY xHA rfl rfl (by first | decide | omega) (by first | decide | omega)) rfl rfl rfl ?_;refine jG (jJ 5 ty2 rfl rfl rfl) rfl rfl rfl ?_;refine jG (zJ rfl) rfl rfl rfl ?_;refine qVV ?_;refine qUF ?_;refine qG (zJ rfl) rfl rfl rfl ?_;refine zX ?_;refine qZ ?_;refine zU ?_;refine zU ?_;refine qJ ?_;refine qG (qYY 5 xZC rfl rfl rfl) rfl rfl rfl ?_;refine qG (qV rfl) rfl rfl rfl ?_;refine zX ?_;refine qZ ?_;refine qJF ?_;refine jKG 5 ?_;refine zQA ?_;refine zU ?_;refine qJ ?_;refine qG (qKB rfl rfl) rfl rfl rfl ?_;refine zX ?_;refine qZ ?_;refine zU ?_;refine qXG rfl (by decide) ?_;refine qZJ ?_;refine qZ ?_;refine zU ?_;refine qJF ?_;refine zU ?_;refine qJ ?_;refine qG (qXW rfl rfl (fXD)) rfl rfl rfl ?_;refine qG (zJ rfl) rfl rfl rfl ?_;refine zX ?_;refine qZ ?_;refine qJ ?_;refine qG (qV rfl) rfl rfl rfl ?_;refine qG (qV rfl) rfl rfl rfl ?_;refine qG (qXL rfl rfl) rfl rfl rfl ?_;refine qG (qV rfl) rfl rfl rfl ?_;refine qG (qV rfl) rfl rfl rfl ?_;refine qG (qWQ rfl rfl) rfl rfl rfl ?_;refine qG (zJ rfl) rfl rfl rfl ?_;refine qG (zJ rfl) rfl rfl rfl ?_;refine zX ?_;refine uY ?_;refine qZ ?_;refine qJ ?_;refine qG (qJQ rfl rfl (by first | exact qX ⟨by omega,by omega⟩ | rfl)) rfl rfl rfl ?_;refine qG (qV rfl) rfl rfl rfl ?_;refine zX ?_;refine qXF ?_;refine zQA ?_;refine zU ?_;refine qJ ?_;refine qG (qKB rfl rfl) rfl rfl rfl ?_;refine zX ?_;refine qZ ?_;refine zU ?_;refine qXG rfl (by decide) ?_;refine qZJ ?_;refine qZ ?_;refine zU ?_;refine qJF ?_;refine zU ?_;refine qJ ?_;refine qG (qXW rfl rfl (fXC)) rfl rfl rfl ?_;refine qG (zJ rfl) rfl rfl rfl ?_;refine zX ?_;refine qZ ?_;refine qJ ?_;refine qG (qV rfl) rfl rfl rfl ?_;refine qG (qV rfl) rfl rfl rfl ?_;refine qG (qXL rfl rfl) rfl rfl rfl ?_;refine qG (qV rfl) rfl rfl rfl ?_;refine qG (qV rfl) rfl rfl rfl ?_;refine qG (qWQ rfl rfl) rfl rfl rfl ?_;refine qG (zJ rfl) rfl rfl rfl ?_;refine qG (zJ rfl) rfl rfl rfl ?_;refine zX ?_;refine uY ?_;refine qZ ?_;refine qJ ?_;refine qG (qJQ rfl rfl (by first | exact qX ⟨by omega,by omega⟩ | rfl)) rfl rfl rfl ?_;refine qG (qV rfl) rfl rfl rfl ?_;refine zX ?_;refine qXF ?_;refine zQA ?_;refine zU ?_;refine qJ ?_;refine qG (qKB rfl rfl) rfl rfl rfl ?_;refine zX ?_;refine qZ ?_;refine zU ?_;refine qXG rfl (by decide) ?_;refine qZJ ?_;refine qZ ?_;refine zU ?_;refine qJF ?_;refine zU ?_;refine qJ ?_;refine qG (qXW rfl rfl (fXB)) rfl rfl rfl ?_;refine qG (zJ rfl) rfl rfl rfl ?_;refine zX ?_;refine qZ ?_;refine qJ ?_;refine qG (qV rfl) rfl rfl rfl ?_;refine qG (qV rfl) rfl rfl rfl ?_;refine qG (qXL rfl rfl) rfl rfl rfl ?_;refine qG (qV rfl) rfl rfl rfl ?_;refine qG (qV rfl) rfl rfl rfl ?_;refine qG (qWQ rfl rfl) rfl rfl rfl ?_;refine qG (zJ rfl) rfl rfl rfl ?_;refine qG (zJ rfl) rfl rfl rfl ?_;refine zX ?_;refine uY ?_;refine qZ ?_;refine qJ ?_;refine qG (qJQ rfl rfl (by first | exact qX ⟨by omega,by omega⟩ | rfl)) rfl rfl rfl ?_;refine qG (qV rfl) rfl rfl rfl ?_;refine zX ?_;refine qXF ?_;refine zQA ?_;refine zU ?_;refine qJ ?_;refine qG (qKB rfl rfl) rfl rfl rfl ?_;refine zX ?_;refine qZ ?_;refine zU ?_;refine qXG rfl (by decide) ?_;refine qZJ ?_;refine qZ ?_;refine zU ?_;refine qJF ?_;refine zU ?_;refine qJ ?_;refine qG (qXW rfl rfl (fXA)) rfl rfl rfl ?_;refine qG (zJ rfl) rfl rfl rfl ?_;refine zX ?_;refine qZ ?_;refine qJ ?_;refine qG (qV rfl) rfl rfl rfl ?_;refine qG (qV rfl) rfl rfl rfl ?_;refine qG (qXL rfl rfl) rfl rfl rfl ?_;refine qG (qV rfl) rfl rfl rfl ?_;refine qG (qV rfl) rfl rfl rfl ?_;refine qG (qWQ rfl rfl) rfl rfl rfl ?_;refine qG (zJ rfl) rfl rfl rfl ?_;refine qG (zJ rfl) rfl rfl rfl ?_;refine zX ?_;refine uY ?_;refine qZ ?_;refine qJ ?_;refine qG (qJQ rfl rfl (by first | exact qX ⟨by omega,by omega⟩ | rfl)) rfl rfl rfl ?_;refine qG (qV rfl) rfl rfl rfl ?_;refine zX ?_;refine qXF ?_;refine zQA ?_;refine zU ?_;refine qJ ?_;refine qG (qKB rfl rfl) rfl rfl rfl ?_;refine zX ?_;refine qZ ?_;refine zU ?_;refine qGQ rfl (by decide) ?_;refine yZH ?_;refine qYW ?_;refine qYW ?_;refine qUV ?_;refine qZ ?_;refine zU ?_;refine qJ ?_;refine qG (qV rfl) rfl rfl rfl ?_;refine qG (qV rfl) rfl rfl rfl ?_;refine qKD (F:=iv) (uK fWY rfl (fun w _=>uGA _ _ (by unfold In64; omega) (by unfold In64; omega) (by omega) w)) rfl rfl rfl ?_; intro r53 hr53;refine qYK 4 ty62 rfl rfl rfl rfl rfl rfl rfl rfl ?_;refine zX ?_;refine qZ ?_;refine qQH ?_;refine kW (rs:=[.cell 4 62]) rfl (resC (qJB 4 rfl rfl ty62 rfl) (resN)) (congrArg (iv) (?_:⟨_,_⟩=Iv.mul (⟨a0,a1⟩:Iv) (⟨b0,b1⟩:Iv)))
  subst_vars; first | (simp_all [Iv.mul,min4,max4]; done) | (simp_all [Iv.mul,min4,max4] <;> omega) | grind [Iv.mul,min4,max4]
namespace Tm
noncomputable def LTm1:OrL:=(128,Ta.o_iOf) :: ([]:OrL)
theorem xQC:AllP (fun x:Nat × (List PV→Option (Bool × Ret))=>zZ Tryz.prog x.1 x.2) LTm1:=⟨Ta.ok_iOf,trivial⟩
noncomputable def LTm2:OrL:=(47,Ta.o_rOf) :: LTm1
theorem yGB:AllP (fun x:Nat × (List PV→Option (Bool × Ret))=>zZ Tryz.prog x.1 x.2) LTm2:=⟨Ta.ok_rOf,xQC⟩
end Tm
set_option maxRecDepth 100000 in
theorem uZE (p0 p1 p2:Int) (w:World):Calls Tryz.prog 79 [.agg #[.int .i64 p0,.int .i64 p1,.int .i64 p2]].toArray w (Rets (v3 (V3.of (⟨p0,p1,p2⟩:Z3))) (w)) :=
 zY (x:=.a (v3C (V3.of ⟨p0,p1,p2⟩))) (qH (N:=60) (ps:=[.a [.n .i64 p0,.n .i64 p1,.n .i64 p2]]) jQ yQ (OrL.ok (l:=LTm2) yGB) (by kernel_rfl)) rfl rfl w
set_option maxRecDepth 100000 in
theorem uZX (p0 p1 p2:Int) (w:World):Calls Tryz.prog 49 [.agg #[.int .i64 p0,.int .i64 p1,.int .i64 p2]].toArray w (Rets (v3 (V3.of (⟨p0,p1,p2⟩:Z3))) (w)) :=
 zY (x:=.a (v3C (V3.of ⟨p0,p1,p2⟩))) (qH (N:=60) (ps:=[.a [.n .i64 p0,.n .i64 p1,.n .i64 p2]]) jQ yQ (OrL.ok (l:=LTm2) yGB) (by kernel_rfl)) rfl rfl w
namespace Tm
noncomputable def LTm3:OrL:=(145,Tn.o_iValid) :: LTm2
theorem xQB:AllP (fun x:Nat × (List PV→Option (Bool × Ret))=>zZ Tryz.prog x.1 x.2) LTm3:=⟨Tn.ok_iValid,yGB⟩
noncomputable def o_iAdd:List PV→Option (Bool × Ret):=fun ps=>match ps with
 | [.a a',.a b']=>(ivD a').bind fun a=>(ivD b').bind fun b=>some (true,.v (.a (ivC (Iv.add a b))))
 | _=>none
theorem ok_iAdd:zZ Tryz.prog 160 o_iAdd:=by
 intro ps r h;unfold o_iAdd at h;split at h
 ·simp only [vQQ,vQZ,vQY] at h;obtain ⟨a,ha,b,hb,hg,rfl⟩:=h;rw [qQF ha];rw [qQF hb];exact qU (qW Tryz.func160 (by kernel_rfl) (by kernel_rfl)) rfl rfl (fun w=>iAdd _ _ _ _ w)
 ·cases h
noncomputable def LTm4:OrL:=(160,o_iAdd) :: LTm3
theorem xQA:AllP (fun x:Nat × (List PV→Option (Bool × Ret))=>zZ Tryz.prog x.1 x.2) LTm4:=⟨ok_iAdd,xQB⟩
noncomputable def LTm5:OrL:=(188,Ta.o_iNeg) :: LTm4
theorem xQH:AllP (fun x:Nat × (List PV→Option (Bool × Ret))=>zZ Tryz.prog x.1 x.2) LTm5:=⟨Ta.ok_iNeg,xQA⟩
noncomputable def LTm6:OrL:=(152,Tn.o_rValid) :: LTm5
theorem xQG:AllP (fun x:Nat × (List PV→Option (Bool × Ret))=>zZ Tryz.prog x.1 x.2) LTm6:=⟨Tn.ok_rValid,xQH⟩
noncomputable def o_rAdd:List PV→Option (Bool × Ret):=fun ps=>match ps with
 | [.a a',.a b']=>(ivD a').bind fun a=>(ivD b').bind fun b=>some (true,.v (.a (ivC (Iv.add a b))))
 | _=>none
theorem ok_rAdd:zZ Tryz.prog 141 o_rAdd:=by
 intro ps r h;unfold o_rAdd at h;split at h
 ·simp only [vQQ,vQZ,vQY] at h;obtain ⟨a,ha,b,hb,hg,rfl⟩:=h;rw [qQF ha];rw [qQF hb];exact qU (qW Tryz.func141 (by kernel_rfl) (by kernel_rfl)) rfl rfl (fun w=>rAdd _ _ _ _ w)
 ·cases h
noncomputable def LTm7:OrL:=(141,o_rAdd) :: LTm6
theorem xQV:AllP (fun x:Nat × (List PV→Option (Bool × Ret))=>zZ Tryz.prog x.1 x.2) LTm7:=⟨ok_rAdd,xQG⟩
noncomputable def LTm8:OrL:=(175,Ta.o_rNeg) :: LTm7
theorem zWB:AllP (fun x:Nat × (List PV→Option (Bool × Ret))=>zZ Tryz.prog x.1 x.2) LTm8:=⟨Ta.ok_rNeg,xQV⟩
end Tm
set_option maxRecDepth 100000 in
theorem mAdd (p0 p1 p2 p3 p4 p5:Int) (q0 q1 q2 q3 q4 q5:Int) (w:World):Calls Tryz.prog 158 [.agg #[.int .i64 p0,.int .i64 p1,.int .i64 p2,.int .i64 p3,.int .i64 p4,.int .i64 p5],.agg #[.int .i64 q0,.int .i64 q1,.int .i64 q2,.int .i64 q3,.int .i64 q4,.int .i64 q5]].toArray w (Rets (v3 (V3.add (⟨⟨p0,p1⟩,⟨p2,p3⟩,⟨p4,p5⟩⟩:V3) (⟨⟨q0,q1⟩,⟨q2,q3⟩,⟨q4,q5⟩⟩:V3))) (w)) :=
 zY (x:=.a (v3C (V3.add ⟨⟨p0,p1⟩,⟨p2,p3⟩,⟨p4,p5⟩⟩ ⟨⟨q0,q1⟩,⟨q2,q3⟩,⟨q4,q5⟩⟩))) (qH (N:=60) (ps:=[.a (ivs [⟨p0,p1⟩,⟨p2,p3⟩,⟨p4,p5⟩]),.a (ivs [⟨q0,q1⟩,⟨q2,q3⟩,⟨q4,q5⟩])]) jQ yQ (OrL.ok (l:=LTm8) zWB) (by kernel_rfl)) rfl rfl w
set_option maxRecDepth 100000 in
theorem uXI (p0 p1 p2 p3 p4 p5:Int) (q0 q1 q2 q3 q4 q5:Int) (w:World):Calls Tryz.prog 101 [.agg #[.int .i64 p0,.int .i64 p1,.int .i64 p2,.int .i64 p3,.int .i64 p4,.int .i64 p5],.agg #[.int .i64 q0,.int .i64 q1,.int .i64 q2,.int .i64 q3,.int .i64 q4,.int .i64 q5]].toArray w (Rets (v3 (V3.add (⟨⟨p0,p1⟩,⟨p2,p3⟩,⟨p4,p5⟩⟩:V3) (⟨⟨q0,q1⟩,⟨q2,q3⟩,⟨q4,q5⟩⟩:V3))) (w)) :=
 zY (x:=.a (v3C (V3.add ⟨⟨p0,p1⟩,⟨p2,p3⟩,⟨p4,p5⟩⟩ ⟨⟨q0,q1⟩,⟨q2,q3⟩,⟨q4,q5⟩⟩))) (qH (N:=60) (ps:=[.a (ivs [⟨p0,p1⟩,⟨p2,p3⟩,⟨p4,p5⟩]),.a (ivs [⟨q0,q1⟩,⟨q2,q3⟩,⟨q4,q5⟩])]) jQ yQ (OrL.ok (l:=LTm8) zWB) (by kernel_rfl)) rfl rfl w
set_option maxRecDepth 100000 in
theorem jGC  (w:World):Calls Tryz.prog 137 [].toArray w (Rets (m3 (M3.unit)) (w)) :=
 zY (x:=.a (m3C M3.unit)) (qH (N:=60) (ps:=[]) jQ yQ (OrL.ok (l:=LTm8) zWB) (by kernel_rfl)) rfl rfl w
set_option maxRecDepth 100000 in
theorem fZF  (w:World):Calls Tryz.prog 135 [].toArray w (Rets (m3 (M3.unit)) (w)) :=
 zY (x:=.a (m3C M3.unit)) (qH (N:=60) (ps:=[]) jQ yQ (OrL.ok (l:=LTm8) zWB) (by kernel_rfl)) rfl rfl w
namespace Tm
noncomputable def zYJ:List PV→Option (Bool × Ret):=fun ps=>match ps with
 | [.a a']=>(ivD a').bind fun a=>some (true,.v (.a (ivC (kG a))))
 | _=>none
theorem yWC:zZ Tryz.prog 187 zYJ:=by
 intro ps r h;unfold zYJ at h;split at h
 ·simp only [vQQ,vQZ,vQY] at h;obtain ⟨a,ha,hg,rfl⟩:=h;rw [qQF ha];exact qU (qW Tryz.func187 (by kernel_rfl) (by kernel_rfl)) rfl rfl (fun w=>kHK _ _ w)
 ·cases h
noncomputable def LTm9:OrL:=(187,zYJ) :: LTm8
theorem xQW:AllP (fun x:Nat × (List PV→Option (Bool × Ret))=>zZ Tryz.prog x.1 x.2) LTm9:=⟨yWC,zWB⟩
noncomputable def zYK:List PV→Option (Bool × Ret):=fun ps=>match ps with
 | [.a a']=>(ivD a').bind fun a=>some (true,.v (.a (ivC (kH a))))
 | _=>none
theorem yWD:zZ Tryz.prog 186 zYK:=by
 intro ps r h;unfold zYK at h;split at h
 ·simp only [vQQ,vQZ,vQY] at h;obtain ⟨a,ha,hg,rfl⟩:=h;rw [qQF ha];exact qU (qW Tryz.func186 (by kernel_rfl) (by kernel_rfl)) rfl rfl (fun w=>kHU _ _ w)
 ·cases h
noncomputable def fQK:OrL:=(186,zYK) :: LTm9
theorem kHA:AllP (fun x:Nat × (List PV→Option (Bool × Ret))=>zZ Tryz.prog x.1 x.2) fQK:=⟨yWD,xQW⟩
noncomputable def zZB:List PV→Option (Bool × Ret):=fun ps=>match ps with
 | [.a a']=>(ivD a').bind fun a=>some (true,.v (.a (ivC (kG a))))
 | _=>none
theorem yWY:zZ Tryz.prog 174 zZB:=by
 intro ps r h;unfold zZB at h;split at h
 ·simp only [vQQ,vQZ,vQY] at h;obtain ⟨a,ha,hg,rfl⟩:=h;rw [qQF ha];exact qU (qW Tryz.func174 (by kernel_rfl) (by kernel_rfl)) rfl rfl (fun w=>kKE _ _ w)
 ·cases h
noncomputable def fQJ:OrL:=(174,zZB) :: fQK
theorem kHH:AllP (fun x:Nat × (List PV→Option (Bool × Ret))=>zZ Tryz.prog x.1 x.2) fQJ:=⟨yWY,kHA⟩
noncomputable def zZE:List PV→Option (Bool × Ret):=fun ps=>match ps with
 | [.a a']=>(ivD a').bind fun a=>some (true,.v (.a (ivC (kH a))))
 | _=>none
theorem yWU:zZ Tryz.prog 173 zZE:=by
 intro ps r h;unfold zZE at h;split at h
 ·simp only [vQQ,vQZ,vQY] at h;obtain ⟨a,ha,hg,rfl⟩:=h;rw [qQF ha];exact qU (qW Tryz.func173 (by kernel_rfl) (by kernel_rfl)) rfl rfl (fun w=>kKI _ _ w)
 ·cases h
noncomputable def xQD:OrL:=(173,zZE) :: fQJ
theorem jYU:AllP (fun x:Nat × (List PV→Option (Bool × Ret))=>zZ Tryz.prog x.1 x.2) xQD:=⟨yWU,kHH⟩
end Tm
set_option maxRecDepth 100000 in
theorem fXW (axis:Int) (a0 a1:Int) (w:World):Calls Tryz.prog 180 [.int .i64 axis,.agg #[.int .i64 a0,.int .i64 a1]].toArray w (Rets (m3 (M3.turn axis (⟨a0,a1⟩:Iv))) (w)) :=
 zY (x:=.a (m3C (M3.turn axis ⟨a0,a1⟩))) (qH (N:=60) (ps:=[.n .i64 axis,.a [.n .i64 a0,.n .i64 a1]]) jQ yQ (OrL.ok (l:=xQD) jYU) ((by kernel_rfl:_=bif Iv.valid (Iv.mk a0 a1) then (bif (decide (axis=0)) then some (.v (.a (ivs [(Iv.of 65536),(Iv.of 0),(Iv.of 0),(Iv.of 0),(kH (Iv.mk a0 a1)),(Iv.neg (kG (Iv.mk a0 a1))),(Iv.of 0),(kG (Iv.mk a0 a1)),(kH (Iv.mk a0 a1))])),[])
 else bif (decide (axis=1)) then some (.v (.a (ivs [(kH (Iv.mk a0 a1)),(Iv.of 0),(kG (Iv.mk a0 a1)),(Iv.of 0),(Iv.of 65536),(Iv.of 0),(Iv.neg (kG (Iv.mk a0 a1))),(Iv.of 0),(kH (Iv.mk a0 a1))])),[])
 else bif (decide (axis=2)) then some (.v (.a (ivs [(kH (Iv.mk a0 a1)),(Iv.neg (kG (Iv.mk a0 a1))),(Iv.of 0),(kG (Iv.mk a0 a1)),(kH (Iv.mk a0 a1)),(Iv.of 0),(Iv.of 0),(Iv.of 0),(Iv.of 65536)])),[])
 else some (.v (.a (ivs [iv0,iv0,iv0,iv0,iv0,iv0,iv0,iv0,iv0])),[]))
 else some (.v (.a (ivs [iv0,iv0,iv0,iv0,iv0,iv0,iv0,iv0,iv0])),[])).trans (by
 simp only [uZA,jVG];unfold M3.turn;cases Iv.valid (Iv.mk a0 a1) <;> cases decide (axis=0) <;> cases decide (axis=1) <;> cases decide (axis=2) <;> rfl))) rfl rfl w
set_option maxRecDepth 100000 in
theorem fZI (axis:Int) (a0 a1:Int) (w:World):Calls Tryz.prog 153 [.int .i64 axis,.agg #[.int .i64 a0,.int .i64 a1]].toArray w (Rets (m3 (M3.turn axis (⟨a0,a1⟩:Iv))) (w)) :=
 zY (x:=.a (m3C (M3.turn axis ⟨a0,a1⟩))) (qH (N:=60) (ps:=[.n .i64 axis,.a [.n .i64 a0,.n .i64 a1]]) jQ yQ (OrL.ok (l:=xQD) jYU) ((by kernel_rfl:_=bif Iv.valid (Iv.mk a0 a1) then (bif (decide (axis=0)) then some (.v (.a (ivs [(Iv.of 65536),iv0,iv0,iv0,(kH (Iv.mk a0 a1)),(Iv.neg (kG (Iv.mk a0 a1))),iv0,(kG (Iv.mk a0 a1)),(kH (Iv.mk a0 a1))])),[])
 else bif (decide (axis=1)) then some (.v (.a (ivs [(kH (Iv.mk a0 a1)),iv0,(kG (Iv.mk a0 a1)),iv0,(Iv.of 65536),iv0,(Iv.neg (kG (Iv.mk a0 a1))),iv0,(kH (Iv.mk a0 a1))])),[])
 else bif (decide (axis=2)) then some (.v (.a (ivs [(kH (Iv.mk a0 a1)),(Iv.neg (kG (Iv.mk a0 a1))),iv0,(kG (Iv.mk a0 a1)),(kH (Iv.mk a0 a1)),iv0,iv0,iv0,(Iv.of 65536)])),[])
 else some (.v (.a (ivs [iv0,iv0,iv0,iv0,iv0,iv0,iv0,iv0,iv0])),[]))
 else some (.v (.a (ivs [iv0,iv0,iv0,iv0,iv0,iv0,iv0,iv0,iv0])),[])).trans (by
 simp only [uZA,jVG];unfold M3.turn;cases Iv.valid (Iv.mk a0 a1) <;> cases decide (axis=0) <;> cases decide (axis=1) <;> cases decide (axis=2) <;> rfl))) rfl rfl w
end Go.Proofs.YtmeldddgjfocdaaGreat

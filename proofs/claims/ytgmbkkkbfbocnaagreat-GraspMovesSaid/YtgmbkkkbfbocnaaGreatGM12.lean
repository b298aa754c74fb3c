/- Part 12 of the texts behind the last one: rules and contracts. No condition. -/
import Derived.Test.YtgmbkkkbfbocnaaGreatGM11
open Option renaming bind_eq_some_iff → vQQ
open Option.some renaming injEq → vQZ
open Prod.mk renaming injEq → vQY
open Bool renaming and_eq_true → vQJ, and_self → vZJ, true_and → vZH
open List renaming take_succ_cons → vYK, drop_succ_cons → vYU, take_zero → vYX, drop_zero → vYW
open Go.IntKind renaming wrap → vJJ
namespace Go.Proofs.YtgmbkkkbfbocnaaGreat
open Go.Sx Go.Rx Rt Go.RowKit
namespace Ta
end Ta
open Ta
theorem en180:uW Tryz.prog 180:=qW Tryz.func180 (by kernel_rfl) (by kernel_rfl)
theorem en181:uW Tryz.prog 181:=qW Tryz.func181 (by kernel_rfl) (by kernel_rfl)
theorem en197:uW Tryz.prog 197:=qW Tryz.func197 (by kernel_rfl) (by kernel_rfl)
theorem en187:uW Tryz.prog 187:=qW Tryz.func187 (by kernel_rfl) (by kernel_rfl)
theorem en201:uW Tryz.prog 201:=qW Tryz.func201 (by kernel_rfl) (by kernel_rfl)
theorem fSD14 (a:Int) (w:World):Calls Tryz.prog 180 [.int .i64 a,.int .i64 14].toArray w (Rets (vI (a / 16384)) w):=zHQ a 14 (by decide) w
theorem fSU14 (a:Int) (ha:In64 a) (w:World):Calls Tryz.prog 181 [.int .i64 a,.int .i64 14].toArray w (Rets (vI (zV a 16384)) w):=yHV a 14 (by decide) ha w
theorem aMod (a:Int) (w:World):Calls Tryz.prog 197 [.int .i64 a].toArray w (Rets (vI (a % 65536)) (w)):=by
 refine jV (n:=5) Tryz.func197 rfl rfl rfl ?_;refine zK ?_;refine qU ?_;refine qG (zY rfl) rfl rfl rfl ?_;refine zX ?_;refine qK ?_;refine zK ?_;refine qU ?_;refine qG (qV rfl) rfl rfl rfl ?_;refine qG (opV_and rfl rfl and_mask) rfl rfl rfl ?_;refine qG (zY rfl) rfl rfl rfl ?_;refine zX ?_;refine qK ?_;refine qQJ ?_;refine kX (rs:=[.tmp 2]) rfl (resC (qQY rfl) (resN)) (congrArg (vI) (?_:_=a % 65536))
 first | rfl | (subst_vars; rfl) | (subst_vars; simp_all)
theorem rMod (a:Int) (w:World):Calls Tryz.prog 187 [.int .i64 a].toArray w (Rets (vI (a % 65536)) (w)):=by
 refine jV (n:=7) Tryz.func187 rfl rfl rfl ?_;refine zK ?_;have h0 : -65536 < a.tmod 65536:=by have:=Int.lt_tmod_of_pos a (show (0:Int) < 65536 by decide); omega
 have h1:a.tmod 65536 < 65536:=Int.tmod_lt_of_pos a (by decide);refine qU ?_;refine qG (zY rfl) rfl rfl rfl ?_;refine zX ?_;refine qK ?_;refine zK ?_;refine qU ?_;refine qG (qV rfl) rfl rfl rfl ?_;refine qG (zVK rfl rfl (by first | decide | omega) (by first | exact tmod_nonneg (by omega) (by omega) | rfl)) rfl rfl rfl ?_;refine qG (qKG rfl rfl (by first | exact zQ ⟨by omega,by omega⟩ | rfl)) rfl rfl rfl ?_;refine qG (zVK rfl rfl (by first | decide | omega) (by first | exact tmod_nonneg (by omega) (by omega) | rfl)) rfl rfl rfl ?_;refine qG (zY rfl) rfl rfl rfl ?_;refine zX ?_;refine qK ?_;refine qQJ ?_;refine kX (rs:=[.tmp 2]) rfl (resC (qQY rfl) (resN)) (congrArg (vI) (?_:_=a % 65536))
 have:=Int.tdiv_mul_add_tmod a 65536; omega
theorem aCeil (a:Int) (b:Int) (ha:0≤a∧a≤1073741824) (hb:0 < b∧b≤1073741824) (w:World):Calls Tryz.prog 206 [.int .i64 a,.int .i64 b].toArray w (Rets (vI (zV a b)) (w)):=by
 refine jV (n:=11) Tryz.func206 rfl rfl rfl ?_;refine zK ?_;refine qU ?_;refine qG (zY rfl) rfl rfl rfl ?_;refine zX ?_;refine qK ?_;refine zK ?_;refine qU ?_;refine qG (qV rfl) rfl rfl rfl ?_;refine qG (qV rfl) rfl rfl rfl ?_;refine qG (qKG rfl rfl (by first | exact zQ ⟨by omega,by omega⟩ | rfl)) rfl rfl rfl ?_;refine qG (yJY rfl rfl (by first | exact zQ ⟨by omega,by omega⟩ | rfl)) rfl rfl rfl ?_;refine qG (qV rfl) rfl rfl rfl ?_;refine qG (yVY rfl rfl (by first | decide | omega) (ceil_quo ha hb)) rfl rfl rfl ?_;refine qG (zY rfl) rfl rfl rfl ?_;refine zX ?_;refine qK ?_;refine qQJ ?_;refine kX (rs:=[.tmp 4]) rfl (resC (qQY rfl) (resN)) (congrArg (vI) (?_:_=zV a b))
 first | rfl | (subst_vars; rfl) | (subst_vars; simp_all)
theorem aEnc (lo:Int) (hi:Int) (hh:In64 hi) (w:World):Calls Tryz.prog 207 [.int .i64 lo,.int .i64 hi].toArray w (Rets (iv (encI lo hi)) (w)):=by
 refine jV (n:=12) Tryz.func207 rfl rfl rfl ?_;refine zK ?_;refine qU ?_;refine qGQ 4 ze62 rfl rfl rfl ?_; intro b4;refine zX ?_;refine qK ?_;refine zK ?_;refine qU ?_;refine qG (qV rfl) rfl rfl rfl ?_;refine qWG (F:=vI) (uJ en180 rfl (fun w _=>fSD14 _ w)) rfl rfl rfl ?_; intro r6 hr6;refine qG (zQY rfl rfl) rfl rfl rfl ?_;refine qG (qV rfl) rfl rfl rfl ?_;refine qWG (F:=vI) (uJ en181 rfl (fun w _=>fSU14 _ hh w)) rfl rfl rfl ?_; intro r9 hr9;refine qG (zQZ rfl rfl) rfl rfl rfl ?_;refine qG (qWQ la62 rfl rfl) rfl rfl rfl ?_;refine qJK 4 ty62 rfl rfl rfl rfl rfl rfl rfl rfl ?_;refine zX ?_;refine qK ?_;refine qQJ ?_;refine kX (rs:=[.cell 4 62]) rfl (resC (qXQ 4 rfl rfl ty62 rfl) (resN)) (congrArg (iv) (?_:⟨_,_⟩=encI lo hi))
 subst_vars; first | (simp_all [encI]; done) | (simp_all [encI] <;> omega) | grind [encI]
theorem rEnc (lo:Int) (hi:Int) (hl:In64 lo) (hh:In64 hi) (w:World):Calls Tryz.prog 200 [.int .i64 lo,.int .i64 hi].toArray w (Rets (iv (encI lo hi)) (w)):=by
 refine jV (n:=12) Tryz.func200 rfl rfl rfl ?_;refine zK ?_;refine qU ?_;refine qGQ 4 ze62 rfl rfl rfl ?_; intro b4;refine zX ?_;refine qK ?_;refine zK ?_;refine qU ?_;refine qG (qV rfl) rfl rfl rfl ?_;refine qWG (F:=vI) (uJ en161 rfl (fun w _=>kQQ _ _ hl (by decide) w)) rfl rfl rfl ?_; intro r6 hr6;refine qG (zQY rfl rfl) rfl rfl rfl ?_;refine qG (qV rfl) rfl rfl rfl ?_;refine qWG (F:=vI) (uJ en162 rfl (fun w _=>kVW _ _ hh (by decide) w)) rfl rfl rfl ?_; intro r9 hr9;refine qG (zQZ rfl rfl) rfl rfl rfl ?_;refine qG (qWQ la62 rfl rfl) rfl rfl rfl ?_;refine qJK 4 ty62 rfl rfl rfl rfl rfl rfl rfl rfl ?_;refine zX ?_;refine qK ?_;refine qQJ ?_;refine kX (rs:=[.cell 4 62]) rfl (resC (qXQ 4 rfl rfl ty62 rfl) (resN)) (congrArg (iv) (?_:⟨_,_⟩=encI lo hi))
 subst_vars; first | (simp_all [encI]; done) | (simp_all [encI] <;> omega) | grind [encI]
theorem aMeets (a0 a1:Int) (c:Int) (hv:Iv.valid (⟨a0,a1⟩:Iv)=true) (_:0≤c∧c < 65536) (w:World):Calls Tryz.prog 196 [.agg #[.int .i64 a0,.int .i64 a1],.int .i64 c].toArray w (Rets (vB (uQ (⟨a0,a1⟩:Iv) c)) (w)):=by
 refine jV (n:=15) Tryz.func196 rfl rfl rfl ?_;refine zK ?_;have hv2:=uV hv;refine qU ?_;refine zYK 2 rfl rfl rfl rfl ?_; intro b2;refine qG (zY rfl) rfl rfl rfl ?_;refine zX ?_;refine qK ?_;refine zK ?_;refine qWZ 10 mo (by kernel_rfl) ?_;simp only [vYK,vYX,vYU,vYW];refine jX (qJJ 2 ty62 rfl rfl rfl) rfl rfl rfl ?_;refine jX (zH zZZ rfl) rfl rfl rfl ?_;refine jX (jZ 2 ty2 rfl rfl rfl) rfl rfl rfl ?_;refine jX (qV rfl) rfl rfl rfl ?_;refine jX (zH zZZ rfl) rfl rfl rfl ?_;refine jX (jZ 2 ty2 rfl rfl rfl) rfl rfl rfl ?_;refine jX (yJY rfl rfl (by first | exact zQ ⟨by omega,by omega⟩ | rfl)) rfl rfl rfl ?_;refine yKH (F:=vI) (uJ en197 rfl (fun w _=>aMod _  w)) rfl rfl rfl ?_; intro r12 hr12;have qr12:0≤r12∧r12 < 65536:=by omega
 refine jX (qKG rfl rfl (by first | exact zQ ⟨by omega,by omega⟩ | rfl)) rfl rfl rfl ?_;refine yKH (F:=vB) (uJ en201 rfl (fun w _=>iHas _ _ _  w)) rfl rfl rfl ?_; intro r14 hr14;refine zYU ?_;refine qGU ?_;refine qG (zY rfl) rfl rfl rfl ?_;refine zX ?_;refine qK ?_;refine qQJ ?_;refine kX (rs:=[.tmp 4]) rfl (resC (qQY rfl) (resN)) (congrArg (vB) (?_:_=uQ (⟨a0,a1⟩:Iv) c))
 subst_vars; simp only [Iv.has,uQ,hv,vZH]; rw [vJQ (by omega),vZH]
theorem rMeets (a0 a1:Int) (c:Int) (hv:Iv.valid (⟨a0,a1⟩:Iv)=true) (_:0≤c∧c < 65536) (w:World):Calls Tryz.prog 186 [.agg #[.int .i64 a0,.int .i64 a1],.int .i64 c].toArray w (Rets (vB (uQ (⟨a0,a1⟩:Iv) c)) (w)):=by
 refine jV (n:=16) Tryz.func186 rfl rfl rfl ?_;refine zK ?_;have hv2:=uV hv;refine qU ?_;refine zYK 2 rfl rfl rfl rfl ?_; intro b2;refine qG (zY rfl) rfl rfl rfl ?_;refine zX ?_;refine qK ?_;refine zK ?_;refine qWZ 11 mo (by kernel_rfl) ?_;simp only [vYK,vYX,vYU,vYW];refine jX (zH zZZ rfl) rfl rfl rfl ?_;refine jX (jZ 2 ty2 rfl rfl rfl) rfl rfl rfl ?_;refine jX (qV rfl) rfl rfl rfl ?_;refine jX (zH zZZ rfl) rfl rfl rfl ?_;refine jX (jZ 2 ty2 rfl rfl rfl) rfl rfl rfl ?_;refine jX (yJY rfl rfl (by first | exact zQ ⟨by omega,by omega⟩ | rfl)) rfl rfl rfl ?_;refine yKH (F:=vI) (uJ en187 rfl (fun w _=>rMod _  w)) rfl rfl rfl ?_; intro r11 hr11;have qr11:0≤r11∧r11 < 65536:=by omega
 refine jX (qKG rfl rfl (by first | exact zQ ⟨by omega,by omega⟩ | rfl)) rfl rfl rfl ?_;refine jX (zH zXG rfl) rfl rfl rfl ?_;refine jX (jZ 2 ty2 rfl rfl rfl) rfl rfl rfl ?_;refine jX (opV_leq rfl rfl) rfl rfl rfl ?_;refine zYU ?_;refine qGU ?_;refine qG (zY rfl) rfl rfl rfl ?_;refine zX ?_;refine qK ?_;refine qQJ ?_;refine kX (rs:=[.tmp 4]) rfl (resC (qQY rfl) (resN)) (congrArg (vB) (?_:_=uQ (⟨a0,a1⟩:Iv) c))
 subst_vars; simp [uQ]
theorem mRound (n:Int) (k:Int) (hk:0 < k∧k≤9223372036854775807) (w:World):Calls Tryz.prog 20 [.int .i64 n,.int .i64 k].toArray w (Rets (vI (n % k)) (w)):=by
 refine jV (n:=15) Tryz.func20 rfl rfl rfl ?_;refine zK ?_;have h0:=Int.lt_tmod_of_pos n hk.1;have h1:=Int.tmod_lt_of_pos n hk.1;refine qU ?_;refine qG (zY rfl) rfl rfl rfl ?_;refine zX ?_;refine qK ?_;refine zK ?_;refine qU ?_;refine qG (qV rfl) rfl rfl rfl ?_;refine qG (qV rfl) rfl rfl rfl ?_;refine qG (zVK rfl rfl (by first | decide | omega) rfl) rfl rfl rfl ?_;refine qG (zY rfl) rfl rfl rfl ?_;refine zX ?_;refine qK ?_;refine zK ?_;refine zK ?_;refine qU ?_;refine qG (qV rfl) rfl rfl rfl ?_;refine qG (qWX rfl rfl) rfl rfl rfl ?_;refine zX ?_;refine qK ?_;refine qUJ rfl (fun hc10 => ?_) (fun hc10 => ?_)
 ·
  have h2:=vJZ hc10;refine qU ?_;refine qG (qV rfl) rfl rfl rfl ?_;refine qG (qV rfl) rfl rfl rfl ?_;refine qG (qKG rfl rfl (by first | exact zQ ⟨by omega,by omega⟩ | rfl)) rfl rfl rfl ?_;refine qG (zY rfl) rfl rfl rfl ?_;refine zX ?_;refine qK ?_;refine zK ?_;refine qU ?_;refine qG (qV rfl) rfl rfl rfl ?_;refine qG (zY rfl) rfl rfl rfl ?_;refine zX ?_;refine qK ?_;refine qQJ ?_;refine kX (rs:=[.tmp 4]) rfl (resC (qQY rfl) (resN)) (congrArg (vI) (?_:_=n % k));exact round_neg hk.1 h2
 ·
  have h2:=vJY hc10;refine qZV ?_;refine qK ?_;refine zK ?_;refine qU ?_;refine qG (qV rfl) rfl rfl rfl ?_;refine qG (zY rfl) rfl rfl rfl ?_;refine zX ?_;refine qK ?_;refine qQJ ?_;refine kX (rs:=[.tmp 4]) rfl (resC (qQY rfl) (resN)) (congrArg (vI) (?_:_=n % k));exact round_pos hk.1 h2
namespace Ta
def iw (a:Int):Bool:=decide (-9223372036854775808≤a∧a≤9223372036854775807)
def pw (a:Int):Bool:=decide (0≤a∧a≤1073741824)
theorem jGH {a:Int} (h:iw a=true):In64 a:=by unfold iw at h; simp only [decide_eq_true_eq] at h; unfold In64; omega
theorem pw_of {a:Int} (h:pw a=true):0≤a∧a≤1073741824:=vJZ h
theorem iww (y:Int):iw (vJJ .i64 y)=true:=by
 refine vJQ ?_;unfold IntKind.wrap;have hb:IntKind.i64.bits=64:=rfl;have hs:IntKind.i64.signed=true:=rfl;simp only [hb,hs,vZH,decide_eq_true_eq]
 split <;> omega
theorem kWJ {x:Int} (h:0≤x∧x≤8192) (k:Nat):iw (dn x k)=true:=by have:=qXK h k; exact vJQ (by omega)
theorem kWY {x:Int} (h:0≤x∧x≤8192) (k:Nat):iw (up x k)=true:=by have:=qJG h k; exact vJQ (by omega)
theorem kJG {x:Int} (h:0≤x∧x≤8192) (k:Nat):pw (up x k)=true:=vJQ (qJG h k)
noncomputable def zYZ:List PV→Option (Bool × Ret):=fun ps=>match ps with
 | [.n .i64 a,.n .i64 k]=>some (decide (0≤k∧k≤62),.v (.n .i64 (a / 2 ^ Int.toNat k)))
 | _=>none
theorem ok_fShiftDown:zJ Tryz.prog 180 zYZ:=by
 intro ps r h;unfold zYZ at h;split at h
 ·simp only [vQZ,vQY] at h;obtain ⟨hg,rfl⟩:=h
  try simp only [vQJ,decide_eq_true_eq] at hg
  exact qX (qW Tryz.func180 (by kernel_rfl) (by kernel_rfl)) rfl rfl (fun w=>zHQ _ _ hg w)
 ·cases h
noncomputable def LTa1:OrL:=(180,zYZ) :: ([]:OrL)
theorem LTa1_ok:AllP (fun x:Nat × (List PV→Option (Bool × Ret))=>zJ Tryz.prog x.1 x.2) LTa1:=⟨ok_fShiftDown,trivial⟩
noncomputable def zGU:List PV→Option (Bool × Ret):=fun ps=>match ps with
 | [.n .i64 a,.n .i64 k]=>some (decide (0≤k∧k≤62) && iw a,.v (.n .i64 (zV a (2 ^ Int.toNat k))))
 | _=>none
theorem ok_fShiftUp:zJ Tryz.prog 181 zGU:=by
 intro ps r h;unfold zGU at h;split at h
 ·simp only [vQZ,vQY] at h;obtain ⟨hg,rfl⟩:=h
  try simp only [vQJ,decide_eq_true_eq] at hg
  exact qX (qW Tryz.func181 (by kernel_rfl) (by kernel_rfl)) rfl rfl (fun w=>yHV _ _ hg.1 (jGH hg.2) w)
 ·cases h
noncomputable def LTa2:OrL:=(181,zGU) :: LTa1
theorem LTa2_ok:AllP (fun x:Nat × (List PV→Option (Bool × Ret))=>zJ Tryz.prog x.1 x.2) LTa2:=⟨ok_fShiftUp,LTa1_ok⟩
noncomputable def yVW:List PV→Option (Bool × Ret):=fun ps=>match ps with
 | [.n .i64 a,.n .i64 b]=>some (decide (0 < b) && iw a,.v (.n .i64 (a / b)))
 | _=>none
theorem ok_rFloor:zJ Tryz.prog 161 yVW:=by
 intro ps r h;unfold yVW at h;split at h
 ·simp only [vQZ,vQY] at h;obtain ⟨hg,rfl⟩:=h
  try simp only [vQJ,decide_eq_true_eq] at hg
  exact qX (qW Tryz.func161 (by kernel_rfl) (by kernel_rfl)) rfl rfl (fun w=>kQQ _ _ (jGH hg.2) hg.1 w)
 ·cases h
noncomputable def LTa3:OrL:=(161,yVW) :: LTa2
theorem LTa3_ok:AllP (fun x:Nat × (List PV→Option (Bool × Ret))=>zJ Tryz.prog x.1 x.2) LTa3:=⟨ok_rFloor,LTa2_ok⟩
noncomputable def jKW:List PV→Option (Bool × Ret):=fun ps=>match ps with
 | [.n .i64 a,.n .i64 b]=>some (decide (0 < b) && iw a,.v (.n .i64 (zV a b)))
 | _=>none
theorem ok_rCeil:zJ Tryz.prog 162 jKW:=by
 intro ps r h;unfold jKW at h;split at h
 ·simp only [vQZ,vQY] at h;obtain ⟨hg,rfl⟩:=h
  try simp only [vQJ,decide_eq_true_eq] at hg
  exact qX (qW Tryz.func162 (by kernel_rfl) (by kernel_rfl)) rfl rfl (fun w=>kVW _ _ (jGH hg.2) hg.1 w)
 ·cases h
noncomputable def LTa4:OrL:=(162,jKW) :: LTa3
theorem LTa4_ok:AllP (fun x:Nat × (List PV→Option (Bool × Ret))=>zJ Tryz.prog x.1 x.2) LTa4:=⟨ok_rCeil,LTa3_ok⟩
noncomputable def jUY:List PV→Option (Bool × Ret):=fun ps=>match ps with
 | [.n .i64 a,.n .i64 b]=>some (decide (0 < b∧b≤1073741824) && pw a,.v (.n .i64 (zV a b)))
 | _=>none
theorem ok_aCeil:zJ Tryz.prog 206 jUY:=by
 intro ps r h;unfold jUY at h;split at h
 ·simp only [vQZ,vQY] at h;obtain ⟨hg,rfl⟩:=h
  try simp only [vQJ,decide_eq_true_eq] at hg
  exact qX (qW Tryz.func206 (by kernel_rfl) (by kernel_rfl)) rfl rfl (fun w=>aCeil _ _ (pw_of hg.2) hg.1 w)
 ·cases h
noncomputable def LTa5:OrL:=(206,jUY) :: LTa4
theorem LTa5_ok:AllP (fun x:Nat × (List PV→Option (Bool × Ret))=>zJ Tryz.prog x.1 x.2) LTa5:=⟨ok_aCeil,LTa4_ok⟩
noncomputable def kZY:List PV→Option (Bool × Ret):=fun ps=>match ps with
 | [.n .i64 l,.n .i64 a]=>some (iw a,.v (.a (ivC (encI l a))))
 | _=>none
theorem ok_aEnc:zJ Tryz.prog 207 kZY:=by
 intro ps r h;unfold kZY at h;split at h
 ·simp only [vQZ,vQY] at h;obtain ⟨hg,rfl⟩:=h
  try simp only [vQJ,decide_eq_true_eq] at hg
  exact qX (qW Tryz.func207 (by kernel_rfl) (by kernel_rfl)) rfl rfl (fun w=>aEnc _ _ (jGH hg) w)
 ·cases h
noncomputable def LTa6:OrL:=(207,kZY) :: LTa5
theorem LTa6_ok:AllP (fun x:Nat × (List PV→Option (Bool × Ret))=>zJ Tryz.prog x.1 x.2) LTa6:=⟨ok_aEnc,LTa5_ok⟩
noncomputable def kQX:List PV→Option (Bool × Ret):=fun ps=>match ps with
 | [.n .i64 l,.n .i64 a]=>some (iw a && iw l,.v (.a (ivC (encI l a))))
 | _=>none
theorem ok_rEnc:zJ Tryz.prog 200 kQX:=by
 intro ps r h;unfold kQX at h;split at h
 ·simp only [vQZ,vQY] at h;obtain ⟨hg,rfl⟩:=h
  try simp only [vQJ,decide_eq_true_eq] at hg
  exact qX (qW Tryz.func200 (by kernel_rfl) (by kernel_rfl)) rfl rfl (fun w=>rEnc _ _ (jGH hg.2) (jGH hg.1) w)
 ·cases h
noncomputable def LTa7:OrL:=(200,kQX) :: LTa6
theorem jXG:AllP (fun x:Nat × (List PV→Option (Bool × Ret))=>zJ Tryz.prog x.1 x.2) LTa7:=⟨ok_rEnc,LTa6_ok⟩
def wdn (x:Int):Nat→Int
 | 0=>1073741824
 | 1=>(vJJ .i64 (x * 6746518852)) / 65536
 | k + 2=>(vJJ .i64 (wdn x (k + 1) * ((vJJ .i64 (x * 6746518852)) / 65536))) / 1073741824
def wup (x:Int):Nat→Int
 | 0=>1073741824
 | 1=>zV (vJJ .i64 (x * 6746518853)) 65536
 | k + 2=>zV (vJJ .i64 (wup x (k + 1) * zV (vJJ .i64 (x * 6746518853)) 65536)) 1073741824
theorem wmul {a b:Int} (_:0≤a∧a≤1073741824) (_:0≤b∧b≤1073741824):vJJ .i64 (a * b)=a * b:=mul_in (by omega) (by omega)
theorem jHY {x:Int} (h:0≤x∧x≤8192):∀ k,wdn x k=dn x k
 | 0=>rfl
 | 1=>by unfold wdn dn; rw [zQ (by omega)]
 | k + 2=>by rw [wdn,dn,jHY h (k + 1),zQ (show -9223372036854775808≤x * 6746518852∧x * 6746518852≤9223372036854775807 by omega),wmul (qXK h (k + 1)) (show 0≤x * 6746518852 / 65536∧x * 6746518852 / 65536≤1073741824 by omega)]
theorem jHZ {x:Int} (h:0≤x∧x≤8192):∀ k,wup x k=up x k
 | 0=>rfl
 | 1=>by unfold wup up; rw [zQ (by omega)]
 | k + 2=>by rw [wup,up,jHZ h (k + 1),zQ (show -9223372036854775808≤x * 6746518853∧x * 6746518853≤9223372036854775807 by omega),wmul (qJG h (k + 1)) (jJZ rfl h)]
set_option maxRecDepth 100000 in
theorem sp_aPow (x:Int) (h:0≤x∧x≤8192):yK Tryz.prog 204 [.n .i64 x] (.v (.t [.a [.n .i64 1073741824,.n .i64 (dn x 1),.n .i64 (dn x 2),.n .i64 (dn x 3),.n .i64 (dn x 4),.n .i64 (dn x 5),.n .i64 (dn x 6),.n .i64 (dn x 7),.n .i64 (dn x 8),.n .i64 (dn x 9),.n .i64 (dn x 10)],.a [.n .i64 1073741824,.n .i64 (up x 1),.n .i64 (up x 2),.n .i64 (up x 3),.n .i64 (up x 4),.n .i64 (up x 5),.n .i64 (up x 6),.n .i64 (up x 7),.n .i64 (up x 8),.n .i64 (up x 9),.n .i64 (up x 10)]])):=qH (N:=60) (ps:=[.n .i64 x]) yJ zG (OrL.ok (l:=LTa7) jXG) ((by kernel_rfl:_=bif iw (vJJ .i64 (x * 6746518853)) then (bif iw (vJJ .i64 (wup x 1 * wup x 1)) then (bif iw (vJJ .i64 (wup x 2 * wup x 1)) then (bif iw (vJJ .i64 (wup x 3 * wup x 1)) then (bif iw (vJJ .i64 (wup x 4 * wup x 1)) then (bif iw (vJJ .i64 (wup x 5 * wup x 1)) then (bif iw (vJJ .i64 (wup x 6 * wup x 1)) then (bif iw (vJJ .i64 (wup x 7 * wup x 1)) then (bif iw (vJJ .i64 (wup x 8 * wup x 1)) then (bif iw (vJJ .i64 (wup x 9 * wup x 1)) then some (.v (.t [.a [.n .i64 1073741824,.n .i64 (wdn x 1),.n .i64 (wdn x 2),.n .i64 (wdn x 3),.n .i64 (wdn x 4),.n .i64 (wdn x 5),.n .i64 (wdn x 6),.n .i64 (wdn x 7),.n .i64 (wdn x 8),.n .i64 (wdn x 9),.n .i64 (wdn x 10)],.a [.n .i64 1073741824,.n .i64 (wup x 1),.n .i64 (wup x 2),.n .i64 (wup x 3),.n .i64 (wup x 4),.n .i64 (wup x 5),.n .i64 (wup x 6),.n .i64 (wup x 7),.n .i64 (wup x 8),.n .i64 (wup x 9),.n .i64 (wup x 10)]]),[])
 else none)
 else none)
 else none)
 else none)
 else none)
 else none)
 else none)
 else none)
 else none)
 else none).trans (by
 simp only [iww,vYV,jHY h,jHZ h]))
set_option maxRecDepth 100000 in
theorem sp_rPow (x:Int) (h:0≤x∧x≤8192):yK Tryz.prog 199 [.n .i64 x] (.v (.t [.a [.n .i64 0,.n .i64 (dn x 1),.n .i64 (dn x 2),.n .i64 (dn x 3),.n .i64 (dn x 4),.n .i64 (dn x 5),.n .i64 (dn x 6),.n .i64 (dn x 7),.n .i64 (dn x 8),.n .i64 (dn x 9),.n .i64 (dn x 10)],.a [.n .i64 0,.n .i64 (up x 1),.n .i64 (up x 2),.n .i64 (up x 3),.n .i64 (up x 4),.n .i64 (up x 5),.n .i64 (up x 6),.n .i64 (up x 7),.n .i64 (up x 8),.n .i64 (up x 9),.n .i64 (up x 10)]])):=qH (N:=60) (ps:=[.n .i64 x]) yJ zG (OrL.ok (l:=LTa7) jXG) ((by kernel_rfl:_=bif iw (vJJ .i64 (x * 6746518852)) then (bif iw (vJJ .i64 (x * 6746518853)) then (bif iw (vJJ .i64 (wdn x 1 * wdn x 1)) then (bif iw (vJJ .i64 (wup x 1 * wup x 1)) then (bif iw (vJJ .i64 (wdn x 2 * wdn x 1)) then (bif iw (vJJ .i64 (wup x 2 * wup x 1)) then (bif iw (vJJ .i64 (wdn x 3 * wdn x 1)) then (bif iw (vJJ .i64 (wup x 3 * wup x 1)) then (bif iw (vJJ .i64 (wdn x 4 * wdn x 1)) then (bif iw (vJJ .i64 (wup x 4 * wup x 1)) then (bif iw (vJJ .i64 (wdn x 5 * wdn x 1)) then (bif iw (vJJ .i64 (wup x 5 * wup x 1)) then (bif iw (vJJ .i64 (wdn x 6 * wdn x 1)) then (bif iw (vJJ .i64 (wup x 6 * wup x 1)) then (bif iw (vJJ .i64 (wdn x 7 * wdn x 1)) then (bif iw (vJJ .i64 (wup x 7 * wup x 1)) then (bif iw (vJJ .i64 (wdn x 8 * wdn x 1)) then (bif iw (vJJ .i64 (wup x 8 * wup x 1)) then (bif iw (vJJ .i64 (wdn x 9 * wdn x 1)) then (bif iw (vJJ .i64 (wup x 9 * wup x 1)) then some (.v (.t [.a [.n .i64 0,.n .i64 (wdn x 1),.n .i64 (wdn x 2),.n .i64 (wdn x 3),.n .i64 (wdn x 4),.n .i64 (wdn x 5),.n .i64 (wdn x 6),.n .i64 (wdn x 7),.n .i64 (wdn x 8),.n .i64 (wdn x 9),.n .i64 (wdn x 10)],.a [.n .i64 0,.n .i64 (wup x 1),.n .i64 (wup x 2),.n .i64 (wup x 3),.n .i64 (wup x 4),.n .i64 (wup x 5),.n .i64 (wup x 6),.n .i64 (wup x 7),.n .i64 (wup x 8),.n .i64 (wup x 9),.n .i64 (wup x 10)]]),[])
 else none)
 else none)
 else none)
 else none)
 else none)
 else none)
 else none)
 else none)
 else none)
 else none)
 else none)
 else none)
 else none)
 else none)
 else none)
 else none)
 else none)
 else none)
 else none)
 else none).trans (by
 simp only [iww,vYV,jHY h,jHZ h]))
noncomputable def kZQ:List PV→Option (Bool × Ret):=fun ps=>match ps with
 | [.n .i64 x]=>some (decide (0≤x∧x≤8192),.v (.t [.a [.n .i64 1073741824,.n .i64 (dn x 1),.n .i64 (dn x 2),.n .i64 (dn x 3),.n .i64 (dn x 4),.n .i64 (dn x 5),.n .i64 (dn x 6),.n .i64 (dn x 7),.n .i64 (dn x 8),.n .i64 (dn x 9),.n .i64 (dn x 10)],.a [.n .i64 1073741824,.n .i64 (up x 1),.n .i64 (up x 2),.n .i64 (up x 3),.n .i64 (up x 4),.n .i64 (up x 5),.n .i64 (up x 6),.n .i64 (up x 7),.n .i64 (up x 8),.n .i64 (up x 9),.n .i64 (up x 10)]]))
 | _=>none
theorem ok_aPow:zJ Tryz.prog 204 kZQ:=by
 intro ps r h;unfold kZQ at h;split at h
 ·simp only [vQZ,vQY] at h;obtain ⟨hg,rfl⟩:=h;exact sp_aPow _ (vJZ hg)
 ·cases h
noncomputable def LTa8:OrL:=(204,kZQ) :: LTa7
theorem LTa8_ok:AllP (fun x:Nat × (List PV→Option (Bool × Ret))=>zJ Tryz.prog x.1 x.2) LTa8:=⟨ok_aPow,jXG⟩
noncomputable def kQJ:List PV→Option (Bool × Ret):=fun ps=>match ps with
 | [.n .i64 x]=>some (decide (0≤x∧x≤8192),.v (.t [.a [.n .i64 0,.n .i64 (dn x 1),.n .i64 (dn x 2),.n .i64 (dn x 3),.n .i64 (dn x 4),.n .i64 (dn x 5),.n .i64 (dn x 6),.n .i64 (dn x 7),.n .i64 (dn x 8),.n .i64 (dn x 9),.n .i64 (dn x 10)],.a [.n .i64 0,.n .i64 (up x 1),.n .i64 (up x 2),.n .i64 (up x 3),.n .i64 (up x 4),.n .i64 (up x 5),.n .i64 (up x 6),.n .i64 (up x 7),.n .i64 (up x 8),.n .i64 (up x 9),.n .i64 (up x 10)]]))
 | _=>none
theorem ok_rPow:zJ Tryz.prog 199 kQJ:=by
 intro ps r h;unfold kQJ at h;split at h
 ·simp only [vQZ,vQY] at h;obtain ⟨hg,rfl⟩:=h;exact sp_rPow _ (vJZ hg)
 ·cases h
noncomputable def LTa9:OrL:=(199,kQJ) :: LTa8
theorem yUW:AllP (fun x:Nat × (List PV→Option (Bool × Ret))=>zJ Tryz.prog x.1 x.2) LTa9:=⟨ok_rPow,LTa8_ok⟩
theorem tdnn {a b:Int} (h:0≤a):a.tdiv b=a / b:=Int.tdiv_eq_ediv_of_nonneg h
def jVV (x:Int):Int:=(vJJ .i64 ((vJJ .i64 ((vJJ .i64 ((vJJ .i64 (0 + (vJJ .i64 (1 * (dn x 1))))) + (vJJ .i64 ((-1) * zV (up x 3) 6)))) + (vJJ .i64 (1 * (vJJ .i64 ((dn x 5).tdiv 120)))))) + (vJJ .i64 ((-1) * zV (up x 7) 5040))))
theorem aSineL_eq {x:Int} (h:0≤x∧x≤8192):jVV x=sinL x:=by
 have d1:=qXK h 1;have d5:=qXK h 5;have u3:=qJG h 3;have u7:=qJG h 7;have c3:=yW (r:=zV (up x 3) 6) rfl u3 (by decide);have c7:=yW (r:=zV (up x 7) 5040) rfl u7 (by decide);unfold jVV sinL;simp only [tdnn d5.1];have w0:vJJ .i64 (1 * (dn x 1))=(1 * (dn x 1)):=zQ (by omega);have w1:vJJ .i64 (0 + (1 * (dn x 1)))=(0 + (1 * (dn x 1))):=zQ (by omega);have w2:vJJ .i64 ((-1) * zV (up x 3) 6)=((-1) * zV (up x 3) 6):=zQ (by omega);have w3:vJJ .i64 ((0 + (1 * (dn x 1))) + ((-1) * zV (up x 3) 6))=((0 + (1 * (dn x 1))) + ((-1) * zV (up x 3) 6)):=zQ (by omega);have w4:vJJ .i64 (((dn x 5) / 120))=(((dn x 5) / 120)):=zQ (by omega);have w5:vJJ .i64 (1 * (((dn x 5) / 120)))=(1 * (((dn x 5) / 120))):=zQ (by omega);have w6:vJJ .i64 (((0 + (1 * (dn x 1))) + ((-1) * zV (up x 3) 6)) + (1 * (((dn x 5) / 120))))=(((0 + (1 * (dn x 1))) + ((-1) * zV (up x 3) 6)) + (1 * (((dn x 5) / 120)))):=zQ (by omega);have w7:vJJ .i64 ((-1) * zV (up x 7) 5040)=((-1) * zV (up x 7) 5040):=zQ (by omega);have w8:vJJ .i64 ((((0 + (1 * (dn x 1))) + ((-1) * zV (up x 3) 6)) + (1 * (((dn x 5) / 120)))) + ((-1) * zV (up x 7) 5040))=((((0 + (1 * (dn x 1))) + ((-1) * zV (up x 3) 6)) + (1 * (((dn x 5) / 120)))) + ((-1) * zV (up x 7) 5040)):=zQ (by omega);simp only [w0,w1,w2,w3,w4,w5,w6,w7,w8]
 try omega
def jYY (x:Int):Int:=(vJJ .i64 ((vJJ .i64 ((vJJ .i64 ((vJJ .i64 ((vJJ .i64 (0 + (vJJ .i64 (1 * (up x 1))))) + (vJJ .i64 ((-1) * (vJJ .i64 ((dn x 3).tdiv 6)))))) + (vJJ .i64 (1 * zV (up x 5) 120)))) + (vJJ .i64 ((-1) * (vJJ .i64 ((dn x 7).tdiv 5040)))))) + (vJJ .i64 (1 * zV (up x 9) 362880))))
theorem aSineU_eq {x:Int} (h:0≤x∧x≤8192):jYY x=sinU x:=by
 have d3:=qXK h 3;have d7:=qXK h 7;have u1:=qJG h 1;have u5:=qJG h 5;have u9:=qJG h 9;have c5:=yW (r:=zV (up x 5) 120) rfl u5 (by decide);have c9:=yW (r:=zV (up x 9) 362880) rfl u9 (by decide);unfold jYY sinU;simp only [tdnn d3.1,tdnn d7.1];have w0:vJJ .i64 (1 * (up x 1))=(1 * (up x 1)):=zQ (by omega);have w1:vJJ .i64 (0 + (1 * (up x 1)))=(0 + (1 * (up x 1))):=zQ (by omega);have w2:vJJ .i64 (((dn x 3) / 6))=(((dn x 3) / 6)):=zQ (by omega);have w3:vJJ .i64 ((-1) * (((dn x 3) / 6)))=((-1) * (((dn x 3) / 6))):=zQ (by omega);have w4:vJJ .i64 ((0 + (1 * (up x 1))) + ((-1) * (((dn x 3) / 6))))=((0 + (1 * (up x 1))) + ((-1) * (((dn x 3) / 6)))):=zQ (by omega);have w5:vJJ .i64 (1 * zV (up x 5) 120)=(1 * zV (up x 5) 120):=zQ (by omega);have w6:vJJ .i64 (((0 + (1 * (up x 1))) + ((-1) * (((dn x 3) / 6)))) + (1 * zV (up x 5) 120))=(((0 + (1 * (up x 1))) + ((-1) * (((dn x 3) / 6)))) + (1 * zV (up x 5) 120)):=zQ (by omega);have w7:vJJ .i64 (((dn x 7) / 5040))=(((dn x 7) / 5040)):=zQ (by omega);have w8:vJJ .i64 ((-1) * (((dn x 7) / 5040)))=((-1) * (((dn x 7) / 5040))):=zQ (by omega);have w9:vJJ .i64 ((((0 + (1 * (up x 1))) + ((-1) * (((dn x 3) / 6)))) + (1 * zV (up x 5) 120)) + ((-1) * (((dn x 7) / 5040))))=((((0 + (1 * (up x 1))) + ((-1) * (((dn x 3) / 6)))) + (1 * zV (up x 5) 120)) + ((-1) * (((dn x 7) / 5040)))):=zQ (by omega);have w10:vJJ .i64 (1 * zV (up x 9) 362880)=(1 * zV (up x 9) 362880):=zQ (by omega);have w11:vJJ .i64 (((((0 + (1 * (up x 1))) + ((-1) * (((dn x 3) / 6)))) + (1 * zV (up x 5) 120)) + ((-1) * (((dn x 7) / 5040)))) + (1 * zV (up x 9) 362880))=(((((0 + (1 * (up x 1))) + ((-1) * (((dn x 3) / 6)))) + (1 * zV (up x 5) 120)) + ((-1) * (((dn x 7) / 5040)))) + (1 * zV (up x 9) 362880)):=zQ (by omega);simp only [w0,w1,w2,w3,w4,w5,w6,w7,w8,w9,w10,w11]
 try omega
end Ta
set_option maxRecDepth 100000 in
theorem aSine (x:Int) (h:0≤x∧x≤8192) (w:World):Calls Tryz.prog 202 [.int .i64 x].toArray w (Rets (iv (yWV x)) (w)) :=
 zZ (x:=.a (ivC (yWV x))) (qH (N:=60) (ps:=[.n .i64 x]) yJ zG (OrL.ok (l:=LTa9) yUW) ((by kernel_rfl:_=bif decide (0≤x∧x≤8192) then (bif pw (up x 3) then (bif pw (up x 7) then (bif pw (up x 5) then (bif pw (up x 9) then (bif iw (jYY x) then some (.v (.a (ivC (encI (jVV x) (jYY x)))),[])
 else none)
 else none)
 else none)
 else none)
 else none)
 else none).trans (by
 have iL:iw (jVV x)=true:=iww _;have iU:iw (jYY x)=true:=iww _;rw [aSineL_eq h] at iL ⊢;rw [aSineU_eq h] at iU ⊢;simp only [vJQ h,kJG h,kWY h,kWJ h,iL,iU,vYV,vZJ]
 rfl))) rfl rfl w
namespace Ta
def yYQ (x:Int):Int:=(vJJ .i64 ((vJJ .i64 ((vJJ .i64 ((vJJ .i64 ((vJJ .i64 (1073741824 + (vJJ .i64 ((-1) * zV (up x 2) 2)))) + (vJJ .i64 (1 * (vJJ .i64 ((dn x 4).tdiv 24)))))) + (vJJ .i64 ((-1) * zV (up x 6) 720)))) + (vJJ .i64 (1 * (vJJ .i64 ((dn x 8).tdiv 40320)))))) + (vJJ .i64 ((-1) * zV (up x 10) 3628800))))
theorem aCosineL_eq {x:Int} (h:0≤x∧x≤8192):yYQ x=cosL x:=by
 have d4:=qXK h 4;have d8:=qXK h 8;have u2:=qJG h 2;have u6:=qJG h 6;have u10:=qJG h 10;have c10:=yW (r:=zV (up x 10) 3628800) rfl u10 (by decide);have c2:=yW (r:=zV (up x 2) 2) rfl u2 (by decide);have c6:=yW (r:=zV (up x 6) 720) rfl u6 (by decide);unfold yYQ cosL;simp only [tdnn d4.1,tdnn d8.1];have w0:vJJ .i64 ((-1) * zV (up x 2) 2)=((-1) * zV (up x 2) 2):=zQ (by omega);have w1:vJJ .i64 (1073741824 + ((-1) * zV (up x 2) 2))=(1073741824 + ((-1) * zV (up x 2) 2)):=zQ (by omega);have w2:vJJ .i64 (((dn x 4) / 24))=(((dn x 4) / 24)):=zQ (by omega);have w3:vJJ .i64 (1 * (((dn x 4) / 24)))=(1 * (((dn x 4) / 24))):=zQ (by omega);have w4:vJJ .i64 ((1073741824 + ((-1) * zV (up x 2) 2)) + (1 * (((dn x 4) / 24))))=((1073741824 + ((-1) * zV (up x 2) 2)) + (1 * (((dn x 4) / 24)))):=zQ (by omega);have w5:vJJ .i64 ((-1) * zV (up x 6) 720)=((-1) * zV (up x 6) 720):=zQ (by omega);have w6:vJJ .i64 (((1073741824 + ((-1) * zV (up x 2) 2)) + (1 * (((dn x 4) / 24)))) + ((-1) * zV (up x 6) 720))=(((1073741824 + ((-1) * zV (up x 2) 2)) + (1 * (((dn x 4) / 24)))) + ((-1) * zV (up x 6) 720)):=zQ (by omega);have w7:vJJ .i64 (((dn x 8) / 40320))=(((dn x 8) / 40320)):=zQ (by omega);have w8:vJJ .i64 (1 * (((dn x 8) / 40320)))=(1 * (((dn x 8) / 40320))):=zQ (by omega);have w9:vJJ .i64 ((((1073741824 + ((-1) * zV (up x 2) 2)) + (1 * (((dn x 4) / 24)))) + ((-1) * zV (up x 6) 720)) + (1 * (((dn x 8) / 40320))))=((((1073741824 + ((-1) * zV (up x 2) 2)) + (1 * (((dn x 4) / 24)))) + ((-1) * zV (up x 6) 720)) + (1 * (((dn x 8) / 40320)))):=zQ (by omega);have w10:vJJ .i64 ((-1) * zV (up x 10) 3628800)=((-1) * zV (up x 10) 3628800):=zQ (by omega);have w11:vJJ .i64 (((((1073741824 + ((-1) * zV (up x 2) 2)) + (1 * (((dn x 4) / 24)))) + ((-1) * zV (up x 6) 720)) + (1 * (((dn x 8) / 40320)))) + ((-1) * zV (up x 10) 3628800))=(((((1073741824 + ((-1) * zV (up x 2) 2)) + (1 * (((dn x 4) / 24)))) + ((-1) * zV (up x 6) 720)) + (1 * (((dn x 8) / 40320)))) + ((-1) * zV (up x 10) 3628800)):=zQ (by omega);simp only [w0,w1,w2,w3,w4,w5,w6,w7,w8,w9,w10,w11]
 try omega
def zWU (x:Int):Int:=(vJJ .i64 ((vJJ .i64 ((vJJ .i64 ((vJJ .i64 (1073741824 + (vJJ .i64 ((-1) * (vJJ .i64 ((dn x 2).tdiv 2)))))) + (vJJ .i64 (1 * zV (up x 4) 24)))) + (vJJ .i64 ((-1) * (vJJ .i64 ((dn x 6).tdiv 720)))))) + (vJJ .i64 (1 * zV (up x 8) 40320))))
theorem aCosineU_eq {x:Int} (h:0≤x∧x≤8192):zWU x=cosU x:=by
 have d2:=qXK h 2;have d6:=qXK h 6;have u4:=qJG h 4;have u8:=qJG h 8;have c4:=yW (r:=zV (up x 4) 24) rfl u4 (by decide);have c8:=yW (r:=zV (up x 8) 40320) rfl u8 (by decide);unfold zWU cosU;simp only [tdnn d2.1,tdnn d6.1];have w0:vJJ .i64 (((dn x 2) / 2))=(((dn x 2) / 2)):=zQ (by omega);have w1:vJJ .i64 ((-1) * (((dn x 2) / 2)))=((-1) * (((dn x 2) / 2))):=zQ (by omega);have w2:vJJ .i64 (1073741824 + ((-1) * (((dn x 2) / 2))))=(1073741824 + ((-1) * (((dn x 2) / 2)))):=zQ (by omega);have w3:vJJ .i64 (1 * zV (up x 4) 24)=(1 * zV (up x 4) 24):=zQ (by omega);have w4:vJJ .i64 ((1073741824 + ((-1) * (((dn x 2) / 2)))) + (1 * zV (up x 4) 24))=((1073741824 + ((-1) * (((dn x 2) / 2)))) + (1 * zV (up x 4) 24)):=zQ (by omega);have w5:vJJ .i64 (((dn x 6) / 720))=(((dn x 6) / 720)):=zQ (by omega);have w6:vJJ .i64 ((-1) * (((dn x 6) / 720)))=((-1) * (((dn x 6) / 720))):=zQ (by omega);have w7:vJJ .i64 (((1073741824 + ((-1) * (((dn x 2) / 2)))) + (1 * zV (up x 4) 24)) + ((-1) * (((dn x 6) / 720))))=(((1073741824 + ((-1) * (((dn x 2) / 2)))) + (1 * zV (up x 4) 24)) + ((-1) * (((dn x 6) / 720)))):=zQ (by omega);have w8:vJJ .i64 (1 * zV (up x 8) 40320)=(1 * zV (up x 8) 40320):=zQ (by omega);have w9:vJJ .i64 ((((1073741824 + ((-1) * (((dn x 2) / 2)))) + (1 * zV (up x 4) 24)) + ((-1) * (((dn x 6) / 720)))) + (1 * zV (up x 8) 40320))=((((1073741824 + ((-1) * (((dn x 2) / 2)))) + (1 * zV (up x 4) 24)) + ((-1) * (((dn x 6) / 720)))) + (1 * zV (up x 8) 40320)):=zQ (by omega);simp only [w0,w1,w2,w3,w4,w5,w6,w7,w8,w9]
 try omega
end Ta
set_option maxRecDepth 100000 in
theorem aCosine (x:Int) (h:0≤x∧x≤8192) (w:World):Calls Tryz.prog 203 [.int .i64 x].toArray w (Rets (iv (zQH x)) (w)) :=
 zZ (x:=.a (ivC (zQH x))) (qH (N:=60) (ps:=[.n .i64 x]) yJ zG (OrL.ok (l:=LTa9) yUW) ((by kernel_rfl:_=bif decide (0≤x∧x≤8192) then (bif pw (up x 2) then (bif pw (up x 6) then (bif pw (up x 10) then (bif pw (up x 4) then (bif pw (up x 8) then (bif iw (zWU x) then some (.v (.a (ivC (encI (yYQ x) (zWU x)))),[])
 else none)
 else none)
 else none)
 else none)
 else none)
 else none)
 else none).trans (by
 have iL:iw (yYQ x)=true:=iww _;have iU:iw (zWU x)=true:=iww _;rw [aCosineL_eq h] at iL ⊢;rw [aCosineU_eq h] at iU ⊢;simp only [vJQ h,kJG h,kWY h,kWJ h,iL,iU,vYV,vZJ]
 rfl))) rfl rfl w
namespace Ta
def jZX (x:Int):Int:=(vJJ .i64 ((vJJ .i64 ((vJJ .i64 ((dn x 1) - zV (up x 3) 6)) + (dn x 5) / 120)) - zV (up x 7) 5040))
theorem rSineL_eq {x:Int} (h:0≤x∧x≤8192):jZX x=sinL x:=by
 have d1:=qXK h 1;have d5:=qXK h 5;have u3:=qJG h 3;have u7:=qJG h 7;have c3:=yW (r:=zV (up x 3) 6) rfl u3 (by decide);have c7:=yW (r:=zV (up x 7) 5040) rfl u7 (by decide);unfold jZX sinL;have w0:vJJ .i64 ((dn x 1) - zV (up x 3) 6)=((dn x 1) - zV (up x 3) 6):=zQ (by omega);have w1:vJJ .i64 (((dn x 1) - zV (up x 3) 6) + (dn x 5) / 120)=(((dn x 1) - zV (up x 3) 6) + (dn x 5) / 120):=zQ (by omega);have w2:vJJ .i64 ((((dn x 1) - zV (up x 3) 6) + (dn x 5) / 120) - zV (up x 7) 5040)=((((dn x 1) - zV (up x 3) 6) + (dn x 5) / 120) - zV (up x 7) 5040):=zQ (by omega);simp only [w0,w1,w2]
 try omega
def jZU (x:Int):Int:=(vJJ .i64 ((vJJ .i64 ((vJJ .i64 ((vJJ .i64 ((up x 1) - (dn x 3) / 6)) + zV (up x 5) 120)) - (dn x 7) / 5040)) + zV (up x 9) 362880))
theorem rSineU_eq {x:Int} (h:0≤x∧x≤8192):jZU x=sinU x:=by
 have d3:=qXK h 3;have d7:=qXK h 7;have u1:=qJG h 1;have u5:=qJG h 5;have u9:=qJG h 9;have c5:=yW (r:=zV (up x 5) 120) rfl u5 (by decide);have c9:=yW (r:=zV (up x 9) 362880) rfl u9 (by decide);unfold jZU sinU;have w0:vJJ .i64 ((up x 1) - (dn x 3) / 6)=((up x 1) - (dn x 3) / 6):=zQ (by omega);have w1:vJJ .i64 (((up x 1) - (dn x 3) / 6) + zV (up x 5) 120)=(((up x 1) - (dn x 3) / 6) + zV (up x 5) 120):=zQ (by omega);have w2:vJJ .i64 ((((up x 1) - (dn x 3) / 6) + zV (up x 5) 120) - (dn x 7) / 5040)=((((up x 1) - (dn x 3) / 6) + zV (up x 5) 120) - (dn x 7) / 5040):=zQ (by omega);have w3:vJJ .i64 (((((up x 1) - (dn x 3) / 6) + zV (up x 5) 120) - (dn x 7) / 5040) + zV (up x 9) 362880)=(((((up x 1) - (dn x 3) / 6) + zV (up x 5) 120) - (dn x 7) / 5040) + zV (up x 9) 362880):=zQ (by omega);simp only [w0,w1,w2,w3]
 try omega
end Ta
set_option maxRecDepth 100000 in
theorem rSine (x:Int) (h:0≤x∧x≤8192) (w:World):Calls Tryz.prog 192 [.int .i64 x].toArray w (Rets (iv (yWV x)) (w)) :=
 zZ (x:=.a (ivC (yWV x))) (qH (N:=60) (ps:=[.n .i64 x]) yJ zG (OrL.ok (l:=LTa9) yUW) ((by kernel_rfl:_=bif decide (0≤x∧x≤8192) then (bif iw (up x 3) then (bif iw (dn x 5) then (bif iw (up x 7) then (bif iw (dn x 3) then (bif iw (up x 5) then (bif iw (dn x 7) then (bif iw (up x 9) then (bif (iw (jZU x) && iw (jZX x)) then some (.v (.a (ivC (encI (jZX x) (jZU x)))),[])
 else none)
 else none)
 else none)
 else none)
 else none)
 else none)
 else none)
 else none)
 else none).trans (by
 have iL:iw (jZX x)=true:=iww _;have iU:iw (jZU x)=true:=iww _;rw [rSineL_eq h] at iL ⊢;rw [rSineU_eq h] at iU ⊢;simp only [vJQ h,kJG h,kWY h,kWJ h,iL,iU,vYV,vZJ]
 rfl))) rfl rfl w
namespace Ta
def zUH (x:Int):Int:=(vJJ .i64 ((vJJ .i64 ((vJJ .i64 ((vJJ .i64 ((vJJ .i64 (1073741824 - zV (up x 2) 2)) + (dn x 4) / 24)) - zV (up x 6) 720)) + (dn x 8) / 40320)) - zV (up x 10) 3628800))
theorem rCosineL_eq {x:Int} (h:0≤x∧x≤8192):zUH x=cosL x:=by
 have d4:=qXK h 4;have d8:=qXK h 8;have u2:=qJG h 2;have u6:=qJG h 6;have u10:=qJG h 10;have c10:=yW (r:=zV (up x 10) 3628800) rfl u10 (by decide);have c2:=yW (r:=zV (up x 2) 2) rfl u2 (by decide);have c6:=yW (r:=zV (up x 6) 720) rfl u6 (by decide);unfold zUH cosL;have w0:vJJ .i64 (1073741824 - zV (up x 2) 2)=(1073741824 - zV (up x 2) 2):=zQ (by omega);have w1:vJJ .i64 ((1073741824 - zV (up x 2) 2) + (dn x 4) / 24)=((1073741824 - zV (up x 2) 2) + (dn x 4) / 24):=zQ (by omega);have w2:vJJ .i64 (((1073741824 - zV (up x 2) 2) + (dn x 4) / 24) - zV (up x 6) 720)=(((1073741824 - zV (up x 2) 2) + (dn x 4) / 24) - zV (up x 6) 720):=zQ (by omega);have w3:vJJ .i64 ((((1073741824 - zV (up x 2) 2) + (dn x 4) / 24) - zV (up x 6) 720) + (dn x 8) / 40320)=((((1073741824 - zV (up x 2) 2) + (dn x 4) / 24) - zV (up x 6) 720) + (dn x 8) / 40320):=zQ (by omega);have w4:vJJ .i64 (((((1073741824 - zV (up x 2) 2) + (dn x 4) / 24) - zV (up x 6) 720) + (dn x 8) / 40320) - zV (up x 10) 3628800)=(((((1073741824 - zV (up x 2) 2) + (dn x 4) / 24) - zV (up x 6) 720) + (dn x 8) / 40320) - zV (up x 10) 3628800):=zQ (by omega);simp only [w0,w1,w2,w3,w4]
 try omega
def zUG (x:Int):Int:=(vJJ .i64 ((vJJ .i64 ((vJJ .i64 ((vJJ .i64 (1073741824 - (dn x 2) / 2)) + zV (up x 4) 24)) - (dn x 6) / 720)) + zV (up x 8) 40320))
theorem rCosineU_eq {x:Int} (h:0≤x∧x≤8192):zUG x=cosU x:=by
 have d2:=qXK h 2;have d6:=qXK h 6;have u4:=qJG h 4;have u8:=qJG h 8;have c4:=yW (r:=zV (up x 4) 24) rfl u4 (by decide);have c8:=yW (r:=zV (up x 8) 40320) rfl u8 (by decide);unfold zUG cosU;have w0:vJJ .i64 (1073741824 - (dn x 2) / 2)=(1073741824 - (dn x 2) / 2):=zQ (by omega);have w1:vJJ .i64 ((1073741824 - (dn x 2) / 2) + zV (up x 4) 24)=((1073741824 - (dn x 2) / 2) + zV (up x 4) 24):=zQ (by omega);have w2:vJJ .i64 (((1073741824 - (dn x 2) / 2) + zV (up x 4) 24) - (dn x 6) / 720)=(((1073741824 - (dn x 2) / 2) + zV (up x 4) 24) - (dn x 6) / 720):=zQ (by omega);have w3:vJJ .i64 ((((1073741824 - (dn x 2) / 2) + zV (up x 4) 24) - (dn x 6) / 720) + zV (up x 8) 40320)=((((1073741824 - (dn x 2) / 2) + zV (up x 4) 24) - (dn x 6) / 720) + zV (up x 8) 40320):=zQ (by omega);simp only [w0,w1,w2,w3]
 try omega
end Ta
set_option maxRecDepth 100000 in
theorem rCosine (x:Int) (h:0≤x∧x≤8192) (w:World):Calls Tryz.prog 193 [.int .i64 x].toArray w (Rets (iv (zQH x)) (w)) :=
 zZ (x:=.a (ivC (zQH x))) (qH (N:=60) (ps:=[.n .i64 x]) yJ zG (OrL.ok (l:=LTa9) yUW) ((by kernel_rfl:_=bif decide (0≤x∧x≤8192) then (bif iw (up x 2) then (bif iw (dn x 4) then (bif iw (up x 6) then (bif iw (dn x 8) then (bif iw (up x 10) then (bif iw (dn x 2) then (bif iw (up x 4) then (bif iw (dn x 6) then (bif iw (up x 8) then (bif (iw (zUG x) && iw (zUH x)) then some (.v (.a (ivC (encI (zUH x) (zUG x)))),[])
 else none)
 else none)
 else none)
 else none)
 else none)
 else none)
 else none)
 else none)
 else none)
 else none)
 else none).trans (by
 have iL:iw (zUH x)=true:=iww _;have iU:iw (zUG x)=true:=iww _;rw [rCosineL_eq h] at iL ⊢;rw [rCosineU_eq h] at iU ⊢;simp only [vJQ h,kJG h,kWY h,kWJ h,iL,iU,vYV,vZJ]
 rfl))) rfl rfl w
namespace Ta
noncomputable def jUZ:List PV→Option (Bool × Ret):=fun ps=>match ps with
 | [.n .i64 x]=>some (decide (0≤x∧x≤8192),.v (.a (ivC (yWV x))))
 | _=>none
theorem ok_aSine:zJ Tryz.prog 202 jUZ:=by
 intro ps r h;unfold jUZ at h;split at h
 ·simp only [vQZ,vQY] at h;obtain ⟨hg,rfl⟩:=h
  try simp only [vQJ,decide_eq_true_eq] at hg
  exact qX (qW Tryz.func202 (by kernel_rfl) (by kernel_rfl)) rfl rfl (fun w=>aSine _ hg w)
 ·cases h
noncomputable def LTa10:OrL:=(202,jUZ) :: LTa9
theorem LTa10_ok:AllP (fun x:Nat × (List PV→Option (Bool × Ret))=>zJ Tryz.prog x.1 x.2) LTa10:=⟨ok_aSine,yUW⟩
noncomputable def yJH:List PV→Option (Bool × Ret):=fun ps=>match ps with
 | [.n .i64 x]=>some (decide (0≤x∧x≤8192),.v (.a (ivC (zQH x))))
 | _=>none
theorem ok_aCosine:zJ Tryz.prog 203 yJH:=by
 intro ps r h;unfold yJH at h;split at h
 ·simp only [vQZ,vQY] at h;obtain ⟨hg,rfl⟩:=h
  try simp only [vQJ,decide_eq_true_eq] at hg
  exact qX (qW Tryz.func203 (by kernel_rfl) (by kernel_rfl)) rfl rfl (fun w=>aCosine _ hg w)
 ·cases h
noncomputable def LTa11:OrL:=(203,yJH) :: LTa10
theorem LTa11_ok:AllP (fun x:Nat × (List PV→Option (Bool × Ret))=>zJ Tryz.prog x.1 x.2) LTa11:=⟨ok_aCosine,LTa10_ok⟩
noncomputable def jKU:List PV→Option (Bool × Ret):=fun ps=>match ps with
 | [.n .i64 x]=>some (decide (0≤x∧x≤8192),.v (.a (ivC (yWV x))))
 | _=>none
theorem ok_rSine:zJ Tryz.prog 192 jKU:=by
 intro ps r h;unfold jKU at h;split at h
 ·simp only [vQZ,vQY] at h;obtain ⟨hg,rfl⟩:=h
  try simp only [vQJ,decide_eq_true_eq] at hg
  exact qX (qW Tryz.func192 (by kernel_rfl) (by kernel_rfl)) rfl rfl (fun w=>rSine _ hg w)
 ·cases h
noncomputable def LTa12:OrL:=(192,jKU) :: LTa11
theorem LTa12_ok:AllP (fun x:Nat × (List PV→Option (Bool × Ret))=>zJ Tryz.prog x.1 x.2) LTa12:=⟨ok_rSine,LTa11_ok⟩
noncomputable def yJV:List PV→Option (Bool × Ret):=fun ps=>match ps with
 | [.n .i64 x]=>some (decide (0≤x∧x≤8192),.v (.a (ivC (zQH x))))
 | _=>none
theorem ok_rCosine:zJ Tryz.prog 193 yJV:=by
 intro ps r h;unfold yJV at h;split at h
 ·simp only [vQZ,vQY] at h;obtain ⟨hg,rfl⟩:=h
  try simp only [vQJ,decide_eq_true_eq] at hg
  exact qX (qW Tryz.func193 (by kernel_rfl) (by kernel_rfl)) rfl rfl (fun w=>rCosine _ hg w)
 ·cases h
noncomputable def kWH:OrL:=(193,yJV) :: LTa12
theorem jQG:AllP (fun x:Nat × (List PV→Option (Bool × Ret))=>zJ Tryz.prog x.1 x.2) kWH:=⟨ok_rCosine,LTa12_ok⟩
end Ta
set_option maxRecDepth 100000 in
theorem aFirst (r:Int) (_:0≤r∧r≤16384) (w:World):Calls Tryz.prog 198 [.int .i64 r].toArray w (Rets (iv (qKX r)) (w)) :=
 zZ (x:=.a (ivC (qKX r))) (qH (N:=60) (ps:=[.n .i64 r]) yJ zG (OrL.ok (l:=kWH) jQG) ((by kernel_rfl:_=bif (decide (r≤8192)) then (bif decide (0≤r∧r≤8192) then some (.v (.a (ivC (yWV r))),[])
 else none)
 else bif decide (0≤(vJJ .i64 (16384 - r))∧(vJJ .i64 (16384 - r))≤8192) then some (.v (.a (ivC (zQH (vJJ .i64 (16384 - r))))),[])
 else none).trans (by
 by_cases p:r≤8192
 ·simp only [vJQ p,vYV,vJQ (show 0≤r∧r≤8192 by omega)];unfold qKX;rw [vJQ p]; rfl
 ·have w0:vJJ .i64 (16384 - r)=16384 - r:=zQ (by omega);simp only [w0,vYH p,vYG,vJQ (show 0≤16384 - r∧16384 - r≤8192 by omega),vYV];unfold qKX;rw [vYH p]; rfl))) rfl rfl w
set_option maxRecDepth 100000 in
theorem rQuarter (r:Int) (_:0≤r∧r≤16384) (w:World):Calls Tryz.prog 188 [.int .i64 r].toArray w (Rets (iv (qKX r)) (w)) :=
 zZ (x:=.a (ivC (qKX r))) (qH (N:=60) (ps:=[.n .i64 r]) yJ zG (OrL.ok (l:=kWH) jQG) ((by kernel_rfl:_=bif (decide (r≤8192)) then (bif decide (0≤r∧r≤8192) then some (.v (.a (ivC (yWV r))),[])
 else none)
 else bif decide (0≤(vJJ .i64 (16384 - r))∧(vJJ .i64 (16384 - r))≤8192) then some (.v (.a (ivC (zQH (vJJ .i64 (16384 - r))))),[])
 else none).trans (by
 by_cases p:r≤8192
 ·simp only [vJQ p,vYV,vJQ (show 0≤r∧r≤8192 by omega)];unfold qKX;rw [vJQ p]; rfl
 ·have w0:vJJ .i64 (16384 - r)=16384 - r:=zQ (by omega);simp only [w0,vYH p,vYG,vJQ (show 0≤16384 - r∧16384 - r≤8192 by omega),vYV];unfold qKX;rw [vYH p]; rfl))) rfl rfl w
namespace Ta
noncomputable def yGW:List PV→Option (Bool × Ret):=fun ps=>match ps with
 | [.n .i64 r]=>some (decide (0≤r∧r≤16384),.v (.a (ivC (qKX r))))
 | _=>none
theorem ok_aFirst:zJ Tryz.prog 198 yGW:=by
 intro ps r h;unfold yGW at h;split at h
 ·simp only [vQZ,vQY] at h;obtain ⟨hg,rfl⟩:=h
  try simp only [vQJ,decide_eq_true_eq] at hg
  exact qX (qW Tryz.func198 (by kernel_rfl) (by kernel_rfl)) rfl rfl (fun w=>aFirst _ hg w)
 ·cases h
noncomputable def LTa14:OrL:=(198,yGW) :: kWH
theorem LTa14_ok:AllP (fun x:Nat × (List PV→Option (Bool × Ret))=>zJ Tryz.prog x.1 x.2) LTa14:=⟨ok_aFirst,jQG⟩
noncomputable def zVV:List PV→Option (Bool × Ret):=fun ps=>match ps with
 | [.n .i64 r]=>some (decide (0≤r∧r≤16384),.v (.a (ivC (qKX r))))
 | _=>none
theorem ok_rQuarter:zJ Tryz.prog 188 zVV:=by
 intro ps r h;unfold zVV at h;split at h
 ·simp only [vQZ,vQY] at h;obtain ⟨hg,rfl⟩:=h
  try simp only [vQJ,decide_eq_true_eq] at hg
  exact qX (qW Tryz.func188 (by kernel_rfl) (by kernel_rfl)) rfl rfl (fun w=>rQuarter _ hg w)
 ·cases h
noncomputable def LTa15:OrL:=(188,zVV) :: LTa14
theorem LTa15_ok:AllP (fun x:Nat × (List PV→Option (Bool × Ret))=>zJ Tryz.prog x.1 x.2) LTa15:=⟨ok_rQuarter,LTa14_ok⟩
noncomputable def kZZ:List PV→Option (Bool × Ret):=fun ps=>match ps with
 | [.n .i64 a]=>some (true,.v (.n .i64 ((a % 65536))))
 | _=>none
theorem ok_aMod:zJ Tryz.prog 197 kZZ:=by
 intro ps r h;unfold kZZ at h;split at h
 ·simp only [vQZ,vQY] at h;obtain ⟨hg,rfl⟩:=h;exact qX (qW Tryz.func197 (by kernel_rfl) (by kernel_rfl)) rfl rfl (fun w=>aMod _ w)
 ·cases h
noncomputable def LTa16:OrL:=(197,kZZ) :: LTa15
theorem LTa16_ok:AllP (fun x:Nat × (List PV→Option (Bool × Ret))=>zJ Tryz.prog x.1 x.2) LTa16:=⟨ok_aMod,LTa15_ok⟩
noncomputable def kQU:List PV→Option (Bool × Ret):=fun ps=>match ps with
 | [.n .i64 a]=>some (true,.v (.n .i64 ((a % 65536))))
 | _=>none
theorem ok_rMod:zJ Tryz.prog 187 kQU:=by
 intro ps r h;unfold kQU at h;split at h
 ·simp only [vQZ,vQY] at h;obtain ⟨hg,rfl⟩:=h;exact qX (qW Tryz.func187 (by kernel_rfl) (by kernel_rfl)) rfl rfl (fun w=>rMod _ w)
 ·cases h
noncomputable def LTa17:OrL:=(187,kQU) :: LTa16
theorem LTa17_ok:AllP (fun x:Nat × (List PV→Option (Bool × Ret))=>zJ Tryz.prog x.1 x.2) LTa17:=⟨ok_rMod,LTa16_ok⟩
noncomputable def o_iNeg:List PV→Option (Bool × Ret):=fun ps=>match ps with
 | [.a a']=>(ivD a').bind fun a=>some (true,.v (.a (ivC (Iv.neg a))))
 | _=>none
theorem ok_iNeg:zJ Tryz.prog 184 o_iNeg:=by
 intro ps r h;unfold o_iNeg at h;split at h
 ·simp only [vQQ,vQZ,vQY] at h;obtain ⟨a,ha,hg,rfl⟩:=h;rw [qQH ha];exact qX (qW Tryz.func184 (by kernel_rfl) (by kernel_rfl)) rfl rfl (fun w=>iNeg _ _ w)
 ·cases h
noncomputable def LTa18:OrL:=(184,o_iNeg) :: LTa17
theorem LTa18_ok:AllP (fun x:Nat × (List PV→Option (Bool × Ret))=>zJ Tryz.prog x.1 x.2) LTa18:=⟨ok_iNeg,LTa17_ok⟩
noncomputable def o_rNeg:List PV→Option (Bool × Ret):=fun ps=>match ps with
 | [.a a']=>(ivD a').bind fun a=>some (true,.v (.a (ivC (Iv.neg a))))
 | _=>none
theorem ok_rNeg:zJ Tryz.prog 171 o_rNeg:=by
 intro ps r h;unfold o_rNeg at h;split at h
 ·simp only [vQQ,vQZ,vQY] at h;obtain ⟨a,ha,hg,rfl⟩:=h;rw [qQH ha];exact qX (qW Tryz.func171 (by kernel_rfl) (by kernel_rfl)) rfl rfl (fun w=>rNeg _ _ w)
 ·cases h
noncomputable def kWG:OrL:=(171,o_rNeg) :: LTa18
theorem jQV:AllP (fun x:Nat × (List PV→Option (Bool × Ret))=>zJ Tryz.prog x.1 x.2) kWG:=⟨ok_rNeg,LTa18_ok⟩
end Ta
set_option maxRecDepth 100000 in
theorem aSin (a:Int) (w:World):Calls Tryz.prog 191 [.int .i64 a].toArray w (Rets (iv (sinI a)) (w)) :=
 zZ (x:=.a (ivC (sinI a))) (qH (N:=60) (ps:=[.n .i64 a]) yJ zG (OrL.ok (l:=kWG) jQV) ((by kernel_rfl:_=bif (decide ((vJJ .i64 ((a % 65536).tdiv 16384))=0)) then (bif decide (0≤((a % 65536).tmod 16384)∧((a % 65536).tmod 16384)≤16384) then some (.v (.a (ivC (qKX ((a % 65536).tmod 16384)))),[])
 else none)
 else bif (decide ((vJJ .i64 ((a % 65536).tdiv 16384))=1)) then (bif decide (0≤(vJJ .i64 (16384 - ((a % 65536).tmod 16384)))∧(vJJ .i64 (16384 - ((a % 65536).tmod 16384)))≤16384) then some (.v (.a (ivC (qKX (vJJ .i64 (16384 - ((a % 65536).tmod 16384)))))),[])
 else none)
 else bif (decide ((vJJ .i64 ((a % 65536).tdiv 16384))=2)) then (bif decide (0≤((a % 65536).tmod 16384)∧((a % 65536).tmod 16384)≤16384) then some (.v (.a (ivC (Iv.neg (qKX ((a % 65536).tmod 16384))))),[])
 else none)
 else bif decide (0≤(vJJ .i64 (16384 - ((a % 65536).tmod 16384)))∧(vJJ .i64 (16384 - ((a % 65536).tmod 16384)))≤16384) then some (.v (.a (ivC (Iv.neg (qKX (vJJ .i64 (16384 - ((a % 65536).tmod 16384))))))),[])
 else none).trans (by
 have ht:(a % 65536).tdiv 16384=a % 65536 / 16384:=tdnn (by omega);have hm:(a % 65536).tmod 16384=a % 65536 % 16384:=Int.tmod_eq_emod_of_nonneg (by omega);have w1:vJJ .i64 (a % 65536 % 16384)=a % 65536 % 16384:=zQ (by omega);have w2:vJJ .i64 (a % 65536 / 16384)=a % 65536 / 16384:=zQ (by omega);have w3:vJJ .i64 (16384 - a % 65536 % 16384)=16384 - a % 65536 % 16384:=zQ (by omega);simp only [ht,hm,w1,w2,w3,vJQ (show 0≤a % 65536 % 16384∧a % 65536 % 16384≤16384 by omega),vJQ (show 0≤16384 - a % 65536 % 16384∧16384 - a % 65536 % 16384≤16384 by omega),vYV];unfold sinI sinM;cases decide (a % 65536 / 16384=0) <;> cases decide (a % 65536 / 16384=1) <;> cases decide (a % 65536 / 16384=2) <;> rfl))) rfl rfl w
set_option maxRecDepth 100000 in
theorem rSin (a:Int) (w:World):Calls Tryz.prog 179 [.int .i64 a].toArray w (Rets (iv (sinI a)) (w)) :=
 zZ (x:=.a (ivC (sinI a))) (qH (N:=60) (ps:=[.n .i64 a]) yJ zG (OrL.ok (l:=kWG) jQV) ((by kernel_rfl:_=bif (decide ((vJJ .i64 ((a % 65536).tdiv 16384))=0)) then (bif decide (0≤((a % 65536).tmod 16384)∧((a % 65536).tmod 16384)≤16384) then some (.v (.a (ivC (qKX ((a % 65536).tmod 16384)))),[])
 else none)
 else bif (decide ((vJJ .i64 ((a % 65536).tdiv 16384))=1)) then (bif decide (0≤(vJJ .i64 (16384 - ((a % 65536).tmod 16384)))∧(vJJ .i64 (16384 - ((a % 65536).tmod 16384)))≤16384) then some (.v (.a (ivC (qKX (vJJ .i64 (16384 - ((a % 65536).tmod 16384)))))),[])
 else none)
 else bif (decide ((vJJ .i64 ((a % 65536).tdiv 16384))=2)) then (bif decide (0≤((a % 65536).tmod 16384)∧((a % 65536).tmod 16384)≤16384) then some (.v (.a (ivC (Iv.neg (qKX ((a % 65536).tmod 16384))))),[])
 else none)
 else bif decide (0≤(vJJ .i64 (16384 - ((a % 65536).tmod 16384)))∧(vJJ .i64 (16384 - ((a % 65536).tmod 16384)))≤16384) then some (.v (.a (ivC (Iv.neg (qKX (vJJ .i64 (16384 - ((a % 65536).tmod 16384))))))),[])
 else none).trans (by
 have ht:(a % 65536).tdiv 16384=a % 65536 / 16384:=tdnn (by omega);have hm:(a % 65536).tmod 16384=a % 65536 % 16384:=Int.tmod_eq_emod_of_nonneg (by omega);have w1:vJJ .i64 (a % 65536 % 16384)=a % 65536 % 16384:=zQ (by omega);have w2:vJJ .i64 (a % 65536 / 16384)=a % 65536 / 16384:=zQ (by omega);have w3:vJJ .i64 (16384 - a % 65536 % 16384)=16384 - a % 65536 % 16384:=zQ (by omega);simp only [ht,hm,w1,w2,w3,vJQ (show 0≤a % 65536 % 16384∧a % 65536 % 16384≤16384 by omega),vJQ (show 0≤16384 - a % 65536 % 16384∧16384 - a % 65536 % 16384≤16384 by omega),vYV];unfold sinI sinM;cases decide (a % 65536 / 16384=0) <;> cases decide (a % 65536 / 16384=1) <;> cases decide (a % 65536 / 16384=2) <;> rfl))) rfl rfl w
namespace Ta
noncomputable def kQH:List PV→Option (Bool × Ret):=fun ps=>match ps with
 | [.n .i64 a]=>some (true,.v (.a (ivC (sinI a))))
 | _=>none
theorem ok_aSin:zJ Tryz.prog 191 kQH:=by
 intro ps r h;unfold kQH at h;split at h
 ·simp only [vQZ,vQY] at h;obtain ⟨hg,rfl⟩:=h;exact qX (qW Tryz.func191 (by kernel_rfl) (by kernel_rfl)) rfl rfl (fun w=>aSin _ w)
 ·cases h
noncomputable def LTa20:OrL:=(191,kQH) :: kWG
theorem LTa20_ok:AllP (fun x:Nat × (List PV→Option (Bool × Ret))=>zJ Tryz.prog x.1 x.2) LTa20:=⟨ok_aSin,jQV⟩
noncomputable def kQY:List PV→Option (Bool × Ret):=fun ps=>match ps with
 | [.n .i64 a]=>some (true,.v (.a (ivC (sinI a))))
 | _=>none
theorem ok_rSin:zJ Tryz.prog 179 kQY:=by
 intro ps r h;unfold kQY at h;split at h
 ·simp only [vQZ,vQY] at h;obtain ⟨hg,rfl⟩:=h;exact qX (qW Tryz.func179 (by kernel_rfl) (by kernel_rfl)) rfl rfl (fun w=>rSin _ w)
 ·cases h
noncomputable def kWV:OrL:=(179,kQY) :: LTa20
theorem jQW:AllP (fun x:Nat × (List PV→Option (Bool × Ret))=>zJ Tryz.prog x.1 x.2) kWV:=⟨ok_rSin,LTa20_ok⟩
end Ta
set_option maxRecDepth 100000 in
theorem aCos (a:Int) (w:World):Calls Tryz.prog 190 [.int .i64 a].toArray w (Rets (iv (cosI a)) (w)) :=
 zZ (x:=.a (ivC (cosI a))) (qH (N:=60) (ps:=[.n .i64 a]) yJ zG (OrL.ok (l:=kWV) jQW) ((by kernel_rfl:_=some (.v (.a (ivC (sinI (vJJ .i64 ((a % 65536) + 16384))))),[])).trans (by
 rw [zQ (show -9223372036854775808≤a % 65536 + 16384∧a % 65536 + 16384≤9223372036854775807 by omega)]
 rfl))) rfl rfl w
set_option maxRecDepth 100000 in
theorem rCos (a:Int) (w:World):Calls Tryz.prog 178 [.int .i64 a].toArray w (Rets (iv (cosI a)) (w)) :=
 zZ (x:=.a (ivC (cosI a))) (qH (N:=60) (ps:=[.n .i64 a]) yJ zG (OrL.ok (l:=kWV) jQW) ((by kernel_rfl:_=some (.v (.a (ivC (sinI (vJJ .i64 ((a % 65536) + 16384))))),[])).trans (by
 rw [zQ (show -9223372036854775808≤a % 65536 + 16384∧a % 65536 + 16384≤9223372036854775807 by omega)]
 rfl))) rfl rfl w
namespace Ta
noncomputable def kZJ:List PV→Option (Bool × Ret):=fun ps=>match ps with
 | [.n .i64 a]=>some (true,.v (.a (ivC (cosI a))))
 | _=>none
theorem ok_aCos:zJ Tryz.prog 190 kZJ:=by
 intro ps r h;unfold kZJ at h;split at h
 ·simp only [vQZ,vQY] at h;obtain ⟨hg,rfl⟩:=h;exact qX (qW Tryz.func190 (by kernel_rfl) (by kernel_rfl)) rfl rfl (fun w=>aCos _ w)
 ·cases h
noncomputable def LTa22:OrL:=(190,kZJ) :: kWV
theorem LTa22_ok:AllP (fun x:Nat × (List PV→Option (Bool × Ret))=>zJ Tryz.prog x.1 x.2) LTa22:=⟨ok_aCos,jQW⟩
noncomputable def kQW:List PV→Option (Bool × Ret):=fun ps=>match ps with
 | [.n .i64 a]=>some (true,.v (.a (ivC (cosI a))))
 | _=>none
theorem ok_rCos:zJ Tryz.prog 178 kQW:=by
 intro ps r h;unfold kQW at h;split at h
 ·simp only [vQZ,vQY] at h;obtain ⟨hg,rfl⟩:=h;exact qX (qW Tryz.func178 (by kernel_rfl) (by kernel_rfl)) rfl rfl (fun w=>rCos _ w)
 ·cases h
noncomputable def LTa23:OrL:=(178,kQW) :: LTa22
theorem LTa23_ok:AllP (fun x:Nat × (List PV→Option (Bool × Ret))=>zJ Tryz.prog x.1 x.2) LTa23:=⟨ok_rCos,LTa22_ok⟩
noncomputable def LTa24:OrL:=(135,Tn.o_iValid) :: LTa23
theorem LTa24_ok:AllP (fun x:Nat × (List PV→Option (Bool × Ret))=>zJ Tryz.prog x.1 x.2) LTa24:=⟨Tn.ok_iValid,LTa23_ok⟩
noncomputable def jUQ:List PV→Option (Bool × Ret):=fun ps=>match ps with
 | [.a a',.a b']=>(ivD a').bind fun a=>(ivD b').bind fun b=>some (true,.v (.a (ivC (Iv.hull a b))))
 | _=>none
theorem ok_iHull:zJ Tryz.prog 195 jUQ:=by
 intro ps r h;unfold jUQ at h;split at h
 ·simp only [vQQ,vQZ,vQY] at h;obtain ⟨a,ha,b,hb,hg,rfl⟩:=h;rw [qQH ha];rw [qQH hb];exact qX (qW Tryz.func195 (by kernel_rfl) (by kernel_rfl)) rfl rfl (fun w=>iHull _ _ _ _ w)
 ·cases h
noncomputable def LTa25:OrL:=(195,jUQ) :: LTa24
theorem LTa25_ok:AllP (fun x:Nat × (List PV→Option (Bool × Ret))=>zJ Tryz.prog x.1 x.2) LTa25:=⟨ok_iHull,LTa24_ok⟩
noncomputable def o_iOf:List PV→Option (Bool × Ret):=fun ps=>match ps with
 | [.n .i64 x]=>some (true,.v (.a (ivC (Iv.of x))))
 | _=>none
theorem ok_iOf:zJ Tryz.prog 122 o_iOf:=by
 intro ps r h;unfold o_iOf at h;split at h
 ·simp only [vQZ,vQY] at h;obtain ⟨hg,rfl⟩:=h;exact qX (qW Tryz.func122 (by kernel_rfl) (by kernel_rfl)) rfl rfl (fun w=>iOf _ w)
 ·cases h
noncomputable def LTa26:OrL:=(122,o_iOf) :: LTa25
theorem LTa26_ok:AllP (fun x:Nat × (List PV→Option (Bool × Ret))=>zJ Tryz.prog x.1 x.2) LTa26:=⟨ok_iOf,LTa25_ok⟩
noncomputable def LTa27:OrL:=(148,Tn.o_rValid) :: LTa26
theorem LTa27_ok:AllP (fun x:Nat × (List PV→Option (Bool × Ret))=>zJ Tryz.prog x.1 x.2) LTa27:=⟨Tn.ok_rValid,LTa26_ok⟩
noncomputable def jKX:List PV→Option (Bool × Ret):=fun ps=>match ps with
 | [.a a',.a b']=>(ivD a').bind fun a=>(ivD b').bind fun b=>some (true,.v (.a (ivC (Iv.hull a b))))
 | _=>none
theorem ok_rHull:zJ Tryz.prog 185 jKX:=by
 intro ps r h;unfold jKX at h;split at h
 ·simp only [vQQ,vQZ,vQY] at h;obtain ⟨a,ha,b,hb,hg,rfl⟩:=h;rw [qQH ha];rw [qQH hb];exact qX (qW Tryz.func185 (by kernel_rfl) (by kernel_rfl)) rfl rfl (fun w=>rHull _ _ _ _ w)
 ·cases h
noncomputable def LTa28:OrL:=(185,jKX) :: LTa27
theorem LTa28_ok:AllP (fun x:Nat × (List PV→Option (Bool × Ret))=>zJ Tryz.prog x.1 x.2) LTa28:=⟨ok_rHull,LTa27_ok⟩
noncomputable def o_rOf:List PV→Option (Bool × Ret):=fun ps=>match ps with
 | [.n .i64 x]=>some (true,.v (.a (ivC (Iv.of x))))
 | _=>none
theorem ok_rOf:zJ Tryz.prog 34 o_rOf:=by
 intro ps r h;unfold o_rOf at h;split at h
 ·simp only [vQZ,vQY] at h;obtain ⟨hg,rfl⟩:=h;exact qX (qW Tryz.func34 (by kernel_rfl) (by kernel_rfl)) rfl rfl (fun w=>rOf _ w)
 ·cases h
noncomputable def LTa29:OrL:=(34,o_rOf) :: LTa28
theorem LTa29_ok:AllP (fun x:Nat × (List PV→Option (Bool × Ret))=>zJ Tryz.prog x.1 x.2) LTa29:=⟨ok_rOf,LTa28_ok⟩
noncomputable def yGK:List PV→Option (Bool × Ret):=fun ps=>match ps with
 | [.a a']=>(ivD a').bind fun a=>some (true,.v (.n .i64 (Iv.width a)))
 | _=>none
theorem ok_iWidth:zJ Tryz.prog 194 yGK:=by
 intro ps r h;unfold yGK at h;split at h
 ·simp only [vQQ,vQZ,vQY] at h;obtain ⟨a,ha,hg,rfl⟩:=h;rw [qQH ha];exact qX (qW Tryz.func194 (by kernel_rfl) (by kernel_rfl)) rfl rfl (fun w=>iWidth _ _ w)
 ·cases h
noncomputable def LTa30:OrL:=(194,yGK) :: LTa29
theorem LTa30_ok:AllP (fun x:Nat × (List PV→Option (Bool × Ret))=>zJ Tryz.prog x.1 x.2) LTa30:=⟨ok_iWidth,LTa29_ok⟩
noncomputable def yGX:List PV→Option (Bool × Ret):=fun ps=>match ps with
 | [.a a',.n .i64 c]=>(ivD a').bind fun a=>some (decide (0≤c∧c < 65536) && Iv.valid a,.v (.b (uQ a c)))
 | _=>none
theorem ok_aMeets:zJ Tryz.prog 196 yGX:=by
 intro ps r h;unfold yGX at h;split at h
 ·simp only [vQQ,vQZ,vQY] at h;obtain ⟨a,ha,hg,rfl⟩:=h;rw [qQH ha]
  try simp only [vQJ,decide_eq_true_eq] at hg
  exact qX (qW Tryz.func196 (by kernel_rfl) (by kernel_rfl)) rfl rfl (fun w=>aMeets _ _ _ hg.2 hg.1 w)
 ·cases h
noncomputable def LTa31:OrL:=(196,yGX) :: LTa30
theorem LTa31_ok:AllP (fun x:Nat × (List PV→Option (Bool × Ret))=>zJ Tryz.prog x.1 x.2) LTa31:=⟨ok_aMeets,LTa30_ok⟩
noncomputable def yVX:List PV→Option (Bool × Ret):=fun ps=>match ps with
 | [.a a',.n .i64 c]=>(ivD a').bind fun a=>some (decide (0≤c∧c < 65536) && Iv.valid a,.v (.b (uQ a c)))
 | _=>none
theorem ok_rMeets:zJ Tryz.prog 186 yVX:=by
 intro ps r h;unfold yVX at h;split at h
 ·simp only [vQQ,vQZ,vQY] at h;obtain ⟨a,ha,hg,rfl⟩:=h;rw [qQH ha]
  try simp only [vQJ,decide_eq_true_eq] at hg
  exact qX (qW Tryz.func186 (by kernel_rfl) (by kernel_rfl)) rfl rfl (fun w=>rMeets _ _ _ hg.2 hg.1 w)
 ·cases h
noncomputable def kJQ:OrL:=(186,yVX) :: LTa31
theorem yYY:AllP (fun x:Nat × (List PV→Option (Bool × Ret))=>zJ Tryz.prog x.1 x.2) kJQ:=⟨ok_rMeets,LTa31_ok⟩
end Ta
set_option maxRecDepth 100000 in
theorem aSinOver (a0 a1:Int) (w:World):Calls Tryz.prog 183 [.agg #[.int .i64 a0,.int .i64 a1]].toArray w (Rets (iv (kV (⟨a0,a1⟩:Iv))) (w)) :=
 zZ (x:=.a (ivC (kV ⟨a0,a1⟩))) (qH (N:=60) (ps:=[.a [.n .i64 a0,.n .i64 a1]]) yJ zG (OrL.ok (l:=kJQ) yYY) ((by kernel_rfl:_=bif Iv.valid (Iv.mk a0 a1) then (bif (decide (65536≤Iv.width (Iv.mk a0 a1))) then some (.v (.a [.n .i64 (-65536),.n .i64 65536]),[])
 else bif Iv.valid (Iv.mk a0 a1) then (bif uQ (Iv.mk a0 a1) 16384 then (bif Iv.valid (Iv.mk a0 a1) then (bif uQ (Iv.mk a0 a1) 49152 then some (.v (.a (ivC (Iv.hull (Iv.hull (Iv.hull (sinI a0) (sinI a1)) (Iv.of 65536)) (Iv.of (-65536))))),[])
 else some (.v (.a (ivC (Iv.hull (Iv.hull (sinI a0) (sinI a1)) (Iv.of 65536)))),[]))
 else none)
 else bif Iv.valid (Iv.mk a0 a1) then (bif uQ (Iv.mk a0 a1) 49152 then some (.v (.a (ivC (Iv.hull (Iv.hull (sinI a0) (sinI a1)) (Iv.of (-65536))))),[])
 else some (.v (.a (ivC (Iv.hull (sinI a0) (sinI a1)))),[]))
 else none)
 else none)
 else some (.v (.a [.n .i64 0,.n .i64 0]),[])).trans (by
 have e:kV ⟨a0,a1⟩=bif !Iv.valid (Iv.mk a0 a1) then ⟨0,0⟩ else bif decide (65536≤a1 - a0) then ⟨-65536,65536⟩ else bif uQ (Iv.mk a0 a1) 49152 then Iv.hull (bif uQ (Iv.mk a0 a1) 16384 then Iv.hull (Iv.hull (sinI a0) (sinI a1)) (Iv.of 65536) else Iv.hull (sinI a0) (sinI a1)) (Iv.of (-65536)) else (bif uQ (Iv.mk a0 a1) 16384 then Iv.hull (Iv.hull (sinI a0) (sinI a1)) (Iv.of 65536) else Iv.hull (sinI a0) (sinI a1)):=rfl
 rw [e];cases hv:Iv.valid (Iv.mk a0 a1) with
 | false=>rfl
 | true =>
  have hb:=uV hv;have hw:Iv.width (Iv.mk a0 a1)=a1 - a0:=by unfold Iv.width; rw [hv]; rfl
  rw [hw];cases decide (65536≤a1 - a0) <;> cases uQ (Iv.mk a0 a1) 16384 <;> cases uQ (Iv.mk a0 a1) 49152 <;> rfl))) rfl rfl w
set_option maxRecDepth 100000 in
theorem aCosOver (a0 a1:Int) (w:World):Calls Tryz.prog 182 [.agg #[.int .i64 a0,.int .i64 a1]].toArray w (Rets (iv (kG (⟨a0,a1⟩:Iv))) (w)) :=
 zZ (x:=.a (ivC (kG ⟨a0,a1⟩))) (qH (N:=60) (ps:=[.a [.n .i64 a0,.n .i64 a1]]) yJ zG (OrL.ok (l:=kJQ) yYY) ((by kernel_rfl:_=bif Iv.valid (Iv.mk a0 a1) then (bif (decide (65536≤Iv.width (Iv.mk a0 a1))) then some (.v (.a [.n .i64 (-65536),.n .i64 65536]),[])
 else bif Iv.valid (Iv.mk a0 a1) then (bif uQ (Iv.mk a0 a1) 0 then (bif Iv.valid (Iv.mk a0 a1) then (bif uQ (Iv.mk a0 a1) 32768 then some (.v (.a (ivC (Iv.hull (Iv.hull (Iv.hull (cosI a0) (cosI a1)) (Iv.of 65536)) (Iv.of (-65536))))),[])
 else some (.v (.a (ivC (Iv.hull (Iv.hull (cosI a0) (cosI a1)) (Iv.of 65536)))),[]))
 else none)
 else bif Iv.valid (Iv.mk a0 a1) then (bif uQ (Iv.mk a0 a1) 32768 then some (.v (.a (ivC (Iv.hull (Iv.hull (cosI a0) (cosI a1)) (Iv.of (-65536))))),[])
 else some (.v (.a (ivC (Iv.hull (cosI a0) (cosI a1)))),[]))
 else none)
 else none)
 else some (.v (.a [.n .i64 0,.n .i64 0]),[])).trans (by
 have e:kG ⟨a0,a1⟩=bif !Iv.valid (Iv.mk a0 a1) then ⟨0,0⟩ else bif decide (65536≤a1 - a0) then ⟨-65536,65536⟩ else bif uQ (Iv.mk a0 a1) 32768 then Iv.hull (bif uQ (Iv.mk a0 a1) 0 then Iv.hull (Iv.hull (cosI a0) (cosI a1)) (Iv.of 65536) else Iv.hull (cosI a0) (cosI a1)) (Iv.of (-65536)) else (bif uQ (Iv.mk a0 a1) 0 then Iv.hull (Iv.hull (cosI a0) (cosI a1)) (Iv.of 65536) else Iv.hull (cosI a0) (cosI a1)):=rfl
 rw [e];cases hv:Iv.valid (Iv.mk a0 a1) with
 | false=>rfl
 | true =>
  have hb:=uV hv;have hw:Iv.width (Iv.mk a0 a1)=a1 - a0:=by unfold Iv.width; rw [hv]; rfl
  rw [hw];cases decide (65536≤a1 - a0) <;> cases uQ (Iv.mk a0 a1) 0 <;> cases uQ (Iv.mk a0 a1) 32768 <;> rfl))) rfl rfl w
set_option maxRecDepth 100000 in
theorem rSinOver (a0 a1:Int) (w:World):Calls Tryz.prog 170 [.agg #[.int .i64 a0,.int .i64 a1]].toArray w (Rets (iv (kV (⟨a0,a1⟩:Iv))) (w)) :=
 zZ (x:=.a (ivC (kV ⟨a0,a1⟩))) (qH (N:=60) (ps:=[.a [.n .i64 a0,.n .i64 a1]]) yJ zG (OrL.ok (l:=kJQ) yYY) ((by kernel_rfl:_=bif Iv.valid (Iv.mk a0 a1) then (bif (decide (65536≤(vJJ .i64 (a1 - a0)))) then some (.v (.a [.n .i64 (-65536),.n .i64 65536]),[])
 else bif Iv.valid (Iv.mk a0 a1) then (bif uQ (Iv.mk a0 a1) 16384 then (bif Iv.valid (Iv.mk a0 a1) then (bif uQ (Iv.mk a0 a1) 49152 then some (.v (.a (ivC (Iv.hull (Iv.hull (Iv.hull (sinI a0) (sinI a1)) (Iv.of 65536)) (Iv.of (-65536))))),[])
 else some (.v (.a (ivC (Iv.hull (Iv.hull (sinI a0) (sinI a1)) (Iv.of 65536)))),[]))
 else none)
 else bif Iv.valid (Iv.mk a0 a1) then (bif uQ (Iv.mk a0 a1) 49152 then some (.v (.a (ivC (Iv.hull (Iv.hull (sinI a0) (sinI a1)) (Iv.of (-65536))))),[])
 else some (.v (.a (ivC (Iv.hull (sinI a0) (sinI a1)))),[]))
 else none)
 else none)
 else some (.v (.a [.n .i64 0,.n .i64 0]),[])).trans (by
 have e:kV ⟨a0,a1⟩=bif !Iv.valid (Iv.mk a0 a1) then ⟨0,0⟩ else bif decide (65536≤a1 - a0) then ⟨-65536,65536⟩ else bif uQ (Iv.mk a0 a1) 49152 then Iv.hull (bif uQ (Iv.mk a0 a1) 16384 then Iv.hull (Iv.hull (sinI a0) (sinI a1)) (Iv.of 65536) else Iv.hull (sinI a0) (sinI a1)) (Iv.of (-65536)) else (bif uQ (Iv.mk a0 a1) 16384 then Iv.hull (Iv.hull (sinI a0) (sinI a1)) (Iv.of 65536) else Iv.hull (sinI a0) (sinI a1)):=rfl
 rw [e];cases hv:Iv.valid (Iv.mk a0 a1) with
 | false=>rfl
 | true =>
  have hb:=uV hv;have hw:vJJ .i64 (a1 - a0)=a1 - a0:=zQ (by omega);rw [hw];cases decide (65536≤a1 - a0) <;> cases uQ (Iv.mk a0 a1) 16384 <;> cases uQ (Iv.mk a0 a1) 49152 <;> rfl))) rfl rfl w
set_option maxRecDepth 100000 in
theorem rCosOver (a0 a1:Int) (w:World):Calls Tryz.prog 169 [.agg #[.int .i64 a0,.int .i64 a1]].toArray w (Rets (iv (kG (⟨a0,a1⟩:Iv))) (w)) :=
 zZ (x:=.a (ivC (kG ⟨a0,a1⟩))) (qH (N:=60) (ps:=[.a [.n .i64 a0,.n .i64 a1]]) yJ zG (OrL.ok (l:=kJQ) yYY) ((by kernel_rfl:_=bif Iv.valid (Iv.mk a0 a1) then (bif (decide (65536≤(vJJ .i64 (a1 - a0)))) then some (.v (.a [.n .i64 (-65536),.n .i64 65536]),[])
 else bif Iv.valid (Iv.mk a0 a1) then (bif uQ (Iv.mk a0 a1) 0 then (bif Iv.valid (Iv.mk a0 a1) then (bif uQ (Iv.mk a0 a1) 32768 then some (.v (.a (ivC (Iv.hull (Iv.hull (Iv.hull (cosI a0) (cosI a1)) (Iv.of 65536)) (Iv.of (-65536))))),[])
 else some (.v (.a (ivC (Iv.hull (Iv.hull (cosI a0) (cosI a1)) (Iv.of 65536)))),[]))
 else none)
 else bif Iv.valid (Iv.mk a0 a1) then (bif uQ (Iv.mk a0 a1) 32768 then some (.v (.a (ivC (Iv.hull (Iv.hull (cosI a0) (cosI a1)) (Iv.of (-65536))))),[])
 else some (.v (.a (ivC (Iv.hull (cosI a0) (cosI a1)))),[]))
 else none)
 else none)
 else some (.v (.a [.n .i64 0,.n .i64 0]),[])).trans (by
 have e:kG ⟨a0,a1⟩=bif !Iv.valid (Iv.mk a0 a1) then ⟨0,0⟩ else bif decide (65536≤a1 - a0) then ⟨-65536,65536⟩ else bif uQ (Iv.mk a0 a1) 32768 then Iv.hull (bif uQ (Iv.mk a0 a1) 0 then Iv.hull (Iv.hull (cosI a0) (cosI a1)) (Iv.of 65536) else Iv.hull (cosI a0) (cosI a1)) (Iv.of (-65536)) else (bif uQ (Iv.mk a0 a1) 0 then Iv.hull (Iv.hull (cosI a0) (cosI a1)) (Iv.of 65536) else Iv.hull (cosI a0) (cosI a1)):=rfl
 rw [e];cases hv:Iv.valid (Iv.mk a0 a1) with
 | false=>rfl
 | true =>
  have hb:=uV hv;have hw:vJJ .i64 (a1 - a0)=a1 - a0:=zQ (by omega);rw [hw];cases decide (65536≤a1 - a0) <;> cases uQ (Iv.mk a0 a1) 0 <;> cases uQ (Iv.mk a0 a1) 32768 <;> rfl))) rfl rfl w
end Go.Proofs.YtgmbkkkbfbocnaaGreat

/- Part 11 of the texts behind the last one: rules and contracts. No condition. -/
import Derived.Test.YtgmbkkkbfbocnaaGreatGC10
open Option renaming bind_eq_some_iff → vQQ
open Option.some renaming injEq → vQZ
open Prod.mk renaming injEq → vQY
open Bool renaming and_eq_true → vQJ, and_self → vZJ, true_and → vZH
open List renaming take_succ_cons → vYK, drop_succ_cons → vYU, take_zero → vYX, drop_zero → vYW
open Go.IntKind renaming wrap → vJJ
namespace Go.Proofs.YtgmbkkkbfbocnaaGreat
open Go.Sx Go.Rx Rt Go.RowKit
namespace Ta
end Ta
open Ta
theorem en180:uY Tryz.prog 180:=qW Tryz.func180 (by kernel_rfl) (by kernel_rfl)
theorem en181:uY Tryz.prog 181:=qW Tryz.func181 (by kernel_rfl) (by kernel_rfl)
theorem en197:uY Tryz.prog 197:=qW Tryz.func197 (by kernel_rfl) (by kernel_rfl)
theorem en187:uY Tryz.prog 187:=qW Tryz.func187 (by kernel_rfl) (by kernel_rfl)
theorem en201:uY Tryz.prog 201:=qW Tryz.func201 (by kernel_rfl) (by kernel_rfl)
theorem fSD14 (a:Int) (w:World):Calls Tryz.prog 180 [.int .i64 a,.int .i64 14].toArray w (Rets (vI (a / 16384)) w):=zWG a 14 (by decide) w
theorem fSU14 (a:Int) (ha:In64 a) (w:World):Calls Tryz.prog 181 [.int .i64 a,.int .i64 14].toArray w (Rets (vI (zK a 16384)) w):=yVY a 14 (by decide) ha w
theorem aMod (a:Int) (w:World):Calls Tryz.prog 197 [.int .i64 a].toArray w (Rets (vI (a % 65536)) (w)):=by
 refine jU (n:=5) Tryz.func197 rfl rfl rfl ?_;refine zU ?_;refine qK ?_;refine qV (zQ rfl) rfl rfl rfl ?_;refine zX ?_;refine qJ ?_;refine zU ?_;refine qK ?_;refine qV (qG rfl) rfl rfl rfl ?_;refine qV (opV_and rfl rfl and_mask) rfl rfl rfl ?_;refine qV (zQ rfl) rfl rfl rfl ?_;refine zX ?_;refine qJ ?_;refine uV ?_;refine jG (rs:=[.tmp 2]) rfl (resC (uW rfl) (resN)) (congrArg (vI) (?_:_=a % 65536))
 first | rfl | (subst_vars; rfl) | (subst_vars; simp_all)
theorem rMod (a:Int) (w:World):Calls Tryz.prog 187 [.int .i64 a].toArray w (Rets (vI (a % 65536)) (w)):=by
 refine jU (n:=7) Tryz.func187 rfl rfl rfl ?_;refine zU ?_;have h0 : -65536 < a.tmod 65536:=by have:=Int.lt_tmod_of_pos a (show (0:Int) < 65536 by decide); omega
 have h1:a.tmod 65536 < 65536:=Int.tmod_lt_of_pos a (by decide);refine qK ?_;refine qV (zQ rfl) rfl rfl rfl ?_;refine zX ?_;refine qJ ?_;refine zU ?_;refine qK ?_;refine qV (qG rfl) rfl rfl rfl ?_;refine qV (zUH rfl rfl (by first | decide | omega) (by first | exact tmod_nonneg (by omega) (by omega) | rfl)) rfl rfl rfl ?_;refine qV (qKG rfl rfl (by first | exact qH ⟨by omega,by omega⟩ | rfl)) rfl rfl rfl ?_;refine qV (zUH rfl rfl (by first | decide | omega) (by first | exact tmod_nonneg (by omega) (by omega) | rfl)) rfl rfl rfl ?_;refine qV (zQ rfl) rfl rfl rfl ?_;refine zX ?_;refine qJ ?_;refine uV ?_;refine jG (rs:=[.tmp 2]) rfl (resC (uW rfl) (resN)) (congrArg (vI) (?_:_=a % 65536))
 have:=Int.tdiv_mul_add_tmod a 65536; omega
theorem aCeil (a:Int) (b:Int) (ha:0≤a∧a≤1073741824) (hb:0 < b∧b≤1073741824) (w:World):Calls Tryz.prog 206 [.int .i64 a,.int .i64 b].toArray w (Rets (vI (zK a b)) (w)):=by
 refine jU (n:=11) Tryz.func206 rfl rfl rfl ?_;refine zU ?_;refine qK ?_;refine qV (zQ rfl) rfl rfl rfl ?_;refine zX ?_;refine qJ ?_;refine zU ?_;refine qK ?_;refine qV (qG rfl) rfl rfl rfl ?_;refine qV (qG rfl) rfl rfl rfl ?_;refine qV (qKG rfl rfl (by first | exact qH ⟨by omega,by omega⟩ | rfl)) rfl rfl rfl ?_;refine qV (yZY rfl rfl (by first | exact qH ⟨by omega,by omega⟩ | rfl)) rfl rfl rfl ?_;refine qV (qG rfl) rfl rfl rfl ?_;refine qV (yUY rfl rfl (by first | decide | omega) (ceil_quo ha hb)) rfl rfl rfl ?_;refine qV (zQ rfl) rfl rfl rfl ?_;refine zX ?_;refine qJ ?_;refine uV ?_;refine jG (rs:=[.tmp 4]) rfl (resC (uW rfl) (resN)) (congrArg (vI) (?_:_=zK a b))
 first | rfl | (subst_vars; rfl) | (subst_vars; simp_all)
theorem aEnc (lo:Int) (hi:Int) (hh:In64 hi) (w:World):Calls Tryz.prog 207 [.int .i64 lo,.int .i64 hi].toArray w (Rets (iv (encI lo hi)) (w)):=by
 refine jU (n:=12) Tryz.func207 rfl rfl rfl ?_;refine zU ?_;refine qK ?_;refine qVW 4 ze62 rfl rfl rfl ?_; intro b4;refine zX ?_;refine qJ ?_;refine zU ?_;refine qK ?_;refine qV (qG rfl) rfl rfl rfl ?_;refine qXJ (F:=vI) (uZ en180 rfl (fun w _=>fSD14 _ w)) rfl rfl rfl ?_; intro r6 hr6;refine qV (qGV rfl rfl) rfl rfl rfl ?_;refine qV (qG rfl) rfl rfl rfl ?_;refine qXJ (F:=vI) (uZ en181 rfl (fun w _=>fSU14 _ hh w)) rfl rfl rfl ?_; intro r9 hr9;refine qV (qGW rfl rfl) rfl rfl rfl ?_;refine qV (qUH la62 rfl rfl) rfl rfl rfl ?_;refine qJZ 4 ty62 rfl rfl rfl rfl rfl rfl rfl rfl ?_;refine zX ?_;refine qJ ?_;refine uV ?_;refine jG (rs:=[.cell 4 62]) rfl (resC (qKU 4 rfl rfl ty62 rfl) (resN)) (congrArg (iv) (?_:⟨_,_⟩=encI lo hi))
 subst_vars; first | (simp_all [encI]; done) | (simp_all [encI] <;> omega) | grind [encI]
theorem rEnc (lo:Int) (hi:Int) (hl:In64 lo) (hh:In64 hi) (w:World):Calls Tryz.prog 200 [.int .i64 lo,.int .i64 hi].toArray w (Rets (iv (encI lo hi)) (w)):=by
 refine jU (n:=12) Tryz.func200 rfl rfl rfl ?_;refine zU ?_;refine qK ?_;refine qVW 4 ze62 rfl rfl rfl ?_; intro b4;refine zX ?_;refine qJ ?_;refine zU ?_;refine qK ?_;refine qV (qG rfl) rfl rfl rfl ?_;refine qXJ (F:=vI) (uZ en161 rfl (fun w _=>jWK _ _ hl (by decide) w)) rfl rfl rfl ?_; intro r6 hr6;refine qV (qGV rfl rfl) rfl rfl rfl ?_;refine qV (qG rfl) rfl rfl rfl ?_;refine qXJ (F:=vI) (uZ en162 rfl (fun w _=>kJZ _ _ hh (by decide) w)) rfl rfl rfl ?_; intro r9 hr9;refine qV (qGW rfl rfl) rfl rfl rfl ?_;refine qV (qUH la62 rfl rfl) rfl rfl rfl ?_;refine qJZ 4 ty62 rfl rfl rfl rfl rfl rfl rfl rfl ?_;refine zX ?_;refine qJ ?_;refine uV ?_;refine jG (rs:=[.cell 4 62]) rfl (resC (qKU 4 rfl rfl ty62 rfl) (resN)) (congrArg (iv) (?_:⟨_,_⟩=encI lo hi))
 subst_vars; first | (simp_all [encI]; done) | (simp_all [encI] <;> omega) | grind [encI]
theorem aMeets (a0 a1:Int) (c:Int) (hv:Iv.valid (⟨a0,a1⟩:Iv)=true) (_:0≤c∧c < 65536) (w:World):Calls Tryz.prog 196 [.agg #[.int .i64 a0,.int .i64 a1],.int .i64 c].toArray w (Rets (vB (kK (⟨a0,a1⟩:Iv) c)) (w)):=by
 refine jU (n:=15) Tryz.func196 rfl rfl rfl ?_;refine zU ?_;have hv2:=uQ hv;refine qK ?_;refine zYW 2 rfl rfl rfl rfl ?_; intro b2;refine qV (zQ rfl) rfl rfl rfl ?_;refine zX ?_;refine qJ ?_;refine zU ?_;refine qVV 10 mo (by kernel_rfl) ?_;simp only [vYK,vYX,vYU,vYW];refine kZ (qYG 2 ty62 rfl rfl rfl) rfl rfl rfl ?_;refine kZ (zG qHU rfl) rfl rfl rfl ?_;refine kZ (jQ 2 ty2 rfl rfl rfl) rfl rfl rfl ?_;refine kZ (qG rfl) rfl rfl rfl ?_;refine kZ (zG qHU rfl) rfl rfl rfl ?_;refine kZ (jQ 2 ty2 rfl rfl rfl) rfl rfl rfl ?_;refine kZ (yZY rfl rfl (by first | exact qH ⟨by omega,by omega⟩ | rfl)) rfl rfl rfl ?_;refine yHW (F:=vI) (uZ en197 rfl (fun w _=>aMod _  w)) rfl rfl rfl ?_; intro r12 hr12;have qr12:0≤r12∧r12 < 65536:=by omega
 refine kZ (qKG rfl rfl (by first | exact qH ⟨by omega,by omega⟩ | rfl)) rfl rfl rfl ?_;refine yHW (F:=vB) (uZ en201 rfl (fun w _=>iHas _ _ _  w)) rfl rfl rfl ?_; intro r14 hr14;refine zWH ?_;refine zQX ?_;refine qV (zQ rfl) rfl rfl rfl ?_;refine zX ?_;refine qJ ?_;refine uV ?_;refine jG (rs:=[.tmp 4]) rfl (resC (uW rfl) (resN)) (congrArg (vB) (?_:_=kK (⟨a0,a1⟩:Iv) c))
 subst_vars; simp only [Iv.has,kK,hv,vZH]; rw [vJQ (by omega),vZH]
theorem rMeets (a0 a1:Int) (c:Int) (hv:Iv.valid (⟨a0,a1⟩:Iv)=true) (_:0≤c∧c < 65536) (w:World):Calls Tryz.prog 186 [.agg #[.int .i64 a0,.int .i64 a1],.int .i64 c].toArray w (Rets (vB (kK (⟨a0,a1⟩:Iv) c)) (w)):=by
 refine jU (n:=16) Tryz.func186 rfl rfl rfl ?_;refine zU ?_;have hv2:=uQ hv;refine qK ?_;refine zYW 2 rfl rfl rfl rfl ?_; intro b2;refine qV (zQ rfl) rfl rfl rfl ?_;refine zX ?_;refine qJ ?_;refine zU ?_;refine qVV 11 mo (by kernel_rfl) ?_;simp only [vYK,vYX,vYU,vYW];refine kZ (zG qHU rfl) rfl rfl rfl ?_;refine kZ (jQ 2 ty2 rfl rfl rfl) rfl rfl rfl ?_;refine kZ (qG rfl) rfl rfl rfl ?_;refine kZ (zG qHU rfl) rfl rfl rfl ?_;refine kZ (jQ 2 ty2 rfl rfl rfl) rfl rfl rfl ?_;refine kZ (yZY rfl rfl (by first | exact qH ⟨by omega,by omega⟩ | rfl)) rfl rfl rfl ?_;refine yHW (F:=vI) (uZ en187 rfl (fun w _=>rMod _  w)) rfl rfl rfl ?_; intro r11 hr11;have qr11:0≤r11∧r11 < 65536:=by omega
 refine kZ (qKG rfl rfl (by first | exact qH ⟨by omega,by omega⟩ | rfl)) rfl rfl rfl ?_;refine kZ (zG zKU rfl) rfl rfl rfl ?_;refine kZ (jQ 2 ty2 rfl rfl rfl) rfl rfl rfl ?_;refine kZ (opV_leq rfl rfl) rfl rfl rfl ?_;refine zWH ?_;refine zQX ?_;refine qV (zQ rfl) rfl rfl rfl ?_;refine zX ?_;refine qJ ?_;refine uV ?_;refine jG (rs:=[.tmp 4]) rfl (resC (uW rfl) (resN)) (congrArg (vB) (?_:_=kK (⟨a0,a1⟩:Iv) c))
 subst_vars; simp [kK]
theorem mRound (n:Int) (k:Int) (hk:0 < k∧k≤9223372036854775807) (w:World):Calls Tryz.prog 20 [.int .i64 n,.int .i64 k].toArray w (Rets (vI (n % k)) (w)):=by
 refine jU (n:=15) Tryz.func20 rfl rfl rfl ?_;refine zU ?_;have h0:=Int.lt_tmod_of_pos n hk.1;have h1:=Int.tmod_lt_of_pos n hk.1;refine qK ?_;refine qV (zQ rfl) rfl rfl rfl ?_;refine zX ?_;refine qJ ?_;refine zU ?_;refine qK ?_;refine qV (qG rfl) rfl rfl rfl ?_;refine qV (qG rfl) rfl rfl rfl ?_;refine qV (zUH rfl rfl (by first | decide | omega) rfl) rfl rfl rfl ?_;refine qV (zQ rfl) rfl rfl rfl ?_;refine zX ?_;refine qJ ?_;refine zU ?_;refine zU ?_;refine qK ?_;refine qV (qG rfl) rfl rfl rfl ?_;refine qV (qWZ rfl rfl) rfl rfl rfl ?_;refine zX ?_;refine qJ ?_;refine qUW rfl (fun hc10 => ?_) (fun hc10 => ?_)
 ·
  have h2:=vJZ hc10;refine qK ?_;refine qV (qG rfl) rfl rfl rfl ?_;refine qV (qG rfl) rfl rfl rfl ?_;refine qV (qKG rfl rfl (by first | exact qH ⟨by omega,by omega⟩ | rfl)) rfl rfl rfl ?_;refine qV (zQ rfl) rfl rfl rfl ?_;refine zX ?_;refine qJ ?_;refine zU ?_;refine qK ?_;refine qV (qG rfl) rfl rfl rfl ?_;refine qV (zQ rfl) rfl rfl rfl ?_;refine zX ?_;refine qJ ?_;refine uV ?_;refine jG (rs:=[.tmp 4]) rfl (resC (uW rfl) (resN)) (congrArg (vI) (?_:_=n % k));exact round_neg hk.1 h2
 ·
  have h2:=vJY hc10;refine qZW ?_;refine qJ ?_;refine zU ?_;refine qK ?_;refine qV (qG rfl) rfl rfl rfl ?_;refine qV (zQ rfl) rfl rfl rfl ?_;refine zX ?_;refine qJ ?_;refine uV ?_;refine jG (rs:=[.tmp 4]) rfl (resC (uW rfl) (resN)) (congrArg (vI) (?_:_=n % k));exact round_pos hk.1 h2
namespace Ta
def iw (a:Int):Bool:=decide (-9223372036854775808≤a∧a≤9223372036854775807)
def pw (a:Int):Bool:=decide (0≤a∧a≤1073741824)
theorem jXK {a:Int} (h:iw a=true):In64 a:=by unfold iw at h; simp only [decide_eq_true_eq] at h; unfold In64; omega
theorem pw_of {a:Int} (h:pw a=true):0≤a∧a≤1073741824:=vJZ h
theorem iww (y:Int):iw (vJJ .i64 y)=true:=by
 refine vJQ ?_;unfold IntKind.wrap;have hb:IntKind.i64.bits=64:=rfl;have hs:IntKind.i64.signed=true:=rfl;simp only [hb,hs,vZH,decide_eq_true_eq]
 split <;> omega
theorem kYQ {x:Int} (h:0≤x∧x≤8192) (k:Nat):iw (dn x k)=true:=by have:=qKH h k; exact vJQ (by omega)
theorem kZH {x:Int} (h:0≤x∧x≤8192) (k:Nat):iw (up x k)=true:=by have:=qYK h k; exact vJQ (by omega)
theorem jHG {x:Int} (h:0≤x∧x≤8192) (k:Nat):pw (up x k)=true:=vJQ (qYK h k)
noncomputable def zQK:List PV→Option (Bool × Ret):=fun ps=>match ps with
 | [.n .i64 a,.n .i64 k]=>some (decide (0≤k∧k≤62),.v (.n .i64 (a / 2 ^ Int.toNat k)))
 | _=>none
theorem ok_fShiftDown:zJ Tryz.prog 180 zQK:=by
 intro ps r h;unfold zQK at h;split at h
 ·simp only [vQZ,vQY] at h;obtain ⟨hg,rfl⟩:=h
  try simp only [vQJ,decide_eq_true_eq] at hg
  exact qX (qW Tryz.func180 (by kernel_rfl) (by kernel_rfl)) rfl rfl (fun w=>zWG _ _ hg w)
 ·cases h
noncomputable def LTa1:OrL:=(180,zQK) :: ([]:OrL)
theorem LTa1_ok:AllP (fun x:Nat × (List PV→Option (Bool × Ret))=>zJ Tryz.prog x.1 x.2) LTa1:=⟨ok_fShiftDown,trivial⟩
noncomputable def zWZ:List PV→Option (Bool × Ret):=fun ps=>match ps with
 | [.n .i64 a,.n .i64 k]=>some (decide (0≤k∧k≤62) && iw a,.v (.n .i64 (zK a (2 ^ Int.toNat k))))
 | _=>none
theorem ok_fShiftUp:zJ Tryz.prog 181 zWZ:=by
 intro ps r h;unfold zWZ at h;split at h
 ·simp only [vQZ,vQY] at h;obtain ⟨hg,rfl⟩:=h
  try simp only [vQJ,decide_eq_true_eq] at hg
  exact qX (qW Tryz.func181 (by kernel_rfl) (by kernel_rfl)) rfl rfl (fun w=>yVY _ _ hg.1 (jXK hg.2) w)
 ·cases h
noncomputable def LTa2:OrL:=(181,zWZ) :: LTa1
theorem LTa2_ok:AllP (fun x:Nat × (List PV→Option (Bool × Ret))=>zJ Tryz.prog x.1 x.2) LTa2:=⟨ok_fShiftUp,LTa1_ok⟩
noncomputable def yUX:List PV→Option (Bool × Ret):=fun ps=>match ps with
 | [.n .i64 a,.n .i64 b]=>some (decide (0 < b) && iw a,.v (.n .i64 (a / b)))
 | _=>none
theorem ok_rFloor:zJ Tryz.prog 161 yUX:=by
 intro ps r h;unfold yUX at h;split at h
 ·simp only [vQZ,vQY] at h;obtain ⟨hg,rfl⟩:=h
  try simp only [vQJ,decide_eq_true_eq] at hg
  exact qX (qW Tryz.func161 (by kernel_rfl) (by kernel_rfl)) rfl rfl (fun w=>jWK _ _ (jXK hg.2) hg.1 w)
 ·cases h
noncomputable def LTa3:OrL:=(161,yUX) :: LTa2
theorem LTa3_ok:AllP (fun x:Nat × (List PV→Option (Bool × Ret))=>zJ Tryz.prog x.1 x.2) LTa3:=⟨ok_rFloor,LTa2_ok⟩
noncomputable def jYZ:List PV→Option (Bool × Ret):=fun ps=>match ps with
 | [.n .i64 a,.n .i64 b]=>some (decide (0 < b) && iw a,.v (.n .i64 (zK a b)))
 | _=>none
theorem ok_rCeil:zJ Tryz.prog 162 jYZ:=by
 intro ps r h;unfold jYZ at h;split at h
 ·simp only [vQZ,vQY] at h;obtain ⟨hg,rfl⟩:=h
  try simp only [vQJ,decide_eq_true_eq] at hg
  exact qX (qW Tryz.func162 (by kernel_rfl) (by kernel_rfl)) rfl rfl (fun w=>kJZ _ _ (jXK hg.2) hg.1 w)
 ·cases h
noncomputable def LTa4:OrL:=(162,jYZ) :: LTa3
theorem LTa4_ok:AllP (fun x:Nat × (List PV→Option (Bool × Ret))=>zJ Tryz.prog x.1 x.2) LTa4:=⟨ok_rCeil,LTa3_ok⟩
noncomputable def jYX:List PV→Option (Bool × Ret):=fun ps=>match ps with
 | [.n .i64 a,.n .i64 b]=>some (decide (0 < b∧b≤1073741824) && pw a,.v (.n .i64 (zK a b)))
 | _=>none
theorem ok_aCeil:zJ Tryz.prog 206 jYX:=by
 intro ps r h;unfold jYX at h;split at h
 ·simp only [vQZ,vQY] at h;obtain ⟨hg,rfl⟩:=h
  try simp only [vQJ,decide_eq_true_eq] at hg
  exact qX (qW Tryz.func206 (by kernel_rfl) (by kernel_rfl)) rfl rfl (fun w=>aCeil _ _ (pw_of hg.2) hg.1 w)
 ·cases h
noncomputable def LTa5:OrL:=(206,jYX) :: LTa4
theorem LTa5_ok:AllP (fun x:Nat × (List PV→Option (Bool × Ret))=>zJ Tryz.prog x.1 x.2) LTa5:=⟨ok_aCeil,LTa4_ok⟩
noncomputable def jVU:List PV→Option (Bool × Ret):=fun ps=>match ps with
 | [.n .i64 l,.n .i64 a]=>some (iw a,.v (.a (ivC (encI l a))))
 | _=>none
theorem ok_aEnc:zJ Tryz.prog 207 jVU:=by
 intro ps r h;unfold jVU at h;split at h
 ·simp only [vQZ,vQY] at h;obtain ⟨hg,rfl⟩:=h
  try simp only [vQJ,decide_eq_true_eq] at hg
  exact qX (qW Tryz.func207 (by kernel_rfl) (by kernel_rfl)) rfl rfl (fun w=>aEnc _ _ (jXK hg) w)
 ·cases h
noncomputable def LTa6:OrL:=(207,jVU) :: LTa5
theorem LTa6_ok:AllP (fun x:Nat × (List PV→Option (Bool × Ret))=>zJ Tryz.prog x.1 x.2) LTa6:=⟨ok_aEnc,LTa5_ok⟩
noncomputable def jWG:List PV→Option (Bool × Ret):=fun ps=>match ps with
 | [.n .i64 l,.n .i64 a]=>some (iw a && iw l,.v (.a (ivC (encI l a))))
 | _=>none
theorem ok_rEnc:zJ Tryz.prog 200 jWG:=by
 intro ps r h;unfold jWG at h;split at h
 ·simp only [vQZ,vQY] at h;obtain ⟨hg,rfl⟩:=h
  try simp only [vQJ,decide_eq_true_eq] at hg
  exact qX (qW Tryz.func200 (by kernel_rfl) (by kernel_rfl)) rfl rfl (fun w=>rEnc _ _ (jXK hg.2) (jXK hg.1) w)
 ·cases h
noncomputable def LTa7:OrL:=(200,jWG) :: LTa6
theorem jKQ:AllP (fun x:Nat × (List PV→Option (Bool × Ret))=>zJ Tryz.prog x.1 x.2) LTa7:=⟨ok_rEnc,LTa6_ok⟩
def wdn (x:Int):Nat→Int
 | 0=>1073741824
 | 1=>(vJJ .i64 (x * 6746518852)) / 65536
 | k + 2=>(vJJ .i64 (wdn x (k + 1) * ((vJJ .i64 (x * 6746518852)) / 65536))) / 1073741824
def wup (x:Int):Nat→Int
 | 0=>1073741824
 | 1=>zK (vJJ .i64 (x * 6746518853)) 65536
 | k + 2=>zK (vJJ .i64 (wup x (k + 1) * zK (vJJ .i64 (x * 6746518853)) 65536)) 1073741824
theorem wmul {a b:Int} (_:0≤a∧a≤1073741824) (_:0≤b∧b≤1073741824):vJJ .i64 (a * b)=a * b:=mul_in (by omega) (by omega)
theorem jXW {x:Int} (h:0≤x∧x≤8192):∀ k,wdn x k=dn x k
 | 0=>rfl
 | 1=>by unfold wdn dn; rw [qH (by omega)]
 | k + 2=>by rw [wdn,dn,jXW h (k + 1),qH (show -9223372036854775808≤x * 6746518852∧x * 6746518852≤9223372036854775807 by omega),wmul (qKH h (k + 1)) (show 0≤x * 6746518852 / 65536∧x * 6746518852 / 65536≤1073741824 by omega)]
theorem jXX {x:Int} (h:0≤x∧x≤8192):∀ k,wup x k=up x k
 | 0=>rfl
 | 1=>by unfold wup up; rw [qH (by omega)]
 | k + 2=>by rw [wup,up,jXX h (k + 1),qH (show -9223372036854775808≤x * 6746518853∧x * 6746518853≤9223372036854775807 by omega),wmul (qYK h (k + 1)) (jQW rfl h)]
set_option maxRecDepth 100000 in
theorem sp_aPow (x:Int) (h:0≤x∧x≤8192):yV Tryz.prog 204 [.n .i64 x] (.v (.t [.a [.n .i64 1073741824,.n .i64 (dn x 1),.n .i64 (dn x 2),.n .i64 (dn x 3),.n .i64 (dn x 4),.n .i64 (dn x 5),.n .i64 (dn x 6),.n .i64 (dn x 7),.n .i64 (dn x 8),.n .i64 (dn x 9),.n .i64 (dn x 10)],.a [.n .i64 1073741824,.n .i64 (up x 1),.n .i64 (up x 2),.n .i64 (up x 3),.n .i64 (up x 4),.n .i64 (up x 5),.n .i64 (up x 6),.n .i64 (up x 7),.n .i64 (up x 8),.n .i64 (up x 9),.n .i64 (up x 10)]])):=zY (N:=60) (ps:=[.n .i64 x]) yJ zW (OrL.ok (l:=LTa7) jKQ) ((by kernel_rfl:_=bif iw (vJJ .i64 (x * 6746518853)) then (bif iw (vJJ .i64 (wup x 1 * wup x 1)) then (bif iw (vJJ .i64 (wup x 2 * wup x 1)) then (bif iw (vJJ .i64 (wup x 3 * wup x 1)) then (bif iw (vJJ .i64 (wup x 4 * wup x 1)) then (bif iw (vJJ .i64 (wup x 5 * wup x 1)) then (bif iw (vJJ .i64 (wup x 6 * wup x 1)) then (bif iw (vJJ .i64 (wup x 7 * wup x 1)) then (bif iw (vJJ .i64 (wup x 8 * wup x 1)) then (bif iw (vJJ .i64 (wup x 9 * wup x 1)) then some (.v (.t [.a [.n .i64 1073741824,.n .i64 (wdn x 1),.n .i64 (wdn x 2),.n .i64 (wdn x 3),.n .i64 (wdn x 4),.n .i64 (wdn x 5),.n .i64 (wdn x 6),.n .i64 (wdn x 7),.n .i64 (wdn x 8),.n .i64 (wdn x 9),.n .i64 (wdn x 10)],.a [.n .i64 1073741824,.n .i64 (wup x 1),.n .i64 (wup x 2),.n .i64 (wup x 3),.n .i64 (wup x 4),.n .i64 (wup x 5),.n .i64 (wup x 6),.n .i64 (wup x 7),.n .i64 (wup x 8),.n .i64 (wup x 9),.n .i64 (wup x 10)]]),[])
 else none)
 else none)
 else none)
 else none)
 else none)
 else none)
 else none)
 else none)
 else none)
 else none).trans (by
 simp only [iww,vYV,jXW h,jXX h]))
set_option maxRecDepth 100000 in
theorem sp_rPow (x:Int) (h:0≤x∧x≤8192):yV Tryz.prog 199 [.n .i64 x] (.v (.t [.a [.n .i64 0,.n .i64 (dn x 1),.n .i64 (dn x 2),.n .i64 (dn x 3),.n .i64 (dn x 4),.n .i64 (dn x 5),.n .i64 (dn x 6),.n .i64 (dn x 7),.n .i64 (dn x 8),.n .i64 (dn x 9),.n .i64 (dn x 10)],.a [.n .i64 0,.n .i64 (up x 1),.n .i64 (up x 2),.n .i64 (up x 3),.n .i64 (up x 4),.n .i64 (up x 5),.n .i64 (up x 6),.n .i64 (up x 7),.n .i64 (up x 8),.n .i64 (up x 9),.n .i64 (up x 10)]])):=zY (N:=60) (ps:=[.n .i64 x]) yJ zW (OrL.ok (l:=LTa7) jKQ) ((by kernel_rfl:_=bif iw (vJJ .i64 (x * 6746518852)) then (bif iw (vJJ .i64 (x * 6746518853)) then (bif iw (vJJ .i64 (wdn x 1 * wdn x 1)) then (bif iw (vJJ .i64 (wup x 1 * wup x 1)) then (bif iw (vJJ .i64 (wdn x 2 * wdn x 1)) then (bif iw (vJJ .i64 (wup x 2 * wup x 1)) then (bif iw (vJJ .i64 (wdn x 3 * wdn x 1)) then (bif iw (vJJ .i64 (wup x 3 * wup x 1)) then (bif iw (vJJ .i64 (wdn x 4 * wdn x 1)) then (bif iw (vJJ .i64 (wup x 4 * wup x 1)) then (bif iw (vJJ .i64 (wdn x 5 * wdn x 1)) then (bif iw (vJJ .i64 (wup x 5 * wup x 1)) then (bif iw (vJJ .i64 (wdn x 6 * wdn x 1)) then (bif iw (vJJ .i64 (wup x 6 * wup x 1)) then (bif iw (vJJ .i64 (wdn x 7 * wdn x 1)) then (bif iw (vJJ .i64 (wup x 7 * wup x 1)) then (bif iw (vJJ .i64 (wdn x 8 * wdn x 1)) then (bif iw (vJJ .i64 (wup x 8 * wup x 1)) then (bif iw (vJJ .i64 (wdn x 9 * wdn x 1)) then (bif iw (vJJ .i64 (wup x 9 * wup x 1)) then some (.v (.t [.a [.n .i64 0,.n .i64 (wdn x 1),.n .i64 (wdn x 2),.n .i64 (wdn x 3),.n .i64 (wdn x 4),.n .i64 (wdn x 5),.n .i64 (wdn x 6),.n .i64 (wdn x 7),.n .i64 (wdn x 8),.n .i64 (wdn x 9),.n .i64 (wdn x 10)],.a [.n .i64 0,.n .i64 (wup x 1),.n .i64 (wup x 2),.n .i64 (wup x 3),.n .i64 (wup x 4),.n .i64 (wup x 5),.n .i64 (wup x 6),.n .i64 (wup x 7),.n .i64 (wup x 8),.n .i64 (wup x 9),.n .i64 (wup x 10)]]),[])
 else none)
 else none)
 else none)
 else none)
 else none)
 else none)
 else none)
 else none)
 else none)
 else none)
 else none)
 else none)
 else none)
 else none)
 else none)
 else none)
 else none)
 else none)
 else none)
 else none).trans (by
 simp only [iww,vYV,jXW h,jXX h]))
noncomputable def jVJ:List PV→Option (Bool × Ret):=fun ps=>match ps with
 | [.n .i64 x]=>some (decide (0≤x∧x≤8192),.v (.t [.a [.n .i64 1073741824,.n .i64 (dn x 1),.n .i64 (dn x 2),.n .i64 (dn x 3),.n .i64 (dn x 4),.n .i64 (dn x 5),.n .i64 (dn x 6),.n .i64 (dn x 7),.n .i64 (dn x 8),.n .i64 (dn x 9),.n .i64 (dn x 10)],.a [.n .i64 1073741824,.n .i64 (up x 1),.n .i64 (up x 2),.n .i64 (up x 3),.n .i64 (up x 4),.n .i64 (up x 5),.n .i64 (up x 6),.n .i64 (up x 7),.n .i64 (up x 8),.n .i64 (up x 9),.n .i64 (up x 10)]]))
 | _=>none
theorem ok_aPow:zJ Tryz.prog 204 jVJ:=by
 intro ps r h;unfold jVJ at h;split at h
 ·simp only [vQZ,vQY] at h;obtain ⟨hg,rfl⟩:=h;exact sp_aPow _ (vJZ hg)
 ·cases h
noncomputable def LTa8:OrL:=(204,jVJ) :: LTa7
theorem LTa8_ok:AllP (fun x:Nat × (List PV→Option (Bool × Ret))=>zJ Tryz.prog x.1 x.2) LTa8:=⟨ok_aPow,jKQ⟩
noncomputable def jWX:List PV→Option (Bool × Ret):=fun ps=>match ps with
 | [.n .i64 x]=>some (decide (0≤x∧x≤8192),.v (.t [.a [.n .i64 0,.n .i64 (dn x 1),.n .i64 (dn x 2),.n .i64 (dn x 3),.n .i64 (dn x 4),.n .i64 (dn x 5),.n .i64 (dn x 6),.n .i64 (dn x 7),.n .i64 (dn x 8),.n .i64 (dn x 9),.n .i64 (dn x 10)],.a [.n .i64 0,.n .i64 (up x 1),.n .i64 (up x 2),.n .i64 (up x 3),.n .i64 (up x 4),.n .i64 (up x 5),.n .i64 (up x 6),.n .i64 (up x 7),.n .i64 (up x 8),.n .i64 (up x 9),.n .i64 (up x 10)]]))
 | _=>none
theorem ok_rPow:zJ Tryz.prog 199 jWX:=by
 intro ps r h;unfold jWX at h;split at h
 ·simp only [vQZ,vQY] at h;obtain ⟨hg,rfl⟩:=h;exact sp_rPow _ (vJZ hg)
 ·cases h
noncomputable def LTa9:OrL:=(199,jWX) :: LTa8
theorem yJY:AllP (fun x:Nat × (List PV→Option (Bool × Ret))=>zJ Tryz.prog x.1 x.2) LTa9:=⟨ok_rPow,LTa8_ok⟩
theorem tdnn {a b:Int} (h:0≤a):a.tdiv b=a / b:=Int.tdiv_eq_ediv_of_nonneg h
def jUK (x:Int):Int:=(vJJ .i64 ((vJJ .i64 ((vJJ .i64 ((vJJ .i64 (0 + (vJJ .i64 (1 * (dn x 1))))) + (vJJ .i64 ((-1) * zK (up x 3) 6)))) + (vJJ .i64 (1 * (vJJ .i64 ((dn x 5).tdiv 120)))))) + (vJJ .i64 ((-1) * zK (up x 7) 5040))))
theorem aSineL_eq {x:Int} (h:0≤x∧x≤8192):jUK x=sinL x:=by
 have d1:=qKH h 1;have d5:=qKH h 5;have u3:=qYK h 3;have u7:=qYK h 7;have c3:=yK (r:=zK (up x 3) 6) rfl u3 (by decide);have c7:=yK (r:=zK (up x 7) 5040) rfl u7 (by decide);unfold jUK sinL;simp only [tdnn d5.1];have w0:vJJ .i64 (1 * (dn x 1))=(1 * (dn x 1)):=qH (by omega);have w1:vJJ .i64 (0 + (1 * (dn x 1)))=(0 + (1 * (dn x 1))):=qH (by omega);have w2:vJJ .i64 ((-1) * zK (up x 3) 6)=((-1) * zK (up x 3) 6):=qH (by omega);have w3:vJJ .i64 ((0 + (1 * (dn x 1))) + ((-1) * zK (up x 3) 6))=((0 + (1 * (dn x 1))) + ((-1) * zK (up x 3) 6)):=qH (by omega);have w4:vJJ .i64 (((dn x 5) / 120))=(((dn x 5) / 120)):=qH (by omega);have w5:vJJ .i64 (1 * (((dn x 5) / 120)))=(1 * (((dn x 5) / 120))):=qH (by omega);have w6:vJJ .i64 (((0 + (1 * (dn x 1))) + ((-1) * zK (up x 3) 6)) + (1 * (((dn x 5) / 120))))=(((0 + (1 * (dn x 1))) + ((-1) * zK (up x 3) 6)) + (1 * (((dn x 5) / 120)))):=qH (by omega);have w7:vJJ .i64 ((-1) * zK (up x 7) 5040)=((-1) * zK (up x 7) 5040):=qH (by omega);have w8:vJJ .i64 ((((0 + (1 * (dn x 1))) + ((-1) * zK (up x 3) 6)) + (1 * (((dn x 5) / 120)))) + ((-1) * zK (up x 7) 5040))=((((0 + (1 * (dn x 1))) + ((-1) * zK (up x 3) 6)) + (1 * (((dn x 5) / 120)))) + ((-1) * zK (up x 7) 5040)):=qH (by omega);simp only [w0,w1,w2,w3,w4,w5,w6,w7,w8]
 try omega
def yHV (x:Int):Int:=(vJJ .i64 ((vJJ .i64 ((vJJ .i64 ((vJJ .i64 ((vJJ .i64 (0 + (vJJ .i64 (1 * (up x 1))))) + (vJJ .i64 ((-1) * (vJJ .i64 ((dn x 3).tdiv 6)))))) + (vJJ .i64 (1 * zK (up x 5) 120)))) + (vJJ .i64 ((-1) * (vJJ .i64 ((dn x 7).tdiv 5040)))))) + (vJJ .i64 (1 * zK (up x 9) 362880))))
theorem aSineU_eq {x:Int} (h:0≤x∧x≤8192):yHV x=sinU x:=by
 have d3:=qKH h 3;have d7:=qKH h 7;have u1:=qYK h 1;have u5:=qYK h 5;have u9:=qYK h 9;have c5:=yK (r:=zK (up x 5) 120) rfl u5 (by decide);have c9:=yK (r:=zK (up x 9) 362880) rfl u9 (by decide);unfold yHV sinU;simp only [tdnn d3.1,tdnn d7.1];have w0:vJJ .i64 (1 * (up x 1))=(1 * (up x 1)):=qH (by omega);have w1:vJJ .i64 (0 + (1 * (up x 1)))=(0 + (1 * (up x 1))):=qH (by omega);have w2:vJJ .i64 (((dn x 3) / 6))=(((dn x 3) / 6)):=qH (by omega);have w3:vJJ .i64 ((-1) * (((dn x 3) / 6)))=((-1) * (((dn x 3) / 6))):=qH (by omega);have w4:vJJ .i64 ((0 + (1 * (up x 1))) + ((-1) * (((dn x 3) / 6))))=((0 + (1 * (up x 1))) + ((-1) * (((dn x 3) / 6)))):=qH (by omega);have w5:vJJ .i64 (1 * zK (up x 5) 120)=(1 * zK (up x 5) 120):=qH (by omega);have w6:vJJ .i64 (((0 + (1 * (up x 1))) + ((-1) * (((dn x 3) / 6)))) + (1 * zK (up x 5) 120))=(((0 + (1 * (up x 1))) + ((-1) * (((dn x 3) / 6)))) + (1 * zK (up x 5) 120)):=qH (by omega);have w7:vJJ .i64 (((dn x 7) / 5040))=(((dn x 7) / 5040)):=qH (by omega);have w8:vJJ .i64 ((-1) * (((dn x 7) / 5040)))=((-1) * (((dn x 7) / 5040))):=qH (by omega);have w9:vJJ .i64 ((((0 + (1 * (up x 1))) + ((-1) * (((dn x 3) / 6)))) + (1 * zK (up x 5) 120)) + ((-1) * (((dn x 7) / 5040))))=((((0 + (1 * (up x 1))) + ((-1) * (((dn x 3) / 6)))) + (1 * zK (up x 5) 120)) + ((-1) * (((dn x 7) / 5040)))):=qH (by omega);have w10:vJJ .i64 (1 * zK (up x 9) 362880)=(1 * zK (up x 9) 362880):=qH (by omega);have w11:vJJ .i64 (((((0 + (1 * (up x 1))) + ((-1) * (((dn x 3) / 6)))) + (1 * zK (up x 5) 120)) + ((-1) * (((dn x 7) / 5040)))) + (1 * zK (up x 9) 362880))=(((((0 + (1 * (up x 1))) + ((-1) * (((dn x 3) / 6)))) + (1 * zK (up x 5) 120)) + ((-1) * (((dn x 7) / 5040)))) + (1 * zK (up x 9) 362880)):=qH (by omega);simp only [w0,w1,w2,w3,w4,w5,w6,w7,w8,w9,w10,w11]
 try omega
end Ta
set_option maxRecDepth 100000 in
theorem aSine (x:Int) (h:0≤x∧x≤8192) (w:World):Calls Tryz.prog 202 [.int .i64 x].toArray w (Rets (iv (yKG x)) (w)) :=
 zZ (x:=.a (ivC (yKG x))) (zY (N:=60) (ps:=[.n .i64 x]) yJ zW (OrL.ok (l:=LTa9) yJY) ((by kernel_rfl:_=bif decide (0≤x∧x≤8192) then (bif pw (up x 3) then (bif pw (up x 7) then (bif pw (up x 5) then (bif pw (up x 9) then (bif iw (yHV x) then some (.v (.a (ivC (encI (jUK x) (yHV x)))),[])
 else none)
 else none)
 else none)
 else none)
 else none)
 else none).trans (by
 have iL:iw (jUK x)=true:=iww _;have iU:iw (yHV x)=true:=iww _;rw [aSineL_eq h] at iL ⊢;rw [aSineU_eq h] at iU ⊢;simp only [vJQ h,jHG h,kZH h,kYQ h,iL,iU,vYV,vZJ]
 rfl))) rfl rfl w
namespace Ta
def zHH (x:Int):Int:=(vJJ .i64 ((vJJ .i64 ((vJJ .i64 ((vJJ .i64 ((vJJ .i64 (1073741824 + (vJJ .i64 ((-1) * zK (up x 2) 2)))) + (vJJ .i64 (1 * (vJJ .i64 ((dn x 4).tdiv 24)))))) + (vJJ .i64 ((-1) * zK (up x 6) 720)))) + (vJJ .i64 (1 * (vJJ .i64 ((dn x 8).tdiv 40320)))))) + (vJJ .i64 ((-1) * zK (up x 10) 3628800))))
theorem aCosineL_eq {x:Int} (h:0≤x∧x≤8192):zHH x=cosL x:=by
 have d4:=qKH h 4;have d8:=qKH h 8;have u2:=qYK h 2;have u6:=qYK h 6;have u10:=qYK h 10;have c10:=yK (r:=zK (up x 10) 3628800) rfl u10 (by decide);have c2:=yK (r:=zK (up x 2) 2) rfl u2 (by decide);have c6:=yK (r:=zK (up x 6) 720) rfl u6 (by decide);unfold zHH cosL;simp only [tdnn d4.1,tdnn d8.1];have w0:vJJ .i64 ((-1) * zK (up x 2) 2)=((-1) * zK (up x 2) 2):=qH (by omega);have w1:vJJ .i64 (1073741824 + ((-1) * zK (up x 2) 2))=(1073741824 + ((-1) * zK (up x 2) 2)):=qH (by omega);have w2:vJJ .i64 (((dn x 4) / 24))=(((dn x 4) / 24)):=qH (by omega);have w3:vJJ .i64 (1 * (((dn x 4) / 24)))=(1 * (((dn x 4) / 24))):=qH (by omega);have w4:vJJ .i64 ((1073741824 + ((-1) * zK (up x 2) 2)) + (1 * (((dn x 4) / 24))))=((1073741824 + ((-1) * zK (up x 2) 2)) + (1 * (((dn x 4) / 24)))):=qH (by omega);have w5:vJJ .i64 ((-1) * zK (up x 6) 720)=((-1) * zK (up x 6) 720):=qH (by omega);have w6:vJJ .i64 (((1073741824 + ((-1) * zK (up x 2) 2)) + (1 * (((dn x 4) / 24)))) + ((-1) * zK (up x 6) 720))=(((1073741824 + ((-1) * zK (up x 2) 2)) + (1 * (((dn x 4) / 24)))) + ((-1) * zK (up x 6) 720)):=qH (by omega);have w7:vJJ .i64 (((dn x 8) / 40320))=(((dn x 8) / 40320)):=qH (by omega);have w8:vJJ .i64 (1 * (((dn x 8) / 40320)))=(1 * (((dn x 8) / 40320))):=qH (by omega);have w9:vJJ .i64 ((((1073741824 + ((-1) * zK (up x 2) 2)) + (1 * (((dn x 4) / 24)))) + ((-1) * zK (up x 6) 720)) + (1 * (((dn x 8) / 40320))))=((((1073741824 + ((-1) * zK (up x 2) 2)) + (1 * (((dn x 4) / 24)))) + ((-1) * zK (up x 6) 720)) + (1 * (((dn x 8) / 40320)))):=qH (by omega);have w10:vJJ .i64 ((-1) * zK (up x 10) 3628800)=((-1) * zK (up x 10) 3628800):=qH (by omega);have w11:vJJ .i64 (((((1073741824 + ((-1) * zK (up x 2) 2)) + (1 * (((dn x 4) / 24)))) + ((-1) * zK (up x 6) 720)) + (1 * (((dn x 8) / 40320)))) + ((-1) * zK (up x 10) 3628800))=(((((1073741824 + ((-1) * zK (up x 2) 2)) + (1 * (((dn x 4) / 24)))) + ((-1) * zK (up x 6) 720)) + (1 * (((dn x 8) / 40320)))) + ((-1) * zK (up x 10) 3628800)):=qH (by omega);simp only [w0,w1,w2,w3,w4,w5,w6,w7,w8,w9,w10,w11]
 try omega
def zUQ (x:Int):Int:=(vJJ .i64 ((vJJ .i64 ((vJJ .i64 ((vJJ .i64 (1073741824 + (vJJ .i64 ((-1) * (vJJ .i64 ((dn x 2).tdiv 2)))))) + (vJJ .i64 (1 * zK (up x 4) 24)))) + (vJJ .i64 ((-1) * (vJJ .i64 ((dn x 6).tdiv 720)))))) + (vJJ .i64 (1 * zK (up x 8) 40320))))
theorem aCosineU_eq {x:Int} (h:0≤x∧x≤8192):zUQ x=cosU x:=by
 have d2:=qKH h 2;have d6:=qKH h 6;have u4:=qYK h 4;have u8:=qYK h 8;have c4:=yK (r:=zK (up x 4) 24) rfl u4 (by decide);have c8:=yK (r:=zK (up x 8) 40320) rfl u8 (by decide);unfold zUQ cosU;simp only [tdnn d2.1,tdnn d6.1];have w0:vJJ .i64 (((dn x 2) / 2))=(((dn x 2) / 2)):=qH (by omega);have w1:vJJ .i64 ((-1) * (((dn x 2) / 2)))=((-1) * (((dn x 2) / 2))):=qH (by omega);have w2:vJJ .i64 (1073741824 + ((-1) * (((dn x 2) / 2))))=(1073741824 + ((-1) * (((dn x 2) / 2)))):=qH (by omega);have w3:vJJ .i64 (1 * zK (up x 4) 24)=(1 * zK (up x 4) 24):=qH (by omega);have w4:vJJ .i64 ((1073741824 + ((-1) * (((dn x 2) / 2)))) + (1 * zK (up x 4) 24))=((1073741824 + ((-1) * (((dn x 2) / 2)))) + (1 * zK (up x 4) 24)):=qH (by omega);have w5:vJJ .i64 (((dn x 6) / 720))=(((dn x 6) / 720)):=qH (by omega);have w6:vJJ .i64 ((-1) * (((dn x 6) / 720)))=((-1) * (((dn x 6) / 720))):=qH (by omega);have w7:vJJ .i64 (((1073741824 + ((-1) * (((dn x 2) / 2)))) + (1 * zK (up x 4) 24)) + ((-1) * (((dn x 6) / 720))))=(((1073741824 + ((-1) * (((dn x 2) / 2)))) + (1 * zK (up x 4) 24)) + ((-1) * (((dn x 6) / 720)))):=qH (by omega);have w8:vJJ .i64 (1 * zK (up x 8) 40320)=(1 * zK (up x 8) 40320):=qH (by omega);have w9:vJJ .i64 ((((1073741824 + ((-1) * (((dn x 2) / 2)))) + (1 * zK (up x 4) 24)) + ((-1) * (((dn x 6) / 720)))) + (1 * zK (up x 8) 40320))=((((1073741824 + ((-1) * (((dn x 2) / 2)))) + (1 * zK (up x 4) 24)) + ((-1) * (((dn x 6) / 720)))) + (1 * zK (up x 8) 40320)):=qH (by omega);simp only [w0,w1,w2,w3,w4,w5,w6,w7,w8,w9]
 try omega
end Ta
set_option maxRecDepth 100000 in
theorem aCosine (x:Int) (h:0≤x∧x≤8192) (w:World):Calls Tryz.prog 203 [.int .i64 x].toArray w (Rets (iv (qHJ x)) (w)) :=
 zZ (x:=.a (ivC (qHJ x))) (zY (N:=60) (ps:=[.n .i64 x]) yJ zW (OrL.ok (l:=LTa9) yJY) ((by kernel_rfl:_=bif decide (0≤x∧x≤8192) then (bif pw (up x 2) then (bif pw (up x 6) then (bif pw (up x 10) then (bif pw (up x 4) then (bif pw (up x 8) then (bif iw (zUQ x) then some (.v (.a (ivC (encI (zHH x) (zUQ x)))),[])
 else none)
 else none)
 else none)
 else none)
 else none)
 else none)
 else none).trans (by
 have iL:iw (zHH x)=true:=iww _;have iU:iw (zUQ x)=true:=iww _;rw [aCosineL_eq h] at iL ⊢;rw [aCosineU_eq h] at iU ⊢;simp only [vJQ h,jHG h,kZH h,kYQ h,iL,iU,vYV,vZJ]
 rfl))) rfl rfl w
namespace Ta
def yGG (x:Int):Int:=(vJJ .i64 ((vJJ .i64 ((vJJ .i64 ((dn x 1) - zK (up x 3) 6)) + (dn x 5) / 120)) - zK (up x 7) 5040))
theorem rSineL_eq {x:Int} (h:0≤x∧x≤8192):yGG x=sinL x:=by
 have d1:=qKH h 1;have d5:=qKH h 5;have u3:=qYK h 3;have u7:=qYK h 7;have c3:=yK (r:=zK (up x 3) 6) rfl u3 (by decide);have c7:=yK (r:=zK (up x 7) 5040) rfl u7 (by decide);unfold yGG sinL;have w0:vJJ .i64 ((dn x 1) - zK (up x 3) 6)=((dn x 1) - zK (up x 3) 6):=qH (by omega);have w1:vJJ .i64 (((dn x 1) - zK (up x 3) 6) + (dn x 5) / 120)=(((dn x 1) - zK (up x 3) 6) + (dn x 5) / 120):=qH (by omega);have w2:vJJ .i64 ((((dn x 1) - zK (up x 3) 6) + (dn x 5) / 120) - zK (up x 7) 5040)=((((dn x 1) - zK (up x 3) 6) + (dn x 5) / 120) - zK (up x 7) 5040):=qH (by omega);simp only [w0,w1,w2]
 try omega
def yGV (x:Int):Int:=(vJJ .i64 ((vJJ .i64 ((vJJ .i64 ((vJJ .i64 ((up x 1) - (dn x 3) / 6)) + zK (up x 5) 120)) - (dn x 7) / 5040)) + zK (up x 9) 362880))
theorem rSineU_eq {x:Int} (h:0≤x∧x≤8192):yGV x=sinU x:=by
 have d3:=qKH h 3;have d7:=qKH h 7;have u1:=qYK h 1;have u5:=qYK h 5;have u9:=qYK h 9;have c5:=yK (r:=zK (up x 5) 120) rfl u5 (by decide);have c9:=yK (r:=zK (up x 9) 362880) rfl u9 (by decide);unfold yGV sinU;have w0:vJJ .i64 ((up x 1) - (dn x 3) / 6)=((up x 1) - (dn x 3) / 6):=qH (by omega);have w1:vJJ .i64 (((up x 1) - (dn x 3) / 6) + zK (up x 5) 120)=(((up x 1) - (dn x 3) / 6) + zK (up x 5) 120):=qH (by omega);have w2:vJJ .i64 ((((up x 1) - (dn x 3) / 6) + zK (up x 5) 120) - (dn x 7) / 5040)=((((up x 1) - (dn x 3) / 6) + zK (up x 5) 120) - (dn x 7) / 5040):=qH (by omega);have w3:vJJ .i64 (((((up x 1) - (dn x 3) / 6) + zK (up x 5) 120) - (dn x 7) / 5040) + zK (up x 9) 362880)=(((((up x 1) - (dn x 3) / 6) + zK (up x 5) 120) - (dn x 7) / 5040) + zK (up x 9) 362880):=qH (by omega);simp only [w0,w1,w2,w3]
 try omega
end Ta
set_option maxRecDepth 100000 in
theorem rSine (x:Int) (h:0≤x∧x≤8192) (w:World):Calls Tryz.prog 192 [.int .i64 x].toArray w (Rets (iv (yKG x)) (w)) :=
 zZ (x:=.a (ivC (yKG x))) (zY (N:=60) (ps:=[.n .i64 x]) yJ zW (OrL.ok (l:=LTa9) yJY) ((by kernel_rfl:_=bif decide (0≤x∧x≤8192) then (bif iw (up x 3) then (bif iw (dn x 5) then (bif iw (up x 7) then (bif iw (dn x 3) then (bif iw (up x 5) then (bif iw (dn x 7) then (bif iw (up x 9) then (bif (iw (yGV x) && iw (yGG x)) then some (.v (.a (ivC (encI (yGG x) (yGV x)))),[])
 else none)
 else none)
 else none)
 else none)
 else none)
 else none)
 else none)
 else none)
 else none).trans (by
 have iL:iw (yGG x)=true:=iww _;have iU:iw (yGV x)=true:=iww _;rw [rSineL_eq h] at iL ⊢;rw [rSineU_eq h] at iU ⊢;simp only [vJQ h,jHG h,kZH h,kYQ h,iL,iU,vYV,vZJ]
 rfl))) rfl rfl w
namespace Ta
def zJV (x:Int):Int:=(vJJ .i64 ((vJJ .i64 ((vJJ .i64 ((vJJ .i64 ((vJJ .i64 (1073741824 - zK (up x 2) 2)) + (dn x 4) / 24)) - zK (up x 6) 720)) + (dn x 8) / 40320)) - zK (up x 10) 3628800))
theorem rCosineL_eq {x:Int} (h:0≤x∧x≤8192):zJV x=cosL x:=by
 have d4:=qKH h 4;have d8:=qKH h 8;have u2:=qYK h 2;have u6:=qYK h 6;have u10:=qYK h 10;have c10:=yK (r:=zK (up x 10) 3628800) rfl u10 (by decide);have c2:=yK (r:=zK (up x 2) 2) rfl u2 (by decide);have c6:=yK (r:=zK (up x 6) 720) rfl u6 (by decide);unfold zJV cosL;have w0:vJJ .i64 (1073741824 - zK (up x 2) 2)=(1073741824 - zK (up x 2) 2):=qH (by omega);have w1:vJJ .i64 ((1073741824 - zK (up x 2) 2) + (dn x 4) / 24)=((1073741824 - zK (up x 2) 2) + (dn x 4) / 24):=qH (by omega);have w2:vJJ .i64 (((1073741824 - zK (up x 2) 2) + (dn x 4) / 24) - zK (up x 6) 720)=(((1073741824 - zK (up x 2) 2) + (dn x 4) / 24) - zK (up x 6) 720):=qH (by omega);have w3:vJJ .i64 ((((1073741824 - zK (up x 2) 2) + (dn x 4) / 24) - zK (up x 6) 720) + (dn x 8) / 40320)=((((1073741824 - zK (up x 2) 2) + (dn x 4) / 24) - zK (up x 6) 720) + (dn x 8) / 40320):=qH (by omega);have w4:vJJ .i64 (((((1073741824 - zK (up x 2) 2) + (dn x 4) / 24) - zK (up x 6) 720) + (dn x 8) / 40320) - zK (up x 10) 3628800)=(((((1073741824 - zK (up x 2) 2) + (dn x 4) / 24) - zK (up x 6) 720) + (dn x 8) / 40320) - zK (up x 10) 3628800):=qH (by omega);simp only [w0,w1,w2,w3,w4]
 try omega
def zJW (x:Int):Int:=(vJJ .i64 ((vJJ .i64 ((vJJ .i64 ((vJJ .i64 (1073741824 - (dn x 2) / 2)) + zK (up x 4) 24)) - (dn x 6) / 720)) + zK (up x 8) 40320))
theorem rCosineU_eq {x:Int} (h:0≤x∧x≤8192):zJW x=cosU x:=by
 have d2:=qKH h 2;have d6:=qKH h 6;have u4:=qYK h 4;have u8:=qYK h 8;have c4:=yK (r:=zK (up x 4) 24) rfl u4 (by decide);have c8:=yK (r:=zK (up x 8) 40320) rfl u8 (by decide);unfold zJW cosU;have w0:vJJ .i64 (1073741824 - (dn x 2) / 2)=(1073741824 - (dn x 2) / 2):=qH (by omega);have w1:vJJ .i64 ((1073741824 - (dn x 2) / 2) + zK (up x 4) 24)=((1073741824 - (dn x 2) / 2) + zK (up x 4) 24):=qH (by omega);have w2:vJJ .i64 (((1073741824 - (dn x 2) / 2) + zK (up x 4) 24) - (dn x 6) / 720)=(((1073741824 - (dn x 2) / 2) + zK (up x 4) 24) - (dn x 6) / 720):=qH (by omega);have w3:vJJ .i64 ((((1073741824 - (dn x 2) / 2) + zK (up x 4) 24) - (dn x 6) / 720) + zK (up x 8) 40320)=((((1073741824 - (dn x 2) / 2) + zK (up x 4) 24) - (dn x 6) / 720) + zK (up x 8) 40320):=qH (by omega);simp only [w0,w1,w2,w3]
 try omega
end Ta
set_option maxRecDepth 100000 in
theorem rCosine (x:Int) (h:0≤x∧x≤8192) (w:World):Calls Tryz.prog 193 [.int .i64 x].toArray w (Rets (iv (qHJ x)) (w)) :=
 zZ (x:=.a (ivC (qHJ x))) (zY (N:=60) (ps:=[.n .i64 x]) yJ zW (OrL.ok (l:=LTa9) yJY) ((by kernel_rfl:_=bif decide (0≤x∧x≤8192) then (bif iw (up x 2) then (bif iw (dn x 4) then (bif iw (up x 6) then (bif iw (dn x 8) then (bif iw (up x 10) then (bif iw (dn x 2) then (bif iw (up x 4) then (bif iw (dn x 6) then (bif iw (up x 8) then (bif (iw (zJW x) && iw (zJV x)) then some (.v (.a (ivC (encI (zJV x) (zJW x)))),[])
 else none)
 else none)
 else none)
 else none)
 else none)
 else none)
 else none)
 else none)
 else none)
 else none)
 else none).trans (by
 have iL:iw (zJV x)=true:=iww _;have iU:iw (zJW x)=true:=iww _;rw [rCosineL_eq h] at iL ⊢;rw [rCosineU_eq h] at iU ⊢;simp only [vJQ h,jHG h,kZH h,kYQ h,iL,iU,vYV,vZJ]
 rfl))) rfl rfl w
namespace Ta
noncomputable def jYU:List PV→Option (Bool × Ret):=fun ps=>match ps with
 | [.n .i64 x]=>some (decide (0≤x∧x≤8192),.v (.a (ivC (yKG x))))
 | _=>none
theorem ok_aSine:zJ Tryz.prog 202 jYU:=by
 intro ps r h;unfold jYU at h;split at h
 ·simp only [vQZ,vQY] at h;obtain ⟨hg,rfl⟩:=h
  try simp only [vQJ,decide_eq_true_eq] at hg
  exact qX (qW Tryz.func202 (by kernel_rfl) (by kernel_rfl)) rfl rfl (fun w=>aSine _ hg w)
 ·cases h
noncomputable def LTa10:OrL:=(202,jYU) :: LTa9
theorem LTa10_ok:AllP (fun x:Nat × (List PV→Option (Bool × Ret))=>zJ Tryz.prog x.1 x.2) LTa10:=⟨ok_aSine,yJY⟩
noncomputable def yZV:List PV→Option (Bool × Ret):=fun ps=>match ps with
 | [.n .i64 x]=>some (decide (0≤x∧x≤8192),.v (.a (ivC (qHJ x))))
 | _=>none
theorem ok_aCosine:zJ Tryz.prog 203 yZV:=by
 intro ps r h;unfold yZV at h;split at h
 ·simp only [vQZ,vQY] at h;obtain ⟨hg,rfl⟩:=h
  try simp only [vQJ,decide_eq_true_eq] at hg
  exact qX (qW Tryz.func203 (by kernel_rfl) (by kernel_rfl)) rfl rfl (fun w=>aCosine _ hg w)
 ·cases h
noncomputable def LTa11:OrL:=(203,yZV) :: LTa10
theorem LTa11_ok:AllP (fun x:Nat × (List PV→Option (Bool × Ret))=>zJ Tryz.prog x.1 x.2) LTa11:=⟨ok_aCosine,LTa10_ok⟩
noncomputable def jZH:List PV→Option (Bool × Ret):=fun ps=>match ps with
 | [.n .i64 x]=>some (decide (0≤x∧x≤8192),.v (.a (ivC (yKG x))))
 | _=>none
theorem ok_rSine:zJ Tryz.prog 192 jZH:=by
 intro ps r h;unfold jZH at h;split at h
 ·simp only [vQZ,vQY] at h;obtain ⟨hg,rfl⟩:=h
  try simp only [vQJ,decide_eq_true_eq] at hg
  exact qX (qW Tryz.func192 (by kernel_rfl) (by kernel_rfl)) rfl rfl (fun w=>rSine _ hg w)
 ·cases h
noncomputable def LTa12:OrL:=(192,jZH) :: LTa11
theorem LTa12_ok:AllP (fun x:Nat × (List PV→Option (Bool × Ret))=>zJ Tryz.prog x.1 x.2) LTa12:=⟨ok_rSine,LTa11_ok⟩
noncomputable def yZX:List PV→Option (Bool × Ret):=fun ps=>match ps with
 | [.n .i64 x]=>some (decide (0≤x∧x≤8192),.v (.a (ivC (qHJ x))))
 | _=>none
theorem ok_rCosine:zJ Tryz.prog 193 yZX:=by
 intro ps r h;unfold yZX at h;split at h
 ·simp only [vQZ,vQY] at h;obtain ⟨hg,rfl⟩:=h
  try simp only [vQJ,decide_eq_true_eq] at hg
  exact qX (qW Tryz.func193 (by kernel_rfl) (by kernel_rfl)) rfl rfl (fun w=>rCosine _ hg w)
 ·cases h
noncomputable def kYX:OrL:=(193,yZX) :: LTa12
theorem yGZ:AllP (fun x:Nat × (List PV→Option (Bool × Ret))=>zJ Tryz.prog x.1 x.2) kYX:=⟨ok_rCosine,LTa12_ok⟩
end Ta
set_option maxRecDepth 100000 in
theorem aFirst (r:Int) (_:0≤r∧r≤16384) (w:World):Calls Tryz.prog 198 [.int .i64 r].toArray w (Rets (iv (qJV r)) (w)) :=
 zZ (x:=.a (ivC (qJV r))) (zY (N:=60) (ps:=[.n .i64 r]) yJ zW (OrL.ok (l:=kYX) yGZ) ((by kernel_rfl:_=bif (decide (r≤8192)) then (bif decide (0≤r∧r≤8192) then some (.v (.a (ivC (yKG r))),[])
 else none)
 else bif decide (0≤(vJJ .i64 (16384 - r))∧(vJJ .i64 (16384 - r))≤8192) then some (.v (.a (ivC (qHJ (vJJ .i64 (16384 - r))))),[])
 else none).trans (by
 by_cases p:r≤8192
 ·simp only [vJQ p,vYV,vJQ (show 0≤r∧r≤8192 by omega)];unfold qJV;rw [vJQ p]; rfl
 ·have w0:vJJ .i64 (16384 - r)=16384 - r:=qH (by omega);simp only [w0,vYH p,vYG,vJQ (show 0≤16384 - r∧16384 - r≤8192 by omega),vYV];unfold qJV;rw [vYH p]; rfl))) rfl rfl w
set_option maxRecDepth 100000 in
theorem rQuarter (r:Int) (_:0≤r∧r≤16384) (w:World):Calls Tryz.prog 188 [.int .i64 r].toArray w (Rets (iv (qJV r)) (w)) :=
 zZ (x:=.a (ivC (qJV r))) (zY (N:=60) (ps:=[.n .i64 r]) yJ zW (OrL.ok (l:=kYX) yGZ) ((by kernel_rfl:_=bif (decide (r≤8192)) then (bif decide (0≤r∧r≤8192) then some (.v (.a (ivC (yKG r))),[])
 else none)
 else bif decide (0≤(vJJ .i64 (16384 - r))∧(vJJ .i64 (16384 - r))≤8192) then some (.v (.a (ivC (qHJ (vJJ .i64 (16384 - r))))),[])
 else none).trans (by
 by_cases p:r≤8192
 ·simp only [vJQ p,vYV,vJQ (show 0≤r∧r≤8192 by omega)];unfold qJV;rw [vJQ p]; rfl
 ·have w0:vJJ .i64 (16384 - r)=16384 - r:=qH (by omega);simp only [w0,vYH p,vYG,vJQ (show 0≤16384 - r∧16384 - r≤8192 by omega),vYV];unfold qJV;rw [vYH p]; rfl))) rfl rfl w
namespace Ta
noncomputable def yXU:List PV→Option (Bool × Ret):=fun ps=>match ps with
 | [.n .i64 r]=>some (decide (0≤r∧r≤16384),.v (.a (ivC (qJV r))))
 | _=>none
theorem ok_aFirst:zJ Tryz.prog 198 yXU:=by
 intro ps r h;unfold yXU at h;split at h
 ·simp only [vQZ,vQY] at h;obtain ⟨hg,rfl⟩:=h
  try simp only [vQJ,decide_eq_true_eq] at hg
  exact qX (qW Tryz.func198 (by kernel_rfl) (by kernel_rfl)) rfl rfl (fun w=>aFirst _ hg w)
 ·cases h
noncomputable def LTa14:OrL:=(198,yXU) :: kYX
theorem LTa14_ok:AllP (fun x:Nat × (List PV→Option (Bool × Ret))=>zJ Tryz.prog x.1 x.2) LTa14:=⟨ok_aFirst,yGZ⟩
noncomputable def zXK:List PV→Option (Bool × Ret):=fun ps=>match ps with
 | [.n .i64 r]=>some (decide (0≤r∧r≤16384),.v (.a (ivC (qJV r))))
 | _=>none
theorem ok_rQuarter:zJ Tryz.prog 188 zXK:=by
 intro ps r h;unfold zXK at h;split at h
 ·simp only [vQZ,vQY] at h;obtain ⟨hg,rfl⟩:=h
  try simp only [vQJ,decide_eq_true_eq] at hg
  exact qX (qW Tryz.func188 (by kernel_rfl) (by kernel_rfl)) rfl rfl (fun w=>rQuarter _ hg w)
 ·cases h
noncomputable def LTa15:OrL:=(188,zXK) :: LTa14
theorem LTa15_ok:AllP (fun x:Nat × (List PV→Option (Bool × Ret))=>zJ Tryz.prog x.1 x.2) LTa15:=⟨ok_rQuarter,LTa14_ok⟩
noncomputable def jVK:List PV→Option (Bool × Ret):=fun ps=>match ps with
 | [.n .i64 a]=>some (true,.v (.n .i64 ((a % 65536))))
 | _=>none
theorem ok_aMod:zJ Tryz.prog 197 jVK:=by
 intro ps r h;unfold jVK at h;split at h
 ·simp only [vQZ,vQY] at h;obtain ⟨hg,rfl⟩:=h;exact qX (qW Tryz.func197 (by kernel_rfl) (by kernel_rfl)) rfl rfl (fun w=>aMod _ w)
 ·cases h
noncomputable def LTa16:OrL:=(197,jVK) :: LTa15
theorem LTa16_ok:AllP (fun x:Nat × (List PV→Option (Bool × Ret))=>zJ Tryz.prog x.1 x.2) LTa16:=⟨ok_aMod,LTa15_ok⟩
noncomputable def jWV:List PV→Option (Bool × Ret):=fun ps=>match ps with
 | [.n .i64 a]=>some (true,.v (.n .i64 ((a % 65536))))
 | _=>none
theorem ok_rMod:zJ Tryz.prog 187 jWV:=by
 intro ps r h;unfold jWV at h;split at h
 ·simp only [vQZ,vQY] at h;obtain ⟨hg,rfl⟩:=h;exact qX (qW Tryz.func187 (by kernel_rfl) (by kernel_rfl)) rfl rfl (fun w=>rMod _ w)
 ·cases h
noncomputable def LTa17:OrL:=(187,jWV) :: LTa16
theorem LTa17_ok:AllP (fun x:Nat × (List PV→Option (Bool × Ret))=>zJ Tryz.prog x.1 x.2) LTa17:=⟨ok_rMod,LTa16_ok⟩
noncomputable def o_iNeg:List PV→Option (Bool × Ret):=fun ps=>match ps with
 | [.a a']=>(ivD a').bind fun a=>some (true,.v (.a (ivC (Iv.neg a))))
 | _=>none
theorem ok_iNeg:zJ Tryz.prog 184 o_iNeg:=by
 intro ps r h;unfold o_iNeg at h;split at h
 ·simp only [vQQ,vQZ,vQY] at h;obtain ⟨a,ha,hg,rfl⟩:=h;rw [qQG ha];exact qX (qW Tryz.func184 (by kernel_rfl) (by kernel_rfl)) rfl rfl (fun w=>iNeg _ _ w)
 ·cases h
noncomputable def LTa18:OrL:=(184,o_iNeg) :: LTa17
theorem LTa18_ok:AllP (fun x:Nat × (List PV→Option (Bool × Ret))=>zJ Tryz.prog x.1 x.2) LTa18:=⟨ok_iNeg,LTa17_ok⟩
noncomputable def o_rNeg:List PV→Option (Bool × Ret):=fun ps=>match ps with
 | [.a a']=>(ivD a').bind fun a=>some (true,.v (.a (ivC (Iv.neg a))))
 | _=>none
theorem ok_rNeg:zJ Tryz.prog 171 o_rNeg:=by
 intro ps r h;unfold o_rNeg at h;split at h
 ·simp only [vQQ,vQZ,vQY] at h;obtain ⟨a,ha,hg,rfl⟩:=h;rw [qQG ha];exact qX (qW Tryz.func171 (by kernel_rfl) (by kernel_rfl)) rfl rfl (fun w=>rNeg _ _ w)
 ·cases h
noncomputable def kYU:OrL:=(171,o_rNeg) :: LTa18
theorem yGQ:AllP (fun x:Nat × (List PV→Option (Bool × Ret))=>zJ Tryz.prog x.1 x.2) kYU:=⟨ok_rNeg,LTa18_ok⟩
end Ta
set_option maxRecDepth 100000 in
theorem aSin (a:Int) (w:World):Calls Tryz.prog 191 [.int .i64 a].toArray w (Rets (iv (sinI a)) (w)) :=
 zZ (x:=.a (ivC (sinI a))) (zY (N:=60) (ps:=[.n .i64 a]) yJ zW (OrL.ok (l:=kYU) yGQ) ((by kernel_rfl:_=bif (decide ((vJJ .i64 ((a % 65536).tdiv 16384))=0)) then (bif decide (0≤((a % 65536).tmod 16384)∧((a % 65536).tmod 16384)≤16384) then some (.v (.a (ivC (qJV ((a % 65536).tmod 16384)))),[])
 else none)
 else bif (decide ((vJJ .i64 ((a % 65536).tdiv 16384))=1)) then (bif decide (0≤(vJJ .i64 (16384 - ((a % 65536).tmod 16384)))∧(vJJ .i64 (16384 - ((a % 65536).tmod 16384)))≤16384) then some (.v (.a (ivC (qJV (vJJ .i64 (16384 - ((a % 65536).tmod 16384)))))),[])
 else none)
 else bif (decide ((vJJ .i64 ((a % 65536).tdiv 16384))=2)) then (bif decide (0≤((a % 65536).tmod 16384)∧((a % 65536).tmod 16384)≤16384) then some (.v (.a (ivC (Iv.neg (qJV ((a % 65536).tmod 16384))))),[])
 else none)
 else bif decide (0≤(vJJ .i64 (16384 - ((a % 65536).tmod 16384)))∧(vJJ .i64 (16384 - ((a % 65536).tmod 16384)))≤16384) then some (.v (.a (ivC (Iv.neg (qJV (vJJ .i64 (16384 - ((a % 65536).tmod 16384))))))),[])
 else none).trans (by
 have ht:(a % 65536).tdiv 16384=a % 65536 / 16384:=tdnn (by omega);have hm:(a % 65536).tmod 16384=a % 65536 % 16384:=Int.tmod_eq_emod_of_nonneg (by omega);have w1:vJJ .i64 (a % 65536 % 16384)=a % 65536 % 16384:=qH (by omega);have w2:vJJ .i64 (a % 65536 / 16384)=a % 65536 / 16384:=qH (by omega);have w3:vJJ .i64 (16384 - a % 65536 % 16384)=16384 - a % 65536 % 16384:=qH (by omega);simp only [ht,hm,w1,w2,w3,vJQ (show 0≤a % 65536 % 16384∧a % 65536 % 16384≤16384 by omega),vJQ (show 0≤16384 - a % 65536 % 16384∧16384 - a % 65536 % 16384≤16384 by omega),vYV];unfold sinI sinM;cases decide (a % 65536 / 16384=0) <;> cases decide (a % 65536 / 16384=1) <;> cases decide (a % 65536 / 16384=2) <;> rfl))) rfl rfl w
set_option maxRecDepth 100000 in
theorem rSin (a:Int) (w:World):Calls Tryz.prog 179 [.int .i64 a].toArray w (Rets (iv (sinI a)) (w)) :=
 zZ (x:=.a (ivC (sinI a))) (zY (N:=60) (ps:=[.n .i64 a]) yJ zW (OrL.ok (l:=kYU) yGQ) ((by kernel_rfl:_=bif (decide ((vJJ .i64 ((a % 65536).tdiv 16384))=0)) then (bif decide (0≤((a % 65536).tmod 16384)∧((a % 65536).tmod 16384)≤16384) then some (.v (.a (ivC (qJV ((a % 65536).tmod 16384)))),[])
 else none)
 else bif (decide ((vJJ .i64 ((a % 65536).tdiv 16384))=1)) then (bif decide (0≤(vJJ .i64 (16384 - ((a % 65536).tmod 16384)))∧(vJJ .i64 (16384 - ((a % 65536).tmod 16384)))≤16384) then some (.v (.a (ivC (qJV (vJJ .i64 (16384 - ((a % 65536).tmod 16384)))))),[])
 else none)
 else bif (decide ((vJJ .i64 ((a % 65536).tdiv 16384))=2)) then (bif decide (0≤((a % 65536).tmod 16384)∧((a % 65536).tmod 16384)≤16384) then some (.v (.a (ivC (Iv.neg (qJV ((a % 65536).tmod 16384))))),[])
 else none)
 else bif decide (0≤(vJJ .i64 (16384 - ((a % 65536).tmod 16384)))∧(vJJ .i64 (16384 - ((a % 65536).tmod 16384)))≤16384) then some (.v (.a (ivC (Iv.neg (qJV (vJJ .i64 (16384 - ((a % 65536).tmod 16384))))))),[])
 else none).trans (by
 have ht:(a % 65536).tdiv 16384=a % 65536 / 16384:=tdnn (by omega);have hm:(a % 65536).tmod 16384=a % 65536 % 16384:=Int.tmod_eq_emod_of_nonneg (by omega);have w1:vJJ .i64 (a % 65536 % 16384)=a % 65536 % 16384:=qH (by omega);have w2:vJJ .i64 (a % 65536 / 16384)=a % 65536 / 16384:=qH (by omega);have w3:vJJ .i64 (16384 - a % 65536 % 16384)=16384 - a % 65536 % 16384:=qH (by omega);simp only [ht,hm,w1,w2,w3,vJQ (show 0≤a % 65536 % 16384∧a % 65536 % 16384≤16384 by omega),vJQ (show 0≤16384 - a % 65536 % 16384∧16384 - a % 65536 % 16384≤16384 by omega),vYV];unfold sinI sinM;cases decide (a % 65536 / 16384=0) <;> cases decide (a % 65536 / 16384=1) <;> cases decide (a % 65536 / 16384=2) <;> rfl))) rfl rfl w
namespace Ta
noncomputable def jVY:List PV→Option (Bool × Ret):=fun ps=>match ps with
 | [.n .i64 a]=>some (true,.v (.a (ivC (sinI a))))
 | _=>none
theorem ok_aSin:zJ Tryz.prog 191 jVY:=by
 intro ps r h;unfold jVY at h;split at h
 ·simp only [vQZ,vQY] at h;obtain ⟨hg,rfl⟩:=h;exact qX (qW Tryz.func191 (by kernel_rfl) (by kernel_rfl)) rfl rfl (fun w=>aSin _ w)
 ·cases h
noncomputable def LTa20:OrL:=(191,jVY) :: kYU
theorem LTa20_ok:AllP (fun x:Nat × (List PV→Option (Bool × Ret))=>zJ Tryz.prog x.1 x.2) LTa20:=⟨ok_aSin,yGQ⟩
noncomputable def jWU:List PV→Option (Bool × Ret):=fun ps=>match ps with
 | [.n .i64 a]=>some (true,.v (.a (ivC (sinI a))))
 | _=>none
theorem ok_rSin:zJ Tryz.prog 179 jWU:=by
 intro ps r h;unfold jWU at h;split at h
 ·simp only [vQZ,vQY] at h;obtain ⟨hg,rfl⟩:=h;exact qX (qW Tryz.func179 (by kernel_rfl) (by kernel_rfl)) rfl rfl (fun w=>rSin _ w)
 ·cases h
noncomputable def kYK:OrL:=(179,jWU) :: LTa20
theorem yVH:AllP (fun x:Nat × (List PV→Option (Bool × Ret))=>zJ Tryz.prog x.1 x.2) kYK:=⟨ok_rSin,LTa20_ok⟩
end Ta
set_option maxRecDepth 100000 in
theorem aCos (a:Int) (w:World):Calls Tryz.prog 190 [.int .i64 a].toArray w (Rets (iv (cosI a)) (w)) :=
 zZ (x:=.a (ivC (cosI a))) (zY (N:=60) (ps:=[.n .i64 a]) yJ zW (OrL.ok (l:=kYK) yVH) ((by kernel_rfl:_=some (.v (.a (ivC (sinI (vJJ .i64 ((a % 65536) + 16384))))),[])).trans (by
 rw [qH (show -9223372036854775808≤a % 65536 + 16384∧a % 65536 + 16384≤9223372036854775807 by omega)]
 rfl))) rfl rfl w
set_option maxRecDepth 100000 in
theorem rCos (a:Int) (w:World):Calls Tryz.prog 178 [.int .i64 a].toArray w (Rets (iv (cosI a)) (w)) :=
 zZ (x:=.a (ivC (cosI a))) (zY (N:=60) (ps:=[.n .i64 a]) yJ zW (OrL.ok (l:=kYK) yVH) ((by kernel_rfl:_=some (.v (.a (ivC (sinI (vJJ .i64 ((a % 65536) + 16384))))),[])).trans (by
 rw [qH (show -9223372036854775808≤a % 65536 + 16384∧a % 65536 + 16384≤9223372036854775807 by omega)]
 rfl))) rfl rfl w
namespace Ta
noncomputable def jVX:List PV→Option (Bool × Ret):=fun ps=>match ps with
 | [.n .i64 a]=>some (true,.v (.a (ivC (cosI a))))
 | _=>none
theorem ok_aCos:zJ Tryz.prog 190 jVX:=by
 intro ps r h;unfold jVX at h;split at h
 ·simp only [vQZ,vQY] at h;obtain ⟨hg,rfl⟩:=h;exact qX (qW Tryz.func190 (by kernel_rfl) (by kernel_rfl)) rfl rfl (fun w=>aCos _ w)
 ·cases h
noncomputable def LTa22:OrL:=(190,jVX) :: kYK
theorem LTa22_ok:AllP (fun x:Nat × (List PV→Option (Bool × Ret))=>zJ Tryz.prog x.1 x.2) LTa22:=⟨ok_aCos,yVH⟩
noncomputable def jWH:List PV→Option (Bool × Ret):=fun ps=>match ps with
 | [.n .i64 a]=>some (true,.v (.a (ivC (cosI a))))
 | _=>none
theorem ok_rCos:zJ Tryz.prog 178 jWH:=by
 intro ps r h;unfold jWH at h;split at h
 ·simp only [vQZ,vQY] at h;obtain ⟨hg,rfl⟩:=h;exact qX (qW Tryz.func178 (by kernel_rfl) (by kernel_rfl)) rfl rfl (fun w=>rCos _ w)
 ·cases h
noncomputable def LTa23:OrL:=(178,jWH) :: LTa22
theorem LTa23_ok:AllP (fun x:Nat × (List PV→Option (Bool × Ret))=>zJ Tryz.prog x.1 x.2) LTa23:=⟨ok_rCos,LTa22_ok⟩
noncomputable def LTa24:OrL:=(135,Tn.o_iValid) :: LTa23
theorem LTa24_ok:AllP (fun x:Nat × (List PV→Option (Bool × Ret))=>zJ Tryz.prog x.1 x.2) LTa24:=⟨Tn.ok_iValid,LTa23_ok⟩
noncomputable def jYK:List PV→Option (Bool × Ret):=fun ps=>match ps with
 | [.a a',.a b']=>(ivD a').bind fun a=>(ivD b').bind fun b=>some (true,.v (.a (ivC (Iv.hull a b))))
 | _=>none
theorem ok_iHull:zJ Tryz.prog 195 jYK:=by
 intro ps r h;unfold jYK at h;split at h
 ·simp only [vQQ,vQZ,vQY] at h;obtain ⟨a,ha,b,hb,hg,rfl⟩:=h;rw [qQG ha];rw [qQG hb];exact qX (qW Tryz.func195 (by kernel_rfl) (by kernel_rfl)) rfl rfl (fun w=>iHull _ _ _ _ w)
 ·cases h
noncomputable def LTa25:OrL:=(195,jYK) :: LTa24
theorem LTa25_ok:AllP (fun x:Nat × (List PV→Option (Bool × Ret))=>zJ Tryz.prog x.1 x.2) LTa25:=⟨ok_iHull,LTa24_ok⟩
noncomputable def o_iOf:List PV→Option (Bool × Ret):=fun ps=>match ps with
 | [.n .i64 x]=>some (true,.v (.a (ivC (Iv.of x))))
 | _=>none
theorem ok_iOf:zJ Tryz.prog 122 o_iOf:=by
 intro ps r h;unfold o_iOf at h;split at h
 ·simp only [vQZ,vQY] at h;obtain ⟨hg,rfl⟩:=h;exact qX (qW Tryz.func122 (by kernel_rfl) (by kernel_rfl)) rfl rfl (fun w=>iOf _ w)
 ·cases h
noncomputable def LTa26:OrL:=(122,o_iOf) :: LTa25
theorem LTa26_ok:AllP (fun x:Nat × (List PV→Option (Bool × Ret))=>zJ Tryz.prog x.1 x.2) LTa26:=⟨ok_iOf,LTa25_ok⟩
noncomputable def LTa27:OrL:=(148,Tn.o_rValid) :: LTa26
theorem LTa27_ok:AllP (fun x:Nat × (List PV→Option (Bool × Ret))=>zJ Tryz.prog x.1 x.2) LTa27:=⟨Tn.ok_rValid,LTa26_ok⟩
noncomputable def jYQ:List PV→Option (Bool × Ret):=fun ps=>match ps with
 | [.a a',.a b']=>(ivD a').bind fun a=>(ivD b').bind fun b=>some (true,.v (.a (ivC (Iv.hull a b))))
 | _=>none
theorem ok_rHull:zJ Tryz.prog 185 jYQ:=by
 intro ps r h;unfold jYQ at h;split at h
 ·simp only [vQQ,vQZ,vQY] at h;obtain ⟨a,ha,b,hb,hg,rfl⟩:=h;rw [qQG ha];rw [qQG hb];exact qX (qW Tryz.func185 (by kernel_rfl) (by kernel_rfl)) rfl rfl (fun w=>rHull _ _ _ _ w)
 ·cases h
noncomputable def LTa28:OrL:=(185,jYQ) :: LTa27
theorem LTa28_ok:AllP (fun x:Nat × (List PV→Option (Bool × Ret))=>zJ Tryz.prog x.1 x.2) LTa28:=⟨ok_rHull,LTa27_ok⟩
noncomputable def o_rOf:List PV→Option (Bool × Ret):=fun ps=>match ps with
 | [.n .i64 x]=>some (true,.v (.a (ivC (Iv.of x))))
 | _=>none
theorem ok_rOf:zJ Tryz.prog 34 o_rOf:=by
 intro ps r h;unfold o_rOf at h;split at h
 ·simp only [vQZ,vQY] at h;obtain ⟨hg,rfl⟩:=h;exact qX (qW Tryz.func34 (by kernel_rfl) (by kernel_rfl)) rfl rfl (fun w=>rOf _ w)
 ·cases h
noncomputable def LTa29:OrL:=(34,o_rOf) :: LTa28
theorem LTa29_ok:AllP (fun x:Nat × (List PV→Option (Bool × Ret))=>zJ Tryz.prog x.1 x.2) LTa29:=⟨ok_rOf,LTa28_ok⟩
noncomputable def yXY:List PV→Option (Bool × Ret):=fun ps=>match ps with
 | [.a a']=>(ivD a').bind fun a=>some (true,.v (.n .i64 (Iv.width a)))
 | _=>none
theorem ok_iWidth:zJ Tryz.prog 194 yXY:=by
 intro ps r h;unfold yXY at h;split at h
 ·simp only [vQQ,vQZ,vQY] at h;obtain ⟨a,ha,hg,rfl⟩:=h;rw [qQG ha];exact qX (qW Tryz.func194 (by kernel_rfl) (by kernel_rfl)) rfl rfl (fun w=>iWidth _ _ w)
 ·cases h
noncomputable def LTa30:OrL:=(194,yXY) :: LTa29
theorem LTa30_ok:AllP (fun x:Nat × (List PV→Option (Bool × Ret))=>zJ Tryz.prog x.1 x.2) LTa30:=⟨ok_iWidth,LTa29_ok⟩
noncomputable def yXK:List PV→Option (Bool × Ret):=fun ps=>match ps with
 | [.a a',.n .i64 c]=>(ivD a').bind fun a=>some (decide (0≤c∧c < 65536) && Iv.valid a,.v (.b (kK a c)))
 | _=>none
theorem ok_aMeets:zJ Tryz.prog 196 yXK:=by
 intro ps r h;unfold yXK at h;split at h
 ·simp only [vQQ,vQZ,vQY] at h;obtain ⟨a,ha,hg,rfl⟩:=h;rw [qQG ha]
  try simp only [vQJ,decide_eq_true_eq] at hg
  exact qX (qW Tryz.func196 (by kernel_rfl) (by kernel_rfl)) rfl rfl (fun w=>aMeets _ _ _ hg.2 hg.1 w)
 ·cases h
noncomputable def LTa31:OrL:=(196,yXK) :: LTa30
theorem LTa31_ok:AllP (fun x:Nat × (List PV→Option (Bool × Ret))=>zJ Tryz.prog x.1 x.2) LTa31:=⟨ok_aMeets,LTa30_ok⟩
noncomputable def yUU:List PV→Option (Bool × Ret):=fun ps=>match ps with
 | [.a a',.n .i64 c]=>(ivD a').bind fun a=>some (decide (0≤c∧c < 65536) && Iv.valid a,.v (.b (kK a c)))
 | _=>none
theorem ok_rMeets:zJ Tryz.prog 186 yUU:=by
 intro ps r h;unfold yUU at h;split at h
 ·simp only [vQQ,vQZ,vQY] at h;obtain ⟨a,ha,hg,rfl⟩:=h;rw [qQG ha]
  try simp only [vQJ,decide_eq_true_eq] at hg
  exact qX (qW Tryz.func186 (by kernel_rfl) (by kernel_rfl)) rfl rfl (fun w=>rMeets _ _ _ hg.2 hg.1 w)
 ·cases h
noncomputable def jHY:OrL:=(186,yUU) :: LTa31
theorem yQZ:AllP (fun x:Nat × (List PV→Option (Bool × Ret))=>zJ Tryz.prog x.1 x.2) jHY:=⟨ok_rMeets,LTa31_ok⟩
end Ta
set_option maxRecDepth 100000 in
theorem aSinOver (a0 a1:Int) (w:World):Calls Tryz.prog 183 [.agg #[.int .i64 a0,.int .i64 a1]].toArray w (Rets (iv (jH (⟨a0,a1⟩:Iv))) (w)) :=
 zZ (x:=.a (ivC (jH ⟨a0,a1⟩))) (zY (N:=60) (ps:=[.a [.n .i64 a0,.n .i64 a1]]) yJ zW (OrL.ok (l:=jHY) yQZ) ((by kernel_rfl:_=bif Iv.valid (Iv.mk a0 a1) then (bif (decide (65536≤Iv.width (Iv.mk a0 a1))) then some (.v (.a [.n .i64 (-65536),.n .i64 65536]),[])
 else bif Iv.valid (Iv.mk a0 a1) then (bif kK (Iv.mk a0 a1) 16384 then (bif Iv.valid (Iv.mk a0 a1) then (bif kK (Iv.mk a0 a1) 49152 then some (.v (.a (ivC (Iv.hull (Iv.hull (Iv.hull (sinI a0) (sinI a1)) (Iv.of 65536)) (Iv.of (-65536))))),[])
 else some (.v (.a (ivC (Iv.hull (Iv.hull (sinI a0) (sinI a1)) (Iv.of 65536)))),[]))
 else none)
 else bif Iv.valid (Iv.mk a0 a1) then (bif kK (Iv.mk a0 a1) 49152 then some (.v (.a (ivC (Iv.hull (Iv.hull (sinI a0) (sinI a1)) (Iv.of (-65536))))),[])
 else some (.v (.a (ivC (Iv.hull (sinI a0) (sinI a1)))),[]))
 else none)
 else none)
 else some (.v (.a [.n .i64 0,.n .i64 0]),[])).trans (by
 have e:jH ⟨a0,a1⟩=bif !Iv.valid (Iv.mk a0 a1) then ⟨0,0⟩ else bif decide (65536≤a1 - a0) then ⟨-65536,65536⟩ else bif kK (Iv.mk a0 a1) 49152 then Iv.hull (bif kK (Iv.mk a0 a1) 16384 then Iv.hull (Iv.hull (sinI a0) (sinI a1)) (Iv.of 65536) else Iv.hull (sinI a0) (sinI a1)) (Iv.of (-65536)) else (bif kK (Iv.mk a0 a1) 16384 then Iv.hull (Iv.hull (sinI a0) (sinI a1)) (Iv.of 65536) else Iv.hull (sinI a0) (sinI a1)):=rfl
 rw [e];cases hv:Iv.valid (Iv.mk a0 a1) with
 | false=>rfl
 | true =>
  have hb:=uQ hv;have hw:Iv.width (Iv.mk a0 a1)=a1 - a0:=by unfold Iv.width; rw [hv]; rfl
  rw [hw];cases decide (65536≤a1 - a0) <;> cases kK (Iv.mk a0 a1) 16384 <;> cases kK (Iv.mk a0 a1) 49152 <;> rfl))) rfl rfl w
set_option maxRecDepth 100000 in
theorem aCosOver (a0 a1:Int) (w:World):Calls Tryz.prog 182 [.agg #[.int .i64 a0,.int .i64 a1]].toArray w (Rets (iv (kQ (⟨a0,a1⟩:Iv))) (w)) :=
 zZ (x:=.a (ivC (kQ ⟨a0,a1⟩))) (zY (N:=60) (ps:=[.a [.n .i64 a0,.n .i64 a1]]) yJ zW (OrL.ok (l:=jHY) yQZ) ((by kernel_rfl:_=bif Iv.valid (Iv.mk a0 a1) then (bif (decide (65536≤Iv.width (Iv.mk a0 a1))) then some (.v (.a [.n .i64 (-65536),.n .i64 65536]),[])
 else bif Iv.valid (Iv.mk a0 a1) then (bif kK (Iv.mk a0 a1) 0 then (bif Iv.valid (Iv.mk a0 a1) then (bif kK (Iv.mk a0 a1) 32768 then some (.v (.a (ivC (Iv.hull (Iv.hull (Iv.hull (cosI a0) (cosI a1)) (Iv.of 65536)) (Iv.of (-65536))))),[])
 else some (.v (.a (ivC (Iv.hull (Iv.hull (cosI a0) (cosI a1)) (Iv.of 65536)))),[]))
 else none)
 else bif Iv.valid (Iv.mk a0 a1) then (bif kK (Iv.mk a0 a1) 32768 then some (.v (.a (ivC (Iv.hull (Iv.hull (cosI a0) (cosI a1)) (Iv.of (-65536))))),[])
 else some (.v (.a (ivC (Iv.hull (cosI a0) (cosI a1)))),[]))
 else none)
 else none)
 else some (.v (.a [.n .i64 0,.n .i64 0]),[])).trans (by
 have e:kQ ⟨a0,a1⟩=bif !Iv.valid (Iv.mk a0 a1) then ⟨0,0⟩ else bif decide (65536≤a1 - a0) then ⟨-65536,65536⟩ else bif kK (Iv.mk a0 a1) 32768 then Iv.hull (bif kK (Iv.mk a0 a1) 0 then Iv.hull (Iv.hull (cosI a0) (cosI a1)) (Iv.of 65536) else Iv.hull (cosI a0) (cosI a1)) (Iv.of (-65536)) else (bif kK (Iv.mk a0 a1) 0 then Iv.hull (Iv.hull (cosI a0) (cosI a1)) (Iv.of 65536) else Iv.hull (cosI a0) (cosI a1)):=rfl
 rw [e];cases hv:Iv.valid (Iv.mk a0 a1) with
 | false=>rfl
 | true =>
  have hb:=uQ hv;have hw:Iv.width (Iv.mk a0 a1)=a1 - a0:=by unfold Iv.width; rw [hv]; rfl
  rw [hw];cases decide (65536≤a1 - a0) <;> cases kK (Iv.mk a0 a1) 0 <;> cases kK (Iv.mk a0 a1) 32768 <;> rfl))) rfl rfl w
set_option maxRecDepth 100000 in
theorem rSinOver (a0 a1:Int) (w:World):Calls Tryz.prog 170 [.agg #[.int .i64 a0,.int .i64 a1]].toArray w (Rets (iv (jH (⟨a0,a1⟩:Iv))) (w)) :=
 zZ (x:=.a (ivC (jH ⟨a0,a1⟩))) (zY (N:=60) (ps:=[.a [.n .i64 a0,.n .i64 a1]]) yJ zW (OrL.ok (l:=jHY) yQZ) ((by kernel_rfl:_=bif Iv.valid (Iv.mk a0 a1) then (bif (decide (65536≤(vJJ .i64 (a1 - a0)))) then some (.v (.a [.n .i64 (-65536),.n .i64 65536]),[])
 else bif Iv.valid (Iv.mk a0 a1) then (bif kK (Iv.mk a0 a1) 16384 then (bif Iv.valid (Iv.mk a0 a1) then (bif kK (Iv.mk a0 a1) 49152 then some (.v (.a (ivC (Iv.hull (Iv.hull (Iv.hull (sinI a0) (sinI a1)) (Iv.of 65536)) (Iv.of (-65536))))),[])
 else some (.v (.a (ivC (Iv.hull (Iv.hull (sinI a0) (sinI a1)) (Iv.of 65536)))),[]))
 else none)
 else bif Iv.valid (Iv.mk a0 a1) then (bif kK (Iv.mk a0 a1) 49152 then some (.v (.a (ivC (Iv.hull (Iv.hull (sinI a0) (sinI a1)) (Iv.of (-65536))))),[])
 else some (.v (.a (ivC (Iv.hull (sinI a0) (sinI a1)))),[]))
 else none)
 else none)
 else some (.v (.a [.n .i64 0,.n .i64 0]),[])).trans (by
 have e:jH ⟨a0,a1⟩=bif !Iv.valid (Iv.mk a0 a1) then ⟨0,0⟩ else bif decide (65536≤a1 - a0) then ⟨-65536,65536⟩ else bif kK (Iv.mk a0 a1) 49152 then Iv.hull (bif kK (Iv.mk a0 a1) 16384 then Iv.hull (Iv.hull (sinI a0) (sinI a1)) (Iv.of 65536) else Iv.hull (sinI a0) (sinI a1)) (Iv.of (-65536)) else (bif kK (Iv.mk a0 a1) 16384 then Iv.hull (Iv.hull (sinI a0) (sinI a1)) (Iv.of 65536) else Iv.hull (sinI a0) (sinI a1)):=rfl
 rw [e];cases hv:Iv.valid (Iv.mk a0 a1) with
 | false=>rfl
 | true =>
  have hb:=uQ hv;have hw:vJJ .i64 (a1 - a0)=a1 - a0:=qH (by omega);rw [hw];cases decide (65536≤a1 - a0) <;> cases kK (Iv.mk a0 a1) 16384 <;> cases kK (Iv.mk a0 a1) 49152 <;> rfl))) rfl rfl w
set_option maxRecDepth 100000 in
theorem rCosOver (a0 a1:Int) (w:World):Calls Tryz.prog 169 [.agg #[.int .i64 a0,.int .i64 a1]].toArray w (Rets (iv (kQ (⟨a0,a1⟩:Iv))) (w)) :=
 zZ (x:=.a (ivC (kQ ⟨a0,a1⟩))) (zY (N:=60) (ps:=[.a [.n .i64 a0,.n .i64 a1]]) yJ zW (OrL.ok (l:=jHY) yQZ) ((by kernel_rfl:_=bif Iv.valid (Iv.mk a0 a1) then (bif (decide (65536≤(vJJ .i64 (a1 - a0)))) then some (.v (.a [.n .i64 (-65536),.n .i64 65536]),[])
 else bif Iv.valid (Iv.mk a0 a1) then (bif kK (Iv.mk a0 a1) 0 then (bif Iv.valid (Iv.mk a0 a1) then (bif kK (Iv.mk a0 a1) 32768 then some (.v (.a (ivC (Iv.hull (Iv.hull (Iv.hull (cosI a0) (cosI a1)) (Iv.of 65536)) (Iv.of (-65536))))),[])
 else some (.v (.a (ivC (Iv.hull (Iv.hull (cosI a0) (cosI a1)) (Iv.of 65536)))),[]))
 else none)
 else bif Iv.valid (Iv.mk a0 a1) then (bif kK (Iv.mk a0 a1) 32768 then some (.v (.a (ivC (Iv.hull (Iv.hull (cosI a0) (cosI a1)) (Iv.of (-65536))))),[])
 else some (.v (.a (ivC (Iv.hull (cosI a0) (cosI a1)))),[]))
 else none)
 else none)
 else some (.v (.a [.n .i64 0,.n .i64 0]),[])).trans (by
 have e:kQ ⟨a0,a1⟩=bif !Iv.valid (Iv.mk a0 a1) then ⟨0,0⟩ else bif decide (65536≤a1 - a0) then ⟨-65536,65536⟩ else bif kK (Iv.mk a0 a1) 32768 then Iv.hull (bif kK (Iv.mk a0 a1) 0 then Iv.hull (Iv.hull (cosI a0) (cosI a1)) (Iv.of 65536) else Iv.hull (cosI a0) (cosI a1)) (Iv.of (-65536)) else (bif kK (Iv.mk a0 a1) 0 then Iv.hull (Iv.hull (cosI a0) (cosI a1)) (Iv.of 65536) else Iv.hull (cosI a0) (cosI a1)):=rfl
 rw [e];cases hv:Iv.valid (Iv.mk a0 a1) with
 | false=>rfl
 | true =>
  have hb:=uQ hv;have hw:vJJ .i64 (a1 - a0)=a1 - a0:=qH (by omega);rw [hw];cases decide (65536≤a1 - a0) <;> cases kK (Iv.mk a0 a1) 0 <;> cases kK (Iv.mk a0 a1) 32768 <;> rfl))) rfl rfl w
end Go.Proofs.YtgmbkkkbfbocnaaGreat

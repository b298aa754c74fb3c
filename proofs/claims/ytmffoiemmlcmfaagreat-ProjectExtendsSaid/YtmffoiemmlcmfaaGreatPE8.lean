/- Part 8 of the texts behind the last one: rules and contracts. No condition. -/
import Derived.Test.YtmffoiemmlcmfaaGreatPE7
open Option renaming bind_eq_some_iff → vQQ
open Option.some renaming injEq → vQZ
open Prod.mk renaming injEq → vQY
open Bool renaming and_eq_true → vQJ, and_self → vZJ, true_and → vZH
open List renaming take_succ_cons → vYK, drop_succ_cons → vYU, take_zero → vYX, drop_zero → vYW
open Go.IntKind renaming wrap → vJJ
namespace Go.Proofs.YtmffoiemmlcmfaaGreat
open Go.Sx Go.Rx Rt Go.RowKit
namespace Ta
end Ta
open Ta
theorem en169:kH Tryz.prog 169:=zQ Tryz.func169 (by kernel_rfl) (by kernel_rfl)
theorem en170:kH Tryz.prog 170:=zQ Tryz.func170 (by kernel_rfl) (by kernel_rfl)
theorem sl27:slcB Tryz.prog 27 2 1=true:=by kernel_rfl
theorem ze2:qYU Tryz.prog 2 (.int .i64 0):=by unfold qYU; kernel_rfl
theorem en186:kH Tryz.prog 186:=zQ Tryz.func186 (by kernel_rfl) (by kernel_rfl)
theorem en165:kH Tryz.prog 165:=zQ Tryz.func165 (by kernel_rfl) (by kernel_rfl)
theorem en188:kH Tryz.prog 188:=zQ Tryz.func188 (by kernel_rfl) (by kernel_rfl)
theorem fSD14 (a:Int) (w:World):Calls Tryz.prog 169 [.int .i64 a,.int .i64 14].toArray w (Rets (vI (a / 16384)) w):=yUY a 14 (by decide) w
theorem fSU14 (a:Int) (ha:In64 a) (w:World):Calls Tryz.prog 170 [.int .i64 a,.int .i64 14].toArray w (Rets (vI (zG a 16384)) w):=jUU a 14 (by decide) ha w
theorem aMod (a:Int) (w:World):Calls Tryz.prog 186 [.int .i64 a].toArray w (Rets (vI (a % 65536)) (w)):=by
 refine jY (n:=5) Tryz.func186 rfl rfl rfl ?_;refine qW ?_;refine qZ ?_;refine qJ (qV rfl) rfl rfl rfl ?_;refine qX ?_;refine qQ ?_;refine qW ?_;refine qZ ?_;refine qJ (qK rfl) rfl rfl rfl ?_;refine qJ (opV_and rfl rfl and_mask) rfl rfl rfl ?_;refine qJ (qV rfl) rfl rfl rfl ?_;refine qX ?_;refine qQ ?_;refine jU ?_;refine yU (rs:=[.tmp 2]) rfl (resC (uU rfl) (resN)) (congrArg (vI) (?_:_=a % 65536))
 first | rfl | (subst_vars; rfl) | (subst_vars; simp_all)
theorem rMod (a:Int) (w:World):Calls Tryz.prog 165 [.int .i64 a].toArray w (Rets (vI (a % 65536)) (w)):=by
 refine jY (n:=7) Tryz.func165 rfl rfl rfl ?_;refine qW ?_;have h0 : -65536 < a.tmod 65536:=by have:=Int.lt_tmod_of_pos a (show (0:Int) < 65536 by decide); omega
 have h1:a.tmod 65536 < 65536:=Int.tmod_lt_of_pos a (by decide);refine qZ ?_;refine qJ (qV rfl) rfl rfl rfl ?_;refine qX ?_;refine qQ ?_;refine qW ?_;refine qZ ?_;refine qJ (qK rfl) rfl rfl rfl ?_;refine qJ (yJY rfl rfl (by first | decide | omega) (by first | exact tmod_nonneg (by omega) (by omega) | rfl)) rfl rfl rfl ?_;refine qJ (uQ rfl rfl (by first | exact zK ⟨by omega,by omega⟩ | rfl)) rfl rfl rfl ?_;refine qJ (yJY rfl rfl (by first | decide | omega) (by first | exact tmod_nonneg (by omega) (by omega) | rfl)) rfl rfl rfl ?_;refine qJ (qV rfl) rfl rfl rfl ?_;refine qX ?_;refine qQ ?_;refine jU ?_;refine yU (rs:=[.tmp 2]) rfl (resC (uU rfl) (resN)) (congrArg (vI) (?_:_=a % 65536))
 have:=Int.tdiv_mul_add_tmod a 65536; omega
theorem aCeil (a:Int) (b:Int) (ha:0≤a∧a≤1073741824) (hb:0 < b∧b≤1073741824) (w:World):Calls Tryz.prog 193 [.int .i64 a,.int .i64 b].toArray w (Rets (vI (zG a b)) (w)):=by
 refine jY (n:=11) Tryz.func193 rfl rfl rfl ?_;refine qW ?_;refine qZ ?_;refine qJ (qV rfl) rfl rfl rfl ?_;refine qX ?_;refine qQ ?_;refine qW ?_;refine qZ ?_;refine qJ (qK rfl) rfl rfl rfl ?_;refine qJ (qK rfl) rfl rfl rfl ?_;refine qJ (uQ rfl rfl (by first | exact zK ⟨by omega,by omega⟩ | rfl)) rfl rfl rfl ?_;refine qJ (qGW rfl rfl (by first | exact zK ⟨by omega,by omega⟩ | rfl)) rfl rfl rfl ?_;refine qJ (qK rfl) rfl rfl rfl ?_;refine qJ (qVW rfl rfl (by first | decide | omega) (ceil_quo ha hb)) rfl rfl rfl ?_;refine qJ (qV rfl) rfl rfl rfl ?_;refine qX ?_;refine qQ ?_;refine jU ?_;refine yU (rs:=[.tmp 4]) rfl (resC (uU rfl) (resN)) (congrArg (vI) (?_:_=zG a b))
 first | rfl | (subst_vars; rfl) | (subst_vars; simp_all)
theorem aEnc (lo:Int) (hi:Int) (hh:In64 hi) (w:World):Calls Tryz.prog 194 [.int .i64 lo,.int .i64 hi].toArray w (Rets (iv (encI lo hi)) (w)):=by
 refine jY (n:=12) Tryz.func194 rfl rfl rfl ?_;refine qW ?_;refine qZ ?_;refine qKV 4 ze72 rfl rfl rfl ?_; intro b4;refine qX ?_;refine qQ ?_;refine qW ?_;refine qZ ?_;refine qJ (qK rfl) rfl rfl rfl ?_;refine qHG (F:=vI) (uG en169 rfl (fun w _=>fSD14 _ w)) rfl rfl rfl ?_; intro r6 hr6;refine qJ (zKW rfl rfl) rfl rfl rfl ?_;refine qJ (qK rfl) rfl rfl rfl ?_;refine qHG (F:=vI) (uG en170 rfl (fun w _=>fSU14 _ hh w)) rfl rfl rfl ?_; intro r9 hr9;refine qJ (zKX rfl rfl) rfl rfl rfl ?_;refine qJ (qZV la72 rfl rfl) rfl rfl rfl ?_;refine zV 4 ty72 rfl rfl rfl rfl rfl rfl rfl rfl ?_;refine qX ?_;refine qQ ?_;refine jU ?_;refine yU (rs:=[.cell 4 72]) rfl (resC (jH 4 rfl rfl ty72 rfl) (resN)) (congrArg (iv) (?_:⟨_,_⟩=encI lo hi))
 subst_vars; first | (simp_all [encI]; done) | (simp_all [encI] <;> omega) | grind [encI]
theorem rEnc (lo:Int) (hi:Int) (hl:In64 lo) (hh:In64 hi) (w:World):Calls Tryz.prog 176 [.int .i64 lo,.int .i64 hi].toArray w (Rets (iv (encI lo hi)) (w)):=by
 refine jY (n:=12) Tryz.func176 rfl rfl rfl ?_;refine qW ?_;refine qZ ?_;refine qKV 4 ze72 rfl rfl rfl ?_; intro b4;refine qX ?_;refine qQ ?_;refine qW ?_;refine qZ ?_;refine qJ (qK rfl) rfl rfl rfl ?_;refine qHG (F:=vI) (uG en108 rfl (fun w _=>kWY _ _ hl (by decide) w)) rfl rfl rfl ?_; intro r6 hr6;refine qJ (zKW rfl rfl) rfl rfl rfl ?_;refine qJ (qK rfl) rfl rfl rfl ?_;refine qHG (F:=vI) (uG en109 rfl (fun w _=>uYQ _ _ hh (by decide) w)) rfl rfl rfl ?_; intro r9 hr9;refine qJ (zKX rfl rfl) rfl rfl rfl ?_;refine qJ (qZV la72 rfl rfl) rfl rfl rfl ?_;refine zV 4 ty72 rfl rfl rfl rfl rfl rfl rfl rfl ?_;refine qX ?_;refine qQ ?_;refine jU ?_;refine yU (rs:=[.cell 4 72]) rfl (resC (jH 4 rfl rfl ty72 rfl) (resN)) (congrArg (iv) (?_:⟨_,_⟩=encI lo hi))
 subst_vars; first | (simp_all [encI]; done) | (simp_all [encI] <;> omega) | grind [encI]
theorem aMeets (a0 a1:Int) (c:Int) (hv:Iv.valid (⟨a0,a1⟩:Iv)=true) (hc:0≤c∧c < 65536) (w:World):Calls Tryz.prog 185 [.agg #[.int .i64 a0,.int .i64 a1],.int .i64 c].toArray w (Rets (vB (qQY (⟨a0,a1⟩:Iv) c)) (w)):=by
 refine jY (n:=15) Tryz.func185 rfl rfl rfl ?_;refine qW ?_;have hv2:=qZQ hv;refine qZ ?_;refine zYQ 2 rfl rfl rfl rfl ?_; intro b2;refine qJ (qV rfl) rfl rfl rfl ?_;refine qX ?_;refine qQ ?_;refine qW ?_;refine qWU 10 mo (by kernel_rfl) ?_;simp only [vYK,vYX,vYU,vYW];refine yV (jG 2 ty72 rfl rfl rfl) rfl rfl rfl ?_;refine yV (qU zXZ rfl) rfl rfl rfl ?_;refine yV (yX 2 ty2 rfl rfl rfl) rfl rfl rfl ?_;refine yV (qK rfl) rfl rfl rfl ?_;refine yV (qU zXZ rfl) rfl rfl rfl ?_;refine yV (yX 2 ty2 rfl rfl rfl) rfl rfl rfl ?_;refine yV (qGW rfl rfl (by first | exact zK ⟨by omega,by omega⟩ | rfl)) rfl rfl rfl ?_;refine yUV (F:=vI) (uG en186 rfl (fun w _=>aMod _  w)) rfl rfl rfl ?_; intro r12 hr12;have qr12:0≤r12∧r12 < 65536:=by omega
 refine yV (uQ rfl rfl (by first | exact zK ⟨by omega,by omega⟩ | rfl)) rfl rfl rfl ?_;refine yUV (F:=vB) (uG en188 rfl (fun w _=>iHas _ _ _  w)) rfl rfl rfl ?_; intro r14 hr14;refine zYZ ?_;refine qWG ?_;refine qJ (qV rfl) rfl rfl rfl ?_;refine qX ?_;refine qQ ?_;refine jU ?_;refine yU (rs:=[.tmp 4]) rfl (resC (uU rfl) (resN)) (congrArg (vB) (?_:_=qQY (⟨a0,a1⟩:Iv) c))
 subst_vars; simp only [Iv.has,qQY,hv,vZH]; rw [vJQ (by omega),vZH]
theorem rMeets (a0 a1:Int) (c:Int) (hv:Iv.valid (⟨a0,a1⟩:Iv)=true) (hc:0≤c∧c < 65536) (w:World):Calls Tryz.prog 164 [.agg #[.int .i64 a0,.int .i64 a1],.int .i64 c].toArray w (Rets (vB (qQY (⟨a0,a1⟩:Iv) c)) (w)):=by
 refine jY (n:=16) Tryz.func164 rfl rfl rfl ?_;refine qW ?_;have hv2:=qZQ hv;refine qZ ?_;refine zYQ 2 rfl rfl rfl rfl ?_; intro b2;refine qJ (qV rfl) rfl rfl rfl ?_;refine qX ?_;refine qQ ?_;refine qW ?_;refine qWU 11 mo (by kernel_rfl) ?_;simp only [vYK,vYX,vYU,vYW];refine yV (qU zXZ rfl) rfl rfl rfl ?_;refine yV (yX 2 ty2 rfl rfl rfl) rfl rfl rfl ?_;refine yV (qK rfl) rfl rfl rfl ?_;refine yV (qU zXZ rfl) rfl rfl rfl ?_;refine yV (yX 2 ty2 rfl rfl rfl) rfl rfl rfl ?_;refine yV (qGW rfl rfl (by first | exact zK ⟨by omega,by omega⟩ | rfl)) rfl rfl rfl ?_;refine yUV (F:=vI) (uG en165 rfl (fun w _=>rMod _  w)) rfl rfl rfl ?_; intro r11 hr11;have qr11:0≤r11∧r11 < 65536:=by omega
 refine yV (uQ rfl rfl (by first | exact zK ⟨by omega,by omega⟩ | rfl)) rfl rfl rfl ?_;refine yV (qU yZJ rfl) rfl rfl rfl ?_;refine yV (yX 2 ty2 rfl rfl rfl) rfl rfl rfl ?_;refine yV (opV_leq rfl rfl) rfl rfl rfl ?_;refine zYZ ?_;refine qWG ?_;refine qJ (qV rfl) rfl rfl rfl ?_;refine qX ?_;refine qQ ?_;refine jU ?_;refine yU (rs:=[.tmp 4]) rfl (resC (uU rfl) (resN)) (congrArg (vB) (?_:_=qQY (⟨a0,a1⟩:Iv) c))
 subst_vars; simp [qQY]
theorem kJZ (n:Int) (k:Int) (hk:0 < k∧k≤9223372036854775807) (w:World):Calls Tryz.prog 9 [.int .i64 n,.int .i64 k].toArray w (Rets (vI (n % k)) (w)):=by
 refine jY (n:=15) Tryz.func9 rfl rfl rfl ?_;refine qW ?_;have h0:=Int.lt_tmod_of_pos n hk.1;have h1:=Int.tmod_lt_of_pos n hk.1;refine qZ ?_;refine qJ (qV rfl) rfl rfl rfl ?_;refine qX ?_;refine qQ ?_;refine qW ?_;refine qZ ?_;refine qJ (qK rfl) rfl rfl rfl ?_;refine qJ (qK rfl) rfl rfl rfl ?_;refine qJ (yJY rfl rfl (by first | decide | omega) rfl) rfl rfl rfl ?_;refine qJ (qV rfl) rfl rfl rfl ?_;refine qX ?_;refine qQ ?_;refine qW ?_;refine qW ?_;refine qZ ?_;refine qJ (qK rfl) rfl rfl rfl ?_;refine qJ (qVV rfl rfl) rfl rfl rfl ?_;refine qX ?_;refine qQ ?_;refine kZ rfl (fun hc10 => ?_) (fun hc10 => ?_)
 ·
  have h2:=vJZ hc10;refine qZ ?_;refine qJ (qK rfl) rfl rfl rfl ?_;refine qJ (qK rfl) rfl rfl rfl ?_;refine qJ (uQ rfl rfl (by first | exact zK ⟨by omega,by omega⟩ | rfl)) rfl rfl rfl ?_;refine qJ (qV rfl) rfl rfl rfl ?_;refine qX ?_;refine qQ ?_;refine qW ?_;refine qZ ?_;refine qJ (qK rfl) rfl rfl rfl ?_;refine qJ (qV rfl) rfl rfl rfl ?_;refine qX ?_;refine qQ ?_;refine jU ?_;refine yU (rs:=[.tmp 4]) rfl (resC (uU rfl) (resN)) (congrArg (vI) (?_:_=n % k));exact round_neg hk.1 h2
 ·
  have h2:=vJY hc10;refine kJ ?_;refine qQ ?_;refine qW ?_;refine qZ ?_;refine qJ (qK rfl) rfl rfl rfl ?_;refine qJ (qV rfl) rfl rfl rfl ?_;refine qX ?_;refine qQ ?_;refine jU ?_;refine yU (rs:=[.tmp 4]) rfl (resC (uU rfl) (resN)) (congrArg (vI) (?_:_=n % k));exact round_pos hk.1 h2
namespace Ta
def iw (a:Int):Bool:=decide (-9223372036854775808≤a∧a≤9223372036854775807)
def pw (a:Int):Bool:=decide (0≤a∧a≤1073741824)
theorem iw_of {a:Int} (h:iw a=true):In64 a:=by unfold iw at h; simp only [decide_eq_true_eq] at h; unfold In64; omega
theorem pw_of {a:Int} (h:pw a=true):0≤a∧a≤1073741824:=vJZ h
theorem iww (y:Int):iw (vJJ .i64 y)=true:=by
 refine vJQ ?_;unfold IntKind.wrap;have hb:IntKind.i64.bits=64:=rfl;have hs:IntKind.i64.signed=true:=rfl;simp only [hb,hs,vZH,decide_eq_true_eq]
 split <;> omega
theorem uQX {x:Int} (h:0≤x∧x≤8192) (k:Nat):iw (dn x k)=true:=by have:=qGQ h k; exact vJQ (by omega)
theorem uQU {x:Int} (h:0≤x∧x≤8192) (k:Nat):iw (up x k)=true:=by have:=qUZ h k; exact vJQ (by omega)
theorem kHW {x:Int} (h:0≤x∧x≤8192) (k:Nat):pw (up x k)=true:=vJQ (qUZ h k)
noncomputable def zXH:List PV→Option (Bool × Ret):=fun ps=>match ps with
 | [.n .i64 a,.n .i64 k]=>some (decide (0≤k∧k≤62),.v (.n .i64 (a / 2 ^ Int.toNat k)))
 | _=>none
theorem ok_fShiftDown:zW Tryz.prog 169 zXH:=by
 intro ps r h;unfold zXH at h;split at h
 ·simp only [vQZ,vQY] at h;obtain ⟨hg,rfl⟩:=h
  try simp only [vQJ,decide_eq_true_eq] at hg
  exact zJ (zQ Tryz.func169 (by kernel_rfl) (by kernel_rfl)) rfl rfl (fun w=>yUY _ _ hg w)
 ·cases h
noncomputable def LTa1:OrL:=(169,zXH) :: ([]:OrL)
theorem LTa1_ok:AllP (fun x:Nat × (List PV→Option (Bool × Ret))=>zW Tryz.prog x.1 x.2) LTa1:=⟨ok_fShiftDown,trivial⟩
noncomputable def yKJ:List PV→Option (Bool × Ret):=fun ps=>match ps with
 | [.n .i64 a,.n .i64 k]=>some (decide (0≤k∧k≤62) && iw a,.v (.n .i64 (zG a (2 ^ Int.toNat k))))
 | _=>none
theorem ok_fShiftUp:zW Tryz.prog 170 yKJ:=by
 intro ps r h;unfold yKJ at h;split at h
 ·simp only [vQZ,vQY] at h;obtain ⟨hg,rfl⟩:=h
  try simp only [vQJ,decide_eq_true_eq] at hg
  exact zJ (zQ Tryz.func170 (by kernel_rfl) (by kernel_rfl)) rfl rfl (fun w=>jUU _ _ hg.1 (iw_of hg.2) w)
 ·cases h
noncomputable def LTa2:OrL:=(170,yKJ) :: LTa1
theorem LTa2_ok:AllP (fun x:Nat × (List PV→Option (Bool × Ret))=>zW Tryz.prog x.1 x.2) LTa2:=⟨ok_fShiftUp,LTa1_ok⟩
noncomputable def o_rFloor:List PV→Option (Bool × Ret):=fun ps=>match ps with
 | [.n .i64 a,.n .i64 b]=>some (decide (0 < b) && iw a,.v (.n .i64 (a / b)))
 | _=>none
theorem ok_rFloor:zW Tryz.prog 108 o_rFloor:=by
 intro ps r h;unfold o_rFloor at h;split at h
 ·simp only [vQZ,vQY] at h;obtain ⟨hg,rfl⟩:=h
  try simp only [vQJ,decide_eq_true_eq] at hg
  exact zJ (zQ Tryz.func108 (by kernel_rfl) (by kernel_rfl)) rfl rfl (fun w=>kWY _ _ (iw_of hg.2) hg.1 w)
 ·cases h
noncomputable def LTa3:OrL:=(108,o_rFloor) :: LTa2
theorem LTa3_ok:AllP (fun x:Nat × (List PV→Option (Bool × Ret))=>zW Tryz.prog x.1 x.2) LTa3:=⟨ok_rFloor,LTa2_ok⟩
noncomputable def kQZ:List PV→Option (Bool × Ret):=fun ps=>match ps with
 | [.n .i64 a,.n .i64 b]=>some (decide (0 < b) && iw a,.v (.n .i64 (zG a b)))
 | _=>none
theorem ok_rCeil:zW Tryz.prog 109 kQZ:=by
 intro ps r h;unfold kQZ at h;split at h
 ·simp only [vQZ,vQY] at h;obtain ⟨hg,rfl⟩:=h
  try simp only [vQJ,decide_eq_true_eq] at hg
  exact zJ (zQ Tryz.func109 (by kernel_rfl) (by kernel_rfl)) rfl rfl (fun w=>uYQ _ _ (iw_of hg.2) hg.1 w)
 ·cases h
noncomputable def LTa4:OrL:=(109,kQZ) :: LTa3
theorem LTa4_ok:AllP (fun x:Nat × (List PV→Option (Bool × Ret))=>zW Tryz.prog x.1 x.2) LTa4:=⟨ok_rCeil,LTa3_ok⟩
noncomputable def kQV:List PV→Option (Bool × Ret):=fun ps=>match ps with
 | [.n .i64 a,.n .i64 b]=>some (decide (0 < b∧b≤1073741824) && pw a,.v (.n .i64 (zG a b)))
 | _=>none
theorem ok_aCeil:zW Tryz.prog 193 kQV:=by
 intro ps r h;unfold kQV at h;split at h
 ·simp only [vQZ,vQY] at h;obtain ⟨hg,rfl⟩:=h
  try simp only [vQJ,decide_eq_true_eq] at hg
  exact zJ (zQ Tryz.func193 (by kernel_rfl) (by kernel_rfl)) rfl rfl (fun w=>aCeil _ _ (pw_of hg.2) hg.1 w)
 ·cases h
noncomputable def LTa5:OrL:=(193,kQV) :: LTa4
theorem LTa5_ok:AllP (fun x:Nat × (List PV→Option (Bool × Ret))=>zW Tryz.prog x.1 x.2) LTa5:=⟨ok_aCeil,LTa4_ok⟩
noncomputable def kVU:List PV→Option (Bool × Ret):=fun ps=>match ps with
 | [.n .i64 l,.n .i64 a]=>some (iw a,.v (.a (ivC (encI l a))))
 | _=>none
theorem ok_aEnc:zW Tryz.prog 194 kVU:=by
 intro ps r h;unfold kVU at h;split at h
 ·simp only [vQZ,vQY] at h;obtain ⟨hg,rfl⟩:=h
  try simp only [vQJ,decide_eq_true_eq] at hg
  exact zJ (zQ Tryz.func194 (by kernel_rfl) (by kernel_rfl)) rfl rfl (fun w=>aEnc _ _ (iw_of hg) w)
 ·cases h
noncomputable def LTa6:OrL:=(194,kVU) :: LTa5
theorem LTa6_ok:AllP (fun x:Nat × (List PV→Option (Bool × Ret))=>zW Tryz.prog x.1 x.2) LTa6:=⟨ok_aEnc,LTa5_ok⟩
noncomputable def kWV:List PV→Option (Bool × Ret):=fun ps=>match ps with
 | [.n .i64 l,.n .i64 a]=>some (iw a && iw l,.v (.a (ivC (encI l a))))
 | _=>none
theorem ok_rEnc:zW Tryz.prog 176 kWV:=by
 intro ps r h;unfold kWV at h;split at h
 ·simp only [vQZ,vQY] at h;obtain ⟨hg,rfl⟩:=h
  try simp only [vQJ,decide_eq_true_eq] at hg
  exact zJ (zQ Tryz.func176 (by kernel_rfl) (by kernel_rfl)) rfl rfl (fun w=>rEnc _ _ (iw_of hg.2) (iw_of hg.1) w)
 ·cases h
noncomputable def LTa7:OrL:=(176,kWV) :: LTa6
theorem kYX:AllP (fun x:Nat × (List PV→Option (Bool × Ret))=>zW Tryz.prog x.1 x.2) LTa7:=⟨ok_rEnc,LTa6_ok⟩
def wdn (x:Int):Nat→Int
 | 0=>1073741824
 | 1=>(vJJ .i64 (x * 6746518852)) / 65536
 | k + 2=>(vJJ .i64 (wdn x (k + 1) * ((vJJ .i64 (x * 6746518852)) / 65536))) / 1073741824
def wup (x:Int):Nat→Int
 | 0=>1073741824
 | 1=>zG (vJJ .i64 (x * 6746518853)) 65536
 | k + 2=>zG (vJJ .i64 (wup x (k + 1) * zG (vJJ .i64 (x * 6746518853)) 65536)) 1073741824
theorem wmul {a b:Int} (ha:0≤a∧a≤1073741824) (hb:0≤b∧b≤1073741824):vJJ .i64 (a * b)=a * b:=mul_in (by omega) (by omega)
theorem kXY {x:Int} (h:0≤x∧x≤8192):∀ k,wdn x k=dn x k
 | 0=>rfl
 | 1=>by unfold wdn dn; rw [zK (by omega)]
 | k + 2=>by rw [wdn,dn,kXY h (k + 1),zK (show -9223372036854775808≤x * 6746518852∧x * 6746518852≤9223372036854775807 by omega),wmul (qGQ h (k + 1)) (show 0≤x * 6746518852 / 65536∧x * 6746518852 / 65536≤1073741824 by omega)]
theorem kXZ {x:Int} (h:0≤x∧x≤8192):∀ k,wup x k=up x k
 | 0=>rfl
 | 1=>by unfold wup up; rw [zK (by omega)]
 | k + 2=>by rw [wup,up,kXZ h (k + 1),zK (show -9223372036854775808≤x * 6746518853∧x * 6746518853≤9223372036854775807 by omega),wmul (qUZ h (k + 1)) (jGU rfl h)]
set_option maxRecDepth 100000 in
theorem sp_aPow (x:Int) (h:0≤x∧x≤8192):zH Tryz.prog 191 [.n .i64 x] (.v (.t [.a [.n .i64 1073741824,.n .i64 (dn x 1),.n .i64 (dn x 2),.n .i64 (dn x 3),.n .i64 (dn x 4),.n .i64 (dn x 5),.n .i64 (dn x 6),.n .i64 (dn x 7),.n .i64 (dn x 8),.n .i64 (dn x 9),.n .i64 (dn x 10)],.a [.n .i64 1073741824,.n .i64 (up x 1),.n .i64 (up x 2),.n .i64 (up x 3),.n .i64 (up x 4),.n .i64 (up x 5),.n .i64 (up x 6),.n .i64 (up x 7),.n .i64 (up x 8),.n .i64 (up x 9),.n .i64 (up x 10)]])):=qG (N:=60) (ps:=[.n .i64 x]) yJ yQ (OrL.ok (l:=LTa7) kYX) ((by kernel_rfl:_=bif iw (vJJ .i64 (x * 6746518853)) then (bif iw (vJJ .i64 (wup x 1 * wup x 1)) then (bif iw (vJJ .i64 (wup x 2 * wup x 1)) then (bif iw (vJJ .i64 (wup x 3 * wup x 1)) then (bif iw (vJJ .i64 (wup x 4 * wup x 1)) then (bif iw (vJJ .i64 (wup x 5 * wup x 1)) then (bif iw (vJJ .i64 (wup x 6 * wup x 1)) then (bif iw (vJJ .i64 (wup x 7 * wup x 1)) then (bif iw (vJJ .i64 (wup x 8 * wup x 1)) then (bif iw (vJJ .i64 (wup x 9 * wup x 1)) then some (.v (.t [.a [.n .i64 1073741824,.n .i64 (wdn x 1),.n .i64 (wdn x 2),.n .i64 (wdn x 3),.n .i64 (wdn x 4),.n .i64 (wdn x 5),.n .i64 (wdn x 6),.n .i64 (wdn x 7),.n .i64 (wdn x 8),.n .i64 (wdn x 9),.n .i64 (wdn x 10)],.a [.n .i64 1073741824,.n .i64 (wup x 1),.n .i64 (wup x 2),.n .i64 (wup x 3),.n .i64 (wup x 4),.n .i64 (wup x 5),.n .i64 (wup x 6),.n .i64 (wup x 7),.n .i64 (wup x 8),.n .i64 (wup x 9),.n .i64 (wup x 10)]]),[])
 else none)
 else none)
 else none)
 else none)
 else none)
 else none)
 else none)
 else none)
 else none)
 else none).trans (by
 simp only [iww,vYV,kXY h,kXZ h]))
set_option maxRecDepth 100000 in
theorem sp_rPow (x:Int) (h:0≤x∧x≤8192):zH Tryz.prog 175 [.n .i64 x] (.v (.t [.a [.n .i64 0,.n .i64 (dn x 1),.n .i64 (dn x 2),.n .i64 (dn x 3),.n .i64 (dn x 4),.n .i64 (dn x 5),.n .i64 (dn x 6),.n .i64 (dn x 7),.n .i64 (dn x 8),.n .i64 (dn x 9),.n .i64 (dn x 10)],.a [.n .i64 0,.n .i64 (up x 1),.n .i64 (up x 2),.n .i64 (up x 3),.n .i64 (up x 4),.n .i64 (up x 5),.n .i64 (up x 6),.n .i64 (up x 7),.n .i64 (up x 8),.n .i64 (up x 9),.n .i64 (up x 10)]])):=qG (N:=60) (ps:=[.n .i64 x]) yJ yQ (OrL.ok (l:=LTa7) kYX) ((by kernel_rfl:_=bif iw (vJJ .i64 (x * 6746518852)) then (bif iw (vJJ .i64 (x * 6746518853)) then (bif iw (vJJ .i64 (wdn x 1 * wdn x 1)) then (bif iw (vJJ .i64 (wup x 1 * wup x 1)) then (bif iw (vJJ .i64 (wdn x 2 * wdn x 1)) then (bif iw (vJJ .i64 (wup x 2 * wup x 1)) then (bif iw (vJJ .i64 (wdn x 3 * wdn x 1)) then (bif iw (vJJ .i64 (wup x 3 * wup x 1)) then (bif iw (vJJ .i64 (wdn x 4 * wdn x 1)) then (bif iw (vJJ .i64 (wup x 4 * wup x 1)) then (bif iw (vJJ .i64 (wdn x 5 * wdn x 1)) then (bif iw (vJJ .i64 (wup x 5 * wup x 1)) then (bif iw (vJJ .i64 (wdn x 6 * wdn x 1)) then (bif iw (vJJ .i64 (wup x 6 * wup x 1)) then (bif iw (vJJ .i64 (wdn x 7 * wdn x 1)) then (bif iw (vJJ .i64 (wup x 7 * wup x 1)) then (bif iw (vJJ .i64 (wdn x 8 * wdn x 1)) then (bif iw (vJJ .i64 (wup x 8 * wup x 1)) then (bif iw (vJJ .i64 (wdn x 9 * wdn x 1)) then (bif iw (vJJ .i64 (wup x 9 * wup x 1)) then some (.v (.t [.a [.n .i64 0,.n .i64 (wdn x 1),.n .i64 (wdn x 2),.n .i64 (wdn x 3),.n .i64 (wdn x 4),.n .i64 (wdn x 5),.n .i64 (wdn x 6),.n .i64 (wdn x 7),.n .i64 (wdn x 8),.n .i64 (wdn x 9),.n .i64 (wdn x 10)],.a [.n .i64 0,.n .i64 (wup x 1),.n .i64 (wup x 2),.n .i64 (wup x 3),.n .i64 (wup x 4),.n .i64 (wup x 5),.n .i64 (wup x 6),.n .i64 (wup x 7),.n .i64 (wup x 8),.n .i64 (wup x 9),.n .i64 (wup x 10)]]),[])
 else none)
 else none)
 else none)
 else none)
 else none)
 else none)
 else none)
 else none)
 else none)
 else none)
 else none)
 else none)
 else none)
 else none)
 else none)
 else none)
 else none)
 else none)
 else none)
 else none).trans (by
 simp only [iww,vYV,kXY h,kXZ h]))
noncomputable def kVJ:List PV→Option (Bool × Ret):=fun ps=>match ps with
 | [.n .i64 x]=>some (decide (0≤x∧x≤8192),.v (.t [.a [.n .i64 1073741824,.n .i64 (dn x 1),.n .i64 (dn x 2),.n .i64 (dn x 3),.n .i64 (dn x 4),.n .i64 (dn x 5),.n .i64 (dn x 6),.n .i64 (dn x 7),.n .i64 (dn x 8),.n .i64 (dn x 9),.n .i64 (dn x 10)],.a [.n .i64 1073741824,.n .i64 (up x 1),.n .i64 (up x 2),.n .i64 (up x 3),.n .i64 (up x 4),.n .i64 (up x 5),.n .i64 (up x 6),.n .i64 (up x 7),.n .i64 (up x 8),.n .i64 (up x 9),.n .i64 (up x 10)]]))
 | _=>none
theorem ok_aPow:zW Tryz.prog 191 kVJ:=by
 intro ps r h;unfold kVJ at h;split at h
 ·simp only [vQZ,vQY] at h;obtain ⟨hg,rfl⟩:=h;exact sp_aPow _ (vJZ hg)
 ·cases h
noncomputable def LTa8:OrL:=(191,kVJ) :: LTa7
theorem LTa8_ok:AllP (fun x:Nat × (List PV→Option (Bool × Ret))=>zW Tryz.prog x.1 x.2) LTa8:=⟨ok_aPow,kYX⟩
noncomputable def kWU:List PV→Option (Bool × Ret):=fun ps=>match ps with
 | [.n .i64 x]=>some (decide (0≤x∧x≤8192),.v (.t [.a [.n .i64 0,.n .i64 (dn x 1),.n .i64 (dn x 2),.n .i64 (dn x 3),.n .i64 (dn x 4),.n .i64 (dn x 5),.n .i64 (dn x 6),.n .i64 (dn x 7),.n .i64 (dn x 8),.n .i64 (dn x 9),.n .i64 (dn x 10)],.a [.n .i64 0,.n .i64 (up x 1),.n .i64 (up x 2),.n .i64 (up x 3),.n .i64 (up x 4),.n .i64 (up x 5),.n .i64 (up x 6),.n .i64 (up x 7),.n .i64 (up x 8),.n .i64 (up x 9),.n .i64 (up x 10)]]))
 | _=>none
theorem ok_rPow:zW Tryz.prog 175 kWU:=by
 intro ps r h;unfold kWU at h;split at h
 ·simp only [vQZ,vQY] at h;obtain ⟨hg,rfl⟩:=h;exact sp_rPow _ (vJZ hg)
 ·cases h
noncomputable def LTa9:OrL:=(175,kWU) :: LTa8
theorem jZZ:AllP (fun x:Nat × (List PV→Option (Bool × Ret))=>zW Tryz.prog x.1 x.2) LTa9:=⟨ok_rPow,LTa8_ok⟩
theorem tdnn {a b:Int} (h:0≤a):a.tdiv b=a / b:=Int.tdiv_eq_ediv_of_nonneg h
def kKX (x:Int):Int:=(vJJ .i64 ((vJJ .i64 ((vJJ .i64 ((vJJ .i64 (0 + (vJJ .i64 (1 * (dn x 1))))) + (vJJ .i64 ((-1) * zG (up x 3) 6)))) + (vJJ .i64 (1 * (vJJ .i64 ((dn x 5).tdiv 120)))))) + (vJJ .i64 ((-1) * zG (up x 7) 5040))))
theorem aSineL_eq {x:Int} (h:0≤x∧x≤8192):kKX x=sinL x:=by
 have d1:=qGQ h 1;have d5:=qGQ h 5;have u3:=qUZ h 3;have u7:=qUZ h 7;have c3:=jJ (r:=zG (up x 3) 6) rfl u3 (by decide);have c7:=jJ (r:=zG (up x 7) 5040) rfl u7 (by decide);unfold kKX sinL;simp only [tdnn d5.1];have w0:vJJ .i64 (1 * (dn x 1))=(1 * (dn x 1)):=zK (by omega);have w1:vJJ .i64 (0 + (1 * (dn x 1)))=(0 + (1 * (dn x 1))):=zK (by omega);have w2:vJJ .i64 ((-1) * zG (up x 3) 6)=((-1) * zG (up x 3) 6):=zK (by omega);have w3:vJJ .i64 ((0 + (1 * (dn x 1))) + ((-1) * zG (up x 3) 6))=((0 + (1 * (dn x 1))) + ((-1) * zG (up x 3) 6)):=zK (by omega);have w4:vJJ .i64 (((dn x 5) / 120))=(((dn x 5) / 120)):=zK (by omega);have w5:vJJ .i64 (1 * (((dn x 5) / 120)))=(1 * (((dn x 5) / 120))):=zK (by omega);have w6:vJJ .i64 (((0 + (1 * (dn x 1))) + ((-1) * zG (up x 3) 6)) + (1 * (((dn x 5) / 120))))=(((0 + (1 * (dn x 1))) + ((-1) * zG (up x 3) 6)) + (1 * (((dn x 5) / 120)))):=zK (by omega);have w7:vJJ .i64 ((-1) * zG (up x 7) 5040)=((-1) * zG (up x 7) 5040):=zK (by omega);have w8:vJJ .i64 ((((0 + (1 * (dn x 1))) + ((-1) * zG (up x 3) 6)) + (1 * (((dn x 5) / 120)))) + ((-1) * zG (up x 7) 5040))=((((0 + (1 * (dn x 1))) + ((-1) * zG (up x 3) 6)) + (1 * (((dn x 5) / 120)))) + ((-1) * zG (up x 7) 5040)):=zK (by omega);simp only [w0,w1,w2,w3,w4,w5,w6,w7,w8]
 try omega
def jVG (x:Int):Int:=(vJJ .i64 ((vJJ .i64 ((vJJ .i64 ((vJJ .i64 ((vJJ .i64 (0 + (vJJ .i64 (1 * (up x 1))))) + (vJJ .i64 ((-1) * (vJJ .i64 ((dn x 3).tdiv 6)))))) + (vJJ .i64 (1 * zG (up x 5) 120)))) + (vJJ .i64 ((-1) * (vJJ .i64 ((dn x 7).tdiv 5040)))))) + (vJJ .i64 (1 * zG (up x 9) 362880))))
theorem aSineU_eq {x:Int} (h:0≤x∧x≤8192):jVG x=sinU x:=by
 have d3:=qGQ h 3;have d7:=qGQ h 7;have u1:=qUZ h 1;have u5:=qUZ h 5;have u9:=qUZ h 9;have c5:=jJ (r:=zG (up x 5) 120) rfl u5 (by decide);have c9:=jJ (r:=zG (up x 9) 362880) rfl u9 (by decide);unfold jVG sinU;simp only [tdnn d3.1,tdnn d7.1];have w0:vJJ .i64 (1 * (up x 1))=(1 * (up x 1)):=zK (by omega);have w1:vJJ .i64 (0 + (1 * (up x 1)))=(0 + (1 * (up x 1))):=zK (by omega);have w2:vJJ .i64 (((dn x 3) / 6))=(((dn x 3) / 6)):=zK (by omega);have w3:vJJ .i64 ((-1) * (((dn x 3) / 6)))=((-1) * (((dn x 3) / 6))):=zK (by omega);have w4:vJJ .i64 ((0 + (1 * (up x 1))) + ((-1) * (((dn x 3) / 6))))=((0 + (1 * (up x 1))) + ((-1) * (((dn x 3) / 6)))):=zK (by omega);have w5:vJJ .i64 (1 * zG (up x 5) 120)=(1 * zG (up x 5) 120):=zK (by omega);have w6:vJJ .i64 (((0 + (1 * (up x 1))) + ((-1) * (((dn x 3) / 6)))) + (1 * zG (up x 5) 120))=(((0 + (1 * (up x 1))) + ((-1) * (((dn x 3) / 6)))) + (1 * zG (up x 5) 120)):=zK (by omega);have w7:vJJ .i64 (((dn x 7) / 5040))=(((dn x 7) / 5040)):=zK (by omega);have w8:vJJ .i64 ((-1) * (((dn x 7) / 5040)))=((-1) * (((dn x 7) / 5040))):=zK (by omega);have w9:vJJ .i64 ((((0 + (1 * (up x 1))) + ((-1) * (((dn x 3) / 6)))) + (1 * zG (up x 5) 120)) + ((-1) * (((dn x 7) / 5040))))=((((0 + (1 * (up x 1))) + ((-1) * (((dn x 3) / 6)))) + (1 * zG (up x 5) 120)) + ((-1) * (((dn x 7) / 5040)))):=zK (by omega);have w10:vJJ .i64 (1 * zG (up x 9) 362880)=(1 * zG (up x 9) 362880):=zK (by omega);have w11:vJJ .i64 (((((0 + (1 * (up x 1))) + ((-1) * (((dn x 3) / 6)))) + (1 * zG (up x 5) 120)) + ((-1) * (((dn x 7) / 5040)))) + (1 * zG (up x 9) 362880))=(((((0 + (1 * (up x 1))) + ((-1) * (((dn x 3) / 6)))) + (1 * zG (up x 5) 120)) + ((-1) * (((dn x 7) / 5040)))) + (1 * zG (up x 9) 362880)):=zK (by omega);simp only [w0,w1,w2,w3,w4,w5,w6,w7,w8,w9,w10,w11]
 try omega
end Ta
set_option maxRecDepth 100000 in
theorem aSine (x:Int) (h:0≤x∧x≤8192) (w:World):Calls Tryz.prog 189 [.int .i64 x].toArray w (Rets (iv (jYG x)) (w)) :=
 zX (x:=.a (ivC (jYG x))) (qG (N:=60) (ps:=[.n .i64 x]) yJ yQ (OrL.ok (l:=LTa9) jZZ) ((by kernel_rfl:_=bif decide (0≤x∧x≤8192) then (bif pw (up x 3) then (bif pw (up x 7) then (bif pw (up x 5) then (bif pw (up x 9) then (bif iw (jVG x) then some (.v (.a (ivC (encI (kKX x) (jVG x)))),[])
 else none)
 else none)
 else none)
 else none)
 else none)
 else none).trans (by
 have iL:iw (kKX x)=true:=iww _;have iU:iw (jVG x)=true:=iww _;rw [aSineL_eq h] at iL ⊢;rw [aSineU_eq h] at iU ⊢;simp only [vJQ h,kHW h,uQU h,uQX h,iL,iU,vYV,vZJ]
 rfl))) rfl rfl w
namespace Ta
def yWJ (x:Int):Int:=(vJJ .i64 ((vJJ .i64 ((vJJ .i64 ((vJJ .i64 ((vJJ .i64 (1073741824 + (vJJ .i64 ((-1) * zG (up x 2) 2)))) + (vJJ .i64 (1 * (vJJ .i64 ((dn x 4).tdiv 24)))))) + (vJJ .i64 ((-1) * zG (up x 6) 720)))) + (vJJ .i64 (1 * (vJJ .i64 ((dn x 8).tdiv 40320)))))) + (vJJ .i64 ((-1) * zG (up x 10) 3628800))))
theorem aCosineL_eq {x:Int} (h:0≤x∧x≤8192):yWJ x=cosL x:=by
 have d4:=qGQ h 4;have d8:=qGQ h 8;have u2:=qUZ h 2;have u6:=qUZ h 6;have u10:=qUZ h 10;have c10:=jJ (r:=zG (up x 10) 3628800) rfl u10 (by decide);have c2:=jJ (r:=zG (up x 2) 2) rfl u2 (by decide);have c6:=jJ (r:=zG (up x 6) 720) rfl u6 (by decide);unfold yWJ cosL;simp only [tdnn d4.1,tdnn d8.1];have w0:vJJ .i64 ((-1) * zG (up x 2) 2)=((-1) * zG (up x 2) 2):=zK (by omega);have w1:vJJ .i64 (1073741824 + ((-1) * zG (up x 2) 2))=(1073741824 + ((-1) * zG (up x 2) 2)):=zK (by omega);have w2:vJJ .i64 (((dn x 4) / 24))=(((dn x 4) / 24)):=zK (by omega);have w3:vJJ .i64 (1 * (((dn x 4) / 24)))=(1 * (((dn x 4) / 24))):=zK (by omega);have w4:vJJ .i64 ((1073741824 + ((-1) * zG (up x 2) 2)) + (1 * (((dn x 4) / 24))))=((1073741824 + ((-1) * zG (up x 2) 2)) + (1 * (((dn x 4) / 24)))):=zK (by omega);have w5:vJJ .i64 ((-1) * zG (up x 6) 720)=((-1) * zG (up x 6) 720):=zK (by omega);have w6:vJJ .i64 (((1073741824 + ((-1) * zG (up x 2) 2)) + (1 * (((dn x 4) / 24)))) + ((-1) * zG (up x 6) 720))=(((1073741824 + ((-1) * zG (up x 2) 2)) + (1 * (((dn x 4) / 24)))) + ((-1) * zG (up x 6) 720)):=zK (by omega);have w7:vJJ .i64 (((dn x 8) / 40320))=(((dn x 8) / 40320)):=zK (by omega);have w8:vJJ .i64 (1 * (((dn x 8) / 40320)))=(1 * (((dn x 8) / 40320))):=zK (by omega);have w9:vJJ .i64 ((((1073741824 + ((-1) * zG (up x 2) 2)) + (1 * (((dn x 4) / 24)))) + ((-1) * zG (up x 6) 720)) + (1 * (((dn x 8) / 40320))))=((((1073741824 + ((-1) * zG (up x 2) 2)) + (1 * (((dn x 4) / 24)))) + ((-1) * zG (up x 6) 720)) + (1 * (((dn x 8) / 40320)))):=zK (by omega);have w10:vJJ .i64 ((-1) * zG (up x 10) 3628800)=((-1) * zG (up x 10) 3628800):=zK (by omega);have w11:vJJ .i64 (((((1073741824 + ((-1) * zG (up x 2) 2)) + (1 * (((dn x 4) / 24)))) + ((-1) * zG (up x 6) 720)) + (1 * (((dn x 8) / 40320)))) + ((-1) * zG (up x 10) 3628800))=(((((1073741824 + ((-1) * zG (up x 2) 2)) + (1 * (((dn x 4) / 24)))) + ((-1) * zG (up x 6) 720)) + (1 * (((dn x 8) / 40320)))) + ((-1) * zG (up x 10) 3628800)):=zK (by omega);simp only [w0,w1,w2,w3,w4,w5,w6,w7,w8,w9,w10,w11]
 try omega
def yYY (x:Int):Int:=(vJJ .i64 ((vJJ .i64 ((vJJ .i64 ((vJJ .i64 (1073741824 + (vJJ .i64 ((-1) * (vJJ .i64 ((dn x 2).tdiv 2)))))) + (vJJ .i64 (1 * zG (up x 4) 24)))) + (vJJ .i64 ((-1) * (vJJ .i64 ((dn x 6).tdiv 720)))))) + (vJJ .i64 (1 * zG (up x 8) 40320))))
theorem aCosineU_eq {x:Int} (h:0≤x∧x≤8192):yYY x=cosU x:=by
 have d2:=qGQ h 2;have d6:=qGQ h 6;have u4:=qUZ h 4;have u8:=qUZ h 8;have c4:=jJ (r:=zG (up x 4) 24) rfl u4 (by decide);have c8:=jJ (r:=zG (up x 8) 40320) rfl u8 (by decide);unfold yYY cosU;simp only [tdnn d2.1,tdnn d6.1];have w0:vJJ .i64 (((dn x 2) / 2))=(((dn x 2) / 2)):=zK (by omega);have w1:vJJ .i64 ((-1) * (((dn x 2) / 2)))=((-1) * (((dn x 2) / 2))):=zK (by omega);have w2:vJJ .i64 (1073741824 + ((-1) * (((dn x 2) / 2))))=(1073741824 + ((-1) * (((dn x 2) / 2)))):=zK (by omega);have w3:vJJ .i64 (1 * zG (up x 4) 24)=(1 * zG (up x 4) 24):=zK (by omega);have w4:vJJ .i64 ((1073741824 + ((-1) * (((dn x 2) / 2)))) + (1 * zG (up x 4) 24))=((1073741824 + ((-1) * (((dn x 2) / 2)))) + (1 * zG (up x 4) 24)):=zK (by omega);have w5:vJJ .i64 (((dn x 6) / 720))=(((dn x 6) / 720)):=zK (by omega);have w6:vJJ .i64 ((-1) * (((dn x 6) / 720)))=((-1) * (((dn x 6) / 720))):=zK (by omega);have w7:vJJ .i64 (((1073741824 + ((-1) * (((dn x 2) / 2)))) + (1 * zG (up x 4) 24)) + ((-1) * (((dn x 6) / 720))))=(((1073741824 + ((-1) * (((dn x 2) / 2)))) + (1 * zG (up x 4) 24)) + ((-1) * (((dn x 6) / 720)))):=zK (by omega);have w8:vJJ .i64 (1 * zG (up x 8) 40320)=(1 * zG (up x 8) 40320):=zK (by omega);have w9:vJJ .i64 ((((1073741824 + ((-1) * (((dn x 2) / 2)))) + (1 * zG (up x 4) 24)) + ((-1) * (((dn x 6) / 720)))) + (1 * zG (up x 8) 40320))=((((1073741824 + ((-1) * (((dn x 2) / 2)))) + (1 * zG (up x 4) 24)) + ((-1) * (((dn x 6) / 720)))) + (1 * zG (up x 8) 40320)):=zK (by omega);simp only [w0,w1,w2,w3,w4,w5,w6,w7,w8,w9]
 try omega
end Ta
set_option maxRecDepth 100000 in
theorem aCosine (x:Int) (h:0≤x∧x≤8192) (w:World):Calls Tryz.prog 190 [.int .i64 x].toArray w (Rets (iv (zUX x)) (w)) :=
 zX (x:=.a (ivC (zUX x))) (qG (N:=60) (ps:=[.n .i64 x]) yJ yQ (OrL.ok (l:=LTa9) jZZ) ((by kernel_rfl:_=bif decide (0≤x∧x≤8192) then (bif pw (up x 2) then (bif pw (up x 6) then (bif pw (up x 10) then (bif pw (up x 4) then (bif pw (up x 8) then (bif iw (yYY x) then some (.v (.a (ivC (encI (yWJ x) (yYY x)))),[])
 else none)
 else none)
 else none)
 else none)
 else none)
 else none)
 else none).trans (by
 have iL:iw (yWJ x)=true:=iww _;have iU:iw (yYY x)=true:=iww _;rw [aCosineL_eq h] at iL ⊢;rw [aCosineU_eq h] at iU ⊢;simp only [vJQ h,kHW h,uQU h,uQX h,iL,iU,vYV,vZJ]
 rfl))) rfl rfl w
namespace Ta
def jWK (x:Int):Int:=(vJJ .i64 ((vJJ .i64 ((vJJ .i64 ((dn x 1) - zG (up x 3) 6)) + (dn x 5) / 120)) - zG (up x 7) 5040))
theorem rSineL_eq {x:Int} (h:0≤x∧x≤8192):jWK x=sinL x:=by
 have d1:=qGQ h 1;have d5:=qGQ h 5;have u3:=qUZ h 3;have u7:=qUZ h 7;have c3:=jJ (r:=zG (up x 3) 6) rfl u3 (by decide);have c7:=jJ (r:=zG (up x 7) 5040) rfl u7 (by decide);unfold jWK sinL;have w0:vJJ .i64 ((dn x 1) - zG (up x 3) 6)=((dn x 1) - zG (up x 3) 6):=zK (by omega);have w1:vJJ .i64 (((dn x 1) - zG (up x 3) 6) + (dn x 5) / 120)=(((dn x 1) - zG (up x 3) 6) + (dn x 5) / 120):=zK (by omega);have w2:vJJ .i64 ((((dn x 1) - zG (up x 3) 6) + (dn x 5) / 120) - zG (up x 7) 5040)=((((dn x 1) - zG (up x 3) 6) + (dn x 5) / 120) - zG (up x 7) 5040):=zK (by omega);simp only [w0,w1,w2]
 try omega
def jWJ (x:Int):Int:=(vJJ .i64 ((vJJ .i64 ((vJJ .i64 ((vJJ .i64 ((up x 1) - (dn x 3) / 6)) + zG (up x 5) 120)) - (dn x 7) / 5040)) + zG (up x 9) 362880))
theorem rSineU_eq {x:Int} (h:0≤x∧x≤8192):jWJ x=sinU x:=by
 have d3:=qGQ h 3;have d7:=qGQ h 7;have u1:=qUZ h 1;have u5:=qUZ h 5;have u9:=qUZ h 9;have c5:=jJ (r:=zG (up x 5) 120) rfl u5 (by decide);have c9:=jJ (r:=zG (up x 9) 362880) rfl u9 (by decide);unfold jWJ sinU;have w0:vJJ .i64 ((up x 1) - (dn x 3) / 6)=((up x 1) - (dn x 3) / 6):=zK (by omega);have w1:vJJ .i64 (((up x 1) - (dn x 3) / 6) + zG (up x 5) 120)=(((up x 1) - (dn x 3) / 6) + zG (up x 5) 120):=zK (by omega);have w2:vJJ .i64 ((((up x 1) - (dn x 3) / 6) + zG (up x 5) 120) - (dn x 7) / 5040)=((((up x 1) - (dn x 3) / 6) + zG (up x 5) 120) - (dn x 7) / 5040):=zK (by omega);have w3:vJJ .i64 (((((up x 1) - (dn x 3) / 6) + zG (up x 5) 120) - (dn x 7) / 5040) + zG (up x 9) 362880)=(((((up x 1) - (dn x 3) / 6) + zG (up x 5) 120) - (dn x 7) / 5040) + zG (up x 9) 362880):=zK (by omega);simp only [w0,w1,w2,w3]
 try omega
end Ta
set_option maxRecDepth 100000 in
theorem rSine (x:Int) (h:0≤x∧x≤8192) (w:World):Calls Tryz.prog 171 [.int .i64 x].toArray w (Rets (iv (jYG x)) (w)) :=
 zX (x:=.a (ivC (jYG x))) (qG (N:=60) (ps:=[.n .i64 x]) yJ yQ (OrL.ok (l:=LTa9) jZZ) ((by kernel_rfl:_=bif decide (0≤x∧x≤8192) then (bif iw (up x 3) then (bif iw (dn x 5) then (bif iw (up x 7) then (bif iw (dn x 3) then (bif iw (up x 5) then (bif iw (dn x 7) then (bif iw (up x 9) then (bif (iw (jWJ x) && iw (jWK x)) then some (.v (.a (ivC (encI (jWK x) (jWJ x)))),[])
 else none)
 else none)
 else none)
 else none)
 else none)
 else none)
 else none)
 else none)
 else none).trans (by
 have iL:iw (jWK x)=true:=iww _;have iU:iw (jWJ x)=true:=iww _;rw [rSineL_eq h] at iL ⊢;rw [rSineU_eq h] at iU ⊢;simp only [vJQ h,kHW h,uQU h,uQX h,iL,iU,vYV,vZJ]
 rfl))) rfl rfl w
namespace Ta
def yQK (x:Int):Int:=(vJJ .i64 ((vJJ .i64 ((vJJ .i64 ((vJJ .i64 ((vJJ .i64 (1073741824 - zG (up x 2) 2)) + (dn x 4) / 24)) - zG (up x 6) 720)) + (dn x 8) / 40320)) - zG (up x 10) 3628800))
theorem rCosineL_eq {x:Int} (h:0≤x∧x≤8192):yQK x=cosL x:=by
 have d4:=qGQ h 4;have d8:=qGQ h 8;have u2:=qUZ h 2;have u6:=qUZ h 6;have u10:=qUZ h 10;have c10:=jJ (r:=zG (up x 10) 3628800) rfl u10 (by decide);have c2:=jJ (r:=zG (up x 2) 2) rfl u2 (by decide);have c6:=jJ (r:=zG (up x 6) 720) rfl u6 (by decide);unfold yQK cosL;have w0:vJJ .i64 (1073741824 - zG (up x 2) 2)=(1073741824 - zG (up x 2) 2):=zK (by omega);have w1:vJJ .i64 ((1073741824 - zG (up x 2) 2) + (dn x 4) / 24)=((1073741824 - zG (up x 2) 2) + (dn x 4) / 24):=zK (by omega);have w2:vJJ .i64 (((1073741824 - zG (up x 2) 2) + (dn x 4) / 24) - zG (up x 6) 720)=(((1073741824 - zG (up x 2) 2) + (dn x 4) / 24) - zG (up x 6) 720):=zK (by omega);have w3:vJJ .i64 ((((1073741824 - zG (up x 2) 2) + (dn x 4) / 24) - zG (up x 6) 720) + (dn x 8) / 40320)=((((1073741824 - zG (up x 2) 2) + (dn x 4) / 24) - zG (up x 6) 720) + (dn x 8) / 40320):=zK (by omega);have w4:vJJ .i64 (((((1073741824 - zG (up x 2) 2) + (dn x 4) / 24) - zG (up x 6) 720) + (dn x 8) / 40320) - zG (up x 10) 3628800)=(((((1073741824 - zG (up x 2) 2) + (dn x 4) / 24) - zG (up x 6) 720) + (dn x 8) / 40320) - zG (up x 10) 3628800):=zK (by omega);simp only [w0,w1,w2,w3,w4]
 try omega
def yQJ (x:Int):Int:=(vJJ .i64 ((vJJ .i64 ((vJJ .i64 ((vJJ .i64 (1073741824 - (dn x 2) / 2)) + zG (up x 4) 24)) - (dn x 6) / 720)) + zG (up x 8) 40320))
theorem rCosineU_eq {x:Int} (h:0≤x∧x≤8192):yQJ x=cosU x:=by
 have d2:=qGQ h 2;have d6:=qGQ h 6;have u4:=qUZ h 4;have u8:=qUZ h 8;have c4:=jJ (r:=zG (up x 4) 24) rfl u4 (by decide);have c8:=jJ (r:=zG (up x 8) 40320) rfl u8 (by decide);unfold yQJ cosU;have w0:vJJ .i64 (1073741824 - (dn x 2) / 2)=(1073741824 - (dn x 2) / 2):=zK (by omega);have w1:vJJ .i64 ((1073741824 - (dn x 2) / 2) + zG (up x 4) 24)=((1073741824 - (dn x 2) / 2) + zG (up x 4) 24):=zK (by omega);have w2:vJJ .i64 (((1073741824 - (dn x 2) / 2) + zG (up x 4) 24) - (dn x 6) / 720)=(((1073741824 - (dn x 2) / 2) + zG (up x 4) 24) - (dn x 6) / 720):=zK (by omega);have w3:vJJ .i64 ((((1073741824 - (dn x 2) / 2) + zG (up x 4) 24) - (dn x 6) / 720) + zG (up x 8) 40320)=((((1073741824 - (dn x 2) / 2) + zG (up x 4) 24) - (dn x 6) / 720) + zG (up x 8) 40320):=zK (by omega);simp only [w0,w1,w2,w3]
 try omega
end Ta
set_option maxRecDepth 100000 in
theorem rCosine (x:Int) (h:0≤x∧x≤8192) (w:World):Calls Tryz.prog 172 [.int .i64 x].toArray w (Rets (iv (zUX x)) (w)) :=
 zX (x:=.a (ivC (zUX x))) (qG (N:=60) (ps:=[.n .i64 x]) yJ yQ (OrL.ok (l:=LTa9) jZZ) ((by kernel_rfl:_=bif decide (0≤x∧x≤8192) then (bif iw (up x 2) then (bif iw (dn x 4) then (bif iw (up x 6) then (bif iw (dn x 8) then (bif iw (up x 10) then (bif iw (dn x 2) then (bif iw (up x 4) then (bif iw (dn x 6) then (bif iw (up x 8) then (bif (iw (yQJ x) && iw (yQK x)) then some (.v (.a (ivC (encI (yQK x) (yQJ x)))),[])
 else none)
 else none)
 else none)
 else none)
 else none)
 else none)
 else none)
 else none)
 else none)
 else none)
 else none).trans (by
 have iL:iw (yQK x)=true:=iww _;have iU:iw (yQJ x)=true:=iww _;rw [rCosineL_eq h] at iL ⊢;rw [rCosineU_eq h] at iU ⊢;simp only [vJQ h,kHW h,uQU h,uQX h,iL,iU,vYV,vZJ]
 rfl))) rfl rfl w
namespace Ta
noncomputable def kQW:List PV→Option (Bool × Ret):=fun ps=>match ps with
 | [.n .i64 x]=>some (decide (0≤x∧x≤8192),.v (.a (ivC (jYG x))))
 | _=>none
theorem ok_aSine:zW Tryz.prog 189 kQW:=by
 intro ps r h;unfold kQW at h;split at h
 ·simp only [vQZ,vQY] at h;obtain ⟨hg,rfl⟩:=h
  try simp only [vQJ,decide_eq_true_eq] at hg
  exact zJ (zQ Tryz.func189 (by kernel_rfl) (by kernel_rfl)) rfl rfl (fun w=>aSine _ hg w)
 ·cases h
noncomputable def LTa10:OrL:=(189,kQW) :: LTa9
theorem LTa10_ok:AllP (fun x:Nat × (List PV→Option (Bool × Ret))=>zW Tryz.prog x.1 x.2) LTa10:=⟨ok_aSine,jZZ⟩
noncomputable def yHY:List PV→Option (Bool × Ret):=fun ps=>match ps with
 | [.n .i64 x]=>some (decide (0≤x∧x≤8192),.v (.a (ivC (zUX x))))
 | _=>none
theorem ok_aCosine:zW Tryz.prog 190 yHY:=by
 intro ps r h;unfold yHY at h;split at h
 ·simp only [vQZ,vQY] at h;obtain ⟨hg,rfl⟩:=h
  try simp only [vQJ,decide_eq_true_eq] at hg
  exact zJ (zQ Tryz.func190 (by kernel_rfl) (by kernel_rfl)) rfl rfl (fun w=>aCosine _ hg w)
 ·cases h
noncomputable def LTa11:OrL:=(190,yHY) :: LTa10
theorem LTa11_ok:AllP (fun x:Nat × (List PV→Option (Bool × Ret))=>zW Tryz.prog x.1 x.2) LTa11:=⟨ok_aCosine,LTa10_ok⟩
noncomputable def jHH:List PV→Option (Bool × Ret):=fun ps=>match ps with
 | [.n .i64 x]=>some (decide (0≤x∧x≤8192),.v (.a (ivC (jYG x))))
 | _=>none
theorem ok_rSine:zW Tryz.prog 171 jHH:=by
 intro ps r h;unfold jHH at h;split at h
 ·simp only [vQZ,vQY] at h;obtain ⟨hg,rfl⟩:=h
  try simp only [vQJ,decide_eq_true_eq] at hg
  exact zJ (zQ Tryz.func171 (by kernel_rfl) (by kernel_rfl)) rfl rfl (fun w=>rSine _ hg w)
 ·cases h
noncomputable def LTa12:OrL:=(171,jHH) :: LTa11
theorem LTa12_ok:AllP (fun x:Nat × (List PV→Option (Bool × Ret))=>zW Tryz.prog x.1 x.2) LTa12:=⟨ok_rSine,LTa11_ok⟩
noncomputable def yGG:List PV→Option (Bool × Ret):=fun ps=>match ps with
 | [.n .i64 x]=>some (decide (0≤x∧x≤8192),.v (.a (ivC (zUX x))))
 | _=>none
theorem ok_rCosine:zW Tryz.prog 172 yGG:=by
 intro ps r h;unfold yGG at h;split at h
 ·simp only [vQZ,vQY] at h;obtain ⟨hg,rfl⟩:=h
  try simp only [vQJ,decide_eq_true_eq] at hg
  exact zJ (zQ Tryz.func172 (by kernel_rfl) (by kernel_rfl)) rfl rfl (fun w=>rCosine _ hg w)
 ·cases h
noncomputable def uZK:OrL:=(172,yGG) :: LTa12
theorem jXG:AllP (fun x:Nat × (List PV→Option (Bool × Ret))=>zW Tryz.prog x.1 x.2) uZK:=⟨ok_rCosine,LTa12_ok⟩
end Ta
set_option maxRecDepth 100000 in
theorem aFirst (r:Int) (h:0≤r∧r≤16384) (w:World):Calls Tryz.prog 187 [.int .i64 r].toArray w (Rets (iv (uX r)) (w)) :=
 zX (x:=.a (ivC (uX r))) (qG (N:=60) (ps:=[.n .i64 r]) yJ yQ (OrL.ok (l:=uZK) jXG) ((by kernel_rfl:_=bif (decide (r≤8192)) then (bif decide (0≤r∧r≤8192) then some (.v (.a (ivC (jYG r))),[])
 else none)
 else bif decide (0≤(vJJ .i64 (16384 - r))∧(vJJ .i64 (16384 - r))≤8192) then some (.v (.a (ivC (zUX (vJJ .i64 (16384 - r))))),[])
 else none).trans (by
 by_cases p:r≤8192
 ·simp only [vJQ p,vYV,vJQ (show 0≤r∧r≤8192 by omega)];unfold uX;rw [vJQ p]; rfl
 ·have w0:vJJ .i64 (16384 - r)=16384 - r:=zK (by omega);simp only [w0,vYH p,vYG,vJQ (show 0≤16384 - r∧16384 - r≤8192 by omega),vYV];unfold uX;rw [vYH p]; rfl))) rfl rfl w
set_option maxRecDepth 100000 in
theorem rQuarter (r:Int) (h:0≤r∧r≤16384) (w:World):Calls Tryz.prog 166 [.int .i64 r].toArray w (Rets (iv (uX r)) (w)) :=
 zX (x:=.a (ivC (uX r))) (qG (N:=60) (ps:=[.n .i64 r]) yJ yQ (OrL.ok (l:=uZK) jXG) ((by kernel_rfl:_=bif (decide (r≤8192)) then (bif decide (0≤r∧r≤8192) then some (.v (.a (ivC (jYG r))),[])
 else none)
 else bif decide (0≤(vJJ .i64 (16384 - r))∧(vJJ .i64 (16384 - r))≤8192) then some (.v (.a (ivC (zUX (vJJ .i64 (16384 - r))))),[])
 else none).trans (by
 by_cases p:r≤8192
 ·simp only [vJQ p,vYV,vJQ (show 0≤r∧r≤8192 by omega)];unfold uX;rw [vJQ p]; rfl
 ·have w0:vJJ .i64 (16384 - r)=16384 - r:=zK (by omega);simp only [w0,vYH p,vYG,vJQ (show 0≤16384 - r∧16384 - r≤8192 by omega),vYV];unfold uX;rw [vYH p]; rfl))) rfl rfl w
namespace Ta
noncomputable def jJH:List PV→Option (Bool × Ret):=fun ps=>match ps with
 | [.n .i64 r]=>some (decide (0≤r∧r≤16384),.v (.a (ivC (uX r))))
 | _=>none
theorem ok_aFirst:zW Tryz.prog 187 jJH:=by
 intro ps r h;unfold jJH at h;split at h
 ·simp only [vQZ,vQY] at h;obtain ⟨hg,rfl⟩:=h
  try simp only [vQJ,decide_eq_true_eq] at hg
  exact zJ (zQ Tryz.func187 (by kernel_rfl) (by kernel_rfl)) rfl rfl (fun w=>aFirst _ hg w)
 ·cases h
noncomputable def LTa14:OrL:=(187,jJH) :: uZK
theorem LTa14_ok:AllP (fun x:Nat × (List PV→Option (Bool × Ret))=>zW Tryz.prog x.1 x.2) LTa14:=⟨ok_aFirst,jXG⟩
noncomputable def yJX:List PV→Option (Bool × Ret):=fun ps=>match ps with
 | [.n .i64 r]=>some (decide (0≤r∧r≤16384),.v (.a (ivC (uX r))))
 | _=>none
theorem ok_rQuarter:zW Tryz.prog 166 yJX:=by
 intro ps r h;unfold yJX at h;split at h
 ·simp only [vQZ,vQY] at h;obtain ⟨hg,rfl⟩:=h
  try simp only [vQJ,decide_eq_true_eq] at hg
  exact zJ (zQ Tryz.func166 (by kernel_rfl) (by kernel_rfl)) rfl rfl (fun w=>rQuarter _ hg w)
 ·cases h
noncomputable def LTa15:OrL:=(166,yJX) :: LTa14
theorem LTa15_ok:AllP (fun x:Nat × (List PV→Option (Bool × Ret))=>zW Tryz.prog x.1 x.2) LTa15:=⟨ok_rQuarter,LTa14_ok⟩
noncomputable def kVK:List PV→Option (Bool × Ret):=fun ps=>match ps with
 | [.n .i64 a]=>some (true,.v (.n .i64 ((a % 65536))))
 | _=>none
theorem ok_aMod:zW Tryz.prog 186 kVK:=by
 intro ps r h;unfold kVK at h;split at h
 ·simp only [vQZ,vQY] at h;obtain ⟨hg,rfl⟩:=h;exact zJ (zQ Tryz.func186 (by kernel_rfl) (by kernel_rfl)) rfl rfl (fun w=>aMod _ w)
 ·cases h
noncomputable def LTa16:OrL:=(186,kVK) :: LTa15
theorem LTa16_ok:AllP (fun x:Nat × (List PV→Option (Bool × Ret))=>zW Tryz.prog x.1 x.2) LTa16:=⟨ok_aMod,LTa15_ok⟩
noncomputable def kWW:List PV→Option (Bool × Ret):=fun ps=>match ps with
 | [.n .i64 a]=>some (true,.v (.n .i64 ((a % 65536))))
 | _=>none
theorem ok_rMod:zW Tryz.prog 165 kWW:=by
 intro ps r h;unfold kWW at h;split at h
 ·simp only [vQZ,vQY] at h;obtain ⟨hg,rfl⟩:=h;exact zJ (zQ Tryz.func165 (by kernel_rfl) (by kernel_rfl)) rfl rfl (fun w=>rMod _ w)
 ·cases h
noncomputable def LTa17:OrL:=(165,kWW) :: LTa16
theorem LTa17_ok:AllP (fun x:Nat × (List PV→Option (Bool × Ret))=>zW Tryz.prog x.1 x.2) LTa17:=⟨ok_rMod,LTa16_ok⟩
noncomputable def o_iNeg:List PV→Option (Bool × Ret):=fun ps=>match ps with
 | [.a a']=>(ivD a').bind fun a=>some (true,.v (.a (ivC (Iv.neg a))))
 | _=>none
theorem ok_iNeg:zW Tryz.prog 179 o_iNeg:=by
 intro ps r h;unfold o_iNeg at h;split at h
 ·simp only [vQQ,vQZ,vQY] at h;obtain ⟨a,ha,hg,rfl⟩:=h;rw [qZY ha];exact zJ (zQ Tryz.func179 (by kernel_rfl) (by kernel_rfl)) rfl rfl (fun w=>iNeg _ _ w)
 ·cases h
noncomputable def LTa18:OrL:=(179,o_iNeg) :: LTa17
theorem LTa18_ok:AllP (fun x:Nat × (List PV→Option (Bool × Ret))=>zW Tryz.prog x.1 x.2) LTa18:=⟨ok_iNeg,LTa17_ok⟩
noncomputable def o_rNeg:List PV→Option (Bool × Ret):=fun ps=>match ps with
 | [.a a']=>(ivD a').bind fun a=>some (true,.v (.a (ivC (Iv.neg a))))
 | _=>none
theorem ok_rNeg:zW Tryz.prog 144 o_rNeg:=by
 intro ps r h;unfold o_rNeg at h;split at h
 ·simp only [vQQ,vQZ,vQY] at h;obtain ⟨a,ha,hg,rfl⟩:=h;rw [qZY ha];exact zJ (zQ Tryz.func144 (by kernel_rfl) (by kernel_rfl)) rfl rfl (fun w=>rNeg _ _ w)
 ·cases h
noncomputable def uZJ:OrL:=(144,o_rNeg) :: LTa18
theorem jXV:AllP (fun x:Nat × (List PV→Option (Bool × Ret))=>zW Tryz.prog x.1 x.2) uZJ:=⟨ok_rNeg,LTa18_ok⟩
end Ta
set_option maxRecDepth 100000 in
theorem aSin (a:Int) (w:World):Calls Tryz.prog 182 [.int .i64 a].toArray w (Rets (iv (sinI a)) (w)) :=
 zX (x:=.a (ivC (sinI a))) (qG (N:=60) (ps:=[.n .i64 a]) yJ yQ (OrL.ok (l:=uZJ) jXV) ((by kernel_rfl:_=bif (decide ((vJJ .i64 ((a % 65536).tdiv 16384))=0)) then (bif decide (0≤((a % 65536).tmod 16384)∧((a % 65536).tmod 16384)≤16384) then some (.v (.a (ivC (uX ((a % 65536).tmod 16384)))),[])
 else none)
 else bif (decide ((vJJ .i64 ((a % 65536).tdiv 16384))=1)) then (bif decide (0≤(vJJ .i64 (16384 - ((a % 65536).tmod 16384)))∧(vJJ .i64 (16384 - ((a % 65536).tmod 16384)))≤16384) then some (.v (.a (ivC (uX (vJJ .i64 (16384 - ((a % 65536).tmod 16384)))))),[])
 else none)
 else bif (decide ((vJJ .i64 ((a % 65536).tdiv 16384))=2)) then (bif decide (0≤((a % 65536).tmod 16384)∧((a % 65536).tmod 16384)≤16384) then some (.v (.a (ivC (Iv.neg (uX ((a % 65536).tmod 16384))))),[])
 else none)
 else bif decide (0≤(vJJ .i64 (16384 - ((a % 65536).tmod 16384)))∧(vJJ .i64 (16384 - ((a % 65536).tmod 16384)))≤16384) then some (.v (.a (ivC (Iv.neg (uX (vJJ .i64 (16384 - ((a % 65536).tmod 16384))))))),[])
 else none).trans (by
 have ht:(a % 65536).tdiv 16384=a % 65536 / 16384:=tdnn (by omega);have hm:(a % 65536).tmod 16384=a % 65536 % 16384:=Int.tmod_eq_emod_of_nonneg (by omega);have w1:vJJ .i64 (a % 65536 % 16384)=a % 65536 % 16384:=zK (by omega);have w2:vJJ .i64 (a % 65536 / 16384)=a % 65536 / 16384:=zK (by omega);have w3:vJJ .i64 (16384 - a % 65536 % 16384)=16384 - a % 65536 % 16384:=zK (by omega);simp only [ht,hm,w1,w2,w3,vJQ (show 0≤a % 65536 % 16384∧a % 65536 % 16384≤16384 by omega),vJQ (show 0≤16384 - a % 65536 % 16384∧16384 - a % 65536 % 16384≤16384 by omega),vYV];unfold sinI sinM;cases decide (a % 65536 / 16384=0) <;> cases decide (a % 65536 / 16384=1) <;> cases decide (a % 65536 / 16384=2) <;> rfl))) rfl rfl w
set_option maxRecDepth 100000 in
theorem rSin (a:Int) (w:World):Calls Tryz.prog 154 [.int .i64 a].toArray w (Rets (iv (sinI a)) (w)) :=
 zX (x:=.a (ivC (sinI a))) (qG (N:=60) (ps:=[.n .i64 a]) yJ yQ (OrL.ok (l:=uZJ) jXV) ((by kernel_rfl:_=bif (decide ((vJJ .i64 ((a % 65536).tdiv 16384))=0)) then (bif decide (0≤((a % 65536).tmod 16384)∧((a % 65536).tmod 16384)≤16384) then some (.v (.a (ivC (uX ((a % 65536).tmod 16384)))),[])
 else none)
 else bif (decide ((vJJ .i64 ((a % 65536).tdiv 16384))=1)) then (bif decide (0≤(vJJ .i64 (16384 - ((a % 65536).tmod 16384)))∧(vJJ .i64 (16384 - ((a % 65536).tmod 16384)))≤16384) then some (.v (.a (ivC (uX (vJJ .i64 (16384 - ((a % 65536).tmod 16384)))))),[])
 else none)
 else bif (decide ((vJJ .i64 ((a % 65536).tdiv 16384))=2)) then (bif decide (0≤((a % 65536).tmod 16384)∧((a % 65536).tmod 16384)≤16384) then some (.v (.a (ivC (Iv.neg (uX ((a % 65536).tmod 16384))))),[])
 else none)
 else bif decide (0≤(vJJ .i64 (16384 - ((a % 65536).tmod 16384)))∧(vJJ .i64 (16384 - ((a % 65536).tmod 16384)))≤16384) then some (.v (.a (ivC (Iv.neg (uX (vJJ .i64 (16384 - ((a % 65536).tmod 16384))))))),[])
 else none).trans (by
 have ht:(a % 65536).tdiv 16384=a % 65536 / 16384:=tdnn (by omega);have hm:(a % 65536).tmod 16384=a % 65536 % 16384:=Int.tmod_eq_emod_of_nonneg (by omega);have w1:vJJ .i64 (a % 65536 % 16384)=a % 65536 % 16384:=zK (by omega);have w2:vJJ .i64 (a % 65536 / 16384)=a % 65536 / 16384:=zK (by omega);have w3:vJJ .i64 (16384 - a % 65536 % 16384)=16384 - a % 65536 % 16384:=zK (by omega);simp only [ht,hm,w1,w2,w3,vJQ (show 0≤a % 65536 % 16384∧a % 65536 % 16384≤16384 by omega),vJQ (show 0≤16384 - a % 65536 % 16384∧16384 - a % 65536 % 16384≤16384 by omega),vYV];unfold sinI sinM;cases decide (a % 65536 / 16384=0) <;> cases decide (a % 65536 / 16384=1) <;> cases decide (a % 65536 / 16384=2) <;> rfl))) rfl rfl w
namespace Ta
noncomputable def kVY:List PV→Option (Bool × Ret):=fun ps=>match ps with
 | [.n .i64 a]=>some (true,.v (.a (ivC (sinI a))))
 | _=>none
theorem ok_aSin:zW Tryz.prog 182 kVY:=by
 intro ps r h;unfold kVY at h;split at h
 ·simp only [vQZ,vQY] at h;obtain ⟨hg,rfl⟩:=h;exact zJ (zQ Tryz.func182 (by kernel_rfl) (by kernel_rfl)) rfl rfl (fun w=>aSin _ w)
 ·cases h
noncomputable def LTa20:OrL:=(182,kVY) :: uZJ
theorem LTa20_ok:AllP (fun x:Nat × (List PV→Option (Bool × Ret))=>zW Tryz.prog x.1 x.2) LTa20:=⟨ok_aSin,jXV⟩
noncomputable def kWK:List PV→Option (Bool × Ret):=fun ps=>match ps with
 | [.n .i64 a]=>some (true,.v (.a (ivC (sinI a))))
 | _=>none
theorem ok_rSin:zW Tryz.prog 154 kWK:=by
 intro ps r h;unfold kWK at h;split at h
 ·simp only [vQZ,vQY] at h;obtain ⟨hg,rfl⟩:=h;exact zJ (zQ Tryz.func154 (by kernel_rfl) (by kernel_rfl)) rfl rfl (fun w=>rSin _ w)
 ·cases h
noncomputable def uZY:OrL:=(154,kWK) :: LTa20
theorem jXW:AllP (fun x:Nat × (List PV→Option (Bool × Ret))=>zW Tryz.prog x.1 x.2) uZY:=⟨ok_rSin,LTa20_ok⟩
end Ta
set_option maxRecDepth 100000 in
theorem aCos (a:Int) (w:World):Calls Tryz.prog 181 [.int .i64 a].toArray w (Rets (iv (cosI a)) (w)) :=
 zX (x:=.a (ivC (cosI a))) (qG (N:=60) (ps:=[.n .i64 a]) yJ yQ (OrL.ok (l:=uZY) jXW) ((by kernel_rfl:_=some (.v (.a (ivC (sinI (vJJ .i64 ((a % 65536) + 16384))))),[])).trans (by
 rw [zK (show -9223372036854775808≤a % 65536 + 16384∧a % 65536 + 16384≤9223372036854775807 by omega)]
 rfl))) rfl rfl w
set_option maxRecDepth 100000 in
theorem rCos (a:Int) (w:World):Calls Tryz.prog 153 [.int .i64 a].toArray w (Rets (iv (cosI a)) (w)) :=
 zX (x:=.a (ivC (cosI a))) (qG (N:=60) (ps:=[.n .i64 a]) yJ yQ (OrL.ok (l:=uZY) jXW) ((by kernel_rfl:_=some (.v (.a (ivC (sinI (vJJ .i64 ((a % 65536) + 16384))))),[])).trans (by
 rw [zK (show -9223372036854775808≤a % 65536 + 16384∧a % 65536 + 16384≤9223372036854775807 by omega)]
 rfl))) rfl rfl w
namespace Ta
noncomputable def kVX:List PV→Option (Bool × Ret):=fun ps=>match ps with
 | [.n .i64 a]=>some (true,.v (.a (ivC (cosI a))))
 | _=>none
theorem ok_aCos:zW Tryz.prog 181 kVX:=by
 intro ps r h;unfold kVX at h;split at h
 ·simp only [vQZ,vQY] at h;obtain ⟨hg,rfl⟩:=h;exact zJ (zQ Tryz.func181 (by kernel_rfl) (by kernel_rfl)) rfl rfl (fun w=>aCos _ w)
 ·cases h
noncomputable def LTa22:OrL:=(181,kVX) :: uZY
theorem LTa22_ok:AllP (fun x:Nat × (List PV→Option (Bool × Ret))=>zW Tryz.prog x.1 x.2) LTa22:=⟨ok_aCos,jXW⟩
noncomputable def kWH:List PV→Option (Bool × Ret):=fun ps=>match ps with
 | [.n .i64 a]=>some (true,.v (.a (ivC (cosI a))))
 | _=>none
theorem ok_rCos:zW Tryz.prog 153 kWH:=by
 intro ps r h;unfold kWH at h;split at h
 ·simp only [vQZ,vQY] at h;obtain ⟨hg,rfl⟩:=h;exact zJ (zQ Tryz.func153 (by kernel_rfl) (by kernel_rfl)) rfl rfl (fun w=>rCos _ w)
 ·cases h
noncomputable def LTa23:OrL:=(153,kWH) :: LTa22
theorem LTa23_ok:AllP (fun x:Nat × (List PV→Option (Bool × Ret))=>zW Tryz.prog x.1 x.2) LTa23:=⟨ok_rCos,LTa22_ok⟩
noncomputable def LTa24:OrL:=(135,Tn.o_iValid) :: LTa23
theorem LTa24_ok:AllP (fun x:Nat × (List PV→Option (Bool × Ret))=>zW Tryz.prog x.1 x.2) LTa24:=⟨Tn.ok_iValid,LTa23_ok⟩
noncomputable def kQX:List PV→Option (Bool × Ret):=fun ps=>match ps with
 | [.a a',.a b']=>(ivD a').bind fun a=>(ivD b').bind fun b=>some (true,.v (.a (ivC (Iv.hull a b))))
 | _=>none
theorem ok_iHull:zW Tryz.prog 184 kQX:=by
 intro ps r h;unfold kQX at h;split at h
 ·simp only [vQQ,vQZ,vQY] at h;obtain ⟨a,ha,b,hb,hg,rfl⟩:=h;rw [qZY ha];rw [qZY hb];exact zJ (zQ Tryz.func184 (by kernel_rfl) (by kernel_rfl)) rfl rfl (fun w=>iHull _ _ _ _ w)
 ·cases h
noncomputable def LTa25:OrL:=(184,kQX) :: LTa24
theorem LTa25_ok:AllP (fun x:Nat × (List PV→Option (Bool × Ret))=>zW Tryz.prog x.1 x.2) LTa25:=⟨ok_iHull,LTa24_ok⟩
noncomputable def o_iOf:List PV→Option (Bool × Ret):=fun ps=>match ps with
 | [.n .i64 x]=>some (true,.v (.a (ivC (Iv.of x))))
 | _=>none
theorem ok_iOf:zW Tryz.prog 59 o_iOf:=by
 intro ps r h;unfold o_iOf at h;split at h
 ·simp only [vQZ,vQY] at h;obtain ⟨hg,rfl⟩:=h;exact zJ (zQ Tryz.func59 (by kernel_rfl) (by kernel_rfl)) rfl rfl (fun w=>iOf _ w)
 ·cases h
noncomputable def LTa26:OrL:=(59,o_iOf) :: LTa25
theorem LTa26_ok:AllP (fun x:Nat × (List PV→Option (Bool × Ret))=>zW Tryz.prog x.1 x.2) LTa26:=⟨ok_iOf,LTa25_ok⟩
noncomputable def LTa27:OrL:=(106,Tn.o_rValid) :: LTa26
theorem LTa27_ok:AllP (fun x:Nat × (List PV→Option (Bool × Ret))=>zW Tryz.prog x.1 x.2) LTa27:=⟨Tn.ok_rValid,LTa26_ok⟩
noncomputable def kQQ:List PV→Option (Bool × Ret):=fun ps=>match ps with
 | [.a a',.a b']=>(ivD a').bind fun a=>(ivD b').bind fun b=>some (true,.v (.a (ivC (Iv.hull a b))))
 | _=>none
theorem ok_rHull:zW Tryz.prog 163 kQQ:=by
 intro ps r h;unfold kQQ at h;split at h
 ·simp only [vQQ,vQZ,vQY] at h;obtain ⟨a,ha,b,hb,hg,rfl⟩:=h;rw [qZY ha];rw [qZY hb];exact zJ (zQ Tryz.func163 (by kernel_rfl) (by kernel_rfl)) rfl rfl (fun w=>rHull _ _ _ _ w)
 ·cases h
noncomputable def LTa28:OrL:=(163,kQQ) :: LTa27
theorem LTa28_ok:AllP (fun x:Nat × (List PV→Option (Bool × Ret))=>zW Tryz.prog x.1 x.2) LTa28:=⟨ok_rHull,LTa27_ok⟩
noncomputable def o_rOf:List PV→Option (Bool × Ret):=fun ps=>match ps with
 | [.n .i64 x]=>some (true,.v (.a (ivC (Iv.of x))))
 | _=>none
theorem ok_rOf:zW Tryz.prog 70 o_rOf:=by
 intro ps r h;unfold o_rOf at h;split at h
 ·simp only [vQZ,vQY] at h;obtain ⟨hg,rfl⟩:=h;exact zJ (zQ Tryz.func70 (by kernel_rfl) (by kernel_rfl)) rfl rfl (fun w=>rOf _ w)
 ·cases h
noncomputable def LTa29:OrL:=(70,o_rOf) :: LTa28
theorem LTa29_ok:AllP (fun x:Nat × (List PV→Option (Bool × Ret))=>zW Tryz.prog x.1 x.2) LTa29:=⟨ok_rOf,LTa28_ok⟩
noncomputable def jJW:List PV→Option (Bool × Ret):=fun ps=>match ps with
 | [.a a']=>(ivD a').bind fun a=>some (true,.v (.n .i64 (Iv.width a)))
 | _=>none
theorem ok_iWidth:zW Tryz.prog 183 jJW:=by
 intro ps r h;unfold jJW at h;split at h
 ·simp only [vQQ,vQZ,vQY] at h;obtain ⟨a,ha,hg,rfl⟩:=h;rw [qZY ha];exact zJ (zQ Tryz.func183 (by kernel_rfl) (by kernel_rfl)) rfl rfl (fun w=>iWidth _ _ w)
 ·cases h
noncomputable def LTa30:OrL:=(183,jJW) :: LTa29
theorem LTa30_ok:AllP (fun x:Nat × (List PV→Option (Bool × Ret))=>zW Tryz.prog x.1 x.2) LTa30:=⟨ok_iWidth,LTa29_ok⟩
noncomputable def jJG:List PV→Option (Bool × Ret):=fun ps=>match ps with
 | [.a a',.n .i64 c]=>(ivD a').bind fun a=>some (decide (0≤c∧c < 65536) && Iv.valid a,.v (.b (qQY a c)))
 | _=>none
theorem ok_aMeets:zW Tryz.prog 185 jJG:=by
 intro ps r h;unfold jJG at h;split at h
 ·simp only [vQQ,vQZ,vQY] at h;obtain ⟨a,ha,hg,rfl⟩:=h;rw [qZY ha]
  try simp only [vQJ,decide_eq_true_eq] at hg
  exact zJ (zQ Tryz.func185 (by kernel_rfl) (by kernel_rfl)) rfl rfl (fun w=>aMeets _ _ _ hg.2 hg.1 w)
 ·cases h
noncomputable def LTa31:OrL:=(185,jJG) :: LTa30
theorem LTa31_ok:AllP (fun x:Nat × (List PV→Option (Bool × Ret))=>zW Tryz.prog x.1 x.2) LTa31:=⟨ok_aMeets,LTa30_ok⟩
noncomputable def jJZ:List PV→Option (Bool × Ret):=fun ps=>match ps with
 | [.a a',.n .i64 c]=>(ivD a').bind fun a=>some (decide (0≤c∧c < 65536) && Iv.valid a,.v (.b (qQY a c)))
 | _=>none
theorem ok_rMeets:zW Tryz.prog 164 jJZ:=by
 intro ps r h;unfold jJZ at h;split at h
 ·simp only [vQQ,vQZ,vQY] at h;obtain ⟨a,ha,hg,rfl⟩:=h;rw [qZY ha]
  try simp only [vQJ,decide_eq_true_eq] at hg
  exact zJ (zQ Tryz.func164 (by kernel_rfl) (by kernel_rfl)) rfl rfl (fun w=>rMeets _ _ _ hg.2 hg.1 w)
 ·cases h
noncomputable def kHQ:OrL:=(164,jJZ) :: LTa31
theorem yWU:AllP (fun x:Nat × (List PV→Option (Bool × Ret))=>zW Tryz.prog x.1 x.2) kHQ:=⟨ok_rMeets,LTa31_ok⟩
end Ta
set_option maxRecDepth 100000 in
theorem aSinOver (a0 a1:Int) (w:World):Calls Tryz.prog 178 [.agg #[.int .i64 a0,.int .i64 a1]].toArray w (Rets (iv (uV (⟨a0,a1⟩:Iv))) (w)) :=
 zX (x:=.a (ivC (uV ⟨a0,a1⟩))) (qG (N:=60) (ps:=[.a [.n .i64 a0,.n .i64 a1]]) yJ yQ (OrL.ok (l:=kHQ) yWU) ((by kernel_rfl:_=bif Iv.valid (Iv.mk a0 a1) then (bif (decide (65536≤Iv.width (Iv.mk a0 a1))) then some (.v (.a [.n .i64 (-65536),.n .i64 65536]),[])
 else bif Iv.valid (Iv.mk a0 a1) then (bif qQY (Iv.mk a0 a1) 16384 then (bif Iv.valid (Iv.mk a0 a1) then (bif qQY (Iv.mk a0 a1) 49152 then some (.v (.a (ivC (Iv.hull (Iv.hull (Iv.hull (sinI a0) (sinI a1)) (Iv.of 65536)) (Iv.of (-65536))))),[])
 else some (.v (.a (ivC (Iv.hull (Iv.hull (sinI a0) (sinI a1)) (Iv.of 65536)))),[]))
 else none)
 else bif Iv.valid (Iv.mk a0 a1) then (bif qQY (Iv.mk a0 a1) 49152 then some (.v (.a (ivC (Iv.hull (Iv.hull (sinI a0) (sinI a1)) (Iv.of (-65536))))),[])
 else some (.v (.a (ivC (Iv.hull (sinI a0) (sinI a1)))),[]))
 else none)
 else none)
 else some (.v (.a [.n .i64 0,.n .i64 0]),[])).trans (by
 have e:uV ⟨a0,a1⟩=bif !Iv.valid (Iv.mk a0 a1) then ⟨0,0⟩ else bif decide (65536≤a1 - a0) then ⟨-65536,65536⟩ else bif qQY (Iv.mk a0 a1) 49152 then Iv.hull (bif qQY (Iv.mk a0 a1) 16384 then Iv.hull (Iv.hull (sinI a0) (sinI a1)) (Iv.of 65536) else Iv.hull (sinI a0) (sinI a1)) (Iv.of (-65536)) else (bif qQY (Iv.mk a0 a1) 16384 then Iv.hull (Iv.hull (sinI a0) (sinI a1)) (Iv.of 65536) else Iv.hull (sinI a0) (sinI a1)):=rfl
 rw [e];cases hv:Iv.valid (Iv.mk a0 a1) with
 | false=>rfl
 | true =>
  have hb:=qZQ hv;have hw:Iv.width (Iv.mk a0 a1)=a1 - a0:=by unfold Iv.width; rw [hv]; rfl
  rw [hw];cases decide (65536≤a1 - a0) <;> cases qQY (Iv.mk a0 a1) 16384 <;> cases qQY (Iv.mk a0 a1) 49152 <;> rfl))) rfl rfl w
set_option maxRecDepth 100000 in
theorem aCosOver (a0 a1:Int) (w:World):Calls Tryz.prog 177 [.agg #[.int .i64 a0,.int .i64 a1]].toArray w (Rets (iv (uH (⟨a0,a1⟩:Iv))) (w)) :=
 zX (x:=.a (ivC (uH ⟨a0,a1⟩))) (qG (N:=60) (ps:=[.a [.n .i64 a0,.n .i64 a1]]) yJ yQ (OrL.ok (l:=kHQ) yWU) ((by kernel_rfl:_=bif Iv.valid (Iv.mk a0 a1) then (bif (decide (65536≤Iv.width (Iv.mk a0 a1))) then some (.v (.a [.n .i64 (-65536),.n .i64 65536]),[])
 else bif Iv.valid (Iv.mk a0 a1) then (bif qQY (Iv.mk a0 a1) 0 then (bif Iv.valid (Iv.mk a0 a1) then (bif qQY (Iv.mk a0 a1) 32768 then some (.v (.a (ivC (Iv.hull (Iv.hull (Iv.hull (cosI a0) (cosI a1)) (Iv.of 65536)) (Iv.of (-65536))))),[])
 else some (.v (.a (ivC (Iv.hull (Iv.hull (cosI a0) (cosI a1)) (Iv.of 65536)))),[]))
 else none)
 else bif Iv.valid (Iv.mk a0 a1) then (bif qQY (Iv.mk a0 a1) 32768 then some (.v (.a (ivC (Iv.hull (Iv.hull (cosI a0) (cosI a1)) (Iv.of (-65536))))),[])
 else some (.v (.a (ivC (Iv.hull (cosI a0) (cosI a1)))),[]))
 else none)
 else none)
 else some (.v (.a [.n .i64 0,.n .i64 0]),[])).trans (by
 have e:uH ⟨a0,a1⟩=bif !Iv.valid (Iv.mk a0 a1) then ⟨0,0⟩ else bif decide (65536≤a1 - a0) then ⟨-65536,65536⟩ else bif qQY (Iv.mk a0 a1) 32768 then Iv.hull (bif qQY (Iv.mk a0 a1) 0 then Iv.hull (Iv.hull (cosI a0) (cosI a1)) (Iv.of 65536) else Iv.hull (cosI a0) (cosI a1)) (Iv.of (-65536)) else (bif qQY (Iv.mk a0 a1) 0 then Iv.hull (Iv.hull (cosI a0) (cosI a1)) (Iv.of 65536) else Iv.hull (cosI a0) (cosI a1)):=rfl
 rw [e];cases hv:Iv.valid (Iv.mk a0 a1) with
 | false=>rfl
 | true =>
  have hb:=qZQ hv;have hw:Iv.width (Iv.mk a0 a1)=a1 - a0:=by unfold Iv.width; rw [hv]; rfl
  rw [hw];cases decide (65536≤a1 - a0) <;> cases qQY (Iv.mk a0 a1) 0 <;> cases qQY (Iv.mk a0 a1) 32768 <;> rfl))) rfl rfl w
set_option maxRecDepth 100000 in
theorem rSinOver (a0 a1:Int) (w:World):Calls Tryz.prog 143 [.agg #[.int .i64 a0,.int .i64 a1]].toArray w (Rets (iv (uV (⟨a0,a1⟩:Iv))) (w)) :=
 zX (x:=.a (ivC (uV ⟨a0,a1⟩))) (qG (N:=60) (ps:=[.a [.n .i64 a0,.n .i64 a1]]) yJ yQ (OrL.ok (l:=kHQ) yWU) ((by kernel_rfl:_=bif Iv.valid (Iv.mk a0 a1) then (bif (decide (65536≤(vJJ .i64 (a1 - a0)))) then some (.v (.a [.n .i64 (-65536),.n .i64 65536]),[])
 else bif Iv.valid (Iv.mk a0 a1) then (bif qQY (Iv.mk a0 a1) 16384 then (bif Iv.valid (Iv.mk a0 a1) then (bif qQY (Iv.mk a0 a1) 49152 then some (.v (.a (ivC (Iv.hull (Iv.hull (Iv.hull (sinI a0) (sinI a1)) (Iv.of 65536)) (Iv.of (-65536))))),[])
 else some (.v (.a (ivC (Iv.hull (Iv.hull (sinI a0) (sinI a1)) (Iv.of 65536)))),[]))
 else none)
 else bif Iv.valid (Iv.mk a0 a1) then (bif qQY (Iv.mk a0 a1) 49152 then some (.v (.a (ivC (Iv.hull (Iv.hull (sinI a0) (sinI a1)) (Iv.of (-65536))))),[])
 else some (.v (.a (ivC (Iv.hull (sinI a0) (sinI a1)))),[]))
 else none)
 else none)
 else some (.v (.a [.n .i64 0,.n .i64 0]),[])).trans (by
 have e:uV ⟨a0,a1⟩=bif !Iv.valid (Iv.mk a0 a1) then ⟨0,0⟩ else bif decide (65536≤a1 - a0) then ⟨-65536,65536⟩ else bif qQY (Iv.mk a0 a1) 49152 then Iv.hull (bif qQY (Iv.mk a0 a1) 16384 then Iv.hull (Iv.hull (sinI a0) (sinI a1)) (Iv.of 65536) else Iv.hull (sinI a0) (sinI a1)) (Iv.of (-65536)) else (bif qQY (Iv.mk a0 a1) 16384 then Iv.hull (Iv.hull (sinI a0) (sinI a1)) (Iv.of 65536) else Iv.hull (sinI a0) (sinI a1)):=rfl
 rw [e];cases hv:Iv.valid (Iv.mk a0 a1) with
 | false=>rfl
 | true =>
  have hb:=qZQ hv;have hw:vJJ .i64 (a1 - a0)=a1 - a0:=zK (by omega);rw [hw];cases decide (65536≤a1 - a0) <;> cases qQY (Iv.mk a0 a1) 16384 <;> cases qQY (Iv.mk a0 a1) 49152 <;> rfl))) rfl rfl w
set_option maxRecDepth 100000 in
theorem rCosOver (a0 a1:Int) (w:World):Calls Tryz.prog 142 [.agg #[.int .i64 a0,.int .i64 a1]].toArray w (Rets (iv (uH (⟨a0,a1⟩:Iv))) (w)) :=
 zX (x:=.a (ivC (uH ⟨a0,a1⟩))) (qG (N:=60) (ps:=[.a [.n .i64 a0,.n .i64 a1]]) yJ yQ (OrL.ok (l:=kHQ) yWU) ((by kernel_rfl:_=bif Iv.valid (Iv.mk a0 a1) then (bif (decide (65536≤(vJJ .i64 (a1 - a0)))) then some (.v (.a [.n .i64 (-65536),.n .i64 65536]),[])
 else bif Iv.valid (Iv.mk a0 a1) then (bif qQY (Iv.mk a0 a1) 0 then (bif Iv.valid (Iv.mk a0 a1) then (bif qQY (Iv.mk a0 a1) 32768 then some (.v (.a (ivC (Iv.hull (Iv.hull (Iv.hull (cosI a0) (cosI a1)) (Iv.of 65536)) (Iv.of (-65536))))),[])
 else some (.v (.a (ivC (Iv.hull (Iv.hull (cosI a0) (cosI a1)) (Iv.of 65536)))),[]))
 else none)
 else bif Iv.valid (Iv.mk a0 a1) then (bif qQY (Iv.mk a0 a1) 32768 then some (.v (.a (ivC (Iv.hull (Iv.hull (cosI a0) (cosI a1)) (Iv.of (-65536))))),[])
 else some (.v (.a (ivC (Iv.hull (cosI a0) (cosI a1)))),[]))
 else none)
 else none)
 else some (.v (.a [.n .i64 0,.n .i64 0]),[])).trans (by
 have e:uH ⟨a0,a1⟩=bif !Iv.valid (Iv.mk a0 a1) then ⟨0,0⟩ else bif decide (65536≤a1 - a0) then ⟨-65536,65536⟩ else bif qQY (Iv.mk a0 a1) 32768 then Iv.hull (bif qQY (Iv.mk a0 a1) 0 then Iv.hull (Iv.hull (cosI a0) (cosI a1)) (Iv.of 65536) else Iv.hull (cosI a0) (cosI a1)) (Iv.of (-65536)) else (bif qQY (Iv.mk a0 a1) 0 then Iv.hull (Iv.hull (cosI a0) (cosI a1)) (Iv.of 65536) else Iv.hull (cosI a0) (cosI a1)):=rfl
 rw [e];cases hv:Iv.valid (Iv.mk a0 a1) with
 | false=>rfl
 | true =>
  have hb:=qZQ hv;have hw:vJJ .i64 (a1 - a0)=a1 - a0:=zK (by omega);rw [hw];cases decide (65536≤a1 - a0) <;> cases qQY (Iv.mk a0 a1) 0 <;> cases qQY (Iv.mk a0 a1) 32768 <;> rfl))) rfl rfl w
end Go.Proofs.YtmffoiemmlcmfaaGreat
namespace Go.Sx
structure J where
 name:ByteArray
 kind:Int
 parent:Int
 off:Z3
 lo:Int
 hi:Int
 weight:Int
 speed:Int
 accel:Int
 torque:Int
def jc (j:J):List Value:=[.string j.name,.int .i64 j.kind,.int .i64 j.parent,.int .i64 j.off.x,.int .i64 j.off.y,.int .i64 j.off.z,.int .i64 j.lo,.int .i64 j.hi,.int .i64 j.weight,.int .i64 j.speed,.int .i64 j.accel,.int .i64 j.torque]
def jv (j:J):Value:=.agg #[.string j.name,.int .i64 j.kind,.int .i64 j.parent,.int .i64 j.off.x,.int .i64 j.off.y,.int .i64 j.off.z,.int .i64 j.lo,.int .i64 j.hi,.int .i64 j.weight,.int .i64 j.speed,.int .i64 j.accel,.int .i64 j.torque]
def abc:ByteArray:=⟨#[97,98,99,100,101,102,103,104,105,106]⟩
def zHZ (k:Int):ByteArray:=abc.extract k.toNat (k + 1).toNat
def qQJ (k:Int):Int:=if k=0 then 3 else if k=1 then 3 else if k=2 then 1 else if k=3 then 2 else if k=4 then 4 else if k=5 then 5 else if k=6 then 3 else 0
def yQV (L:List Int) (p:Nat) (k:Int):J:=⟨zHZ k,qQJ (srcR L (p + 2) 8),if srcR L (p + 3) 4=1 then -1 else k - 1,if 0 < k then ⟨131072,srcS L (p + 4) 2 * 32768,srcS L (p + 5) 1 * 32768⟩ else ⟨0,0,0⟩,0,0,1 + srcR L p 4,65536,65536 + srcR L (p + 1) 3,327680⟩
def jQ (p:Nat) (k:Int):Nat:=if 0 < k then p + 6 else p + 4
def zQK (L:List Int) (p:Nat) (k:Int):J × Nat :=
 if qQJ (srcR L (p + 2) 8)=0 then (yQV L p k,jQ p k)
 else if qQJ (srcR L (p + 2) 8)=4 ∨ qQJ (srcR L (p + 2) 8)=5 then ({ yQV L p k with lo:=-srcR L (jQ p k) 3 * 65536,hi:=srcR L (jQ p k + 1) 4 * 32768 },jQ p k + 2)
 else ({ yQV L p k with lo:=(-srcR L (jQ p k) 5 * 65536).tdiv 8,hi:=((1 + srcR L (jQ p k + 1) 4) * 65536).tdiv 8 + srcR L (jQ p k + 2) 3 },jQ p k + 3)
theorem qYZ {p:Nat} {k:Int} (h:0 < k):jQ p k=p + 6:=if_pos h
theorem qYY {p:Nat} {k:Int} (h:¬ 0 < k):jQ p k=p + 4:=if_neg h
theorem zZG {L:List Int} {p:Nat} {k:Int} (h:qQJ (srcR L (p + 2) 8)=0):zQK L p k=(yQV L p k,jQ p k):=if_pos h
theorem qXQ {L:List Int} {p:Nat} {k:Int} (h:qQJ (srcR L (p + 2) 8)=4 ∨ qQJ (srcR L (p + 2) 8)=5):zQK L p k=({ yQV L p k with lo:=-srcR L (jQ p k) 3 * 65536,hi:=srcR L (jQ p k + 1) 4 * 32768 },jQ p k + 2):=by
 unfold zQK;rw [if_neg (by omega),if_pos h]
theorem zJG {L:List Int} {p:Nat} {k:Int} (h0:¬ qQJ (srcR L (p + 2) 8)=0) (h:¬ (qQJ (srcR L (p + 2) 8)=4 ∨ qQJ (srcR L (p + 2) 8)=5)):zQK L p k=({ yQV L p k with lo:=(-srcR L (jQ p k) 5 * 65536).tdiv 8,hi:=((1 + srcR L (jQ p k + 1) 4) * 65536).tdiv 8 + srcR L (jQ p k + 2) 3 },jQ p k + 3):=by
 unfold zQK;rw [if_neg h0,if_neg h]
theorem qWY {L:List Int} {p:Nat} {k:Int} (hp:srcR L (p + 3) 4=1) (h:0 < k):yQV L p k=⟨zHZ k,qQJ (srcR L (p + 2) 8),-1,⟨131072,srcS L (p + 4) 2 * 32768,srcS L (p + 5) 1 * 32768⟩,0,0,1 + srcR L p 4,65536,65536 + srcR L (p + 1) 3,327680⟩:=by unfold yQV; rw [if_pos hp,if_pos h]
theorem qWZ {L:List Int} {p:Nat} {k:Int} (hp:srcR L (p + 3) 4=1) (h:¬ 0 < k):yQV L p k=⟨zHZ k,qQJ (srcR L (p + 2) 8),-1,⟨0,0,0⟩,0,0,1 + srcR L p 4,65536,65536 + srcR L (p + 1) 3,327680⟩:=by unfold yQV; rw [if_pos hp,if_neg h]
theorem qWQ {L:List Int} {p:Nat} {k:Int} (hp:¬ srcR L (p + 3) 4=1) (h:0 < k):yQV L p k=⟨zHZ k,qQJ (srcR L (p + 2) 8),k - 1,⟨131072,srcS L (p + 4) 2 * 32768,srcS L (p + 5) 1 * 32768⟩,0,0,1 + srcR L p 4,65536,65536 + srcR L (p + 1) 3,327680⟩:=by unfold yQV; rw [if_neg hp,if_pos h]
theorem qXH {L:List Int} {p:Nat} {k:Int} (hp:¬ srcR L (p + 3) 4=1) (h:¬ 0 < k):yQV L p k=⟨zHZ k,qQJ (srcR L (p + 2) 8),k - 1,⟨0,0,0⟩,0,0,1 + srcR L p 4,65536,65536 + srcR L (p + 1) 3,327680⟩:=by unfold yQV; rw [if_neg hp,if_neg h]
def nJ (L:List Int) (i:Nat):Nat:=(1 + srcR L i 3).toNat
theorem nJ_b (L:List Int) (i:Nat):1≤nJ L i∧nJ L i≤3∧((nJ L i:Nat):Int)=1 + srcR L i 3:=by
 have:=zQW L i (k:=3) (by decide)
 unfold nJ;omega
def jsOf (L:List Int) (i:Nat):Nat→List J × Nat
 | 0=>([],i + 1)
 | k + 1=>((jsOf L i k).1 ++ [(zQK L (jsOf L i k).2 (k:Int)).1],(zQK L (jsOf L i k).2 (k:Int)).2)
def jsC (L:List Int) (i k:Nat):List Value:=((jsOf L i k).1.map jc).flatten
theorem jsC_succ (L:List Int) (i k:Nat):jsC L i (k + 1)=jsC L i k ++ jc (zQK L (jsOf L i k).2 (k:Int)).1:=by simp [jsC,jsOf]
theorem zQH (L:List Int) (i:Nat):∀ k,(jsOf L i k).1.length=k
 | 0=>rfl
 | k + 1=>by simp [jsOf,zQH L i k]
theorem rows12 (l:List J):∀ r ∈ l.map jc,r.length=12:=fun r hr=>by
 obtain ⟨v,_,rfl⟩:=List.mem_map.1 hr;rfl
theorem js_slc {L:List Int} {i k cap:Nat} {a:Option Addr} {e:TypeId} {w:World} (h:OwnF 0 e 12 a cap k (jsC L i k) w):qJJ 12 a ((jsOf L i k).1.map jc) w:=by
 refine yJQ (m:=0) (e:=e) (cap:=cap) (rows12 _) ?_;rw [List.length_map,zQH];exact h
structure Ms where
 link:Int
 mass:Int
 p:Z3
def mc (m:Ms):List Value:=[.int .i64 m.link,.int .i64 m.mass,.int .i64 m.p.x,.int .i64 m.p.y,.int .i64 m.p.z]
def mQ (L:List Int) (i:Nat):Nat:=(jsOf L i (nJ L i)).2
def nM (L:List Int) (i:Nat):Nat:=(srcR L (mQ L i) 3).toNat
theorem nM_b (L:List Int) (i:Nat):nM L i≤2∧((nM L i:Nat):Int)=srcR L (mQ L i) 3:=by
 have:=zQW L (mQ L i) (k:=3) (by decide)
 unfold nM;omega
def msOf (L:List Int) (i:Nat):Nat→List Ms
 | 0=>[]
 | k + 1=>msOf L i k ++ [⟨srcR L (mQ L i + 1 + 4 * k) (nJ L i),1 + srcR L (mQ L i + 1 + 4 * k + 1) 9000,⟨srcS L (mQ L i + 1 + 4 * k + 2) 3 * 32768,0,srcS L (mQ L i + 1 + 4 * k + 3) 2 * 32768⟩⟩]
def msC (L:List Int) (i k:Nat):List Value:=((msOf L i k).map mc).flatten
theorem msC_succ (L:List Int) (i k:Nat):msC L i (k + 1)=msC L i k ++ mc ⟨srcR L (mQ L i + 1 + 4 * k) (nJ L i),1 + srcR L (mQ L i + 1 + 4 * k + 1) 9000,⟨srcS L (mQ L i + 1 + 4 * k + 2) 3 * 32768,0,srcS L (mQ L i + 1 + 4 * k + 3) 2 * 32768⟩⟩:=by simp [msC,msOf]
theorem zVY (L:List Int) (i:Nat):∀ k,(msOf L i k).length=k
 | 0=>rfl
 | k + 1=>by simp [msOf,zVY L i k]
theorem rows5 (l:List Ms):∀ r ∈ l.map mc,r.length=5:=fun r hr=>by
 obtain ⟨v,_,rfl⟩:=List.mem_map.1 hr;rfl
theorem ms_slc {L:List Int} {i k cap:Nat} {a:Option Addr} {e:TypeId} {w:World} (h:OwnF 0 e 5 a cap k (msC L i k) w):qJJ 5 a ((msOf L i k).map mc) w:=by
 refine yJQ (m:=0) (e:=e) (cap:=cap) (rows5 _) ?_;rw [List.length_map,zVY];exact h
def robQ (L:List Int) (i:Nat):Nat:=mQ L i + 1 + 4 * nM L i
structure Sp where
 link:Int
 radius:Int
 pts:List Z3
end Go.Sx
namespace Go.Sx
open Go.RowKit
structure Cn where
 kind:Int
 link:Int
 p:Z3
 n:Z3
 lo:Int
 hi:Int
def cnc (c:Cn):List Value:=[.int .i64 c.kind,.int .i64 c.link,.int .i64 c.p.x,.int .i64 c.p.y,.int .i64 c.p.z,.int .i64 c.n.x,.int .i64 c.n.y,.int .i64 c.n.z,.int .i64 c.lo,.int .i64 c.hi]
def cnOf (nf:Int→Int→Int→Z3) (L:List Int) (q:Nat) (m:Int):Cn × Nat :=
 (⟨srcR L q 2,if srcR L (q + 10) 24=1 then srcR L (q + 11) 9 - 3 else srcR L (q + 1) m,⟨(srcS L (q + 2) 4 * 65536).tdiv 2,srcS L (q + 3) 2 * 65536,(srcS L (q + 4) 2 * 65536).tdiv 2⟩,
  nf (srcR L (q + 5) 4096) (srcR L (q + 6) 4096) (srcR L (q + 7) 4096),srcS L (q + 8) 60 * 65536,srcS L (q + 8) 60 * 65536 + srcR L (q + 9) 90 * 65536⟩,if srcR L (q + 10) 24=1 then q + 12 else q + 11)
def yZV (nf:Int→Int→Int→Z3) (L:List Int) (m:Int):Nat→List Cn × Nat
 | 0=>([],0)
 | k + 1=>((yZV nf L m k).1 ++ [(cnOf nf L (yZV nf L m k).2 m).1],(cnOf nf L (yZV nf L m k).2 m).2)
theorem jQJ (nf:Int→Int→Int→Z3) (L:List Int) (m:Int):∀ k,(yZV nf L m k).1.length=k
 | 0=>rfl
 | k + 1=>by simp [yZV,jQJ nf L m k]
def cnC (l:List Cn):List Value:=(l.map cnc).flatten
theorem cnC_snoc (l:List Cn) (x:Cn):cnC (l ++ [x])=cnC l ++ cnc x:=by simp [cnC]
section
variable {nf:Int→Int→Int→Z3} {L:List Int} {m:Int} {k q:Nat} {l:List Cn} {a0 a1 a2 a3 a4 a5 a6 a7 a8 a9 b0 b1:Int} {z:Z3}
theorem cns_t (h:yZV nf L m k=(l,q)) (h0:a0=srcR L q 2) (h2:a2=srcS L (q + 2) 4) (h3:a3=srcS L (q + 3) 2) (h4:a4=srcS L (q + 4) 2) (h5:a5=srcR L (q + 5) 4096) (h6:a6=srcR L (q + 6) 4096) (h7:a7=srcR L (q + 7) 4096)
  (hz:z=nf a5 a6 a7) (h8:a8=srcS L (q + 8) 60) (h9:a9=srcR L (q + 9) 90) (hb:b0=srcR L (q + 10) 24) (h1:b0=1) (hc:b1=srcR L (q + 11) 9) :
  yZV nf L m (k + 1)=(l ++ [⟨a0,b1 - 3,⟨(a2 * 65536).tdiv 2,a3 * 65536,(a4 * 65536).tdiv 2⟩,z,a8 * 65536,a8 * 65536 + a9 * 65536⟩],q + 12):=by
 subst h0 h2 h3 h4 h5 h6 h7 hz h8 h9 hc;simp only [yZV,h,cnOf,← hb,h1,if_true]
theorem cns_f (h:yZV nf L m k=(l,q)) (h0:a0=srcR L q 2) (ha:a1=srcR L (q + 1) m) (h2:a2=srcS L (q + 2) 4) (h3:a3=srcS L (q + 3) 2) (h4:a4=srcS L (q + 4) 2) (h5:a5=srcR L (q + 5) 4096) (h6:a6=srcR L (q + 6) 4096) (h7:a7=srcR L (q + 7) 4096)
  (hz:z=nf a5 a6 a7) (h8:a8=srcS L (q + 8) 60) (h9:a9=srcR L (q + 9) 90) (hb:b0=srcR L (q + 10) 24) (h1:¬ b0=1) :
  yZV nf L m (k + 1)=(l ++ [⟨a0,a1,⟨(a2 * 65536).tdiv 2,a3 * 65536,(a4 * 65536).tdiv 2⟩,z,a8 * 65536,a8 * 65536 + a9 * 65536⟩],q + 11):=by
 subst h0 ha h2 h3 h4 h5 h6 h7 hz h8 h9;simp only [yZV,h,cnOf,← hb,h1,if_false]
end
end Go.Sx
namespace Go.Proofs.YtmffoiemmlcmfaaGreat
open Go.Rx Rt Go.Sx Go.RowKit
def andI (k:IntKind) (x y:Int):Int:=k.wrap ((BitVec.ofInt k.bits x &&& BitVec.ofInt k.bits y).toNat)
theorem qZJ {β γ:Type} {F:β→γ} {c:Bool} {a b:γ} {f g:β} (h1:a=F f) (h2:b=F g):(bif c then a else b)=F (bif c then f else g):=by cases c <;> assumption
noncomputable def zUQ:List PV→Option (Bool × Ret):=fun ps=>match ps with
 | [.n .i64 n,.n .i64 k]=>some (decide (0 < k∧k≤9223372036854775807),.v (.n .i64 (n % k)))
 | _=>none
theorem yGU:zW Tryz.prog 9 zUQ:=by
 intro ps r h;unfold zUQ at h;split at h
 ·simp only [vQZ,vQY] at h;obtain ⟨hg,rfl⟩:=h;exact zJ (zQ Tryz.func9 (by kernel_rfl) (by kernel_rfl)) rfl rfl (fun w=>kJZ _ _ (vJZ hg) w)
 ·cases h
noncomputable def L1:OrL:=(9,zUQ) :: ([]:OrL)
theorem uZU:AllP (fun x:Nat × (List PV→Option (Bool × Ret))=>zW Tryz.prog x.1 x.2) L1:=⟨yGU,trivial⟩
set_option maxRecDepth 100000 in
theorem tr_rUsable (x:Int) (y:Int) (z:Int):runK T (OrL.k L1) 60 61 [.a [.n .i64 x,.n .i64 y,.n .i64 z]] =
 bif (!((decide (x=0)) && ((decide (y=0)) && ((decide (z=0)) && true)))) then (bif (decide (x < (-16384))) then some (.v (.b false),[])
  else bif (decide (16384 < x)) then some (.v (.b false),[])
  else bif (decide (y < (-16384))) then some (.v (.b false),[])
  else bif (decide (16384 < y)) then some (.v (.b false),[])
  else bif (decide (z < (-16384))) then some (.v (.b false),[])
  else bif (decide (16384 < z)) then some (.v (.b false),[])
  else some (.v (.b true),[]))
 else some (.v (.b false),[]):=by kernel_rfl
noncomputable def rUse (x y z:Int):Bool:=(bif (!((decide (x=0)) && ((decide (y=0)) && ((decide (z=0)) && true)))) then (bif (decide (x < (-16384))) then false else (bif (decide (16384 < x)) then false else (bif (decide (y < (-16384))) then false else (bif (decide (16384 < y)) then false else (bif (decide (z < (-16384))) then false else (bif (decide (16384 < z)) then false else true)))))) else false)
def zQQ:Bool→Option (Ret × Mem):=fun v=>some (.v (.b v),[])
theorem sp_rUsable (x y z:Int):runK T (OrL.k L1) 60 61 [.a [.n .i64 x,.n .i64 y,.n .i64 z]]=some (.v (.b (rUse x y z)),[]):=by
 rw [tr_rUsable];exact ((qZJ (F:=zQQ) (qZJ (F:=zQQ) rfl (qZJ (F:=zQQ) rfl (qZJ (F:=zQQ) rfl (qZJ (F:=zQQ) rfl (qZJ (F:=zQQ) rfl (qZJ (F:=zQQ) rfl rfl)))))) rfl):_=zQQ (rUse x y z))
noncomputable def yGV:List PV→Option (Bool × Ret):=fun ps=>match ps with
 | [.a z']=>(z3D z').bind fun z=>some (true,.v (.b (rUse z.x z.y z.z)))
 | _=>none
theorem ok_rUsable:zW Tryz.prog 61 yGV:=by
 intro ps r h;unfold yGV at h;split at h
 ·simp only [vQQ,vQZ,vQY] at h;obtain ⟨z,hz,hg,rfl⟩:=h;rw [yWX hz];exact qG yJ yQ (OrL.ok uZU) (sp_rUsable _ _ _)
 ·cases h
noncomputable def L2:OrL:=(61,yGV) :: L1
theorem kHY:AllP (fun x:Nat × (List PV→Option (Bool × Ret))=>zW Tryz.prog x.1 x.2) L2:=⟨ok_rUsable,uZU⟩
set_option maxRecDepth 100000 in
theorem tr_mNormal (a:Int) (b:Int) (c:Int):runK T (OrL.k L2) 60 42 [.n .i64 a,.n .i64 b,.n .i64 c] =
 bif (decide ((andI .i64 a 8)=8)) then (bif rUse (Z3.mk (vJJ .i64 (a % 32769 - 16384)) (vJJ .i64 (b % 32769 - 16384)) (vJJ .i64 (c % 32769 - 16384))).x (Z3.mk (vJJ .i64 (a % 32769 - 16384)) (vJJ .i64 (b % 32769 - 16384)) (vJJ .i64 (c % 32769 - 16384))).y (Z3.mk (vJJ .i64 (a % 32769 - 16384)) (vJJ .i64 (b % 32769 - 16384)) (vJJ .i64 (c % 32769 - 16384))).z then some (.v (.a [.n .i64 (vJJ .i64 (a % 32769 - 16384)),.n .i64 (vJJ .i64 (b % 32769 - 16384)),.n .i64 (vJJ .i64 (c % 32769 - 16384))]),[])
  else some (.v (.a [.n .i64 1,.n .i64 0,.n .i64 0]),[]))
 else bif rUse (Z3.mk (vJJ .i64 (a % 41 - 20)) (vJJ .i64 (b % 41 - 20)) (vJJ .i64 (c % 41 - 20))).x (Z3.mk (vJJ .i64 (a % 41 - 20)) (vJJ .i64 (b % 41 - 20)) (vJJ .i64 (c % 41 - 20))).y (Z3.mk (vJJ .i64 (a % 41 - 20)) (vJJ .i64 (b % 41 - 20)) (vJJ .i64 (c % 41 - 20))).z then some (.v (.a [.n .i64 (vJJ .i64 (a % 41 - 20)),.n .i64 (vJJ .i64 (b % 41 - 20)),.n .i64 (vJJ .i64 (c % 41 - 20))]),[])
 else some (.v (.a [.n .i64 1,.n .i64 0,.n .i64 0]),[]):=by kernel_rfl
noncomputable def nrm (a b c:Int):Z3:=(bif (decide ((andI .i64 a 8)=8)) then (bif rUse (Z3.mk (vJJ .i64 (a % 32769 - 16384)) (vJJ .i64 (b % 32769 - 16384)) (vJJ .i64 (c % 32769 - 16384))).x (Z3.mk (vJJ .i64 (a % 32769 - 16384)) (vJJ .i64 (b % 32769 - 16384)) (vJJ .i64 (c % 32769 - 16384))).y (Z3.mk (vJJ .i64 (a % 32769 - 16384)) (vJJ .i64 (b % 32769 - 16384)) (vJJ .i64 (c % 32769 - 16384))).z then (Z3.mk (vJJ .i64 (a % 32769 - 16384)) (vJJ .i64 (b % 32769 - 16384)) (vJJ .i64 (c % 32769 - 16384))) else (Z3.mk 1 0 0)) else (bif rUse (Z3.mk (vJJ .i64 (a % 41 - 20)) (vJJ .i64 (b % 41 - 20)) (vJJ .i64 (c % 41 - 20))).x (Z3.mk (vJJ .i64 (a % 41 - 20)) (vJJ .i64 (b % 41 - 20)) (vJJ .i64 (c % 41 - 20))).y (Z3.mk (vJJ .i64 (a % 41 - 20)) (vJJ .i64 (b % 41 - 20)) (vJJ .i64 (c % 41 - 20))).z then (Z3.mk (vJJ .i64 (a % 41 - 20)) (vJJ .i64 (b % 41 - 20)) (vJJ .i64 (c % 41 - 20))) else (Z3.mk 1 0 0)))
def yYJ:Z3→Option (Ret × Mem):=fun v=>some (.v (.a (z3C v)),[])
theorem sp_mNormal (a b c:Int):runK T (OrL.k L2) 60 42 [.n .i64 a,.n .i64 b,.n .i64 c]=some (.v (.a (z3C (nrm a b c))),[]):=by
 rw [tr_mNormal];exact ((qZJ (F:=yYJ) (qZJ (F:=yYJ) rfl rfl) (qZJ (F:=yYJ) rfl rfl)):_=yYJ (nrm a b c))
noncomputable def yHQ:List PV→Option (Bool × Ret):=fun ps=>match ps with
 | [.n .i64 a,.n .i64 b,.n .i64 c]=>some (true,.v (.a (z3C (nrm a b c))))
 | _=>none
theorem ok_mNormal:zW Tryz.prog 42 yHQ:=by
 intro ps r h;unfold yHQ at h;split at h
 ·simp only [vQZ,vQY] at h;obtain ⟨hg,rfl⟩:=h;exact qG yJ yQ (OrL.ok kHY) (sp_mNormal _ _ _)
 ·cases h
noncomputable def L3:OrL:=(42,yHQ) :: L2
theorem L3_ok:AllP (fun x:Nat × (List PV→Option (Bool × Ret))=>zW Tryz.prog x.1 x.2) L3:=⟨ok_mNormal,kHY⟩
theorem mNormal2 (a b c:Int) (w:World):Calls Tryz.prog 42 [.int .i64 a,.int .i64 b,.int .i64 c].toArray w (Rets (z3 (nrm a b c)) w):=zX (qG yJ yQ (OrL.ok kHY) (sp_mNormal a b c)) rfl rfl w
end Go.Proofs.YtmffoiemmlcmfaaGreat
namespace Go.Proofs.YtmffoiemmlcmfaaGreat
open Go.Sx Go.Rx Rt Go.RowKit
namespace Tm
end Tm
open Tm
theorem la170:qKJ Tryz.prog 170=some ([.int .i64 0,.int .i64 0,.int .i64 0,.int .i64 0],[(0,1),(1,1),(2,1),(3,1)]):=by kernel_rfl
theorem ze170:qYU Tryz.prog 170 (.agg #[.int .i64 0,.int .i64 0,.int .i64 0,.int .i64 0]):=by unfold qYU; kernel_rfl
theorem ty170:tyB Tryz.prog 170 true 4=true:=by kernel_rfl
theorem ar170:arrB Tryz.prog 170 4 1=true:=by kernel_rfl
theorem en162:kH Tryz.prog 162:=zQ Tryz.func162 (by kernel_rfl) (by kernel_rfl)
theorem iScaled (a:Int) (b:Int) (ha:In64 a) (hb:In64 b) (hc:b≤4611686018427387904) (w:World):Calls Tryz.prog 162 [.int .i64 a,.int .i64 b].toArray w (Rets (iv (Iv.mk (qYG (a / 65536)) (qYG (zG b 65536)))) (w)):=by
 refine jY (n:=10) Tryz.func162 rfl rfl rfl ?_;refine qW ?_;refine qZ ?_;refine qKV 4 ze72 rfl rfl rfl ?_; intro b4;refine qX ?_;refine qQ ?_;refine qW ?_;refine qZ ?_;refine qJ (qK rfl) rfl rfl rfl ?_;refine qHG (F:=vI) (uG en169 rfl (fun w _=>yUY _ _ (by decide) w)) rfl rfl rfl ?_; intro r6 hr6;refine qJ (qK rfl) rfl rfl rfl ?_;refine qHG (F:=vI) (uG en170 rfl (fun w _=>jUU _ _ (by decide) hb w)) rfl rfl rfl ?_; intro r8 hr8;refine qHG (F:=iv) (uG en92 rfl (fun w _=>iLimited _ _  w)) rfl rfl rfl ?_; intro r9 hr9;refine zV 4 ty72 rfl rfl rfl rfl rfl rfl rfl rfl ?_;refine qX ?_;refine qQ ?_;refine jU ?_;refine yU (rs:=[.cell 4 72]) rfl (resC (jH 4 rfl rfl ty72 rfl) (resN)) (congrArg (iv) (?_:⟨_,_⟩=Iv.mk (qYG (a / 65536)) (qYG (zG b 65536))))
 subst_vars; rfl
theorem ix4_0 {p0 p1 p2 p3:Int}:∀ w:World,(Instr.index 170 (.agg #[.int .i64 p0,.int .i64 p1,.int .i64 p2,.int .i64 p3]) (.int .i64 0)).run Tryz.prog w=.ok (.int .i64 p0) w:=fun w=>by kernel_rfl
theorem ix4_1 {p0 p1 p2 p3:Int}:∀ w:World,(Instr.index 170 (.agg #[.int .i64 p0,.int .i64 p1,.int .i64 p2,.int .i64 p3]) (.int .i64 1)).run Tryz.prog w=.ok (.int .i64 p1) w:=fun w=>by kernel_rfl
theorem ix4_2 {p0 p1 p2 p3:Int}:∀ w:World,(Instr.index 170 (.agg #[.int .i64 p0,.int .i64 p1,.int .i64 p2,.int .i64 p3]) (.int .i64 2)).run Tryz.prog w=.ok (.int .i64 p2) w:=fun w=>by kernel_rfl
theorem ix4_3 {p0 p1 p2 p3:Int}:∀ w:World,(Instr.index 170 (.agg #[.int .i64 p0,.int .i64 p1,.int .i64 p2,.int .i64 p3]) (.int .i64 3)).run Tryz.prog w=.ok (.int .i64 p3) w:=fun w=>by kernel_rfl
theorem iMul (a0 a1:Int) (b0 b1:Int) (w:World):Calls Tryz.prog 151 [.agg #[.int .i64 a0,.int .i64 a1],.agg #[.int .i64 b0,.int .i64 b1]].toArray w (Rets (iv (Iv.mul (⟨a0,a1⟩:Iv) (⟨b0,b1⟩:Iv))) (w)):=by
 refine jY (n:=54) Tryz.func151 rfl rfl rfl ?_;refine qW ?_;refine qZ ?_;refine zYQ 2 rfl rfl rfl rfl ?_; intro b2;refine zYQ 3 rfl rfl rfl rfl ?_; intro b3;refine qKV 4 ze72 rfl rfl rfl ?_; intro b4;refine qX ?_;refine qQ ?_;refine qW ?_;refine qW ?_;refine qZ ?_;refine qJ (jG 2 ty72 rfl rfl rfl) rfl rfl rfl ?_;refine qJ (jG 3 ty72 rfl rfl rfl) rfl rfl rfl ?_;refine qHG (F:=vB) (uG en120 rfl (fun w _=>iValid2 _ _ _ _  w)) rfl rfl rfl ?_; intro r12 hr12;refine qJ (yGZ rfl) rfl rfl rfl ?_;refine qX ?_;refine qQ ?_;refine kZ rfl (fun hc13 => ?_) (fun hc13 => ?_)
 ·
  refine qW ?_;refine qZ ?_;refine qJ (qZV la72 rfl rfl) rfl rfl rfl ?_;refine zV 4 ty72 rfl rfl rfl rfl rfl rfl rfl rfl ?_;refine qX ?_;refine qQ ?_;refine jU ?_;refine zQG ?_;refine yU (rs:=[.cell 4 72]) rfl (resC (jH 4 rfl rfl ty72 rfl) (resN)) (congrArg (iv) (?_:⟨_,_⟩=Iv.mul (⟨a0,a1⟩:Iv) (⟨b0,b1⟩:Iv)))
  subst_vars; first | (simp_all [Iv.mul,min4,max4]; done) | (simp_all [Iv.mul,min4,max4] <;> omega) | grind [Iv.mul,min4,max4]
 ·
  refine kJ ?_;refine qQ ?_;refine qW ?_;have hv:=(hr12.symm.trans (by simpa using hc13))
  rw [vQJ] at hv;have ha:=qZQ hv.1;have hb:=qZQ hv.2;have m1:=zUY (a:=a0) (b:=b0) (by omega) (by omega);have m2:=zUY (a:=a0) (b:=b1) (by omega) (by omega);have m3:=zUY (a:=a1) (b:=b0) (by omega) (by omega);have m4:=zUY (a:=a1) (b:=b1) (by omega) (by omega);refine qZ ?_;refine qJ (qU zXZ rfl) rfl rfl rfl ?_;refine qJ (yX 2 ty2 rfl rfl rfl) rfl rfl rfl ?_;refine qJ (qU zXZ rfl) rfl rfl rfl ?_;refine qJ (yX 3 ty2 rfl rfl rfl) rfl rfl rfl ?_;refine qJ (kQ rfl rfl (by first | exact zK ⟨by omega,by omega⟩ | rfl)) rfl rfl rfl ?_;refine qJ (qU zXZ rfl) rfl rfl rfl ?_;refine qJ (yX 2 ty2 rfl rfl rfl) rfl rfl rfl ?_;refine qJ (qU yZJ rfl) rfl rfl rfl ?_;refine qJ (yX 3 ty2 rfl rfl rfl) rfl rfl rfl ?_;refine qJ (kQ rfl rfl (by first | exact zK ⟨by omega,by omega⟩ | rfl)) rfl rfl rfl ?_;refine qJ (qU yZJ rfl) rfl rfl rfl ?_;refine qJ (yX 2 ty2 rfl rfl rfl) rfl rfl rfl ?_;refine qJ (qU zXZ rfl) rfl rfl rfl ?_;refine qJ (yX 3 ty2 rfl rfl rfl) rfl rfl rfl ?_;refine qJ (kQ rfl rfl (by first | exact zK ⟨by omega,by omega⟩ | rfl)) rfl rfl rfl ?_;refine qJ (qU yZJ rfl) rfl rfl rfl ?_;refine qJ (yX 2 ty2 rfl rfl rfl) rfl rfl rfl ?_;refine qJ (qU yZJ rfl) rfl rfl rfl ?_;refine qJ (yX 3 ty2 rfl rfl rfl) rfl rfl rfl ?_;refine qJ (kQ rfl rfl (by first | exact zK ⟨by omega,by omega⟩ | rfl)) rfl rfl rfl ?_;refine qJ (qZV la170 rfl rfl) rfl rfl rfl ?_;refine qKV 5 ze170 rfl rfl rfl ?_; intro b5;refine zV 5 ty170 rfl rfl rfl rfl rfl rfl rfl rfl ?_;refine qX ?_;refine qQ ?_;refine qW ?_;refine qWU 5 mo (by kernel_rfl) ?_;simp only [vYK,vYX,vYU,vYW];refine yV (zKV ar170 rfl rfl (by first | decide | omega) (by first | decide | omega)) rfl rfl rfl ?_;refine yV (yX 5 ty2 rfl rfl rfl) rfl rfl rfl ?_;refine yV (zKV ar170 rfl rfl (by first | decide | omega) (by first | decide | omega)) rfl rfl rfl ?_;refine yV (yX 5 ty2 rfl rfl rfl) rfl rfl rfl ?_;refine yV (qV rfl) rfl rfl rfl ?_;refine zYZ ?_;refine qWG ?_;refine qJ (qV rfl) rfl rfl rfl ?_;refine qX ?_;refine qQ ?_;refine qW ?_;refine qW ?_;refine qZ ?_;refine qJ (jG 5 ty170 rfl rfl rfl) rfl rfl rfl ?_;refine qJ (qK rfl) rfl rfl rfl ?_;refine qX ?_;refine qQ ?_;refine uW ?_;refine doC_rounds 5 ?_;refine yZK ?_;refine qW ?_;refine qZ ?_;refine qJ (qVV rfl rfl) rfl rfl rfl ?_;refine qX ?_;refine qQ ?_;refine qW ?_;refine qXY rfl (by decide) ?_;refine kJ ?_;refine qQ ?_;refine qW ?_;refine uW ?_;refine qW ?_;refine qZ ?_;refine qJ (zZV rfl rfl (ix4_0)) rfl rfl rfl ?_;refine qJ (qV rfl) rfl rfl rfl ?_;refine qX ?_;refine qQ ?_;refine qZ ?_;refine qJ (qK rfl) rfl rfl rfl ?_;refine qJ (qK rfl) rfl rfl rfl ?_;refine qJ (zKX rfl rfl) rfl rfl rfl ?_;refine qJ (qK rfl) rfl rfl rfl ?_;refine qJ (qK rfl) rfl rfl rfl ?_;refine qJ (zKW rfl rfl) rfl rfl rfl ?_;refine qJ (qV rfl) rfl rfl rfl ?_;refine qJ (qV rfl) rfl rfl rfl ?_;refine qX ?_;refine zU ?_;refine qQ ?_;refine qZ ?_;refine qJ (uQ rfl rfl (by first | exact zK ⟨by omega,by omega⟩ | rfl)) rfl rfl rfl ?_;refine qJ (qK rfl) rfl rfl rfl ?_;refine qX ?_;refine zKU ?_;refine yZK ?_;refine qW ?_;refine qZ ?_;refine qJ (qVV rfl rfl) rfl rfl rfl ?_;refine qX ?_;refine qQ ?_;refine qW ?_;refine qXY rfl (by decide) ?_;refine kJ ?_;refine qQ ?_;refine qW ?_;refine uW ?_;refine qW ?_;refine qZ ?_;refine qJ (zZV rfl rfl (ix4_1)) rfl rfl rfl ?_;refine qJ (qV rfl) rfl rfl rfl ?_;refine qX ?_;refine qQ ?_;refine qZ ?_;refine qJ (qK rfl) rfl rfl rfl ?_;refine qJ (qK rfl) rfl rfl rfl ?_;refine qJ (zKX rfl rfl) rfl rfl rfl ?_;refine qJ (qK rfl) rfl rfl rfl ?_;refine qJ (qK rfl) rfl rfl rfl ?_;refine qJ (zKW rfl rfl) rfl rfl rfl ?_;refine qJ (qV rfl) rfl rfl rfl ?_;refine qJ (qV rfl) rfl rfl rfl ?_;refine qX ?_;refine zU ?_;refine qQ ?_;refine qZ ?_;refine qJ (uQ rfl rfl (by first | exact zK ⟨by omega,by omega⟩ | rfl)) rfl rfl rfl ?_;refine qJ (qK rfl) rfl rfl rfl ?_;refine qX ?_;refine zKU ?_;refine yZK ?_;refine qW ?_;refine qZ ?_;refine qJ (qVV rfl rfl) rfl rfl rfl ?_;refine qX ?_;refine qQ ?_;refine qW ?_;refine qXY rfl (by decide) ?_;refine kJ ?_;refine qQ ?_;refine qW ?_;refine uW ?_;refine qW ?_;refine qZ ?_;refine qJ (zZV rfl rfl (ix4_2)) rfl rfl rfl ?_;refine qJ (qV rfl) rfl rfl rfl ?_;refine qX ?_;refine qQ ?_;refine qZ ?_;refine qJ (qK rfl) rfl rfl rfl ?_;refine qJ (qK rfl) rfl rfl rfl ?_;refine qJ (zKX rfl rfl) rfl rfl rfl ?_;refine qJ (qK rfl) rfl rfl rfl ?_;refine qJ (qK rfl) rfl rfl rfl ?_;refine qJ (zKW rfl rfl) rfl rfl rfl ?_;refine qJ (qV rfl) rfl rfl rfl ?_;refine qJ (qV rfl) rfl rfl rfl ?_;refine qX ?_;refine zU ?_;refine qQ ?_;refine qZ ?_;refine qJ (uQ rfl rfl (by first | exact zK ⟨by omega,by omega⟩ | rfl)) rfl rfl rfl ?_;refine qJ (qK rfl) rfl rfl rfl ?_;refine qX ?_;refine zKU ?_;refine yZK ?_;refine qW ?_;refine qZ ?_;refine qJ (qVV rfl rfl) rfl rfl rfl ?_;refine qX ?_;refine qQ ?_;refine qW ?_;refine qXY rfl (by decide) ?_;refine kJ ?_;refine qQ ?_;refine qW ?_;refine uW ?_;refine qW ?_;refine qZ ?_;refine qJ (zZV rfl rfl (ix4_3)) rfl rfl rfl ?_;refine qJ (qV rfl) rfl rfl rfl ?_;refine qX ?_;refine qQ ?_;refine qZ ?_;refine qJ (qK rfl) rfl rfl rfl ?_;refine qJ (qK rfl) rfl rfl rfl ?_;refine qJ (zKX rfl rfl) rfl rfl rfl ?_;refine qJ (qK rfl) rfl rfl rfl ?_;refine qJ (qK rfl) rfl rfl rfl ?_;refine qJ (zKW rfl rfl) rfl rfl rfl ?_;refine qJ (qV rfl) rfl rfl rfl ?_;refine qJ (qV rfl) rfl rfl rfl ?_;refine qX ?_;refine zU ?_;refine qQ ?_;refine qZ ?_;refine qJ (uQ rfl rfl (by first | exact zK ⟨by omega,by omega⟩ | rfl)) rfl rfl rfl ?_;refine qJ (qK rfl) rfl rfl rfl ?_;refine qX ?_;refine zKU ?_;refine yZK ?_;refine qW ?_;refine qZ ?_;refine qJ (qVV rfl rfl) rfl rfl rfl ?_;refine qX ?_;refine qQ ?_;refine qW ?_;refine zVX rfl (by decide) ?_;refine zUU ?_;refine kK ?_;refine kK ?_;refine qYX ?_;refine qQ ?_;refine qW ?_;refine qZ ?_;refine qJ (qK rfl) rfl rfl rfl ?_;refine qJ (qK rfl) rfl rfl rfl ?_;refine qHG (F:=iv) (uG en162 rfl (fun w _=>iScaled _ _ (by unfold In64; omega) (by unfold In64; omega) (by omega) w)) rfl rfl rfl ?_; intro r53 hr53;refine zV 4 ty72 rfl rfl rfl rfl rfl rfl rfl rfl ?_;refine qX ?_;refine qQ ?_;refine jU ?_;refine yU (rs:=[.cell 4 72]) rfl (resC (jH 4 rfl rfl ty72 rfl) (resN)) (congrArg (iv) (?_:⟨_,_⟩=Iv.mul (⟨a0,a1⟩:Iv) (⟨b0,b1⟩:Iv)))
  subst_vars; first | (simp_all [Iv.mul,min4,max4]; done) | (simp_all [Iv.mul,min4,max4] <;> omega) | grind [Iv.mul,min4,max4]
namespace Tm
noncomputable def LTm1:OrL:=(59,Ta.o_iOf) :: ([]:OrL)
theorem LTm1_ok:AllP (fun x:Nat × (List PV→Option (Bool × Ret))=>zW Tryz.prog x.1 x.2) LTm1:=⟨Ta.ok_iOf,trivial⟩
noncomputable def LTm2:OrL:=(70,Ta.o_rOf) :: LTm1
theorem kYU:AllP (fun x:Nat × (List PV→Option (Bool × Ret))=>zW Tryz.prog x.1 x.2) LTm2:=⟨Ta.ok_rOf,LTm1_ok⟩
end Tm
set_option maxRecDepth 100000 in
theorem mPoint (p0 p1 p2:Int) (w:World):Calls Tryz.prog 88 [.agg #[.int .i64 p0,.int .i64 p1,.int .i64 p2]].toArray w (Rets (v3 (V3.of (⟨p0,p1,p2⟩:Z3))) (w)) :=
 zX (x:=.a (v3C (V3.of ⟨p0,p1,p2⟩))) (qG (N:=60) (ps:=[.a [.n .i64 p0,.n .i64 p1,.n .i64 p2]]) yJ yQ (OrL.ok (l:=LTm2) kYU) (by kernel_rfl)) rfl rfl w
set_option maxRecDepth 100000 in
theorem rPoint (p0 p1 p2:Int) (w:World):Calls Tryz.prog 44 [.agg #[.int .i64 p0,.int .i64 p1,.int .i64 p2]].toArray w (Rets (v3 (V3.of (⟨p0,p1,p2⟩:Z3))) (w)) :=
 zX (x:=.a (v3C (V3.of ⟨p0,p1,p2⟩))) (qG (N:=60) (ps:=[.a [.n .i64 p0,.n .i64 p1,.n .i64 p2]]) yJ yQ (OrL.ok (l:=LTm2) kYU) (by kernel_rfl)) rfl rfl w
namespace Tm
noncomputable def LTm3:OrL:=(135,Tn.o_iValid) :: LTm2
theorem LTm3_ok:AllP (fun x:Nat × (List PV→Option (Bool × Ret))=>zW Tryz.prog x.1 x.2) LTm3:=⟨Tn.ok_iValid,kYU⟩
noncomputable def o_iAdd:List PV→Option (Bool × Ret):=fun ps=>match ps with
 | [.a a',.a b']=>(ivD a').bind fun a=>(ivD b').bind fun b=>some (true,.v (.a (ivC (Iv.add a b))))
 | _=>none
theorem ok_iAdd:zW Tryz.prog 150 o_iAdd:=by
 intro ps r h;unfold o_iAdd at h;split at h
 ·simp only [vQQ,vQZ,vQY] at h;obtain ⟨a,ha,b,hb,hg,rfl⟩:=h;rw [qZY ha];rw [qZY hb];exact zJ (zQ Tryz.func150 (by kernel_rfl) (by kernel_rfl)) rfl rfl (fun w=>iAdd _ _ _ _ w)
 ·cases h
noncomputable def LTm4:OrL:=(150,o_iAdd) :: LTm3
theorem LTm4_ok:AllP (fun x:Nat × (List PV→Option (Bool × Ret))=>zW Tryz.prog x.1 x.2) LTm4:=⟨ok_iAdd,LTm3_ok⟩
noncomputable def LTm5:OrL:=(179,Ta.o_iNeg) :: LTm4
theorem LTm5_ok:AllP (fun x:Nat × (List PV→Option (Bool × Ret))=>zW Tryz.prog x.1 x.2) LTm5:=⟨Ta.ok_iNeg,LTm4_ok⟩
noncomputable def LTm6:OrL:=(106,Tn.o_rValid) :: LTm5
theorem LTm6_ok:AllP (fun x:Nat × (List PV→Option (Bool × Ret))=>zW Tryz.prog x.1 x.2) LTm6:=⟨Tn.ok_rValid,LTm5_ok⟩
noncomputable def o_rAdd:List PV→Option (Bool × Ret):=fun ps=>match ps with
 | [.a a',.a b']=>(ivD a').bind fun a=>(ivD b').bind fun b=>some (true,.v (.a (ivC (Iv.add a b))))
 | _=>none
theorem ok_rAdd:zW Tryz.prog 72 o_rAdd:=by
 intro ps r h;unfold o_rAdd at h;split at h
 ·simp only [vQQ,vQZ,vQY] at h;obtain ⟨a,ha,b,hb,hg,rfl⟩:=h;rw [qZY ha];rw [qZY hb];exact zJ (zQ Tryz.func72 (by kernel_rfl) (by kernel_rfl)) rfl rfl (fun w=>rAdd _ _ _ _ w)
 ·cases h
noncomputable def LTm7:OrL:=(72,o_rAdd) :: LTm6
theorem LTm7_ok:AllP (fun x:Nat × (List PV→Option (Bool × Ret))=>zW Tryz.prog x.1 x.2) LTm7:=⟨ok_rAdd,LTm6_ok⟩
noncomputable def LTm8:OrL:=(144,Ta.o_rNeg) :: LTm7
theorem jZQ:AllP (fun x:Nat × (List PV→Option (Bool × Ret))=>zW Tryz.prog x.1 x.2) LTm8:=⟨Ta.ok_rNeg,LTm7_ok⟩
end Tm
set_option maxRecDepth 100000 in
theorem mAdd (p0 p1 p2 p3 p4 p5:Int) (q0 q1 q2 q3 q4 q5:Int) (w:World):Calls Tryz.prog 160 [.agg #[.int .i64 p0,.int .i64 p1,.int .i64 p2,.int .i64 p3,.int .i64 p4,.int .i64 p5],.agg #[.int .i64 q0,.int .i64 q1,.int .i64 q2,.int .i64 q3,.int .i64 q4,.int .i64 q5]].toArray w (Rets (v3 (V3.add (⟨⟨p0,p1⟩,⟨p2,p3⟩,⟨p4,p5⟩⟩:V3) (⟨⟨q0,q1⟩,⟨q2,q3⟩,⟨q4,q5⟩⟩:V3))) (w)) :=
 zX (x:=.a (v3C (V3.add ⟨⟨p0,p1⟩,⟨p2,p3⟩,⟨p4,p5⟩⟩ ⟨⟨q0,q1⟩,⟨q2,q3⟩,⟨q4,q5⟩⟩))) (qG (N:=60) (ps:=[.a (ivs [⟨p0,p1⟩,⟨p2,p3⟩,⟨p4,p5⟩]),.a (ivs [⟨q0,q1⟩,⟨q2,q3⟩,⟨q4,q5⟩])]) yJ yQ (OrL.ok (l:=LTm8) jZQ) (by kernel_rfl)) rfl rfl w
set_option maxRecDepth 100000 in
theorem rAddVec (p0 p1 p2 p3 p4 p5:Int) (q0 q1 q2 q3 q4 q5:Int) (w:World):Calls Tryz.prog 71 [.agg #[.int .i64 p0,.int .i64 p1,.int .i64 p2,.int .i64 p3,.int .i64 p4,.int .i64 p5],.agg #[.int .i64 q0,.int .i64 q1,.int .i64 q2,.int .i64 q3,.int .i64 q4,.int .i64 q5]].toArray w (Rets (v3 (V3.add (⟨⟨p0,p1⟩,⟨p2,p3⟩,⟨p4,p5⟩⟩:V3) (⟨⟨q0,q1⟩,⟨q2,q3⟩,⟨q4,q5⟩⟩:V3))) (w)) :=
 zX (x:=.a (v3C (V3.add ⟨⟨p0,p1⟩,⟨p2,p3⟩,⟨p4,p5⟩⟩ ⟨⟨q0,q1⟩,⟨q2,q3⟩,⟨q4,q5⟩⟩))) (qG (N:=60) (ps:=[.a (ivs [⟨p0,p1⟩,⟨p2,p3⟩,⟨p4,p5⟩]),.a (ivs [⟨q0,q1⟩,⟨q2,q3⟩,⟨q4,q5⟩])]) yJ yQ (OrL.ok (l:=LTm8) jZQ) (by kernel_rfl)) rfl rfl w
set_option maxRecDepth 100000 in
theorem mIdentity  (w:World):Calls Tryz.prog 155 [].toArray w (Rets (m3 (M3.unit)) (w)) :=
 zX (x:=.a (m3C M3.unit)) (qG (N:=60) (ps:=[]) yJ yQ (OrL.ok (l:=LTm8) jZQ) (by kernel_rfl)) rfl rfl w
set_option maxRecDepth 100000 in
theorem rUnit  (w:World):Calls Tryz.prog 130 [].toArray w (Rets (m3 (M3.unit)) (w)) :=
 zX (x:=.a (m3C M3.unit)) (qG (N:=60) (ps:=[]) yJ yQ (OrL.ok (l:=LTm8) jZQ) (by kernel_rfl)) rfl rfl w
namespace Tm
noncomputable def yKK:List PV→Option (Bool × Ret):=fun ps=>match ps with
 | [.a a']=>(ivD a').bind fun a=>some (true,.v (.a (ivC (uV a))))
 | _=>none
theorem ok_aSinOver:zW Tryz.prog 178 yKK:=by
 intro ps r h;unfold yKK at h;split at h
 ·simp only [vQQ,vQZ,vQY] at h;obtain ⟨a,ha,hg,rfl⟩:=h;rw [qZY ha];exact zJ (zQ Tryz.func178 (by kernel_rfl) (by kernel_rfl)) rfl rfl (fun w=>aSinOver _ _ w)
 ·cases h
noncomputable def LTm9:OrL:=(178,yKK) :: LTm8
theorem LTm9_ok:AllP (fun x:Nat × (List PV→Option (Bool × Ret))=>zW Tryz.prog x.1 x.2) LTm9:=⟨ok_aSinOver,jZQ⟩
noncomputable def yKU:List PV→Option (Bool × Ret):=fun ps=>match ps with
 | [.a a']=>(ivD a').bind fun a=>some (true,.v (.a (ivC (uH a))))
 | _=>none
theorem ok_aCosOver:zW Tryz.prog 177 yKU:=by
 intro ps r h;unfold yKU at h;split at h
 ·simp only [vQQ,vQZ,vQY] at h;obtain ⟨a,ha,hg,rfl⟩:=h;rw [qZY ha];exact zJ (zQ Tryz.func177 (by kernel_rfl) (by kernel_rfl)) rfl rfl (fun w=>aCosOver _ _ w)
 ·cases h
noncomputable def LTm10:OrL:=(177,yKU) :: LTm9
theorem LTm10_ok:AllP (fun x:Nat × (List PV→Option (Bool × Ret))=>zW Tryz.prog x.1 x.2) LTm10:=⟨ok_aCosOver,LTm9_ok⟩
noncomputable def yJU:List PV→Option (Bool × Ret):=fun ps=>match ps with
 | [.a a']=>(ivD a').bind fun a=>some (true,.v (.a (ivC (uV a))))
 | _=>none
theorem ok_rSinOver:zW Tryz.prog 143 yJU:=by
 intro ps r h;unfold yJU at h;split at h
 ·simp only [vQQ,vQZ,vQY] at h;obtain ⟨a,ha,hg,rfl⟩:=h;rw [qZY ha];exact zJ (zQ Tryz.func143 (by kernel_rfl) (by kernel_rfl)) rfl rfl (fun w=>rSinOver _ _ w)
 ·cases h
noncomputable def LTm11:OrL:=(143,yJU) :: LTm10
theorem LTm11_ok:AllP (fun x:Nat × (List PV→Option (Bool × Ret))=>zW Tryz.prog x.1 x.2) LTm11:=⟨ok_rSinOver,LTm10_ok⟩
noncomputable def yJV:List PV→Option (Bool × Ret):=fun ps=>match ps with
 | [.a a']=>(ivD a').bind fun a=>some (true,.v (.a (ivC (uH a))))
 | _=>none
theorem ok_rCosOver:zW Tryz.prog 142 yJV:=by
 intro ps r h;unfold yJV at h;split at h
 ·simp only [vQQ,vQZ,vQY] at h;obtain ⟨a,ha,hg,rfl⟩:=h;rw [qZY ha];exact zJ (zQ Tryz.func142 (by kernel_rfl) (by kernel_rfl)) rfl rfl (fun w=>rCosOver _ _ w)
 ·cases h
noncomputable def uJJ:OrL:=(142,yJV) :: LTm11
theorem LTm12_ok:AllP (fun x:Nat × (List PV→Option (Bool × Ret))=>zW Tryz.prog x.1 x.2) uJJ:=⟨ok_rCosOver,LTm11_ok⟩
end Tm
set_option maxRecDepth 100000 in
theorem mTurn (axis:Int) (a0 a1:Int) (w:World):Calls Tryz.prog 173 [.int .i64 axis,.agg #[.int .i64 a0,.int .i64 a1]].toArray w (Rets (m3 (M3.turn axis (⟨a0,a1⟩:Iv))) (w)) :=
 zX (x:=.a (m3C (M3.turn axis ⟨a0,a1⟩))) (qG (N:=60) (ps:=[.n .i64 axis,.a [.n .i64 a0,.n .i64 a1]]) yJ yQ (OrL.ok (l:=uJJ) LTm12_ok) ((by kernel_rfl:_=bif Iv.valid (Iv.mk a0 a1) then (bif (decide (axis=0)) then some (.v (.a (ivs [(Iv.of 65536),(Iv.of 0),(Iv.of 0),(Iv.of 0),(uH (Iv.mk a0 a1)),(Iv.neg (uV (Iv.mk a0 a1))),(Iv.of 0),(uV (Iv.mk a0 a1)),(uH (Iv.mk a0 a1))])),[])
 else bif (decide (axis=1)) then some (.v (.a (ivs [(uH (Iv.mk a0 a1)),(Iv.of 0),(uV (Iv.mk a0 a1)),(Iv.of 0),(Iv.of 65536),(Iv.of 0),(Iv.neg (uV (Iv.mk a0 a1))),(Iv.of 0),(uH (Iv.mk a0 a1))])),[])
 else bif (decide (axis=2)) then some (.v (.a (ivs [(uH (Iv.mk a0 a1)),(Iv.neg (uV (Iv.mk a0 a1))),(Iv.of 0),(uV (Iv.mk a0 a1)),(uH (Iv.mk a0 a1)),(Iv.of 0),(Iv.of 0),(Iv.of 0),(Iv.of 65536)])),[])
 else some (.v (.a (ivs [iv0,iv0,iv0,iv0,iv0,iv0,iv0,iv0,iv0])),[]))
 else some (.v (.a (ivs [iv0,iv0,iv0,iv0,iv0,iv0,iv0,iv0,iv0])),[])).trans (by
 simp only [of_one,of_zero];unfold M3.turn;cases Iv.valid (Iv.mk a0 a1) <;> cases decide (axis=0) <;> cases decide (axis=1) <;> cases decide (axis=2) <;> rfl))) rfl rfl w
set_option maxRecDepth 100000 in
theorem rTurn (axis:Int) (a0 a1:Int) (w:World):Calls Tryz.prog 131 [.int .i64 axis,.agg #[.int .i64 a0,.int .i64 a1]].toArray w (Rets (m3 (M3.turn axis (⟨a0,a1⟩:Iv))) (w)) :=
 zX (x:=.a (m3C (M3.turn axis ⟨a0,a1⟩))) (qG (N:=60) (ps:=[.n .i64 axis,.a [.n .i64 a0,.n .i64 a1]]) yJ yQ (OrL.ok (l:=uJJ) LTm12_ok) ((by kernel_rfl:_=bif Iv.valid (Iv.mk a0 a1) then (bif (decide (axis=0)) then some (.v (.a (ivs [(Iv.of 65536),iv0,iv0,iv0,(uH (Iv.mk a0 a1)),(Iv.neg (uV (Iv.mk a0 a1))),iv0,(uV (Iv.mk a0 a1)),(uH (Iv.mk a0 a1))])),[])
 else bif (decide (axis=1)) then some (.v (.a (ivs [(uH (Iv.mk a0 a1)),iv0,(uV (Iv.mk a0 a1)),iv0,(Iv.of 65536),iv0,(Iv.neg (uV (Iv.mk a0 a1))),iv0,(uH (Iv.mk a0 a1))])),[])
 else bif (decide (axis=2)) then some (.v (.a (ivs [(uH (Iv.mk a0 a1)),(Iv.neg (uV (Iv.mk a0 a1))),iv0,(uV (Iv.mk a0 a1)),(uH (Iv.mk a0 a1)),iv0,iv0,iv0,(Iv.of 65536)])),[])
 else some (.v (.a (ivs [iv0,iv0,iv0,iv0,iv0,iv0,iv0,iv0,iv0])),[]))
 else some (.v (.a (ivs [iv0,iv0,iv0,iv0,iv0,iv0,iv0,iv0,iv0])),[])).trans (by
 simp only [of_one,of_zero];unfold M3.turn;cases Iv.valid (Iv.mk a0 a1) <;> cases decide (axis=0) <;> cases decide (axis=1) <;> cases decide (axis=2) <;> rfl))) rfl rfl w
end Go.Proofs.YtmffoiemmlcmfaaGreat

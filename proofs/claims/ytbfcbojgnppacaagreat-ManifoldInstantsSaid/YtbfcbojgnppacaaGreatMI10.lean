/- Part 10 of the texts behind the last one: rules and contracts. No condition. -/
import Derived.Test.YtbfcbojgnppacaaGreatMI9
open Option renaming bind_eq_some_iff → vQQ
open Option.some renaming injEq → vQZ
open Prod.mk renaming injEq → vQY
open Bool renaming and_eq_true → vQJ, and_self → vZJ, true_and → vZH
open List renaming take_succ_cons → vYK, drop_succ_cons → vYU, take_zero → vYX, drop_zero → vYW
open Go.IntKind renaming wrap → vJJ
namespace Go.Proofs.YtbfcbojgnppacaaGreat
open Go.Sx Go.Rx Rt Go.RowKit
namespace Ta
end Ta
open Ta
theorem en167:uQ Tryz.prog 167:=qU Tryz.func167 (by kernel_rfl) (by kernel_rfl)
theorem en168:uQ Tryz.prog 168:=qU Tryz.func168 (by kernel_rfl) (by kernel_rfl)
theorem en191:uQ Tryz.prog 191:=qU Tryz.func191 (by kernel_rfl) (by kernel_rfl)
theorem en176:uQ Tryz.prog 176:=qU Tryz.func176 (by kernel_rfl) (by kernel_rfl)
theorem en193:uQ Tryz.prog 193:=qU Tryz.func193 (by kernel_rfl) (by kernel_rfl)
theorem fSD14 (a:Int) (w:World):Calls Tryz.prog 167 [.int .i64 a,.int .i64 14].toArray w (Rets (vI (a / 16384)) w):=zYI a 14 (by decide) w
theorem fSU14 (a:Int) (ha:In64 a) (w:World):Calls Tryz.prog 168 [.int .i64 a,.int .i64 14].toArray w (Rets (vI (zZ a 16384)) w):=zHH a 14 (by decide) ha w
theorem aMod (a:Int) (w:World):Calls Tryz.prog 191 [.int .i64 a].toArray w (Rets (vI (a % 65536)) (w)):=by
 refine jW (n:=5) Tryz.func191 rfl rfl rfl ?_;refine zJ ?_;refine qJ ?_;refine qW (zQ rfl) rfl rfl rfl ?_;refine zK ?_;refine qZ ?_;refine zJ ?_;refine qJ ?_;refine qW (qV rfl) rfl rfl rfl ?_;refine qW (opV_and rfl rfl and_mask) rfl rfl rfl ?_;refine qW (zQ rfl) rfl rfl rfl ?_;refine zK ?_;refine qZ ?_;refine qQZ ?_;refine jH (rs:=[.tmp 2]) rfl (resC (uH rfl) (resN)) (congrArg (vI) (?_:_=a % 65536))
 first | rfl | (subst_vars; rfl) | (subst_vars; simp_all)
theorem rMod (a:Int) (w:World):Calls Tryz.prog 176 [.int .i64 a].toArray w (Rets (vI (a % 65536)) (w)):=by
 refine jW (n:=7) Tryz.func176 rfl rfl rfl ?_;refine zJ ?_;have h0 : -65536 < a.tmod 65536:=by have:=Int.lt_tmod_of_pos a (show (0:Int) < 65536 by decide); omega
 have h1:a.tmod 65536 < 65536:=Int.tmod_lt_of_pos a (by decide);refine qJ ?_;refine qW (zQ rfl) rfl rfl rfl ?_;refine zK ?_;refine qZ ?_;refine zJ ?_;refine qJ ?_;refine qW (qV rfl) rfl rfl rfl ?_;refine qW (zYQ rfl rfl (by first | decide | omega) (by first | exact tmod_nonneg (by omega) (by omega) | rfl)) rfl rfl rfl ?_;refine qW (qYA rfl rfl (by first | exact qK ⟨by omega,by omega⟩ | rfl)) rfl rfl rfl ?_;refine qW (zYQ rfl rfl (by first | decide | omega) (by first | exact tmod_nonneg (by omega) (by omega) | rfl)) rfl rfl rfl ?_;refine qW (zQ rfl) rfl rfl rfl ?_;refine zK ?_;refine qZ ?_;refine qQZ ?_;refine jH (rs:=[.tmp 2]) rfl (resC (uH rfl) (resN)) (congrArg (vI) (?_:_=a % 65536))
 have:=Int.tdiv_mul_add_tmod a 65536; omega
theorem aCeil (a:Int) (b:Int) (ha:0≤a∧a≤1073741824) (hb:0 < b∧b≤1073741824) (w:World):Calls Tryz.prog 198 [.int .i64 a,.int .i64 b].toArray w (Rets (vI (zZ a b)) (w)):=by
 refine jW (n:=11) Tryz.func198 rfl rfl rfl ?_;refine zJ ?_;refine qJ ?_;refine qW (zQ rfl) rfl rfl rfl ?_;refine zK ?_;refine qZ ?_;refine zJ ?_;refine qJ ?_;refine qW (qV rfl) rfl rfl rfl ?_;refine qW (qV rfl) rfl rfl rfl ?_;refine qW (qYA rfl rfl (by first | exact qK ⟨by omega,by omega⟩ | rfl)) rfl rfl rfl ?_;refine qW (zUC rfl rfl (by first | exact qK ⟨by omega,by omega⟩ | rfl)) rfl rfl rfl ?_;refine qW (qV rfl) rfl rfl rfl ?_;refine qW (zVI rfl rfl (by first | decide | omega) (ceil_quo ha hb)) rfl rfl rfl ?_;refine qW (zQ rfl) rfl rfl rfl ?_;refine zK ?_;refine qZ ?_;refine qQZ ?_;refine jH (rs:=[.tmp 4]) rfl (resC (uH rfl) (resN)) (congrArg (vI) (?_:_=zZ a b))
 first | rfl | (subst_vars; rfl) | (subst_vars; simp_all)
theorem aEnc (lo:Int) (hi:Int) (hh:In64 hi) (w:World):Calls Tryz.prog 199 [.int .i64 lo,.int .i64 hi].toArray w (Rets (iv (encI lo hi)) (w)):=by
 refine jW (n:=12) Tryz.func199 rfl rfl rfl ?_;refine zJ ?_;refine qJ ?_;refine qKA 4 ze65 rfl rfl rfl ?_; intro b4;refine zK ?_;refine qZ ?_;refine zJ ?_;refine qJ ?_;refine qW (qV rfl) rfl rfl rfl ?_;refine qUW (F:=vI) (uK en167 rfl (fun w _=>fSD14 _ w)) rfl rfl rfl ?_; intro r6 hr6;refine qW (qXL rfl rfl) rfl rfl rfl ?_;refine qW (qV rfl) rfl rfl rfl ?_;refine qUW (F:=vI) (uK en168 rfl (fun w _=>fSU14 _ hh w)) rfl rfl rfl ?_; intro r9 hr9;refine qW (qXI rfl rfl) rfl rfl rfl ?_;refine qW (qJV la65 rfl rfl) rfl rfl rfl ?_;refine qZL 4 ty65 rfl rfl rfl rfl rfl rfl rfl rfl ?_;refine zK ?_;refine qZ ?_;refine qQZ ?_;refine jH (rs:=[.cell 4 65]) rfl (resC (qYU 4 rfl rfl ty65 rfl) (resN)) (congrArg (iv) (?_:⟨_,_⟩=encI lo hi))
 subst_vars; first | (simp_all [encI]; done) | (simp_all [encI] <;> omega) | grind [encI]
theorem rEnc (lo:Int) (hi:Int) (hl:In64 lo) (hh:In64 hi) (w:World):Calls Tryz.prog 187 [.int .i64 lo,.int .i64 hi].toArray w (Rets (iv (encI lo hi)) (w)):=by
 refine jW (n:=12) Tryz.func187 rfl rfl rfl ?_;refine zJ ?_;refine qJ ?_;refine qKA 4 ze65 rfl rfl rfl ?_; intro b4;refine zK ?_;refine qZ ?_;refine zJ ?_;refine qJ ?_;refine qW (qV rfl) rfl rfl rfl ?_;refine qUW (F:=vI) (uK en41 rfl (fun w _=>yXZ _ _ hl (by decide) w)) rfl rfl rfl ?_; intro r6 hr6;refine qW (qXL rfl rfl) rfl rfl rfl ?_;refine qW (qV rfl) rfl rfl rfl ?_;refine qUW (F:=vI) (uK en78 rfl (fun w _=>yHE _ _ hh (by decide) w)) rfl rfl rfl ?_; intro r9 hr9;refine qW (qXI rfl rfl) rfl rfl rfl ?_;refine qW (qJV la65 rfl rfl) rfl rfl rfl ?_;refine qZL 4 ty65 rfl rfl rfl rfl rfl rfl rfl rfl ?_;refine zK ?_;refine qZ ?_;refine qQZ ?_;refine jH (rs:=[.cell 4 65]) rfl (resC (qYU 4 rfl rfl ty65 rfl) (resN)) (congrArg (iv) (?_:⟨_,_⟩=encI lo hi))
 subst_vars; first | (simp_all [encI]; done) | (simp_all [encI] <;> omega) | grind [encI]
theorem aMeets (a0 a1:Int) (c:Int) (hv:Iv.valid (⟨a0,a1⟩:Iv)=true) (_:0≤c∧c < 65536) (w:World):Calls Tryz.prog 190 [.agg #[.int .i64 a0,.int .i64 a1],.int .i64 c].toArray w (Rets (vB (kQ (⟨a0,a1⟩:Iv) c)) (w)):=by
 refine jW (n:=15) Tryz.func190 rfl rfl rfl ?_;refine zJ ?_;have hv2:=uZ hv;refine qJ ?_;refine qGF 2 rfl rfl rfl rfl ?_; intro b2;refine qW (zQ rfl) rfl rfl rfl ?_;refine zK ?_;refine qZ ?_;refine zJ ?_;refine qXJ 10 mo (by kernel_rfl) ?_;simp only [vYK,vYX,vYU,vYW];refine kZ (qKV 2 ty65 rfl rfl rfl) rfl rfl rfl ?_;refine kZ (zX qWA rfl) rfl rfl rfl ?_;refine kZ (jK 2 ty2 rfl rfl rfl) rfl rfl rfl ?_;refine kZ (qV rfl) rfl rfl rfl ?_;refine kZ (zX qWA rfl) rfl rfl rfl ?_;refine kZ (jK 2 ty2 rfl rfl rfl) rfl rfl rfl ?_;refine kZ (zUC rfl rfl (by first | exact qK ⟨by omega,by omega⟩ | rfl)) rfl rfl rfl ?_;refine yZY (F:=vI) (uK en191 rfl (fun w _=>aMod _  w)) rfl rfl rfl ?_; intro r12 hr12;have qr12:0≤r12∧r12 < 65536:=by omega
 refine kZ (qYA rfl rfl (by first | exact qK ⟨by omega,by omega⟩ | rfl)) rfl rfl rfl ?_;refine yZY (F:=vB) (uK en193 rfl (fun w _=>iHas _ _ _  w)) rfl rfl rfl ?_; intro r14 hr14;refine zYL ?_;refine qVG ?_;refine qW (zQ rfl) rfl rfl rfl ?_;refine zK ?_;refine qZ ?_;refine qQZ ?_;refine jH (rs:=[.tmp 4]) rfl (resC (uH rfl) (resN)) (congrArg (vB) (?_:_=kQ (⟨a0,a1⟩:Iv) c))
 subst_vars; simp only [Iv.has,kQ,hv,vZH]; rw [vJQ (by omega),vZH]
theorem rMeets (a0 a1:Int) (c:Int) (hv:Iv.valid (⟨a0,a1⟩:Iv)=true) (_:0≤c∧c < 65536) (w:World):Calls Tryz.prog 175 [.agg #[.int .i64 a0,.int .i64 a1],.int .i64 c].toArray w (Rets (vB (kQ (⟨a0,a1⟩:Iv) c)) (w)):=by
 refine jW (n:=16) Tryz.func175 rfl rfl rfl ?_;refine zJ ?_;have hv2:=uZ hv;refine qJ ?_;refine qGF 2 rfl rfl rfl rfl ?_; intro b2;refine qW (zQ rfl) rfl rfl rfl ?_;refine zK ?_;refine qZ ?_;refine zJ ?_;refine qXJ 11 mo (by kernel_rfl) ?_;simp only [vYK,vYX,vYU,vYW];refine kZ (zX qWA rfl) rfl rfl rfl ?_;refine kZ (jK 2 ty2 rfl rfl rfl) rfl rfl rfl ?_;refine kZ (qV rfl) rfl rfl rfl ?_;refine kZ (zX qWA rfl) rfl rfl rfl ?_;refine kZ (jK 2 ty2 rfl rfl rfl) rfl rfl rfl ?_;refine kZ (zUC rfl rfl (by first | exact qK ⟨by omega,by omega⟩ | rfl)) rfl rfl rfl ?_;refine yZY (F:=vI) (uK en176 rfl (fun w _=>rMod _  w)) rfl rfl rfl ?_; intro r11 hr11;have qr11:0≤r11∧r11 < 65536:=by omega
 refine kZ (qYA rfl rfl (by first | exact qK ⟨by omega,by omega⟩ | rfl)) rfl rfl rfl ?_;refine kZ (zX zQD rfl) rfl rfl rfl ?_;refine kZ (jK 2 ty2 rfl rfl rfl) rfl rfl rfl ?_;refine kZ (opV_leq rfl rfl) rfl rfl rfl ?_;refine zYL ?_;refine qVG ?_;refine qW (zQ rfl) rfl rfl rfl ?_;refine zK ?_;refine qZ ?_;refine qQZ ?_;refine jH (rs:=[.tmp 4]) rfl (resC (uH rfl) (resN)) (congrArg (vB) (?_:_=kQ (⟨a0,a1⟩:Iv) c))
 subst_vars; simp [kQ]
theorem mRound (n:Int) (k:Int) (hk:0 < k∧k≤9223372036854775807) (w:World):Calls Tryz.prog 10 [.int .i64 n,.int .i64 k].toArray w (Rets (vI (n % k)) (w)):=by
 refine jW (n:=15) Tryz.func10 rfl rfl rfl ?_;refine zJ ?_;have h0:=Int.lt_tmod_of_pos n hk.1;have h1:=Int.tmod_lt_of_pos n hk.1;refine qJ ?_;refine qW (zQ rfl) rfl rfl rfl ?_;refine zK ?_;refine qZ ?_;refine zJ ?_;refine qJ ?_;refine qW (qV rfl) rfl rfl rfl ?_;refine qW (qV rfl) rfl rfl rfl ?_;refine qW (zYQ rfl rfl (by first | decide | omega) rfl) rfl rfl rfl ?_;refine qW (zQ rfl) rfl rfl rfl ?_;refine zK ?_;refine qZ ?_;refine zJ ?_;refine zJ ?_;refine qJ ?_;refine qW (qV rfl) rfl rfl rfl ?_;refine qW (qKW rfl rfl) rfl rfl rfl ?_;refine zK ?_;refine qZ ?_;refine qJK rfl (fun hc10 => ?_) (fun hc10 => ?_)
 ·
  have h2:=vJZ hc10;refine qJ ?_;refine qW (qV rfl) rfl rfl rfl ?_;refine qW (qV rfl) rfl rfl rfl ?_;refine qW (qYA rfl rfl (by first | exact qK ⟨by omega,by omega⟩ | rfl)) rfl rfl rfl ?_;refine qW (zQ rfl) rfl rfl rfl ?_;refine zK ?_;refine qZ ?_;refine zJ ?_;refine qJ ?_;refine qW (qV rfl) rfl rfl rfl ?_;refine qW (zQ rfl) rfl rfl rfl ?_;refine zK ?_;refine qZ ?_;refine qQZ ?_;refine jH (rs:=[.tmp 4]) rfl (resC (uH rfl) (resN)) (congrArg (vI) (?_:_=n % k));exact round_neg hk.1 h2
 ·
  have h2:=vJY hc10;refine qZX ?_;refine qZ ?_;refine zJ ?_;refine qJ ?_;refine qW (qV rfl) rfl rfl rfl ?_;refine qW (zQ rfl) rfl rfl rfl ?_;refine zK ?_;refine qZ ?_;refine qQZ ?_;refine jH (rs:=[.tmp 4]) rfl (resC (uH rfl) (resN)) (congrArg (vI) (?_:_=n % k));exact round_pos hk.1 h2
namespace Ta
def iw (a:Int):Bool:=decide (-9223372036854775808≤a∧a≤9223372036854775807)
def pw (a:Int):Bool:=decide (0≤a∧a≤1073741824)
theorem yUW {a:Int} (h:iw a=true):In64 a:=by unfold iw at h; simp only [decide_eq_true_eq] at h; unfold In64; omega
theorem pw_of {a:Int} (h:pw a=true):0≤a∧a≤1073741824:=vJZ h
theorem iww (y:Int):iw (vJJ .i64 y)=true:=by
 refine vJQ ?_;unfold IntKind.wrap;have hb:IntKind.i64.bits=64:=rfl;have hs:IntKind.i64.signed=true:=rfl;simp only [hb,hs,vZH,decide_eq_true_eq]
 split <;> omega
theorem yHQ {x:Int} (h:0≤x∧x≤8192) (k:Nat):iw (dn x k)=true:=by have:=qYB h k; exact vJQ (by omega)
theorem yGL {x:Int} (h:0≤x∧x≤8192) (k:Nat):iw (up x k)=true:=by have:=qZK h k; exact vJQ (by omega)
theorem yVC {x:Int} (h:0≤x∧x≤8192) (k:Nat):pw (up x k)=true:=vJQ (qZK h k)
noncomputable def qVK:List PV→Option (Bool × Ret):=fun ps=>match ps with
 | [.n .i64 a,.n .i64 k]=>some (decide (0≤k∧k≤62),.v (.n .i64 (a / 2 ^ Int.toNat k)))
 | _=>none
theorem ok_fShiftDown:zY Tryz.prog 167 qVK:=by
 intro ps r h;unfold qVK at h;split at h
 ·simp only [vQZ,vQY] at h;obtain ⟨hg,rfl⟩:=h
  try simp only [vQJ,decide_eq_true_eq] at hg
  exact qY (qU Tryz.func167 (by kernel_rfl) (by kernel_rfl)) rfl rfl (fun w=>zYI _ _ hg w)
 ·cases h
noncomputable def LTa1:OrL:=(167,qVK) :: ([]:OrL)
theorem LTa1_ok:AllP (fun x:Nat × (List PV→Option (Bool × Ret))=>zY Tryz.prog x.1 x.2) LTa1:=⟨ok_fShiftDown,trivial⟩
noncomputable def zYH:List PV→Option (Bool × Ret):=fun ps=>match ps with
 | [.n .i64 a,.n .i64 k]=>some (decide (0≤k∧k≤62) && iw a,.v (.n .i64 (zZ a (2 ^ Int.toNat k))))
 | _=>none
theorem ok_fShiftUp:zY Tryz.prog 168 zYH:=by
 intro ps r h;unfold zYH at h;split at h
 ·simp only [vQZ,vQY] at h;obtain ⟨hg,rfl⟩:=h
  try simp only [vQJ,decide_eq_true_eq] at hg
  exact qY (qU Tryz.func168 (by kernel_rfl) (by kernel_rfl)) rfl rfl (fun w=>zHH _ _ hg.1 (yUW hg.2) w)
 ·cases h
noncomputable def LTa2:OrL:=(168,zYH) :: LTa1
theorem LTa2_ok:AllP (fun x:Nat × (List PV→Option (Bool × Ret))=>zY Tryz.prog x.1 x.2) LTa2:=⟨ok_fShiftUp,LTa1_ok⟩
noncomputable def zGU:List PV→Option (Bool × Ret):=fun ps=>match ps with
 | [.n .i64 a,.n .i64 b]=>some (decide (0 < b) && iw a,.v (.n .i64 (a / b)))
 | _=>none
theorem ok_rFloor:zY Tryz.prog 41 zGU:=by
 intro ps r h;unfold zGU at h;split at h
 ·simp only [vQZ,vQY] at h;obtain ⟨hg,rfl⟩:=h
  try simp only [vQJ,decide_eq_true_eq] at hg
  exact qY (qU Tryz.func41 (by kernel_rfl) (by kernel_rfl)) rfl rfl (fun w=>yXZ _ _ (yUW hg.2) hg.1 w)
 ·cases h
noncomputable def LTa3:OrL:=(41,zGU) :: LTa2
theorem LTa3_ok:AllP (fun x:Nat × (List PV→Option (Bool × Ret))=>zY Tryz.prog x.1 x.2) LTa3:=⟨ok_rFloor,LTa2_ok⟩
noncomputable def yYV:List PV→Option (Bool × Ret):=fun ps=>match ps with
 | [.n .i64 a,.n .i64 b]=>some (decide (0 < b) && iw a,.v (.n .i64 (zZ a b)))
 | _=>none
theorem ok_rCeil:zY Tryz.prog 78 yYV:=by
 intro ps r h;unfold yYV at h;split at h
 ·simp only [vQZ,vQY] at h;obtain ⟨hg,rfl⟩:=h
  try simp only [vQJ,decide_eq_true_eq] at hg
  exact qY (qU Tryz.func78 (by kernel_rfl) (by kernel_rfl)) rfl rfl (fun w=>yHE _ _ (yUW hg.2) hg.1 w)
 ·cases h
noncomputable def LTa4:OrL:=(78,yYV) :: LTa3
theorem LTa4_ok:AllP (fun x:Nat × (List PV→Option (Bool × Ret))=>zY Tryz.prog x.1 x.2) LTa4:=⟨ok_rCeil,LTa3_ok⟩
noncomputable def yYC:List PV→Option (Bool × Ret):=fun ps=>match ps with
 | [.n .i64 a,.n .i64 b]=>some (decide (0 < b∧b≤1073741824) && pw a,.v (.n .i64 (zZ a b)))
 | _=>none
theorem ok_aCeil:zY Tryz.prog 198 yYC:=by
 intro ps r h;unfold yYC at h;split at h
 ·simp only [vQZ,vQY] at h;obtain ⟨hg,rfl⟩:=h
  try simp only [vQJ,decide_eq_true_eq] at hg
  exact qY (qU Tryz.func198 (by kernel_rfl) (by kernel_rfl)) rfl rfl (fun w=>aCeil _ _ (pw_of hg.2) hg.1 w)
 ·cases h
noncomputable def LTa5:OrL:=(198,yYC) :: LTa4
theorem LTa5_ok:AllP (fun x:Nat × (List PV→Option (Bool × Ret))=>zY Tryz.prog x.1 x.2) LTa5:=⟨ok_aCeil,LTa4_ok⟩
noncomputable def yXE:List PV→Option (Bool × Ret):=fun ps=>match ps with
 | [.n .i64 l,.n .i64 a]=>some (iw a,.v (.a (ivC (encI l a))))
 | _=>none
theorem ok_aEnc:zY Tryz.prog 199 yXE:=by
 intro ps r h;unfold yXE at h;split at h
 ·simp only [vQZ,vQY] at h;obtain ⟨hg,rfl⟩:=h
  try simp only [vQJ,decide_eq_true_eq] at hg
  exact qY (qU Tryz.func199 (by kernel_rfl) (by kernel_rfl)) rfl rfl (fun w=>aEnc _ _ (yUW hg) w)
 ·cases h
noncomputable def LTa6:OrL:=(199,yXE) :: LTa5
theorem LTa6_ok:AllP (fun x:Nat × (List PV→Option (Bool × Ret))=>zY Tryz.prog x.1 x.2) LTa6:=⟨ok_aEnc,LTa5_ok⟩
noncomputable def yXW:List PV→Option (Bool × Ret):=fun ps=>match ps with
 | [.n .i64 l,.n .i64 a]=>some (iw a && iw l,.v (.a (ivC (encI l a))))
 | _=>none
theorem ok_rEnc:zY Tryz.prog 187 yXW:=by
 intro ps r h;unfold yXW at h;split at h
 ·simp only [vQZ,vQY] at h;obtain ⟨hg,rfl⟩:=h
  try simp only [vQJ,decide_eq_true_eq] at hg
  exact qY (qU Tryz.func187 (by kernel_rfl) (by kernel_rfl)) rfl rfl (fun w=>rEnc _ _ (yUW hg.2) (yUW hg.1) w)
 ·cases h
noncomputable def LTa7:OrL:=(187,yXW) :: LTa6
theorem yJI:AllP (fun x:Nat × (List PV→Option (Bool × Ret))=>zY Tryz.prog x.1 x.2) LTa7:=⟨ok_rEnc,LTa6_ok⟩
def wdn (x:Int):Nat→Int
 | 0=>1073741824
 | 1=>(vJJ .i64 (x * 6746518852)) / 65536
 | k + 2=>(vJJ .i64 (wdn x (k + 1) * ((vJJ .i64 (x * 6746518852)) / 65536))) / 1073741824
def wup (x:Int):Nat→Int
 | 0=>1073741824
 | 1=>zZ (vJJ .i64 (x * 6746518853)) 65536
 | k + 2=>zZ (vJJ .i64 (wup x (k + 1) * zZ (vJJ .i64 (x * 6746518853)) 65536)) 1073741824
theorem wmul {a b:Int} (_:0≤a∧a≤1073741824) (_:0≤b∧b≤1073741824):vJJ .i64 (a * b)=a * b:=yQI (by omega) (by omega)
theorem yUA {x:Int} (h:0≤x∧x≤8192):∀ k,wdn x k=dn x k
 | 0=>rfl
 | 1=>by unfold wdn dn; rw [qK (by omega)]
 | k + 2=>by rw [wdn,dn,yUA h (k + 1),qK (show -9223372036854775808≤x * 6746518852∧x * 6746518852≤9223372036854775807 by omega),wmul (qYB h (k + 1)) (show 0≤x * 6746518852 / 65536∧x * 6746518852 / 65536≤1073741824 by omega)]
theorem yUH {x:Int} (h:0≤x∧x≤8192):∀ k,wup x k=up x k
 | 0=>rfl
 | 1=>by unfold wup up; rw [qK (by omega)]
 | k + 2=>by rw [wup,up,yUH h (k + 1),qK (show -9223372036854775808≤x * 6746518853∧x * 6746518853≤9223372036854775807 by omega),wmul (qZK h (k + 1)) (yZB rfl h)]
set_option maxRecDepth 100000 in
theorem sp_aPow (x:Int) (h:0≤x∧x≤8192):zH Tryz.prog 196 [.n .i64 x] (.v (.t [.a [.n .i64 1073741824,.n .i64 (dn x 1),.n .i64 (dn x 2),.n .i64 (dn x 3),.n .i64 (dn x 4),.n .i64 (dn x 5),.n .i64 (dn x 6),.n .i64 (dn x 7),.n .i64 (dn x 8),.n .i64 (dn x 9),.n .i64 (dn x 10)],.a [.n .i64 1073741824,.n .i64 (up x 1),.n .i64 (up x 2),.n .i64 (up x 3),.n .i64 (up x 4),.n .i64 (up x 5),.n .i64 (up x 6),.n .i64 (up x 7),.n .i64 (up x 8),.n .i64 (up x 9),.n .i64 (up x 10)]])):=qX (N:=60) (ps:=[.n .i64 x]) yH yZ (OrL.ok (l:=LTa7) yJI) ((by kernel_rfl:_=bif iw (vJJ .i64 (x * 6746518853)) then (bif iw (vJJ .i64 (wup x 1 * wup x 1)) then (bif iw (vJJ .i64 (wup x 2 * wup x 1)) then (bif iw (vJJ .i64 (wup x 3 * wup x 1)) then (bif iw (vJJ .i64 (wup x 4 * wup x 1)) then (bif iw (vJJ .i64 (wup x 5 * wup x 1)) then (bif iw (vJJ .i64 (wup x 6 * wup x 1)) then (bif iw (vJJ .i64 (wup x 7 * wup x 1)) then (bif iw (vJJ .i64 (wup x 8 * wup x 1)) then (bif iw (vJJ .i64 (wup x 9 * wup x 1)) then some (.v (.t [.a [.n .i64 1073741824,.n .i64 (wdn x 1),.n .i64 (wdn x 2),.n .i64 (wdn x 3),.n .i64 (wdn x 4),.n .i64 (wdn x 5),.n .i64 (wdn x 6),.n .i64 (wdn x 7),.n .i64 (wdn x 8),.n .i64 (wdn x 9),.n .i64 (wdn x 10)],.a [.n .i64 1073741824,.n .i64 (wup x 1),.n .i64 (wup x 2),.n .i64 (wup x 3),.n .i64 (wup x 4),.n .i64 (wup x 5),.n .i64 (wup x 6),.n .i64 (wup x 7),.n .i64 (wup x 8),.n .i64 (wup x 9),.n .i64 (wup x 10)]]),[])
 else none)
 else none)
 else none)
 else none)
 else none)
 else none)
 else none)
 else none)
 else none)
 else none).trans (by
 simp only [iww,vYV,yUA h,yUH h]))
set_option maxRecDepth 100000 in
theorem sp_rPow (x:Int) (h:0≤x∧x≤8192):zH Tryz.prog 186 [.n .i64 x] (.v (.t [.a [.n .i64 0,.n .i64 (dn x 1),.n .i64 (dn x 2),.n .i64 (dn x 3),.n .i64 (dn x 4),.n .i64 (dn x 5),.n .i64 (dn x 6),.n .i64 (dn x 7),.n .i64 (dn x 8),.n .i64 (dn x 9),.n .i64 (dn x 10)],.a [.n .i64 0,.n .i64 (up x 1),.n .i64 (up x 2),.n .i64 (up x 3),.n .i64 (up x 4),.n .i64 (up x 5),.n .i64 (up x 6),.n .i64 (up x 7),.n .i64 (up x 8),.n .i64 (up x 9),.n .i64 (up x 10)]])):=qX (N:=60) (ps:=[.n .i64 x]) yH yZ (OrL.ok (l:=LTa7) yJI) ((by kernel_rfl:_=bif iw (vJJ .i64 (x * 6746518852)) then (bif iw (vJJ .i64 (x * 6746518853)) then (bif iw (vJJ .i64 (wdn x 1 * wdn x 1)) then (bif iw (vJJ .i64 (wup x 1 * wup x 1)) then (bif iw (vJJ .i64 (wdn x 2 * wdn x 1)) then (bif iw (vJJ .i64 (wup x 2 * wup x 1)) then (bif iw (vJJ .i64 (wdn x 3 * wdn x 1)) then (bif iw (vJJ .i64 (wup x 3 * wup x 1)) then (bif iw (vJJ .i64 (wdn x 4 * wdn x 1)) then (bif iw (vJJ .i64 (wup x 4 * wup x 1)) then (bif iw (vJJ .i64 (wdn x 5 * wdn x 1)) then (bif iw (vJJ .i64 (wup x 5 * wup x 1)) then (bif iw (vJJ .i64 (wdn x 6 * wdn x 1)) then (bif iw (vJJ .i64 (wup x 6 * wup x 1)) then (bif iw (vJJ .i64 (wdn x 7 * wdn x 1)) then (bif iw (vJJ .i64 (wup x 7 * wup x 1)) then (bif iw (vJJ .i64 (wdn x 8 * wdn x 1)) then (bif iw (vJJ .i64 (wup x 8 * wup x 1)) then (bif iw (vJJ .i64 (wdn x 9 * wdn x 1)) then (bif iw (vJJ .i64 (wup x 9 * wup x 1)) then some (.v (.t [.a [.n .i64 0,.n .i64 (wdn x 1),.n .i64 (wdn x 2),.n .i64 (wdn x 3),.n .i64 (wdn x 4),.n .i64 (wdn x 5),.n .i64 (wdn x 6),.n .i64 (wdn x 7),.n .i64 (wdn x 8),.n .i64 (wdn x 9),.n .i64 (wdn x 10)],.a [.n .i64 0,.n .i64 (wup x 1),.n .i64 (wup x 2),.n .i64 (wup x 3),.n .i64 (wup x 4),.n .i64 (wup x 5),.n .i64 (wup x 6),.n .i64 (wup x 7),.n .i64 (wup x 8),.n .i64 (wup x 9),.n .i64 (wup x 10)]]),[])
 else none)
 else none)
 else none)
 else none)
 else none)
 else none)
 else none)
 else none)
 else none)
 else none)
 else none)
 else none)
 else none)
 else none)
 else none)
 else none)
 else none)
 else none)
 else none)
 else none).trans (by
 simp only [iww,vYV,yUA h,yUH h]))
noncomputable def yXC:List PV→Option (Bool × Ret):=fun ps=>match ps with
 | [.n .i64 x]=>some (decide (0≤x∧x≤8192),.v (.t [.a [.n .i64 1073741824,.n .i64 (dn x 1),.n .i64 (dn x 2),.n .i64 (dn x 3),.n .i64 (dn x 4),.n .i64 (dn x 5),.n .i64 (dn x 6),.n .i64 (dn x 7),.n .i64 (dn x 8),.n .i64 (dn x 9),.n .i64 (dn x 10)],.a [.n .i64 1073741824,.n .i64 (up x 1),.n .i64 (up x 2),.n .i64 (up x 3),.n .i64 (up x 4),.n .i64 (up x 5),.n .i64 (up x 6),.n .i64 (up x 7),.n .i64 (up x 8),.n .i64 (up x 9),.n .i64 (up x 10)]]))
 | _=>none
theorem ok_aPow:zY Tryz.prog 196 yXC:=by
 intro ps r h;unfold yXC at h;split at h
 ·simp only [vQZ,vQY] at h;obtain ⟨hg,rfl⟩:=h;exact sp_aPow _ (vJZ hg)
 ·cases h
noncomputable def LTa8:OrL:=(196,yXC) :: LTa7
theorem LTa8_ok:AllP (fun x:Nat × (List PV→Option (Bool × Ret))=>zY Tryz.prog x.1 x.2) LTa8:=⟨ok_aPow,yJI⟩
noncomputable def yXK:List PV→Option (Bool × Ret):=fun ps=>match ps with
 | [.n .i64 x]=>some (decide (0≤x∧x≤8192),.v (.t [.a [.n .i64 0,.n .i64 (dn x 1),.n .i64 (dn x 2),.n .i64 (dn x 3),.n .i64 (dn x 4),.n .i64 (dn x 5),.n .i64 (dn x 6),.n .i64 (dn x 7),.n .i64 (dn x 8),.n .i64 (dn x 9),.n .i64 (dn x 10)],.a [.n .i64 0,.n .i64 (up x 1),.n .i64 (up x 2),.n .i64 (up x 3),.n .i64 (up x 4),.n .i64 (up x 5),.n .i64 (up x 6),.n .i64 (up x 7),.n .i64 (up x 8),.n .i64 (up x 9),.n .i64 (up x 10)]]))
 | _=>none
theorem ok_rPow:zY Tryz.prog 186 yXK:=by
 intro ps r h;unfold yXK at h;split at h
 ·simp only [vQZ,vQY] at h;obtain ⟨hg,rfl⟩:=h;exact sp_rPow _ (vJZ hg)
 ·cases h
noncomputable def LTa9:OrL:=(186,yXK) :: LTa8
theorem zWK:AllP (fun x:Nat × (List PV→Option (Bool × Ret))=>zY Tryz.prog x.1 x.2) LTa9:=⟨ok_rPow,LTa8_ok⟩
theorem tdnn {a b:Int} (h:0≤a):a.tdiv b=a / b:=Int.tdiv_eq_ediv_of_nonneg h
def yKC (x:Int):Int:=(vJJ .i64 ((vJJ .i64 ((vJJ .i64 ((vJJ .i64 (0 + (vJJ .i64 (1 * (dn x 1))))) + (vJJ .i64 ((-1) * zZ (up x 3) 6)))) + (vJJ .i64 (1 * (vJJ .i64 ((dn x 5).tdiv 120)))))) + (vJJ .i64 ((-1) * zZ (up x 7) 5040))))
theorem aSineL_eq {x:Int} (h:0≤x∧x≤8192):yKC x=sinL x:=by
 have d1:=qYB h 1;have d5:=qYB h 5;have u3:=qZK h 3;have u7:=qZK h 7;have c3:=yK (r:=zZ (up x 3) 6) rfl u3 (by decide);have c7:=yK (r:=zZ (up x 7) 5040) rfl u7 (by decide);unfold yKC sinL;simp only [tdnn d5.1];have w0:vJJ .i64 (1 * (dn x 1))=(1 * (dn x 1)):=qK (by omega);have w1:vJJ .i64 (0 + (1 * (dn x 1)))=(0 + (1 * (dn x 1))):=qK (by omega);have w2:vJJ .i64 ((-1) * zZ (up x 3) 6)=((-1) * zZ (up x 3) 6):=qK (by omega);have w3:vJJ .i64 ((0 + (1 * (dn x 1))) + ((-1) * zZ (up x 3) 6))=((0 + (1 * (dn x 1))) + ((-1) * zZ (up x 3) 6)):=qK (by omega);have w4:vJJ .i64 (((dn x 5) / 120))=(((dn x 5) / 120)):=qK (by omega);have w5:vJJ .i64 (1 * (((dn x 5) / 120)))=(1 * (((dn x 5) / 120))):=qK (by omega);have w6:vJJ .i64 (((0 + (1 * (dn x 1))) + ((-1) * zZ (up x 3) 6)) + (1 * (((dn x 5) / 120))))=(((0 + (1 * (dn x 1))) + ((-1) * zZ (up x 3) 6)) + (1 * (((dn x 5) / 120)))):=qK (by omega);have w7:vJJ .i64 ((-1) * zZ (up x 7) 5040)=((-1) * zZ (up x 7) 5040):=qK (by omega);have w8:vJJ .i64 ((((0 + (1 * (dn x 1))) + ((-1) * zZ (up x 3) 6)) + (1 * (((dn x 5) / 120)))) + ((-1) * zZ (up x 7) 5040))=((((0 + (1 * (dn x 1))) + ((-1) * zZ (up x 3) 6)) + (1 * (((dn x 5) / 120)))) + ((-1) * zZ (up x 7) 5040)):=qK (by omega);simp only [w0,w1,w2,w3,w4,w5,w6,w7,w8]
 try omega
def yZU (x:Int):Int:=(vJJ .i64 ((vJJ .i64 ((vJJ .i64 ((vJJ .i64 ((vJJ .i64 (0 + (vJJ .i64 (1 * (up x 1))))) + (vJJ .i64 ((-1) * (vJJ .i64 ((dn x 3).tdiv 6)))))) + (vJJ .i64 (1 * zZ (up x 5) 120)))) + (vJJ .i64 ((-1) * (vJJ .i64 ((dn x 7).tdiv 5040)))))) + (vJJ .i64 (1 * zZ (up x 9) 362880))))
theorem aSineU_eq {x:Int} (h:0≤x∧x≤8192):yZU x=sinU x:=by
 have d3:=qYB h 3;have d7:=qYB h 7;have u1:=qZK h 1;have u5:=qZK h 5;have u9:=qZK h 9;have c5:=yK (r:=zZ (up x 5) 120) rfl u5 (by decide);have c9:=yK (r:=zZ (up x 9) 362880) rfl u9 (by decide);unfold yZU sinU;simp only [tdnn d3.1,tdnn d7.1];have w0:vJJ .i64 (1 * (up x 1))=(1 * (up x 1)):=qK (by omega);have w1:vJJ .i64 (0 + (1 * (up x 1)))=(0 + (1 * (up x 1))):=qK (by omega);have w2:vJJ .i64 (((dn x 3) / 6))=(((dn x 3) / 6)):=qK (by omega);have w3:vJJ .i64 ((-1) * (((dn x 3) / 6)))=((-1) * (((dn x 3) / 6))):=qK (by omega);have w4:vJJ .i64 ((0 + (1 * (up x 1))) + ((-1) * (((dn x 3) / 6))))=((0 + (1 * (up x 1))) + ((-1) * (((dn x 3) / 6)))):=qK (by omega);have w5:vJJ .i64 (1 * zZ (up x 5) 120)=(1 * zZ (up x 5) 120):=qK (by omega);have w6:vJJ .i64 (((0 + (1 * (up x 1))) + ((-1) * (((dn x 3) / 6)))) + (1 * zZ (up x 5) 120))=(((0 + (1 * (up x 1))) + ((-1) * (((dn x 3) / 6)))) + (1 * zZ (up x 5) 120)):=qK (by omega);have w7:vJJ .i64 (((dn x 7) / 5040))=(((dn x 7) / 5040)):=qK (by omega);have w8:vJJ .i64 ((-1) * (((dn x 7) / 5040)))=((-1) * (((dn x 7) / 5040))):=qK (by omega);have w9:vJJ .i64 ((((0 + (1 * (up x 1))) + ((-1) * (((dn x 3) / 6)))) + (1 * zZ (up x 5) 120)) + ((-1) * (((dn x 7) / 5040))))=((((0 + (1 * (up x 1))) + ((-1) * (((dn x 3) / 6)))) + (1 * zZ (up x 5) 120)) + ((-1) * (((dn x 7) / 5040)))):=qK (by omega);have w10:vJJ .i64 (1 * zZ (up x 9) 362880)=(1 * zZ (up x 9) 362880):=qK (by omega);have w11:vJJ .i64 (((((0 + (1 * (up x 1))) + ((-1) * (((dn x 3) / 6)))) + (1 * zZ (up x 5) 120)) + ((-1) * (((dn x 7) / 5040)))) + (1 * zZ (up x 9) 362880))=(((((0 + (1 * (up x 1))) + ((-1) * (((dn x 3) / 6)))) + (1 * zZ (up x 5) 120)) + ((-1) * (((dn x 7) / 5040)))) + (1 * zZ (up x 9) 362880)):=qK (by omega);simp only [w0,w1,w2,w3,w4,w5,w6,w7,w8,w9,w10,w11]
 try omega
end Ta
set_option maxRecDepth 100000 in
theorem aSine (x:Int) (h:0≤x∧x≤8192) (w:World):Calls Tryz.prog 194 [.int .i64 x].toArray w (Rets (iv (zUZ x)) (w)) :=
 qH (x:=.a (ivC (zUZ x))) (qX (N:=60) (ps:=[.n .i64 x]) yH yZ (OrL.ok (l:=LTa9) zWK) ((by kernel_rfl:_=bif decide (0≤x∧x≤8192) then (bif pw (up x 3) then (bif pw (up x 7) then (bif pw (up x 5) then (bif pw (up x 9) then (bif iw (yZU x) then some (.v (.a (ivC (encI (yKC x) (yZU x)))),[])
 else none)
 else none)
 else none)
 else none)
 else none)
 else none).trans (by
 have iL:iw (yKC x)=true:=iww _;have iU:iw (yZU x)=true:=iww _;rw [aSineL_eq h] at iL ⊢;rw [aSineU_eq h] at iU ⊢;simp only [vJQ h,yVC h,yGL h,yHQ h,iL,iU,vYV,vZJ]
 rfl))) rfl rfl w
namespace Ta
def zKH (x:Int):Int:=(vJJ .i64 ((vJJ .i64 ((vJJ .i64 ((vJJ .i64 ((vJJ .i64 (1073741824 + (vJJ .i64 ((-1) * zZ (up x 2) 2)))) + (vJJ .i64 (1 * (vJJ .i64 ((dn x 4).tdiv 24)))))) + (vJJ .i64 ((-1) * zZ (up x 6) 720)))) + (vJJ .i64 (1 * (vJJ .i64 ((dn x 8).tdiv 40320)))))) + (vJJ .i64 ((-1) * zZ (up x 10) 3628800))))
theorem aCosineL_eq {x:Int} (h:0≤x∧x≤8192):zKH x=cosL x:=by
 have d4:=qYB h 4;have d8:=qYB h 8;have u2:=qZK h 2;have u6:=qZK h 6;have u10:=qZK h 10;have c10:=yK (r:=zZ (up x 10) 3628800) rfl u10 (by decide);have c2:=yK (r:=zZ (up x 2) 2) rfl u2 (by decide);have c6:=yK (r:=zZ (up x 6) 720) rfl u6 (by decide);unfold zKH cosL;simp only [tdnn d4.1,tdnn d8.1];have w0:vJJ .i64 ((-1) * zZ (up x 2) 2)=((-1) * zZ (up x 2) 2):=qK (by omega);have w1:vJJ .i64 (1073741824 + ((-1) * zZ (up x 2) 2))=(1073741824 + ((-1) * zZ (up x 2) 2)):=qK (by omega);have w2:vJJ .i64 (((dn x 4) / 24))=(((dn x 4) / 24)):=qK (by omega);have w3:vJJ .i64 (1 * (((dn x 4) / 24)))=(1 * (((dn x 4) / 24))):=qK (by omega);have w4:vJJ .i64 ((1073741824 + ((-1) * zZ (up x 2) 2)) + (1 * (((dn x 4) / 24))))=((1073741824 + ((-1) * zZ (up x 2) 2)) + (1 * (((dn x 4) / 24)))):=qK (by omega);have w5:vJJ .i64 ((-1) * zZ (up x 6) 720)=((-1) * zZ (up x 6) 720):=qK (by omega);have w6:vJJ .i64 (((1073741824 + ((-1) * zZ (up x 2) 2)) + (1 * (((dn x 4) / 24)))) + ((-1) * zZ (up x 6) 720))=(((1073741824 + ((-1) * zZ (up x 2) 2)) + (1 * (((dn x 4) / 24)))) + ((-1) * zZ (up x 6) 720)):=qK (by omega);have w7:vJJ .i64 (((dn x 8) / 40320))=(((dn x 8) / 40320)):=qK (by omega);have w8:vJJ .i64 (1 * (((dn x 8) / 40320)))=(1 * (((dn x 8) / 40320))):=qK (by omega);have w9:vJJ .i64 ((((1073741824 + ((-1) * zZ (up x 2) 2)) + (1 * (((dn x 4) / 24)))) + ((-1) * zZ (up x 6) 720)) + (1 * (((dn x 8) / 40320))))=((((1073741824 + ((-1) * zZ (up x 2) 2)) + (1 * (((dn x 4) / 24)))) + ((-1) * zZ (up x 6) 720)) + (1 * (((dn x 8) / 40320)))):=qK (by omega);have w10:vJJ .i64 ((-1) * zZ (up x 10) 3628800)=((-1) * zZ (up x 10) 3628800):=qK (by omega);have w11:vJJ .i64 (((((1073741824 + ((-1) * zZ (up x 2) 2)) + (1 * (((dn x 4) / 24)))) + ((-1) * zZ (up x 6) 720)) + (1 * (((dn x 8) / 40320)))) + ((-1) * zZ (up x 10) 3628800))=(((((1073741824 + ((-1) * zZ (up x 2) 2)) + (1 * (((dn x 4) / 24)))) + ((-1) * zZ (up x 6) 720)) + (1 * (((dn x 8) / 40320)))) + ((-1) * zZ (up x 10) 3628800)):=qK (by omega);simp only [w0,w1,w2,w3,w4,w5,w6,w7,w8,w9,w10,w11]
 try omega
def zZW (x:Int):Int:=(vJJ .i64 ((vJJ .i64 ((vJJ .i64 ((vJJ .i64 (1073741824 + (vJJ .i64 ((-1) * (vJJ .i64 ((dn x 2).tdiv 2)))))) + (vJJ .i64 (1 * zZ (up x 4) 24)))) + (vJJ .i64 ((-1) * (vJJ .i64 ((dn x 6).tdiv 720)))))) + (vJJ .i64 (1 * zZ (up x 8) 40320))))
theorem aCosineU_eq {x:Int} (h:0≤x∧x≤8192):zZW x=cosU x:=by
 have d2:=qYB h 2;have d6:=qYB h 6;have u4:=qZK h 4;have u8:=qZK h 8;have c4:=yK (r:=zZ (up x 4) 24) rfl u4 (by decide);have c8:=yK (r:=zZ (up x 8) 40320) rfl u8 (by decide);unfold zZW cosU;simp only [tdnn d2.1,tdnn d6.1];have w0:vJJ .i64 (((dn x 2) / 2))=(((dn x 2) / 2)):=qK (by omega);have w1:vJJ .i64 ((-1) * (((dn x 2) / 2)))=((-1) * (((dn x 2) / 2))):=qK (by omega);have w2:vJJ .i64 (1073741824 + ((-1) * (((dn x 2) / 2))))=(1073741824 + ((-1) * (((dn x 2) / 2)))):=qK (by omega);have w3:vJJ .i64 (1 * zZ (up x 4) 24)=(1 * zZ (up x 4) 24):=qK (by omega);have w4:vJJ .i64 ((1073741824 + ((-1) * (((dn x 2) / 2)))) + (1 * zZ (up x 4) 24))=((1073741824 + ((-1) * (((dn x 2) / 2)))) + (1 * zZ (up x 4) 24)):=qK (by omega);have w5:vJJ .i64 (((dn x 6) / 720))=(((dn x 6) / 720)):=qK (by omega);have w6:vJJ .i64 ((-1) * (((dn x 6) / 720)))=((-1) * (((dn x 6) / 720))):=qK (by omega);have w7:vJJ .i64 (((1073741824 + ((-1) * (((dn x 2) / 2)))) + (1 * zZ (up x 4) 24)) + ((-1) * (((dn x 6) / 720))))=(((1073741824 + ((-1) * (((dn x 2) / 2)))) + (1 * zZ (up x 4) 24)) + ((-1) * (((dn x 6) / 720)))):=qK (by omega);have w8:vJJ .i64 (1 * zZ (up x 8) 40320)=(1 * zZ (up x 8) 40320):=qK (by omega);have w9:vJJ .i64 ((((1073741824 + ((-1) * (((dn x 2) / 2)))) + (1 * zZ (up x 4) 24)) + ((-1) * (((dn x 6) / 720)))) + (1 * zZ (up x 8) 40320))=((((1073741824 + ((-1) * (((dn x 2) / 2)))) + (1 * zZ (up x 4) 24)) + ((-1) * (((dn x 6) / 720)))) + (1 * zZ (up x 8) 40320)):=qK (by omega);simp only [w0,w1,w2,w3,w4,w5,w6,w7,w8,w9]
 try omega
end Ta
set_option maxRecDepth 100000 in
theorem aCosine (x:Int) (h:0≤x∧x≤8192) (w:World):Calls Tryz.prog 195 [.int .i64 x].toArray w (Rets (iv (qKD x)) (w)) :=
 qH (x:=.a (ivC (qKD x))) (qX (N:=60) (ps:=[.n .i64 x]) yH yZ (OrL.ok (l:=LTa9) zWK) ((by kernel_rfl:_=bif decide (0≤x∧x≤8192) then (bif pw (up x 2) then (bif pw (up x 6) then (bif pw (up x 10) then (bif pw (up x 4) then (bif pw (up x 8) then (bif iw (zZW x) then some (.v (.a (ivC (encI (zKH x) (zZW x)))),[])
 else none)
 else none)
 else none)
 else none)
 else none)
 else none)
 else none).trans (by
 have iL:iw (zKH x)=true:=iww _;have iU:iw (zZW x)=true:=iww _;rw [aCosineL_eq h] at iL ⊢;rw [aCosineU_eq h] at iU ⊢;simp only [vJQ h,yVC h,yGL h,yHQ h,iL,iU,vYV,vZJ]
 rfl))) rfl rfl w
namespace Ta
def yQH (x:Int):Int:=(vJJ .i64 ((vJJ .i64 ((vJJ .i64 ((dn x 1) - zZ (up x 3) 6)) + (dn x 5) / 120)) - zZ (up x 7) 5040))
theorem rSineL_eq {x:Int} (h:0≤x∧x≤8192):yQH x=sinL x:=by
 have d1:=qYB h 1;have d5:=qYB h 5;have u3:=qZK h 3;have u7:=qZK h 7;have c3:=yK (r:=zZ (up x 3) 6) rfl u3 (by decide);have c7:=yK (r:=zZ (up x 7) 5040) rfl u7 (by decide);unfold yQH sinL;have w0:vJJ .i64 ((dn x 1) - zZ (up x 3) 6)=((dn x 1) - zZ (up x 3) 6):=qK (by omega);have w1:vJJ .i64 (((dn x 1) - zZ (up x 3) 6) + (dn x 5) / 120)=(((dn x 1) - zZ (up x 3) 6) + (dn x 5) / 120):=qK (by omega);have w2:vJJ .i64 ((((dn x 1) - zZ (up x 3) 6) + (dn x 5) / 120) - zZ (up x 7) 5040)=((((dn x 1) - zZ (up x 3) 6) + (dn x 5) / 120) - zZ (up x 7) 5040):=qK (by omega);simp only [w0,w1,w2]
 try omega
def yQG (x:Int):Int:=(vJJ .i64 ((vJJ .i64 ((vJJ .i64 ((vJJ .i64 ((up x 1) - (dn x 3) / 6)) + zZ (up x 5) 120)) - (dn x 7) / 5040)) + zZ (up x 9) 362880))
theorem rSineU_eq {x:Int} (h:0≤x∧x≤8192):yQG x=sinU x:=by
 have d3:=qYB h 3;have d7:=qYB h 7;have u1:=qZK h 1;have u5:=qZK h 5;have u9:=qZK h 9;have c5:=yK (r:=zZ (up x 5) 120) rfl u5 (by decide);have c9:=yK (r:=zZ (up x 9) 362880) rfl u9 (by decide);unfold yQG sinU;have w0:vJJ .i64 ((up x 1) - (dn x 3) / 6)=((up x 1) - (dn x 3) / 6):=qK (by omega);have w1:vJJ .i64 (((up x 1) - (dn x 3) / 6) + zZ (up x 5) 120)=(((up x 1) - (dn x 3) / 6) + zZ (up x 5) 120):=qK (by omega);have w2:vJJ .i64 ((((up x 1) - (dn x 3) / 6) + zZ (up x 5) 120) - (dn x 7) / 5040)=((((up x 1) - (dn x 3) / 6) + zZ (up x 5) 120) - (dn x 7) / 5040):=qK (by omega);have w3:vJJ .i64 (((((up x 1) - (dn x 3) / 6) + zZ (up x 5) 120) - (dn x 7) / 5040) + zZ (up x 9) 362880)=(((((up x 1) - (dn x 3) / 6) + zZ (up x 5) 120) - (dn x 7) / 5040) + zZ (up x 9) 362880):=qK (by omega);simp only [w0,w1,w2,w3]
 try omega
end Ta
set_option maxRecDepth 100000 in
theorem rSine (x:Int) (h:0≤x∧x≤8192) (w:World):Calls Tryz.prog 181 [.int .i64 x].toArray w (Rets (iv (zUZ x)) (w)) :=
 qH (x:=.a (ivC (zUZ x))) (qX (N:=60) (ps:=[.n .i64 x]) yH yZ (OrL.ok (l:=LTa9) zWK) ((by kernel_rfl:_=bif decide (0≤x∧x≤8192) then (bif iw (up x 3) then (bif iw (dn x 5) then (bif iw (up x 7) then (bif iw (dn x 3) then (bif iw (up x 5) then (bif iw (dn x 7) then (bif iw (up x 9) then (bif (iw (yQG x) && iw (yQH x)) then some (.v (.a (ivC (encI (yQH x) (yQG x)))),[])
 else none)
 else none)
 else none)
 else none)
 else none)
 else none)
 else none)
 else none)
 else none).trans (by
 have iL:iw (yQH x)=true:=iww _;have iU:iw (yQG x)=true:=iww _;rw [rSineL_eq h] at iL ⊢;rw [rSineU_eq h] at iU ⊢;simp only [vJQ h,yVC h,yGL h,yHQ h,iL,iU,vYV,vZJ]
 rfl))) rfl rfl w
namespace Ta
def qHC (x:Int):Int:=(vJJ .i64 ((vJJ .i64 ((vJJ .i64 ((vJJ .i64 ((vJJ .i64 (1073741824 - zZ (up x 2) 2)) + (dn x 4) / 24)) - zZ (up x 6) 720)) + (dn x 8) / 40320)) - zZ (up x 10) 3628800))
theorem rCosineL_eq {x:Int} (h:0≤x∧x≤8192):qHC x=cosL x:=by
 have d4:=qYB h 4;have d8:=qYB h 8;have u2:=qZK h 2;have u6:=qZK h 6;have u10:=qZK h 10;have c10:=yK (r:=zZ (up x 10) 3628800) rfl u10 (by decide);have c2:=yK (r:=zZ (up x 2) 2) rfl u2 (by decide);have c6:=yK (r:=zZ (up x 6) 720) rfl u6 (by decide);unfold qHC cosL;have w0:vJJ .i64 (1073741824 - zZ (up x 2) 2)=(1073741824 - zZ (up x 2) 2):=qK (by omega);have w1:vJJ .i64 ((1073741824 - zZ (up x 2) 2) + (dn x 4) / 24)=((1073741824 - zZ (up x 2) 2) + (dn x 4) / 24):=qK (by omega);have w2:vJJ .i64 (((1073741824 - zZ (up x 2) 2) + (dn x 4) / 24) - zZ (up x 6) 720)=(((1073741824 - zZ (up x 2) 2) + (dn x 4) / 24) - zZ (up x 6) 720):=qK (by omega);have w3:vJJ .i64 ((((1073741824 - zZ (up x 2) 2) + (dn x 4) / 24) - zZ (up x 6) 720) + (dn x 8) / 40320)=((((1073741824 - zZ (up x 2) 2) + (dn x 4) / 24) - zZ (up x 6) 720) + (dn x 8) / 40320):=qK (by omega);have w4:vJJ .i64 (((((1073741824 - zZ (up x 2) 2) + (dn x 4) / 24) - zZ (up x 6) 720) + (dn x 8) / 40320) - zZ (up x 10) 3628800)=(((((1073741824 - zZ (up x 2) 2) + (dn x 4) / 24) - zZ (up x 6) 720) + (dn x 8) / 40320) - zZ (up x 10) 3628800):=qK (by omega);simp only [w0,w1,w2,w3,w4]
 try omega
def qHB (x:Int):Int:=(vJJ .i64 ((vJJ .i64 ((vJJ .i64 ((vJJ .i64 (1073741824 - (dn x 2) / 2)) + zZ (up x 4) 24)) - (dn x 6) / 720)) + zZ (up x 8) 40320))
theorem rCosineU_eq {x:Int} (h:0≤x∧x≤8192):qHB x=cosU x:=by
 have d2:=qYB h 2;have d6:=qYB h 6;have u4:=qZK h 4;have u8:=qZK h 8;have c4:=yK (r:=zZ (up x 4) 24) rfl u4 (by decide);have c8:=yK (r:=zZ (up x 8) 40320) rfl u8 (by decide);unfold qHB cosU;have w0:vJJ .i64 (1073741824 - (dn x 2) / 2)=(1073741824 - (dn x 2) / 2):=qK (by omega);have w1:vJJ .i64 ((1073741824 - (dn x 2) / 2) + zZ (up x 4) 24)=((1073741824 - (dn x 2) / 2) + zZ (up x 4) 24):=qK (by omega);have w2:vJJ .i64 (((1073741824 - (dn x 2) / 2) + zZ (up x 4) 24) - (dn x 6) / 720)=(((1073741824 - (dn x 2) / 2) + zZ (up x 4) 24) - (dn x 6) / 720):=qK (by omega);have w3:vJJ .i64 ((((1073741824 - (dn x 2) / 2) + zZ (up x 4) 24) - (dn x 6) / 720) + zZ (up x 8) 40320)=((((1073741824 - (dn x 2) / 2) + zZ (up x 4) 24) - (dn x 6) / 720) + zZ (up x 8) 40320):=qK (by omega);simp only [w0,w1,w2,w3]
 try omega
end Ta
set_option maxRecDepth 100000 in
theorem rCosine (x:Int) (h:0≤x∧x≤8192) (w:World):Calls Tryz.prog 182 [.int .i64 x].toArray w (Rets (iv (qKD x)) (w)) :=
 qH (x:=.a (ivC (qKD x))) (qX (N:=60) (ps:=[.n .i64 x]) yH yZ (OrL.ok (l:=LTa9) zWK) ((by kernel_rfl:_=bif decide (0≤x∧x≤8192) then (bif iw (up x 2) then (bif iw (dn x 4) then (bif iw (up x 6) then (bif iw (dn x 8) then (bif iw (up x 10) then (bif iw (dn x 2) then (bif iw (up x 4) then (bif iw (dn x 6) then (bif iw (up x 8) then (bif (iw (qHB x) && iw (qHC x)) then some (.v (.a (ivC (encI (qHC x) (qHB x)))),[])
 else none)
 else none)
 else none)
 else none)
 else none)
 else none)
 else none)
 else none)
 else none)
 else none)
 else none).trans (by
 have iL:iw (qHC x)=true:=iww _;have iU:iw (qHB x)=true:=iww _;rw [rCosineL_eq h] at iL ⊢;rw [rCosineU_eq h] at iU ⊢;simp only [vJQ h,yVC h,yGL h,yHQ h,iL,iU,vYV,vZJ]
 rfl))) rfl rfl w
namespace Ta
noncomputable def yYB:List PV→Option (Bool × Ret):=fun ps=>match ps with
 | [.n .i64 x]=>some (decide (0≤x∧x≤8192),.v (.a (ivC (zUZ x))))
 | _=>none
theorem ok_aSine:zY Tryz.prog 194 yYB:=by
 intro ps r h;unfold yYB at h;split at h
 ·simp only [vQZ,vQY] at h;obtain ⟨hg,rfl⟩:=h
  try simp only [vQJ,decide_eq_true_eq] at hg
  exact qY (qU Tryz.func194 (by kernel_rfl) (by kernel_rfl)) rfl rfl (fun w=>aSine _ hg w)
 ·cases h
noncomputable def LTa10:OrL:=(194,yYB) :: LTa9
theorem LTa10_ok:AllP (fun x:Nat × (List PV→Option (Bool × Ret))=>zY Tryz.prog x.1 x.2) LTa10:=⟨ok_aSine,zWK⟩
noncomputable def zXX:List PV→Option (Bool × Ret):=fun ps=>match ps with
 | [.n .i64 x]=>some (decide (0≤x∧x≤8192),.v (.a (ivC (qKD x))))
 | _=>none
theorem ok_aCosine:zY Tryz.prog 195 zXX:=by
 intro ps r h;unfold zXX at h;split at h
 ·simp only [vQZ,vQY] at h;obtain ⟨hg,rfl⟩:=h
  try simp only [vQJ,decide_eq_true_eq] at hg
  exact qY (qU Tryz.func195 (by kernel_rfl) (by kernel_rfl)) rfl rfl (fun w=>aCosine _ hg w)
 ·cases h
noncomputable def LTa11:OrL:=(195,zXX) :: LTa10
theorem LTa11_ok:AllP (fun x:Nat × (List PV→Option (Bool × Ret))=>zY Tryz.prog x.1 x.2) LTa11:=⟨ok_aCosine,LTa10_ok⟩
noncomputable def yYX:List PV→Option (Bool × Ret):=fun ps=>match ps with
 | [.n .i64 x]=>some (decide (0≤x∧x≤8192),.v (.a (ivC (zUZ x))))
 | _=>none
theorem ok_rSine:zY Tryz.prog 181 yYX:=by
 intro ps r h;unfold yYX at h;split at h
 ·simp only [vQZ,vQY] at h;obtain ⟨hg,rfl⟩:=h
  try simp only [vQJ,decide_eq_true_eq] at hg
  exact qY (qU Tryz.func181 (by kernel_rfl) (by kernel_rfl)) rfl rfl (fun w=>rSine _ hg w)
 ·cases h
noncomputable def LTa12:OrL:=(181,yYX) :: LTa11
theorem LTa12_ok:AllP (fun x:Nat × (List PV→Option (Bool × Ret))=>zY Tryz.prog x.1 x.2) LTa12:=⟨ok_rSine,LTa11_ok⟩
noncomputable def zXY:List PV→Option (Bool × Ret):=fun ps=>match ps with
 | [.n .i64 x]=>some (decide (0≤x∧x≤8192),.v (.a (ivC (qKD x))))
 | _=>none
theorem ok_rCosine:zY Tryz.prog 182 zXY:=by
 intro ps r h;unfold zXY at h;split at h
 ·simp only [vQZ,vQY] at h;obtain ⟨hg,rfl⟩:=h
  try simp only [vQJ,decide_eq_true_eq] at hg
  exact qY (qU Tryz.func182 (by kernel_rfl) (by kernel_rfl)) rfl rfl (fun w=>rCosine _ hg w)
 ·cases h
noncomputable def yHW:OrL:=(182,zXY) :: LTa12
theorem yQQ:AllP (fun x:Nat × (List PV→Option (Bool × Ret))=>zY Tryz.prog x.1 x.2) yHW:=⟨ok_rCosine,LTa12_ok⟩
end Ta
set_option maxRecDepth 100000 in
theorem aFirst (r:Int) (h:0≤r∧r≤16384) (w:World):Calls Tryz.prog 192 [.int .i64 r].toArray w (Rets (iv (jG r)) (w)) :=
 qH (x:=.a (ivC (jG r))) (qX (N:=60) (ps:=[.n .i64 r]) yH yZ (OrL.ok (l:=yHW) yQQ) ((by kernel_rfl:_=bif (decide (r≤8192)) then (bif decide (0≤r∧r≤8192) then some (.v (.a (ivC (zUZ r))),[])
 else none)
 else bif decide (0≤(vJJ .i64 (16384 - r))∧(vJJ .i64 (16384 - r))≤8192) then some (.v (.a (ivC (qKD (vJJ .i64 (16384 - r))))),[])
 else none).trans (by
 by_cases p:r≤8192
 ·simp only [vJQ p,vYV,vJQ (show 0≤r∧r≤8192 by omega)];unfold jG;rw [vJQ p]; rfl
 ·have w0:vJJ .i64 (16384 - r)=16384 - r:=qK (by omega);simp only [w0,vYH p,vYG,vJQ (show 0≤16384 - r∧16384 - r≤8192 by omega),vYV];unfold jG;rw [vYH p]; rfl))) rfl rfl w
set_option maxRecDepth 100000 in
theorem rQuarter (r:Int) (h:0≤r∧r≤16384) (w:World):Calls Tryz.prog 177 [.int .i64 r].toArray w (Rets (iv (jG r)) (w)) :=
 qH (x:=.a (ivC (jG r))) (qX (N:=60) (ps:=[.n .i64 r]) yH yZ (OrL.ok (l:=yHW) yQQ) ((by kernel_rfl:_=bif (decide (r≤8192)) then (bif decide (0≤r∧r≤8192) then some (.v (.a (ivC (zUZ r))),[])
 else none)
 else bif decide (0≤(vJJ .i64 (16384 - r))∧(vJJ .i64 (16384 - r))≤8192) then some (.v (.a (ivC (qKD (vJJ .i64 (16384 - r))))),[])
 else none).trans (by
 by_cases p:r≤8192
 ·simp only [vJQ p,vYV,vJQ (show 0≤r∧r≤8192 by omega)];unfold jG;rw [vJQ p]; rfl
 ·have w0:vJJ .i64 (16384 - r)=16384 - r:=qK (by omega);simp only [w0,vYH p,vYG,vJQ (show 0≤16384 - r∧16384 - r≤8192 by omega),vYV];unfold jG;rw [vYH p]; rfl))) rfl rfl w
namespace Ta
noncomputable def zGC:List PV→Option (Bool × Ret):=fun ps=>match ps with
 | [.n .i64 r]=>some (decide (0≤r∧r≤16384),.v (.a (ivC (jG r))))
 | _=>none
theorem ok_aFirst:zY Tryz.prog 192 zGC:=by
 intro ps r h;unfold zGC at h;split at h
 ·simp only [vQZ,vQY] at h;obtain ⟨hg,rfl⟩:=h
  try simp only [vQJ,decide_eq_true_eq] at hg
  exact qY (qU Tryz.func192 (by kernel_rfl) (by kernel_rfl)) rfl rfl (fun w=>aFirst _ hg w)
 ·cases h
noncomputable def LTa14:OrL:=(192,zGC) :: yHW
theorem LTa14_ok:AllP (fun x:Nat × (List PV→Option (Bool × Ret))=>zY Tryz.prog x.1 x.2) LTa14:=⟨ok_aFirst,yQQ⟩
noncomputable def zYJ:List PV→Option (Bool × Ret):=fun ps=>match ps with
 | [.n .i64 r]=>some (decide (0≤r∧r≤16384),.v (.a (ivC (jG r))))
 | _=>none
theorem ok_rQuarter:zY Tryz.prog 177 zYJ:=by
 intro ps r h;unfold zYJ at h;split at h
 ·simp only [vQZ,vQY] at h;obtain ⟨hg,rfl⟩:=h
  try simp only [vQJ,decide_eq_true_eq] at hg
  exact qY (qU Tryz.func177 (by kernel_rfl) (by kernel_rfl)) rfl rfl (fun w=>rQuarter _ hg w)
 ·cases h
noncomputable def LTa15:OrL:=(177,zYJ) :: LTa14
theorem LTa15_ok:AllP (fun x:Nat × (List PV→Option (Bool × Ret))=>zY Tryz.prog x.1 x.2) LTa15:=⟨ok_rQuarter,LTa14_ok⟩
noncomputable def yXD:List PV→Option (Bool × Ret):=fun ps=>match ps with
 | [.n .i64 a]=>some (true,.v (.n .i64 ((a % 65536))))
 | _=>none
theorem ok_aMod:zY Tryz.prog 191 yXD:=by
 intro ps r h;unfold yXD at h;split at h
 ·simp only [vQZ,vQY] at h;obtain ⟨hg,rfl⟩:=h;exact qY (qU Tryz.func191 (by kernel_rfl) (by kernel_rfl)) rfl rfl (fun w=>aMod _ w)
 ·cases h
noncomputable def LTa16:OrL:=(191,yXD) :: LTa15
theorem LTa16_ok:AllP (fun x:Nat × (List PV→Option (Bool × Ret))=>zY Tryz.prog x.1 x.2) LTa16:=⟨ok_aMod,LTa15_ok⟩
noncomputable def yXX:List PV→Option (Bool × Ret):=fun ps=>match ps with
 | [.n .i64 a]=>some (true,.v (.n .i64 ((a % 65536))))
 | _=>none
theorem ok_rMod:zY Tryz.prog 176 yXX:=by
 intro ps r h;unfold yXX at h;split at h
 ·simp only [vQZ,vQY] at h;obtain ⟨hg,rfl⟩:=h;exact qY (qU Tryz.func176 (by kernel_rfl) (by kernel_rfl)) rfl rfl (fun w=>rMod _ w)
 ·cases h
noncomputable def LTa17:OrL:=(176,yXX) :: LTa16
theorem LTa17_ok:AllP (fun x:Nat × (List PV→Option (Bool × Ret))=>zY Tryz.prog x.1 x.2) LTa17:=⟨ok_rMod,LTa16_ok⟩
noncomputable def o_iNeg:List PV→Option (Bool × Ret):=fun ps=>match ps with
 | [.a a']=>(ivD a').bind fun a=>some (true,.v (.a (ivC (Iv.neg a))))
 | _=>none
theorem ok_iNeg:zY Tryz.prog 180 o_iNeg:=by
 intro ps r h;unfold o_iNeg at h;split at h
 ·simp only [vQQ,vQZ,vQY] at h;obtain ⟨a,ha,hg,rfl⟩:=h;rw [uY ha];exact qY (qU Tryz.func180 (by kernel_rfl) (by kernel_rfl)) rfl rfl (fun w=>iNeg _ _ w)
 ·cases h
noncomputable def LTa18:OrL:=(180,o_iNeg) :: LTa17
theorem LTa18_ok:AllP (fun x:Nat × (List PV→Option (Bool × Ret))=>zY Tryz.prog x.1 x.2) LTa18:=⟨ok_iNeg,LTa17_ok⟩
noncomputable def o_rNeg:List PV→Option (Bool × Ret):=fun ps=>match ps with
 | [.a a']=>(ivD a').bind fun a=>some (true,.v (.a (ivC (Iv.neg a))))
 | _=>none
theorem ok_rNeg:zY Tryz.prog 164 o_rNeg:=by
 intro ps r h;unfold o_rNeg at h;split at h
 ·simp only [vQQ,vQZ,vQY] at h;obtain ⟨a,ha,hg,rfl⟩:=h;rw [uY ha];exact qY (qU Tryz.func164 (by kernel_rfl) (by kernel_rfl)) rfl rfl (fun w=>rNeg _ _ w)
 ·cases h
noncomputable def yHX:OrL:=(164,o_rNeg) :: LTa18
theorem zHL:AllP (fun x:Nat × (List PV→Option (Bool × Ret))=>zY Tryz.prog x.1 x.2) yHX:=⟨ok_rNeg,LTa18_ok⟩
end Ta
set_option maxRecDepth 100000 in
theorem aSin (a:Int) (w:World):Calls Tryz.prog 185 [.int .i64 a].toArray w (Rets (iv (sinI a)) (w)) :=
 qH (x:=.a (ivC (sinI a))) (qX (N:=60) (ps:=[.n .i64 a]) yH yZ (OrL.ok (l:=yHX) zHL) ((by kernel_rfl:_=bif (decide ((vJJ .i64 ((a % 65536).tdiv 16384))=0)) then (bif decide (0≤((a % 65536).tmod 16384)∧((a % 65536).tmod 16384)≤16384) then some (.v (.a (ivC (jG ((a % 65536).tmod 16384)))),[])
 else none)
 else bif (decide ((vJJ .i64 ((a % 65536).tdiv 16384))=1)) then (bif decide (0≤(vJJ .i64 (16384 - ((a % 65536).tmod 16384)))∧(vJJ .i64 (16384 - ((a % 65536).tmod 16384)))≤16384) then some (.v (.a (ivC (jG (vJJ .i64 (16384 - ((a % 65536).tmod 16384)))))),[])
 else none)
 else bif (decide ((vJJ .i64 ((a % 65536).tdiv 16384))=2)) then (bif decide (0≤((a % 65536).tmod 16384)∧((a % 65536).tmod 16384)≤16384) then some (.v (.a (ivC (Iv.neg (jG ((a % 65536).tmod 16384))))),[])
 else none)
 else bif decide (0≤(vJJ .i64 (16384 - ((a % 65536).tmod 16384)))∧(vJJ .i64 (16384 - ((a % 65536).tmod 16384)))≤16384) then some (.v (.a (ivC (Iv.neg (jG (vJJ .i64 (16384 - ((a % 65536).tmod 16384))))))),[])
 else none).trans (by
 have ht:(a % 65536).tdiv 16384=a % 65536 / 16384:=tdnn (by omega);have hm:(a % 65536).tmod 16384=a % 65536 % 16384:=Int.tmod_eq_emod_of_nonneg (by omega);have w1:vJJ .i64 (a % 65536 % 16384)=a % 65536 % 16384:=qK (by omega);have w2:vJJ .i64 (a % 65536 / 16384)=a % 65536 / 16384:=qK (by omega);have w3:vJJ .i64 (16384 - a % 65536 % 16384)=16384 - a % 65536 % 16384:=qK (by omega);simp only [ht,hm,w1,w2,w3,vJQ (show 0≤a % 65536 % 16384∧a % 65536 % 16384≤16384 by omega),vJQ (show 0≤16384 - a % 65536 % 16384∧16384 - a % 65536 % 16384≤16384 by omega),vYV];unfold sinI sinM;cases decide (a % 65536 / 16384=0) <;> cases decide (a % 65536 / 16384=1) <;> cases decide (a % 65536 / 16384=2) <;> rfl))) rfl rfl w
set_option maxRecDepth 100000 in
theorem rSin (a:Int) (w:World):Calls Tryz.prog 171 [.int .i64 a].toArray w (Rets (iv (sinI a)) (w)) :=
 qH (x:=.a (ivC (sinI a))) (qX (N:=60) (ps:=[.n .i64 a]) yH yZ (OrL.ok (l:=yHX) zHL) ((by kernel_rfl:_=bif (decide ((vJJ .i64 ((a % 65536).tdiv 16384))=0)) then (bif decide (0≤((a % 65536).tmod 16384)∧((a % 65536).tmod 16384)≤16384) then some (.v (.a (ivC (jG ((a % 65536).tmod 16384)))),[])
 else none)
 else bif (decide ((vJJ .i64 ((a % 65536).tdiv 16384))=1)) then (bif decide (0≤(vJJ .i64 (16384 - ((a % 65536).tmod 16384)))∧(vJJ .i64 (16384 - ((a % 65536).tmod 16384)))≤16384) then some (.v (.a (ivC (jG (vJJ .i64 (16384 - ((a % 65536).tmod 16384)))))),[])
 else none)
 else bif (decide ((vJJ .i64 ((a % 65536).tdiv 16384))=2)) then (bif decide (0≤((a % 65536).tmod 16384)∧((a % 65536).tmod 16384)≤16384) then some (.v (.a (ivC (Iv.neg (jG ((a % 65536).tmod 16384))))),[])
 else none)
 else bif decide (0≤(vJJ .i64 (16384 - ((a % 65536).tmod 16384)))∧(vJJ .i64 (16384 - ((a % 65536).tmod 16384)))≤16384) then some (.v (.a (ivC (Iv.neg (jG (vJJ .i64 (16384 - ((a % 65536).tmod 16384))))))),[])
 else none).trans (by
 have ht:(a % 65536).tdiv 16384=a % 65536 / 16384:=tdnn (by omega);have hm:(a % 65536).tmod 16384=a % 65536 % 16384:=Int.tmod_eq_emod_of_nonneg (by omega);have w1:vJJ .i64 (a % 65536 % 16384)=a % 65536 % 16384:=qK (by omega);have w2:vJJ .i64 (a % 65536 / 16384)=a % 65536 / 16384:=qK (by omega);have w3:vJJ .i64 (16384 - a % 65536 % 16384)=16384 - a % 65536 % 16384:=qK (by omega);simp only [ht,hm,w1,w2,w3,vJQ (show 0≤a % 65536 % 16384∧a % 65536 % 16384≤16384 by omega),vJQ (show 0≤16384 - a % 65536 % 16384∧16384 - a % 65536 % 16384≤16384 by omega),vYV];unfold sinI sinM;cases decide (a % 65536 / 16384=0) <;> cases decide (a % 65536 / 16384=1) <;> cases decide (a % 65536 / 16384=2) <;> rfl))) rfl rfl w
namespace Ta
noncomputable def yXB:List PV→Option (Bool × Ret):=fun ps=>match ps with
 | [.n .i64 a]=>some (true,.v (.a (ivC (sinI a))))
 | _=>none
theorem ok_aSin:zY Tryz.prog 185 yXB:=by
 intro ps r h;unfold yXB at h;split at h
 ·simp only [vQZ,vQY] at h;obtain ⟨hg,rfl⟩:=h;exact qY (qU Tryz.func185 (by kernel_rfl) (by kernel_rfl)) rfl rfl (fun w=>aSin _ w)
 ·cases h
noncomputable def LTa20:OrL:=(185,yXB) :: yHX
theorem LTa20_ok:AllP (fun x:Nat × (List PV→Option (Bool × Ret))=>zY Tryz.prog x.1 x.2) LTa20:=⟨ok_aSin,zHL⟩
noncomputable def yXJ:List PV→Option (Bool × Ret):=fun ps=>match ps with
 | [.n .i64 a]=>some (true,.v (.a (ivC (sinI a))))
 | _=>none
theorem ok_rSin:zY Tryz.prog 171 yXJ:=by
 intro ps r h;unfold yXJ at h;split at h
 ·simp only [vQZ,vQY] at h;obtain ⟨hg,rfl⟩:=h;exact qY (qU Tryz.func171 (by kernel_rfl) (by kernel_rfl)) rfl rfl (fun w=>rSin _ w)
 ·cases h
noncomputable def yHU:OrL:=(171,yXJ) :: LTa20
theorem zHI:AllP (fun x:Nat × (List PV→Option (Bool × Ret))=>zY Tryz.prog x.1 x.2) yHU:=⟨ok_rSin,LTa20_ok⟩
end Ta
set_option maxRecDepth 100000 in
theorem aCos (a:Int) (w:World):Calls Tryz.prog 184 [.int .i64 a].toArray w (Rets (iv (cosI a)) (w)) :=
 qH (x:=.a (ivC (cosI a))) (qX (N:=60) (ps:=[.n .i64 a]) yH yZ (OrL.ok (l:=yHU) zHI) ((by kernel_rfl:_=some (.v (.a (ivC (sinI (vJJ .i64 ((a % 65536) + 16384))))),[])).trans (by
 rw [qK (show -9223372036854775808≤a % 65536 + 16384∧a % 65536 + 16384≤9223372036854775807 by omega)]
 rfl))) rfl rfl w
set_option maxRecDepth 100000 in
theorem rCos (a:Int) (w:World):Calls Tryz.prog 170 [.int .i64 a].toArray w (Rets (iv (cosI a)) (w)) :=
 qH (x:=.a (ivC (cosI a))) (qX (N:=60) (ps:=[.n .i64 a]) yH yZ (OrL.ok (l:=yHU) zHI) ((by kernel_rfl:_=some (.v (.a (ivC (sinI (vJJ .i64 ((a % 65536) + 16384))))),[])).trans (by
 rw [qK (show -9223372036854775808≤a % 65536 + 16384∧a % 65536 + 16384≤9223372036854775807 by omega)]
 rfl))) rfl rfl w
namespace Ta
noncomputable def yXF:List PV→Option (Bool × Ret):=fun ps=>match ps with
 | [.n .i64 a]=>some (true,.v (.a (ivC (cosI a))))
 | _=>none
theorem ok_aCos:zY Tryz.prog 184 yXF:=by
 intro ps r h;unfold yXF at h;split at h
 ·simp only [vQZ,vQY] at h;obtain ⟨hg,rfl⟩:=h;exact qY (qU Tryz.func184 (by kernel_rfl) (by kernel_rfl)) rfl rfl (fun w=>aCos _ w)
 ·cases h
noncomputable def LTa22:OrL:=(184,yXF) :: yHU
theorem LTa22_ok:AllP (fun x:Nat × (List PV→Option (Bool × Ret))=>zY Tryz.prog x.1 x.2) LTa22:=⟨ok_aCos,zHI⟩
noncomputable def yXG:List PV→Option (Bool × Ret):=fun ps=>match ps with
 | [.n .i64 a]=>some (true,.v (.a (ivC (cosI a))))
 | _=>none
theorem ok_rCos:zY Tryz.prog 170 yXG:=by
 intro ps r h;unfold yXG at h;split at h
 ·simp only [vQZ,vQY] at h;obtain ⟨hg,rfl⟩:=h;exact qY (qU Tryz.func170 (by kernel_rfl) (by kernel_rfl)) rfl rfl (fun w=>rCos _ w)
 ·cases h
noncomputable def LTa23:OrL:=(170,yXG) :: LTa22
theorem LTa23_ok:AllP (fun x:Nat × (List PV→Option (Bool × Ret))=>zY Tryz.prog x.1 x.2) LTa23:=⟨ok_rCos,LTa22_ok⟩
noncomputable def LTa24:OrL:=(126,Tn.o_iValid) :: LTa23
theorem LTa24_ok:AllP (fun x:Nat × (List PV→Option (Bool × Ret))=>zY Tryz.prog x.1 x.2) LTa24:=⟨Tn.ok_iValid,LTa23_ok⟩
noncomputable def yYA:List PV→Option (Bool × Ret):=fun ps=>match ps with
 | [.a a',.a b']=>(ivD a').bind fun a=>(ivD b').bind fun b=>some (true,.v (.a (ivC (Iv.hull a b))))
 | _=>none
theorem ok_iHull:zY Tryz.prog 189 yYA:=by
 intro ps r h;unfold yYA at h;split at h
 ·simp only [vQQ,vQZ,vQY] at h;obtain ⟨a,ha,b,hb,hg,rfl⟩:=h;rw [uY ha];rw [uY hb];exact qY (qU Tryz.func189 (by kernel_rfl) (by kernel_rfl)) rfl rfl (fun w=>iHull _ _ _ _ w)
 ·cases h
noncomputable def LTa25:OrL:=(189,yYA) :: LTa24
theorem LTa25_ok:AllP (fun x:Nat × (List PV→Option (Bool × Ret))=>zY Tryz.prog x.1 x.2) LTa25:=⟨ok_iHull,LTa24_ok⟩
noncomputable def o_iOf:List PV→Option (Bool × Ret):=fun ps=>match ps with
 | [.n .i64 x]=>some (true,.v (.a (ivC (Iv.of x))))
 | _=>none
theorem ok_iOf:zY Tryz.prog 100 o_iOf:=by
 intro ps r h;unfold o_iOf at h;split at h
 ·simp only [vQZ,vQY] at h;obtain ⟨hg,rfl⟩:=h;exact qY (qU Tryz.func100 (by kernel_rfl) (by kernel_rfl)) rfl rfl (fun w=>iOf _ w)
 ·cases h
noncomputable def LTa26:OrL:=(100,o_iOf) :: LTa25
theorem LTa26_ok:AllP (fun x:Nat × (List PV→Option (Bool × Ret))=>zY Tryz.prog x.1 x.2) LTa26:=⟨ok_iOf,LTa25_ok⟩
noncomputable def LTa27:OrL:=(134,Tn.o_rValid) :: LTa26
theorem LTa27_ok:AllP (fun x:Nat × (List PV→Option (Bool × Ret))=>zY Tryz.prog x.1 x.2) LTa27:=⟨Tn.ok_rValid,LTa26_ok⟩
noncomputable def yYW:List PV→Option (Bool × Ret):=fun ps=>match ps with
 | [.a a',.a b']=>(ivD a').bind fun a=>(ivD b').bind fun b=>some (true,.v (.a (ivC (Iv.hull a b))))
 | _=>none
theorem ok_rHull:zY Tryz.prog 174 yYW:=by
 intro ps r h;unfold yYW at h;split at h
 ·simp only [vQQ,vQZ,vQY] at h;obtain ⟨a,ha,b,hb,hg,rfl⟩:=h;rw [uY ha];rw [uY hb];exact qY (qU Tryz.func174 (by kernel_rfl) (by kernel_rfl)) rfl rfl (fun w=>rHull _ _ _ _ w)
 ·cases h
noncomputable def LTa28:OrL:=(174,yYW) :: LTa27
theorem LTa28_ok:AllP (fun x:Nat × (List PV→Option (Bool × Ret))=>zY Tryz.prog x.1 x.2) LTa28:=⟨ok_rHull,LTa27_ok⟩
noncomputable def o_rOf:List PV→Option (Bool × Ret):=fun ps=>match ps with
 | [.n .i64 x]=>some (true,.v (.a (ivC (Iv.of x))))
 | _=>none
theorem ok_rOf:zY Tryz.prog 111 o_rOf:=by
 intro ps r h;unfold o_rOf at h;split at h
 ·simp only [vQZ,vQY] at h;obtain ⟨hg,rfl⟩:=h;exact qY (qU Tryz.func111 (by kernel_rfl) (by kernel_rfl)) rfl rfl (fun w=>rOf _ w)
 ·cases h
noncomputable def LTa29:OrL:=(111,o_rOf) :: LTa28
theorem LTa29_ok:AllP (fun x:Nat × (List PV→Option (Bool × Ret))=>zY Tryz.prog x.1 x.2) LTa29:=⟨ok_rOf,LTa28_ok⟩
noncomputable def zGH:List PV→Option (Bool × Ret):=fun ps=>match ps with
 | [.a a']=>(ivD a').bind fun a=>some (true,.v (.n .i64 (Iv.width a)))
 | _=>none
theorem ok_iWidth:zY Tryz.prog 188 zGH:=by
 intro ps r h;unfold zGH at h;split at h
 ·simp only [vQQ,vQZ,vQY] at h;obtain ⟨a,ha,hg,rfl⟩:=h;rw [uY ha];exact qY (qU Tryz.func188 (by kernel_rfl) (by kernel_rfl)) rfl rfl (fun w=>iWidth _ _ w)
 ·cases h
noncomputable def LTa30:OrL:=(188,zGH) :: LTa29
theorem LTa30_ok:AllP (fun x:Nat × (List PV→Option (Bool × Ret))=>zY Tryz.prog x.1 x.2) LTa30:=⟨ok_iWidth,LTa29_ok⟩
noncomputable def zGB:List PV→Option (Bool × Ret):=fun ps=>match ps with
 | [.a a',.n .i64 c]=>(ivD a').bind fun a=>some (decide (0≤c∧c < 65536) && Iv.valid a,.v (.b (kQ a c)))
 | _=>none
theorem ok_aMeets:zY Tryz.prog 190 zGB:=by
 intro ps r h;unfold zGB at h;split at h
 ·simp only [vQQ,vQZ,vQY] at h;obtain ⟨a,ha,hg,rfl⟩:=h;rw [uY ha]
  try simp only [vQJ,decide_eq_true_eq] at hg
  exact qY (qU Tryz.func190 (by kernel_rfl) (by kernel_rfl)) rfl rfl (fun w=>aMeets _ _ _ hg.2 hg.1 w)
 ·cases h
noncomputable def LTa31:OrL:=(190,zGB) :: LTa30
theorem LTa31_ok:AllP (fun x:Nat × (List PV→Option (Bool × Ret))=>zY Tryz.prog x.1 x.2) LTa31:=⟨ok_aMeets,LTa30_ok⟩
noncomputable def zGK:List PV→Option (Bool × Ret):=fun ps=>match ps with
 | [.a a',.n .i64 c]=>(ivD a').bind fun a=>some (decide (0≤c∧c < 65536) && Iv.valid a,.v (.b (kQ a c)))
 | _=>none
theorem ok_rMeets:zY Tryz.prog 175 zGK:=by
 intro ps r h;unfold zGK at h;split at h
 ·simp only [vQQ,vQZ,vQY] at h;obtain ⟨a,ha,hg,rfl⟩:=h;rw [uY ha]
  try simp only [vQJ,decide_eq_true_eq] at hg
  exact qY (qU Tryz.func175 (by kernel_rfl) (by kernel_rfl)) rfl rfl (fun w=>rMeets _ _ _ hg.2 hg.1 w)
 ·cases h
noncomputable def yVY:OrL:=(175,zGK) :: LTa31
theorem zKB:AllP (fun x:Nat × (List PV→Option (Bool × Ret))=>zY Tryz.prog x.1 x.2) yVY:=⟨ok_rMeets,LTa31_ok⟩
end Ta
set_option maxRecDepth 100000 in
theorem aSinOver (a0 a1:Int) (w:World):Calls Tryz.prog 179 [.agg #[.int .i64 a0,.int .i64 a1]].toArray w (Rets (iv (yY (⟨a0,a1⟩:Iv))) (w)) :=
 qH (x:=.a (ivC (yY ⟨a0,a1⟩))) (qX (N:=60) (ps:=[.a [.n .i64 a0,.n .i64 a1]]) yH yZ (OrL.ok (l:=yVY) zKB) ((by kernel_rfl:_=bif Iv.valid (Iv.mk a0 a1) then (bif (decide (65536≤Iv.width (Iv.mk a0 a1))) then some (.v (.a [.n .i64 (-65536),.n .i64 65536]),[])
 else bif Iv.valid (Iv.mk a0 a1) then (bif kQ (Iv.mk a0 a1) 16384 then (bif Iv.valid (Iv.mk a0 a1) then (bif kQ (Iv.mk a0 a1) 49152 then some (.v (.a (ivC (Iv.hull (Iv.hull (Iv.hull (sinI a0) (sinI a1)) (Iv.of 65536)) (Iv.of (-65536))))),[])
 else some (.v (.a (ivC (Iv.hull (Iv.hull (sinI a0) (sinI a1)) (Iv.of 65536)))),[]))
 else none)
 else bif Iv.valid (Iv.mk a0 a1) then (bif kQ (Iv.mk a0 a1) 49152 then some (.v (.a (ivC (Iv.hull (Iv.hull (sinI a0) (sinI a1)) (Iv.of (-65536))))),[])
 else some (.v (.a (ivC (Iv.hull (sinI a0) (sinI a1)))),[]))
 else none)
 else none)
 else some (.v (.a [.n .i64 0,.n .i64 0]),[])).trans (by
 have e:yY ⟨a0,a1⟩=bif !Iv.valid (Iv.mk a0 a1) then ⟨0,0⟩ else bif decide (65536≤a1 - a0) then ⟨-65536,65536⟩ else bif kQ (Iv.mk a0 a1) 49152 then Iv.hull (bif kQ (Iv.mk a0 a1) 16384 then Iv.hull (Iv.hull (sinI a0) (sinI a1)) (Iv.of 65536) else Iv.hull (sinI a0) (sinI a1)) (Iv.of (-65536)) else (bif kQ (Iv.mk a0 a1) 16384 then Iv.hull (Iv.hull (sinI a0) (sinI a1)) (Iv.of 65536) else Iv.hull (sinI a0) (sinI a1)):=rfl
 rw [e];cases hv:Iv.valid (Iv.mk a0 a1) with
 | false=>rfl
 | true =>
  have hb:=uZ hv;have hw:Iv.width (Iv.mk a0 a1)=a1 - a0:=by unfold Iv.width; rw [hv]; rfl
  rw [hw];cases decide (65536≤a1 - a0) <;> cases kQ (Iv.mk a0 a1) 16384 <;> cases kQ (Iv.mk a0 a1) 49152 <;> rfl))) rfl rfl w
set_option maxRecDepth 100000 in
theorem aCosOver (a0 a1:Int) (w:World):Calls Tryz.prog 178 [.agg #[.int .i64 a0,.int .i64 a1]].toArray w (Rets (iv (yJ (⟨a0,a1⟩:Iv))) (w)) :=
 qH (x:=.a (ivC (yJ ⟨a0,a1⟩))) (qX (N:=60) (ps:=[.a [.n .i64 a0,.n .i64 a1]]) yH yZ (OrL.ok (l:=yVY) zKB) ((by kernel_rfl:_=bif Iv.valid (Iv.mk a0 a1) then (bif (decide (65536≤Iv.width (Iv.mk a0 a1))) then some (.v (.a [.n .i64 (-65536),.n .i64 65536]),[])
 else bif Iv.valid (Iv.mk a0 a1) then (bif kQ (Iv.mk a0 a1) 0 then (bif Iv.valid (Iv.mk a0 a1) then (bif kQ (Iv.mk a0 a1) 32768 then some (.v (.a (ivC (Iv.hull (Iv.hull (Iv.hull (cosI a0) (cosI a1)) (Iv.of 65536)) (Iv.of (-65536))))),[])
 else some (.v (.a (ivC (Iv.hull (Iv.hull (cosI a0) (cosI a1)) (Iv.of 65536)))),[]))
 else none)
 else bif Iv.valid (Iv.mk a0 a1) then (bif kQ (Iv.mk a0 a1) 32768 then some (.v (.a (ivC (Iv.hull (Iv.hull (cosI a0) (cosI a1)) (Iv.of (-65536))))),[])
 else some (.v (.a (ivC (Iv.hull (cosI a0) (cosI a1)))),[]))
 else none)
 else none)
 else some (.v (.a [.n .i64 0,.n .i64 0]),[])).trans (by
 have e:yJ ⟨a0,a1⟩=bif !Iv.valid (Iv.mk a0 a1) then ⟨0,0⟩ else bif decide (65536≤a1 - a0) then ⟨-65536,65536⟩ else bif kQ (Iv.mk a0 a1) 32768 then Iv.hull (bif kQ (Iv.mk a0 a1) 0 then Iv.hull (Iv.hull (cosI a0) (cosI a1)) (Iv.of 65536) else Iv.hull (cosI a0) (cosI a1)) (Iv.of (-65536)) else (bif kQ (Iv.mk a0 a1) 0 then Iv.hull (Iv.hull (cosI a0) (cosI a1)) (Iv.of 65536) else Iv.hull (cosI a0) (cosI a1)):=rfl
 rw [e];cases hv:Iv.valid (Iv.mk a0 a1) with
 | false=>rfl
 | true =>
  have hb:=uZ hv;have hw:Iv.width (Iv.mk a0 a1)=a1 - a0:=by unfold Iv.width; rw [hv]; rfl
  rw [hw];cases decide (65536≤a1 - a0) <;> cases kQ (Iv.mk a0 a1) 0 <;> cases kQ (Iv.mk a0 a1) 32768 <;> rfl))) rfl rfl w
set_option maxRecDepth 100000 in
theorem rSinOver (a0 a1:Int) (w:World):Calls Tryz.prog 163 [.agg #[.int .i64 a0,.int .i64 a1]].toArray w (Rets (iv (yY (⟨a0,a1⟩:Iv))) (w)) :=
 qH (x:=.a (ivC (yY ⟨a0,a1⟩))) (qX (N:=60) (ps:=[.a [.n .i64 a0,.n .i64 a1]]) yH yZ (OrL.ok (l:=yVY) zKB) ((by kernel_rfl:_=bif Iv.valid (Iv.mk a0 a1) then (bif (decide (65536≤(vJJ .i64 (a1 - a0)))) then some (.v (.a [.n .i64 (-65536),.n .i64 65536]),[])
 else bif Iv.valid (Iv.mk a0 a1) then (bif kQ (Iv.mk a0 a1) 16384 then (bif Iv.valid (Iv.mk a0 a1) then (bif kQ (Iv.mk a0 a1) 49152 then some (.v (.a (ivC (Iv.hull (Iv.hull (Iv.hull (sinI a0) (sinI a1)) (Iv.of 65536)) (Iv.of (-65536))))),[])
 else some (.v (.a (ivC (Iv.hull (Iv.hull (sinI a0) (sinI a1)) (Iv.of 65536)))),[]))
 else none)
 else bif Iv.valid (Iv.mk a0 a1) then (bif kQ (Iv.mk a0 a1) 49152 then some (.v (.a (ivC (Iv.hull (Iv.hull (sinI a0) (sinI a1)) (Iv.of (-65536))))),[])
 else some (.v (.a (ivC (Iv.hull (sinI a0) (sinI a1)))),[]))
 else none)
 else none)
 else some (.v (.a [.n .i64 0,.n .i64 0]),[])).trans (by
 have e:yY ⟨a0,a1⟩=bif !Iv.valid (Iv.mk a0 a1) then ⟨0,0⟩ else bif decide (65536≤a1 - a0) then ⟨-65536,65536⟩ else bif kQ (Iv.mk a0 a1) 49152 then Iv.hull (bif kQ (Iv.mk a0 a1) 16384 then Iv.hull (Iv.hull (sinI a0) (sinI a1)) (Iv.of 65536) else Iv.hull (sinI a0) (sinI a1)) (Iv.of (-65536)) else (bif kQ (Iv.mk a0 a1) 16384 then Iv.hull (Iv.hull (sinI a0) (sinI a1)) (Iv.of 65536) else Iv.hull (sinI a0) (sinI a1)):=rfl
 rw [e];cases hv:Iv.valid (Iv.mk a0 a1) with
 | false=>rfl
 | true =>
  have hb:=uZ hv;have hw:vJJ .i64 (a1 - a0)=a1 - a0:=qK (by omega);rw [hw];cases decide (65536≤a1 - a0) <;> cases kQ (Iv.mk a0 a1) 16384 <;> cases kQ (Iv.mk a0 a1) 49152 <;> rfl))) rfl rfl w
set_option maxRecDepth 100000 in
theorem rCosOver (a0 a1:Int) (w:World):Calls Tryz.prog 162 [.agg #[.int .i64 a0,.int .i64 a1]].toArray w (Rets (iv (yJ (⟨a0,a1⟩:Iv))) (w)) :=
 qH (x:=.a (ivC (yJ ⟨a0,a1⟩))) (qX (N:=60) (ps:=[.a [.n .i64 a0,.n .i64 a1]]) yH yZ (OrL.ok (l:=yVY) zKB) ((by kernel_rfl:_=bif Iv.valid (Iv.mk a0 a1) then (bif (decide (65536≤(vJJ .i64 (a1 - a0)))) then some (.v (.a [.n .i64 (-65536),.n .i64 65536]),[])
 else bif Iv.valid (Iv.mk a0 a1) then (bif kQ (Iv.mk a0 a1) 0 then (bif Iv.valid (Iv.mk a0 a1) then (bif kQ (Iv.mk a0 a1) 32768 then some (.v (.a (ivC (Iv.hull (Iv.hull (Iv.hull (cosI a0) (cosI a1)) (Iv.of 65536)) (Iv.of (-65536))))),[])
 else some (.v (.a (ivC (Iv.hull (Iv.hull (cosI a0) (cosI a1)) (Iv.of 65536)))),[]))
 else none)
 else bif Iv.valid (Iv.mk a0 a1) then (bif kQ (Iv.mk a0 a1) 32768 then some (.v (.a (ivC (Iv.hull (Iv.hull (cosI a0) (cosI a1)) (Iv.of (-65536))))),[])
 else some (.v (.a (ivC (Iv.hull (cosI a0) (cosI a1)))),[]))
 else none)
 else none)
 else some (.v (.a [.n .i64 0,.n .i64 0]),[])).trans (by
 have e:yJ ⟨a0,a1⟩=bif !Iv.valid (Iv.mk a0 a1) then ⟨0,0⟩ else bif decide (65536≤a1 - a0) then ⟨-65536,65536⟩ else bif kQ (Iv.mk a0 a1) 32768 then Iv.hull (bif kQ (Iv.mk a0 a1) 0 then Iv.hull (Iv.hull (cosI a0) (cosI a1)) (Iv.of 65536) else Iv.hull (cosI a0) (cosI a1)) (Iv.of (-65536)) else (bif kQ (Iv.mk a0 a1) 0 then Iv.hull (Iv.hull (cosI a0) (cosI a1)) (Iv.of 65536) else Iv.hull (cosI a0) (cosI a1)):=rfl
 rw [e];cases hv:Iv.valid (Iv.mk a0 a1) with
 | false=>rfl
 | true =>
  have hb:=uZ hv;have hw:vJJ .i64 (a1 - a0)=a1 - a0:=qK (by omega);rw [hw];cases decide (65536≤a1 - a0) <;> cases kQ (Iv.mk a0 a1) 0 <;> cases kQ (Iv.mk a0 a1) 32768 <;> rfl))) rfl rfl w
end Go.Proofs.YtbfcbojgnppacaaGreat
namespace Go.Proofs.YtbfcbojgnppacaaGreat
open Go.Sx Go.Rx Rt Go.RowKit
namespace Tm
end Tm
open Tm
theorem la193:qJL Tryz.prog 193=some ([.int .i64 0,.int .i64 0,.int .i64 0,.int .i64 0],[(0,1),(1,1),(2,1),(3,1)]):=by kernel_rfl
theorem ze193:qYV Tryz.prog 193 (.agg #[.int .i64 0,.int .i64 0,.int .i64 0,.int .i64 0]):=by unfold qYV; kernel_rfl
theorem ty193:tyB Tryz.prog 193 true 4=true:=by kernel_rfl
theorem ar193:arrB Tryz.prog 193 4 1=true:=by kernel_rfl
theorem en161:uQ Tryz.prog 161:=qU Tryz.func161 (by kernel_rfl) (by kernel_rfl)
theorem iScaled (a:Int) (b:Int) (_:In64 a) (hb:In64 b) (_:b≤4611686018427387904) (w:World):Calls Tryz.prog 161 [.int .i64 a,.int .i64 b].toArray w (Rets (iv (Iv.mk (kH (a / 65536)) (kH (zZ b 65536)))) (w)):=by
 refine jW (n:=10) Tryz.func161 rfl rfl rfl ?_;refine zJ ?_;refine qJ ?_;refine qKA 4 ze65 rfl rfl rfl ?_; intro b4;refine zK ?_;refine qZ ?_;refine zJ ?_;refine qJ ?_;refine qW (qV rfl) rfl rfl rfl ?_;refine qUW (F:=vI) (uK en167 rfl (fun w _=>zYI _ _ (by decide) w)) rfl rfl rfl ?_; intro r6 hr6;refine qW (qV rfl) rfl rfl rfl ?_;refine qUW (F:=vI) (uK en168 rfl (fun w _=>zHH _ _ (by decide) hb w)) rfl rfl rfl ?_; intro r8 hr8;refine qUW (F:=iv) (uK en131 rfl (fun w _=>iLimited _ _  w)) rfl rfl rfl ?_; intro r9 hr9;refine qZL 4 ty65 rfl rfl rfl rfl rfl rfl rfl rfl ?_;refine zK ?_;refine qZ ?_;refine qQZ ?_;refine jH (rs:=[.cell 4 65]) rfl (resC (qYU 4 rfl rfl ty65 rfl) (resN)) (congrArg (iv) (?_:⟨_,_⟩=Iv.mk (kH (a / 65536)) (kH (zZ b 65536))))
 subst_vars; rfl
theorem ix4_0 {p0 p1 p2 p3:Int}:∀ w:World,(Instr.index 193 (.agg #[.int .i64 p0,.int .i64 p1,.int .i64 p2,.int .i64 p3]) (.int .i64 0)).run Tryz.prog w=.ok (.int .i64 p0) w:=fun w=>by kernel_rfl
theorem ix4_1 {p0 p1 p2 p3:Int}:∀ w:World,(Instr.index 193 (.agg #[.int .i64 p0,.int .i64 p1,.int .i64 p2,.int .i64 p3]) (.int .i64 1)).run Tryz.prog w=.ok (.int .i64 p1) w:=fun w=>by kernel_rfl
theorem ix4_2 {p0 p1 p2 p3:Int}:∀ w:World,(Instr.index 193 (.agg #[.int .i64 p0,.int .i64 p1,.int .i64 p2,.int .i64 p3]) (.int .i64 2)).run Tryz.prog w=.ok (.int .i64 p2) w:=fun w=>by kernel_rfl
theorem ix4_3 {p0 p1 p2 p3:Int}:∀ w:World,(Instr.index 193 (.agg #[.int .i64 p0,.int .i64 p1,.int .i64 p2,.int .i64 p3]) (.int .i64 3)).run Tryz.prog w=.ok (.int .i64 p3) w:=fun w=>by kernel_rfl
theorem iMul (a0 a1:Int) (b0 b1:Int) (w:World):Calls Tryz.prog 150 [.agg #[.int .i64 a0,.int .i64 a1],.agg #[.int .i64 b0,.int .i64 b1]].toArray w (Rets (iv (Iv.mul (⟨a0,a1⟩:Iv) (⟨b0,b1⟩:Iv))) (w)):=by
 refine jW (n:=54) Tryz.func150 rfl rfl rfl ?_;refine zJ ?_;refine qJ ?_;refine qGF 2 rfl rfl rfl rfl ?_; intro b2;refine qGF 3 rfl rfl rfl rfl ?_; intro b3;refine qKA 4 ze65 rfl rfl rfl ?_; intro b4;refine zK ?_;refine qZ ?_;refine zJ ?_;refine zJ ?_;refine qJ ?_;refine qW (qKV 2 ty65 rfl rfl rfl) rfl rfl rfl ?_;refine qW (qKV 3 ty65 rfl rfl rfl) rfl rfl rfl ?_;refine qUW (F:=vB) (uK en103 rfl (fun w _=>iValid2 _ _ _ _  w)) rfl rfl rfl ?_; intro r12 hr12;refine qW (zVL rfl) rfl rfl rfl ?_;refine zK ?_;refine qZ ?_;refine qJK rfl (fun hc13 => ?_) (fun hc13 => ?_)
 ·
  refine zJ ?_;refine qJ ?_;refine qW (qJV la65 rfl rfl) rfl rfl rfl ?_;refine qZL 4 ty65 rfl rfl rfl rfl rfl rfl rfl rfl ?_;refine zK ?_;refine qZ ?_;refine qQZ ?_;refine qXD ?_;refine jH (rs:=[.cell 4 65]) rfl (resC (qYU 4 rfl rfl ty65 rfl) (resN)) (congrArg (iv) (?_:⟨_,_⟩=Iv.mul (⟨a0,a1⟩:Iv) (⟨b0,b1⟩:Iv)))
  subst_vars; first | (simp_all [Iv.mul,min4,max4]; done) | (simp_all [Iv.mul,min4,max4] <;> omega) | grind [Iv.mul,min4,max4]
 ·
  refine qZX ?_;refine qZ ?_;refine zJ ?_;have hv:=(hr12.symm.trans (by simpa using hc13))
  rw [vQJ] at hv;have ha:=uZ hv.1;have hb:=uZ hv.2;have m1:=qWX (a:=a0) (b:=b0) (by omega) (by omega);have m2:=qWX (a:=a0) (b:=b1) (by omega) (by omega);have m3:=qWX (a:=a1) (b:=b0) (by omega) (by omega);have m4:=qWX (a:=a1) (b:=b1) (by omega) (by omega);refine qJ ?_;refine qW (zX qWA rfl) rfl rfl rfl ?_;refine qW (jK 2 ty2 rfl rfl rfl) rfl rfl rfl ?_;refine qW (zX qWA rfl) rfl rfl rfl ?_;refine qW (jK 3 ty2 rfl rfl rfl) rfl rfl rfl ?_;refine qW (qXF rfl rfl (by first | exact qK ⟨by omega,by omega⟩ | rfl)) rfl rfl rfl ?_;refine qW (zX qWA rfl) rfl rfl rfl ?_;refine qW (jK 2 ty2 rfl rfl rfl) rfl rfl rfl ?_;refine qW (zX zQD rfl) rfl rfl rfl ?_;refine qW (jK 3 ty2 rfl rfl rfl) rfl rfl rfl ?_;refine qW (qXF rfl rfl (by first | exact qK ⟨by omega,by omega⟩ | rfl)) rfl rfl rfl ?_;refine qW (zX zQD rfl) rfl rfl rfl ?_;refine qW (jK 2 ty2 rfl rfl rfl) rfl rfl rfl ?_;refine qW (zX qWA rfl) rfl rfl rfl ?_;refine qW (jK 3 ty2 rfl rfl rfl) rfl rfl rfl ?_;refine qW (qXF rfl rfl (by first | exact qK ⟨by omega,by omega⟩ | rfl)) rfl rfl rfl ?_;refine qW (zX zQD rfl) rfl rfl rfl ?_;refine qW (jK 2 ty2 rfl rfl rfl) rfl rfl rfl ?_;refine qW (zX zQD rfl) rfl rfl rfl ?_;refine qW (jK 3 ty2 rfl rfl rfl) rfl rfl rfl ?_;refine qW (qXF rfl rfl (by first | exact qK ⟨by omega,by omega⟩ | rfl)) rfl rfl rfl ?_;refine qW (qJV la193 rfl rfl) rfl rfl rfl ?_;refine qKA 5 ze193 rfl rfl rfl ?_; intro b5;refine qZL 5 ty193 rfl rfl rfl rfl rfl rfl rfl rfl ?_;refine zK ?_;refine qZ ?_;refine zJ ?_;refine qXJ 5 mo (by kernel_rfl) ?_;simp only [vYK,vYX,vYU,vYW];refine kZ (qWQ ar193 rfl rfl (by first | decide | omega) (by first | decide | omega)) rfl rfl rfl ?_;refine kZ (jK 5 ty2 rfl rfl rfl) rfl rfl rfl ?_;refine kZ (qWQ ar193 rfl rfl (by first | decide | omega) (by first | decide | omega)) rfl rfl rfl ?_;refine kZ (jK 5 ty2 rfl rfl rfl) rfl rfl rfl ?_;refine kZ (zQ rfl) rfl rfl rfl ?_;refine zYL ?_;refine qVG ?_;refine qW (zQ rfl) rfl rfl rfl ?_;refine zK ?_;refine qZ ?_;refine zJ ?_;refine zJ ?_;refine qJ ?_;refine qW (qKV 5 ty193 rfl rfl rfl) rfl rfl rfl ?_;refine qW (qV rfl) rfl rfl rfl ?_;refine zK ?_;refine qZ ?_;refine qKB ?_;refine doC_rounds 5 ?_;refine zQF ?_;refine zJ ?_;refine qJ ?_;refine qW (qKW rfl rfl) rfl rfl rfl ?_;refine zK ?_;refine qZ ?_;refine zJ ?_;refine qXK rfl (by decide) ?_;refine qZX ?_;refine qZ ?_;refine zJ ?_;refine qKB ?_;refine zJ ?_;refine qJ ?_;refine qW (qUF rfl rfl (ix4_0)) rfl rfl rfl ?_;refine qW (zQ rfl) rfl rfl rfl ?_;refine zK ?_;refine qZ ?_;refine qJ ?_;refine qW (qV rfl) rfl rfl rfl ?_;refine qW (qV rfl) rfl rfl rfl ?_;refine qW (qXI rfl rfl) rfl rfl rfl ?_;refine qW (qV rfl) rfl rfl rfl ?_;refine qW (qV rfl) rfl rfl rfl ?_;refine qW (qXL rfl rfl) rfl rfl rfl ?_;refine qW (zQ rfl) rfl rfl rfl ?_;refine qW (zQ rfl) rfl rfl rfl ?_;refine zK ?_;refine uV ?_;refine qZ ?_;refine qJ ?_;refine qW (qYA rfl rfl (by first | exact qK ⟨by omega,by omega⟩ | rfl)) rfl rfl rfl ?_;refine qW (qV rfl) rfl rfl rfl ?_;refine zK ?_;refine qXE ?_;refine zQF ?_;refine zJ ?_;refine qJ ?_;refine qW (qKW rfl rfl) rfl rfl rfl ?_;refine zK ?_;refine qZ ?_;refine zJ ?_;refine qXK rfl (by decide) ?_;refine qZX ?_;refine qZ ?_;refine zJ ?_;refine qKB ?_;refine zJ ?_;refine qJ ?_;refine qW (qUF rfl rfl (ix4_1)) rfl rfl rfl ?_;refine qW (zQ rfl) rfl rfl rfl ?_;refine zK ?_;refine qZ ?_;refine qJ ?_;refine qW (qV rfl) rfl rfl rfl ?_;refine qW (qV rfl) rfl rfl rfl ?_;refine qW (qXI rfl rfl) rfl rfl rfl ?_;refine qW (qV rfl) rfl rfl rfl ?_;refine qW (qV rfl) rfl rfl rfl ?_;refine qW (qXL rfl rfl) rfl rfl rfl ?_;refine qW (zQ rfl) rfl rfl rfl ?_;refine qW (zQ rfl) rfl rfl rfl ?_;refine zK ?_;refine uV ?_;refine qZ ?_;refine qJ ?_;refine qW (qYA rfl rfl (by first | exact qK ⟨by omega,by omega⟩ | rfl)) rfl rfl rfl ?_;refine qW (qV rfl) rfl rfl rfl ?_;refine zK ?_;refine qXE ?_;refine zQF ?_;refine zJ ?_;refine qJ ?_;refine qW (qKW rfl rfl) rfl rfl rfl ?_;refine zK ?_;refine qZ ?_;refine zJ ?_;refine qXK rfl (by decide) ?_;refine qZX ?_;refine qZ ?_;refine zJ ?_;refine qKB ?_;refine zJ ?_;refine qJ ?_;refine qW (qUF rfl rfl (ix4_2)) rfl rfl rfl ?_;refine qW (zQ rfl) rfl rfl rfl ?_;refine zK ?_;refine qZ ?_;refine qJ ?_;refine qW (qV rfl) rfl rfl rfl ?_;refine qW (qV rfl) rfl rfl rfl ?_;refine qW (qXI rfl rfl) rfl rfl rfl ?_;refine qW (qV rfl) rfl rfl rfl ?_;refine qW (qV rfl) rfl rfl rfl ?_;refine qW (qXL rfl rfl) rfl rfl rfl ?_;refine qW (zQ rfl) rfl rfl rfl ?_;refine qW (zQ rfl) rfl rfl rfl ?_;refine zK ?_;refine uV ?_;refine qZ ?_;refine qJ ?_;refine qW (qYA rfl rfl (by first | exact qK ⟨by omega,by omega⟩ | rfl)) rfl rfl rfl ?_;refine qW (qV rfl) rfl rfl rfl ?_;refine zK ?_;refine qXE ?_;refine zQF ?_;refine zJ ?_;refine qJ ?_;refine qW (qKW rfl rfl) rfl rfl rfl ?_;refine zK ?_;refine qZ ?_;refine zJ ?_;refine qXK rfl (by decide) ?_;refine qZX ?_;refine qZ ?_;refine zJ ?_;refine qKB ?_;refine zJ ?_;refine qJ ?_;refine qW (qUF rfl rfl (ix4_3)) rfl rfl rfl ?_;refine qW (zQ rfl) rfl rfl rfl ?_;refine zK ?_;refine qZ ?_;refine qJ ?_;refine qW (qV rfl) rfl rfl rfl ?_;refine qW (qV rfl) rfl rfl rfl ?_;refine qW (qXI rfl rfl) rfl rfl rfl ?_;refine qW (qV rfl) rfl rfl rfl ?_;refine qW (qV rfl) rfl rfl rfl ?_;refine qW (qXL rfl rfl) rfl rfl rfl ?_;refine qW (zQ rfl) rfl rfl rfl ?_;refine qW (zQ rfl) rfl rfl rfl ?_;refine zK ?_;refine uV ?_;refine qZ ?_;refine qJ ?_;refine qW (qYA rfl rfl (by first | exact qK ⟨by omega,by omega⟩ | rfl)) rfl rfl rfl ?_;refine qW (qV rfl) rfl rfl rfl ?_;refine zK ?_;refine qXE ?_;refine zQF ?_;refine zJ ?_;refine qJ ?_;refine qW (qKW rfl rfl) rfl rfl rfl ?_;refine zK ?_;refine qZ ?_;refine zJ ?_;refine zJQ rfl (by decide) ?_;refine doC_exit ?_;refine qJY ?_;refine qJY ?_;refine post_block_exit ?_;refine qZ ?_;refine zJ ?_;refine qJ ?_;refine qW (qV rfl) rfl rfl rfl ?_;refine qW (qV rfl) rfl rfl rfl ?_;refine qUW (F:=iv) (uK en161 rfl (fun w _=>iScaled _ _ (by unfold In64; omega) (by unfold In64; omega) (by omega) w)) rfl rfl rfl ?_; intro r53 hr53;refine qZL 4 ty65 rfl rfl rfl rfl rfl rfl rfl rfl ?_;refine zK ?_;refine qZ ?_;refine qQZ ?_;refine jH (rs:=[.cell 4 65]) rfl (resC (qYU 4 rfl rfl ty65 rfl) (resN)) (congrArg (iv) (?_:⟨_,_⟩=Iv.mul (⟨a0,a1⟩:Iv) (⟨b0,b1⟩:Iv)))
  subst_vars; first | (simp_all [Iv.mul,min4,max4]; done) | (simp_all [Iv.mul,min4,max4] <;> omega) | grind [Iv.mul,min4,max4]
namespace Tm
noncomputable def LTm1:OrL:=(100,Ta.o_iOf) :: ([]:OrL)
theorem LTm1_ok:AllP (fun x:Nat × (List PV→Option (Bool × Ret))=>zY Tryz.prog x.1 x.2) LTm1:=⟨Ta.ok_iOf,trivial⟩
noncomputable def LTm2:OrL:=(111,Ta.o_rOf) :: LTm1
theorem yJF:AllP (fun x:Nat × (List PV→Option (Bool × Ret))=>zY Tryz.prog x.1 x.2) LTm2:=⟨Ta.ok_rOf,LTm1_ok⟩
end Tm
set_option maxRecDepth 100000 in
theorem mPoint (p0 p1 p2:Int) (w:World):Calls Tryz.prog 69 [.agg #[.int .i64 p0,.int .i64 p1,.int .i64 p2]].toArray w (Rets (v3 (V3.of (⟨p0,p1,p2⟩:Z3))) (w)) :=
 qH (x:=.a (v3C (V3.of ⟨p0,p1,p2⟩))) (qX (N:=60) (ps:=[.a [.n .i64 p0,.n .i64 p1,.n .i64 p2]]) yH yZ (OrL.ok (l:=LTm2) yJF) (by kernel_rfl)) rfl rfl w
set_option maxRecDepth 100000 in
theorem rPoint (p0 p1 p2:Int) (w:World):Calls Tryz.prog 84 [.agg #[.int .i64 p0,.int .i64 p1,.int .i64 p2]].toArray w (Rets (v3 (V3.of (⟨p0,p1,p2⟩:Z3))) (w)) :=
 qH (x:=.a (v3C (V3.of ⟨p0,p1,p2⟩))) (qX (N:=60) (ps:=[.a [.n .i64 p0,.n .i64 p1,.n .i64 p2]]) yH yZ (OrL.ok (l:=LTm2) yJF) (by kernel_rfl)) rfl rfl w
namespace Tm
noncomputable def LTm3:OrL:=(126,Tn.o_iValid) :: LTm2
theorem LTm3_ok:AllP (fun x:Nat × (List PV→Option (Bool × Ret))=>zY Tryz.prog x.1 x.2) LTm3:=⟨Tn.ok_iValid,yJF⟩
noncomputable def o_iAdd:List PV→Option (Bool × Ret):=fun ps=>match ps with
 | [.a a',.a b']=>(ivD a').bind fun a=>(ivD b').bind fun b=>some (true,.v (.a (ivC (Iv.add a b))))
 | _=>none
theorem ok_iAdd:zY Tryz.prog 149 o_iAdd:=by
 intro ps r h;unfold o_iAdd at h;split at h
 ·simp only [vQQ,vQZ,vQY] at h;obtain ⟨a,ha,b,hb,hg,rfl⟩:=h;rw [uY ha];rw [uY hb];exact qY (qU Tryz.func149 (by kernel_rfl) (by kernel_rfl)) rfl rfl (fun w=>iAdd _ _ _ _ w)
 ·cases h
noncomputable def LTm4:OrL:=(149,o_iAdd) :: LTm3
theorem LTm4_ok:AllP (fun x:Nat × (List PV→Option (Bool × Ret))=>zY Tryz.prog x.1 x.2) LTm4:=⟨ok_iAdd,LTm3_ok⟩
noncomputable def LTm5:OrL:=(180,Ta.o_iNeg) :: LTm4
theorem LTm5_ok:AllP (fun x:Nat × (List PV→Option (Bool × Ret))=>zY Tryz.prog x.1 x.2) LTm5:=⟨Ta.ok_iNeg,LTm4_ok⟩
noncomputable def LTm6:OrL:=(134,Tn.o_rValid) :: LTm5
theorem LTm6_ok:AllP (fun x:Nat × (List PV→Option (Bool × Ret))=>zY Tryz.prog x.1 x.2) LTm6:=⟨Tn.ok_rValid,LTm5_ok⟩
noncomputable def o_rAdd:List PV→Option (Bool × Ret):=fun ps=>match ps with
 | [.a a',.a b']=>(ivD a').bind fun a=>(ivD b').bind fun b=>some (true,.v (.a (ivC (Iv.add a b))))
 | _=>none
theorem ok_rAdd:zY Tryz.prog 113 o_rAdd:=by
 intro ps r h;unfold o_rAdd at h;split at h
 ·simp only [vQQ,vQZ,vQY] at h;obtain ⟨a,ha,b,hb,hg,rfl⟩:=h;rw [uY ha];rw [uY hb];exact qY (qU Tryz.func113 (by kernel_rfl) (by kernel_rfl)) rfl rfl (fun w=>rAdd _ _ _ _ w)
 ·cases h
noncomputable def LTm7:OrL:=(113,o_rAdd) :: LTm6
theorem LTm7_ok:AllP (fun x:Nat × (List PV→Option (Bool × Ret))=>zY Tryz.prog x.1 x.2) LTm7:=⟨ok_rAdd,LTm6_ok⟩
noncomputable def LTm8:OrL:=(164,Ta.o_rNeg) :: LTm7
theorem zWJ:AllP (fun x:Nat × (List PV→Option (Bool × Ret))=>zY Tryz.prog x.1 x.2) LTm8:=⟨Ta.ok_rNeg,LTm7_ok⟩
end Tm
set_option maxRecDepth 100000 in
theorem mAdd (p0 p1 p2 p3 p4 p5:Int) (q0 q1 q2 q3 q4 q5:Int) (w:World):Calls Tryz.prog 159 [.agg #[.int .i64 p0,.int .i64 p1,.int .i64 p2,.int .i64 p3,.int .i64 p4,.int .i64 p5],.agg #[.int .i64 q0,.int .i64 q1,.int .i64 q2,.int .i64 q3,.int .i64 q4,.int .i64 q5]].toArray w (Rets (v3 (V3.add (⟨⟨p0,p1⟩,⟨p2,p3⟩,⟨p4,p5⟩⟩:V3) (⟨⟨q0,q1⟩,⟨q2,q3⟩,⟨q4,q5⟩⟩:V3))) (w)) :=
 qH (x:=.a (v3C (V3.add ⟨⟨p0,p1⟩,⟨p2,p3⟩,⟨p4,p5⟩⟩ ⟨⟨q0,q1⟩,⟨q2,q3⟩,⟨q4,q5⟩⟩))) (qX (N:=60) (ps:=[.a (ivs [⟨p0,p1⟩,⟨p2,p3⟩,⟨p4,p5⟩]),.a (ivs [⟨q0,q1⟩,⟨q2,q3⟩,⟨q4,q5⟩])]) yH yZ (OrL.ok (l:=LTm8) zWJ) (by kernel_rfl)) rfl rfl w
set_option maxRecDepth 100000 in
theorem rAddVec (p0 p1 p2 p3 p4 p5:Int) (q0 q1 q2 q3 q4 q5:Int) (w:World):Calls Tryz.prog 112 [.agg #[.int .i64 p0,.int .i64 p1,.int .i64 p2,.int .i64 p3,.int .i64 p4,.int .i64 p5],.agg #[.int .i64 q0,.int .i64 q1,.int .i64 q2,.int .i64 q3,.int .i64 q4,.int .i64 q5]].toArray w (Rets (v3 (V3.add (⟨⟨p0,p1⟩,⟨p2,p3⟩,⟨p4,p5⟩⟩:V3) (⟨⟨q0,q1⟩,⟨q2,q3⟩,⟨q4,q5⟩⟩:V3))) (w)) :=
 qH (x:=.a (v3C (V3.add ⟨⟨p0,p1⟩,⟨p2,p3⟩,⟨p4,p5⟩⟩ ⟨⟨q0,q1⟩,⟨q2,q3⟩,⟨q4,q5⟩⟩))) (qX (N:=60) (ps:=[.a (ivs [⟨p0,p1⟩,⟨p2,p3⟩,⟨p4,p5⟩]),.a (ivs [⟨q0,q1⟩,⟨q2,q3⟩,⟨q4,q5⟩])]) yH yZ (OrL.ok (l:=LTm8) zWJ) (by kernel_rfl)) rfl rfl w
set_option maxRecDepth 100000 in
theorem mIdentity  (w:World):Calls Tryz.prog 154 [].toArray w (Rets (m3 (M3.unit)) (w)) :=
 qH (x:=.a (m3C M3.unit)) (qX (N:=60) (ps:=[]) yH yZ (OrL.ok (l:=LTm8) zWJ) (by kernel_rfl)) rfl rfl w
set_option maxRecDepth 100000 in
theorem rUnit  (w:World):Calls Tryz.prog 152 [].toArray w (Rets (m3 (M3.unit)) (w)) :=
 qH (x:=.a (m3C M3.unit)) (qX (N:=60) (ps:=[]) yH yZ (OrL.ok (l:=LTm8) zWJ) (by kernel_rfl)) rfl rfl w
namespace Tm
noncomputable def zYA:List PV→Option (Bool × Ret):=fun ps=>match ps with
 | [.a a']=>(ivD a').bind fun a=>some (true,.v (.a (ivC (yY a))))
 | _=>none
theorem ok_aSinOver:zY Tryz.prog 179 zYA:=by
 intro ps r h;unfold zYA at h;split at h
 ·simp only [vQQ,vQZ,vQY] at h;obtain ⟨a,ha,hg,rfl⟩:=h;rw [uY ha];exact qY (qU Tryz.func179 (by kernel_rfl) (by kernel_rfl)) rfl rfl (fun w=>aSinOver _ _ w)
 ·cases h
noncomputable def LTm9:OrL:=(179,zYA) :: LTm8
theorem LTm9_ok:AllP (fun x:Nat × (List PV→Option (Bool × Ret))=>zY Tryz.prog x.1 x.2) LTm9:=⟨ok_aSinOver,zWJ⟩
noncomputable def zYB:List PV→Option (Bool × Ret):=fun ps=>match ps with
 | [.a a']=>(ivD a').bind fun a=>some (true,.v (.a (ivC (yJ a))))
 | _=>none
theorem ok_aCosOver:zY Tryz.prog 178 zYB:=by
 intro ps r h;unfold zYB at h;split at h
 ·simp only [vQQ,vQZ,vQY] at h;obtain ⟨a,ha,hg,rfl⟩:=h;rw [uY ha];exact qY (qU Tryz.func178 (by kernel_rfl) (by kernel_rfl)) rfl rfl (fun w=>aCosOver _ _ w)
 ·cases h
noncomputable def LTm10:OrL:=(178,zYB) :: LTm9
theorem LTm10_ok:AllP (fun x:Nat × (List PV→Option (Bool × Ret))=>zY Tryz.prog x.1 x.2) LTm10:=⟨ok_aCosOver,LTm9_ok⟩
noncomputable def zYY:List PV→Option (Bool × Ret):=fun ps=>match ps with
 | [.a a']=>(ivD a').bind fun a=>some (true,.v (.a (ivC (yY a))))
 | _=>none
theorem ok_rSinOver:zY Tryz.prog 163 zYY:=by
 intro ps r h;unfold zYY at h;split at h
 ·simp only [vQQ,vQZ,vQY] at h;obtain ⟨a,ha,hg,rfl⟩:=h;rw [uY ha];exact qY (qU Tryz.func163 (by kernel_rfl) (by kernel_rfl)) rfl rfl (fun w=>rSinOver _ _ w)
 ·cases h
noncomputable def LTm11:OrL:=(163,zYY) :: LTm10
theorem LTm11_ok:AllP (fun x:Nat × (List PV→Option (Bool × Ret))=>zY Tryz.prog x.1 x.2) LTm11:=⟨ok_rSinOver,LTm10_ok⟩
noncomputable def zYU:List PV→Option (Bool × Ret):=fun ps=>match ps with
 | [.a a']=>(ivD a').bind fun a=>some (true,.v (.a (ivC (yJ a))))
 | _=>none
theorem ok_rCosOver:zY Tryz.prog 162 zYU:=by
 intro ps r h;unfold zYU at h;split at h
 ·simp only [vQQ,vQZ,vQY] at h;obtain ⟨a,ha,hg,rfl⟩:=h;rw [uY ha];exact qY (qU Tryz.func162 (by kernel_rfl) (by kernel_rfl)) rfl rfl (fun w=>rCosOver _ _ w)
 ·cases h
noncomputable def jQA:OrL:=(162,zYU) :: LTm11
theorem LTm12_ok:AllP (fun x:Nat × (List PV→Option (Bool × Ret))=>zY Tryz.prog x.1 x.2) jQA:=⟨ok_rCosOver,LTm11_ok⟩
end Tm
set_option maxRecDepth 100000 in
theorem mTurn (axis:Int) (a0 a1:Int) (w:World):Calls Tryz.prog 172 [.int .i64 axis,.agg #[.int .i64 a0,.int .i64 a1]].toArray w (Rets (m3 (M3.turn axis (⟨a0,a1⟩:Iv))) (w)) :=
 qH (x:=.a (m3C (M3.turn axis ⟨a0,a1⟩))) (qX (N:=60) (ps:=[.n .i64 axis,.a [.n .i64 a0,.n .i64 a1]]) yH yZ (OrL.ok (l:=jQA) LTm12_ok) ((by kernel_rfl:_=bif Iv.valid (Iv.mk a0 a1) then (bif (decide (axis=0)) then some (.v (.a (ivs [(Iv.of 65536),(Iv.of 0),(Iv.of 0),(Iv.of 0),(yJ (Iv.mk a0 a1)),(Iv.neg (yY (Iv.mk a0 a1))),(Iv.of 0),(yY (Iv.mk a0 a1)),(yJ (Iv.mk a0 a1))])),[])
 else bif (decide (axis=1)) then some (.v (.a (ivs [(yJ (Iv.mk a0 a1)),(Iv.of 0),(yY (Iv.mk a0 a1)),(Iv.of 0),(Iv.of 65536),(Iv.of 0),(Iv.neg (yY (Iv.mk a0 a1))),(Iv.of 0),(yJ (Iv.mk a0 a1))])),[])
 else bif (decide (axis=2)) then some (.v (.a (ivs [(yJ (Iv.mk a0 a1)),(Iv.neg (yY (Iv.mk a0 a1))),(Iv.of 0),(yY (Iv.mk a0 a1)),(yJ (Iv.mk a0 a1)),(Iv.of 0),(Iv.of 0),(Iv.of 0),(Iv.of 65536)])),[])
 else some (.v (.a (ivs [iv0,iv0,iv0,iv0,iv0,iv0,iv0,iv0,iv0])),[]))
 else some (.v (.a (ivs [iv0,iv0,iv0,iv0,iv0,iv0,iv0,iv0,iv0])),[])).trans (by
 simp only [of_one,of_zero];unfold M3.turn;cases Iv.valid (Iv.mk a0 a1) <;> cases decide (axis=0) <;> cases decide (axis=1) <;> cases decide (axis=2) <;> rfl))) rfl rfl w
set_option maxRecDepth 100000 in
theorem rTurn (axis:Int) (a0 a1:Int) (w:World):Calls Tryz.prog 153 [.int .i64 axis,.agg #[.int .i64 a0,.int .i64 a1]].toArray w (Rets (m3 (M3.turn axis (⟨a0,a1⟩:Iv))) (w)) :=
 qH (x:=.a (m3C (M3.turn axis ⟨a0,a1⟩))) (qX (N:=60) (ps:=[.n .i64 axis,.a [.n .i64 a0,.n .i64 a1]]) yH yZ (OrL.ok (l:=jQA) LTm12_ok) ((by kernel_rfl:_=bif Iv.valid (Iv.mk a0 a1) then (bif (decide (axis=0)) then some (.v (.a (ivs [(Iv.of 65536),iv0,iv0,iv0,(yJ (Iv.mk a0 a1)),(Iv.neg (yY (Iv.mk a0 a1))),iv0,(yY (Iv.mk a0 a1)),(yJ (Iv.mk a0 a1))])),[])
 else bif (decide (axis=1)) then some (.v (.a (ivs [(yJ (Iv.mk a0 a1)),iv0,(yY (Iv.mk a0 a1)),iv0,(Iv.of 65536),iv0,(Iv.neg (yY (Iv.mk a0 a1))),iv0,(yJ (Iv.mk a0 a1))])),[])
 else bif (decide (axis=2)) then some (.v (.a (ivs [(yJ (Iv.mk a0 a1)),(Iv.neg (yY (Iv.mk a0 a1))),iv0,(yY (Iv.mk a0 a1)),(yJ (Iv.mk a0 a1)),iv0,iv0,iv0,(Iv.of 65536)])),[])
 else some (.v (.a (ivs [iv0,iv0,iv0,iv0,iv0,iv0,iv0,iv0,iv0])),[]))
 else some (.v (.a (ivs [iv0,iv0,iv0,iv0,iv0,iv0,iv0,iv0,iv0])),[])).trans (by
 simp only [of_one,of_zero];unfold M3.turn;cases Iv.valid (Iv.mk a0 a1) <;> cases decide (axis=0) <;> cases decide (axis=1) <;> cases decide (axis=2) <;> rfl))) rfl rfl w
end Go.Proofs.YtbfcbojgnppacaaGreat
namespace Go.Proofs.YtbfcbojgnppacaaGreat
open Go.Rx Rt Go.Sx Go.RowKit
namespace VM2
noncomputable def LVM21:OrL:=(149,Tm.o_iAdd) :: ([]:OrL)
theorem LVM21_ok:AllP (fun x:Nat × (List PV→Option (Bool × Ret))=>zY Tryz.prog x.1 x.2) LVM21:=⟨Tm.ok_iAdd,trivial⟩
noncomputable def yXA:List PV→Option (Bool × Ret):=fun ps=>match ps with
 | [.a a',.a b']=>(ivD a').bind fun a=>(ivD b').bind fun b=>some (true,.v (.a (ivC (Iv.mul a b))))
 | _=>none
theorem ok_iMul:zY Tryz.prog 150 yXA:=by
 intro ps r h;unfold yXA at h;split at h
 ·simp only [vQQ,vQZ,vQY] at h;obtain ⟨a,ha,b,hb,hg,rfl⟩:=h;rw [uY ha];rw [uY hb];exact qY (qU Tryz.func150 (by kernel_rfl) (by kernel_rfl)) rfl rfl (fun w=>iMul _ _ _ _ w)
 ·cases h
noncomputable def LVM22:OrL:=(150,yXA) :: LVM21
theorem LVM22_ok:AllP (fun x:Nat × (List PV→Option (Bool × Ret))=>zY Tryz.prog x.1 x.2) LVM22:=⟨ok_iMul,LVM21_ok⟩
noncomputable def yXU:List PV→Option (Bool × Ret):=fun ps=>match ps with
 | [.a a',.a b']=>(ivD a').bind fun a=>(ivD b').bind fun b=>some (true,.v (.a (ivC (Iv.mul a b))))
 | _=>none
theorem ok_rMul:zY Tryz.prog 114 yXU:=by
 intro ps r h;unfold yXU at h;split at h
 ·simp only [vQQ,vQZ,vQY] at h;obtain ⟨a,ha,b,hb,hg,rfl⟩:=h;rw [uY ha];rw [uY hb];exact qY (qU Tryz.func114 (by kernel_rfl) (by kernel_rfl)) rfl rfl (fun w=>rMul _ _ _ _ w)
 ·cases h
noncomputable def LVM23:OrL:=(114,yXU) :: LVM22
theorem LVM23_ok:AllP (fun x:Nat × (List PV→Option (Bool × Ret))=>zY Tryz.prog x.1 x.2) LVM23:=⟨ok_rMul,LVM22_ok⟩
noncomputable def yVZ:OrL:=(113,Tm.o_rAdd) :: LVM23
theorem zKA:AllP (fun x:Nat × (List PV→Option (Bool × Ret))=>zY Tryz.prog x.1 x.2) yVZ:=⟨Tm.ok_rAdd,LVM23_ok⟩
end VM2
open VM2
set_option maxRecDepth 100000 in
theorem mCompose (p0 p1 p2 p3 p4 p5 p6 p7 p8 p9 p10 p11 p12 p13 p14 p15 p16 p17:Int) (q0 q1 q2 q3 q4 q5 q6 q7 q8 q9 q10 q11 q12 q13 q14 q15 q16 q17:Int) (w:World):Calls Tryz.prog 148 [.agg #[.int .i64 p0,.int .i64 p1,.int .i64 p2,.int .i64 p3,.int .i64 p4,.int .i64 p5,.int .i64 p6,.int .i64 p7,.int .i64 p8,.int .i64 p9,.int .i64 p10,.int .i64 p11,.int .i64 p12,.int .i64 p13,.int .i64 p14,.int .i64 p15,.int .i64 p16,.int .i64 p17],.agg #[.int .i64 q0,.int .i64 q1,.int .i64 q2,.int .i64 q3,.int .i64 q4,.int .i64 q5,.int .i64 q6,.int .i64 q7,.int .i64 q8,.int .i64 q9,.int .i64 q10,.int .i64 q11,.int .i64 q12,.int .i64 q13,.int .i64 q14,.int .i64 q15,.int .i64 q16,.int .i64 q17]].toArray w (Rets (m3 (M3.mul ((M3.mk (V3.mk (Iv.mk p0 p1) (Iv.mk p2 p3) (Iv.mk p4 p5)) (V3.mk (Iv.mk p6 p7) (Iv.mk p8 p9) (Iv.mk p10 p11)) (V3.mk (Iv.mk p12 p13) (Iv.mk p14 p15) (Iv.mk p16 p17))):M3) ((M3.mk (V3.mk (Iv.mk q0 q1) (Iv.mk q2 q3) (Iv.mk q4 q5)) (V3.mk (Iv.mk q6 q7) (Iv.mk q8 q9) (Iv.mk q10 q11)) (V3.mk (Iv.mk q12 q13) (Iv.mk q14 q15) (Iv.mk q16 q17))):M3))) w) :=
 qH (x:=.a (m3C (M3.mul ((M3.mk (V3.mk (Iv.mk p0 p1) (Iv.mk p2 p3) (Iv.mk p4 p5)) (V3.mk (Iv.mk p6 p7) (Iv.mk p8 p9) (Iv.mk p10 p11)) (V3.mk (Iv.mk p12 p13) (Iv.mk p14 p15) (Iv.mk p16 p17))):M3) ((M3.mk (V3.mk (Iv.mk q0 q1) (Iv.mk q2 q3) (Iv.mk q4 q5)) (V3.mk (Iv.mk q6 q7) (Iv.mk q8 q9) (Iv.mk q10 q11)) (V3.mk (Iv.mk q12 q13) (Iv.mk q14 q15) (Iv.mk q16 q17))):M3)))) (qX (N:=60) (ps:=[.a [.n .i64 p0,.n .i64 p1,.n .i64 p2,.n .i64 p3,.n .i64 p4,.n .i64 p5,.n .i64 p6,.n .i64 p7,.n .i64 p8,.n .i64 p9,.n .i64 p10,.n .i64 p11,.n .i64 p12,.n .i64 p13,.n .i64 p14,.n .i64 p15,.n .i64 p16,.n .i64 p17],.a [.n .i64 q0,.n .i64 q1,.n .i64 q2,.n .i64 q3,.n .i64 q4,.n .i64 q5,.n .i64 q6,.n .i64 q7,.n .i64 q8,.n .i64 q9,.n .i64 q10,.n .i64 q11,.n .i64 q12,.n .i64 q13,.n .i64 q14,.n .i64 q15,.n .i64 q16,.n .i64 q17]]) yH yZ (OrL.ok (l:=yVZ) zKA) ((by kernel_rfl:_=some (.v (.a [.n .i64 (min (max (Iv.add (Iv.add (Iv.add (Iv.mk 0 0) (Iv.mul (Iv.mk p0 p1) (Iv.mk q0 q1))) (Iv.mul (Iv.mk p2 p3) (Iv.mk q6 q7))) (Iv.mul (Iv.mk p4 p5) (Iv.mk q12 q13))).lo (-65536)) 65536),.n .i64 (min (max (Iv.add (Iv.add (Iv.add (Iv.mk 0 0) (Iv.mul (Iv.mk p0 p1) (Iv.mk q0 q1))) (Iv.mul (Iv.mk p2 p3) (Iv.mk q6 q7))) (Iv.mul (Iv.mk p4 p5) (Iv.mk q12 q13))).hi (-65536)) 65536),.n .i64 (min (max (Iv.add (Iv.add (Iv.add (Iv.mk 0 0) (Iv.mul (Iv.mk p0 p1) (Iv.mk q2 q3))) (Iv.mul (Iv.mk p2 p3) (Iv.mk q8 q9))) (Iv.mul (Iv.mk p4 p5) (Iv.mk q14 q15))).lo (-65536)) 65536),.n .i64 (min (max (Iv.add (Iv.add (Iv.add (Iv.mk 0 0) (Iv.mul (Iv.mk p0 p1) (Iv.mk q2 q3))) (Iv.mul (Iv.mk p2 p3) (Iv.mk q8 q9))) (Iv.mul (Iv.mk p4 p5) (Iv.mk q14 q15))).hi (-65536)) 65536),.n .i64 (min (max (Iv.add (Iv.add (Iv.add (Iv.mk 0 0) (Iv.mul (Iv.mk p0 p1) (Iv.mk q4 q5))) (Iv.mul (Iv.mk p2 p3) (Iv.mk q10 q11))) (Iv.mul (Iv.mk p4 p5) (Iv.mk q16 q17))).lo (-65536)) 65536),.n .i64 (min (max (Iv.add (Iv.add (Iv.add (Iv.mk 0 0) (Iv.mul (Iv.mk p0 p1) (Iv.mk q4 q5))) (Iv.mul (Iv.mk p2 p3) (Iv.mk q10 q11))) (Iv.mul (Iv.mk p4 p5) (Iv.mk q16 q17))).hi (-65536)) 65536),.n .i64 (min (max (Iv.add (Iv.add (Iv.add (Iv.mk 0 0) (Iv.mul (Iv.mk p6 p7) (Iv.mk q0 q1))) (Iv.mul (Iv.mk p8 p9) (Iv.mk q6 q7))) (Iv.mul (Iv.mk p10 p11) (Iv.mk q12 q13))).lo (-65536)) 65536),.n .i64 (min (max (Iv.add (Iv.add (Iv.add (Iv.mk 0 0) (Iv.mul (Iv.mk p6 p7) (Iv.mk q0 q1))) (Iv.mul (Iv.mk p8 p9) (Iv.mk q6 q7))) (Iv.mul (Iv.mk p10 p11) (Iv.mk q12 q13))).hi (-65536)) 65536),.n .i64 (min (max (Iv.add (Iv.add (Iv.add (Iv.mk 0 0) (Iv.mul (Iv.mk p6 p7) (Iv.mk q2 q3))) (Iv.mul (Iv.mk p8 p9) (Iv.mk q8 q9))) (Iv.mul (Iv.mk p10 p11) (Iv.mk q14 q15))).lo (-65536)) 65536),.n .i64 (min (max (Iv.add (Iv.add (Iv.add (Iv.mk 0 0) (Iv.mul (Iv.mk p6 p7) (Iv.mk q2 q3))) (Iv.mul (Iv.mk p8 p9) (Iv.mk q8 q9))) (Iv.mul (Iv.mk p10 p11) (Iv.mk q14 q15))).hi (-65536)) 65536),.n .i64 (min (max (Iv.add (Iv.add (Iv.add (Iv.mk 0 0) (Iv.mul (Iv.mk p6 p7) (Iv.mk q4 q5))) (Iv.mul (Iv.mk p8 p9) (Iv.mk q10 q11))) (Iv.mul (Iv.mk p10 p11) (Iv.mk q16 q17))).lo (-65536)) 65536),.n .i64 (min (max (Iv.add (Iv.add (Iv.add (Iv.mk 0 0) (Iv.mul (Iv.mk p6 p7) (Iv.mk q4 q5))) (Iv.mul (Iv.mk p8 p9) (Iv.mk q10 q11))) (Iv.mul (Iv.mk p10 p11) (Iv.mk q16 q17))).hi (-65536)) 65536),.n .i64 (min (max (Iv.add (Iv.add (Iv.add (Iv.mk 0 0) (Iv.mul (Iv.mk p12 p13) (Iv.mk q0 q1))) (Iv.mul (Iv.mk p14 p15) (Iv.mk q6 q7))) (Iv.mul (Iv.mk p16 p17) (Iv.mk q12 q13))).lo (-65536)) 65536),.n .i64 (min (max (Iv.add (Iv.add (Iv.add (Iv.mk 0 0) (Iv.mul (Iv.mk p12 p13) (Iv.mk q0 q1))) (Iv.mul (Iv.mk p14 p15) (Iv.mk q6 q7))) (Iv.mul (Iv.mk p16 p17) (Iv.mk q12 q13))).hi (-65536)) 65536),.n .i64 (min (max (Iv.add (Iv.add (Iv.add (Iv.mk 0 0) (Iv.mul (Iv.mk p12 p13) (Iv.mk q2 q3))) (Iv.mul (Iv.mk p14 p15) (Iv.mk q8 q9))) (Iv.mul (Iv.mk p16 p17) (Iv.mk q14 q15))).lo (-65536)) 65536),.n .i64 (min (max (Iv.add (Iv.add (Iv.add (Iv.mk 0 0) (Iv.mul (Iv.mk p12 p13) (Iv.mk q2 q3))) (Iv.mul (Iv.mk p14 p15) (Iv.mk q8 q9))) (Iv.mul (Iv.mk p16 p17) (Iv.mk q14 q15))).hi (-65536)) 65536),.n .i64 (min (max (Iv.add (Iv.add (Iv.add (Iv.mk 0 0) (Iv.mul (Iv.mk p12 p13) (Iv.mk q4 q5))) (Iv.mul (Iv.mk p14 p15) (Iv.mk q10 q11))) (Iv.mul (Iv.mk p16 p17) (Iv.mk q16 q17))).lo (-65536)) 65536),.n .i64 (min (max (Iv.add (Iv.add (Iv.add (Iv.mk 0 0) (Iv.mul (Iv.mk p12 p13) (Iv.mk q4 q5))) (Iv.mul (Iv.mk p14 p15) (Iv.mk q10 q11))) (Iv.mul (Iv.mk p16 p17) (Iv.mk q16 q17))).hi (-65536)) 65536)]),[])).trans (by simp only [add_zero_mul]; rfl))) rfl rfl w
set_option maxRecDepth 100000 in
theorem rCompose (p0 p1 p2 p3 p4 p5 p6 p7 p8 p9 p10 p11 p12 p13 p14 p15 p16 p17:Int) (q0 q1 q2 q3 q4 q5 q6 q7 q8 q9 q10 q11 q12 q13 q14 q15 q16 q17:Int) (w:World):Calls Tryz.prog 138 [.agg #[.int .i64 p0,.int .i64 p1,.int .i64 p2,.int .i64 p3,.int .i64 p4,.int .i64 p5,.int .i64 p6,.int .i64 p7,.int .i64 p8,.int .i64 p9,.int .i64 p10,.int .i64 p11,.int .i64 p12,.int .i64 p13,.int .i64 p14,.int .i64 p15,.int .i64 p16,.int .i64 p17],.agg #[.int .i64 q0,.int .i64 q1,.int .i64 q2,.int .i64 q3,.int .i64 q4,.int .i64 q5,.int .i64 q6,.int .i64 q7,.int .i64 q8,.int .i64 q9,.int .i64 q10,.int .i64 q11,.int .i64 q12,.int .i64 q13,.int .i64 q14,.int .i64 q15,.int .i64 q16,.int .i64 q17]].toArray w (Rets (m3 (M3.mul ((M3.mk (V3.mk (Iv.mk p0 p1) (Iv.mk p2 p3) (Iv.mk p4 p5)) (V3.mk (Iv.mk p6 p7) (Iv.mk p8 p9) (Iv.mk p10 p11)) (V3.mk (Iv.mk p12 p13) (Iv.mk p14 p15) (Iv.mk p16 p17))):M3) ((M3.mk (V3.mk (Iv.mk q0 q1) (Iv.mk q2 q3) (Iv.mk q4 q5)) (V3.mk (Iv.mk q6 q7) (Iv.mk q8 q9) (Iv.mk q10 q11)) (V3.mk (Iv.mk q12 q13) (Iv.mk q14 q15) (Iv.mk q16 q17))):M3))) w) :=
 qH (x:=.a (m3C (M3.mul ((M3.mk (V3.mk (Iv.mk p0 p1) (Iv.mk p2 p3) (Iv.mk p4 p5)) (V3.mk (Iv.mk p6 p7) (Iv.mk p8 p9) (Iv.mk p10 p11)) (V3.mk (Iv.mk p12 p13) (Iv.mk p14 p15) (Iv.mk p16 p17))):M3) ((M3.mk (V3.mk (Iv.mk q0 q1) (Iv.mk q2 q3) (Iv.mk q4 q5)) (V3.mk (Iv.mk q6 q7) (Iv.mk q8 q9) (Iv.mk q10 q11)) (V3.mk (Iv.mk q12 q13) (Iv.mk q14 q15) (Iv.mk q16 q17))):M3)))) (qX (N:=60) (ps:=[.a [.n .i64 p0,.n .i64 p1,.n .i64 p2,.n .i64 p3,.n .i64 p4,.n .i64 p5,.n .i64 p6,.n .i64 p7,.n .i64 p8,.n .i64 p9,.n .i64 p10,.n .i64 p11,.n .i64 p12,.n .i64 p13,.n .i64 p14,.n .i64 p15,.n .i64 p16,.n .i64 p17],.a [.n .i64 q0,.n .i64 q1,.n .i64 q2,.n .i64 q3,.n .i64 q4,.n .i64 q5,.n .i64 q6,.n .i64 q7,.n .i64 q8,.n .i64 q9,.n .i64 q10,.n .i64 q11,.n .i64 q12,.n .i64 q13,.n .i64 q14,.n .i64 q15,.n .i64 q16,.n .i64 q17]]) yH yZ (OrL.ok (l:=yVZ) zKA) ((by kernel_rfl:_=some (.v (.a [.n .i64 (max (-65536) (min (Iv.add (Iv.add (Iv.mul (Iv.mk p0 p1) (Iv.mk q0 q1)) (Iv.mul (Iv.mk p2 p3) (Iv.mk q6 q7))) (Iv.mul (Iv.mk p4 p5) (Iv.mk q12 q13))).lo 65536)),.n .i64 (max (-65536) (min (Iv.add (Iv.add (Iv.mul (Iv.mk p0 p1) (Iv.mk q0 q1)) (Iv.mul (Iv.mk p2 p3) (Iv.mk q6 q7))) (Iv.mul (Iv.mk p4 p5) (Iv.mk q12 q13))).hi 65536)),.n .i64 (max (-65536) (min (Iv.add (Iv.add (Iv.mul (Iv.mk p0 p1) (Iv.mk q2 q3)) (Iv.mul (Iv.mk p2 p3) (Iv.mk q8 q9))) (Iv.mul (Iv.mk p4 p5) (Iv.mk q14 q15))).lo 65536)),.n .i64 (max (-65536) (min (Iv.add (Iv.add (Iv.mul (Iv.mk p0 p1) (Iv.mk q2 q3)) (Iv.mul (Iv.mk p2 p3) (Iv.mk q8 q9))) (Iv.mul (Iv.mk p4 p5) (Iv.mk q14 q15))).hi 65536)),.n .i64 (max (-65536) (min (Iv.add (Iv.add (Iv.mul (Iv.mk p0 p1) (Iv.mk q4 q5)) (Iv.mul (Iv.mk p2 p3) (Iv.mk q10 q11))) (Iv.mul (Iv.mk p4 p5) (Iv.mk q16 q17))).lo 65536)),.n .i64 (max (-65536) (min (Iv.add (Iv.add (Iv.mul (Iv.mk p0 p1) (Iv.mk q4 q5)) (Iv.mul (Iv.mk p2 p3) (Iv.mk q10 q11))) (Iv.mul (Iv.mk p4 p5) (Iv.mk q16 q17))).hi 65536)),.n .i64 (max (-65536) (min (Iv.add (Iv.add (Iv.mul (Iv.mk p6 p7) (Iv.mk q0 q1)) (Iv.mul (Iv.mk p8 p9) (Iv.mk q6 q7))) (Iv.mul (Iv.mk p10 p11) (Iv.mk q12 q13))).lo 65536)),.n .i64 (max (-65536) (min (Iv.add (Iv.add (Iv.mul (Iv.mk p6 p7) (Iv.mk q0 q1)) (Iv.mul (Iv.mk p8 p9) (Iv.mk q6 q7))) (Iv.mul (Iv.mk p10 p11) (Iv.mk q12 q13))).hi 65536)),.n .i64 (max (-65536) (min (Iv.add (Iv.add (Iv.mul (Iv.mk p6 p7) (Iv.mk q2 q3)) (Iv.mul (Iv.mk p8 p9) (Iv.mk q8 q9))) (Iv.mul (Iv.mk p10 p11) (Iv.mk q14 q15))).lo 65536)),.n .i64 (max (-65536) (min (Iv.add (Iv.add (Iv.mul (Iv.mk p6 p7) (Iv.mk q2 q3)) (Iv.mul (Iv.mk p8 p9) (Iv.mk q8 q9))) (Iv.mul (Iv.mk p10 p11) (Iv.mk q14 q15))).hi 65536)),.n .i64 (max (-65536) (min (Iv.add (Iv.add (Iv.mul (Iv.mk p6 p7) (Iv.mk q4 q5)) (Iv.mul (Iv.mk p8 p9) (Iv.mk q10 q11))) (Iv.mul (Iv.mk p10 p11) (Iv.mk q16 q17))).lo 65536)),.n .i64 (max (-65536) (min (Iv.add (Iv.add (Iv.mul (Iv.mk p6 p7) (Iv.mk q4 q5)) (Iv.mul (Iv.mk p8 p9) (Iv.mk q10 q11))) (Iv.mul (Iv.mk p10 p11) (Iv.mk q16 q17))).hi 65536)),.n .i64 (max (-65536) (min (Iv.add (Iv.add (Iv.mul (Iv.mk p12 p13) (Iv.mk q0 q1)) (Iv.mul (Iv.mk p14 p15) (Iv.mk q6 q7))) (Iv.mul (Iv.mk p16 p17) (Iv.mk q12 q13))).lo 65536)),.n .i64 (max (-65536) (min (Iv.add (Iv.add (Iv.mul (Iv.mk p12 p13) (Iv.mk q0 q1)) (Iv.mul (Iv.mk p14 p15) (Iv.mk q6 q7))) (Iv.mul (Iv.mk p16 p17) (Iv.mk q12 q13))).hi 65536)),.n .i64 (max (-65536) (min (Iv.add (Iv.add (Iv.mul (Iv.mk p12 p13) (Iv.mk q2 q3)) (Iv.mul (Iv.mk p14 p15) (Iv.mk q8 q9))) (Iv.mul (Iv.mk p16 p17) (Iv.mk q14 q15))).lo 65536)),.n .i64 (max (-65536) (min (Iv.add (Iv.add (Iv.mul (Iv.mk p12 p13) (Iv.mk q2 q3)) (Iv.mul (Iv.mk p14 p15) (Iv.mk q8 q9))) (Iv.mul (Iv.mk p16 p17) (Iv.mk q14 q15))).hi 65536)),.n .i64 (max (-65536) (min (Iv.add (Iv.add (Iv.mul (Iv.mk p12 p13) (Iv.mk q4 q5)) (Iv.mul (Iv.mk p14 p15) (Iv.mk q10 q11))) (Iv.mul (Iv.mk p16 p17) (Iv.mk q16 q17))).lo 65536)),.n .i64 (max (-65536) (min (Iv.add (Iv.add (Iv.mul (Iv.mk p12 p13) (Iv.mk q4 q5)) (Iv.mul (Iv.mk p14 p15) (Iv.mk q10 q11))) (Iv.mul (Iv.mk p16 p17) (Iv.mk q16 q17))).hi 65536))]),[])).trans (by simp only [lim_ref]; rfl))) rfl rfl w
set_option maxRecDepth 100000 in
theorem mApply (p0 p1 p2 p3 p4 p5 p6 p7 p8 p9 p10 p11 p12 p13 p14 p15 p16 p17:Int) (q0 q1 q2 q3 q4 q5:Int) (w:World):Calls Tryz.prog 129 [.agg #[.int .i64 p0,.int .i64 p1,.int .i64 p2,.int .i64 p3,.int .i64 p4,.int .i64 p5,.int .i64 p6,.int .i64 p7,.int .i64 p8,.int .i64 p9,.int .i64 p10,.int .i64 p11,.int .i64 p12,.int .i64 p13,.int .i64 p14,.int .i64 p15,.int .i64 p16,.int .i64 p17],.agg #[.int .i64 q0,.int .i64 q1,.int .i64 q2,.int .i64 q3,.int .i64 q4,.int .i64 q5]].toArray w (Rets (v3 (M3.apply ((M3.mk (V3.mk (Iv.mk p0 p1) (Iv.mk p2 p3) (Iv.mk p4 p5)) (V3.mk (Iv.mk p6 p7) (Iv.mk p8 p9) (Iv.mk p10 p11)) (V3.mk (Iv.mk p12 p13) (Iv.mk p14 p15) (Iv.mk p16 p17))):M3) ((V3.mk (Iv.mk q0 q1) (Iv.mk q2 q3) (Iv.mk q4 q5)):V3))) w) :=
 qH (x:=.a (v3C (M3.apply ((M3.mk (V3.mk (Iv.mk p0 p1) (Iv.mk p2 p3) (Iv.mk p4 p5)) (V3.mk (Iv.mk p6 p7) (Iv.mk p8 p9) (Iv.mk p10 p11)) (V3.mk (Iv.mk p12 p13) (Iv.mk p14 p15) (Iv.mk p16 p17))):M3) ((V3.mk (Iv.mk q0 q1) (Iv.mk q2 q3) (Iv.mk q4 q5)):V3)))) (qX (N:=60) (ps:=[.a [.n .i64 p0,.n .i64 p1,.n .i64 p2,.n .i64 p3,.n .i64 p4,.n .i64 p5,.n .i64 p6,.n .i64 p7,.n .i64 p8,.n .i64 p9,.n .i64 p10,.n .i64 p11,.n .i64 p12,.n .i64 p13,.n .i64 p14,.n .i64 p15,.n .i64 p16,.n .i64 p17],.a [.n .i64 q0,.n .i64 q1,.n .i64 q2,.n .i64 q3,.n .i64 q4,.n .i64 q5]]) yH yZ (OrL.ok (l:=yVZ) zKA) ((by kernel_rfl:_=some (.v (.a [.n .i64 (Iv.add (Iv.add (Iv.add (Iv.mk 0 0) (Iv.mul (Iv.mk p0 p1) (Iv.mk q0 q1))) (Iv.mul (Iv.mk p2 p3) (Iv.mk q2 q3))) (Iv.mul (Iv.mk p4 p5) (Iv.mk q4 q5))).lo,.n .i64 (Iv.add (Iv.add (Iv.add (Iv.mk 0 0) (Iv.mul (Iv.mk p0 p1) (Iv.mk q0 q1))) (Iv.mul (Iv.mk p2 p3) (Iv.mk q2 q3))) (Iv.mul (Iv.mk p4 p5) (Iv.mk q4 q5))).hi,.n .i64 (Iv.add (Iv.add (Iv.add (Iv.mk 0 0) (Iv.mul (Iv.mk p6 p7) (Iv.mk q0 q1))) (Iv.mul (Iv.mk p8 p9) (Iv.mk q2 q3))) (Iv.mul (Iv.mk p10 p11) (Iv.mk q4 q5))).lo,.n .i64 (Iv.add (Iv.add (Iv.add (Iv.mk 0 0) (Iv.mul (Iv.mk p6 p7) (Iv.mk q0 q1))) (Iv.mul (Iv.mk p8 p9) (Iv.mk q2 q3))) (Iv.mul (Iv.mk p10 p11) (Iv.mk q4 q5))).hi,.n .i64 (Iv.add (Iv.add (Iv.add (Iv.mk 0 0) (Iv.mul (Iv.mk p12 p13) (Iv.mk q0 q1))) (Iv.mul (Iv.mk p14 p15) (Iv.mk q2 q3))) (Iv.mul (Iv.mk p16 p17) (Iv.mk q4 q5))).lo,.n .i64 (Iv.add (Iv.add (Iv.add (Iv.mk 0 0) (Iv.mul (Iv.mk p12 p13) (Iv.mk q0 q1))) (Iv.mul (Iv.mk p14 p15) (Iv.mk q2 q3))) (Iv.mul (Iv.mk p16 p17) (Iv.mk q4 q5))).hi]),[])).trans (by simp only [add_zero_mul]; rfl))) rfl rfl w
set_option maxRecDepth 100000 in
theorem rApply (p0 p1 p2 p3 p4 p5 p6 p7 p8 p9 p10 p11 p12 p13 p14 p15 p16 p17:Int) (q0 q1 q2 q3 q4 q5:Int) (w:World):Calls Tryz.prog 86 [.agg #[.int .i64 p0,.int .i64 p1,.int .i64 p2,.int .i64 p3,.int .i64 p4,.int .i64 p5,.int .i64 p6,.int .i64 p7,.int .i64 p8,.int .i64 p9,.int .i64 p10,.int .i64 p11,.int .i64 p12,.int .i64 p13,.int .i64 p14,.int .i64 p15,.int .i64 p16,.int .i64 p17],.agg #[.int .i64 q0,.int .i64 q1,.int .i64 q2,.int .i64 q3,.int .i64 q4,.int .i64 q5]].toArray w (Rets (v3 (M3.apply ((M3.mk (V3.mk (Iv.mk p0 p1) (Iv.mk p2 p3) (Iv.mk p4 p5)) (V3.mk (Iv.mk p6 p7) (Iv.mk p8 p9) (Iv.mk p10 p11)) (V3.mk (Iv.mk p12 p13) (Iv.mk p14 p15) (Iv.mk p16 p17))):M3) ((V3.mk (Iv.mk q0 q1) (Iv.mk q2 q3) (Iv.mk q4 q5)):V3))) w) :=
 qH (x:=.a (v3C (M3.apply ((M3.mk (V3.mk (Iv.mk p0 p1) (Iv.mk p2 p3) (Iv.mk p4 p5)) (V3.mk (Iv.mk p6 p7) (Iv.mk p8 p9) (Iv.mk p10 p11)) (V3.mk (Iv.mk p12 p13) (Iv.mk p14 p15) (Iv.mk p16 p17))):M3) ((V3.mk (Iv.mk q0 q1) (Iv.mk q2 q3) (Iv.mk q4 q5)):V3)))) (qX (N:=60) (ps:=[.a [.n .i64 p0,.n .i64 p1,.n .i64 p2,.n .i64 p3,.n .i64 p4,.n .i64 p5,.n .i64 p6,.n .i64 p7,.n .i64 p8,.n .i64 p9,.n .i64 p10,.n .i64 p11,.n .i64 p12,.n .i64 p13,.n .i64 p14,.n .i64 p15,.n .i64 p16,.n .i64 p17],.a [.n .i64 q0,.n .i64 q1,.n .i64 q2,.n .i64 q3,.n .i64 q4,.n .i64 q5]]) yH yZ (OrL.ok (l:=yVZ) zKA) ((by kernel_rfl:_=some (.v (.a [.n .i64 (Iv.add (Iv.add (Iv.mul (Iv.mk p0 p1) (Iv.mk q0 q1)) (Iv.mul (Iv.mk p2 p3) (Iv.mk q2 q3))) (Iv.mul (Iv.mk p4 p5) (Iv.mk q4 q5))).lo,.n .i64 (Iv.add (Iv.add (Iv.mul (Iv.mk p0 p1) (Iv.mk q0 q1)) (Iv.mul (Iv.mk p2 p3) (Iv.mk q2 q3))) (Iv.mul (Iv.mk p4 p5) (Iv.mk q4 q5))).hi,.n .i64 (Iv.add (Iv.add (Iv.mul (Iv.mk p6 p7) (Iv.mk q0 q1)) (Iv.mul (Iv.mk p8 p9) (Iv.mk q2 q3))) (Iv.mul (Iv.mk p10 p11) (Iv.mk q4 q5))).lo,.n .i64 (Iv.add (Iv.add (Iv.mul (Iv.mk p6 p7) (Iv.mk q0 q1)) (Iv.mul (Iv.mk p8 p9) (Iv.mk q2 q3))) (Iv.mul (Iv.mk p10 p11) (Iv.mk q4 q5))).hi,.n .i64 (Iv.add (Iv.add (Iv.mul (Iv.mk p12 p13) (Iv.mk q0 q1)) (Iv.mul (Iv.mk p14 p15) (Iv.mk q2 q3))) (Iv.mul (Iv.mk p16 p17) (Iv.mk q4 q5))).lo,.n .i64 (Iv.add (Iv.add (Iv.mul (Iv.mk p12 p13) (Iv.mk q0 q1)) (Iv.mul (Iv.mk p14 p15) (Iv.mk q2 q3))) (Iv.mul (Iv.mk p16 p17) (Iv.mk q4 q5))).hi]),[])).trans (by rfl))) rfl rfl w
end Go.Proofs.YtbfcbojgnppacaaGreat

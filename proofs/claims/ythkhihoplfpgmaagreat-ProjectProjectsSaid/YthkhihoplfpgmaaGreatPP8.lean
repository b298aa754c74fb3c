/- Part 8 of the texts behind the last one: rules and contracts. No condition. -/
import Derived.Test.YthkhihoplfpgmaaGreatPP7
namespace Go.Proofs.YthkhihoplfpgmaaGreat
open Go.Sx Go.Rx Rt Go.RowKit
namespace Ta
end Ta
open Ta
theorem en170:kV Tryz.prog 170:=zQ Tryz.func170 (by kernel_rfl) (by kernel_rfl)
theorem en171:kV Tryz.prog 171:=zQ Tryz.func171 (by kernel_rfl) (by kernel_rfl)
theorem sl30:slcB Tryz.prog 30 2 1=true:=by kernel_rfl
theorem ze2:qYY Tryz.prog 2 (.int .i64 0):=by unfold qYY; kernel_rfl
theorem en187:kV Tryz.prog 187:=zQ Tryz.func187 (by kernel_rfl) (by kernel_rfl)
theorem en166:kV Tryz.prog 166:=zQ Tryz.func166 (by kernel_rfl) (by kernel_rfl)
theorem en189:kV Tryz.prog 189:=zQ Tryz.func189 (by kernel_rfl) (by kernel_rfl)
theorem fSD14 (a:Int) (w:World):Calls Tryz.prog 170 [.int .i64 a,.int .i64 14].toArray w (Rets (vI (a / 16384)) w):=yKW a 14 (by decide) w
theorem fSU14 (a:Int) (ha:In64 a) (w:World):Calls Tryz.prog 171 [.int .i64 a,.int .i64 14].toArray w (Rets (vI (zG a 16384)) w):=jUY a 14 (by decide) ha w
theorem aMod (a:Int) (w:World):Calls Tryz.prog 187 [.int .i64 a].toArray w (Rets (vI (a % 65536)) (w)):=by
 refine yH (n:=5) Tryz.func187 rfl rfl rfl ?_
 refine qW ?_
 refine qZ ?_
 refine qY (qV rfl) rfl rfl rfl ?_
 refine qX ?_
 refine qQ ?_
 refine qW ?_
 refine qZ ?_
 refine qY (qJ rfl) rfl rfl rfl ?_
 refine qY (opV_and rfl rfl and_mask) rfl rfl rfl ?_
 refine qY (qV rfl) rfl rfl rfl ?_
 refine qX ?_
 refine qQ ?_
 refine jK ?_
 refine yU (rs:=[.tmp 2]) rfl (resC (uJ rfl) (resN)) (congrArg (vI) (?_:_=a % 65536))
 first | rfl | (subst_vars; rfl) | (subst_vars; simp_all)
theorem rMod (a:Int) (w:World):Calls Tryz.prog 166 [.int .i64 a].toArray w (Rets (vI (a % 65536)) (w)):=by
 refine yH (n:=7) Tryz.func166 rfl rfl rfl ?_
 refine qW ?_
 have h0 : -65536 < a.tmod 65536:=by have:=Int.lt_tmod_of_pos a (show (0:Int) < 65536 by decide); omega
 have h1:a.tmod 65536 < 65536:=Int.tmod_lt_of_pos a (by decide)
 refine qZ ?_
 refine qY (qV rfl) rfl rfl rfl ?_
 refine qX ?_
 refine qQ ?_
 refine qW ?_
 refine qZ ?_
 refine qY (qJ rfl) rfl rfl rfl ?_
 refine qY (yYX rfl rfl (by first | decide | omega) (by first | exact tmod_nonneg (by omega) (by omega) | rfl)) rfl rfl rfl ?_
 refine qY (kG rfl rfl (by first | exact zY ⟨by omega,by omega⟩ | rfl)) rfl rfl rfl ?_
 refine qY (yYX rfl rfl (by first | decide | omega) (by first | exact tmod_nonneg (by omega) (by omega) | rfl)) rfl rfl rfl ?_
 refine qY (qV rfl) rfl rfl rfl ?_
 refine qX ?_
 refine qQ ?_
 refine jK ?_
 refine yU (rs:=[.tmp 2]) rfl (resC (uJ rfl) (resN)) (congrArg (vI) (?_:_=a % 65536))
 have:=Int.tdiv_mul_add_tmod a 65536; omega
theorem aCeil (a:Int) (b:Int) (ha:0≤a∧a≤1073741824) (hb:0 < b∧b≤1073741824) (w:World):Calls Tryz.prog 194 [.int .i64 a,.int .i64 b].toArray w (Rets (vI (zG a b)) (w)):=by
 refine yH (n:=11) Tryz.func194 rfl rfl rfl ?_
 refine qW ?_
 refine qZ ?_
 refine qY (qV rfl) rfl rfl rfl ?_
 refine qX ?_
 refine qQ ?_
 refine qW ?_
 refine qZ ?_
 refine qY (qJ rfl) rfl rfl rfl ?_
 refine qY (qJ rfl) rfl rfl rfl ?_
 refine qY (kG rfl rfl (by first | exact zY ⟨by omega,by omega⟩ | rfl)) rfl rfl rfl ?_
 refine qY (qGY rfl rfl (by first | exact zY ⟨by omega,by omega⟩ | rfl)) rfl rfl rfl ?_
 refine qY (qJ rfl) rfl rfl rfl ?_
 refine qY (qVZ rfl rfl (by first | decide | omega) (ceil_quo ha hb)) rfl rfl rfl ?_
 refine qY (qV rfl) rfl rfl rfl ?_
 refine qX ?_
 refine qQ ?_
 refine jK ?_
 refine yU (rs:=[.tmp 4]) rfl (resC (uJ rfl) (resN)) (congrArg (vI) (?_:_=zG a b))
 first | rfl | (subst_vars; rfl) | (subst_vars; simp_all)
theorem aEnc (lo:Int) (hi:Int) (hh:In64 hi) (w:World):Calls Tryz.prog 195 [.int .i64 lo,.int .i64 hi].toArray w (Rets (iv (encI lo hi)) (w)):=by
 refine yH (n:=12) Tryz.func195 rfl rfl rfl ?_
 refine qW ?_
 refine qZ ?_
 refine qKZ 4 ze77 rfl rfl rfl ?_; intro b4
 refine qX ?_
 refine qQ ?_
 refine qW ?_
 refine qZ ?_
 refine qY (qJ rfl) rfl rfl rfl ?_
 refine qHU (F:=vI) (uW en170 rfl (fun w _=>fSD14 _ w)) rfl rfl rfl ?_; intro r6 hr6
 refine qY (zKZ rfl rfl) rfl rfl rfl ?_
 refine qY (qJ rfl) rfl rfl rfl ?_
 refine qHU (F:=vI) (uW en171 rfl (fun w _=>fSU14 _ hh w)) rfl rfl rfl ?_; intro r9 hr9
 refine qY (zKQ rfl rfl) rfl rfl rfl ?_
 refine qY (qZU la77 rfl rfl) rfl rfl rfl ?_
 refine zV 4 ty77 rfl rfl rfl rfl rfl rfl rfl rfl ?_
 refine qX ?_
 refine qQ ?_
 refine jK ?_
 refine yU (rs:=[.cell 4 77]) rfl (resC (jH 4 rfl rfl ty77 rfl) (resN)) (congrArg (iv) (?_:⟨_,_⟩=encI lo hi))
 subst_vars; first | (simp_all [encI]; done) | (simp_all [encI] <;> omega) | grind [encI]
theorem rEnc (lo:Int) (hi:Int) (hl:In64 lo) (hh:In64 hi) (w:World):Calls Tryz.prog 177 [.int .i64 lo,.int .i64 hi].toArray w (Rets (iv (encI lo hi)) (w)):=by
 refine yH (n:=12) Tryz.func177 rfl rfl rfl ?_
 refine qW ?_
 refine qZ ?_
 refine qKZ 4 ze77 rfl rfl rfl ?_; intro b4
 refine qX ?_
 refine qQ ?_
 refine qW ?_
 refine qZ ?_
 refine qY (qJ rfl) rfl rfl rfl ?_
 refine qHU (F:=vI) (uW en80 rfl (fun w _=>kUG _ _ hl (by decide) w)) rfl rfl rfl ?_; intro r6 hr6
 refine qY (zKZ rfl rfl) rfl rfl rfl ?_
 refine qY (qJ rfl) rfl rfl rfl ?_
 refine qHU (F:=vI) (uW en116 rfl (fun w _=>uQX _ _ hh (by decide) w)) rfl rfl rfl ?_; intro r9 hr9
 refine qY (zKQ rfl rfl) rfl rfl rfl ?_
 refine qY (qZU la77 rfl rfl) rfl rfl rfl ?_
 refine zV 4 ty77 rfl rfl rfl rfl rfl rfl rfl rfl ?_
 refine qX ?_
 refine qQ ?_
 refine jK ?_
 refine yU (rs:=[.cell 4 77]) rfl (resC (jH 4 rfl rfl ty77 rfl) (resN)) (congrArg (iv) (?_:⟨_,_⟩=encI lo hi))
 subst_vars; first | (simp_all [encI]; done) | (simp_all [encI] <;> omega) | grind [encI]
theorem aMeets (a0 a1:Int) (c:Int) (hv:Iv.valid (⟨a0,a1⟩:Iv)=true) (hc:0≤c∧c < 65536) (w:World):Calls Tryz.prog 186 [.agg #[.int .i64 a0,.int .i64 a1],.int .i64 c].toArray w (Rets (vB (uH (⟨a0,a1⟩:Iv) c)) (w)):=by
 refine yH (n:=15) Tryz.func186 rfl rfl rfl ?_
 refine qW ?_
 have hv2:=qQH hv
 refine qZ ?_
 refine zZX 2 rfl rfl rfl rfl ?_; intro b2
 refine qY (qV rfl) rfl rfl rfl ?_
 refine qX ?_
 refine qQ ?_
 refine qW ?_
 refine qXH 10 mo (by kernel_rfl) ?_
 simp only [List.take_succ_cons,List.take_zero,List.drop_succ_cons,List.drop_zero]
 refine yW (jG 2 ty77 rfl rfl rfl) rfl rfl rfl ?_
 refine yW (qU zUW rfl) rfl rfl rfl ?_
 refine yW (yX 2 ty2 rfl rfl rfl) rfl rfl rfl ?_
 refine yW (qJ rfl) rfl rfl rfl ?_
 refine yW (qU zUW rfl) rfl rfl rfl ?_
 refine yW (yX 2 ty2 rfl rfl rfl) rfl rfl rfl ?_
 refine yW (qGY rfl rfl (by first | exact zY ⟨by omega,by omega⟩ | rfl)) rfl rfl rfl ?_
 refine yUY (F:=vI) (uW en187 rfl (fun w _=>aMod _  w)) rfl rfl rfl ?_; intro r12 hr12
 have qr12:0≤r12∧r12 < 65536:=by omega
 refine yW (kG rfl rfl (by first | exact zY ⟨by omega,by omega⟩ | rfl)) rfl rfl rfl ?_
 refine yUY (F:=vB) (uW en189 rfl (fun w _=>iHas _ _ _  w)) rfl rfl rfl ?_; intro r14 hr14
 refine zZW ?_
 refine qWJ ?_
 refine qY (qV rfl) rfl rfl rfl ?_
 refine qX ?_
 refine qQ ?_
 refine jK ?_
 refine yU (rs:=[.tmp 4]) rfl (resC (uJ rfl) (resN)) (congrArg (vB) (?_:_=uH (⟨a0,a1⟩:Iv) c))
 subst_vars; simp only [Iv.has,uH,hv,Bool.true_and]; rw [decide_eq_true (by omega),Bool.true_and]
theorem rMeets (a0 a1:Int) (c:Int) (hv:Iv.valid (⟨a0,a1⟩:Iv)=true) (hc:0≤c∧c < 65536) (w:World):Calls Tryz.prog 165 [.agg #[.int .i64 a0,.int .i64 a1],.int .i64 c].toArray w (Rets (vB (uH (⟨a0,a1⟩:Iv) c)) (w)):=by
 refine yH (n:=16) Tryz.func165 rfl rfl rfl ?_
 refine qW ?_
 have hv2:=qQH hv
 refine qZ ?_
 refine zZX 2 rfl rfl rfl rfl ?_; intro b2
 refine qY (qV rfl) rfl rfl rfl ?_
 refine qX ?_
 refine qQ ?_
 refine qW ?_
 refine qXH 11 mo (by kernel_rfl) ?_
 simp only [List.take_succ_cons,List.take_zero,List.drop_succ_cons,List.drop_zero]
 refine yW (qU zUW rfl) rfl rfl rfl ?_
 refine yW (yX 2 ty2 rfl rfl rfl) rfl rfl rfl ?_
 refine yW (qJ rfl) rfl rfl rfl ?_
 refine yW (qU zUW rfl) rfl rfl rfl ?_
 refine yW (yX 2 ty2 rfl rfl rfl) rfl rfl rfl ?_
 refine yW (qGY rfl rfl (by first | exact zY ⟨by omega,by omega⟩ | rfl)) rfl rfl rfl ?_
 refine yUY (F:=vI) (uW en166 rfl (fun w _=>rMod _  w)) rfl rfl rfl ?_; intro r11 hr11
 have qr11:0≤r11∧r11 < 65536:=by omega
 refine yW (kG rfl rfl (by first | exact zY ⟨by omega,by omega⟩ | rfl)) rfl rfl rfl ?_
 refine yW (qU yQX rfl) rfl rfl rfl ?_
 refine yW (yX 2 ty2 rfl rfl rfl) rfl rfl rfl ?_
 refine yW (opV_leq rfl rfl) rfl rfl rfl ?_
 refine zZW ?_
 refine qWJ ?_
 refine qY (qV rfl) rfl rfl rfl ?_
 refine qX ?_
 refine qQ ?_
 refine jK ?_
 refine yU (rs:=[.tmp 4]) rfl (resC (uJ rfl) (resN)) (congrArg (vB) (?_:_=uH (⟨a0,a1⟩:Iv) c))
 subst_vars; simp [uH]
theorem kYY (n:Int) (k:Int) (hk:0 < k∧k≤9223372036854775807) (w:World):Calls Tryz.prog 13 [.int .i64 n,.int .i64 k].toArray w (Rets (vI (n % k)) (w)):=by
 refine yH (n:=15) Tryz.func13 rfl rfl rfl ?_
 refine qW ?_
 have h0:=Int.lt_tmod_of_pos n hk.1
 have h1:=Int.tmod_lt_of_pos n hk.1
 refine qZ ?_
 refine qY (qV rfl) rfl rfl rfl ?_
 refine qX ?_
 refine qQ ?_
 refine qW ?_
 refine qZ ?_
 refine qY (qJ rfl) rfl rfl rfl ?_
 refine qY (qJ rfl) rfl rfl rfl ?_
 refine qY (yYX rfl rfl (by first | decide | omega) rfl) rfl rfl rfl ?_
 refine qY (qV rfl) rfl rfl rfl ?_
 refine qX ?_
 refine qQ ?_
 refine qW ?_
 refine qW ?_
 refine qZ ?_
 refine qY (qJ rfl) rfl rfl rfl ?_
 refine qY (qVY rfl rfl) rfl rfl rfl ?_
 refine qX ?_
 refine qQ ?_
 refine kZ rfl (fun hc10 => ?_) (fun hc10 => ?_)
 ·
  have h2:=of_decide_eq_true hc10
  refine qZ ?_
  refine qY (qJ rfl) rfl rfl rfl ?_
  refine qY (qJ rfl) rfl rfl rfl ?_
  refine qY (kG rfl rfl (by first | exact zY ⟨by omega,by omega⟩ | rfl)) rfl rfl rfl ?_
  refine qY (qV rfl) rfl rfl rfl ?_
  refine qX ?_
  refine qQ ?_
  refine qW ?_
  refine qZ ?_
  refine qY (qJ rfl) rfl rfl rfl ?_
  refine qY (qV rfl) rfl rfl rfl ?_
  refine qX ?_
  refine qQ ?_
  refine jK ?_
  refine yU (rs:=[.tmp 4]) rfl (resC (uJ rfl) (resN)) (congrArg (vI) (?_:_=n % k))
  exact round_neg hk.1 h2
 ·
  have h2:=of_decide_eq_false hc10
  refine kJ ?_
  refine qQ ?_
  refine qW ?_
  refine qZ ?_
  refine qY (qJ rfl) rfl rfl rfl ?_
  refine qY (qV rfl) rfl rfl rfl ?_
  refine qX ?_
  refine qQ ?_
  refine jK ?_
  refine yU (rs:=[.tmp 4]) rfl (resC (uJ rfl) (resN)) (congrArg (vI) (?_:_=n % k))
  exact round_pos hk.1 h2
namespace Ta
def iw (a:Int):Bool:=decide (-9223372036854775808≤a∧a≤9223372036854775807)
def pw (a:Int):Bool:=decide (0≤a∧a≤1073741824)
theorem iw_of {a:Int} (h:iw a=true):In64 a:=by unfold iw at h; simp only [decide_eq_true_eq] at h; unfold In64; omega
theorem pw_of {a:Int} (h:pw a=true):0≤a∧a≤1073741824:=of_decide_eq_true h
theorem iww (y:Int):iw (IntKind.i64.wrap y)=true:=by
 refine decide_eq_true ?_
 unfold IntKind.wrap
 have hb:IntKind.i64.bits=64:=rfl
 have hs:IntKind.i64.signed=true:=rfl
 simp only [hb,hs,Bool.true_and,decide_eq_true_eq]
 split <;> omega
theorem kHZ {x:Int} (h:0≤x∧x≤8192) (k:Nat):iw (dn x k)=true:=by have:=qVX h k; exact decide_eq_true (by omega)
theorem kHQ {x:Int} (h:0≤x∧x≤8192) (k:Nat):iw (up x k)=true:=by have:=qKU h k; exact decide_eq_true (by omega)
theorem kGX {x:Int} (h:0≤x∧x≤8192) (k:Nat):pw (up x k)=true:=decide_eq_true (qKU h k)
noncomputable def zXV:List PV→Option (Bool × Ret):=fun ps=>match ps with
 | [.n .i64 a,.n .i64 k]=>some (decide (0≤k∧k≤62),.v (.n .i64 (a / 2 ^ Int.toNat k)))
 | _=>none
theorem ok_fShiftDown:zW Tryz.prog 170 zXV:=by
 intro ps r h
 unfold zXV at h
 split at h
 ·simp only [Option.some.injEq,Prod.mk.injEq] at h
  obtain ⟨hg,rfl⟩:=h
  try simp only [Bool.and_eq_true,decide_eq_true_eq] at hg
  exact zZ (zQ Tryz.func170 (by kernel_rfl) (by kernel_rfl)) rfl rfl (fun w=>yKW _ _ hg w)
 ·cases h
noncomputable def LTa1:OrL:=(170,zXV) :: ([]:OrL)
theorem LTa1_ok:AllP (fun x:Nat × (List PV→Option (Bool × Ret))=>zW Tryz.prog x.1 x.2) LTa1:=⟨ok_fShiftDown,trivial⟩
noncomputable def yJW:List PV→Option (Bool × Ret):=fun ps=>match ps with
 | [.n .i64 a,.n .i64 k]=>some (decide (0≤k∧k≤62) && iw a,.v (.n .i64 (zG a (2 ^ Int.toNat k))))
 | _=>none
theorem ok_fShiftUp:zW Tryz.prog 171 yJW:=by
 intro ps r h
 unfold yJW at h
 split at h
 ·simp only [Option.some.injEq,Prod.mk.injEq] at h
  obtain ⟨hg,rfl⟩:=h
  try simp only [Bool.and_eq_true,decide_eq_true_eq] at hg
  exact zZ (zQ Tryz.func171 (by kernel_rfl) (by kernel_rfl)) rfl rfl (fun w=>jUY _ _ hg.1 (iw_of hg.2) w)
 ·cases h
noncomputable def LTa2:OrL:=(171,yJW) :: LTa1
theorem LTa2_ok:AllP (fun x:Nat × (List PV→Option (Bool × Ret))=>zW Tryz.prog x.1 x.2) LTa2:=⟨ok_fShiftUp,LTa1_ok⟩
noncomputable def o_rFloor:List PV→Option (Bool × Ret):=fun ps=>match ps with
 | [.n .i64 a,.n .i64 b]=>some (decide (0 < b) && iw a,.v (.n .i64 (a / b)))
 | _=>none
theorem ok_rFloor:zW Tryz.prog 80 o_rFloor:=by
 intro ps r h
 unfold o_rFloor at h
 split at h
 ·simp only [Option.some.injEq,Prod.mk.injEq] at h
  obtain ⟨hg,rfl⟩:=h
  try simp only [Bool.and_eq_true,decide_eq_true_eq] at hg
  exact zZ (zQ Tryz.func80 (by kernel_rfl) (by kernel_rfl)) rfl rfl (fun w=>kUG _ _ (iw_of hg.2) hg.1 w)
 ·cases h
noncomputable def LTa3:OrL:=(80,o_rFloor) :: LTa2
theorem LTa3_ok:AllP (fun x:Nat × (List PV→Option (Bool × Ret))=>zW Tryz.prog x.1 x.2) LTa3:=⟨ok_rFloor,LTa2_ok⟩
noncomputable def jHX:List PV→Option (Bool × Ret):=fun ps=>match ps with
 | [.n .i64 a,.n .i64 b]=>some (decide (0 < b) && iw a,.v (.n .i64 (zG a b)))
 | _=>none
theorem ok_rCeil:zW Tryz.prog 116 jHX:=by
 intro ps r h
 unfold jHX at h
 split at h
 ·simp only [Option.some.injEq,Prod.mk.injEq] at h
  obtain ⟨hg,rfl⟩:=h
  try simp only [Bool.and_eq_true,decide_eq_true_eq] at hg
  exact zZ (zQ Tryz.func116 (by kernel_rfl) (by kernel_rfl)) rfl rfl (fun w=>uQX _ _ (iw_of hg.2) hg.1 w)
 ·cases h
noncomputable def LTa4:OrL:=(116,jHX) :: LTa3
theorem LTa4_ok:AllP (fun x:Nat × (List PV→Option (Bool × Ret))=>zW Tryz.prog x.1 x.2) LTa4:=⟨ok_rCeil,LTa3_ok⟩
noncomputable def kQY:List PV→Option (Bool × Ret):=fun ps=>match ps with
 | [.n .i64 a,.n .i64 b]=>some (decide (0 < b∧b≤1073741824) && pw a,.v (.n .i64 (zG a b)))
 | _=>none
theorem ok_aCeil:zW Tryz.prog 194 kQY:=by
 intro ps r h
 unfold kQY at h
 split at h
 ·simp only [Option.some.injEq,Prod.mk.injEq] at h
  obtain ⟨hg,rfl⟩:=h
  try simp only [Bool.and_eq_true,decide_eq_true_eq] at hg
  exact zZ (zQ Tryz.func194 (by kernel_rfl) (by kernel_rfl)) rfl rfl (fun w=>aCeil _ _ (pw_of hg.2) hg.1 w)
 ·cases h
noncomputable def LTa5:OrL:=(194,kQY) :: LTa4
theorem LTa5_ok:AllP (fun x:Nat × (List PV→Option (Bool × Ret))=>zW Tryz.prog x.1 x.2) LTa5:=⟨ok_aCeil,LTa4_ok⟩
noncomputable def kWZ:List PV→Option (Bool × Ret):=fun ps=>match ps with
 | [.n .i64 l,.n .i64 a]=>some (iw a,.v (.a (ivC (encI l a))))
 | _=>none
theorem ok_aEnc:zW Tryz.prog 195 kWZ:=by
 intro ps r h
 unfold kWZ at h
 split at h
 ·simp only [Option.some.injEq,Prod.mk.injEq] at h
  obtain ⟨hg,rfl⟩:=h
  try simp only [Bool.and_eq_true,decide_eq_true_eq] at hg
  exact zZ (zQ Tryz.func195 (by kernel_rfl) (by kernel_rfl)) rfl rfl (fun w=>aEnc _ _ (iw_of hg) w)
 ·cases h
noncomputable def LTa6:OrL:=(195,kWZ) :: LTa5
theorem LTa6_ok:AllP (fun x:Nat × (List PV→Option (Bool × Ret))=>zW Tryz.prog x.1 x.2) LTa6:=⟨ok_aEnc,LTa5_ok⟩
noncomputable def kXK:List PV→Option (Bool × Ret):=fun ps=>match ps with
 | [.n .i64 l,.n .i64 a]=>some (iw a && iw l,.v (.a (ivC (encI l a))))
 | _=>none
theorem ok_rEnc:zW Tryz.prog 177 kXK:=by
 intro ps r h
 unfold kXK at h
 split at h
 ·simp only [Option.some.injEq,Prod.mk.injEq] at h
  obtain ⟨hg,rfl⟩:=h
  try simp only [Bool.and_eq_true,decide_eq_true_eq] at hg
  exact zZ (zQ Tryz.func177 (by kernel_rfl) (by kernel_rfl)) rfl rfl (fun w=>rEnc _ _ (iw_of hg.2) (iw_of hg.1) w)
 ·cases h
noncomputable def LTa7:OrL:=(177,kXK) :: LTa6
theorem kZG:AllP (fun x:Nat × (List PV→Option (Bool × Ret))=>zW Tryz.prog x.1 x.2) LTa7:=⟨ok_rEnc,LTa6_ok⟩
def wdn (x:Int):Nat→Int
 | 0=>1073741824
 | 1=>(IntKind.i64.wrap (x * 6746518852)) / 65536
 | k + 2=>(IntKind.i64.wrap (wdn x (k + 1) * ((IntKind.i64.wrap (x * 6746518852)) / 65536))) / 1073741824
def wup (x:Int):Nat→Int
 | 0=>1073741824
 | 1=>zG (IntKind.i64.wrap (x * 6746518853)) 65536
 | k + 2=>zG (IntKind.i64.wrap (wup x (k + 1) * zG (IntKind.i64.wrap (x * 6746518853)) 65536)) 1073741824
theorem wmul {a b:Int} (ha:0≤a∧a≤1073741824) (hb:0≤b∧b≤1073741824):IntKind.i64.wrap (a * b)=a * b:=mul_in (by omega) (by omega)
theorem kKV {x:Int} (h:0≤x∧x≤8192):∀ k,wdn x k=dn x k
 | 0=>rfl
 | 1=>by unfold wdn dn; rw [zY (by omega)]
 | k + 2=>by rw [wdn,dn,kKV h (k + 1),zY (show -9223372036854775808≤x * 6746518852∧x * 6746518852≤9223372036854775807 by omega),wmul (qVX h (k + 1)) (show 0≤x * 6746518852 / 65536∧x * 6746518852 / 65536≤1073741824 by omega)]
theorem kKW {x:Int} (h:0≤x∧x≤8192):∀ k,wup x k=up x k
 | 0=>rfl
 | 1=>by unfold wup up; rw [zY (by omega)]
 | k + 2=>by rw [wup,up,kKW h (k + 1),zY (show -9223372036854775808≤x * 6746518853∧x * 6746518853≤9223372036854775807 by omega),wmul (qKU h (k + 1)) (jGQ rfl h)]
set_option maxRecDepth 100000 in
theorem sp_aPow (x:Int) (h:0≤x∧x≤8192):zH Tryz.prog 192 [.n .i64 x] (.v (.t [.a [.n .i64 1073741824,.n .i64 (dn x 1),.n .i64 (dn x 2),.n .i64 (dn x 3),.n .i64 (dn x 4),.n .i64 (dn x 5),.n .i64 (dn x 6),.n .i64 (dn x 7),.n .i64 (dn x 8),.n .i64 (dn x 9),.n .i64 (dn x 10)],.a [.n .i64 1073741824,.n .i64 (up x 1),.n .i64 (up x 2),.n .i64 (up x 3),.n .i64 (up x 4),.n .i64 (up x 5),.n .i64 (up x 6),.n .i64 (up x 7),.n .i64 (up x 8),.n .i64 (up x 9),.n .i64 (up x 10)]])):=qG (N:=60) (ps:=[.n .i64 x]) yJ yY (OrL.ok (l:=LTa7) kZG) ((by kernel_rfl:_=bif iw (IntKind.i64.wrap (x * 6746518853)) then (bif iw (IntKind.i64.wrap (wup x 1 * wup x 1)) then (bif iw (IntKind.i64.wrap (wup x 2 * wup x 1)) then (bif iw (IntKind.i64.wrap (wup x 3 * wup x 1)) then (bif iw (IntKind.i64.wrap (wup x 4 * wup x 1)) then (bif iw (IntKind.i64.wrap (wup x 5 * wup x 1)) then (bif iw (IntKind.i64.wrap (wup x 6 * wup x 1)) then (bif iw (IntKind.i64.wrap (wup x 7 * wup x 1)) then (bif iw (IntKind.i64.wrap (wup x 8 * wup x 1)) then (bif iw (IntKind.i64.wrap (wup x 9 * wup x 1)) then some (.v (.t [.a [.n .i64 1073741824,.n .i64 (wdn x 1),.n .i64 (wdn x 2),.n .i64 (wdn x 3),.n .i64 (wdn x 4),.n .i64 (wdn x 5),.n .i64 (wdn x 6),.n .i64 (wdn x 7),.n .i64 (wdn x 8),.n .i64 (wdn x 9),.n .i64 (wdn x 10)],.a [.n .i64 1073741824,.n .i64 (wup x 1),.n .i64 (wup x 2),.n .i64 (wup x 3),.n .i64 (wup x 4),.n .i64 (wup x 5),.n .i64 (wup x 6),.n .i64 (wup x 7),.n .i64 (wup x 8),.n .i64 (wup x 9),.n .i64 (wup x 10)]]),[])
 else none)
 else none)
 else none)
 else none)
 else none)
 else none)
 else none)
 else none)
 else none)
 else none).trans (by
 simp only [iww,cond_true,kKV h,kKW h]))
set_option maxRecDepth 100000 in
theorem sp_rPow (x:Int) (h:0≤x∧x≤8192):zH Tryz.prog 176 [.n .i64 x] (.v (.t [.a [.n .i64 0,.n .i64 (dn x 1),.n .i64 (dn x 2),.n .i64 (dn x 3),.n .i64 (dn x 4),.n .i64 (dn x 5),.n .i64 (dn x 6),.n .i64 (dn x 7),.n .i64 (dn x 8),.n .i64 (dn x 9),.n .i64 (dn x 10)],.a [.n .i64 0,.n .i64 (up x 1),.n .i64 (up x 2),.n .i64 (up x 3),.n .i64 (up x 4),.n .i64 (up x 5),.n .i64 (up x 6),.n .i64 (up x 7),.n .i64 (up x 8),.n .i64 (up x 9),.n .i64 (up x 10)]])):=qG (N:=60) (ps:=[.n .i64 x]) yJ yY (OrL.ok (l:=LTa7) kZG) ((by kernel_rfl:_=bif iw (IntKind.i64.wrap (x * 6746518852)) then (bif iw (IntKind.i64.wrap (x * 6746518853)) then (bif iw (IntKind.i64.wrap (wdn x 1 * wdn x 1)) then (bif iw (IntKind.i64.wrap (wup x 1 * wup x 1)) then (bif iw (IntKind.i64.wrap (wdn x 2 * wdn x 1)) then (bif iw (IntKind.i64.wrap (wup x 2 * wup x 1)) then (bif iw (IntKind.i64.wrap (wdn x 3 * wdn x 1)) then (bif iw (IntKind.i64.wrap (wup x 3 * wup x 1)) then (bif iw (IntKind.i64.wrap (wdn x 4 * wdn x 1)) then (bif iw (IntKind.i64.wrap (wup x 4 * wup x 1)) then (bif iw (IntKind.i64.wrap (wdn x 5 * wdn x 1)) then (bif iw (IntKind.i64.wrap (wup x 5 * wup x 1)) then (bif iw (IntKind.i64.wrap (wdn x 6 * wdn x 1)) then (bif iw (IntKind.i64.wrap (wup x 6 * wup x 1)) then (bif iw (IntKind.i64.wrap (wdn x 7 * wdn x 1)) then (bif iw (IntKind.i64.wrap (wup x 7 * wup x 1)) then (bif iw (IntKind.i64.wrap (wdn x 8 * wdn x 1)) then (bif iw (IntKind.i64.wrap (wup x 8 * wup x 1)) then (bif iw (IntKind.i64.wrap (wdn x 9 * wdn x 1)) then (bif iw (IntKind.i64.wrap (wup x 9 * wup x 1)) then some (.v (.t [.a [.n .i64 0,.n .i64 (wdn x 1),.n .i64 (wdn x 2),.n .i64 (wdn x 3),.n .i64 (wdn x 4),.n .i64 (wdn x 5),.n .i64 (wdn x 6),.n .i64 (wdn x 7),.n .i64 (wdn x 8),.n .i64 (wdn x 9),.n .i64 (wdn x 10)],.a [.n .i64 0,.n .i64 (wup x 1),.n .i64 (wup x 2),.n .i64 (wup x 3),.n .i64 (wup x 4),.n .i64 (wup x 5),.n .i64 (wup x 6),.n .i64 (wup x 7),.n .i64 (wup x 8),.n .i64 (wup x 9),.n .i64 (wup x 10)]]),[])
 else none)
 else none)
 else none)
 else none)
 else none)
 else none)
 else none)
 else none)
 else none)
 else none)
 else none)
 else none)
 else none)
 else none)
 else none)
 else none)
 else none)
 else none)
 else none)
 else none).trans (by
 simp only [iww,cond_true,kKV h,kKW h]))
noncomputable def kXH:List PV→Option (Bool × Ret):=fun ps=>match ps with
 | [.n .i64 x]=>some (decide (0≤x∧x≤8192),.v (.t [.a [.n .i64 1073741824,.n .i64 (dn x 1),.n .i64 (dn x 2),.n .i64 (dn x 3),.n .i64 (dn x 4),.n .i64 (dn x 5),.n .i64 (dn x 6),.n .i64 (dn x 7),.n .i64 (dn x 8),.n .i64 (dn x 9),.n .i64 (dn x 10)],.a [.n .i64 1073741824,.n .i64 (up x 1),.n .i64 (up x 2),.n .i64 (up x 3),.n .i64 (up x 4),.n .i64 (up x 5),.n .i64 (up x 6),.n .i64 (up x 7),.n .i64 (up x 8),.n .i64 (up x 9),.n .i64 (up x 10)]]))
 | _=>none
theorem ok_aPow:zW Tryz.prog 192 kXH:=by
 intro ps r h
 unfold kXH at h
 split at h
 ·simp only [Option.some.injEq,Prod.mk.injEq] at h
  obtain ⟨hg,rfl⟩:=h
  exact sp_aPow _ (of_decide_eq_true hg)
 ·cases h
noncomputable def LTa8:OrL:=(192,kXH) :: LTa7
theorem LTa8_ok:AllP (fun x:Nat × (List PV→Option (Bool × Ret))=>zW Tryz.prog x.1 x.2) LTa8:=⟨ok_aPow,kZG⟩
noncomputable def kXZ:List PV→Option (Bool × Ret):=fun ps=>match ps with
 | [.n .i64 x]=>some (decide (0≤x∧x≤8192),.v (.t [.a [.n .i64 0,.n .i64 (dn x 1),.n .i64 (dn x 2),.n .i64 (dn x 3),.n .i64 (dn x 4),.n .i64 (dn x 5),.n .i64 (dn x 6),.n .i64 (dn x 7),.n .i64 (dn x 8),.n .i64 (dn x 9),.n .i64 (dn x 10)],.a [.n .i64 0,.n .i64 (up x 1),.n .i64 (up x 2),.n .i64 (up x 3),.n .i64 (up x 4),.n .i64 (up x 5),.n .i64 (up x 6),.n .i64 (up x 7),.n .i64 (up x 8),.n .i64 (up x 9),.n .i64 (up x 10)]]))
 | _=>none
theorem ok_rPow:zW Tryz.prog 176 kXZ:=by
 intro ps r h
 unfold kXZ at h
 split at h
 ·simp only [Option.some.injEq,Prod.mk.injEq] at h
  obtain ⟨hg,rfl⟩:=h
  exact sp_rPow _ (of_decide_eq_true hg)
 ·cases h
noncomputable def LTa9:OrL:=(176,kXZ) :: LTa8
theorem jQK:AllP (fun x:Nat × (List PV→Option (Bool × Ret))=>zW Tryz.prog x.1 x.2) LTa9:=⟨ok_rPow,LTa8_ok⟩
theorem tdnn {a b:Int} (h:0≤a):a.tdiv b=a / b:=Int.tdiv_eq_ediv_of_nonneg h
def kJU (x:Int):Int:=(IntKind.i64.wrap ((IntKind.i64.wrap ((IntKind.i64.wrap ((IntKind.i64.wrap (0 + (IntKind.i64.wrap (1 * (dn x 1))))) + (IntKind.i64.wrap ((-1) * zG (up x 3) 6)))) + (IntKind.i64.wrap (1 * (IntKind.i64.wrap ((dn x 5).tdiv 120)))))) + (IntKind.i64.wrap ((-1) * zG (up x 7) 5040))))
theorem aSineL_eq {x:Int} (h:0≤x∧x≤8192):kJU x=sinL x:=by
 have d1:=qVX h 1
 have d5:=qVX h 5
 have u3:=qKU h 3
 have u7:=qKU h 7
 have c3:=jZ (r:=zG (up x 3) 6) rfl u3 (by decide)
 have c7:=jZ (r:=zG (up x 7) 5040) rfl u7 (by decide)
 unfold kJU sinL
 simp only [tdnn d5.1]
 have w0:IntKind.i64.wrap (1 * (dn x 1))=(1 * (dn x 1)):=zY (by omega)
 have w1:IntKind.i64.wrap (0 + (1 * (dn x 1)))=(0 + (1 * (dn x 1))):=zY (by omega)
 have w2:IntKind.i64.wrap ((-1) * zG (up x 3) 6)=((-1) * zG (up x 3) 6):=zY (by omega)
 have w3:IntKind.i64.wrap ((0 + (1 * (dn x 1))) + ((-1) * zG (up x 3) 6))=((0 + (1 * (dn x 1))) + ((-1) * zG (up x 3) 6)):=zY (by omega)
 have w4:IntKind.i64.wrap (((dn x 5) / 120))=(((dn x 5) / 120)):=zY (by omega)
 have w5:IntKind.i64.wrap (1 * (((dn x 5) / 120)))=(1 * (((dn x 5) / 120))):=zY (by omega)
 have w6:IntKind.i64.wrap (((0 + (1 * (dn x 1))) + ((-1) * zG (up x 3) 6)) + (1 * (((dn x 5) / 120))))=(((0 + (1 * (dn x 1))) + ((-1) * zG (up x 3) 6)) + (1 * (((dn x 5) / 120)))):=zY (by omega)
 have w7:IntKind.i64.wrap ((-1) * zG (up x 7) 5040)=((-1) * zG (up x 7) 5040):=zY (by omega)
 have w8:IntKind.i64.wrap ((((0 + (1 * (dn x 1))) + ((-1) * zG (up x 3) 6)) + (1 * (((dn x 5) / 120)))) + ((-1) * zG (up x 7) 5040))=((((0 + (1 * (dn x 1))) + ((-1) * zG (up x 3) 6)) + (1 * (((dn x 5) / 120)))) + ((-1) * zG (up x 7) 5040)):=zY (by omega)
 simp only [w0,w1,w2,w3,w4,w5,w6,w7,w8]
 try omega
def jVK (x:Int):Int:=(IntKind.i64.wrap ((IntKind.i64.wrap ((IntKind.i64.wrap ((IntKind.i64.wrap ((IntKind.i64.wrap (0 + (IntKind.i64.wrap (1 * (up x 1))))) + (IntKind.i64.wrap ((-1) * (IntKind.i64.wrap ((dn x 3).tdiv 6)))))) + (IntKind.i64.wrap (1 * zG (up x 5) 120)))) + (IntKind.i64.wrap ((-1) * (IntKind.i64.wrap ((dn x 7).tdiv 5040)))))) + (IntKind.i64.wrap (1 * zG (up x 9) 362880))))
theorem aSineU_eq {x:Int} (h:0≤x∧x≤8192):jVK x=sinU x:=by
 have d3:=qVX h 3
 have d7:=qVX h 7
 have u1:=qKU h 1
 have u5:=qKU h 5
 have u9:=qKU h 9
 have c5:=jZ (r:=zG (up x 5) 120) rfl u5 (by decide)
 have c9:=jZ (r:=zG (up x 9) 362880) rfl u9 (by decide)
 unfold jVK sinU
 simp only [tdnn d3.1,tdnn d7.1]
 have w0:IntKind.i64.wrap (1 * (up x 1))=(1 * (up x 1)):=zY (by omega)
 have w1:IntKind.i64.wrap (0 + (1 * (up x 1)))=(0 + (1 * (up x 1))):=zY (by omega)
 have w2:IntKind.i64.wrap (((dn x 3) / 6))=(((dn x 3) / 6)):=zY (by omega)
 have w3:IntKind.i64.wrap ((-1) * (((dn x 3) / 6)))=((-1) * (((dn x 3) / 6))):=zY (by omega)
 have w4:IntKind.i64.wrap ((0 + (1 * (up x 1))) + ((-1) * (((dn x 3) / 6))))=((0 + (1 * (up x 1))) + ((-1) * (((dn x 3) / 6)))):=zY (by omega)
 have w5:IntKind.i64.wrap (1 * zG (up x 5) 120)=(1 * zG (up x 5) 120):=zY (by omega)
 have w6:IntKind.i64.wrap (((0 + (1 * (up x 1))) + ((-1) * (((dn x 3) / 6)))) + (1 * zG (up x 5) 120))=(((0 + (1 * (up x 1))) + ((-1) * (((dn x 3) / 6)))) + (1 * zG (up x 5) 120)):=zY (by omega)
 have w7:IntKind.i64.wrap (((dn x 7) / 5040))=(((dn x 7) / 5040)):=zY (by omega)
 have w8:IntKind.i64.wrap ((-1) * (((dn x 7) / 5040)))=((-1) * (((dn x 7) / 5040))):=zY (by omega)
 have w9:IntKind.i64.wrap ((((0 + (1 * (up x 1))) + ((-1) * (((dn x 3) / 6)))) + (1 * zG (up x 5) 120)) + ((-1) * (((dn x 7) / 5040))))=((((0 + (1 * (up x 1))) + ((-1) * (((dn x 3) / 6)))) + (1 * zG (up x 5) 120)) + ((-1) * (((dn x 7) / 5040)))):=zY (by omega)
 have w10:IntKind.i64.wrap (1 * zG (up x 9) 362880)=(1 * zG (up x 9) 362880):=zY (by omega)
 have w11:IntKind.i64.wrap (((((0 + (1 * (up x 1))) + ((-1) * (((dn x 3) / 6)))) + (1 * zG (up x 5) 120)) + ((-1) * (((dn x 7) / 5040)))) + (1 * zG (up x 9) 362880))=(((((0 + (1 * (up x 1))) + ((-1) * (((dn x 3) / 6)))) + (1 * zG (up x 5) 120)) + ((-1) * (((dn x 7) / 5040)))) + (1 * zG (up x 9) 362880)):=zY (by omega)
 simp only [w0,w1,w2,w3,w4,w5,w6,w7,w8,w9,w10,w11]
 try omega
end Ta
set_option maxRecDepth 100000 in
theorem aSine (x:Int) (h:0≤x∧x≤8192) (w:World):Calls Tryz.prog 190 [.int .i64 x].toArray w (Rets (iv (jYJ x)) (w)) :=
 zX (x:=.a (ivC (jYJ x))) (qG (N:=60) (ps:=[.n .i64 x]) yJ yY (OrL.ok (l:=LTa9) jQK) ((by kernel_rfl:_=bif decide (0≤x∧x≤8192) then (bif pw (up x 3) then (bif pw (up x 7) then (bif pw (up x 5) then (bif pw (up x 9) then (bif iw (jVK x) then some (.v (.a (ivC (encI (kJU x) (jVK x)))),[])
 else none)
 else none)
 else none)
 else none)
 else none)
 else none).trans (by
 have iL:iw (kJU x)=true:=iww _
 have iU:iw (jVK x)=true:=iww _
 rw [aSineL_eq h] at iL ⊢
 rw [aSineU_eq h] at iU ⊢
 simp only [decide_eq_true h,kGX h,kHQ h,kHZ h,iL,iU,cond_true,Bool.and_self]
 rfl))) rfl rfl w
namespace Ta
def yXX (x:Int):Int:=(IntKind.i64.wrap ((IntKind.i64.wrap ((IntKind.i64.wrap ((IntKind.i64.wrap ((IntKind.i64.wrap (1073741824 + (IntKind.i64.wrap ((-1) * zG (up x 2) 2)))) + (IntKind.i64.wrap (1 * (IntKind.i64.wrap ((dn x 4).tdiv 24)))))) + (IntKind.i64.wrap ((-1) * zG (up x 6) 720)))) + (IntKind.i64.wrap (1 * (IntKind.i64.wrap ((dn x 8).tdiv 40320)))))) + (IntKind.i64.wrap ((-1) * zG (up x 10) 3628800))))
theorem aCosineL_eq {x:Int} (h:0≤x∧x≤8192):yXX x=cosL x:=by
 have d4:=qVX h 4
 have d8:=qVX h 8
 have u2:=qKU h 2
 have u6:=qKU h 6
 have u10:=qKU h 10
 have c10:=jZ (r:=zG (up x 10) 3628800) rfl u10 (by decide)
 have c2:=jZ (r:=zG (up x 2) 2) rfl u2 (by decide)
 have c6:=jZ (r:=zG (up x 6) 720) rfl u6 (by decide)
 unfold yXX cosL
 simp only [tdnn d4.1,tdnn d8.1]
 have w0:IntKind.i64.wrap ((-1) * zG (up x 2) 2)=((-1) * zG (up x 2) 2):=zY (by omega)
 have w1:IntKind.i64.wrap (1073741824 + ((-1) * zG (up x 2) 2))=(1073741824 + ((-1) * zG (up x 2) 2)):=zY (by omega)
 have w2:IntKind.i64.wrap (((dn x 4) / 24))=(((dn x 4) / 24)):=zY (by omega)
 have w3:IntKind.i64.wrap (1 * (((dn x 4) / 24)))=(1 * (((dn x 4) / 24))):=zY (by omega)
 have w4:IntKind.i64.wrap ((1073741824 + ((-1) * zG (up x 2) 2)) + (1 * (((dn x 4) / 24))))=((1073741824 + ((-1) * zG (up x 2) 2)) + (1 * (((dn x 4) / 24)))):=zY (by omega)
 have w5:IntKind.i64.wrap ((-1) * zG (up x 6) 720)=((-1) * zG (up x 6) 720):=zY (by omega)
 have w6:IntKind.i64.wrap (((1073741824 + ((-1) * zG (up x 2) 2)) + (1 * (((dn x 4) / 24)))) + ((-1) * zG (up x 6) 720))=(((1073741824 + ((-1) * zG (up x 2) 2)) + (1 * (((dn x 4) / 24)))) + ((-1) * zG (up x 6) 720)):=zY (by omega)
 have w7:IntKind.i64.wrap (((dn x 8) / 40320))=(((dn x 8) / 40320)):=zY (by omega)
 have w8:IntKind.i64.wrap (1 * (((dn x 8) / 40320)))=(1 * (((dn x 8) / 40320))):=zY (by omega)
 have w9:IntKind.i64.wrap ((((1073741824 + ((-1) * zG (up x 2) 2)) + (1 * (((dn x 4) / 24)))) + ((-1) * zG (up x 6) 720)) + (1 * (((dn x 8) / 40320))))=((((1073741824 + ((-1) * zG (up x 2) 2)) + (1 * (((dn x 4) / 24)))) + ((-1) * zG (up x 6) 720)) + (1 * (((dn x 8) / 40320)))):=zY (by omega)
 have w10:IntKind.i64.wrap ((-1) * zG (up x 10) 3628800)=((-1) * zG (up x 10) 3628800):=zY (by omega)
 have w11:IntKind.i64.wrap (((((1073741824 + ((-1) * zG (up x 2) 2)) + (1 * (((dn x 4) / 24)))) + ((-1) * zG (up x 6) 720)) + (1 * (((dn x 8) / 40320)))) + ((-1) * zG (up x 10) 3628800))=(((((1073741824 + ((-1) * zG (up x 2) 2)) + (1 * (((dn x 4) / 24)))) + ((-1) * zG (up x 6) 720)) + (1 * (((dn x 8) / 40320)))) + ((-1) * zG (up x 10) 3628800)):=zY (by omega)
 simp only [w0,w1,w2,w3,w4,w5,w6,w7,w8,w9,w10,w11]
 try omega
def yZX (x:Int):Int:=(IntKind.i64.wrap ((IntKind.i64.wrap ((IntKind.i64.wrap ((IntKind.i64.wrap (1073741824 + (IntKind.i64.wrap ((-1) * (IntKind.i64.wrap ((dn x 2).tdiv 2)))))) + (IntKind.i64.wrap (1 * zG (up x 4) 24)))) + (IntKind.i64.wrap ((-1) * (IntKind.i64.wrap ((dn x 6).tdiv 720)))))) + (IntKind.i64.wrap (1 * zG (up x 8) 40320))))
theorem aCosineU_eq {x:Int} (h:0≤x∧x≤8192):yZX x=cosU x:=by
 have d2:=qVX h 2
 have d6:=qVX h 6
 have u4:=qKU h 4
 have u8:=qKU h 8
 have c4:=jZ (r:=zG (up x 4) 24) rfl u4 (by decide)
 have c8:=jZ (r:=zG (up x 8) 40320) rfl u8 (by decide)
 unfold yZX cosU
 simp only [tdnn d2.1,tdnn d6.1]
 have w0:IntKind.i64.wrap (((dn x 2) / 2))=(((dn x 2) / 2)):=zY (by omega)
 have w1:IntKind.i64.wrap ((-1) * (((dn x 2) / 2)))=((-1) * (((dn x 2) / 2))):=zY (by omega)
 have w2:IntKind.i64.wrap (1073741824 + ((-1) * (((dn x 2) / 2))))=(1073741824 + ((-1) * (((dn x 2) / 2)))):=zY (by omega)
 have w3:IntKind.i64.wrap (1 * zG (up x 4) 24)=(1 * zG (up x 4) 24):=zY (by omega)
 have w4:IntKind.i64.wrap ((1073741824 + ((-1) * (((dn x 2) / 2)))) + (1 * zG (up x 4) 24))=((1073741824 + ((-1) * (((dn x 2) / 2)))) + (1 * zG (up x 4) 24)):=zY (by omega)
 have w5:IntKind.i64.wrap (((dn x 6) / 720))=(((dn x 6) / 720)):=zY (by omega)
 have w6:IntKind.i64.wrap ((-1) * (((dn x 6) / 720)))=((-1) * (((dn x 6) / 720))):=zY (by omega)
 have w7:IntKind.i64.wrap (((1073741824 + ((-1) * (((dn x 2) / 2)))) + (1 * zG (up x 4) 24)) + ((-1) * (((dn x 6) / 720))))=(((1073741824 + ((-1) * (((dn x 2) / 2)))) + (1 * zG (up x 4) 24)) + ((-1) * (((dn x 6) / 720)))):=zY (by omega)
 have w8:IntKind.i64.wrap (1 * zG (up x 8) 40320)=(1 * zG (up x 8) 40320):=zY (by omega)
 have w9:IntKind.i64.wrap ((((1073741824 + ((-1) * (((dn x 2) / 2)))) + (1 * zG (up x 4) 24)) + ((-1) * (((dn x 6) / 720)))) + (1 * zG (up x 8) 40320))=((((1073741824 + ((-1) * (((dn x 2) / 2)))) + (1 * zG (up x 4) 24)) + ((-1) * (((dn x 6) / 720)))) + (1 * zG (up x 8) 40320)):=zY (by omega)
 simp only [w0,w1,w2,w3,w4,w5,w6,w7,w8,w9]
 try omega
end Ta
set_option maxRecDepth 100000 in
theorem aCosine (x:Int) (h:0≤x∧x≤8192) (w:World):Calls Tryz.prog 191 [.int .i64 x].toArray w (Rets (iv (zUZ x)) (w)) :=
 zX (x:=.a (ivC (zUZ x))) (qG (N:=60) (ps:=[.n .i64 x]) yJ yY (OrL.ok (l:=LTa9) jQK) ((by kernel_rfl:_=bif decide (0≤x∧x≤8192) then (bif pw (up x 2) then (bif pw (up x 6) then (bif pw (up x 10) then (bif pw (up x 4) then (bif pw (up x 8) then (bif iw (yZX x) then some (.v (.a (ivC (encI (yXX x) (yZX x)))),[])
 else none)
 else none)
 else none)
 else none)
 else none)
 else none)
 else none).trans (by
 have iL:iw (yXX x)=true:=iww _
 have iU:iw (yZX x)=true:=iww _
 rw [aCosineL_eq h] at iL ⊢
 rw [aCosineU_eq h] at iU ⊢
 simp only [decide_eq_true h,kGX h,kHQ h,kHZ h,iL,iU,cond_true,Bool.and_self]
 rfl))) rfl rfl w
namespace Ta
def jWQ (x:Int):Int:=(IntKind.i64.wrap ((IntKind.i64.wrap ((IntKind.i64.wrap ((dn x 1) - zG (up x 3) 6)) + (dn x 5) / 120)) - zG (up x 7) 5040))
theorem rSineL_eq {x:Int} (h:0≤x∧x≤8192):jWQ x=sinL x:=by
 have d1:=qVX h 1
 have d5:=qVX h 5
 have u3:=qKU h 3
 have u7:=qKU h 7
 have c3:=jZ (r:=zG (up x 3) 6) rfl u3 (by decide)
 have c7:=jZ (r:=zG (up x 7) 5040) rfl u7 (by decide)
 unfold jWQ sinL
 have w0:IntKind.i64.wrap ((dn x 1) - zG (up x 3) 6)=((dn x 1) - zG (up x 3) 6):=zY (by omega)
 have w1:IntKind.i64.wrap (((dn x 1) - zG (up x 3) 6) + (dn x 5) / 120)=(((dn x 1) - zG (up x 3) 6) + (dn x 5) / 120):=zY (by omega)
 have w2:IntKind.i64.wrap ((((dn x 1) - zG (up x 3) 6) + (dn x 5) / 120) - zG (up x 7) 5040)=((((dn x 1) - zG (up x 3) 6) + (dn x 5) / 120) - zG (up x 7) 5040):=zY (by omega)
 simp only [w0,w1,w2]
 try omega
def jXH (x:Int):Int:=(IntKind.i64.wrap ((IntKind.i64.wrap ((IntKind.i64.wrap ((IntKind.i64.wrap ((up x 1) - (dn x 3) / 6)) + zG (up x 5) 120)) - (dn x 7) / 5040)) + zG (up x 9) 362880))
theorem rSineU_eq {x:Int} (h:0≤x∧x≤8192):jXH x=sinU x:=by
 have d3:=qVX h 3
 have d7:=qVX h 7
 have u1:=qKU h 1
 have u5:=qKU h 5
 have u9:=qKU h 9
 have c5:=jZ (r:=zG (up x 5) 120) rfl u5 (by decide)
 have c9:=jZ (r:=zG (up x 9) 362880) rfl u9 (by decide)
 unfold jXH sinU
 have w0:IntKind.i64.wrap ((up x 1) - (dn x 3) / 6)=((up x 1) - (dn x 3) / 6):=zY (by omega)
 have w1:IntKind.i64.wrap (((up x 1) - (dn x 3) / 6) + zG (up x 5) 120)=(((up x 1) - (dn x 3) / 6) + zG (up x 5) 120):=zY (by omega)
 have w2:IntKind.i64.wrap ((((up x 1) - (dn x 3) / 6) + zG (up x 5) 120) - (dn x 7) / 5040)=((((up x 1) - (dn x 3) / 6) + zG (up x 5) 120) - (dn x 7) / 5040):=zY (by omega)
 have w3:IntKind.i64.wrap (((((up x 1) - (dn x 3) / 6) + zG (up x 5) 120) - (dn x 7) / 5040) + zG (up x 9) 362880)=(((((up x 1) - (dn x 3) / 6) + zG (up x 5) 120) - (dn x 7) / 5040) + zG (up x 9) 362880):=zY (by omega)
 simp only [w0,w1,w2,w3]
 try omega
end Ta
set_option maxRecDepth 100000 in
theorem rSine (x:Int) (h:0≤x∧x≤8192) (w:World):Calls Tryz.prog 172 [.int .i64 x].toArray w (Rets (iv (jYJ x)) (w)) :=
 zX (x:=.a (ivC (jYJ x))) (qG (N:=60) (ps:=[.n .i64 x]) yJ yY (OrL.ok (l:=LTa9) jQK) ((by kernel_rfl:_=bif decide (0≤x∧x≤8192) then (bif iw (up x 3) then (bif iw (dn x 5) then (bif iw (up x 7) then (bif iw (dn x 3) then (bif iw (up x 5) then (bif iw (dn x 7) then (bif iw (up x 9) then (bif (iw (jXH x) && iw (jWQ x)) then some (.v (.a (ivC (encI (jWQ x) (jXH x)))),[])
 else none)
 else none)
 else none)
 else none)
 else none)
 else none)
 else none)
 else none)
 else none).trans (by
 have iL:iw (jWQ x)=true:=iww _
 have iU:iw (jXH x)=true:=iww _
 rw [rSineL_eq h] at iL ⊢
 rw [rSineU_eq h] at iU ⊢
 simp only [decide_eq_true h,kGX h,kHQ h,kHZ h,iL,iU,cond_true,Bool.and_self]
 rfl))) rfl rfl w
namespace Ta
def zHG (x:Int):Int:=(IntKind.i64.wrap ((IntKind.i64.wrap ((IntKind.i64.wrap ((IntKind.i64.wrap ((IntKind.i64.wrap (1073741824 - zG (up x 2) 2)) + (dn x 4) / 24)) - zG (up x 6) 720)) + (dn x 8) / 40320)) - zG (up x 10) 3628800))
theorem rCosineL_eq {x:Int} (h:0≤x∧x≤8192):zHG x=cosL x:=by
 have d4:=qVX h 4
 have d8:=qVX h 8
 have u2:=qKU h 2
 have u6:=qKU h 6
 have u10:=qKU h 10
 have c10:=jZ (r:=zG (up x 10) 3628800) rfl u10 (by decide)
 have c2:=jZ (r:=zG (up x 2) 2) rfl u2 (by decide)
 have c6:=jZ (r:=zG (up x 6) 720) rfl u6 (by decide)
 unfold zHG cosL
 have w0:IntKind.i64.wrap (1073741824 - zG (up x 2) 2)=(1073741824 - zG (up x 2) 2):=zY (by omega)
 have w1:IntKind.i64.wrap ((1073741824 - zG (up x 2) 2) + (dn x 4) / 24)=((1073741824 - zG (up x 2) 2) + (dn x 4) / 24):=zY (by omega)
 have w2:IntKind.i64.wrap (((1073741824 - zG (up x 2) 2) + (dn x 4) / 24) - zG (up x 6) 720)=(((1073741824 - zG (up x 2) 2) + (dn x 4) / 24) - zG (up x 6) 720):=zY (by omega)
 have w3:IntKind.i64.wrap ((((1073741824 - zG (up x 2) 2) + (dn x 4) / 24) - zG (up x 6) 720) + (dn x 8) / 40320)=((((1073741824 - zG (up x 2) 2) + (dn x 4) / 24) - zG (up x 6) 720) + (dn x 8) / 40320):=zY (by omega)
 have w4:IntKind.i64.wrap (((((1073741824 - zG (up x 2) 2) + (dn x 4) / 24) - zG (up x 6) 720) + (dn x 8) / 40320) - zG (up x 10) 3628800)=(((((1073741824 - zG (up x 2) 2) + (dn x 4) / 24) - zG (up x 6) 720) + (dn x 8) / 40320) - zG (up x 10) 3628800):=zY (by omega)
 simp only [w0,w1,w2,w3,w4]
 try omega
def zHV (x:Int):Int:=(IntKind.i64.wrap ((IntKind.i64.wrap ((IntKind.i64.wrap ((IntKind.i64.wrap (1073741824 - (dn x 2) / 2)) + zG (up x 4) 24)) - (dn x 6) / 720)) + zG (up x 8) 40320))
theorem rCosineU_eq {x:Int} (h:0≤x∧x≤8192):zHV x=cosU x:=by
 have d2:=qVX h 2
 have d6:=qVX h 6
 have u4:=qKU h 4
 have u8:=qKU h 8
 have c4:=jZ (r:=zG (up x 4) 24) rfl u4 (by decide)
 have c8:=jZ (r:=zG (up x 8) 40320) rfl u8 (by decide)
 unfold zHV cosU
 have w0:IntKind.i64.wrap (1073741824 - (dn x 2) / 2)=(1073741824 - (dn x 2) / 2):=zY (by omega)
 have w1:IntKind.i64.wrap ((1073741824 - (dn x 2) / 2) + zG (up x 4) 24)=((1073741824 - (dn x 2) / 2) + zG (up x 4) 24):=zY (by omega)
 have w2:IntKind.i64.wrap (((1073741824 - (dn x 2) / 2) + zG (up x 4) 24) - (dn x 6) / 720)=(((1073741824 - (dn x 2) / 2) + zG (up x 4) 24) - (dn x 6) / 720):=zY (by omega)
 have w3:IntKind.i64.wrap ((((1073741824 - (dn x 2) / 2) + zG (up x 4) 24) - (dn x 6) / 720) + zG (up x 8) 40320)=((((1073741824 - (dn x 2) / 2) + zG (up x 4) 24) - (dn x 6) / 720) + zG (up x 8) 40320):=zY (by omega)
 simp only [w0,w1,w2,w3]
 try omega
end Ta
set_option maxRecDepth 100000 in
theorem rCosine (x:Int) (h:0≤x∧x≤8192) (w:World):Calls Tryz.prog 173 [.int .i64 x].toArray w (Rets (iv (zUZ x)) (w)) :=
 zX (x:=.a (ivC (zUZ x))) (qG (N:=60) (ps:=[.n .i64 x]) yJ yY (OrL.ok (l:=LTa9) jQK) ((by kernel_rfl:_=bif decide (0≤x∧x≤8192) then (bif iw (up x 2) then (bif iw (dn x 4) then (bif iw (up x 6) then (bif iw (dn x 8) then (bif iw (up x 10) then (bif iw (dn x 2) then (bif iw (up x 4) then (bif iw (dn x 6) then (bif iw (up x 8) then (bif (iw (zHV x) && iw (zHG x)) then some (.v (.a (ivC (encI (zHG x) (zHV x)))),[])
 else none)
 else none)
 else none)
 else none)
 else none)
 else none)
 else none)
 else none)
 else none)
 else none)
 else none).trans (by
 have iL:iw (zHG x)=true:=iww _
 have iU:iw (zHV x)=true:=iww _
 rw [rCosineL_eq h] at iL ⊢
 rw [rCosineU_eq h] at iU ⊢
 simp only [decide_eq_true h,kGX h,kHQ h,kHZ h,iL,iU,cond_true,Bool.and_self]
 rfl))) rfl rfl w
namespace Ta
noncomputable def kQZ:List PV→Option (Bool × Ret):=fun ps=>match ps with
 | [.n .i64 x]=>some (decide (0≤x∧x≤8192),.v (.a (ivC (jYJ x))))
 | _=>none
theorem ok_aSine:zW Tryz.prog 190 kQZ:=by
 intro ps r h
 unfold kQZ at h
 split at h
 ·simp only [Option.some.injEq,Prod.mk.injEq] at h
  obtain ⟨hg,rfl⟩:=h
  try simp only [Bool.and_eq_true,decide_eq_true_eq] at hg
  exact zZ (zQ Tryz.func190 (by kernel_rfl) (by kernel_rfl)) rfl rfl (fun w=>aSine _ hg w)
 ·cases h
noncomputable def LTa10:OrL:=(190,kQZ) :: LTa9
theorem LTa10_ok:AllP (fun x:Nat × (List PV→Option (Bool × Ret))=>zW Tryz.prog x.1 x.2) LTa10:=⟨ok_aSine,jQK⟩
noncomputable def yGK:List PV→Option (Bool × Ret):=fun ps=>match ps with
 | [.n .i64 x]=>some (decide (0≤x∧x≤8192),.v (.a (ivC (zUZ x))))
 | _=>none
theorem ok_aCosine:zW Tryz.prog 191 yGK:=by
 intro ps r h
 unfold yGK at h
 split at h
 ·simp only [Option.some.injEq,Prod.mk.injEq] at h
  obtain ⟨hg,rfl⟩:=h
  try simp only [Bool.and_eq_true,decide_eq_true_eq] at hg
  exact zZ (zQ Tryz.func191 (by kernel_rfl) (by kernel_rfl)) rfl rfl (fun w=>aCosine _ hg w)
 ·cases h
noncomputable def LTa11:OrL:=(191,yGK) :: LTa10
theorem LTa11_ok:AllP (fun x:Nat × (List PV→Option (Bool × Ret))=>zW Tryz.prog x.1 x.2) LTa11:=⟨ok_aCosine,LTa10_ok⟩
noncomputable def jHK:List PV→Option (Bool × Ret):=fun ps=>match ps with
 | [.n .i64 x]=>some (decide (0≤x∧x≤8192),.v (.a (ivC (jYJ x))))
 | _=>none
theorem ok_rSine:zW Tryz.prog 172 jHK:=by
 intro ps r h
 unfold jHK at h
 split at h
 ·simp only [Option.some.injEq,Prod.mk.injEq] at h
  obtain ⟨hg,rfl⟩:=h
  try simp only [Bool.and_eq_true,decide_eq_true_eq] at hg
  exact zZ (zQ Tryz.func172 (by kernel_rfl) (by kernel_rfl)) rfl rfl (fun w=>rSine _ hg w)
 ·cases h
noncomputable def LTa12:OrL:=(172,jHK) :: LTa11
theorem LTa12_ok:AllP (fun x:Nat × (List PV→Option (Bool × Ret))=>zW Tryz.prog x.1 x.2) LTa12:=⟨ok_rSine,LTa11_ok⟩
noncomputable def yGQ:List PV→Option (Bool × Ret):=fun ps=>match ps with
 | [.n .i64 x]=>some (decide (0≤x∧x≤8192),.v (.a (ivC (zUZ x))))
 | _=>none
theorem ok_rCosine:zW Tryz.prog 173 yGQ:=by
 intro ps r h
 unfold yGQ at h
 split at h
 ·simp only [Option.some.injEq,Prod.mk.injEq] at h
  obtain ⟨hg,rfl⟩:=h
  try simp only [Bool.and_eq_true,decide_eq_true_eq] at hg
  exact zZ (zQ Tryz.func173 (by kernel_rfl) (by kernel_rfl)) rfl rfl (fun w=>rCosine _ hg w)
 ·cases h
noncomputable def kHH:OrL:=(173,yGQ) :: LTa12
theorem jXU:AllP (fun x:Nat × (List PV→Option (Bool × Ret))=>zW Tryz.prog x.1 x.2) kHH:=⟨ok_rCosine,LTa12_ok⟩
end Ta
set_option maxRecDepth 100000 in
theorem aFirst (r:Int) (h:0≤r∧r≤16384) (w:World):Calls Tryz.prog 188 [.int .i64 r].toArray w (Rets (iv (uK r)) (w)) :=
 zX (x:=.a (ivC (uK r))) (qG (N:=60) (ps:=[.n .i64 r]) yJ yY (OrL.ok (l:=kHH) jXU) ((by kernel_rfl:_=bif (decide (r≤8192)) then (bif decide (0≤r∧r≤8192) then some (.v (.a (ivC (jYJ r))),[])
 else none)
 else bif decide (0≤(IntKind.i64.wrap (16384 - r))∧(IntKind.i64.wrap (16384 - r))≤8192) then some (.v (.a (ivC (zUZ (IntKind.i64.wrap (16384 - r))))),[])
 else none).trans (by
 by_cases p:r≤8192
 ·simp only [decide_eq_true p,cond_true,decide_eq_true (show 0≤r∧r≤8192 by omega)]
  unfold uK
  rw [decide_eq_true p]; rfl
 ·have w0:IntKind.i64.wrap (16384 - r)=16384 - r:=zY (by omega)
  simp only [w0,decide_eq_false p,cond_false,decide_eq_true (show 0≤16384 - r∧16384 - r≤8192 by omega),cond_true]
  unfold uK
  rw [decide_eq_false p]; rfl))) rfl rfl w
set_option maxRecDepth 100000 in
theorem rQuarter (r:Int) (h:0≤r∧r≤16384) (w:World):Calls Tryz.prog 167 [.int .i64 r].toArray w (Rets (iv (uK r)) (w)) :=
 zX (x:=.a (ivC (uK r))) (qG (N:=60) (ps:=[.n .i64 r]) yJ yY (OrL.ok (l:=kHH) jXU) ((by kernel_rfl:_=bif (decide (r≤8192)) then (bif decide (0≤r∧r≤8192) then some (.v (.a (ivC (jYJ r))),[])
 else none)
 else bif decide (0≤(IntKind.i64.wrap (16384 - r))∧(IntKind.i64.wrap (16384 - r))≤8192) then some (.v (.a (ivC (zUZ (IntKind.i64.wrap (16384 - r))))),[])
 else none).trans (by
 by_cases p:r≤8192
 ·simp only [decide_eq_true p,cond_true,decide_eq_true (show 0≤r∧r≤8192 by omega)]
  unfold uK
  rw [decide_eq_true p]; rfl
 ·have w0:IntKind.i64.wrap (16384 - r)=16384 - r:=zY (by omega)
  simp only [w0,decide_eq_false p,cond_false,decide_eq_true (show 0≤16384 - r∧16384 - r≤8192 by omega),cond_true]
  unfold uK
  rw [decide_eq_false p]; rfl))) rfl rfl w
namespace Ta
noncomputable def jJX:List PV→Option (Bool × Ret):=fun ps=>match ps with
 | [.n .i64 r]=>some (decide (0≤r∧r≤16384),.v (.a (ivC (uK r))))
 | _=>none
theorem ok_aFirst:zW Tryz.prog 188 jJX:=by
 intro ps r h
 unfold jJX at h
 split at h
 ·simp only [Option.some.injEq,Prod.mk.injEq] at h
  obtain ⟨hg,rfl⟩:=h
  try simp only [Bool.and_eq_true,decide_eq_true_eq] at hg
  exact zZ (zQ Tryz.func188 (by kernel_rfl) (by kernel_rfl)) rfl rfl (fun w=>aFirst _ hg w)
 ·cases h
noncomputable def LTa14:OrL:=(188,jJX) :: kHH
theorem LTa14_ok:AllP (fun x:Nat × (List PV→Option (Bool × Ret))=>zW Tryz.prog x.1 x.2) LTa14:=⟨ok_aFirst,jXU⟩
noncomputable def yYH:List PV→Option (Bool × Ret):=fun ps=>match ps with
 | [.n .i64 r]=>some (decide (0≤r∧r≤16384),.v (.a (ivC (uK r))))
 | _=>none
theorem ok_rQuarter:zW Tryz.prog 167 yYH:=by
 intro ps r h
 unfold yYH at h
 split at h
 ·simp only [Option.some.injEq,Prod.mk.injEq] at h
  obtain ⟨hg,rfl⟩:=h
  try simp only [Bool.and_eq_true,decide_eq_true_eq] at hg
  exact zZ (zQ Tryz.func167 (by kernel_rfl) (by kernel_rfl)) rfl rfl (fun w=>rQuarter _ hg w)
 ·cases h
noncomputable def LTa15:OrL:=(167,yYH) :: LTa14
theorem LTa15_ok:AllP (fun x:Nat × (List PV→Option (Bool × Ret))=>zW Tryz.prog x.1 x.2) LTa15:=⟨ok_rQuarter,LTa14_ok⟩
noncomputable def kWQ:List PV→Option (Bool × Ret):=fun ps=>match ps with
 | [.n .i64 a]=>some (true,.v (.n .i64 ((a % 65536))))
 | _=>none
theorem ok_aMod:zW Tryz.prog 187 kWQ:=by
 intro ps r h
 unfold kWQ at h
 split at h
 ·simp only [Option.some.injEq,Prod.mk.injEq] at h
  obtain ⟨hg,rfl⟩:=h
  exact zZ (zQ Tryz.func187 (by kernel_rfl) (by kernel_rfl)) rfl rfl (fun w=>aMod _ w)
 ·cases h
noncomputable def LTa16:OrL:=(187,kWQ) :: LTa15
theorem LTa16_ok:AllP (fun x:Nat × (List PV→Option (Bool × Ret))=>zW Tryz.prog x.1 x.2) LTa16:=⟨ok_aMod,LTa15_ok⟩
noncomputable def kXJ:List PV→Option (Bool × Ret):=fun ps=>match ps with
 | [.n .i64 a]=>some (true,.v (.n .i64 ((a % 65536))))
 | _=>none
theorem ok_rMod:zW Tryz.prog 166 kXJ:=by
 intro ps r h
 unfold kXJ at h
 split at h
 ·simp only [Option.some.injEq,Prod.mk.injEq] at h
  obtain ⟨hg,rfl⟩:=h
  exact zZ (zQ Tryz.func166 (by kernel_rfl) (by kernel_rfl)) rfl rfl (fun w=>rMod _ w)
 ·cases h
noncomputable def LTa17:OrL:=(166,kXJ) :: LTa16
theorem LTa17_ok:AllP (fun x:Nat × (List PV→Option (Bool × Ret))=>zW Tryz.prog x.1 x.2) LTa17:=⟨ok_rMod,LTa16_ok⟩
noncomputable def o_iNeg:List PV→Option (Bool × Ret):=fun ps=>match ps with
 | [.a a']=>(ivD a').bind fun a=>some (true,.v (.a (ivC (Iv.neg a))))
 | _=>none
theorem ok_iNeg:zW Tryz.prog 180 o_iNeg:=by
 intro ps r h
 unfold o_iNeg at h
 split at h
 ·simp only [Option.bind_eq_some_iff,Option.some.injEq,Prod.mk.injEq] at h
  obtain ⟨a,ha,hg,rfl⟩:=h
  rw [qZY ha]
  exact zZ (zQ Tryz.func180 (by kernel_rfl) (by kernel_rfl)) rfl rfl (fun w=>iNeg _ _ w)
 ·cases h
noncomputable def LTa18:OrL:=(180,o_iNeg) :: LTa17
theorem LTa18_ok:AllP (fun x:Nat × (List PV→Option (Bool × Ret))=>zW Tryz.prog x.1 x.2) LTa18:=⟨ok_iNeg,LTa17_ok⟩
noncomputable def o_rNeg:List PV→Option (Bool × Ret):=fun ps=>match ps with
 | [.a a']=>(ivD a').bind fun a=>some (true,.v (.a (ivC (Iv.neg a))))
 | _=>none
theorem ok_rNeg:zW Tryz.prog 145 o_rNeg:=by
 intro ps r h
 unfold o_rNeg at h
 split at h
 ·simp only [Option.bind_eq_some_iff,Option.some.injEq,Prod.mk.injEq] at h
  obtain ⟨a,ha,hg,rfl⟩:=h
  rw [qZY ha]
  exact zZ (zQ Tryz.func145 (by kernel_rfl) (by kernel_rfl)) rfl rfl (fun w=>rNeg _ _ w)
 ·cases h
noncomputable def kHG:OrL:=(145,o_rNeg) :: LTa18
theorem jXK:AllP (fun x:Nat × (List PV→Option (Bool × Ret))=>zW Tryz.prog x.1 x.2) kHG:=⟨ok_rNeg,LTa18_ok⟩
end Ta
set_option maxRecDepth 100000 in
theorem aSin (a:Int) (w:World):Calls Tryz.prog 183 [.int .i64 a].toArray w (Rets (iv (sinI a)) (w)) :=
 zX (x:=.a (ivC (sinI a))) (qG (N:=60) (ps:=[.n .i64 a]) yJ yY (OrL.ok (l:=kHG) jXK) ((by kernel_rfl:_=bif (decide ((IntKind.i64.wrap ((a % 65536).tdiv 16384))=0)) then (bif decide (0≤((a % 65536).tmod 16384)∧((a % 65536).tmod 16384)≤16384) then some (.v (.a (ivC (uK ((a % 65536).tmod 16384)))),[])
 else none)
 else bif (decide ((IntKind.i64.wrap ((a % 65536).tdiv 16384))=1)) then (bif decide (0≤(IntKind.i64.wrap (16384 - ((a % 65536).tmod 16384)))∧(IntKind.i64.wrap (16384 - ((a % 65536).tmod 16384)))≤16384) then some (.v (.a (ivC (uK (IntKind.i64.wrap (16384 - ((a % 65536).tmod 16384)))))),[])
 else none)
 else bif (decide ((IntKind.i64.wrap ((a % 65536).tdiv 16384))=2)) then (bif decide (0≤((a % 65536).tmod 16384)∧((a % 65536).tmod 16384)≤16384) then some (.v (.a (ivC (Iv.neg (uK ((a % 65536).tmod 16384))))),[])
 else none)
 else bif decide (0≤(IntKind.i64.wrap (16384 - ((a % 65536).tmod 16384)))∧(IntKind.i64.wrap (16384 - ((a % 65536).tmod 16384)))≤16384) then some (.v (.a (ivC (Iv.neg (uK (IntKind.i64.wrap (16384 - ((a % 65536).tmod 16384))))))),[])
 else none).trans (by
 have ht:(a % 65536).tdiv 16384=a % 65536 / 16384:=tdnn (by omega)
 have hm:(a % 65536).tmod 16384=a % 65536 % 16384:=Int.tmod_eq_emod_of_nonneg (by omega)
 have w1:IntKind.i64.wrap (a % 65536 % 16384)=a % 65536 % 16384:=zY (by omega)
 have w2:IntKind.i64.wrap (a % 65536 / 16384)=a % 65536 / 16384:=zY (by omega)
 have w3:IntKind.i64.wrap (16384 - a % 65536 % 16384)=16384 - a % 65536 % 16384:=zY (by omega)
 simp only [ht,hm,w1,w2,w3,decide_eq_true (show 0≤a % 65536 % 16384∧a % 65536 % 16384≤16384 by omega),decide_eq_true (show 0≤16384 - a % 65536 % 16384∧16384 - a % 65536 % 16384≤16384 by omega),cond_true]
 unfold sinI sinM
 cases decide (a % 65536 / 16384=0) <;> cases decide (a % 65536 / 16384=1) <;> cases decide (a % 65536 / 16384=2) <;> rfl))) rfl rfl w
set_option maxRecDepth 100000 in
theorem rSin (a:Int) (w:World):Calls Tryz.prog 155 [.int .i64 a].toArray w (Rets (iv (sinI a)) (w)) :=
 zX (x:=.a (ivC (sinI a))) (qG (N:=60) (ps:=[.n .i64 a]) yJ yY (OrL.ok (l:=kHG) jXK) ((by kernel_rfl:_=bif (decide ((IntKind.i64.wrap ((a % 65536).tdiv 16384))=0)) then (bif decide (0≤((a % 65536).tmod 16384)∧((a % 65536).tmod 16384)≤16384) then some (.v (.a (ivC (uK ((a % 65536).tmod 16384)))),[])
 else none)
 else bif (decide ((IntKind.i64.wrap ((a % 65536).tdiv 16384))=1)) then (bif decide (0≤(IntKind.i64.wrap (16384 - ((a % 65536).tmod 16384)))∧(IntKind.i64.wrap (16384 - ((a % 65536).tmod 16384)))≤16384) then some (.v (.a (ivC (uK (IntKind.i64.wrap (16384 - ((a % 65536).tmod 16384)))))),[])
 else none)
 else bif (decide ((IntKind.i64.wrap ((a % 65536).tdiv 16384))=2)) then (bif decide (0≤((a % 65536).tmod 16384)∧((a % 65536).tmod 16384)≤16384) then some (.v (.a (ivC (Iv.neg (uK ((a % 65536).tmod 16384))))),[])
 else none)
 else bif decide (0≤(IntKind.i64.wrap (16384 - ((a % 65536).tmod 16384)))∧(IntKind.i64.wrap (16384 - ((a % 65536).tmod 16384)))≤16384) then some (.v (.a (ivC (Iv.neg (uK (IntKind.i64.wrap (16384 - ((a % 65536).tmod 16384))))))),[])
 else none).trans (by
 have ht:(a % 65536).tdiv 16384=a % 65536 / 16384:=tdnn (by omega)
 have hm:(a % 65536).tmod 16384=a % 65536 % 16384:=Int.tmod_eq_emod_of_nonneg (by omega)
 have w1:IntKind.i64.wrap (a % 65536 % 16384)=a % 65536 % 16384:=zY (by omega)
 have w2:IntKind.i64.wrap (a % 65536 / 16384)=a % 65536 / 16384:=zY (by omega)
 have w3:IntKind.i64.wrap (16384 - a % 65536 % 16384)=16384 - a % 65536 % 16384:=zY (by omega)
 simp only [ht,hm,w1,w2,w3,decide_eq_true (show 0≤a % 65536 % 16384∧a % 65536 % 16384≤16384 by omega),decide_eq_true (show 0≤16384 - a % 65536 % 16384∧16384 - a % 65536 % 16384≤16384 by omega),cond_true]
 unfold sinI sinM
 cases decide (a % 65536 / 16384=0) <;> cases decide (a % 65536 / 16384=1) <;> cases decide (a % 65536 / 16384=2) <;> rfl))) rfl rfl w
namespace Ta
noncomputable def kXG:List PV→Option (Bool × Ret):=fun ps=>match ps with
 | [.n .i64 a]=>some (true,.v (.a (ivC (sinI a))))
 | _=>none
theorem ok_aSin:zW Tryz.prog 183 kXG:=by
 intro ps r h
 unfold kXG at h
 split at h
 ·simp only [Option.some.injEq,Prod.mk.injEq] at h
  obtain ⟨hg,rfl⟩:=h
  exact zZ (zQ Tryz.func183 (by kernel_rfl) (by kernel_rfl)) rfl rfl (fun w=>aSin _ w)
 ·cases h
noncomputable def LTa20:OrL:=(183,kXG) :: kHG
theorem LTa20_ok:AllP (fun x:Nat × (List PV→Option (Bool × Ret))=>zW Tryz.prog x.1 x.2) LTa20:=⟨ok_aSin,jXK⟩
noncomputable def kXQ:List PV→Option (Bool × Ret):=fun ps=>match ps with
 | [.n .i64 a]=>some (true,.v (.a (ivC (sinI a))))
 | _=>none
theorem ok_rSin:zW Tryz.prog 155 kXQ:=by
 intro ps r h
 unfold kXQ at h
 split at h
 ·simp only [Option.some.injEq,Prod.mk.injEq] at h
  obtain ⟨hg,rfl⟩:=h
  exact zZ (zQ Tryz.func155 (by kernel_rfl) (by kernel_rfl)) rfl rfl (fun w=>rSin _ w)
 ·cases h
noncomputable def kHV:OrL:=(155,kXQ) :: LTa20
theorem jXJ:AllP (fun x:Nat × (List PV→Option (Bool × Ret))=>zW Tryz.prog x.1 x.2) kHV:=⟨ok_rSin,LTa20_ok⟩
end Ta
set_option maxRecDepth 100000 in
theorem aCos (a:Int) (w:World):Calls Tryz.prog 182 [.int .i64 a].toArray w (Rets (iv (cosI a)) (w)) :=
 zX (x:=.a (ivC (cosI a))) (qG (N:=60) (ps:=[.n .i64 a]) yJ yY (OrL.ok (l:=kHV) jXJ) ((by kernel_rfl:_=some (.v (.a (ivC (sinI (IntKind.i64.wrap ((a % 65536) + 16384))))),[])).trans (by
 rw [zY (show -9223372036854775808≤a % 65536 + 16384∧a % 65536 + 16384≤9223372036854775807 by omega)]
 rfl))) rfl rfl w
set_option maxRecDepth 100000 in
theorem rCos (a:Int) (w:World):Calls Tryz.prog 154 [.int .i64 a].toArray w (Rets (iv (cosI a)) (w)) :=
 zX (x:=.a (ivC (cosI a))) (qG (N:=60) (ps:=[.n .i64 a]) yJ yY (OrL.ok (l:=kHV) jXJ) ((by kernel_rfl:_=some (.v (.a (ivC (sinI (IntKind.i64.wrap ((a % 65536) + 16384))))),[])).trans (by
 rw [zY (show -9223372036854775808≤a % 65536 + 16384∧a % 65536 + 16384≤9223372036854775807 by omega)]
 rfl))) rfl rfl w
namespace Ta
noncomputable def kWY:List PV→Option (Bool × Ret):=fun ps=>match ps with
 | [.n .i64 a]=>some (true,.v (.a (ivC (cosI a))))
 | _=>none
theorem ok_aCos:zW Tryz.prog 182 kWY:=by
 intro ps r h
 unfold kWY at h
 split at h
 ·simp only [Option.some.injEq,Prod.mk.injEq] at h
  obtain ⟨hg,rfl⟩:=h
  exact zZ (zQ Tryz.func182 (by kernel_rfl) (by kernel_rfl)) rfl rfl (fun w=>aCos _ w)
 ·cases h
noncomputable def LTa22:OrL:=(182,kWY) :: kHV
theorem LTa22_ok:AllP (fun x:Nat × (List PV→Option (Bool × Ret))=>zW Tryz.prog x.1 x.2) LTa22:=⟨ok_aCos,jXJ⟩
noncomputable def kXX:List PV→Option (Bool × Ret):=fun ps=>match ps with
 | [.n .i64 a]=>some (true,.v (.a (ivC (cosI a))))
 | _=>none
theorem ok_rCos:zW Tryz.prog 154 kXX:=by
 intro ps r h
 unfold kXX at h
 split at h
 ·simp only [Option.some.injEq,Prod.mk.injEq] at h
  obtain ⟨hg,rfl⟩:=h
  exact zZ (zQ Tryz.func154 (by kernel_rfl) (by kernel_rfl)) rfl rfl (fun w=>rCos _ w)
 ·cases h
noncomputable def LTa23:OrL:=(154,kXX) :: LTa22
theorem LTa23_ok:AllP (fun x:Nat × (List PV→Option (Bool × Ret))=>zW Tryz.prog x.1 x.2) LTa23:=⟨ok_rCos,LTa22_ok⟩
noncomputable def LTa24:OrL:=(136,Tn.o_iValid) :: LTa23
theorem LTa24_ok:AllP (fun x:Nat × (List PV→Option (Bool × Ret))=>zW Tryz.prog x.1 x.2) LTa24:=⟨Tn.ok_iValid,LTa23_ok⟩
noncomputable def kQQ:List PV→Option (Bool × Ret):=fun ps=>match ps with
 | [.a a',.a b']=>(ivD a').bind fun a=>(ivD b').bind fun b=>some (true,.v (.a (ivC (Iv.hull a b))))
 | _=>none
theorem ok_iHull:zW Tryz.prog 185 kQQ:=by
 intro ps r h
 unfold kQQ at h
 split at h
 ·simp only [Option.bind_eq_some_iff,Option.some.injEq,Prod.mk.injEq] at h
  obtain ⟨a,ha,b,hb,hg,rfl⟩:=h
  rw [qZY ha]
  rw [qZY hb]
  exact zZ (zQ Tryz.func185 (by kernel_rfl) (by kernel_rfl)) rfl rfl (fun w=>iHull _ _ _ _ w)
 ·cases h
noncomputable def LTa25:OrL:=(185,kQQ) :: LTa24
theorem LTa25_ok:AllP (fun x:Nat × (List PV→Option (Bool × Ret))=>zW Tryz.prog x.1 x.2) LTa25:=⟨ok_iHull,LTa24_ok⟩
noncomputable def o_iOf:List PV→Option (Bool × Ret):=fun ps=>match ps with
 | [.n .i64 x]=>some (true,.v (.a (ivC (Iv.of x))))
 | _=>none
theorem ok_iOf:zW Tryz.prog 73 o_iOf:=by
 intro ps r h
 unfold o_iOf at h
 split at h
 ·simp only [Option.some.injEq,Prod.mk.injEq] at h
  obtain ⟨hg,rfl⟩:=h
  exact zZ (zQ Tryz.func73 (by kernel_rfl) (by kernel_rfl)) rfl rfl (fun w=>iOf _ w)
 ·cases h
noncomputable def LTa26:OrL:=(73,o_iOf) :: LTa25
theorem LTa26_ok:AllP (fun x:Nat × (List PV→Option (Bool × Ret))=>zW Tryz.prog x.1 x.2) LTa26:=⟨ok_iOf,LTa25_ok⟩
noncomputable def LTa27:OrL:=(114,Tn.o_rValid) :: LTa26
theorem LTa27_ok:AllP (fun x:Nat × (List PV→Option (Bool × Ret))=>zW Tryz.prog x.1 x.2) LTa27:=⟨Tn.ok_rValid,LTa26_ok⟩
noncomputable def jHU:List PV→Option (Bool × Ret):=fun ps=>match ps with
 | [.a a',.a b']=>(ivD a').bind fun a=>(ivD b').bind fun b=>some (true,.v (.a (ivC (Iv.hull a b))))
 | _=>none
theorem ok_rHull:zW Tryz.prog 164 jHU:=by
 intro ps r h
 unfold jHU at h
 split at h
 ·simp only [Option.bind_eq_some_iff,Option.some.injEq,Prod.mk.injEq] at h
  obtain ⟨a,ha,b,hb,hg,rfl⟩:=h
  rw [qZY ha]
  rw [qZY hb]
  exact zZ (zQ Tryz.func164 (by kernel_rfl) (by kernel_rfl)) rfl rfl (fun w=>rHull _ _ _ _ w)
 ·cases h
noncomputable def LTa28:OrL:=(164,jHU) :: LTa27
theorem LTa28_ok:AllP (fun x:Nat × (List PV→Option (Bool × Ret))=>zW Tryz.prog x.1 x.2) LTa28:=⟨ok_rHull,LTa27_ok⟩
noncomputable def o_rOf:List PV→Option (Bool × Ret):=fun ps=>match ps with
 | [.n .i64 x]=>some (true,.v (.a (ivC (Iv.of x))))
 | _=>none
theorem ok_rOf:zW Tryz.prog 84 o_rOf:=by
 intro ps r h
 unfold o_rOf at h
 split at h
 ·simp only [Option.some.injEq,Prod.mk.injEq] at h
  obtain ⟨hg,rfl⟩:=h
  exact zZ (zQ Tryz.func84 (by kernel_rfl) (by kernel_rfl)) rfl rfl (fun w=>rOf _ w)
 ·cases h
noncomputable def LTa29:OrL:=(84,o_rOf) :: LTa28
theorem LTa29_ok:AllP (fun x:Nat × (List PV→Option (Bool × Ret))=>zW Tryz.prog x.1 x.2) LTa29:=⟨ok_rOf,LTa28_ok⟩
noncomputable def jJJ:List PV→Option (Bool × Ret):=fun ps=>match ps with
 | [.a a']=>(ivD a').bind fun a=>some (true,.v (.n .i64 (Iv.width a)))
 | _=>none
theorem ok_iWidth:zW Tryz.prog 184 jJJ:=by
 intro ps r h
 unfold jJJ at h
 split at h
 ·simp only [Option.bind_eq_some_iff,Option.some.injEq,Prod.mk.injEq] at h
  obtain ⟨a,ha,hg,rfl⟩:=h
  rw [qZY ha]
  exact zZ (zQ Tryz.func184 (by kernel_rfl) (by kernel_rfl)) rfl rfl (fun w=>iWidth _ _ w)
 ·cases h
noncomputable def LTa30:OrL:=(184,jJJ) :: LTa29
theorem LTa30_ok:AllP (fun x:Nat × (List PV→Option (Bool × Ret))=>zW Tryz.prog x.1 x.2) LTa30:=⟨ok_iWidth,LTa29_ok⟩
noncomputable def jJU:List PV→Option (Bool × Ret):=fun ps=>match ps with
 | [.a a',.n .i64 c]=>(ivD a').bind fun a=>some (decide (0≤c∧c < 65536) && Iv.valid a,.v (.b (uH a c)))
 | _=>none
theorem ok_aMeets:zW Tryz.prog 186 jJU:=by
 intro ps r h
 unfold jJU at h
 split at h
 ·simp only [Option.bind_eq_some_iff,Option.some.injEq,Prod.mk.injEq] at h
  obtain ⟨a,ha,hg,rfl⟩:=h
  rw [qZY ha]
  try simp only [Bool.and_eq_true,decide_eq_true_eq] at hg
  exact zZ (zQ Tryz.func186 (by kernel_rfl) (by kernel_rfl)) rfl rfl (fun w=>aMeets _ _ _ hg.2 hg.1 w)
 ·cases h
noncomputable def LTa31:OrL:=(186,jJU) :: LTa30
theorem LTa31_ok:AllP (fun x:Nat × (List PV→Option (Bool × Ret))=>zW Tryz.prog x.1 x.2) LTa31:=⟨ok_aMeets,LTa30_ok⟩
noncomputable def jYV:List PV→Option (Bool × Ret):=fun ps=>match ps with
 | [.a a',.n .i64 c]=>(ivD a').bind fun a=>some (decide (0≤c∧c < 65536) && Iv.valid a,.v (.b (uH a c)))
 | _=>none
theorem ok_rMeets:zW Tryz.prog 165 jYV:=by
 intro ps r h
 unfold jYV at h
 split at h
 ·simp only [Option.bind_eq_some_iff,Option.some.injEq,Prod.mk.injEq] at h
  obtain ⟨a,ha,hg,rfl⟩:=h
  rw [qZY ha]
  try simp only [Bool.and_eq_true,decide_eq_true_eq] at hg
  exact zZ (zQ Tryz.func165 (by kernel_rfl) (by kernel_rfl)) rfl rfl (fun w=>rMeets _ _ _ hg.2 hg.1 w)
 ·cases h
noncomputable def kVG:OrL:=(165,jYV) :: LTa31
theorem yXV:AllP (fun x:Nat × (List PV→Option (Bool × Ret))=>zW Tryz.prog x.1 x.2) kVG:=⟨ok_rMeets,LTa31_ok⟩
end Ta
set_option maxRecDepth 100000 in
theorem aSinOver (a0 a1:Int) (w:World):Calls Tryz.prog 179 [.agg #[.int .i64 a0,.int .i64 a1]].toArray w (Rets (iv (uX (⟨a0,a1⟩:Iv))) (w)) :=
 zX (x:=.a (ivC (uX ⟨a0,a1⟩))) (qG (N:=60) (ps:=[.a [.n .i64 a0,.n .i64 a1]]) yJ yY (OrL.ok (l:=kVG) yXV) ((by kernel_rfl:_=bif Iv.valid (Iv.mk a0 a1) then (bif (decide (65536≤Iv.width (Iv.mk a0 a1))) then some (.v (.a [.n .i64 (-65536),.n .i64 65536]),[])
 else bif Iv.valid (Iv.mk a0 a1) then (bif uH (Iv.mk a0 a1) 16384 then (bif Iv.valid (Iv.mk a0 a1) then (bif uH (Iv.mk a0 a1) 49152 then some (.v (.a (ivC (Iv.hull (Iv.hull (Iv.hull (sinI a0) (sinI a1)) (Iv.of 65536)) (Iv.of (-65536))))),[])
 else some (.v (.a (ivC (Iv.hull (Iv.hull (sinI a0) (sinI a1)) (Iv.of 65536)))),[]))
 else none)
 else bif Iv.valid (Iv.mk a0 a1) then (bif uH (Iv.mk a0 a1) 49152 then some (.v (.a (ivC (Iv.hull (Iv.hull (sinI a0) (sinI a1)) (Iv.of (-65536))))),[])
 else some (.v (.a (ivC (Iv.hull (sinI a0) (sinI a1)))),[]))
 else none)
 else none)
 else some (.v (.a [.n .i64 0,.n .i64 0]),[])).trans (by
 have e:uX ⟨a0,a1⟩=bif !Iv.valid (Iv.mk a0 a1) then ⟨0,0⟩ else bif decide (65536≤a1 - a0) then ⟨-65536,65536⟩ else bif uH (Iv.mk a0 a1) 49152 then Iv.hull (bif uH (Iv.mk a0 a1) 16384 then Iv.hull (Iv.hull (sinI a0) (sinI a1)) (Iv.of 65536) else Iv.hull (sinI a0) (sinI a1)) (Iv.of (-65536)) else (bif uH (Iv.mk a0 a1) 16384 then Iv.hull (Iv.hull (sinI a0) (sinI a1)) (Iv.of 65536) else Iv.hull (sinI a0) (sinI a1)):=rfl
 rw [e]
 cases hv:Iv.valid (Iv.mk a0 a1) with
 | false=>rfl
 | true =>
  have hb:=qQH hv
  have hw:Iv.width (Iv.mk a0 a1)=a1 - a0:=by unfold Iv.width; rw [hv]; rfl
  rw [hw]
  cases decide (65536≤a1 - a0) <;> cases uH (Iv.mk a0 a1) 16384 <;> cases uH (Iv.mk a0 a1) 49152 <;> rfl))) rfl rfl w
set_option maxRecDepth 100000 in
theorem aCosOver (a0 a1:Int) (w:World):Calls Tryz.prog 178 [.agg #[.int .i64 a0,.int .i64 a1]].toArray w (Rets (iv (uV (⟨a0,a1⟩:Iv))) (w)) :=
 zX (x:=.a (ivC (uV ⟨a0,a1⟩))) (qG (N:=60) (ps:=[.a [.n .i64 a0,.n .i64 a1]]) yJ yY (OrL.ok (l:=kVG) yXV) ((by kernel_rfl:_=bif Iv.valid (Iv.mk a0 a1) then (bif (decide (65536≤Iv.width (Iv.mk a0 a1))) then some (.v (.a [.n .i64 (-65536),.n .i64 65536]),[])
 else bif Iv.valid (Iv.mk a0 a1) then (bif uH (Iv.mk a0 a1) 0 then (bif Iv.valid (Iv.mk a0 a1) then (bif uH (Iv.mk a0 a1) 32768 then some (.v (.a (ivC (Iv.hull (Iv.hull (Iv.hull (cosI a0) (cosI a1)) (Iv.of 65536)) (Iv.of (-65536))))),[])
 else some (.v (.a (ivC (Iv.hull (Iv.hull (cosI a0) (cosI a1)) (Iv.of 65536)))),[]))
 else none)
 else bif Iv.valid (Iv.mk a0 a1) then (bif uH (Iv.mk a0 a1) 32768 then some (.v (.a (ivC (Iv.hull (Iv.hull (cosI a0) (cosI a1)) (Iv.of (-65536))))),[])
 else some (.v (.a (ivC (Iv.hull (cosI a0) (cosI a1)))),[]))
 else none)
 else none)
 else some (.v (.a [.n .i64 0,.n .i64 0]),[])).trans (by
 have e:uV ⟨a0,a1⟩=bif !Iv.valid (Iv.mk a0 a1) then ⟨0,0⟩ else bif decide (65536≤a1 - a0) then ⟨-65536,65536⟩ else bif uH (Iv.mk a0 a1) 32768 then Iv.hull (bif uH (Iv.mk a0 a1) 0 then Iv.hull (Iv.hull (cosI a0) (cosI a1)) (Iv.of 65536) else Iv.hull (cosI a0) (cosI a1)) (Iv.of (-65536)) else (bif uH (Iv.mk a0 a1) 0 then Iv.hull (Iv.hull (cosI a0) (cosI a1)) (Iv.of 65536) else Iv.hull (cosI a0) (cosI a1)):=rfl
 rw [e]
 cases hv:Iv.valid (Iv.mk a0 a1) with
 | false=>rfl
 | true =>
  have hb:=qQH hv
  have hw:Iv.width (Iv.mk a0 a1)=a1 - a0:=by unfold Iv.width; rw [hv]; rfl
  rw [hw]
  cases decide (65536≤a1 - a0) <;> cases uH (Iv.mk a0 a1) 0 <;> cases uH (Iv.mk a0 a1) 32768 <;> rfl))) rfl rfl w
set_option maxRecDepth 100000 in
theorem rSinOver (a0 a1:Int) (w:World):Calls Tryz.prog 144 [.agg #[.int .i64 a0,.int .i64 a1]].toArray w (Rets (iv (uX (⟨a0,a1⟩:Iv))) (w)) :=
 zX (x:=.a (ivC (uX ⟨a0,a1⟩))) (qG (N:=60) (ps:=[.a [.n .i64 a0,.n .i64 a1]]) yJ yY (OrL.ok (l:=kVG) yXV) ((by kernel_rfl:_=bif Iv.valid (Iv.mk a0 a1) then (bif (decide (65536≤(IntKind.i64.wrap (a1 - a0)))) then some (.v (.a [.n .i64 (-65536),.n .i64 65536]),[])
 else bif Iv.valid (Iv.mk a0 a1) then (bif uH (Iv.mk a0 a1) 16384 then (bif Iv.valid (Iv.mk a0 a1) then (bif uH (Iv.mk a0 a1) 49152 then some (.v (.a (ivC (Iv.hull (Iv.hull (Iv.hull (sinI a0) (sinI a1)) (Iv.of 65536)) (Iv.of (-65536))))),[])
 else some (.v (.a (ivC (Iv.hull (Iv.hull (sinI a0) (sinI a1)) (Iv.of 65536)))),[]))
 else none)
 else bif Iv.valid (Iv.mk a0 a1) then (bif uH (Iv.mk a0 a1) 49152 then some (.v (.a (ivC (Iv.hull (Iv.hull (sinI a0) (sinI a1)) (Iv.of (-65536))))),[])
 else some (.v (.a (ivC (Iv.hull (sinI a0) (sinI a1)))),[]))
 else none)
 else none)
 else some (.v (.a [.n .i64 0,.n .i64 0]),[])).trans (by
 have e:uX ⟨a0,a1⟩=bif !Iv.valid (Iv.mk a0 a1) then ⟨0,0⟩ else bif decide (65536≤a1 - a0) then ⟨-65536,65536⟩ else bif uH (Iv.mk a0 a1) 49152 then Iv.hull (bif uH (Iv.mk a0 a1) 16384 then Iv.hull (Iv.hull (sinI a0) (sinI a1)) (Iv.of 65536) else Iv.hull (sinI a0) (sinI a1)) (Iv.of (-65536)) else (bif uH (Iv.mk a0 a1) 16384 then Iv.hull (Iv.hull (sinI a0) (sinI a1)) (Iv.of 65536) else Iv.hull (sinI a0) (sinI a1)):=rfl
 rw [e]
 cases hv:Iv.valid (Iv.mk a0 a1) with
 | false=>rfl
 | true =>
  have hb:=qQH hv
  have hw:IntKind.i64.wrap (a1 - a0)=a1 - a0:=zY (by omega)
  rw [hw]
  cases decide (65536≤a1 - a0) <;> cases uH (Iv.mk a0 a1) 16384 <;> cases uH (Iv.mk a0 a1) 49152 <;> rfl))) rfl rfl w
set_option maxRecDepth 100000 in
theorem rCosOver (a0 a1:Int) (w:World):Calls Tryz.prog 143 [.agg #[.int .i64 a0,.int .i64 a1]].toArray w (Rets (iv (uV (⟨a0,a1⟩:Iv))) (w)) :=
 zX (x:=.a (ivC (uV ⟨a0,a1⟩))) (qG (N:=60) (ps:=[.a [.n .i64 a0,.n .i64 a1]]) yJ yY (OrL.ok (l:=kVG) yXV) ((by kernel_rfl:_=bif Iv.valid (Iv.mk a0 a1) then (bif (decide (65536≤(IntKind.i64.wrap (a1 - a0)))) then some (.v (.a [.n .i64 (-65536),.n .i64 65536]),[])
 else bif Iv.valid (Iv.mk a0 a1) then (bif uH (Iv.mk a0 a1) 0 then (bif Iv.valid (Iv.mk a0 a1) then (bif uH (Iv.mk a0 a1) 32768 then some (.v (.a (ivC (Iv.hull (Iv.hull (Iv.hull (cosI a0) (cosI a1)) (Iv.of 65536)) (Iv.of (-65536))))),[])
 else some (.v (.a (ivC (Iv.hull (Iv.hull (cosI a0) (cosI a1)) (Iv.of 65536)))),[]))
 else none)
 else bif Iv.valid (Iv.mk a0 a1) then (bif uH (Iv.mk a0 a1) 32768 then some (.v (.a (ivC (Iv.hull (Iv.hull (cosI a0) (cosI a1)) (Iv.of (-65536))))),[])
 else some (.v (.a (ivC (Iv.hull (cosI a0) (cosI a1)))),[]))
 else none)
 else none)
 else some (.v (.a [.n .i64 0,.n .i64 0]),[])).trans (by
 have e:uV ⟨a0,a1⟩=bif !Iv.valid (Iv.mk a0 a1) then ⟨0,0⟩ else bif decide (65536≤a1 - a0) then ⟨-65536,65536⟩ else bif uH (Iv.mk a0 a1) 32768 then Iv.hull (bif uH (Iv.mk a0 a1) 0 then Iv.hull (Iv.hull (cosI a0) (cosI a1)) (Iv.of 65536) else Iv.hull (cosI a0) (cosI a1)) (Iv.of (-65536)) else (bif uH (Iv.mk a0 a1) 0 then Iv.hull (Iv.hull (cosI a0) (cosI a1)) (Iv.of 65536) else Iv.hull (cosI a0) (cosI a1)):=rfl
 rw [e]
 cases hv:Iv.valid (Iv.mk a0 a1) with
 | false=>rfl
 | true =>
  have hb:=qQH hv
  have hw:IntKind.i64.wrap (a1 - a0)=a1 - a0:=zY (by omega)
  rw [hw]
  cases decide (65536≤a1 - a0) <;> cases uH (Iv.mk a0 a1) 0 <;> cases uH (Iv.mk a0 a1) 32768 <;> rfl))) rfl rfl w
end Go.Proofs.YthkhihoplfpgmaaGreat
namespace Go.Sx
structure J where
 name:ByteArray
 kind:Int
 parent:Int
 off:Z3
 lo:Int
 hi:Int
 weight:Int
 speed:Int
 accel:Int
 torque:Int
def jc (j:J):List Value:=[.string j.name,.int .i64 j.kind,.int .i64 j.parent,.int .i64 j.off.x,.int .i64 j.off.y,.int .i64 j.off.z,.int .i64 j.lo,.int .i64 j.hi,.int .i64 j.weight,.int .i64 j.speed,.int .i64 j.accel,.int .i64 j.torque]
def jv (j:J):Value:=.agg #[.string j.name,.int .i64 j.kind,.int .i64 j.parent,.int .i64 j.off.x,.int .i64 j.off.y,.int .i64 j.off.z,.int .i64 j.lo,.int .i64 j.hi,.int .i64 j.weight,.int .i64 j.speed,.int .i64 j.accel,.int .i64 j.torque]
def abc:ByteArray:=⟨#[97,98,99,100,101,102,103,104,105,106]⟩
def zGV (k:Int):ByteArray:=abc.extract k.toNat (k + 1).toNat
def qQQ (k:Int):Int:=if k=0 then 3 else if k=1 then 3 else if k=2 then 1 else if k=3 then 2 else if k=4 then 4 else if k=5 then 5 else if k=6 then 3 else 0
def yQY (L:List Int) (p:Nat) (k:Int):J:=⟨zGV k,qQQ (srcR L (p + 2) 8),if srcR L (p + 3) 4=1 then -1 else k - 1,if 0 < k then ⟨131072,srcS L (p + 4) 2 * 32768,srcS L (p + 5) 1 * 32768⟩ else ⟨0,0,0⟩,0,0,1 + srcR L p 4,65536,65536 + srcR L (p + 1) 3,327680⟩
def jQ (p:Nat) (k:Int):Nat:=if 0 < k then p + 6 else p + 4
def qHH (L:List Int) (p:Nat) (k:Int):J × Nat :=
 if qQQ (srcR L (p + 2) 8)=0 then (yQY L p k,jQ p k)
 else if qQQ (srcR L (p + 2) 8)=4 ∨ qQQ (srcR L (p + 2) 8)=5 then ({ yQY L p k with lo:=-srcR L (jQ p k) 3 * 65536,hi:=srcR L (jQ p k + 1) 4 * 32768 },jQ p k + 2)
 else ({ yQY L p k with lo:=(-srcR L (jQ p k) 5 * 65536).tdiv 8,hi:=((1 + srcR L (jQ p k + 1) 4) * 65536).tdiv 8 + srcR L (jQ p k + 2) 3 },jQ p k + 3)
theorem qZG {p:Nat} {k:Int} (h:0 < k):jQ p k=p + 6:=if_pos h
theorem qZH {p:Nat} {k:Int} (h:¬ 0 < k):jQ p k=p + 4:=if_neg h
theorem zZU {L:List Int} {p:Nat} {k:Int} (h:qQQ (srcR L (p + 2) 8)=0):qHH L p k=(yQY L p k,jQ p k):=if_pos h
theorem qUX {L:List Int} {p:Nat} {k:Int} (h:qQQ (srcR L (p + 2) 8)=4 ∨ qQQ (srcR L (p + 2) 8)=5):qHH L p k=({ yQY L p k with lo:=-srcR L (jQ p k) 3 * 65536,hi:=srcR L (jQ p k + 1) 4 * 32768 },jQ p k + 2):=by
 unfold qHH
 rw [if_neg (by omega),if_pos h]
theorem zJJ {L:List Int} {p:Nat} {k:Int} (h0:¬ qQQ (srcR L (p + 2) 8)=0) (h:¬ (qQQ (srcR L (p + 2) 8)=4 ∨ qQQ (srcR L (p + 2) 8)=5)):qHH L p k=({ yQY L p k with lo:=(-srcR L (jQ p k) 5 * 65536).tdiv 8,hi:=((1 + srcR L (jQ p k + 1) 4) * 65536).tdiv 8 + srcR L (jQ p k + 2) 3 },jQ p k + 3):=by
 unfold qHH
 rw [if_neg h0,if_neg h]
theorem qXX {L:List Int} {p:Nat} {k:Int} (hp:srcR L (p + 3) 4=1) (h:0 < k):yQY L p k=⟨zGV k,qQQ (srcR L (p + 2) 8),-1,⟨131072,srcS L (p + 4) 2 * 32768,srcS L (p + 5) 1 * 32768⟩,0,0,1 + srcR L p 4,65536,65536 + srcR L (p + 1) 3,327680⟩:=by unfold yQY; rw [if_pos hp,if_pos h]
theorem qXU {L:List Int} {p:Nat} {k:Int} (hp:srcR L (p + 3) 4=1) (h:¬ 0 < k):yQY L p k=⟨zGV k,qQQ (srcR L (p + 2) 8),-1,⟨0,0,0⟩,0,0,1 + srcR L p 4,65536,65536 + srcR L (p + 1) 3,327680⟩:=by unfold yQY; rw [if_pos hp,if_neg h]
theorem qXK {L:List Int} {p:Nat} {k:Int} (hp:¬ srcR L (p + 3) 4=1) (h:0 < k):yQY L p k=⟨zGV k,qQQ (srcR L (p + 2) 8),k - 1,⟨131072,srcS L (p + 4) 2 * 32768,srcS L (p + 5) 1 * 32768⟩,0,0,1 + srcR L p 4,65536,65536 + srcR L (p + 1) 3,327680⟩:=by unfold yQY; rw [if_neg hp,if_pos h]
theorem qXJ {L:List Int} {p:Nat} {k:Int} (hp:¬ srcR L (p + 3) 4=1) (h:¬ 0 < k):yQY L p k=⟨zGV k,qQQ (srcR L (p + 2) 8),k - 1,⟨0,0,0⟩,0,0,1 + srcR L p 4,65536,65536 + srcR L (p + 1) 3,327680⟩:=by unfold yQY; rw [if_neg hp,if_neg h]
def nJ (L:List Int) (i:Nat):Nat:=(1 + srcR L i 3).toNat
theorem nJ_b (L:List Int) (i:Nat):1≤nJ L i∧nJ L i≤3∧((nJ L i:Nat):Int)=1 + srcR L i 3:=by
 have:=zQJ L i (k:=3) (by decide)
 unfold nJ
 omega
def jsOf (L:List Int) (i:Nat):Nat→List J × Nat
 | 0=>([],i + 1)
 | k + 1=>((jsOf L i k).1 ++ [(qHH L (jsOf L i k).2 (k:Int)).1],(qHH L (jsOf L i k).2 (k:Int)).2)
def jsC (L:List Int) (i k:Nat):List Value:=((jsOf L i k).1.map jc).flatten
theorem jsC_succ (L:List Int) (i k:Nat):jsC L i (k + 1)=jsC L i k ++ jc (qHH L (jsOf L i k).2 (k:Int)).1:=by simp [jsC,jsOf]
theorem zQX (L:List Int) (i:Nat):∀ k,(jsOf L i k).1.length=k
 | 0=>rfl
 | k + 1=>by simp [jsOf,zQX L i k]
theorem rows12 (l:List J):∀ r ∈ l.map jc,r.length=12:=fun r hr=>by
 obtain ⟨v,_,rfl⟩:=List.mem_map.1 hr
 rfl
theorem js_slc {L:List Int} {i k cap:Nat} {a:Option Addr} {e:TypeId} {w:World} (h:OwnF 0 e 12 a cap k (jsC L i k) w):qJQ 12 a ((jsOf L i k).1.map jc) w:=by
 refine yYU (m:=0) (e:=e) (cap:=cap) (rows12 _) ?_
 rw [List.length_map,zQX]
 exact h
structure Ms where
 link:Int
 mass:Int
 p:Z3
def mc (m:Ms):List Value:=[.int .i64 m.link,.int .i64 m.mass,.int .i64 m.p.x,.int .i64 m.p.y,.int .i64 m.p.z]
def mQ (L:List Int) (i:Nat):Nat:=(jsOf L i (nJ L i)).2
def nM (L:List Int) (i:Nat):Nat:=(srcR L (mQ L i) 3).toNat
theorem nM_b (L:List Int) (i:Nat):nM L i≤2∧((nM L i:Nat):Int)=srcR L (mQ L i) 3:=by
 have:=zQJ L (mQ L i) (k:=3) (by decide)
 unfold nM
 omega
def msOf (L:List Int) (i:Nat):Nat→List Ms
 | 0=>[]
 | k + 1=>msOf L i k ++ [⟨srcR L (mQ L i + 1 + 4 * k) (nJ L i),1 + srcR L (mQ L i + 1 + 4 * k + 1) 9000,⟨srcS L (mQ L i + 1 + 4 * k + 2) 3 * 32768,0,srcS L (mQ L i + 1 + 4 * k + 3) 2 * 32768⟩⟩]
def msC (L:List Int) (i k:Nat):List Value:=((msOf L i k).map mc).flatten
theorem msC_succ (L:List Int) (i k:Nat):msC L i (k + 1)=msC L i k ++ mc ⟨srcR L (mQ L i + 1 + 4 * k) (nJ L i),1 + srcR L (mQ L i + 1 + 4 * k + 1) 9000,⟨srcS L (mQ L i + 1 + 4 * k + 2) 3 * 32768,0,srcS L (mQ L i + 1 + 4 * k + 3) 2 * 32768⟩⟩:=by simp [msC,msOf]
theorem zVQ (L:List Int) (i:Nat):∀ k,(msOf L i k).length=k
 | 0=>rfl
 | k + 1=>by simp [msOf,zVQ L i k]
theorem rows5 (l:List Ms):∀ r ∈ l.map mc,r.length=5:=fun r hr=>by
 obtain ⟨v,_,rfl⟩:=List.mem_map.1 hr
 rfl
theorem ms_slc {L:List Int} {i k cap:Nat} {a:Option Addr} {e:TypeId} {w:World} (h:OwnF 0 e 5 a cap k (msC L i k) w):qJQ 5 a ((msOf L i k).map mc) w:=by
 refine yYU (m:=0) (e:=e) (cap:=cap) (rows5 _) ?_
 rw [List.length_map,zVQ]
 exact h
def robQ (L:List Int) (i:Nat):Nat:=mQ L i + 1 + 4 * nM L i
structure Sp where
 link:Int
 radius:Int
 pts:List Z3
end Go.Sx
namespace Go.Sx
open Go.RowKit
structure Cn where
 kind:Int
 link:Int
 p:Z3
 n:Z3
 lo:Int
 hi:Int
def cnc (c:Cn):List Value:=[.int .i64 c.kind,.int .i64 c.link,.int .i64 c.p.x,.int .i64 c.p.y,.int .i64 c.p.z,.int .i64 c.n.x,.int .i64 c.n.y,.int .i64 c.n.z,.int .i64 c.lo,.int .i64 c.hi]
def cnOf (nf:Int→Int→Int→Z3) (L:List Int) (q:Nat) (m:Int):Cn × Nat :=
 (⟨srcR L q 2,if srcR L (q + 10) 24=1 then srcR L (q + 11) 9 - 3 else srcR L (q + 1) m,⟨(srcS L (q + 2) 4 * 65536).tdiv 2,srcS L (q + 3) 2 * 65536,(srcS L (q + 4) 2 * 65536).tdiv 2⟩,
  nf (srcR L (q + 5) 4096) (srcR L (q + 6) 4096) (srcR L (q + 7) 4096),srcS L (q + 8) 60 * 65536,srcS L (q + 8) 60 * 65536 + srcR L (q + 9) 90 * 65536⟩,if srcR L (q + 10) 24=1 then q + 12 else q + 11)
def yZZ (nf:Int→Int→Int→Z3) (L:List Int) (m:Int):Nat→List Cn × Nat
 | 0=>([],0)
 | k + 1=>((yZZ nf L m k).1 ++ [(cnOf nf L (yZZ nf L m k).2 m).1],(cnOf nf L (yZZ nf L m k).2 m).2)
theorem yZQ (nf:Int→Int→Int→Z3) (L:List Int) (m:Int):∀ k,(yZZ nf L m k).1.length=k
 | 0=>rfl
 | k + 1=>by simp [yZZ,yZQ nf L m k]
def cnC (l:List Cn):List Value:=(l.map cnc).flatten
theorem cnC_snoc (l:List Cn) (x:Cn):cnC (l ++ [x])=cnC l ++ cnc x:=by simp [cnC]
section
variable {nf:Int→Int→Int→Z3} {L:List Int} {m:Int} {k q:Nat} {l:List Cn} {a0 a1 a2 a3 a4 a5 a6 a7 a8 a9 b0 b1:Int} {z:Z3}
theorem cns_t (h:yZZ nf L m k=(l,q)) (h0:a0=srcR L q 2) (h2:a2=srcS L (q + 2) 4) (h3:a3=srcS L (q + 3) 2) (h4:a4=srcS L (q + 4) 2) (h5:a5=srcR L (q + 5) 4096) (h6:a6=srcR L (q + 6) 4096) (h7:a7=srcR L (q + 7) 4096)
  (hz:z=nf a5 a6 a7) (h8:a8=srcS L (q + 8) 60) (h9:a9=srcR L (q + 9) 90) (hb:b0=srcR L (q + 10) 24) (h1:b0=1) (hc:b1=srcR L (q + 11) 9) :
  yZZ nf L m (k + 1)=(l ++ [⟨a0,b1 - 3,⟨(a2 * 65536).tdiv 2,a3 * 65536,(a4 * 65536).tdiv 2⟩,z,a8 * 65536,a8 * 65536 + a9 * 65536⟩],q + 12):=by
 subst h0 h2 h3 h4 h5 h6 h7 hz h8 h9 hc
 simp only [yZZ,h,cnOf,← hb,h1,if_true]
theorem cns_f (h:yZZ nf L m k=(l,q)) (h0:a0=srcR L q 2) (ha:a1=srcR L (q + 1) m) (h2:a2=srcS L (q + 2) 4) (h3:a3=srcS L (q + 3) 2) (h4:a4=srcS L (q + 4) 2) (h5:a5=srcR L (q + 5) 4096) (h6:a6=srcR L (q + 6) 4096) (h7:a7=srcR L (q + 7) 4096)
  (hz:z=nf a5 a6 a7) (h8:a8=srcS L (q + 8) 60) (h9:a9=srcR L (q + 9) 90) (hb:b0=srcR L (q + 10) 24) (h1:¬ b0=1) :
  yZZ nf L m (k + 1)=(l ++ [⟨a0,a1,⟨(a2 * 65536).tdiv 2,a3 * 65536,(a4 * 65536).tdiv 2⟩,z,a8 * 65536,a8 * 65536 + a9 * 65536⟩],q + 11):=by
 subst h0 ha h2 h3 h4 h5 h6 h7 hz h8 h9
 simp only [yZZ,h,cnOf,← hb,h1,if_false]
end
end Go.Sx
namespace Go.Proofs.YthkhihoplfpgmaaGreat
open Go.Rx Rt Go.Sx Go.RowKit
def andI (k:IntKind) (x y:Int):Int:=k.wrap ((BitVec.ofInt k.bits x &&& BitVec.ofInt k.bits y).toNat)
theorem qZJ {β γ:Type} {F:β→γ} {c:Bool} {a b:γ} {f g:β} (h1:a=F f) (h2:b=F g):(bif c then a else b)=F (bif c then f else g):=by cases c <;> assumption
noncomputable def zKU:List PV→Option (Bool × Ret):=fun ps=>match ps with
 | [.n .i64 n,.n .i64 k]=>some (decide (0 < k∧k≤9223372036854775807),.v (.n .i64 (n % k)))
 | _=>none
theorem yVW:zW Tryz.prog 13 zKU:=by
 intro ps r h
 unfold zKU at h
 split at h
 ·simp only [Option.some.injEq,Prod.mk.injEq] at h
  obtain ⟨hg,rfl⟩:=h
  exact zZ (zQ Tryz.func13 (by kernel_rfl) (by kernel_rfl)) rfl rfl (fun w=>kYY _ _ (of_decide_eq_true hg) w)
 ·cases h
noncomputable def L1:OrL:=(13,zKU) :: ([]:OrL)
theorem uQQ:AllP (fun x:Nat × (List PV→Option (Bool × Ret))=>zW Tryz.prog x.1 x.2) L1:=⟨yVW,trivial⟩
set_option maxRecDepth 100000 in
theorem tr_rUsable (x:Int) (y:Int) (z:Int):runK T (OrL.k L1) 60 58 [.a [.n .i64 x,.n .i64 y,.n .i64 z]] =
 bif (!((decide (x=0)) && ((decide (y=0)) && ((decide (z=0)) && true)))) then (bif (decide (x < (-16384))) then some (.v (.b false),[])
  else bif (decide (16384 < x)) then some (.v (.b false),[])
  else bif (decide (y < (-16384))) then some (.v (.b false),[])
  else bif (decide (16384 < y)) then some (.v (.b false),[])
  else bif (decide (z < (-16384))) then some (.v (.b false),[])
  else bif (decide (16384 < z)) then some (.v (.b false),[])
  else some (.v (.b true),[]))
 else some (.v (.b false),[]):=by kernel_rfl
noncomputable def rUse (x y z:Int):Bool:=(bif (!((decide (x=0)) && ((decide (y=0)) && ((decide (z=0)) && true)))) then (bif (decide (x < (-16384))) then false else (bif (decide (16384 < x)) then false else (bif (decide (y < (-16384))) then false else (bif (decide (16384 < y)) then false else (bif (decide (z < (-16384))) then false else (bif (decide (16384 < z)) then false else true)))))) else false)
def qHW:Bool→Option (Ret × Mem):=fun v=>some (.v (.b v),[])
theorem sp_rUsable (x y z:Int):runK T (OrL.k L1) 60 58 [.a [.n .i64 x,.n .i64 y,.n .i64 z]]=some (.v (.b (rUse x y z)),[]):=by
 rw [tr_rUsable]
 exact ((qZJ (F:=qHW) (qZJ (F:=qHW) rfl (qZJ (F:=qHW) rfl (qZJ (F:=qHW) rfl (qZJ (F:=qHW) rfl (qZJ (F:=qHW) rfl (qZJ (F:=qHW) rfl rfl)))))) rfl):_=qHW (rUse x y z))
noncomputable def yVH:List PV→Option (Bool × Ret):=fun ps=>match ps with
 | [.a z']=>(z3D z').bind fun z=>some (true,.v (.b (rUse z.x z.y z.z)))
 | _=>none
theorem ok_rUsable:zW Tryz.prog 58 yVH:=by
 intro ps r h
 unfold yVH at h
 split at h
 ·simp only [Option.bind_eq_some_iff,Option.some.injEq,Prod.mk.injEq] at h
  obtain ⟨z,hz,hg,rfl⟩:=h
  rw [yXG hz]
  exact qG yJ yY (OrL.ok uQQ) (sp_rUsable _ _ _)
 ·cases h
noncomputable def L2:OrL:=(58,yVH) :: L1
theorem kGQ:AllP (fun x:Nat × (List PV→Option (Bool × Ret))=>zW Tryz.prog x.1 x.2) L2:=⟨ok_rUsable,uQQ⟩
set_option maxRecDepth 100000 in
theorem tr_mNormal (a:Int) (b:Int) (c:Int):runK T (OrL.k L2) 60 32 [.n .i64 a,.n .i64 b,.n .i64 c] =
 bif (decide ((andI .i64 a 8)=8)) then (bif rUse (Z3.mk (IntKind.i64.wrap (a % 32769 - 16384)) (IntKind.i64.wrap (b % 32769 - 16384)) (IntKind.i64.wrap (c % 32769 - 16384))).x (Z3.mk (IntKind.i64.wrap (a % 32769 - 16384)) (IntKind.i64.wrap (b % 32769 - 16384)) (IntKind.i64.wrap (c % 32769 - 16384))).y (Z3.mk (IntKind.i64.wrap (a % 32769 - 16384)) (IntKind.i64.wrap (b % 32769 - 16384)) (IntKind.i64.wrap (c % 32769 - 16384))).z then some (.v (.a [.n .i64 (IntKind.i64.wrap (a % 32769 - 16384)),.n .i64 (IntKind.i64.wrap (b % 32769 - 16384)),.n .i64 (IntKind.i64.wrap (c % 32769 - 16384))]),[])
  else some (.v (.a [.n .i64 1,.n .i64 0,.n .i64 0]),[]))
 else bif rUse (Z3.mk (IntKind.i64.wrap (a % 41 - 20)) (IntKind.i64.wrap (b % 41 - 20)) (IntKind.i64.wrap (c % 41 - 20))).x (Z3.mk (IntKind.i64.wrap (a % 41 - 20)) (IntKind.i64.wrap (b % 41 - 20)) (IntKind.i64.wrap (c % 41 - 20))).y (Z3.mk (IntKind.i64.wrap (a % 41 - 20)) (IntKind.i64.wrap (b % 41 - 20)) (IntKind.i64.wrap (c % 41 - 20))).z then some (.v (.a [.n .i64 (IntKind.i64.wrap (a % 41 - 20)),.n .i64 (IntKind.i64.wrap (b % 41 - 20)),.n .i64 (IntKind.i64.wrap (c % 41 - 20))]),[])
 else some (.v (.a [.n .i64 1,.n .i64 0,.n .i64 0]),[]):=by kernel_rfl
noncomputable def nrm (a b c:Int):Z3:=(bif (decide ((andI .i64 a 8)=8)) then (bif rUse (Z3.mk (IntKind.i64.wrap (a % 32769 - 16384)) (IntKind.i64.wrap (b % 32769 - 16384)) (IntKind.i64.wrap (c % 32769 - 16384))).x (Z3.mk (IntKind.i64.wrap (a % 32769 - 16384)) (IntKind.i64.wrap (b % 32769 - 16384)) (IntKind.i64.wrap (c % 32769 - 16384))).y (Z3.mk (IntKind.i64.wrap (a % 32769 - 16384)) (IntKind.i64.wrap (b % 32769 - 16384)) (IntKind.i64.wrap (c % 32769 - 16384))).z then (Z3.mk (IntKind.i64.wrap (a % 32769 - 16384)) (IntKind.i64.wrap (b % 32769 - 16384)) (IntKind.i64.wrap (c % 32769 - 16384))) else (Z3.mk 1 0 0)) else (bif rUse (Z3.mk (IntKind.i64.wrap (a % 41 - 20)) (IntKind.i64.wrap (b % 41 - 20)) (IntKind.i64.wrap (c % 41 - 20))).x (Z3.mk (IntKind.i64.wrap (a % 41 - 20)) (IntKind.i64.wrap (b % 41 - 20)) (IntKind.i64.wrap (c % 41 - 20))).y (Z3.mk (IntKind.i64.wrap (a % 41 - 20)) (IntKind.i64.wrap (b % 41 - 20)) (IntKind.i64.wrap (c % 41 - 20))).z then (Z3.mk (IntKind.i64.wrap (a % 41 - 20)) (IntKind.i64.wrap (b % 41 - 20)) (IntKind.i64.wrap (c % 41 - 20))) else (Z3.mk 1 0 0)))
def yZW:Z3→Option (Ret × Mem):=fun v=>some (.v (.a (z3C v)),[])
theorem sp_mNormal (a b c:Int):runK T (OrL.k L2) 60 32 [.n .i64 a,.n .i64 b,.n .i64 c]=some (.v (.a (z3C (nrm a b c))),[]):=by
 rw [tr_mNormal]
 exact ((qZJ (F:=yZW) (qZJ (F:=yZW) rfl rfl) (qZJ (F:=yZW) rfl rfl)):_=yZW (nrm a b c))
noncomputable def yGY:List PV→Option (Bool × Ret):=fun ps=>match ps with
 | [.n .i64 a,.n .i64 b,.n .i64 c]=>some (true,.v (.a (z3C (nrm a b c))))
 | _=>none
theorem ok_mNormal:zW Tryz.prog 32 yGY:=by
 intro ps r h
 unfold yGY at h
 split at h
 ·simp only [Option.some.injEq,Prod.mk.injEq] at h
  obtain ⟨hg,rfl⟩:=h
  exact qG yJ yY (OrL.ok kGQ) (sp_mNormal _ _ _)
 ·cases h
noncomputable def L3:OrL:=(32,yGY) :: L2
theorem L3_ok:AllP (fun x:Nat × (List PV→Option (Bool × Ret))=>zW Tryz.prog x.1 x.2) L3:=⟨ok_mNormal,kGQ⟩
theorem mNormal2 (a b c:Int) (w:World):Calls Tryz.prog 32 [.int .i64 a,.int .i64 b,.int .i64 c].toArray w (Rets (z3 (nrm a b c)) w):=zX (qG yJ yY (OrL.ok kGQ) (sp_mNormal a b c)) rfl rfl w
end Go.Proofs.YthkhihoplfpgmaaGreat
namespace Go.Proofs.YthkhihoplfpgmaaGreat
open Go.Sx Go.Rx Rt Go.RowKit
namespace Tm
end Tm
open Tm
theorem la172:qJV Tryz.prog 172=some ([.int .i64 0,.int .i64 0,.int .i64 0,.int .i64 0],[(0,1),(1,1),(2,1),(3,1)]):=by kernel_rfl
theorem ze172:qYY Tryz.prog 172 (.agg #[.int .i64 0,.int .i64 0,.int .i64 0,.int .i64 0]):=by unfold qYY; kernel_rfl
theorem ty172:tyB Tryz.prog 172 true 4=true:=by kernel_rfl
theorem ar172:arrB Tryz.prog 172 4 1=true:=by kernel_rfl
theorem en163:kV Tryz.prog 163:=zQ Tryz.func163 (by kernel_rfl) (by kernel_rfl)
theorem iScaled (a:Int) (b:Int) (ha:In64 a) (hb:In64 b) (hc:b≤4611686018427387904) (w:World):Calls Tryz.prog 163 [.int .i64 a,.int .i64 b].toArray w (Rets (iv (Iv.mk (qYX (a / 65536)) (qYX (zG b 65536)))) (w)):=by
 refine yH (n:=10) Tryz.func163 rfl rfl rfl ?_
 refine qW ?_
 refine qZ ?_
 refine qKZ 4 ze77 rfl rfl rfl ?_; intro b4
 refine qX ?_
 refine qQ ?_
 refine qW ?_
 refine qZ ?_
 refine qY (qJ rfl) rfl rfl rfl ?_
 refine qHU (F:=vI) (uW en170 rfl (fun w _=>yKW _ _ (by decide) w)) rfl rfl rfl ?_; intro r6 hr6
 refine qY (qJ rfl) rfl rfl rfl ?_
 refine qHU (F:=vI) (uW en171 rfl (fun w _=>jUY _ _ (by decide) hb w)) rfl rfl rfl ?_; intro r8 hr8
 refine qHU (F:=iv) (uW en104 rfl (fun w _=>iLimited _ _  w)) rfl rfl rfl ?_; intro r9 hr9
 refine zV 4 ty77 rfl rfl rfl rfl rfl rfl rfl rfl ?_
 refine qX ?_
 refine qQ ?_
 refine jK ?_
 refine yU (rs:=[.cell 4 77]) rfl (resC (jH 4 rfl rfl ty77 rfl) (resN)) (congrArg (iv) (?_:⟨_,_⟩=Iv.mk (qYX (a / 65536)) (qYX (zG b 65536))))
 subst_vars; rfl
theorem ix4_0 {p0 p1 p2 p3:Int}:∀ w:World,(Instr.index 172 (.agg #[.int .i64 p0,.int .i64 p1,.int .i64 p2,.int .i64 p3]) (.int .i64 0)).run Tryz.prog w=.ok (.int .i64 p0) w:=fun w=>by kernel_rfl
theorem ix4_1 {p0 p1 p2 p3:Int}:∀ w:World,(Instr.index 172 (.agg #[.int .i64 p0,.int .i64 p1,.int .i64 p2,.int .i64 p3]) (.int .i64 1)).run Tryz.prog w=.ok (.int .i64 p1) w:=fun w=>by kernel_rfl
theorem ix4_2 {p0 p1 p2 p3:Int}:∀ w:World,(Instr.index 172 (.agg #[.int .i64 p0,.int .i64 p1,.int .i64 p2,.int .i64 p3]) (.int .i64 2)).run Tryz.prog w=.ok (.int .i64 p2) w:=fun w=>by kernel_rfl
theorem ix4_3 {p0 p1 p2 p3:Int}:∀ w:World,(Instr.index 172 (.agg #[.int .i64 p0,.int .i64 p1,.int .i64 p2,.int .i64 p3]) (.int .i64 3)).run Tryz.prog w=.ok (.int .i64 p3) w:=fun w=>by kernel_rfl
theorem iMul (a0 a1:Int) (b0 b1:Int) (w:World):Calls Tryz.prog 152 [.agg #[.int .i64 a0,.int .i64 a1],.agg #[.int .i64 b0,.int .i64 b1]].toArray w (Rets (iv (Iv.mul (⟨a0,a1⟩:Iv) (⟨b0,b1⟩:Iv))) (w)):=by
 refine yH (n:=54) Tryz.func152 rfl rfl rfl ?_
 refine qW ?_
 refine qZ ?_
 refine zZX 2 rfl rfl rfl rfl ?_; intro b2
 refine zZX 3 rfl rfl rfl rfl ?_; intro b3
 refine qKZ 4 ze77 rfl rfl rfl ?_; intro b4
 refine qX ?_
 refine qQ ?_
 refine qW ?_
 refine qW ?_
 refine qZ ?_
 refine qY (jG 2 ty77 rfl rfl rfl) rfl rfl rfl ?_
 refine qY (jG 3 ty77 rfl rfl rfl) rfl rfl rfl ?_
 refine qHU (F:=vB) (uW en123 rfl (fun w _=>iValid2 _ _ _ _  w)) rfl rfl rfl ?_; intro r12 hr12
 refine qY (yVJ rfl) rfl rfl rfl ?_
 refine qX ?_
 refine qQ ?_
 refine kZ rfl (fun hc13 => ?_) (fun hc13 => ?_)
 ·
  refine qW ?_
  refine qZ ?_
  refine qY (qZU la77 rfl rfl) rfl rfl rfl ?_
  refine zV 4 ty77 rfl rfl rfl rfl rfl rfl rfl rfl ?_
  refine qX ?_
  refine qQ ?_
  refine jK ?_
  refine zQU ?_
  refine yU (rs:=[.cell 4 77]) rfl (resC (jH 4 rfl rfl ty77 rfl) (resN)) (congrArg (iv) (?_:⟨_,_⟩=Iv.mul (⟨a0,a1⟩:Iv) (⟨b0,b1⟩:Iv)))
  subst_vars; first | (simp_all [Iv.mul,min4,max4]; done) | (simp_all [Iv.mul,min4,max4] <;> omega) | grind [Iv.mul,min4,max4]
 ·
  refine kJ ?_
  refine qQ ?_
  refine qW ?_
  have hv:=(hr12.symm.trans (by simpa using hc13))
  rw [Bool.and_eq_true] at hv
  have ha:=qQH hv.1
  have hb:=qQH hv.2
  have m1:=zKW (a:=a0) (b:=b0) (by omega) (by omega)
  have m2:=zKW (a:=a0) (b:=b1) (by omega) (by omega)
  have m3:=zKW (a:=a1) (b:=b0) (by omega) (by omega)
  have m4:=zKW (a:=a1) (b:=b1) (by omega) (by omega)
  refine qZ ?_
  refine qY (qU zUW rfl) rfl rfl rfl ?_
  refine qY (yX 2 ty2 rfl rfl rfl) rfl rfl rfl ?_
  refine qY (qU zUW rfl) rfl rfl rfl ?_
  refine qY (yX 3 ty2 rfl rfl rfl) rfl rfl rfl ?_
  refine qY (kQ rfl rfl (by first | exact zY ⟨by omega,by omega⟩ | rfl)) rfl rfl rfl ?_
  refine qY (qU zUW rfl) rfl rfl rfl ?_
  refine qY (yX 2 ty2 rfl rfl rfl) rfl rfl rfl ?_
  refine qY (qU yQX rfl) rfl rfl rfl ?_
  refine qY (yX 3 ty2 rfl rfl rfl) rfl rfl rfl ?_
  refine qY (kQ rfl rfl (by first | exact zY ⟨by omega,by omega⟩ | rfl)) rfl rfl rfl ?_
  refine qY (qU yQX rfl) rfl rfl rfl ?_
  refine qY (yX 2 ty2 rfl rfl rfl) rfl rfl rfl ?_
  refine qY (qU zUW rfl) rfl rfl rfl ?_
  refine qY (yX 3 ty2 rfl rfl rfl) rfl rfl rfl ?_
  refine qY (kQ rfl rfl (by first | exact zY ⟨by omega,by omega⟩ | rfl)) rfl rfl rfl ?_
  refine qY (qU yQX rfl) rfl rfl rfl ?_
  refine qY (yX 2 ty2 rfl rfl rfl) rfl rfl rfl ?_
  refine qY (qU yQX rfl) rfl rfl rfl ?_
  refine qY (yX 3 ty2 rfl rfl rfl) rfl rfl rfl ?_
  refine qY (kQ rfl rfl (by first | exact zY ⟨by omega,by omega⟩ | rfl)) rfl rfl rfl ?_
  refine qY (qZU la172 rfl rfl) rfl rfl rfl ?_
  refine qKZ 5 ze172 rfl rfl rfl ?_; intro b5
  refine zV 5 ty172 rfl rfl rfl rfl rfl rfl rfl rfl ?_
  refine qX ?_
  refine qQ ?_
  refine qW ?_
  refine qXH 5 mo (by kernel_rfl) ?_
  simp only [List.take_succ_cons,List.take_zero,List.drop_succ_cons,List.drop_zero]
  refine yW (zKY ar172 rfl rfl (by first | decide | omega) (by first | decide | omega)) rfl rfl rfl ?_
  refine yW (yX 5 ty2 rfl rfl rfl) rfl rfl rfl ?_
  refine yW (zKY ar172 rfl rfl (by first | decide | omega) (by first | decide | omega)) rfl rfl rfl ?_
  refine yW (yX 5 ty2 rfl rfl rfl) rfl rfl rfl ?_
  refine yW (qV rfl) rfl rfl rfl ?_
  refine zZW ?_
  refine qWJ ?_
  refine qY (qV rfl) rfl rfl rfl ?_
  refine qX ?_
  refine qQ ?_
  refine qW ?_
  refine qW ?_
  refine qZ ?_
  refine qY (jG 5 ty172 rfl rfl rfl) rfl rfl rfl ?_
  refine qY (qJ rfl) rfl rfl rfl ?_
  refine qX ?_
  refine qQ ?_
  refine uU ?_
  refine doC_rounds 5 ?_
  refine yQW ?_
  refine qW ?_
  refine qZ ?_
  refine qY (qVY rfl rfl) rfl rfl rfl ?_
  refine qX ?_
  refine qQ ?_
  refine qW ?_
  refine qUV rfl (by decide) ?_
  refine kJ ?_
  refine qQ ?_
  refine qW ?_
  refine uU ?_
  refine qW ?_
  refine qZ ?_
  refine qY (zZJ rfl rfl (ix4_0)) rfl rfl rfl ?_
  refine qY (qV rfl) rfl rfl rfl ?_
  refine qX ?_
  refine qQ ?_
  refine qZ ?_
  refine qY (qJ rfl) rfl rfl rfl ?_
  refine qY (qJ rfl) rfl rfl rfl ?_
  refine qY (zKQ rfl rfl) rfl rfl rfl ?_
  refine qY (qJ rfl) rfl rfl rfl ?_
  refine qY (qJ rfl) rfl rfl rfl ?_
  refine qY (zKZ rfl rfl) rfl rfl rfl ?_
  refine qY (qV rfl) rfl rfl rfl ?_
  refine qY (qV rfl) rfl rfl rfl ?_
  refine qX ?_
  refine zU ?_
  refine qQ ?_
  refine qZ ?_
  refine qY (kG rfl rfl (by first | exact zY ⟨by omega,by omega⟩ | rfl)) rfl rfl rfl ?_
  refine qY (qJ rfl) rfl rfl rfl ?_
  refine qX ?_
  refine zJH ?_
  refine yQW ?_
  refine qW ?_
  refine qZ ?_
  refine qY (qVY rfl rfl) rfl rfl rfl ?_
  refine qX ?_
  refine qQ ?_
  refine qW ?_
  refine qUV rfl (by decide) ?_
  refine kJ ?_
  refine qQ ?_
  refine qW ?_
  refine uU ?_
  refine qW ?_
  refine qZ ?_
  refine qY (zZJ rfl rfl (ix4_1)) rfl rfl rfl ?_
  refine qY (qV rfl) rfl rfl rfl ?_
  refine qX ?_
  refine qQ ?_
  refine qZ ?_
  refine qY (qJ rfl) rfl rfl rfl ?_
  refine qY (qJ rfl) rfl rfl rfl ?_
  refine qY (zKQ rfl rfl) rfl rfl rfl ?_
  refine qY (qJ rfl) rfl rfl rfl ?_
  refine qY (qJ rfl) rfl rfl rfl ?_
  refine qY (zKZ rfl rfl) rfl rfl rfl ?_
  refine qY (qV rfl) rfl rfl rfl ?_
  refine qY (qV rfl) rfl rfl rfl ?_
  refine qX ?_
  refine zU ?_
  refine qQ ?_
  refine qZ ?_
  refine qY (kG rfl rfl (by first | exact zY ⟨by omega,by omega⟩ | rfl)) rfl rfl rfl ?_
  refine qY (qJ rfl) rfl rfl rfl ?_
  refine qX ?_
  refine zJH ?_
  refine yQW ?_
  refine qW ?_
  refine qZ ?_
  refine qY (qVY rfl rfl) rfl rfl rfl ?_
  refine qX ?_
  refine qQ ?_
  refine qW ?_
  refine qUV rfl (by decide) ?_
  refine kJ ?_
  refine qQ ?_
  refine qW ?_
  refine uU ?_
  refine qW ?_
  refine qZ ?_
  refine qY (zZJ rfl rfl (ix4_2)) rfl rfl rfl ?_
  refine qY (qV rfl) rfl rfl rfl ?_
  refine qX ?_
  refine qQ ?_
  refine qZ ?_
  refine qY (qJ rfl) rfl rfl rfl ?_
  refine qY (qJ rfl) rfl rfl rfl ?_
  refine qY (zKQ rfl rfl) rfl rfl rfl ?_
  refine qY (qJ rfl) rfl rfl rfl ?_
  refine qY (qJ rfl) rfl rfl rfl ?_
  refine qY (zKZ rfl rfl) rfl rfl rfl ?_
  refine qY (qV rfl) rfl rfl rfl ?_
  refine qY (qV rfl) rfl rfl rfl ?_
  refine qX ?_
  refine zU ?_
  refine qQ ?_
  refine qZ ?_
  refine qY (kG rfl rfl (by first | exact zY ⟨by omega,by omega⟩ | rfl)) rfl rfl rfl ?_
  refine qY (qJ rfl) rfl rfl rfl ?_
  refine qX ?_
  refine zJH ?_
  refine yQW ?_
  refine qW ?_
  refine qZ ?_
  refine qY (qVY rfl rfl) rfl rfl rfl ?_
  refine qX ?_
  refine qQ ?_
  refine qW ?_
  refine qUV rfl (by decide) ?_
  refine kJ ?_
  refine qQ ?_
  refine qW ?_
  refine uU ?_
  refine qW ?_
  refine qZ ?_
  refine qY (zZJ rfl rfl (ix4_3)) rfl rfl rfl ?_
  refine qY (qV rfl) rfl rfl rfl ?_
  refine qX ?_
  refine qQ ?_
  refine qZ ?_
  refine qY (qJ rfl) rfl rfl rfl ?_
  refine qY (qJ rfl) rfl rfl rfl ?_
  refine qY (zKQ rfl rfl) rfl rfl rfl ?_
  refine qY (qJ rfl) rfl rfl rfl ?_
  refine qY (qJ rfl) rfl rfl rfl ?_
  refine qY (zKZ rfl rfl) rfl rfl rfl ?_
  refine qY (qV rfl) rfl rfl rfl ?_
  refine qY (qV rfl) rfl rfl rfl ?_
  refine qX ?_
  refine zU ?_
  refine qQ ?_
  refine qZ ?_
  refine qY (kG rfl rfl (by first | exact zY ⟨by omega,by omega⟩ | rfl)) rfl rfl rfl ?_
  refine qY (qJ rfl) rfl rfl rfl ?_
  refine qX ?_
  refine zJH ?_
  refine yQW ?_
  refine qW ?_
  refine qZ ?_
  refine qY (qVY rfl rfl) rfl rfl rfl ?_
  refine qX ?_
  refine qQ ?_
  refine qW ?_
  refine zVK rfl (by decide) ?_
  refine zUQ ?_
  refine kK ?_
  refine kK ?_
  refine qYJ ?_
  refine qQ ?_
  refine qW ?_
  refine qZ ?_
  refine qY (qJ rfl) rfl rfl rfl ?_
  refine qY (qJ rfl) rfl rfl rfl ?_
  refine qHU (F:=iv) (uW en163 rfl (fun w _=>iScaled _ _ (by unfold In64; omega) (by unfold In64; omega) (by omega) w)) rfl rfl rfl ?_; intro r53 hr53
  refine zV 4 ty77 rfl rfl rfl rfl rfl rfl rfl rfl ?_
  refine qX ?_
  refine qQ ?_
  refine jK ?_
  refine yU (rs:=[.cell 4 77]) rfl (resC (jH 4 rfl rfl ty77 rfl) (resN)) (congrArg (iv) (?_:⟨_,_⟩=Iv.mul (⟨a0,a1⟩:Iv) (⟨b0,b1⟩:Iv)))
  subst_vars; first | (simp_all [Iv.mul,min4,max4]; done) | (simp_all [Iv.mul,min4,max4] <;> omega) | grind [Iv.mul,min4,max4]
namespace Tm
noncomputable def LTm1:OrL:=(73,Ta.o_iOf) :: ([]:OrL)
theorem LTm1_ok:AllP (fun x:Nat × (List PV→Option (Bool × Ret))=>zW Tryz.prog x.1 x.2) LTm1:=⟨Ta.ok_iOf,trivial⟩
noncomputable def LTm2:OrL:=(84,Ta.o_rOf) :: LTm1
theorem kZV:AllP (fun x:Nat × (List PV→Option (Bool × Ret))=>zW Tryz.prog x.1 x.2) LTm2:=⟨Ta.ok_rOf,LTm1_ok⟩
end Tm
set_option maxRecDepth 100000 in
theorem mPoint (p0 p1 p2:Int) (w:World):Calls Tryz.prog 100 [.agg #[.int .i64 p0,.int .i64 p1,.int .i64 p2]].toArray w (Rets (v3 (V3.of (⟨p0,p1,p2⟩:Z3))) (w)) :=
 zX (x:=.a (v3C (V3.of ⟨p0,p1,p2⟩))) (qG (N:=60) (ps:=[.a [.n .i64 p0,.n .i64 p1,.n .i64 p2]]) yJ yY (OrL.ok (l:=LTm2) kZV) (by kernel_rfl)) rfl rfl w
set_option maxRecDepth 100000 in
theorem rPoint (p0 p1 p2:Int) (w:World):Calls Tryz.prog 60 [.agg #[.int .i64 p0,.int .i64 p1,.int .i64 p2]].toArray w (Rets (v3 (V3.of (⟨p0,p1,p2⟩:Z3))) (w)) :=
 zX (x:=.a (v3C (V3.of ⟨p0,p1,p2⟩))) (qG (N:=60) (ps:=[.a [.n .i64 p0,.n .i64 p1,.n .i64 p2]]) yJ yY (OrL.ok (l:=LTm2) kZV) (by kernel_rfl)) rfl rfl w
namespace Tm
noncomputable def LTm3:OrL:=(136,Tn.o_iValid) :: LTm2
theorem LTm3_ok:AllP (fun x:Nat × (List PV→Option (Bool × Ret))=>zW Tryz.prog x.1 x.2) LTm3:=⟨Tn.ok_iValid,kZV⟩
noncomputable def o_iAdd:List PV→Option (Bool × Ret):=fun ps=>match ps with
 | [.a a',.a b']=>(ivD a').bind fun a=>(ivD b').bind fun b=>some (true,.v (.a (ivC (Iv.add a b))))
 | _=>none
theorem ok_iAdd:zW Tryz.prog 151 o_iAdd:=by
 intro ps r h
 unfold o_iAdd at h
 split at h
 ·simp only [Option.bind_eq_some_iff,Option.some.injEq,Prod.mk.injEq] at h
  obtain ⟨a,ha,b,hb,hg,rfl⟩:=h
  rw [qZY ha]
  rw [qZY hb]
  exact zZ (zQ Tryz.func151 (by kernel_rfl) (by kernel_rfl)) rfl rfl (fun w=>iAdd _ _ _ _ w)
 ·cases h
noncomputable def LTm4:OrL:=(151,o_iAdd) :: LTm3
theorem LTm4_ok:AllP (fun x:Nat × (List PV→Option (Bool × Ret))=>zW Tryz.prog x.1 x.2) LTm4:=⟨ok_iAdd,LTm3_ok⟩
noncomputable def LTm5:OrL:=(180,Ta.o_iNeg) :: LTm4
theorem LTm5_ok:AllP (fun x:Nat × (List PV→Option (Bool × Ret))=>zW Tryz.prog x.1 x.2) LTm5:=⟨Ta.ok_iNeg,LTm4_ok⟩
noncomputable def LTm6:OrL:=(114,Tn.o_rValid) :: LTm5
theorem LTm6_ok:AllP (fun x:Nat × (List PV→Option (Bool × Ret))=>zW Tryz.prog x.1 x.2) LTm6:=⟨Tn.ok_rValid,LTm5_ok⟩
noncomputable def o_rAdd:List PV→Option (Bool × Ret):=fun ps=>match ps with
 | [.a a',.a b']=>(ivD a').bind fun a=>(ivD b').bind fun b=>some (true,.v (.a (ivC (Iv.add a b))))
 | _=>none
theorem ok_rAdd:zW Tryz.prog 86 o_rAdd:=by
 intro ps r h
 unfold o_rAdd at h
 split at h
 ·simp only [Option.bind_eq_some_iff,Option.some.injEq,Prod.mk.injEq] at h
  obtain ⟨a,ha,b,hb,hg,rfl⟩:=h
  rw [qZY ha]
  rw [qZY hb]
  exact zZ (zQ Tryz.func86 (by kernel_rfl) (by kernel_rfl)) rfl rfl (fun w=>rAdd _ _ _ _ w)
 ·cases h
noncomputable def LTm7:OrL:=(86,o_rAdd) :: LTm6
theorem LTm7_ok:AllP (fun x:Nat × (List PV→Option (Bool × Ret))=>zW Tryz.prog x.1 x.2) LTm7:=⟨ok_rAdd,LTm6_ok⟩
noncomputable def LTm8:OrL:=(145,Ta.o_rNeg) :: LTm7
theorem jQJ:AllP (fun x:Nat × (List PV→Option (Bool × Ret))=>zW Tryz.prog x.1 x.2) LTm8:=⟨Ta.ok_rNeg,LTm7_ok⟩
end Tm
set_option maxRecDepth 100000 in
theorem mAdd (p0 p1 p2 p3 p4 p5:Int) (q0 q1 q2 q3 q4 q5:Int) (w:World):Calls Tryz.prog 161 [.agg #[.int .i64 p0,.int .i64 p1,.int .i64 p2,.int .i64 p3,.int .i64 p4,.int .i64 p5],.agg #[.int .i64 q0,.int .i64 q1,.int .i64 q2,.int .i64 q3,.int .i64 q4,.int .i64 q5]].toArray w (Rets (v3 (V3.add (⟨⟨p0,p1⟩,⟨p2,p3⟩,⟨p4,p5⟩⟩:V3) (⟨⟨q0,q1⟩,⟨q2,q3⟩,⟨q4,q5⟩⟩:V3))) (w)) :=
 zX (x:=.a (v3C (V3.add ⟨⟨p0,p1⟩,⟨p2,p3⟩,⟨p4,p5⟩⟩ ⟨⟨q0,q1⟩,⟨q2,q3⟩,⟨q4,q5⟩⟩))) (qG (N:=60) (ps:=[.a (ivs [⟨p0,p1⟩,⟨p2,p3⟩,⟨p4,p5⟩]),.a (ivs [⟨q0,q1⟩,⟨q2,q3⟩,⟨q4,q5⟩])]) yJ yY (OrL.ok (l:=LTm8) jQJ) (by kernel_rfl)) rfl rfl w
set_option maxRecDepth 100000 in
theorem rAddVec (p0 p1 p2 p3 p4 p5:Int) (q0 q1 q2 q3 q4 q5:Int) (w:World):Calls Tryz.prog 85 [.agg #[.int .i64 p0,.int .i64 p1,.int .i64 p2,.int .i64 p3,.int .i64 p4,.int .i64 p5],.agg #[.int .i64 q0,.int .i64 q1,.int .i64 q2,.int .i64 q3,.int .i64 q4,.int .i64 q5]].toArray w (Rets (v3 (V3.add (⟨⟨p0,p1⟩,⟨p2,p3⟩,⟨p4,p5⟩⟩:V3) (⟨⟨q0,q1⟩,⟨q2,q3⟩,⟨q4,q5⟩⟩:V3))) (w)) :=
 zX (x:=.a (v3C (V3.add ⟨⟨p0,p1⟩,⟨p2,p3⟩,⟨p4,p5⟩⟩ ⟨⟨q0,q1⟩,⟨q2,q3⟩,⟨q4,q5⟩⟩))) (qG (N:=60) (ps:=[.a (ivs [⟨p0,p1⟩,⟨p2,p3⟩,⟨p4,p5⟩]),.a (ivs [⟨q0,q1⟩,⟨q2,q3⟩,⟨q4,q5⟩])]) yJ yY (OrL.ok (l:=LTm8) jQJ) (by kernel_rfl)) rfl rfl w
set_option maxRecDepth 100000 in
theorem mIdentity  (w:World):Calls Tryz.prog 156 [].toArray w (Rets (m3 (M3.unit)) (w)) :=
 zX (x:=.a (m3C M3.unit)) (qG (N:=60) (ps:=[]) yJ yY (OrL.ok (l:=LTm8) jQJ) (by kernel_rfl)) rfl rfl w
set_option maxRecDepth 100000 in
theorem rUnit  (w:World):Calls Tryz.prog 132 [].toArray w (Rets (m3 (M3.unit)) (w)) :=
 zX (x:=.a (m3C M3.unit)) (qG (N:=60) (ps:=[]) yJ yY (OrL.ok (l:=LTm8) jQJ) (by kernel_rfl)) rfl rfl w
namespace Tm
noncomputable def yJV:List PV→Option (Bool × Ret):=fun ps=>match ps with
 | [.a a']=>(ivD a').bind fun a=>some (true,.v (.a (ivC (uX a))))
 | _=>none
theorem ok_aSinOver:zW Tryz.prog 179 yJV:=by
 intro ps r h
 unfold yJV at h
 split at h
 ·simp only [Option.bind_eq_some_iff,Option.some.injEq,Prod.mk.injEq] at h
  obtain ⟨a,ha,hg,rfl⟩:=h
  rw [qZY ha]
  exact zZ (zQ Tryz.func179 (by kernel_rfl) (by kernel_rfl)) rfl rfl (fun w=>aSinOver _ _ w)
 ·cases h
noncomputable def LTm9:OrL:=(179,yJV) :: LTm8
theorem LTm9_ok:AllP (fun x:Nat × (List PV→Option (Bool × Ret))=>zW Tryz.prog x.1 x.2) LTm9:=⟨ok_aSinOver,jQJ⟩
noncomputable def yJG:List PV→Option (Bool × Ret):=fun ps=>match ps with
 | [.a a']=>(ivD a').bind fun a=>some (true,.v (.a (ivC (uV a))))
 | _=>none
theorem ok_aCosOver:zW Tryz.prog 178 yJG:=by
 intro ps r h
 unfold yJG at h
 split at h
 ·simp only [Option.bind_eq_some_iff,Option.some.injEq,Prod.mk.injEq] at h
  obtain ⟨a,ha,hg,rfl⟩:=h
  rw [qZY ha]
  exact zZ (zQ Tryz.func178 (by kernel_rfl) (by kernel_rfl)) rfl rfl (fun w=>aCosOver _ _ w)
 ·cases h
noncomputable def LTm10:OrL:=(178,yJG) :: LTm9
theorem LTm10_ok:AllP (fun x:Nat × (List PV→Option (Bool × Ret))=>zW Tryz.prog x.1 x.2) LTm10:=⟨ok_aCosOver,LTm9_ok⟩
noncomputable def yYG:List PV→Option (Bool × Ret):=fun ps=>match ps with
 | [.a a']=>(ivD a').bind fun a=>some (true,.v (.a (ivC (uX a))))
 | _=>none
theorem ok_rSinOver:zW Tryz.prog 144 yYG:=by
 intro ps r h
 unfold yYG at h
 split at h
 ·simp only [Option.bind_eq_some_iff,Option.some.injEq,Prod.mk.injEq] at h
  obtain ⟨a,ha,hg,rfl⟩:=h
  rw [qZY ha]
  exact zZ (zQ Tryz.func144 (by kernel_rfl) (by kernel_rfl)) rfl rfl (fun w=>rSinOver _ _ w)
 ·cases h
noncomputable def LTm11:OrL:=(144,yYG) :: LTm10
theorem LTm11_ok:AllP (fun x:Nat × (List PV→Option (Bool × Ret))=>zW Tryz.prog x.1 x.2) LTm11:=⟨ok_rSinOver,LTm10_ok⟩
noncomputable def yJZ:List PV→Option (Bool × Ret):=fun ps=>match ps with
 | [.a a']=>(ivD a').bind fun a=>some (true,.v (.a (ivC (uV a))))
 | _=>none
theorem ok_rCosOver:zW Tryz.prog 143 yJZ:=by
 intro ps r h
 unfold yJZ at h
 split at h
 ·simp only [Option.bind_eq_some_iff,Option.some.injEq,Prod.mk.injEq] at h
  obtain ⟨a,ha,hg,rfl⟩:=h
  rw [qZY ha]
  exact zZ (zQ Tryz.func143 (by kernel_rfl) (by kernel_rfl)) rfl rfl (fun w=>rCosOver _ _ w)
 ·cases h
noncomputable def uZU:OrL:=(143,yJZ) :: LTm11
theorem LTm12_ok:AllP (fun x:Nat × (List PV→Option (Bool × Ret))=>zW Tryz.prog x.1 x.2) uZU:=⟨ok_rCosOver,LTm11_ok⟩
end Tm
set_option maxRecDepth 100000 in
theorem mTurn (axis:Int) (a0 a1:Int) (w:World):Calls Tryz.prog 174 [.int .i64 axis,.agg #[.int .i64 a0,.int .i64 a1]].toArray w (Rets (m3 (M3.turn axis (⟨a0,a1⟩:Iv))) (w)) :=
 zX (x:=.a (m3C (M3.turn axis ⟨a0,a1⟩))) (qG (N:=60) (ps:=[.n .i64 axis,.a [.n .i64 a0,.n .i64 a1]]) yJ yY (OrL.ok (l:=uZU) LTm12_ok) ((by kernel_rfl:_=bif Iv.valid (Iv.mk a0 a1) then (bif (decide (axis=0)) then some (.v (.a (ivs [(Iv.of 65536),(Iv.of 0),(Iv.of 0),(Iv.of 0),(uV (Iv.mk a0 a1)),(Iv.neg (uX (Iv.mk a0 a1))),(Iv.of 0),(uX (Iv.mk a0 a1)),(uV (Iv.mk a0 a1))])),[])
 else bif (decide (axis=1)) then some (.v (.a (ivs [(uV (Iv.mk a0 a1)),(Iv.of 0),(uX (Iv.mk a0 a1)),(Iv.of 0),(Iv.of 65536),(Iv.of 0),(Iv.neg (uX (Iv.mk a0 a1))),(Iv.of 0),(uV (Iv.mk a0 a1))])),[])
 else bif (decide (axis=2)) then some (.v (.a (ivs [(uV (Iv.mk a0 a1)),(Iv.neg (uX (Iv.mk a0 a1))),(Iv.of 0),(uX (Iv.mk a0 a1)),(uV (Iv.mk a0 a1)),(Iv.of 0),(Iv.of 0),(Iv.of 0),(Iv.of 65536)])),[])
 else some (.v (.a (ivs [iv0,iv0,iv0,iv0,iv0,iv0,iv0,iv0,iv0])),[]))
 else some (.v (.a (ivs [iv0,iv0,iv0,iv0,iv0,iv0,iv0,iv0,iv0])),[])).trans (by
 simp only [of_one,of_zero]
 unfold M3.turn
 cases Iv.valid (Iv.mk a0 a1) <;> cases decide (axis=0) <;> cases decide (axis=1) <;> cases decide (axis=2) <;> rfl))) rfl rfl w
set_option maxRecDepth 100000 in
theorem rTurn (axis:Int) (a0 a1:Int) (w:World):Calls Tryz.prog 133 [.int .i64 axis,.agg #[.int .i64 a0,.int .i64 a1]].toArray w (Rets (m3 (M3.turn axis (⟨a0,a1⟩:Iv))) (w)) :=
 zX (x:=.a (m3C (M3.turn axis ⟨a0,a1⟩))) (qG (N:=60) (ps:=[.n .i64 axis,.a [.n .i64 a0,.n .i64 a1]]) yJ yY (OrL.ok (l:=uZU) LTm12_ok) ((by kernel_rfl:_=bif Iv.valid (Iv.mk a0 a1) then (bif (decide (axis=0)) then some (.v (.a (ivs [(Iv.of 65536),iv0,iv0,iv0,(uV (Iv.mk a0 a1)),(Iv.neg (uX (Iv.mk a0 a1))),iv0,(uX (Iv.mk a0 a1)),(uV (Iv.mk a0 a1))])),[])
 else bif (decide (axis=1)) then some (.v (.a (ivs [(uV (Iv.mk a0 a1)),iv0,(uX (Iv.mk a0 a1)),iv0,(Iv.of 65536),iv0,(Iv.neg (uX (Iv.mk a0 a1))),iv0,(uV (Iv.mk a0 a1))])),[])
 else bif (decide (axis=2)) then some (.v (.a (ivs [(uV (Iv.mk a0 a1)),(Iv.neg (uX (Iv.mk a0 a1))),iv0,(uX (Iv.mk a0 a1)),(uV (Iv.mk a0 a1)),iv0,iv0,iv0,(Iv.of 65536)])),[])
 else some (.v (.a (ivs [iv0,iv0,iv0,iv0,iv0,iv0,iv0,iv0,iv0])),[]))
 else some (.v (.a (ivs [iv0,iv0,iv0,iv0,iv0,iv0,iv0,iv0,iv0])),[])).trans (by
 simp only [of_one,of_zero]
 unfold M3.turn
 cases Iv.valid (Iv.mk a0 a1) <;> cases decide (axis=0) <;> cases decide (axis=1) <;> cases decide (axis=2) <;> rfl))) rfl rfl w
end Go.Proofs.YthkhihoplfpgmaaGreat

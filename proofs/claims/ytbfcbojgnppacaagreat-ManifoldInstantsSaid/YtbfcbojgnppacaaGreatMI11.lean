/- Part 11 of the texts behind the last one: rules and contracts. No condition. -/
import Derived.Test.YtbfcbojgnppacaaGreatMI10
open Option renaming bind_eq_some_iff → vQQ
open Option.some renaming injEq → vQZ
open Prod.mk renaming injEq → vQY
open Bool renaming and_eq_true → vQJ, and_self → vZJ, true_and → vZH
open List renaming getElem?_eq_getElem → vQK, length_cons → vQW, length_nil → vQV, all_eq_true → vZZ
open Go.IntKind renaming wrap → vJJ
namespace Go.Proofs.YtbfcbojgnppacaaGreat
open Go.Sx Go.Rx Rt Go.RowKit
namespace Tp
end Tp
open Tp
theorem ze129:qYV Tryz.prog 129 (.agg #[.int .i64 0,.int .i64 0,.int .i64 0,.int .i64 0,.int .i64 0,.int .i64 0,.int .i64 0,.int .i64 0,.int .i64 0,.int .i64 0,.int .i64 0,.int .i64 0,.int .i64 0,.int .i64 0,.int .i64 0,.int .i64 0,.int .i64 0,.int .i64 0,.int .i64 0,.int .i64 0,.int .i64 0,.int .i64 0,.int .i64 0,.int .i64 0]):=by unfold qYV; kernel_rfl
theorem yVV:tyB Tryz.prog 129 true 24=true:=by kernel_rfl
namespace Tp
noncomputable def qGC:List PV→Option (Bool × Ret):=fun ps=>match ps with
 | []=>some (true,.v (.a (m3C (M3.unit))))
 | _=>none
theorem ok_mIdentity:zY Tryz.prog 154 qGC:=by
 intro ps r h;unfold qGC at h;split at h
 ·simp only [vQZ,vQY] at h;obtain ⟨hg,rfl⟩:=h;exact qY (qU Tryz.func154 (by kernel_rfl) (by kernel_rfl)) rfl rfl (fun w=>mIdentity  w)
 ·cases h
noncomputable def LTp1:OrL:=(154,qGC) :: ([]:OrL)
theorem LTp1_ok:AllP (fun x:Nat × (List PV→Option (Bool × Ret))=>zY Tryz.prog x.1 x.2) LTp1:=⟨ok_mIdentity,trivial⟩
noncomputable def yYH:List PV→Option (Bool × Ret):=fun ps=>match ps with
 | [.n .i64 k,.a a']=>(ivD a').bind fun a=>some (true,.v (.a (m3C (M3.turn k a))))
 | _=>none
theorem ok_mTurn:zY Tryz.prog 172 yYH:=by
 intro ps r h;unfold yYH at h;split at h
 ·simp only [vQQ,vQZ,vQY] at h;obtain ⟨a,ha,hg,rfl⟩:=h;rw [uY ha];exact qY (qU Tryz.func172 (by kernel_rfl) (by kernel_rfl)) rfl rfl (fun w=>mTurn _ _ _ w)
 ·cases h
noncomputable def LTp2:OrL:=(172,yYH) :: LTp1
theorem LTp2_ok:AllP (fun x:Nat × (List PV→Option (Bool × Ret))=>zY Tryz.prog x.1 x.2) LTp2:=⟨ok_mTurn,LTp1_ok⟩
noncomputable def zYV:List PV→Option (Bool × Ret):=fun ps=>match ps with
 | [.a m',.a n']=>(m3D m').bind fun m=>(m3D n').bind fun n=>some (true,.v (.a (m3C (M3.mul m n))))
 | _=>none
theorem ok_mCompose:zY Tryz.prog 148 zYV:=by
 intro ps r h;unfold zYV at h;split at h
 ·simp only [vQQ,vQZ,vQY] at h;obtain ⟨m,hm,n,hn,hg,rfl⟩:=h;rw [zJV hm];rw [zJV hn];exact qY (qU Tryz.func148 (by kernel_rfl) (by kernel_rfl)) rfl rfl (fun w=>mCompose _ _ _ _ _ _ _ _ _ _ _ _ _ _ _ _ _ _ _ _ _ _ _ _ _ _ _ _ _ _ _ _ _ _ _ _ w)
 ·cases h
noncomputable def LTp3:OrL:=(148,zYV) :: LTp2
theorem LTp3_ok:AllP (fun x:Nat × (List PV→Option (Bool × Ret))=>zY Tryz.prog x.1 x.2) LTp3:=⟨ok_mCompose,LTp2_ok⟩
noncomputable def qWK:List PV→Option (Bool × Ret):=fun ps=>match ps with
 | [.a m',.a v']=>(m3D m').bind fun m=>(v3D v').bind fun v=>some (true,.v (.a (v3C (M3.apply m v))))
 | _=>none
theorem zUI:zY Tryz.prog 129 qWK:=by
 intro ps r h;unfold qWK at h;split at h
 ·simp only [vQQ,vQZ,vQY] at h;obtain ⟨m,hm,v,hv,hg,rfl⟩:=h;rw [zJV hm];rw [qUC hv];exact qY (qU Tryz.func129 (by kernel_rfl) (by kernel_rfl)) rfl rfl (fun w=>mApply _ _ _ _ _ _ _ _ _ _ _ _ _ _ _ _ _ _ _ _ _ _ _ _ w)
 ·cases h
noncomputable def LTp4:OrL:=(129,qWK) :: LTp3
theorem LTp4_ok:AllP (fun x:Nat × (List PV→Option (Bool × Ret))=>zY Tryz.prog x.1 x.2) LTp4:=⟨zUI,LTp3_ok⟩
noncomputable def yXH:List PV→Option (Bool × Ret):=fun ps=>match ps with
 | [.a v',.a w']=>(v3D v').bind fun v=>(v3D w').bind fun w=>some (true,.v (.a (v3C (V3.add v w))))
 | _=>none
theorem ok_mAdd:zY Tryz.prog 159 yXH:=by
 intro ps r h;unfold yXH at h;split at h
 ·simp only [vQQ,vQZ,vQY] at h;obtain ⟨v,hv,w,hw,hg,rfl⟩:=h;rw [qUC hv];rw [qUC hw];exact qY (qU Tryz.func159 (by kernel_rfl) (by kernel_rfl)) rfl rfl (fun w=>mAdd _ _ _ _ _ _ _ _ _ _ _ _ w)
 ·cases h
noncomputable def LTp5:OrL:=(159,yXH) :: LTp4
theorem LTp5_ok:AllP (fun x:Nat × (List PV→Option (Bool × Ret))=>zY Tryz.prog x.1 x.2) LTp5:=⟨ok_mAdd,LTp4_ok⟩
noncomputable def yYK:List PV→Option (Bool × Ret):=fun ps=>match ps with
 | []=>some (true,.v (.a (m3C (M3.unit))))
 | _=>none
theorem ok_rUnit:zY Tryz.prog 152 yYK:=by
 intro ps r h;unfold yYK at h;split at h
 ·simp only [vQZ,vQY] at h;obtain ⟨hg,rfl⟩:=h;exact qY (qU Tryz.func152 (by kernel_rfl) (by kernel_rfl)) rfl rfl (fun w=>rUnit  w)
 ·cases h
noncomputable def LTp6:OrL:=(152,yYK) :: LTp5
theorem LTp6_ok:AllP (fun x:Nat × (List PV→Option (Bool × Ret))=>zY Tryz.prog x.1 x.2) LTp6:=⟨ok_rUnit,LTp5_ok⟩
noncomputable def yYU:List PV→Option (Bool × Ret):=fun ps=>match ps with
 | [.n .i64 k,.a a']=>(ivD a').bind fun a=>some (true,.v (.a (m3C (M3.turn k a))))
 | _=>none
theorem ok_rTurn:zY Tryz.prog 153 yYU:=by
 intro ps r h;unfold yYU at h;split at h
 ·simp only [vQQ,vQZ,vQY] at h;obtain ⟨a,ha,hg,rfl⟩:=h;rw [uY ha];exact qY (qU Tryz.func153 (by kernel_rfl) (by kernel_rfl)) rfl rfl (fun w=>rTurn _ _ _ w)
 ·cases h
noncomputable def LTp7:OrL:=(153,yYU) :: LTp6
theorem LTp7_ok:AllP (fun x:Nat × (List PV→Option (Bool × Ret))=>zY Tryz.prog x.1 x.2) LTp7:=⟨ok_rTurn,LTp6_ok⟩
noncomputable def zYX:List PV→Option (Bool × Ret):=fun ps=>match ps with
 | [.a m',.a n']=>(m3D m').bind fun m=>(m3D n').bind fun n=>some (true,.v (.a (m3C (M3.mul m n))))
 | _=>none
theorem ok_rCompose:zY Tryz.prog 138 zYX:=by
 intro ps r h;unfold zYX at h;split at h
 ·simp only [vQQ,vQZ,vQY] at h;obtain ⟨m,hm,n,hn,hg,rfl⟩:=h;rw [zJV hm];rw [zJV hn];exact qY (qU Tryz.func138 (by kernel_rfl) (by kernel_rfl)) rfl rfl (fun w=>rCompose _ _ _ _ _ _ _ _ _ _ _ _ _ _ _ _ _ _ _ _ _ _ _ _ _ _ _ _ _ _ _ _ _ _ _ _ w)
 ·cases h
noncomputable def LTp8:OrL:=(138,zYX) :: LTp7
theorem LTp8_ok:AllP (fun x:Nat × (List PV→Option (Bool × Ret))=>zY Tryz.prog x.1 x.2) LTp8:=⟨ok_rCompose,LTp7_ok⟩
noncomputable def qWZ:List PV→Option (Bool × Ret):=fun ps=>match ps with
 | [.a m',.a v']=>(m3D m').bind fun m=>(v3D v').bind fun v=>some (true,.v (.a (v3C (M3.apply m v))))
 | _=>none
theorem zUD:zY Tryz.prog 86 qWZ:=by
 intro ps r h;unfold qWZ at h;split at h
 ·simp only [vQQ,vQZ,vQY] at h;obtain ⟨m,hm,v,hv,hg,rfl⟩:=h;rw [zJV hm];rw [qUC hv];exact qY (qU Tryz.func86 (by kernel_rfl) (by kernel_rfl)) rfl rfl (fun w=>rApply _ _ _ _ _ _ _ _ _ _ _ _ _ _ _ _ _ _ _ _ _ _ _ _ w)
 ·cases h
noncomputable def LTp9:OrL:=(86,qWZ) :: LTp8
theorem LTp9_ok:AllP (fun x:Nat × (List PV→Option (Bool × Ret))=>zY Tryz.prog x.1 x.2) LTp9:=⟨zUD,LTp8_ok⟩
noncomputable def zXJ:List PV→Option (Bool × Ret):=fun ps=>match ps with
 | [.a v',.a w']=>(v3D v').bind fun v=>(v3D w').bind fun w=>some (true,.v (.a (v3C (V3.add v w))))
 | _=>none
theorem ok_rAddVec:zY Tryz.prog 112 zXJ:=by
 intro ps r h;unfold zXJ at h;split at h
 ·simp only [vQQ,vQZ,vQY] at h;obtain ⟨v,hv,w,hw,hg,rfl⟩:=h;rw [qUC hv];rw [qUC hw];exact qY (qU Tryz.func112 (by kernel_rfl) (by kernel_rfl)) rfl rfl (fun w=>rAddVec _ _ _ _ _ _ _ _ _ _ _ _ w)
 ·cases h
noncomputable def yJB:OrL:=(112,zXJ) :: LTp9
theorem qGY:AllP (fun x:Nat × (List PV→Option (Bool × Ret))=>zY Tryz.prog x.1 x.2) yJB:=⟨ok_rAddVec,LTp9_ok⟩
end Tp
set_option maxRecDepth 100000 in
theorem pShift (va0 va1 va2 va3 va4 va5:Int) (w:World):Calls Tryz.prog 145 [.agg #[.int .i64 va0,.int .i64 va1,.int .i64 va2,.int .i64 va3,.int .i64 va4,.int .i64 va5]].toArray w (Rets (po (Po.shift (⟨⟨va0,va1⟩,⟨va2,va3⟩,⟨va4,va5⟩⟩:V3))) (w)) :=
 qH (x:=.a (poC (Po.shift (⟨⟨va0,va1⟩,⟨va2,va3⟩,⟨va4,va5⟩⟩:V3)))) (qX (N:=60) (ps:=[.a (ivs [⟨va0,va1⟩,⟨va2,va3⟩,⟨va4,va5⟩])]) yH yZ (OrL.ok (l:=yJB) qGY) (by kernel_rfl)) rfl rfl w
set_option maxRecDepth 100000 in
theorem pIdentity  (w:World):Calls Tryz.prog 166 [].toArray w (Rets (po (Po.rest)) (w)) :=
 qH (x:=.a (poC Po.rest)) (qX (N:=60) (ps:=[]) yH yZ (OrL.ok (l:=yJB) qGY) (by kernel_rfl)) rfl rfl w
set_option maxRecDepth 100000 in
theorem pTurn (axis:Int) (a0 a1:Int) (w:World):Calls Tryz.prog 165 [.int .i64 axis,.agg #[.int .i64 a0,.int .i64 a1]].toArray w (Rets (po (Po.turn axis (⟨a0,a1⟩:Iv))) (w)) :=
 qH (x:=.a (poC (Po.turn axis ⟨a0,a1⟩))) (qX (N:=60) (ps:=[.n .i64 axis,.a [.n .i64 a0,.n .i64 a1]]) yH yZ (OrL.ok (l:=yJB) qGY) (by kernel_rfl)) rfl rfl w
set_option maxRecDepth 100000 in
theorem pCompose (pa0 pa1 pa2 pa3 pa4 pa5 pa6 pa7 pa8 pa9 pa10 pa11 pa12 pa13 pa14 pa15 pa16 pa17 pa18 pa19 pa20 pa21 pa22 pa23:Int) (qa0 qa1 qa2 qa3 qa4 qa5 qa6 qa7 qa8 qa9 qa10 qa11 qa12 qa13 qa14 qa15 qa16 qa17 qa18 qa19 qa20 qa21 qa22 qa23:Int) (w:World):Calls Tryz.prog 128 [.agg #[.int .i64 pa0,.int .i64 pa1,.int .i64 pa2,.int .i64 pa3,.int .i64 pa4,.int .i64 pa5,.int .i64 pa6,.int .i64 pa7,.int .i64 pa8,.int .i64 pa9,.int .i64 pa10,.int .i64 pa11,.int .i64 pa12,.int .i64 pa13,.int .i64 pa14,.int .i64 pa15,.int .i64 pa16,.int .i64 pa17,.int .i64 pa18,.int .i64 pa19,.int .i64 pa20,.int .i64 pa21,.int .i64 pa22,.int .i64 pa23],.agg #[.int .i64 qa0,.int .i64 qa1,.int .i64 qa2,.int .i64 qa3,.int .i64 qa4,.int .i64 qa5,.int .i64 qa6,.int .i64 qa7,.int .i64 qa8,.int .i64 qa9,.int .i64 qa10,.int .i64 qa11,.int .i64 qa12,.int .i64 qa13,.int .i64 qa14,.int .i64 qa15,.int .i64 qa16,.int .i64 qa17,.int .i64 qa18,.int .i64 qa19,.int .i64 qa20,.int .i64 qa21,.int .i64 qa22,.int .i64 qa23]].toArray w (Rets (po (Po.mul (⟨⟨⟨⟨pa0,pa1⟩,⟨pa2,pa3⟩,⟨pa4,pa5⟩⟩,⟨⟨pa6,pa7⟩,⟨pa8,pa9⟩,⟨pa10,pa11⟩⟩,⟨⟨pa12,pa13⟩,⟨pa14,pa15⟩,⟨pa16,pa17⟩⟩⟩,⟨⟨pa18,pa19⟩,⟨pa20,pa21⟩,⟨pa22,pa23⟩⟩⟩:Po) (⟨⟨⟨⟨qa0,qa1⟩,⟨qa2,qa3⟩,⟨qa4,qa5⟩⟩,⟨⟨qa6,qa7⟩,⟨qa8,qa9⟩,⟨qa10,qa11⟩⟩,⟨⟨qa12,qa13⟩,⟨qa14,qa15⟩,⟨qa16,qa17⟩⟩⟩,⟨⟨qa18,qa19⟩,⟨qa20,qa21⟩,⟨qa22,qa23⟩⟩⟩:Po))) (w)) :=
 qH (x:=.a (poC (Po.mul (⟨(⟨⟨⟨pa0,pa1⟩,⟨pa2,pa3⟩,⟨pa4,pa5⟩⟩,⟨⟨pa6,pa7⟩,⟨pa8,pa9⟩,⟨pa10,pa11⟩⟩,⟨⟨pa12,pa13⟩,⟨pa14,pa15⟩,⟨pa16,pa17⟩⟩⟩:M3),⟨⟨pa18,pa19⟩,⟨pa20,pa21⟩,⟨pa22,pa23⟩⟩⟩:Po) (⟨(⟨⟨⟨qa0,qa1⟩,⟨qa2,qa3⟩,⟨qa4,qa5⟩⟩,⟨⟨qa6,qa7⟩,⟨qa8,qa9⟩,⟨qa10,qa11⟩⟩,⟨⟨qa12,qa13⟩,⟨qa14,qa15⟩,⟨qa16,qa17⟩⟩⟩:M3),⟨⟨qa18,qa19⟩,⟨qa20,qa21⟩,⟨qa22,qa23⟩⟩⟩:Po)))) (qX (N:=60) (ps:=[.a (ivs [⟨pa0,pa1⟩,⟨pa2,pa3⟩,⟨pa4,pa5⟩,⟨pa6,pa7⟩,⟨pa8,pa9⟩,⟨pa10,pa11⟩,⟨pa12,pa13⟩,⟨pa14,pa15⟩,⟨pa16,pa17⟩,⟨pa18,pa19⟩,⟨pa20,pa21⟩,⟨pa22,pa23⟩]),.a (ivs [⟨qa0,qa1⟩,⟨qa2,qa3⟩,⟨qa4,qa5⟩,⟨qa6,qa7⟩,⟨qa8,qa9⟩,⟨qa10,qa11⟩,⟨qa12,qa13⟩,⟨qa14,qa15⟩,⟨qa16,qa17⟩,⟨qa18,qa19⟩,⟨qa20,qa21⟩,⟨qa22,qa23⟩])]) yH yZ (OrL.ok (l:=yJB) qGY) (by kernel_rfl)) rfl rfl w
set_option maxRecDepth 100000 in
theorem pApply (pa0 pa1 pa2 pa3 pa4 pa5 pa6 pa7 pa8 pa9 pa10 pa11 pa12 pa13 pa14 pa15 pa16 pa17 pa18 pa19 pa20 pa21 pa22 pa23:Int) (va0 va1 va2 va3 va4 va5:Int) (w:World):Calls Tryz.prog 130 [.agg #[.int .i64 pa0,.int .i64 pa1,.int .i64 pa2,.int .i64 pa3,.int .i64 pa4,.int .i64 pa5,.int .i64 pa6,.int .i64 pa7,.int .i64 pa8,.int .i64 pa9,.int .i64 pa10,.int .i64 pa11,.int .i64 pa12,.int .i64 pa13,.int .i64 pa14,.int .i64 pa15,.int .i64 pa16,.int .i64 pa17,.int .i64 pa18,.int .i64 pa19,.int .i64 pa20,.int .i64 pa21,.int .i64 pa22,.int .i64 pa23],.agg #[.int .i64 va0,.int .i64 va1,.int .i64 va2,.int .i64 va3,.int .i64 va4,.int .i64 va5]].toArray w (Rets (v3 (Po.app (⟨⟨⟨⟨pa0,pa1⟩,⟨pa2,pa3⟩,⟨pa4,pa5⟩⟩,⟨⟨pa6,pa7⟩,⟨pa8,pa9⟩,⟨pa10,pa11⟩⟩,⟨⟨pa12,pa13⟩,⟨pa14,pa15⟩,⟨pa16,pa17⟩⟩⟩,⟨⟨pa18,pa19⟩,⟨pa20,pa21⟩,⟨pa22,pa23⟩⟩⟩:Po) (⟨⟨va0,va1⟩,⟨va2,va3⟩,⟨va4,va5⟩⟩:V3))) (w)) :=
 qH (x:=.a (v3C (Po.app (⟨(⟨⟨⟨pa0,pa1⟩,⟨pa2,pa3⟩,⟨pa4,pa5⟩⟩,⟨⟨pa6,pa7⟩,⟨pa8,pa9⟩,⟨pa10,pa11⟩⟩,⟨⟨pa12,pa13⟩,⟨pa14,pa15⟩,⟨pa16,pa17⟩⟩⟩:M3),⟨⟨pa18,pa19⟩,⟨pa20,pa21⟩,⟨pa22,pa23⟩⟩⟩:Po) (⟨⟨va0,va1⟩,⟨va2,va3⟩,⟨va4,va5⟩⟩:V3)))) (qX (N:=60) (ps:=[.a (ivs [⟨pa0,pa1⟩,⟨pa2,pa3⟩,⟨pa4,pa5⟩,⟨pa6,pa7⟩,⟨pa8,pa9⟩,⟨pa10,pa11⟩,⟨pa12,pa13⟩,⟨pa14,pa15⟩,⟨pa16,pa17⟩,⟨pa18,pa19⟩,⟨pa20,pa21⟩,⟨pa22,pa23⟩]),.a (ivs [⟨va0,va1⟩,⟨va2,va3⟩,⟨va4,va5⟩])]) yH yZ (OrL.ok (l:=yJB) qGY) (by kernel_rfl)) rfl rfl w
set_option maxRecDepth 100000 in
theorem qApply (pa0 pa1 pa2 pa3 pa4 pa5 pa6 pa7 pa8 pa9 pa10 pa11 pa12 pa13 pa14 pa15 pa16 pa17 pa18 pa19 pa20 pa21 pa22 pa23:Int) (va0 va1 va2 va3 va4 va5:Int) (w:World):Calls Tryz.prog 85 [.agg #[.int .i64 pa0,.int .i64 pa1,.int .i64 pa2,.int .i64 pa3,.int .i64 pa4,.int .i64 pa5,.int .i64 pa6,.int .i64 pa7,.int .i64 pa8,.int .i64 pa9,.int .i64 pa10,.int .i64 pa11,.int .i64 pa12,.int .i64 pa13,.int .i64 pa14,.int .i64 pa15,.int .i64 pa16,.int .i64 pa17,.int .i64 pa18,.int .i64 pa19,.int .i64 pa20,.int .i64 pa21,.int .i64 pa22,.int .i64 pa23],.agg #[.int .i64 va0,.int .i64 va1,.int .i64 va2,.int .i64 va3,.int .i64 va4,.int .i64 va5]].toArray w (Rets (v3 (Po.app (⟨⟨⟨⟨pa0,pa1⟩,⟨pa2,pa3⟩,⟨pa4,pa5⟩⟩,⟨⟨pa6,pa7⟩,⟨pa8,pa9⟩,⟨pa10,pa11⟩⟩,⟨⟨pa12,pa13⟩,⟨pa14,pa15⟩,⟨pa16,pa17⟩⟩⟩,⟨⟨pa18,pa19⟩,⟨pa20,pa21⟩,⟨pa22,pa23⟩⟩⟩:Po) (⟨⟨va0,va1⟩,⟨va2,va3⟩,⟨va4,va5⟩⟩:V3))) (w)) :=
 qH (x:=.a (v3C (Po.app (⟨(⟨⟨⟨pa0,pa1⟩,⟨pa2,pa3⟩,⟨pa4,pa5⟩⟩,⟨⟨pa6,pa7⟩,⟨pa8,pa9⟩,⟨pa10,pa11⟩⟩,⟨⟨pa12,pa13⟩,⟨pa14,pa15⟩,⟨pa16,pa17⟩⟩⟩:M3),⟨⟨pa18,pa19⟩,⟨pa20,pa21⟩,⟨pa22,pa23⟩⟩⟩:Po) (⟨⟨va0,va1⟩,⟨va2,va3⟩,⟨va4,va5⟩⟩:V3)))) (qX (N:=60) (ps:=[.a (ivs [⟨pa0,pa1⟩,⟨pa2,pa3⟩,⟨pa4,pa5⟩,⟨pa6,pa7⟩,⟨pa8,pa9⟩,⟨pa10,pa11⟩,⟨pa12,pa13⟩,⟨pa14,pa15⟩,⟨pa16,pa17⟩,⟨pa18,pa19⟩,⟨pa20,pa21⟩,⟨pa22,pa23⟩]),.a (ivs [⟨va0,va1⟩,⟨va2,va3⟩,⟨va4,va5⟩])]) yH yZ (OrL.ok (l:=yJB) qGY) (by kernel_rfl)) rfl rfl w
end Go.Proofs.YtbfcbojgnppacaaGreat
namespace Go.Proofs.YtbfcbojgnppacaaGreat
open Go.Sx
theorem ty3:tyB Tryz.prog 3 false 1=true:=by kernel_rfl
end Go.Proofs.YtbfcbojgnppacaaGreat
namespace Go.Proofs.YtbfcbojgnppacaaGreat
open Go.Sx
theorem ze70:qYV Tryz.prog 70 (.agg #[.string ByteArray.empty,.int .i64 0,.int .i64 0,.int .i64 0,.int .i64 0,.int .i64 0,.int .i64 0,.int .i64 0,.int .i64 0,.int .i64 0,.int .i64 0,.int .i64 0]):=by unfold qYV; kernel_rfl
theorem ty70:tyB Tryz.prog 70 true 12=true:=by kernel_rfl
theorem fa70_2:zQC Tryz.prog 70 2 2=true:=by kernel_rfl
end Go.Proofs.YtbfcbojgnppacaaGreat
namespace Go.Proofs.YtbfcbojgnppacaaGreat.Od
open Go.Rx Rt Go.Sx Go.RowKit
def andI (k:IntKind) (x y:Int):Int:=k.wrap ((BitVec.ofInt k.bits x &&& BitVec.ofInt k.bits y).toNat)
theorem kG {β γ:Type} {F:β→γ} {c:Bool} {a b:γ} {f g:β} (_:a=F f) (_:b=F g):(bif c then a else b)=F (bif c then f else g):=by cases c <;> assumption
def F_b:Bool→Option (Ret × Mem):=fun v=>some (.v (.b v),[])
def limK (k:Int):Int:=if k=1 ∨ k=2 ∨ k=3 then 524288 else if k=4 ∨ k=5 ∨ k=6 then 4194304 else 0
def jp (j:J):List PV:=[.s j.name,.n .i64 j.kind,.n .i64 j.parent,.n .i64 j.off.x,.n .i64 j.off.y,.n .i64 j.off.z,.n .i64 j.lo,.n .i64 j.hi,.n .i64 j.weight,.n .i64 j.speed,.n .i64 j.accel,.n .i64 j.torque]
def mp (m:Ms):List PV:=[.n .i64 m.link,.n .i64 m.mass,.n .i64 m.p.x,.n .i64 m.p.y,.n .i64 m.p.z]
def cp (c:Cn):List PV:=[.n .i64 c.kind,.n .i64 c.link,.n .i64 c.p.x,.n .i64 c.p.y,.n .i64 c.p.z,.n .i64 c.n.x,.n .i64 c.n.y,.n .i64 c.n.z,.n .i64 c.lo,.n .i64 c.hi]
theorem valRows_map {α:Type} {f:α→List PV} {g:α→List Value} (h:∀ x,(f x).map PV.val1=g x) (l:List α):qUH (l.map f)=l.map g:=by
 unfold qUH;rw [List.map_map];exact List.map_congr_left fun x _=>h x
theorem flat_map {α:Type} {f:α→List PV} {sz:Nat} (h:∀ x,(Nat.beq (f x).length sz && (f x).all PV.flat1)=true) (l:List α):qWV sz (l.map f)=true:=by
 unfold qWV;rw [List.all_map,vZZ];exact fun x _=>h x
theorem rp_told {α:Type} {f:α→List PV} {g:α→List Value} {sz k c:Nat} {l:List α} {a:Option Addr} {F D:Nat→Prop} {G:World→Prop} {w:World} (hv:∀ x,(f x).map PV.val1=g x) (hf:∀ x,(Nat.beq (f x).length sz && (f x).all PV.flat1)=true) (hk:l.length=k) (hc:k≤c) (h0:0 < sz)
  (hd:qKL D G) (hG:G w) (hi:∀ w,G w→qJQ sz a (l.map g) w) (hF:∀ k,D k→F k):RP F w (.l (l.map f)) (.slice a k c):=by
 have:=rp_of_slc (F:=F) (c:=c) (flat_map hf l) (by rw [List.length_map,hk]; exact hc) (by rw [valRows_map hv]; exact hi w hG) (fun b off ha hne=>hF b (dep_mem hd hG hi h0 (fun e=>hne (by cases l with | nil=>rfl | cons x xs=>cases e)) b off ha))
 rw [List.length_map,hk] at this;exact this
theorem zVH {α:Type} {f:α→List PV} {g:α→List Value} {sz k:Nat} {l:List α} {F:Nat→Prop} {w:World} {v:Value} (hv:∀ x,(f x).map PV.val1=g x) (hf:∀ x,(Nat.beq (f x).length sz && (f x).all PV.flat1)=true) (hk:l.length=k) (hF:∀ k,F k→k < w.heap.size) (h:RP F w (.l (l.map f)) v) :
  ∃ a c,v=.slice a k c∧k≤c∧qJQ sz a (l.map g) w:=by
 obtain ⟨a,c,rfl,hc,hS,_⟩:=slc_of_rp (flat_map hf l) hF h;rw [List.length_map,hk] at hc;exact ⟨a,c,by rw [List.length_map,hk],hc,by rw [valRows_map hv] at hS; exact hS⟩
theorem zGI {js:List J} {bx:List Iv}:∀ k,k≤js.length→k≤bx.length→(lks js bx k).length=k
 | 0,_,_=>rfl
 | k + 1,h1,h2=>by
  have e1:js[k]? = some (js[k]'(by omega)):=vQK (by omega);have e2:bx[k]? = some (bx[k]'(by omega)):=vQK (by omega);simp only [lks,e1,e2,List.length_append,vQW,vQV];rw [zGI k (by omega) (by omega)]
def F_n:Int→Option (Ret × Mem):=fun v=>some (.v (.n .i64 v),[])
def JF (i:Int) (j:J):Prop:=(0≤j.kind∧j.kind≤6)∧(-1≤j.parent∧j.parent < i)∧(-4194304≤j.off.x∧j.off.x≤4194304)∧(-4194304≤j.off.y∧j.off.y≤4194304)∧(-4194304≤j.off.z∧j.off.z≤4194304)∧(j.lo≤j.hi ∧ -limK j.kind≤j.lo∧j.hi≤limK j.kind) ∧
  (1≤j.weight∧j.weight≤1024)∧(1≤j.speed∧j.speed≤1048576)∧(1≤j.accel∧j.accel≤1048576)∧(1≤j.torque∧j.torque≤1099511627776)
def cjT {α:Type} (f:Int→α) (i:Int) (j:J):α:=(bif (decide (j.kind < 0)) then (f 803) else (bif (decide (6 < j.kind)) then (f 803) else (bif (decide (j.parent < (-1))) then (f 804) else (bif (decide (i≤j.parent)) then (f 804) else (bif (decide (j.off.x < (-4194304))) then (f 805) else (bif (decide (4194304 < j.off.x)) then (f 805) else (bif (decide (j.off.y < (-4194304))) then (f 805) else (bif (decide (4194304 < j.off.y)) then (f 805) else (bif (decide (j.off.z < (-4194304))) then (f 805) else (bif (decide (4194304 < j.off.z)) then (f 805) else (bif (decide (j.kind=0)) then (bif (decide (j.hi < j.lo)) then (f 806) else (bif (decide (j.lo < 0)) then (f 806) else (bif (decide (0 < j.hi)) then (f 806) else (bif (decide (1≤j.weight)) then (bif (decide (j.weight≤1024)) then (bif (decide (1≤j.speed)) then (bif (decide (j.speed≤1048576)) then (bif (decide (1≤j.accel)) then (bif (decide (j.accel≤1048576)) then (bif (decide (1≤j.torque)) then (bif (decide (j.torque≤1099511627776)) then (f 0) else (f 807)) else (f 807)) else (f 807)) else (f 807)) else (f 807)) else (f 807)) else (f 807)) else (f 807))))) else (bif (decide (j.kind=1)) then (bif (decide (j.hi < j.lo)) then (f 806) else (bif (decide (j.lo < (-524288))) then (f 806) else (bif (decide (524288 < j.hi)) then (f 806) else (bif (decide (1≤j.weight)) then (bif (decide (j.weight≤1024)) then (bif (decide (1≤j.speed)) then (bif (decide (j.speed≤1048576)) then (bif (decide (1≤j.accel)) then (bif (decide (j.accel≤1048576)) then (bif (decide (1≤j.torque)) then (bif (decide (j.torque≤1099511627776)) then (f 0) else (f 807)) else (f 807)) else (f 807)) else (f 807)) else (f 807)) else (f 807)) else (f 807)) else (f 807))))) else (bif (decide (j.kind=2)) then (bif (decide (j.hi < j.lo)) then (f 806) else (bif (decide (j.lo < (-524288))) then (f 806) else (bif (decide (524288 < j.hi)) then (f 806) else (bif (decide (1≤j.weight)) then (bif (decide (j.weight≤1024)) then (bif (decide (1≤j.speed)) then (bif (decide (j.speed≤1048576)) then (bif (decide (1≤j.accel)) then (bif (decide (j.accel≤1048576)) then (bif (decide (1≤j.torque)) then (bif (decide (j.torque≤1099511627776)) then (f 0) else (f 807)) else (f 807)) else (f 807)) else (f 807)) else (f 807)) else (f 807)) else (f 807)) else (f 807))))) else (bif (decide (j.kind=3)) then (bif (decide (j.hi < j.lo)) then (f 806) else (bif (decide (j.lo < (-524288))) then (f 806) else (bif (decide (524288 < j.hi)) then (f 806) else (bif (decide (1≤j.weight)) then (bif (decide (j.weight≤1024)) then (bif (decide (1≤j.speed)) then (bif (decide (j.speed≤1048576)) then (bif (decide (1≤j.accel)) then (bif (decide (j.accel≤1048576)) then (bif (decide (1≤j.torque)) then (bif (decide (j.torque≤1099511627776)) then (f 0) else (f 807)) else (f 807)) else (f 807)) else (f 807)) else (f 807)) else (f 807)) else (f 807)) else (f 807))))) else (bif (decide (j.hi < j.lo)) then (f 806) else (bif (decide (j.lo < (-4194304))) then (f 806) else (bif (decide (4194304 < j.hi)) then (f 806) else (bif (decide (1≤j.weight)) then (bif (decide (j.weight≤1024)) then (bif (decide (1≤j.speed)) then (bif (decide (j.speed≤1048576)) then (bif (decide (1≤j.accel)) then (bif (decide (j.accel≤1048576)) then (bif (decide (1≤j.torque)) then (bif (decide (j.torque≤1099511627776)) then (f 0) else (f 807)) else (f 807)) else (f 807)) else (f 807)) else (f 807)) else (f 807)) else (f 807)) else (f 807)))))))))))))))))))
noncomputable def qWY:List PV→Option (Bool × Ret):=fun ps=>match ps with
 | [.n .i64 n,.n .i64 k]=>some (decide (0 < k∧k≤9223372036854775807),.v (.n .i64 (n % k)))
 | _=>none
theorem zUE:zY Tryz.prog 10 qWY:=by
 intro ps r h;unfold qWY at h;split at h
 ·simp only [vQZ,vQY] at h;obtain ⟨hg,rfl⟩:=h;exact qY (qU Tryz.func10 (by kernel_rfl) (by kernel_rfl)) rfl rfl (fun w=>mRound _ _ (vJZ hg) w)
 ·cases h
noncomputable def L1:OrL:=(10,qWY) :: ([]:OrL)
theorem yHV:AllP (fun x:Nat × (List PV→Option (Bool × Ret))=>zY Tryz.prog x.1 x.2) L1:=⟨zUE,trivial⟩
noncomputable def o_iOf:List PV→Option (Bool × Ret):=fun ps=>match ps with
 | [.n .i64 x]=>some (true,.v (.a (ivC (Iv.of x))))
 | _=>none
theorem ok_iOf:zY Tryz.prog 100 o_iOf:=by
 intro ps r h;unfold o_iOf at h;split at h
 ·simp only [vQZ,vQY] at h;obtain ⟨hg,rfl⟩:=h;exact qY (qU Tryz.func100 (by kernel_rfl) (by kernel_rfl)) rfl rfl (fun w=>iOf _ w)
 ·cases h
noncomputable def L2:OrL:=(100,o_iOf) :: L1
theorem yVK:AllP (fun x:Nat × (List PV→Option (Bool × Ret))=>zY Tryz.prog x.1 x.2) L2:=⟨ok_iOf,yHV⟩
noncomputable def zGG:List PV→Option (Bool × Ret):=fun ps=>match ps with
 | [.a p',.a v']=>(poD p').bind fun p=>(v3D v').bind fun v=>some (true,.v (.a (v3C (Po.app p v))))
 | _=>none
theorem ok_pApply:zY Tryz.prog 130 zGG:=by
 intro ps r h;unfold zGG at h;split at h
 ·simp only [vQQ,vQZ,vQY] at h;obtain ⟨p,hp,v,hv,hg,rfl⟩:=h;rw [yKJ hp];rw [qUC hv];exact qY (qU Tryz.func130 (by kernel_rfl) (by kernel_rfl)) rfl rfl (fun w=>pApply _ _ _ _ _ _ _ _ _ _ _ _ _ _ _ _ _ _ _ _ _ _ _ _ _ _ _ _ _ _ w)
 ·cases h
noncomputable def L3:OrL:=(130,zGG) :: L2
theorem L3_ok:AllP (fun x:Nat × (List PV→Option (Bool × Ret))=>zY Tryz.prog x.1 x.2) L3:=⟨ok_pApply,yVK⟩
noncomputable def qWK:List PV→Option (Bool × Ret):=fun ps=>match ps with
 | [.a m',.a v']=>(m3D m').bind fun m=>(v3D v').bind fun v=>some (true,.v (.a (v3C (M3.apply m v))))
 | _=>none
theorem zUI:zY Tryz.prog 129 qWK:=by
 intro ps r h;unfold qWK at h;split at h
 ·simp only [vQQ,vQZ,vQY] at h;obtain ⟨m,hm,v,hv,hg,rfl⟩:=h;rw [zJV hm];rw [qUC hv];exact qY (qU Tryz.func129 (by kernel_rfl) (by kernel_rfl)) rfl rfl (fun w=>mApply _ _ _ _ _ _ _ _ _ _ _ _ _ _ _ _ _ _ _ _ _ _ _ _ w)
 ·cases h
noncomputable def L4:OrL:=(129,qWK) :: L3
theorem L4_ok:AllP (fun x:Nat × (List PV→Option (Bool × Ret))=>zY Tryz.prog x.1 x.2) L4:=⟨zUI,L3_ok⟩
noncomputable def qWJ:List PV→Option (Bool × Ret):=fun ps=>match ps with
 | [.a z']=>(z3D z').bind fun z=>some (true,.v (.a (v3C (V3.of z))))
 | _=>none
theorem zUF:zY Tryz.prog 69 qWJ:=by
 intro ps r h;unfold qWJ at h;split at h
 ·simp only [vQQ,vQZ,vQY] at h;obtain ⟨z,hz,hg,rfl⟩:=h;rw [zKC hz];exact qY (qU Tryz.func69 (by kernel_rfl) (by kernel_rfl)) rfl rfl (fun w=>mPoint _ _ _ w)
 ·cases h
noncomputable def L5:OrL:=(69,qWJ) :: L4
theorem L5_ok:AllP (fun x:Nat × (List PV→Option (Bool × Ret))=>zY Tryz.prog x.1 x.2) L5:=⟨zUF,L4_ok⟩
end Go.Proofs.YtbfcbojgnppacaaGreat.Od
namespace Go.Proofs.YtbfcbojgnppacaaGreat
open Go.Rx Rt Go.Sx Go.RowKit
def andI (k:IntKind) (x y:Int):Int:=k.wrap ((BitVec.ofInt k.bits x &&& BitVec.ofInt k.bits y).toNat)
theorem kG {β γ:Type} {F:β→γ} {c:Bool} {a b:γ} {f g:β} (_:a=F f) (_:b=F g):(bif c then a else b)=F (bif c then f else g):=by cases c <;> assumption
noncomputable def qWY:List PV→Option (Bool × Ret):=fun ps=>match ps with
 | [.n .i64 n,.n .i64 k]=>some (decide (0 < k∧k≤9223372036854775807),.v (.n .i64 (n % k)))
 | _=>none
theorem zUE:zY Tryz.prog 10 qWY:=by
 intro ps r h;unfold qWY at h;split at h
 ·simp only [vQZ,vQY] at h;obtain ⟨hg,rfl⟩:=h;exact qY (qU Tryz.func10 (by kernel_rfl) (by kernel_rfl)) rfl rfl (fun w=>mRound _ _ (vJZ hg) w)
 ·cases h
noncomputable def L1:OrL:=(10,qWY) :: ([]:OrL)
theorem yHV:AllP (fun x:Nat × (List PV→Option (Bool × Ret))=>zY Tryz.prog x.1 x.2) L1:=⟨zUE,trivial⟩
set_option maxRecDepth 100000 in
theorem tr_rUsable (x:Int) (y:Int) (z:Int):runK T (OrL.k L1) 60 52 [.a [.n .i64 x,.n .i64 y,.n .i64 z]] =
 bif (!((decide (x=0)) && ((decide (y=0)) && ((decide (z=0)) && true)))) then (bif (decide (x < (-16384))) then some (.v (.b false),[])
  else bif (decide (16384 < x)) then some (.v (.b false),[])
  else bif (decide (y < (-16384))) then some (.v (.b false),[])
  else bif (decide (16384 < y)) then some (.v (.b false),[])
  else bif (decide (z < (-16384))) then some (.v (.b false),[])
  else bif (decide (16384 < z)) then some (.v (.b false),[])
  else some (.v (.b true),[]))
 else some (.v (.b false),[]):=by kernel_rfl
noncomputable def rUse (x y z:Int):Bool:=(bif (!((decide (x=0)) && ((decide (y=0)) && ((decide (z=0)) && true)))) then (bif (decide (x < (-16384))) then false else (bif (decide (16384 < x)) then false else (bif (decide (y < (-16384))) then false else (bif (decide (16384 < y)) then false else (bif (decide (z < (-16384))) then false else (bif (decide (16384 < z)) then false else true)))))) else false)
def qJA:Bool→Option (Ret × Mem):=fun v=>some (.v (.b v),[])
theorem sp_rUsable (x y z:Int):runK T (OrL.k L1) 60 52 [.a [.n .i64 x,.n .i64 y,.n .i64 z]]=some (.v (.b (rUse x y z)),[]):=by
 rw [tr_rUsable];exact ((kG (F:=qJA) (kG (F:=qJA) rfl (kG (F:=qJA) rfl (kG (F:=qJA) rfl (kG (F:=qJA) rfl (kG (F:=qJA) rfl (kG (F:=qJA) rfl rfl)))))) rfl):_=qJA (rUse x y z))
noncomputable def zXZ:List PV→Option (Bool × Ret):=fun ps=>match ps with
 | [.a z']=>(z3D z').bind fun z=>some (true,.v (.b (rUse z.x z.y z.z)))
 | _=>none
theorem ok_rUsable:zY Tryz.prog 52 zXZ:=by
 intro ps r h;unfold zXZ at h;split at h
 ·simp only [vQQ,vQZ,vQY] at h;obtain ⟨z,hz,hg,rfl⟩:=h;rw [zKC hz];exact qX yH yZ (OrL.ok yHV) (sp_rUsable _ _ _)
 ·cases h
noncomputable def L2:OrL:=(52,zXZ) :: L1
theorem yVK:AllP (fun x:Nat × (List PV→Option (Bool × Ret))=>zY Tryz.prog x.1 x.2) L2:=⟨ok_rUsable,yHV⟩
set_option maxRecDepth 100000 in
theorem tr_mNormal (a:Int) (b:Int) (c:Int):runK T (OrL.k L2) 60 29 [.n .i64 a,.n .i64 b,.n .i64 c] =
 bif (decide ((andI .i64 a 8)=8)) then (bif rUse (Z3.mk (vJJ .i64 (a % 32769 - 16384)) (vJJ .i64 (b % 32769 - 16384)) (vJJ .i64 (c % 32769 - 16384))).x (Z3.mk (vJJ .i64 (a % 32769 - 16384)) (vJJ .i64 (b % 32769 - 16384)) (vJJ .i64 (c % 32769 - 16384))).y (Z3.mk (vJJ .i64 (a % 32769 - 16384)) (vJJ .i64 (b % 32769 - 16384)) (vJJ .i64 (c % 32769 - 16384))).z then some (.v (.a [.n .i64 (vJJ .i64 (a % 32769 - 16384)),.n .i64 (vJJ .i64 (b % 32769 - 16384)),.n .i64 (vJJ .i64 (c % 32769 - 16384))]),[])
  else some (.v (.a [.n .i64 1,.n .i64 0,.n .i64 0]),[]))
 else bif rUse (Z3.mk (vJJ .i64 (a % 41 - 20)) (vJJ .i64 (b % 41 - 20)) (vJJ .i64 (c % 41 - 20))).x (Z3.mk (vJJ .i64 (a % 41 - 20)) (vJJ .i64 (b % 41 - 20)) (vJJ .i64 (c % 41 - 20))).y (Z3.mk (vJJ .i64 (a % 41 - 20)) (vJJ .i64 (b % 41 - 20)) (vJJ .i64 (c % 41 - 20))).z then some (.v (.a [.n .i64 (vJJ .i64 (a % 41 - 20)),.n .i64 (vJJ .i64 (b % 41 - 20)),.n .i64 (vJJ .i64 (c % 41 - 20))]),[])
 else some (.v (.a [.n .i64 1,.n .i64 0,.n .i64 0]),[]):=by kernel_rfl
noncomputable def nrm (a b c:Int):Z3:=(bif (decide ((andI .i64 a 8)=8)) then (bif rUse (Z3.mk (vJJ .i64 (a % 32769 - 16384)) (vJJ .i64 (b % 32769 - 16384)) (vJJ .i64 (c % 32769 - 16384))).x (Z3.mk (vJJ .i64 (a % 32769 - 16384)) (vJJ .i64 (b % 32769 - 16384)) (vJJ .i64 (c % 32769 - 16384))).y (Z3.mk (vJJ .i64 (a % 32769 - 16384)) (vJJ .i64 (b % 32769 - 16384)) (vJJ .i64 (c % 32769 - 16384))).z then (Z3.mk (vJJ .i64 (a % 32769 - 16384)) (vJJ .i64 (b % 32769 - 16384)) (vJJ .i64 (c % 32769 - 16384))) else (Z3.mk 1 0 0)) else (bif rUse (Z3.mk (vJJ .i64 (a % 41 - 20)) (vJJ .i64 (b % 41 - 20)) (vJJ .i64 (c % 41 - 20))).x (Z3.mk (vJJ .i64 (a % 41 - 20)) (vJJ .i64 (b % 41 - 20)) (vJJ .i64 (c % 41 - 20))).y (Z3.mk (vJJ .i64 (a % 41 - 20)) (vJJ .i64 (b % 41 - 20)) (vJJ .i64 (c % 41 - 20))).z then (Z3.mk (vJJ .i64 (a % 41 - 20)) (vJJ .i64 (b % 41 - 20)) (vJJ .i64 (c % 41 - 20))) else (Z3.mk 1 0 0)))
def zZV:Z3→Option (Ret × Mem):=fun v=>some (.v (.a (z3C v)),[])
theorem sp_mNormal (a b c:Int):runK T (OrL.k L2) 60 29 [.n .i64 a,.n .i64 b,.n .i64 c]=some (.v (.a (z3C (nrm a b c))),[]):=by
 rw [tr_mNormal];exact ((kG (F:=zZV) (kG (F:=zZV) rfl rfl) (kG (F:=zZV) rfl rfl)):_=zZV (nrm a b c))
noncomputable def zXK:List PV→Option (Bool × Ret):=fun ps=>match ps with
 | [.n .i64 a,.n .i64 b,.n .i64 c]=>some (true,.v (.a (z3C (nrm a b c))))
 | _=>none
theorem ok_mNormal:zY Tryz.prog 29 zXK:=by
 intro ps r h;unfold zXK at h;split at h
 ·simp only [vQZ,vQY] at h;obtain ⟨hg,rfl⟩:=h;exact qX yH yZ (OrL.ok yVK) (sp_mNormal _ _ _)
 ·cases h
noncomputable def L3:OrL:=(29,zXK) :: L2
theorem L3_ok:AllP (fun x:Nat × (List PV→Option (Bool × Ret))=>zY Tryz.prog x.1 x.2) L3:=⟨ok_mNormal,yVK⟩
end Go.Proofs.YtbfcbojgnppacaaGreat
namespace Go.Proofs.YtbfcbojgnppacaaGreat.Oe
open Go.Rx Rt Go.Sx Go.RowKit
open Od
set_option maxRecDepth 100000 in
theorem tr_sDot (nx:Int) (ny:Int) (nz:Int) (v0:Int) (v1:Int) (v2:Int) (v3:Int) (v4:Int) (v5:Int):runK T (OrL.k L5) 60 70 [.a [.n .i64 nx,.n .i64 ny,.n .i64 nz],.a [.n .i64 v0,.n .i64 v1,.n .i64 v2,.n .i64 v3,.n .i64 v4,.n .i64 v5]] =
 bif (decide (nx < (-16384))) then some (.v (.t [.n .i64 0,.n .i64 0]),[])
 else bif (decide (16384 < nx)) then some (.v (.t [.n .i64 0,.n .i64 0]),[])
 else bif (decide (ny < (-16384))) then some (.v (.t [.n .i64 0,.n .i64 0]),[])
 else bif (decide (16384 < ny)) then some (.v (.t [.n .i64 0,.n .i64 0]),[])
 else bif (decide (nz < (-16384))) then some (.v (.t [.n .i64 0,.n .i64 0]),[])
 else bif (decide (16384 < nz)) then some (.v (.t [.n .i64 0,.n .i64 0]),[])
 else bif (!((decide (nx=0)) && ((decide (ny=0)) && ((decide (nz=0)) && true)))) then (bif (decide (v0 < (-268435456))) then some (.v (.t [.n .i64 0,.n .i64 0]),[])
  else bif (decide (v1 < v0)) then some (.v (.t [.n .i64 0,.n .i64 0]),[])
  else bif (decide (268435456 < v1)) then some (.v (.t [.n .i64 0,.n .i64 0]),[])
  else bif (decide (v2 < (-268435456))) then some (.v (.t [.n .i64 0,.n .i64 0]),[])
  else bif (decide (v3 < v2)) then some (.v (.t [.n .i64 0,.n .i64 0]),[])
  else bif (decide (268435456 < v3)) then some (.v (.t [.n .i64 0,.n .i64 0]),[])
  else bif (decide (v4 < (-268435456))) then some (.v (.t [.n .i64 0,.n .i64 0]),[])
  else bif (decide (v5 < v4)) then some (.v (.t [.n .i64 0,.n .i64 0]),[])
  else bif (decide (268435456 < v5)) then some (.v (.t [.n .i64 0,.n .i64 0]),[])
  else some (.v (.t [.n .i64 (vJJ .i64 ((vJJ .i64 ((vJJ .i64 (0 + (min (vJJ .i64 (nx * v0)) (vJJ .i64 (nx * v1))))) + (min (vJJ .i64 (ny * v2)) (vJJ .i64 (ny * v3))))) + (min (vJJ .i64 (nz * v4)) (vJJ .i64 (nz * v5))))),.n .i64 (vJJ .i64 ((vJJ .i64 ((vJJ .i64 (0 + (max (vJJ .i64 (nx * v0)) (vJJ .i64 (nx * v1))))) + (max (vJJ .i64 (ny * v2)) (vJJ .i64 (ny * v3))))) + (max (vJJ .i64 (nz * v4)) (vJJ .i64 (nz * v5)))))]),[]))
 else some (.v (.t [.n .i64 0,.n .i64 0]),[]):=by kernel_rfl
noncomputable def dot (nx ny nz v0 v1 v2 v3 v4 v5:Int):Int × Int:=(bif (decide (nx < (-16384))) then (0,0) else (bif (decide (16384 < nx)) then (0,0) else (bif (decide (ny < (-16384))) then (0,0) else (bif (decide (16384 < ny)) then (0,0) else (bif (decide (nz < (-16384))) then (0,0) else (bif (decide (16384 < nz)) then (0,0) else (bif (!((decide (nx=0)) && ((decide (ny=0)) && ((decide (nz=0)) && true)))) then (bif (decide (v0 < (-268435456))) then (0,0) else (bif (decide (v1 < v0)) then (0,0) else (bif (decide (268435456 < v1)) then (0,0) else (bif (decide (v2 < (-268435456))) then (0,0) else (bif (decide (v3 < v2)) then (0,0) else (bif (decide (268435456 < v3)) then (0,0) else (bif (decide (v4 < (-268435456))) then (0,0) else (bif (decide (v5 < v4)) then (0,0) else (bif (decide (268435456 < v5)) then (0,0) else ((vJJ .i64 ((vJJ .i64 ((vJJ .i64 (0 + (min (vJJ .i64 (nx * v0)) (vJJ .i64 (nx * v1))))) + (min (vJJ .i64 (ny * v2)) (vJJ .i64 (ny * v3))))) + (min (vJJ .i64 (nz * v4)) (vJJ .i64 (nz * v5))))),(vJJ .i64 ((vJJ .i64 ((vJJ .i64 (0 + (max (vJJ .i64 (nx * v0)) (vJJ .i64 (nx * v1))))) + (max (vJJ .i64 (ny * v2)) (vJJ .i64 (ny * v3))))) + (max (vJJ .i64 (nz * v4)) (vJJ .i64 (nz * v5))))))))))))))) else (0,0))))))))
def qJH:Int × Int→Option (Ret × Mem):=fun v=>some (.v (.t [.n .i64 v.1,.n .i64 v.2]),[])
theorem sp_sDot (nx ny nz v0 v1 v2 v3 v4 v5:Int):runK T (OrL.k L5) 60 70 [.a [.n .i64 nx,.n .i64 ny,.n .i64 nz],.a [.n .i64 v0,.n .i64 v1,.n .i64 v2,.n .i64 v3,.n .i64 v4,.n .i64 v5]]=some (.v (.t [.n .i64 (dot nx ny nz v0 v1 v2 v3 v4 v5).1,.n .i64 (dot nx ny nz v0 v1 v2 v3 v4 v5).2]),[]):=by
 rw [tr_sDot];exact ((kG (F:=qJH) rfl (kG (F:=qJH) rfl (kG (F:=qJH) rfl (kG (F:=qJH) rfl (kG (F:=qJH) rfl (kG (F:=qJH) rfl (kG (F:=qJH) (kG (F:=qJH) rfl (kG (F:=qJH) rfl (kG (F:=qJH) rfl (kG (F:=qJH) rfl (kG (F:=qJH) rfl (kG (F:=qJH) rfl (kG (F:=qJH) rfl (kG (F:=qJH) rfl (kG (F:=qJH) rfl rfl))))))))) rfl))))))):_=qJH (dot nx ny nz v0 v1 v2 v3 v4 v5))
noncomputable def yXY:List PV→Option (Bool × Ret):=fun ps=>match ps with
 | [.a z',.a v']=>(z3D z').bind fun z=>(v3D v').bind fun v=>some (true,.v (.t [.n .i64 (dot z.x z.y z.z v.x.lo v.x.hi v.y.lo v.y.hi v.z.lo v.z.hi).1,.n .i64 (dot z.x z.y z.z v.x.lo v.x.hi v.y.lo v.y.hi v.z.lo v.z.hi).2]))
 | _=>none
theorem ok_sDot:zY Tryz.prog 70 yXY:=by
 intro ps r h;unfold yXY at h;split at h
 ·simp only [vQQ,vQZ,vQY] at h;obtain ⟨z,hz,v,hv,hg,rfl⟩:=h;rw [zKC hz];rw [qUC hv];exact qX yH yZ (OrL.ok L5_ok) (sp_sDot _ _ _ _ _ _ _ _ _)
 ·cases h
noncomputable def L6:OrL:=(70,yXY) :: L5
theorem L6_ok:AllP (fun x:Nat × (List PV→Option (Bool × Ret))=>zY Tryz.prog x.1 x.2) L6:=⟨ok_sDot,L5_ok⟩
theorem mulb {a b:Int} (_: -16384≤a∧a≤16384) (_: -268435456≤b∧b≤268435456) : -4398046511104≤a * b∧a * b≤4398046511104:=by
 have h:(a * b).natAbs≤16384 * 268435456:=by
  rw [Int.natAbs_mul];exact Nat.mul_le_mul (by omega) (by omega)
 omega
theorem dot_in {nx ny nz v0 v1 v2 v3 v4 v5:Int} (hx : -16384≤nx∧nx≤16384) (hy : -16384≤ny∧ny≤16384) (hz : -16384≤nz∧nz≤16384) (_: -268435456≤v0∧v0≤v1∧v1≤268435456) (_: -268435456≤v2∧v2≤v3∧v3≤268435456) (_: -268435456≤v4∧v4≤v5∧v5≤268435456) (_:¬ (nx=0∧ny=0∧nz=0)) :
  dot nx ny nz v0 v1 v2 v3 v4 v5=(min (nx * v0) (nx * v1) + min (ny * v2) (ny * v3) + min (nz * v4) (nz * v5),max (nx * v0) (nx * v1) + max (ny * v2) (ny * v3) + max (nz * v4) (nz * v5)):=by
 have a0:=mulb hx (b:=v0) (by omega);have a1:=mulb hx (b:=v1) (by omega);have a2:=mulb hy (b:=v2) (by omega);have a3:=mulb hy (b:=v3) (by omega);have a4:=mulb hz (b:=v4) (by omega);have a5:=mulb hz (b:=v5) (by omega);have f:∀ {p:Prop} [Decidable p],¬ p→decide p=false:=fun h=>vYH h
 unfold dot;rw [f (p:=nx < -16384) (by omega),f (p:=16384 < nx) (by omega),f (p:=ny < -16384) (by omega),f (p:=16384 < ny) (by omega),f (p:=nz < -16384) (by omega),f (p:=16384 < nz) (by omega)];rw [f (p:=v0 < -268435456) (by omega),f (p:=v1 < v0) (by omega),f (p:=268435456 < v1) (by omega),f (p:=v2 < -268435456) (by omega),f (p:=v3 < v2) (by omega),f (p:=268435456 < v3) (by omega),f (p:=v4 < -268435456) (by omega),f (p:=v5 < v4) (by omega),f (p:=268435456 < v5) (by omega)];have hu:(!((decide (nx=0)) && ((decide (ny=0)) && ((decide (nz=0)) && true))))=true:=by
  simp only [Bool.and_true,Bool.not_eq_true',Bool.and_eq_false_iff,decide_eq_false_iff_not];omega
 rw [hu];simp only [vYV,vYG];rw [qK (x:=nx * v0) (by omega),qK (x:=nx * v1) (by omega),qK (x:=ny * v2) (by omega),qK (x:=ny * v3) (by omega),qK (x:=nz * v4) (by omega),qK (x:=nz * v5) (by omega)];generalize nx * v0=p0 at *; generalize nx * v1=p1 at *; generalize ny * v2=p2 at *; generalize ny * v3=p3 at *; generalize nz * v4=p4 at *; generalize nz * v5=p5 at *;rw [qK (x:=0 + min p0 p1) (by omega),qK (x:=0 + max p0 p1) (by omega),qK (x:=0 + min p0 p1 + min p2 p3) (by omega),qK (x:=0 + max p0 p1 + max p2 p3) (by omega),qK (x:=0 + min p0 p1 + min p2 p3 + min p4 p5) (by omega),qK (x:=0 + max p0 p1 + max p2 p3 + max p4 p5) (by omega)];simp only [Int.zero_add]
theorem bz {α:Type} {p:Prop} [Decidable p] {x z:α} (h:¬ p→x=z):(bif decide p then z else x)=z:=by
 by_cases hp:p
 ·rw [vJQ hp]; rfl
 ·rw [vYH hp]; exact h hp
end Go.Proofs.YtbfcbojgnppacaaGreat.Oe
namespace Go.Proofs.YtbfcbojgnppacaaGreat.Na
open Go.Rx Rt Go.Sx Go.RowKit Od
def okC (first:Bool) (c:Int):Bool:=(decide (97≤c) && decide (c≤122)) || (!first && ((decide (48≤c) && decide (c≤57)) || decide (c=95)))
def allC (s:ByteArray):Nat→Nat→Bool
 | 0,_=>true
 | k + 1,p=>okC (decide ((p:Int)=0)) (zZK s p) && allC s k (p + 1)
def wrld:ByteArray:=ByteArray.mk #[119,111,114,108,100]
def nmB (s:ByteArray):Bool:=!(decide ((s.size:Int)=0)) && (!(decide (16 < (s.size:Int))) && (!(s.toList == wrld.toList) && allC s s.size 0))
theorem okC_high {f:Bool} {c:Int} (h:128≤c):okC f c=false:=by
 unfold okC;rw [vYH (show ¬ c≤122 by omega),vYH (show ¬ c≤57 by omega),vYH (show ¬ c=95 by omega)]
 simp
theorem byteAt_get {s:ByteArray} {p:Nat} (h:p < s.size):zZK s p=((s[p]'h).toNat:Int):=by
 unfold zZK;rw [getElem?_pos s p h];rfl
def hTn (s:ByteArray) (pos:Nat):St:=⟨[(18,.p 18 0)],[(18,.itr s pos)]⟩
def yHC {α:Type} (first:Bool) (c:Int) (g k:α):α:=(bif (decide (97≤c)) then (bif (decide (c≤122)) then g else (bif first then k else (bif (decide (48≤c)) then (bif (decide (c≤57)) then g else (bif (!decide (c=95)) then k else g)) else (bif (!decide (c=95)) then k else g)))) else (bif first then k else (bif (decide (48≤c)) then (bif (decide (c≤57)) then g else (bif (!decide (c=95)) then k else g)) else (bif (!decide (c=95)) then k else g))))
theorem rawTn_eq {α:Type} (first:Bool) (c:Int) (g k:α):yHC first c g k=bif okC first c then g else k:=by
 unfold yHC okC;cases first <;> cases hA:decide (97≤c) <;> cases hB:decide (c≤122) <;> cases hC:decide (48≤c) <;> cases hD:decide (c≤57) <;> cases hE:decide (c=95) <;> first | rfl | (exfalso; simp only [decide_eq_true_eq,decide_eq_false_iff_not] at *; omega)
set_option maxRecDepth 100000 in
theorem rdTn (G:St→Option (Ret × Mem)) (K:Cont) (s:ByteArray) (pos:Nat):qUQ 60 (cxF T (OrL.k ([]:OrL)) 60 116 (ntmF T 116)) (ckF T (OrL.k ([]:OrL)) 60) (qG T 116 [0,1,0,1,1]) (fun e τ=>match e with
 | .normal=>G (qYD ((cxF T (OrL.k ([]:OrL)) 60 116 (ntmF T 116)).T.hint (cxF T (OrL.k ([]:OrL)) 60 116 (ntmF T 116)).me (yQ (qG T 116 [0,1,0,1,1]))) τ)
 | e=>K e (qYX ((cxF T (OrL.k ([]:OrL)) 60 116 (ntmF T 116)).T.hint (cxF T (OrL.k ([]:OrL)) 60 116 (ntmF T 116)).me (yQ (qG T 116 [0,1,0,1,1]))) τ)) (hTn s pos) =
 bif (decide (pos < s.size)) then yHC (decide ((pos:Int)=0)) ((Utf8.decode s pos).1:Int) (G (hTn s (pos + (Utf8.decode s pos).2))) (K .ret ⟨[(2,.v (.b false))],[]⟩) else (K (.exit 0) ⟨[],[]⟩):=by kernel_rfl
theorem lpTn (K:Cont) (s:ByteArray):∀ (k p m:Nat),p + k=s.size→k < m→LF 60 (cxF T (OrL.k ([]:OrL)) 60 116 (ntmF T 116)) (ckF T (OrL.k ([]:OrL)) 60) (qG T 116 [0,1,0,1,1]) ((cxF T (OrL.k ([]:OrL)) 60 116 (ntmF T 116)).T.hint (cxF T (OrL.k ([]:OrL)) 60 116 (ntmF T 116)).me (yQ (qG T 116 [0,1,0,1,1]))) K m (hTn s p)=bif allC s k p then (K (.exit 0) ⟨[],[]⟩) else (K .ret ⟨[(2,.v (.b false))],[]⟩)
 | 0,p,m + 1,hp,hm=>by
  refine (rdTn (fun σ=>LF 60 (cxF T (OrL.k ([]:OrL)) 60 116 (ntmF T 116)) (ckF T (OrL.k ([]:OrL)) 60) (qG T 116 [0,1,0,1,1]) ((cxF T (OrL.k ([]:OrL)) 60 116 (ntmF T 116)).T.hint (cxF T (OrL.k ([]:OrL)) 60 116 (ntmF T 116)).me (yQ (qG T 116 [0,1,0,1,1]))) K m σ) K s p).trans ?_;rw [vYH (show ¬ p < s.size by omega)];rfl
 | k + 1,p,m + 1,hp,hm=>by
  refine (rdTn (fun σ=>LF 60 (cxF T (OrL.k ([]:OrL)) 60 116 (ntmF T 116)) (ckF T (OrL.k ([]:OrL)) 60) (qG T 116 [0,1,0,1,1]) ((cxF T (OrL.k ([]:OrL)) 60 116 (ntmF T 116)).T.hint (cxF T (OrL.k ([]:OrL)) 60 116 (ntmF T 116)).me (yQ (qG T 116 [0,1,0,1,1]))) K m σ) K s p).trans ?_;have hlt:p < s.size:=by omega
  rw [vJQ hlt,vYV,rawTn_eq];simp only [allC];have hb:=byteAt_get hlt;by_cases h128:(s[p]'hlt).toNat < 128
  ·rw [Go.decode_ascii s p hlt h128,hb];rw [lpTn K s k (p + 1) m (by omega) (by omega)];cases okC (decide ((p:Int)=0)) ((s[p]'hlt).toNat:Int) <;> rfl
  ·have hd:=(Go.decode_high s p hlt (by omega)).1;rw [okC_high (c:=((Utf8.decode s p).1:Int)) (by omega),okC_high (c:=zZK s p) (by omega)];rfl
set_option maxRecDepth 100000 in
theorem pxTn (s:ByteArray):qGJ T (OrL.k ([]:OrL)) (zW [([0,1,0,1,1],kK (hTn s 0) (fun K=>bif decide (16 < (s.size:Int)) then none else (bif allC s s.size 0 then (K (.exit 0) ⟨[],[]⟩) else (K .ret ⟨[(2,.v (.b false))],[]⟩))))]) 60 116 [.s s] =
 (bif (decide ((s.size:Int)=0)) then some (.v (.b false),[]) else (bif (decide (16 < (s.size:Int))) then some (.v (.b false),[]) else (bif (s.toList == (ByteArray.mk #[119,111,114,108,100]).toList) then some (.v (.b false),[]) else (bif gSt (hTn s 0) (hTn s 0) then (bif decide (16 < (s.size:Int)) then none else (bif allC s s.size 0 then some (.v (.b true),[]) else some (.v (.b false),[]))) else none)))):=by kernel_rfl
theorem snd_Tn (s:ByteArray):zH Tryz.prog 116 [.s s] (.v (.b (nmB s))):=by
 refine kY (N:=60) (LO:=zW [([0,1,0,1,1],kK (hTn s 0) (fun K=>bif decide (16 < (s.size:Int)) then none else (bif allC s s.size 0 then (K (.exit 0) ⟨[],[]⟩) else (K .ret ⟨[(2,.v (.b false))],[]⟩))))]) yH yZ (OrL.ok (l:=[]) trivial) (fun p S hp => ?_) ?_
 ·refine qQQ (L:=qG T 116) (l:=[([0,1,0,1,1],kK (hTn s 0) (fun K=>bif decide (16 < (s.size:Int)) then none else (bif allC s s.size 0 then (K (.exit 0) ⟨[],[]⟩) else (K .ret ⟨[(2,.v (.b false))],[]⟩))))]) (show AllP _ [([0,1,0,1,1],kK (hTn s 0) (fun K=>bif decide (16 < (s.size:Int)) then none else (bif allC s s.size 0 then (K (.exit 0) ⟨[],[]⟩) else (K .ret ⟨[(2,.v (.b false))],[]⟩))))] from ⟨qZU fun K r hr => ?_,trivial⟩) p S hp;cases hq:decide (16 < (s.size:Int)) with
  | true=>rw [hq] at hr; cases hr
  | false =>
   rw [hq] at hr;have h16:=vJY hq;exact (lpTn K s s.size 0 60 (by omega) (by omega)).trans hr
 ·refine (pxTn s).trans ?_;rw [kX,vYV];show _=some (Ret.v (.b (!(decide ((s.size:Int)=0)) && (!(decide (16 < (s.size:Int))) && (!(s.toList == (ByteArray.mk #[119,111,114,108,100]).toList) && allC s s.size 0)))),[]);cases decide ((s.size:Int)=0) <;> cases decide (16 < (s.size:Int)) <;> cases (s.toList == (ByteArray.mk #[119,111,114,108,100]).toList) <;> cases allC s s.size 0 <;> rfl
def hRn (s:ByteArray) (i:Int):St:=⟨[(0,.v (.s s)),(3,.v (.n .i64 i))],[]⟩
def yHD {α:Type} (b:Bool) (first:Bool) (c:Int) (g k:Option α):Option α:=(bif b then (bif (decide (97≤c)) then (bif b then (bif (decide (c≤122)) then g else (bif first then k else (bif b then (bif (!decide (c=95)) then (bif b then (bif (decide (c < 48)) then k else (bif b then (bif (decide (57 < c)) then k else g) else none)) else none) else g) else none))) else none) else (bif first then k else (bif b then (bif (!decide (c=95)) then (bif b then (bif (decide (c < 48)) then k else (bif b then (bif (decide (57 < c)) then k else g) else none)) else none) else g) else none))) else none)
theorem rawRn_eq {α:Type} (first:Bool) (c:Int) (g k:Option α):yHD true first c g k=bif okC first c then g else k:=by
 unfold yHD okC;rw [show decide (c < 48) = !decide (48≤c) by rw [← decide_not]; exact decide_eq_decide.2 (by omega),show decide (57 < c) = !decide (c≤57) by rw [← decide_not]; exact decide_eq_decide.2 (by omega)];cases first <;> cases hA:decide (97≤c) <;> cases hB:decide (c≤122) <;> cases hC:decide (48≤c) <;> cases hD:decide (c≤57) <;> cases hE:decide (c=95) <;> first | rfl | (exfalso; simp only [decide_eq_true_eq,decide_eq_false_iff_not] at *; omega)
set_option maxRecDepth 100000 in
theorem rdRn (G:St→Option (Ret × Mem)) (K:Cont) (s:ByteArray) (i:Int):qUQ 60 (cxF T (OrL.k ([]:OrL)) 60 132 (ntmF T 132)) (ckF T (OrL.k ([]:OrL)) 60) (qG T 132 [0,1,0,1,1]) (fun e τ=>match e with
 | .normal=>G (qYD ((cxF T (OrL.k ([]:OrL)) 60 132 (ntmF T 132)).T.hint (cxF T (OrL.k ([]:OrL)) 60 132 (ntmF T 132)).me (yQ (qG T 132 [0,1,0,1,1]))) τ)
 | e=>K e (qYX ((cxF T (OrL.k ([]:OrL)) 60 132 (ntmF T 132)).T.hint (cxF T (OrL.k ([]:OrL)) 60 132 (ntmF T 132)).me (yQ (qG T 132 [0,1,0,1,1]))) τ)) (hRn s i) =
 bif (decide (i < (s.size:Int))) then yHD (inB i s.size) (decide (i=0)) (zZK s i.toNat) (G (hRn s (vJJ .i64 (i + 1)))) (K .ret ⟨[(2,.v (.b false))],[]⟩) else (K (.exit 0) ⟨[],[]⟩):=by kernel_rfl
theorem lpRn (K:Cont) (s:ByteArray) (hs:s.size≤1000):∀ (k p m:Nat),p + k=s.size→k < m→LF 60 (cxF T (OrL.k ([]:OrL)) 60 132 (ntmF T 132)) (ckF T (OrL.k ([]:OrL)) 60) (qG T 132 [0,1,0,1,1]) ((cxF T (OrL.k ([]:OrL)) 60 132 (ntmF T 132)).T.hint (cxF T (OrL.k ([]:OrL)) 60 132 (ntmF T 132)).me (yQ (qG T 132 [0,1,0,1,1]))) K m (hRn s p)=bif allC s k p then (K (.exit 0) ⟨[],[]⟩) else (K .ret ⟨[(2,.v (.b false))],[]⟩)
 | 0,p,m + 1,hp,hm=>by
  refine (rdRn (fun σ=>LF 60 (cxF T (OrL.k ([]:OrL)) 60 132 (ntmF T 132)) (ckF T (OrL.k ([]:OrL)) 60) (qG T 132 [0,1,0,1,1]) ((cxF T (OrL.k ([]:OrL)) 60 132 (ntmF T 132)).T.hint (cxF T (OrL.k ([]:OrL)) 60 132 (ntmF T 132)).me (yQ (qG T 132 [0,1,0,1,1]))) K m σ) K s p).trans ?_;rw [vYH (show ¬ (p:Int) < (s.size:Int) by omega)];rfl
 | k + 1,p,m + 1,hp,hm=>by
  refine (rdRn (fun σ=>LF 60 (cxF T (OrL.k ([]:OrL)) 60 132 (ntmF T 132)) (ckF T (OrL.k ([]:OrL)) 60) (qG T 132 [0,1,0,1,1]) ((cxF T (OrL.k ([]:OrL)) 60 132 (ntmF T 132)).T.hint (cxF T (OrL.k ([]:OrL)) 60 132 (ntmF T 132)).me (yQ (qG T 132 [0,1,0,1,1]))) K m σ) K s p).trans ?_;have hB:inB (p:Int) s.size=true:=by unfold inB; rw [vJQ (show (0:Int)≤p by omega),vJQ (show (p:Int).toNat < s.size by omega)]; rfl
  rw [vJQ (show (p:Int) < (s.size:Int) by omega),vYV,hB,rawRn_eq];simp only [allC];rw [show vJJ .i64 ((p:Int) + 1)=((p + 1:Nat):Int) by rw [qK (by omega)]; omega,lpRn K s hs k (p + 1) m (by omega) (by omega)];show (bif okC (decide ((p:Int)=0)) (zZK s (p:Int).toNat) then _ else _)=_;rw [show (p:Int).toNat=p by omega];cases okC (decide ((p:Int)=0)) (zZK s p) <;> rfl
set_option maxRecDepth 100000 in
theorem pxRn (s:ByteArray):qGJ T (OrL.k ([]:OrL)) (zW [([0,1,0,1,1],kK (hRn s 0) (fun K=>bif decide (16 < (s.size:Int)) then none else (bif allC s s.size 0 then (K (.exit 0) ⟨[],[]⟩) else (K .ret ⟨[(2,.v (.b false))],[]⟩))))]) 60 132 [.s s] =
 (bif (decide ((s.size:Int) < 1)) then some (.v (.b false),[]) else (bif (decide (16 < (s.size:Int))) then some (.v (.b false),[]) else (bif (s.toList == (ByteArray.mk #[119,111,114,108,100]).toList) then some (.v (.b false),[]) else (bif gSt (hRn s 0) (hRn s 0) then (bif decide (16 < (s.size:Int)) then none else (bif allC s s.size 0 then some (.v (.b true),[]) else some (.v (.b false),[]))) else none)))):=by kernel_rfl
theorem snd_Rn (s:ByteArray):zH Tryz.prog 132 [.s s] (.v (.b (nmB s))):=by
 refine kY (N:=60) (LO:=zW [([0,1,0,1,1],kK (hRn s 0) (fun K=>bif decide (16 < (s.size:Int)) then none else (bif allC s s.size 0 then (K (.exit 0) ⟨[],[]⟩) else (K .ret ⟨[(2,.v (.b false))],[]⟩))))]) yH yZ (OrL.ok (l:=[]) trivial) (fun p S hp => ?_) ?_
 ·refine qQQ (L:=qG T 132) (l:=[([0,1,0,1,1],kK (hRn s 0) (fun K=>bif decide (16 < (s.size:Int)) then none else (bif allC s s.size 0 then (K (.exit 0) ⟨[],[]⟩) else (K .ret ⟨[(2,.v (.b false))],[]⟩))))]) (show AllP _ [([0,1,0,1,1],kK (hRn s 0) (fun K=>bif decide (16 < (s.size:Int)) then none else (bif allC s s.size 0 then (K (.exit 0) ⟨[],[]⟩) else (K .ret ⟨[(2,.v (.b false))],[]⟩))))] from ⟨qZU fun K r hr => ?_,trivial⟩) p S hp;cases hq:decide (16 < (s.size:Int)) with
  | true=>rw [hq] at hr; cases hr
  | false =>
   rw [hq] at hr;have h16:=vJY hq;exact (lpRn K s (by omega) s.size 0 60 (by omega) (by omega)).trans hr
 ·refine (pxRn s).trans ?_;rw [kX,vYV];rw [show decide ((s.size:Int) < 1)=decide ((s.size:Int)=0) from decide_eq_decide.2 (by omega)];show _=some (Ret.v (.b (!(decide ((s.size:Int)=0)) && (!(decide (16 < (s.size:Int))) && (!(s.toList == (ByteArray.mk #[119,111,114,108,100]).toList) && allC s s.size 0)))),[]);cases decide ((s.size:Int)=0) <;> cases decide (16 < (s.size:Int)) <;> cases (s.toList == (ByteArray.mk #[119,111,114,108,100]).toList) <;> cases allC s s.size 0 <;> rfl
end Go.Proofs.YtbfcbojgnppacaaGreat.Na
namespace Go.Proofs.YtbfcbojgnppacaaGreat.Nb
open Go.Rx Rt Go.Sx Go.RowKit Od
open Na
def fJ (js:Nat→J):Nat→List PV:=fun v=>jp (js v)
def fM (ms:Nat→Ms):Nat→List PV:=fun v=>mp (ms v)
def fnd (js:Nat→J) (nm:ByteArray):Nat→Nat→Int
 | 0,_ => -1
 | k + 1,p=>bif ((js p).name.toList == nm.toList) then (p:Int) else fnd js nm k (p + 1)
def dup (js:Nat→J) (nm:ByteArray):Nat→Nat→Bool
 | 0,_=>false
 | k + 1,p=>((js p).name.toList == nm.toList) || dup js nm k (p + 1)
def hF (js:Nat→J) (ms:Nat→Ms) (n m:Nat) (nm:ByteArray) (i:Int):St:=⟨[(1,.v (.s nm)),(2,.p 2 0),(8,.v (.n .i64 (n:Int))),(9,.v (.n .i64 i))],[(2,.blk [.v (.lf n (fJ js)),.v (.lf m (fM ms))])]⟩
set_option maxRecDepth 100000 in
theorem rdF (G:St→Option (Ret × Mem)) (K:Cont) (js:Nat→J) (ms:Nat→Ms) (n m:Nat) (nm:ByteArray) (i:Int):qUQ 60 (cxF T (OrL.k ([]:OrL)) 60 117 (ntmF T 117)) (ckF T (OrL.k ([]:OrL)) 60) (qG T 117 [0,1,0,1]) (fun e τ=>match e with
 | .normal=>G (qYD ((cxF T (OrL.k ([]:OrL)) 60 117 (ntmF T 117)).T.hint (cxF T (OrL.k ([]:OrL)) 60 117 (ntmF T 117)).me (yQ (qG T 117 [0,1,0,1]))) τ)
 | e=>K e (qYX ((cxF T (OrL.k ([]:OrL)) 60 117 (ntmF T 117)).T.hint (cxF T (OrL.k ([]:OrL)) 60 117 (ntmF T 117)).me (yQ (qG T 117 [0,1,0,1]))) τ)) (hF js ms n m nm i) =
 (bif (decide (i < (n:Int))) then (bif (inB i n) then (bif ((js (i).toNat).name.toList == nm.toList) then (K .ret ⟨[(4,.v (.n .i64 i))],[]⟩)
 else (G (hF js ms n m nm (vJJ .i64 (i + 1)))))
 else none)
 else (K (.exit 0) ⟨[],[]⟩)):=by kernel_rfl
theorem lpF (K:Cont) (js:Nat→J) (ms:Nat→Ms) (n m:Nat) (nm:ByteArray) (hn:n≤1000):∀ (k p q:Nat),p + k=n→k < q→LF 60 (cxF T (OrL.k ([]:OrL)) 60 117 (ntmF T 117)) (ckF T (OrL.k ([]:OrL)) 60) (qG T 117 [0,1,0,1]) ((cxF T (OrL.k ([]:OrL)) 60 117 (ntmF T 117)).T.hint (cxF T (OrL.k ([]:OrL)) 60 117 (ntmF T 117)).me (yQ (qG T 117 [0,1,0,1]))) K q (hF js ms n m nm p)=(bif decide (fnd js nm k p = -1) then K (.exit 0) ⟨[],[]⟩ else K .ret ⟨[(4,.v (.n .i64 (fnd js nm k p)))],[]⟩)
 | 0,p,q + 1,hp,hq=>by
  refine (rdF (fun σ=>LF 60 (cxF T (OrL.k ([]:OrL)) 60 117 (ntmF T 117)) (ckF T (OrL.k ([]:OrL)) 60) (qG T 117 [0,1,0,1]) ((cxF T (OrL.k ([]:OrL)) 60 117 (ntmF T 117)).T.hint (cxF T (OrL.k ([]:OrL)) 60 117 (ntmF T 117)).me (yQ (qG T 117 [0,1,0,1]))) K q σ) K js ms n m nm p).trans ?_;rw [vYH (show ¬ (p:Int) < (n:Int) by omega)];rfl
 | k + 1,p,q + 1,hp,hq=>by
  refine (rdF (fun σ=>LF 60 (cxF T (OrL.k ([]:OrL)) 60 117 (ntmF T 117)) (ckF T (OrL.k ([]:OrL)) 60) (qG T 117 [0,1,0,1]) ((cxF T (OrL.k ([]:OrL)) 60 117 (ntmF T 117)).T.hint (cxF T (OrL.k ([]:OrL)) 60 117 (ntmF T 117)).me (yQ (qG T 117 [0,1,0,1]))) K q σ) K js ms n m nm p).trans ?_;rw [vJQ (show (p:Int) < (n:Int) by omega),uJ (show p < n by omega),qYK (by omega),lpF K js ms n m nm hn k (p + 1) q (by omega) (by omega),toN];by_cases hq:((js p).name.toList == nm.toList)=true
  ·simp only [fnd,hq,vYV,vYH (show ¬ (p:Int) = -1 by omega),vYG]
  ·rw [Bool.not_eq_true] at hq;simp only [fnd,hq,vYV,vYG]
set_option maxRecDepth 100000 in
theorem pxF (js:Nat→J) (ms:Nat→Ms) (n m:Nat) (nm:ByteArray):qGJ T (OrL.k ([]:OrL)) (zW [([0,1,0,1],kK (hF js ms n m nm 0) (fun K=>(bif decide (fnd js nm n 0 = -1) then K (.exit 0) ⟨[],[]⟩ else K .ret ⟨[(4,.v (.n .i64 (fnd js nm n 0)))],[]⟩)))]) 60 117 [(.a [.lf n (fJ js),.lf m (fM ms)]),.s nm] =
 bif gSt (hF js ms n m nm 0) (hF js ms n m nm 0) then (bif decide (fnd js nm n 0 = -1) then some (.v (.n .i64 (-1)),[]) else some (.v (.n .i64 (fnd js nm n 0)),[])) else none:=by kernel_rfl
theorem snd_find (js:Nat→J) (ms:Nat→Ms) (n m:Nat) (nm:ByteArray) (_:n≤50):zH Tryz.prog 117 [(.a [.lf n (fJ js),.lf m (fM ms)]),.s nm] (.v (.n .i64 (fnd js nm n 0))):=by
 refine kY (N:=60) (LO:=zW [([0,1,0,1],kK (hF js ms n m nm 0) (fun K=>(bif decide (fnd js nm n 0 = -1) then K (.exit 0) ⟨[],[]⟩ else K .ret ⟨[(4,.v (.n .i64 (fnd js nm n 0)))],[]⟩)))]) yH yZ (OrL.ok (l:=[]) trivial) (fun p S hp => ?_) ?_
 ·refine qQQ (L:=qG T 117) (l:=[([0,1,0,1],kK (hF js ms n m nm 0) (fun K=>(bif decide (fnd js nm n 0 = -1) then K (.exit 0) ⟨[],[]⟩ else K .ret ⟨[(4,.v (.n .i64 (fnd js nm n 0)))],[]⟩)))]) (show AllP _ [([0,1,0,1],kK (hF js ms n m nm 0) (fun K=>(bif decide (fnd js nm n 0 = -1) then K (.exit 0) ⟨[],[]⟩ else K .ret ⟨[(4,.v (.n .i64 (fnd js nm n 0)))],[]⟩)))] from ⟨qZU fun K r hr => ?_,trivial⟩) p S hp;exact (lpF K js ms n m nm (by omega) n 0 60 (by omega) (by omega)).trans hr
 ·refine (pxF js ms n m nm).trans ?_;rw [kX,vYV];by_cases h:fnd js nm n 0 = -1
  ·rw [vJQ h,h]; rfl
  ·rw [vYH h]; rfl
theorem fnd_dup (js:Nat→J) (i:Nat):∀ (k p:Nat),p≤i→i < p + k→(fnd js (js i).name k p=(i:Int) ↔ dup js (js i).name (i - p) p=false)
 | 0,p,h1,h2=>by omega
 | k + 1,p,h1,h2=>by
  by_cases he:p=i
  ·subst he;rw [Nat.sub_self];simp [fnd,dup]
  ·have ih:=fnd_dup js i k (p + 1) (by omega) (by omega);rw [show i - p=(i - (p + 1)) + 1 by omega];simp only [fnd,dup];cases ((js p).name.toList == (js i).name.toList)
   ·simpa using ih
   ·simp; omega
def cpT {α:Type} (f:Int→α) (i:Int) (j:J):α:=(bif (decide (j.kind < 0)) then (f 803) else (bif (decide (6 < j.kind)) then (f 803) else (bif (decide (j.parent < (-1))) then (f 804) else (bif (decide (i≤j.parent)) then (f 804) else (bif (decide (j.off.x < (-4194304))) then (f 805) else (bif (decide (4194304 < j.off.x)) then (f 805) else (bif (decide (j.off.y < (-4194304))) then (f 805) else (bif (decide (4194304 < j.off.y)) then (f 805) else (bif (decide (j.off.z < (-4194304))) then (f 805) else (bif (decide (4194304 < j.off.z)) then (f 805) else (bif (decide (j.kind=1)) then (bif (decide (j.hi < j.lo)) then (f 806) else (bif (decide (j.lo < (-524288))) then (f 806) else (bif (decide (524288 < j.hi)) then (f 806) else (bif (decide (1≤j.weight)) then (bif (decide (j.weight≤1024)) then (bif (decide (1≤j.speed)) then (bif (decide (j.speed≤1048576)) then (bif (decide (1≤j.accel)) then (bif (decide (j.accel≤1048576)) then (bif (decide (1≤j.torque)) then (bif (decide (j.torque≤1099511627776)) then (f 0) else (f 807)) else (f 807)) else (f 807)) else (f 807)) else (f 807)) else (f 807)) else (f 807)) else (f 807))))) else (bif (decide (j.kind=2)) then (bif (decide (j.hi < j.lo)) then (f 806) else (bif (decide (j.lo < (-524288))) then (f 806) else (bif (decide (524288 < j.hi)) then (f 806) else (bif (decide (1≤j.weight)) then (bif (decide (j.weight≤1024)) then (bif (decide (1≤j.speed)) then (bif (decide (j.speed≤1048576)) then (bif (decide (1≤j.accel)) then (bif (decide (j.accel≤1048576)) then (bif (decide (1≤j.torque)) then (bif (decide (j.torque≤1099511627776)) then (f 0) else (f 807)) else (f 807)) else (f 807)) else (f 807)) else (f 807)) else (f 807)) else (f 807)) else (f 807))))) else (bif (decide (j.kind=3)) then (bif (decide (j.hi < j.lo)) then (f 806) else (bif (decide (j.lo < (-524288))) then (f 806) else (bif (decide (524288 < j.hi)) then (f 806) else (bif (decide (1≤j.weight)) then (bif (decide (j.weight≤1024)) then (bif (decide (1≤j.speed)) then (bif (decide (j.speed≤1048576)) then (bif (decide (1≤j.accel)) then (bif (decide (j.accel≤1048576)) then (bif (decide (1≤j.torque)) then (bif (decide (j.torque≤1099511627776)) then (f 0) else (f 807)) else (f 807)) else (f 807)) else (f 807)) else (f 807)) else (f 807)) else (f 807)) else (f 807))))) else (bif (decide (j.kind=4)) then (bif (decide (j.hi < j.lo)) then (f 806) else (bif (decide (j.lo < (-4194304))) then (f 806) else (bif (decide (4194304 < j.hi)) then (f 806) else (bif (decide (1≤j.weight)) then (bif (decide (j.weight≤1024)) then (bif (decide (1≤j.speed)) then (bif (decide (j.speed≤1048576)) then (bif (decide (1≤j.accel)) then (bif (decide (j.accel≤1048576)) then (bif (decide (1≤j.torque)) then (bif (decide (j.torque≤1099511627776)) then (f 0) else (f 807)) else (f 807)) else (f 807)) else (f 807)) else (f 807)) else (f 807)) else (f 807)) else (f 807))))) else (bif (decide (j.kind=5)) then (bif (decide (j.hi < j.lo)) then (f 806) else (bif (decide (j.lo < (-4194304))) then (f 806) else (bif (decide (4194304 < j.hi)) then (f 806) else (bif (decide (1≤j.weight)) then (bif (decide (j.weight≤1024)) then (bif (decide (1≤j.speed)) then (bif (decide (j.speed≤1048576)) then (bif (decide (1≤j.accel)) then (bif (decide (j.accel≤1048576)) then (bif (decide (1≤j.torque)) then (bif (decide (j.torque≤1099511627776)) then (f 0) else (f 807)) else (f 807)) else (f 807)) else (f 807)) else (f 807)) else (f 807)) else (f 807)) else (f 807))))) else (bif (decide (j.kind=6)) then (bif (decide (j.hi < j.lo)) then (f 806) else (bif (decide (j.lo < (-4194304))) then (f 806) else (bif (decide (4194304 < j.hi)) then (f 806) else (bif (decide (1≤j.weight)) then (bif (decide (j.weight≤1024)) then (bif (decide (1≤j.speed)) then (bif (decide (j.speed≤1048576)) then (bif (decide (1≤j.accel)) then (bif (decide (j.accel≤1048576)) then (bif (decide (1≤j.torque)) then (bif (decide (j.torque≤1099511627776)) then (f 0) else (f 807)) else (f 807)) else (f 807)) else (f 807)) else (f 807)) else (f 807)) else (f 807)) else (f 807))))) else (bif (decide (j.hi < j.lo)) then (f 806) else (bif (decide (j.lo < 0)) then (f 806) else (bif (decide (0 < j.hi)) then (f 806) else (bif (decide (1≤j.weight)) then (bif (decide (j.weight≤1024)) then (bif (decide (1≤j.speed)) then (bif (decide (j.speed≤1048576)) then (bif (decide (1≤j.accel)) then (bif (decide (j.accel≤1048576)) then (bif (decide (1≤j.torque)) then (bif (decide (j.torque≤1099511627776)) then (f 0) else (f 807)) else (f 807)) else (f 807)) else (f 807)) else (f 807)) else (f 807)) else (f 807)) else (f 807)))))))))))))))))))))
theorem cp_cj {α:Type} (f:Int→α) (i:Int) (j:J):cpT f i j=cjT f i j:=by
 unfold cpT cjT;by_cases h0:j.kind < 0
 ·simp only [vJQ h0,vYV]
 by_cases h6:6 < j.kind
 ·simp only [vJQ h6,vYV]
 rcases (by omega:j.kind=0 ∨ j.kind=1 ∨ j.kind=2 ∨ j.kind=3 ∨ j.kind=4 ∨ j.kind=5 ∨ j.kind=6) with h | h | h | h | h | h | h
 ·simp only [vJQ (show j.kind=0 by omega),vYH (show ¬ j.kind=1 by omega),vYH (show ¬ j.kind=2 by omega),vYH (show ¬ j.kind=3 by omega),vYH (show ¬ j.kind=4 by omega),vYH (show ¬ j.kind=5 by omega),vYH (show ¬ j.kind=6 by omega),vYV,vYG]
 ·simp only [vYH (show ¬ j.kind=0 by omega),vJQ (show j.kind=1 by omega),vYH (show ¬ j.kind=2 by omega),vYH (show ¬ j.kind=3 by omega),vYH (show ¬ j.kind=4 by omega),vYH (show ¬ j.kind=5 by omega),vYH (show ¬ j.kind=6 by omega),vYV,vYG]
 ·simp only [vYH (show ¬ j.kind=0 by omega),vYH (show ¬ j.kind=1 by omega),vJQ (show j.kind=2 by omega),vYH (show ¬ j.kind=3 by omega),vYH (show ¬ j.kind=4 by omega),vYH (show ¬ j.kind=5 by omega),vYH (show ¬ j.kind=6 by omega),vYV,vYG]
 ·simp only [vYH (show ¬ j.kind=0 by omega),vYH (show ¬ j.kind=1 by omega),vYH (show ¬ j.kind=2 by omega),vJQ (show j.kind=3 by omega),vYH (show ¬ j.kind=4 by omega),vYH (show ¬ j.kind=5 by omega),vYH (show ¬ j.kind=6 by omega),vYV,vYG]
 ·simp only [vYH (show ¬ j.kind=0 by omega),vYH (show ¬ j.kind=1 by omega),vYH (show ¬ j.kind=2 by omega),vYH (show ¬ j.kind=3 by omega),vJQ (show j.kind=4 by omega),vYH (show ¬ j.kind=5 by omega),vYH (show ¬ j.kind=6 by omega),vYV,vYG]
 ·simp only [vYH (show ¬ j.kind=0 by omega),vYH (show ¬ j.kind=1 by omega),vYH (show ¬ j.kind=2 by omega),vYH (show ¬ j.kind=3 by omega),vYH (show ¬ j.kind=4 by omega),vJQ (show j.kind=5 by omega),vYH (show ¬ j.kind=6 by omega),vYV,vYG]
 ·simp only [vYH (show ¬ j.kind=0 by omega),vYH (show ¬ j.kind=1 by omega),vYH (show ¬ j.kind=2 by omega),vYH (show ¬ j.kind=3 by omega),vYH (show ¬ j.kind=4 by omega),vYH (show ¬ j.kind=5 by omega),vJQ (show j.kind=6 by omega),vYV,vYG]
def jErr (js:Nat→J) (n i:Nat):Int:=bif nmB (js i).name then (bif dup js (js i).name i 0 then 802 else cjT (fun e=>e) i (js i)) else 802
noncomputable def o_nm:List PV→Option (Bool × Ret):=fun ps=>match ps with
 | [.s s]=>some (true,.v (.b (nmB s)))
 | _=>none
theorem ok_tn:zY Tryz.prog 116 o_nm:=by
 intro ps r hh;unfold o_nm at hh;split at hh
 ·simp only [vQZ,vQY] at hh;obtain ⟨_,rfl⟩:=hh;exact snd_Tn _
 ·cases hh
theorem ok_rn:zY Tryz.prog 132 o_nm:=by
 intro ps r hh;unfold o_nm at hh;split at hh
 ·simp only [vQZ,vQY] at hh;obtain ⟨_,rfl⟩:=hh;exact snd_Rn _
 ·cases hh
noncomputable def o_fd (js:Nat→J) (ms:Nat→Ms) (n m:Nat):List PV→Option (Bool × Ret):=fun ps=>match ps with
 | [r,.s s]=>some (gEq r (.a [.lf n (fJ js),.lf m (fM ms)]),.v (.n .i64 (fnd js s n 0)))
 | _=>none
theorem yVF (js:Nat→J) (ms:Nat→Ms) (n m:Nat) (hn:n≤50):zY Tryz.prog 117 (o_fd js ms n m):=by
 intro ps r hh;unfold o_fd at hh;split at hh
 ·simp only [vQZ,vQY] at hh;obtain ⟨hg,rfl⟩:=hh;obtain rfl:=zQV hg;exact snd_find _ _ _ _ _ hn
 ·cases hh
set_option maxRecDepth 100000 in
theorem tr_cjp (js:Nat→J) (ms:Nat→Ms) (n m:Nat) (i:Int):runK T (OrL.k [(116,o_nm),(117,o_fd js ms n m)]) 60 88 [(.a [.lf n (fJ js),.lf m (fM ms)]),.n .i64 i] =
 bif inB i n then (bif nmB (js i.toNat).name then (bif gEq (.a [.lf n (fJ js),.lf m (fM ms)]) (.a [.lf n (fJ js),.lf m (fM ms)]) then (bif !decide (fnd js (js i.toNat).name n 0=i) then some (.v (.n .i64 802),[]) else cpT F_n i (js i.toNat)) else none) else some (.v (.n .i64 802),[])) else none:=by kernel_rfl
theorem F_cj (i:Int) (j:J):cjT F_n i j=F_n (cjT (fun e=>e) i j):=by
 unfold cjT;simp only [Bool.apply_cond F_n]
theorem snd_cjp (js:Nat→J) (ms:Nat→Ms) (n m:Nat) (hn:n≤50) (i:Nat) (hi:i < n):zH Tryz.prog 88 [(.a [.lf n (fJ js),.lf m (fM ms)]),.n .i64 i] (.v (.n .i64 (jErr js n i))):=by
 refine qX (N:=60) yH yZ (OrL.ok (l:=[(116,o_nm),(117,o_fd js ms n m)]) ⟨ok_tn,yVF js ms n m hn,trivial⟩) ?_;rw [tr_cjp,uJ hi,vYV,toN,zQW,vYV,cp_cj,F_cj];have hd:=fnd_dup js i n 0 (by omega) (by omega);rw [Nat.sub_zero] at hd;unfold jErr;cases nmB (js i).name with
 | false=>rfl
 | true =>
  cases hq:dup js (js i).name i 0 with
  | false=>rw [vJQ (hd.2 hq)]; rfl
  | true=>rw [vYH (fun h=>by rw [hd.1 h] at hq; cases hq)]; rfl
def hC (js:Nat→J) (n:Nat) (i:Int) (k:Int):St:=⟨[(0,.v (.lf n (fJ js))),(1,.v (.n .i64 i)),(5,.p 5 0),(6,.v (.n .i64 k))],[(5,.blk [.v (.s (js (i).toNat).name),.v (.n .i64 (js (i).toNat).kind),.v (.n .i64 (js (i).toNat).parent),.v (.n .i64 (js (i).toNat).off.x),.v (.n .i64 (js (i).toNat).off.y),.v (.n .i64 (js (i).toNat).off.z),.v (.n .i64 (js (i).toNat).lo),.v (.n .i64 (js (i).toNat).hi),.v (.n .i64 (js (i).toNat).weight),.v (.n .i64 (js (i).toNat).speed),.v (.n .i64 (js (i).toNat).accel),.v (.n .i64 (js (i).toNat).torque)])]⟩
end Go.Proofs.YtbfcbojgnppacaaGreat.Nb
namespace Go.Proofs.YtbfcbojgnppacaaGreat.Nc
open Go.Rx Rt Go.Sx Go.RowKit Od
open Na Nb
def MOK (n:Nat) (q:Ms):Prop:=(0≤q.link∧q.link < n)∧(1≤q.mass∧q.mass≤65536)∧(-4194304≤q.p.x∧q.p.x≤4194304)∧(-4194304≤q.p.y∧q.p.y≤4194304)∧(-4194304≤q.p.z∧q.p.z≤4194304)
instance (n:Nat) (q:Ms):Decidable (MOK n q):=by unfold MOK; exact inferInstance
def mokB (n:Nat) (q:Ms):Bool:=decide (MOK n q)
def mAll (ms:Nat→Ms) (n:Nat):Nat→Nat→Bool
 | 0,_=>true
 | k + 1,p=>mokB n (ms p) && mAll ms n k (p + 1)
def fbad (ms:Nat→Ms) (n:Nat):Nat→Nat→Int
 | 0,_ => -1
 | k + 1,p=>bif mokB n (ms p) then fbad ms n k (p + 1) else (p:Int)
theorem fbad_all (ms:Nat→Ms) (n:Nat):∀ k p,decide (0≤fbad ms n k p) = !mAll ms n k p
 | 0,p=>rfl
 | k + 1,p=>by
  have ih:=fbad_all ms n k (p + 1);by_cases hq:mokB n (ms p)=true
  ·simp only [fbad,mAll,hq,vYV,vZH];exact ih
  ·rw [Bool.not_eq_true] at hq;simp only [fbad,mAll,hq,vYG,Bool.false_and,Bool.not_false];exact vJQ (by omega)
def jE (js:Nat→J) (n:Nat):Nat→Nat→Int
 | 0,_=>0
 | k + 1,p=>bif decide (jErr js n p=0) then jE js n k (p + 1) else jErr js n p
def rErr (js:Nat→J) (ms:Nat→Ms) (n m:Nat):Int:=bif decide ((n:Int)=0) then 801 else bif decide (10 < (n:Int)) then 801 else bif decide (jE js n n 0=0) then (bif decide (32 < (m:Int)) then 808 else bif mAll ms n m 0 then 0 else 808) else jE js n n 0
def mTp {α:Type} (n:Nat) (q:Ms) (a b:α):α:=(bif (decide (0≤q.link)) then (bif (decide (q.link < (n:Int))) then (bif (decide (1≤q.mass)) then (bif (decide (q.mass≤65536)) then (bif (decide (q.p.x < (-4194304))) then b else (bif (decide (4194304 < q.p.x)) then b else (bif (decide (q.p.y < (-4194304))) then b else (bif (decide (4194304 < q.p.y)) then b else (bif (decide (q.p.z < (-4194304))) then b else (bif (decide (4194304 < q.p.z)) then b else a)))))) else b) else b) else b) else b)
theorem mTp_eq {α:Type} (n:Nat) (q:Ms) (a b:α):mTp n q a b=bif mokB n q then a else b:=by
 unfold mTp mokB;by_cases h:MOK n q
 ·have h':=h;obtain ⟨⟨h1,h2⟩,⟨h3,h4⟩,⟨h5,h6⟩,⟨h7,h8⟩,h9,h10⟩:=h';rw [vJQ h];simp only [vYV];simp only [Bool.cond_eq_ite,decide_eq_true_eq]
  repeat' split
  all_goals first | rfl | (exfalso; omega)
 ·rw [vYH h];unfold MOK at h;simp only [vYG];simp only [Bool.cond_eq_ite,decide_eq_true_eq]
  repeat' split
  all_goals first | rfl | (exfalso; omega) | contradiction
set_option maxRecDepth 100000 in
theorem tr_cl (js:Nat→J) (ms:Nat→Ms) (n m:Nat) (q:Ms):runK T (OrL.k []) 60 90 [.a (mp q),.c [.lf n (fJ js),.lf m (fM ms)] 0]=mTp n q (F_b false) (F_b true):=by kernel_rfl
theorem snd_cl (js:Nat→J) (ms:Nat→Ms) (n m:Nat) (q:Ms):zH Tryz.prog 90 [.a (mp q),.c [.lf n (fJ js),.lf m (fM ms)] 0] (.v (.b (!mokB n q))):=by
 refine qX (N:=60) yH yZ (OrL.ok (l:=[]) trivial) ?_;rw [tr_cl,mTp_eq];cases mokB n q <;> rfl
noncomputable def o_cl (js:Nat→J) (ms:Nat→Ms) (n m:Nat):List PV→Option (Bool × Ret):=fun ps=>match ps with
 | [.a [.n .i64 a0,.n .i64 a1,.n .i64 a2,.n .i64 a3,.n .i64 a4],c]=>some (gEq c (.c [.lf n (fJ js),.lf m (fM ms)] 0),.v (.b (!mokB n ⟨a0,a1,⟨a2,a3,a4⟩⟩)))
 | _=>none
theorem ok_cl (js:Nat→J) (ms:Nat→Ms) (n m:Nat):zY Tryz.prog 90 (o_cl js ms n m):=by
 intro ps r hh;unfold o_cl at hh;split at hh
 ·simp only [vQZ,vQY] at hh;obtain ⟨hg,rfl⟩:=hh;obtain rfl:=zQV hg;exact snd_cl js ms n m ⟨_,_,⟨_,_,_⟩⟩
 ·cases hh
def hI (js:Nat→J) (ms:Nat→Ms) (n m:Nat) (i:Int):St:=⟨[(0,.v (.lf m (fM ms))),(1,.v (.f 90 [] [.c [.lf n (fJ js),.lf m (fM ms)] 0])),(7,.v (.n .i64 (m:Int))),(8,.v (.n .i64 i))],[]⟩
set_option maxRecDepth 100000 in
theorem rdI (G:St→Option (Ret × Mem)) (K:Cont) (js:Nat→J) (ms:Nat→Ms) (n m:Nat) (i:Int):qUQ 60 (cxF T (OrL.k [(90,o_cl js ms n m)]) 60 121 (ntmF T 121)) (ckF T (OrL.k [(90,o_cl js ms n m)]) 60) (qG T 121 [0,1,0,1]) (fun e τ=>match e with
 | .normal=>G (qYD ((cxF T (OrL.k [(90,o_cl js ms n m)]) 60 121 (ntmF T 121)).T.hint (cxF T (OrL.k [(90,o_cl js ms n m)]) 60 121 (ntmF T 121)).me (yQ (qG T 121 [0,1,0,1]))) τ)
 | e=>K e (qYX ((cxF T (OrL.k [(90,o_cl js ms n m)]) 60 121 (ntmF T 121)).T.hint (cxF T (OrL.k [(90,o_cl js ms n m)]) 60 121 (ntmF T 121)).me (yQ (qG T 121 [0,1,0,1]))) τ)) (hI js ms n m i) =
 (bif (decide (i < (m:Int))) then (bif (inB i m) then (bif (gEq (.c [.lf n (fJ js),.lf m (fM ms)] 0) (.c [.lf n (fJ js),.lf m (fM ms)] 0)) then (bif (!mokB n (ms (i).toNat)) then (K .ret ⟨[(4,.v (.n .i64 i))],[]⟩)
 else (G (hI js ms n m (vJJ .i64 (i + 1)))))
 else none)
 else none)
 else (K (.exit 0) ⟨[],[]⟩)):=by kernel_rfl
theorem lpI (K:Cont) (js:Nat→J) (ms:Nat→Ms) (n m:Nat) (hm:m≤1000):∀ (k p q:Nat),p + k=m→k < q→LF 60 (cxF T (OrL.k [(90,o_cl js ms n m)]) 60 121 (ntmF T 121)) (ckF T (OrL.k [(90,o_cl js ms n m)]) 60) (qG T 121 [0,1,0,1]) ((cxF T (OrL.k [(90,o_cl js ms n m)]) 60 121 (ntmF T 121)).T.hint (cxF T (OrL.k [(90,o_cl js ms n m)]) 60 121 (ntmF T 121)).me (yQ (qG T 121 [0,1,0,1]))) K q (hI js ms n m p)=(bif decide (fbad ms n k p = -1) then K (.exit 0) ⟨[],[]⟩ else K .ret ⟨[(4,.v (.n .i64 (fbad ms n k p)))],[]⟩)
 | 0,p,q + 1,hp,hq=>by
  refine (rdI (fun σ=>LF 60 (cxF T (OrL.k [(90,o_cl js ms n m)]) 60 121 (ntmF T 121)) (ckF T (OrL.k [(90,o_cl js ms n m)]) 60) (qG T 121 [0,1,0,1]) ((cxF T (OrL.k [(90,o_cl js ms n m)]) 60 121 (ntmF T 121)).T.hint (cxF T (OrL.k [(90,o_cl js ms n m)]) 60 121 (ntmF T 121)).me (yQ (qG T 121 [0,1,0,1]))) K q σ) K js ms n m p).trans ?_;rw [vYH (show ¬ (p:Int) < (m:Int) by omega)];rfl
 | k + 1,p,q + 1,hp,hq=>by
  refine (rdI (fun σ=>LF 60 (cxF T (OrL.k [(90,o_cl js ms n m)]) 60 121 (ntmF T 121)) (ckF T (OrL.k [(90,o_cl js ms n m)]) 60) (qG T 121 [0,1,0,1]) ((cxF T (OrL.k [(90,o_cl js ms n m)]) 60 121 (ntmF T 121)).T.hint (cxF T (OrL.k [(90,o_cl js ms n m)]) 60 121 (ntmF T 121)).me (yQ (qG T 121 [0,1,0,1]))) K q σ) K js ms n m p).trans ?_;rw [vJQ (show (p:Int) < (m:Int) by omega),uJ (show p < m by omega),qYK (by omega),lpI K js ms n m hm k (p + 1) q (by omega) (by omega),toN,zQW];by_cases hq:mokB n (ms p)=true
  ·simp only [fbad,hq,vYV,vYG,Bool.not_true]
  ·rw [Bool.not_eq_true] at hq;simp only [fbad,hq,vYV,vYG,Bool.not_false,vYH (show ¬ (p:Int) = -1 by omega)]
set_option maxRecDepth 100000 in
theorem pxI (js:Nat→J) (ms:Nat→Ms) (n m:Nat):qGJ T (OrL.k [(90,o_cl js ms n m)]) (zW [([0,1,0,1],kK (hI js ms n m 0) (fun K=>(bif decide (fbad ms n m 0 = -1) then K (.exit 0) ⟨[],[]⟩ else K .ret ⟨[(4,.v (.n .i64 (fbad ms n m 0)))],[]⟩)))]) 60 121 [.lf m (fM ms),.f 90 [] [.c [.lf n (fJ js),.lf m (fM ms)] 0]] =
 bif gSt (hI js ms n m 0) (hI js ms n m 0) then (bif decide (fbad ms n m 0 = -1) then some (.v (.n .i64 (-1)),[]) else some (.v (.n .i64 (fbad ms n m 0)),[])) else none:=by kernel_rfl
theorem snd_if (js:Nat→J) (ms:Nat→Ms) (n m:Nat) (_:m≤50):zH Tryz.prog 121 [.lf m (fM ms),.f 90 [] [.c [.lf n (fJ js),.lf m (fM ms)] 0]] (.v (.n .i64 (fbad ms n m 0))):=by
 refine kY (N:=60) (LO:=zW [([0,1,0,1],kK (hI js ms n m 0) (fun K=>(bif decide (fbad ms n m 0 = -1) then K (.exit 0) ⟨[],[]⟩ else K .ret ⟨[(4,.v (.n .i64 (fbad ms n m 0)))],[]⟩)))]) yH yZ (OrL.ok (l:=[(90,o_cl js ms n m)]) ⟨ok_cl js ms n m,trivial⟩) (fun p S hp => ?_) ?_
 ·refine qQQ (L:=qG T 121) (l:=[([0,1,0,1],kK (hI js ms n m 0) (fun K=>(bif decide (fbad ms n m 0 = -1) then K (.exit 0) ⟨[],[]⟩ else K .ret ⟨[(4,.v (.n .i64 (fbad ms n m 0)))],[]⟩)))]) (show AllP _ [([0,1,0,1],kK (hI js ms n m 0) (fun K=>(bif decide (fbad ms n m 0 = -1) then K (.exit 0) ⟨[],[]⟩ else K .ret ⟨[(4,.v (.n .i64 (fbad ms n m 0)))],[]⟩)))] from ⟨qZU fun K r hr => ?_,trivial⟩) p S hp;exact (lpI K js ms n m (by omega) m 0 60 (by omega) (by omega)).trans hr
 ·refine (pxI js ms n m).trans ?_;rw [kX,vYV];by_cases h:fbad ms n m 0 = -1
  ·rw [vJQ h,h]; rfl
  ·rw [vYH h]; rfl
theorem snd_cf (js:Nat→J) (ms:Nat→Ms) (n m:Nat) (hm:m≤50):zH Tryz.prog 89 [.lf m (fM ms),.f 90 [] [.c [.lf n (fJ js),.lf m (fM ms)] 0]] (.v (.b (!mAll ms n m 0))):=by
 refine qX (N:=60) yH yZ (OrL.ok (l:=[(121,o_cr [.lf m (fM ms),.f 90 [] [.c [.lf n (fJ js),.lf m (fM ms)] 0]] (.v (.n .i64 (fbad ms n m 0))))]) ⟨qQI (snd_if js ms n m hm),trivial⟩) ?_;refine (by kernel_rfl:_=bif (g1 [.lf m (fM ms),.f 90 [] [.c [.lf n (fJ js),.lf m (fM ms)] 0]]) then (bif (decide (0≤(fbad ms n m 0))) then some (.v (.b true),[])
 else some (.v (.b false),[]))
 else none).trans ?_
 rw [g1_t,vYV,← fbad_all];cases decide (0≤fbad ms n m 0) <;> rfl
noncomputable def qUY (js:Nat→J) (ms:Nat→Ms) (n m:Nat):List PV→Option (Bool × Ret):=fun ps=>match ps with
 | [r,.n .i64 i]=>some (gEq r (.a [.lf n (fJ js),.lf m (fM ms)]) && (inB i n && decide (n≤50)),.v (.n .i64 (jErr js n i.toNat)))
 | _=>none
theorem ok_o_cjp (js:Nat→J) (ms:Nat→Ms) (n m:Nat):zY Tryz.prog 88 (qUY js ms n m):=by
 intro ps r hh;unfold qUY at hh;split at hh
 ·simp only [vQZ,vQY,vQJ] at hh;obtain ⟨⟨hg,hi,hd⟩,rfl⟩:=hh;obtain rfl:=zQV hg;have hn:=vJZ hd;obtain ⟨i0,i1⟩:=qUX hi;rename_i i
  have:=snd_cjp js ms n m hn i.toNat (by omega)
  rw [show ((i.toNat:Nat):Int)=i by omega] at this;exact this
 ·cases hh
noncomputable def qUJ (js:Nat→J) (ms:Nat→Ms) (n m:Nat):List PV→Option (Bool × Ret):=fun ps=>some (gEq (.t ps) (.t [.lf m (fM ms),.f 90 [] [.c [.lf n (fJ js),.lf m (fM ms)] 0]]) && decide (m≤50),.v (.b (!mAll ms n m 0)))
theorem ok_cfm (js:Nat→J) (ms:Nat→Ms) (n m:Nat):zY Tryz.prog 89 (qUJ js ms n m):=by
 intro ps q hh;unfold qUJ at hh;simp only [vQZ,vQY,vQJ] at hh;obtain ⟨⟨hg,hm⟩,rfl⟩:=hh
 have:=zQV hg
 simp only [PV.t.injEq] at this;rw [this];exact snd_cf js ms n m (vJZ hm)
def hK (js:Nat→J) (ms:Nat→Ms) (n m:Nat) (i:Int):St:=⟨[(1,.p 1 0),(17,.v (.n .i64 (n:Int))),(18,.v (.n .i64 i))],[(1,.blk [.v (.lf n (fJ js)),.v (.lf m (fM ms))])]⟩
set_option maxRecDepth 100000 in
theorem rdK (G:St→Option (Ret × Mem)) (K:Cont) (js:Nat→J) (ms:Nat→Ms) (n m:Nat) (i:Int):qUQ 60 (cxF T (OrL.k [(88,qUY js ms n m),(89,qUJ js ms n m)]) 60 58 (ntmF T 58)) (ckF T (OrL.k [(88,qUY js ms n m),(89,qUJ js ms n m)]) 60) (qG T 58 [0,1,0,1,1]) (fun e τ=>match e with
 | .normal=>G (qYD ((cxF T (OrL.k [(88,qUY js ms n m),(89,qUJ js ms n m)]) 60 58 (ntmF T 58)).T.hint (cxF T (OrL.k [(88,qUY js ms n m),(89,qUJ js ms n m)]) 60 58 (ntmF T 58)).me (yQ (qG T 58 [0,1,0,1,1]))) τ)
 | e=>K e (qYX ((cxF T (OrL.k [(88,qUY js ms n m),(89,qUJ js ms n m)]) 60 58 (ntmF T 58)).T.hint (cxF T (OrL.k [(88,qUY js ms n m),(89,qUJ js ms n m)]) 60 58 (ntmF T 58)).me (yQ (qG T 58 [0,1,0,1,1]))) τ)) (hK js ms n m i) =
 (bif (decide (i < (n:Int))) then (bif (gEq (.a [.lf n (fJ js),.lf m (fM ms)]) (.a [.lf n (fJ js),.lf m (fM ms)]) && (inB i n && decide (n≤50))) then (bif (!decide ((jErr js n (i).toNat)=0)) then (K .ret ⟨[(1,.p 1 0),(2,.v (.n .i64 (jErr js n (i).toNat)))],[(1,.blk [.v (.lf n (fJ js)),.v (.lf m (fM ms))])]⟩)
 else (G (hK js ms n m (vJJ .i64 (i + 1)))))
 else none)
 else (K (.exit 0) ⟨[(1,.p 1 0)],[(1,.blk [.v (.lf n (fJ js)),.v (.lf m (fM ms))])]⟩)):=by kernel_rfl
def rK (js:Nat→J) (ms:Nat→Ms) (n m:Nat) (e:Int):St:=⟨[(1,.p 1 0),(2,.v (.n .i64 e))],[(1,.blk [.v (.lf n (fJ js)),.v (.lf m (fM ms))])]⟩
def oK (js:Nat→J) (ms:Nat→Ms) (n m:Nat):St:=⟨[(1,.p 1 0)],[(1,.blk [.v (.lf n (fJ js)),.v (.lf m (fM ms))])]⟩
theorem lpK (K:Cont) (js:Nat→J) (ms:Nat→Ms) (n m:Nat) (hn:n≤10):∀ (k p q:Nat),p + k=n→k < q→LF 60 (cxF T (OrL.k [(88,qUY js ms n m),(89,qUJ js ms n m)]) 60 58 (ntmF T 58)) (ckF T (OrL.k [(88,qUY js ms n m),(89,qUJ js ms n m)]) 60) (qG T 58 [0,1,0,1,1]) ((cxF T (OrL.k [(88,qUY js ms n m),(89,qUJ js ms n m)]) 60 58 (ntmF T 58)).T.hint (cxF T (OrL.k [(88,qUY js ms n m),(89,qUJ js ms n m)]) 60 58 (ntmF T 58)).me (yQ (qG T 58 [0,1,0,1,1]))) K q (hK js ms n m p)=(bif decide (jE js n k p=0) then (K (.exit 0) (oK js ms n m)) else (K .ret (rK js ms n m (jE js n k p))))
 | 0,p,q + 1,hp,hq=>by
  refine (rdK (fun σ=>LF 60 (cxF T (OrL.k [(88,qUY js ms n m),(89,qUJ js ms n m)]) 60 58 (ntmF T 58)) (ckF T (OrL.k [(88,qUY js ms n m),(89,qUJ js ms n m)]) 60) (qG T 58 [0,1,0,1,1]) ((cxF T (OrL.k [(88,qUY js ms n m),(89,qUJ js ms n m)]) 60 58 (ntmF T 58)).T.hint (cxF T (OrL.k [(88,qUY js ms n m),(89,qUJ js ms n m)]) 60 58 (ntmF T 58)).me (yQ (qG T 58 [0,1,0,1,1]))) K q σ) K js ms n m p).trans ?_;rw [vYH (show ¬ (p:Int) < (n:Int) by omega)];rfl
 | k + 1,p,q + 1,hp,hq=>by
  refine (rdK (fun σ=>LF 60 (cxF T (OrL.k [(88,qUY js ms n m),(89,qUJ js ms n m)]) 60 58 (ntmF T 58)) (ckF T (OrL.k [(88,qUY js ms n m),(89,qUJ js ms n m)]) 60) (qG T 58 [0,1,0,1,1]) ((cxF T (OrL.k [(88,qUY js ms n m),(89,qUJ js ms n m)]) 60 58 (ntmF T 58)).T.hint (cxF T (OrL.k [(88,qUY js ms n m),(89,qUJ js ms n m)]) 60 58 (ntmF T 58)).me (yQ (qG T 58 [0,1,0,1,1]))) K q σ) K js ms n m p).trans ?_;rw [vJQ (show (p:Int) < (n:Int) by omega),uJ (show p < n by omega),qYK (by omega),lpK K js ms n m hn k (p + 1) q (by omega) (by omega),toN,zQW,vJQ (show n≤50 by omega)];by_cases hq:jErr js n p=0
  ·simp only [jE,vJQ hq,vYV,vYG,Bool.not_true,vZJ]
  ·simp only [jE,vYH hq,vYV,vYG,Bool.not_false,vZJ];rfl
set_option maxRecDepth 100000 in
theorem pxK (js:Nat→J) (ms:Nat→Ms) (n m:Nat):qGJ T (OrL.k [(88,qUY js ms n m),(89,qUJ js ms n m)]) (zW [([0,1,0,1,1],kK (hK js ms n m 0) (fun K=>bif decide (10 < (n:Int)) then none else (bif decide (jE js n n 0=0) then (K (.exit 0) (oK js ms n m)) else (K .ret (rK js ms n m (jE js n n 0))))))]) 60 58 [(.a [.lf n (fJ js),.lf m (fM ms)])] =
 bif decide ((n:Int)=0) then some (.v (.n .i64 801),[]) else (bif decide (10 < (n:Int)) then some (.v (.n .i64 801),[]) else (bif gSt (hK js ms n m 0) (hK js ms n m 0) then (bif decide (10 < (n:Int)) then none else (bif decide (jE js n n 0=0) then bif (decide (32 < (m:Int))) then some (.v (.n .i64 808),[])
 else bif (g1 [.lf m (fM ms),.f 90 [] [.c [.lf n (fJ js),.lf m (fM ms)] 0]] && decide (m≤50)) then (bif (!mAll ms n m 0) then some (.v (.n .i64 808),[])
 else some (.v (.n .i64 0),[]))
 else none else some (.v (.n .i64 (jE js n n 0)),[]))) else none)):=by kernel_rfl
theorem zVG (js:Nat→J) (ms:Nat→Ms) (n m:Nat):zH Tryz.prog 58 [(.a [.lf n (fJ js),.lf m (fM ms)])] (.v (.n .i64 (rErr js ms n m))):=by
 refine kY (N:=60) (LO:=zW [([0,1,0,1,1],kK (hK js ms n m 0) (fun K=>bif decide (10 < (n:Int)) then none else (bif decide (jE js n n 0=0) then (K (.exit 0) (oK js ms n m)) else (K .ret (rK js ms n m (jE js n n 0))))))]) yH yZ (OrL.ok (l:=[(88,qUY js ms n m),(89,qUJ js ms n m)]) ⟨ok_o_cjp js ms n m,ok_cfm js ms n m,trivial⟩) (fun p S hp => ?_) ?_
 ·refine qQQ (L:=qG T 58) (l:=[([0,1,0,1,1],kK (hK js ms n m 0) (fun K=>bif decide (10 < (n:Int)) then none else (bif decide (jE js n n 0=0) then (K (.exit 0) (oK js ms n m)) else (K .ret (rK js ms n m (jE js n n 0))))))]) (show AllP _ [([0,1,0,1,1],kK (hK js ms n m 0) (fun K=>bif decide (10 < (n:Int)) then none else (bif decide (jE js n n 0=0) then (K (.exit 0) (oK js ms n m)) else (K .ret (rK js ms n m (jE js n n 0))))))] from ⟨qZU fun K r hr => ?_,trivial⟩) p S hp;cases hq:decide (10 < (n:Int)) with
  | true=>rw [hq] at hr; cases hr
  | false =>
   rw [hq] at hr;have h10:=vJY hq;exact (lpK K js ms n m (by omega) n 0 60 (by omega) (by omega)).trans hr
 ·refine (pxK js ms n m).trans ?_;unfold rErr;rw [kX,g1_t];by_cases h0:(n:Int)=0
  ·rw [vJQ h0]; rfl
  rw [vYH h0];by_cases h10:10 < (n:Int)
  ·rw [vJQ h10]; rfl
  rw [vYH h10];by_cases hj:jE js n n 0=0
  ·rw [vJQ hj];by_cases h32:32 < (m:Int)
   ·rw [vJQ h32]; rfl
   rw [vYH h32,vJQ (show m≤50 by omega)];cases mAll ms n m 0 <;> rfl
  ·rw [vYH hj]; rfl
def hQ (js:Nat→J) (ms:Nat→Ms) (n m:Nat) (i:Int):St:=⟨[(1,.p 1 0),(3,.v (.n .i64 i))],[(1,.blk [.v (.lf n (fJ js)),.v (.lf m (fM ms))])]⟩
def hM (js:Nat→J) (ms:Nat→Ms) (n m:Nat) (i:Int):St:=⟨[(1,.p 1 0),(5,.v (.n .i64 i))],[(1,.blk [.v (.lf n (fJ js)),.v (.lf m (fM ms))])]⟩
end Go.Proofs.YtbfcbojgnppacaaGreat.Nc
namespace Go.Proofs.YtbfcbojgnppacaaGreat.Nx
open Go.Rx Rt Go.Sx Go.RowKit Od Oe Na Nb Nc
noncomputable def zXU:List PV→Option (Bool × Ret):=fun ps=>match ps with
 | [.a a',.a b']=>(ivD a').bind fun a=>(ivD b').bind fun b=>some (true,.v (.b (Iv.within a b)))
 | _=>none
theorem ok_iWithin:zY Tryz.prog 73 zXU:=by
 intro ps r h;unfold zXU at h;split at h
 ·simp only [vQQ,vQZ,vQY] at h;obtain ⟨a,ha,b,hb,hg,rfl⟩:=h;rw [uY ha];rw [uY hb];exact qY (qU Tryz.func73 (by kernel_rfl) (by kernel_rfl)) rfl rfl (fun w=>iWithin _ _ _ _ w)
 ·cases h
noncomputable def L7:OrL:=(73,zXU) :: L6
theorem L7_ok:AllP (fun x:Nat × (List PV→Option (Bool × Ret))=>zY Tryz.prog x.1 x.2) L7:=⟨ok_iWithin,L6_ok⟩
noncomputable def o_iValid:List PV→Option (Bool × Ret):=fun ps=>match ps with
 | [.a a']=>(ivD a').bind fun a=>some (true,.v (.b (Iv.valid a)))
 | _=>none
theorem ok_iValid:zY Tryz.prog 126 o_iValid:=by
 intro ps r h;unfold o_iValid at h;split at h
 ·simp only [vQQ,vQZ,vQY] at h;obtain ⟨a,ha,hg,rfl⟩:=h;rw [uY ha];exact qY (qU Tryz.func126 (by kernel_rfl) (by kernel_rfl)) rfl rfl (fun w=>iValid _ _ w)
 ·cases h
noncomputable def L8:OrL:=(126,o_iValid) :: L7
theorem L8_ok:AllP (fun x:Nat × (List PV→Option (Bool × Ret))=>zY Tryz.prog x.1 x.2) L8:=⟨ok_iValid,L7_ok⟩
noncomputable def zXQ:List PV→Option (Bool × Ret):=fun ps=>match ps with
 | [.a a',.a b']=>(ivD a').bind fun a=>(ivD b').bind fun b=>some (true,.v (.b (Iv.within a b)))
 | _=>none
theorem ok_rWithin:zY Tryz.prog 107 zXQ:=by
 intro ps r h;unfold zXQ at h;split at h
 ·simp only [vQQ,vQZ,vQY] at h;obtain ⟨a,ha,b,hb,hg,rfl⟩:=h;rw [uY ha];rw [uY hb];exact qY (qU Tryz.func107 (by kernel_rfl) (by kernel_rfl)) rfl rfl (fun w=>rWithin _ _ _ _ w)
 ·cases h
noncomputable def L9:OrL:=(107,zXQ) :: L8
theorem L9_ok:AllP (fun x:Nat × (List PV→Option (Bool × Ret))=>zY Tryz.prog x.1 x.2) L9:=⟨ok_rWithin,L8_ok⟩
noncomputable def o_rValid:List PV→Option (Bool × Ret):=fun ps=>match ps with
 | [.a a']=>(ivD a').bind fun a=>some (true,.v (.b (Iv.valid a)))
 | _=>none
theorem ok_rValid:zY Tryz.prog 134 o_rValid:=by
 intro ps r h;unfold o_rValid at h;split at h
 ·simp only [vQQ,vQZ,vQY] at h;obtain ⟨a,ha,hg,rfl⟩:=h;rw [uY ha];exact qY (qU Tryz.func134 (by kernel_rfl) (by kernel_rfl)) rfl rfl (fun w=>yKY _ _ w)
 ·cases h
noncomputable def L10:OrL:=(134,o_rValid) :: L9
theorem L10_ok:AllP (fun x:Nat × (List PV→Option (Bool × Ret))=>zY Tryz.prog x.1 x.2) L10:=⟨ok_rValid,L9_ok⟩
def fB (bx:Nat→Iv):Nat→List PV:=fun v=>[.n .i64 (bx v).lo,.n .i64 (bx v).hi]
set_option maxRecDepth 100000 in
theorem tr_cIn (nm:ByteArray) (kind par ox oy oz jlo jhi we spd acc tq a0 a1:Int):runK T (OrL.k L10) 60 72 [.a [.s nm,.n .i64 kind,.n .i64 par,.n .i64 ox,.n .i64 oy,.n .i64 oz,.n .i64 jlo,.n .i64 jhi,.n .i64 we,.n .i64 spd,.n .i64 acc,.n .i64 tq],.a [.n .i64 a0,.n .i64 a1]] =
 some (.v (.b (Iv.within ⟨a0,a1⟩ ⟨jlo,jhi⟩)),[]):=by
 refine (by kernel_rfl:_=bif Iv.within ⟨a0,a1⟩ ⟨jlo,jhi⟩ then some (.v (.b true),[]) else some (.v (.b false),[])).trans ?_;cases Iv.within ⟨a0,a1⟩ ⟨jlo,jhi⟩ <;> rfl
noncomputable def jQY:List PV→Option (Bool × Ret):=fun ps=>match ps with
 | [.a [.s nm,.n .i64 kind,.n .i64 par,.n .i64 ox,.n .i64 oy,.n .i64 oz,.n .i64 jlo,.n .i64 jhi,.n .i64 we,.n .i64 spd,.n .i64 acc,.n .i64 tq],.a a']=>(ivD a').bind fun a=>some (true,.v (.b (Iv.within a ⟨jlo,jhi⟩)))
 | _=>none
theorem ok_cIn:zY Tryz.prog 72 jQY:=by
 intro ps r h;unfold jQY at h;split at h
 ·simp only [vQQ,vQZ,vQY] at h;obtain ⟨a,ha,hg,rfl⟩:=h;rw [uY ha];exact qX (N:=60) yH yZ (OrL.ok L10_ok) (tr_cIn _ _ _ _ _ _ _ _ _ _ _ _ _ _)
 ·cases h
noncomputable def L11:OrL:=(72,jQY) :: L10
theorem yVU:AllP (fun x:Nat × (List PV→Option (Bool × Ret))=>zY Tryz.prog x.1 x.2) L11:=⟨ok_cIn,L10_ok⟩
def hE (js:Nat→J) (bx:Nat→Iv) (n k:Nat) (i:Int):St:=⟨[(1,.v (.lf k (fB bx))),(2,.v (.f 72 [] [])),(14,.v (.lf n (fJ js))),(15,.v (.n .i64 (n:Int))),(16,.v (.n .i64 i))],[]⟩
set_option maxRecDepth 100000 in
theorem rdE (G:St→Option (Ret × Mem)) (K:Cont) (js:Nat→J) (bx:Nat→Iv) (n k:Nat) (i:Int):qHK 60 (cxF T (OrL.k L11) 60 71 (ntmF T 71)) (ckF T (OrL.k L11) 60) (qG T 71 [0,1,0,1,1]) ((cxF T (OrL.k L11) 60 71 (ntmF T 71)).T.hint (cxF T (OrL.k L11) 60 71 (ntmF T 71)).me (yQ (qG T 71 [0,1,0,1,1]))) K G (hE js bx n k i) =
 (bif (decide (i < (n:Int))) then (bif (inB i n) then (bif (inB i k) then (bif Iv.within (bx (i).toNat) ⟨((js (i).toNat).lo),((js (i).toNat).hi)⟩ then (G (hE js bx n k (vJJ .i64 (i + 1))))
 else (K .ret ⟨[(6,.v (.b false))],[]⟩))
 else none)
 else none)
 else (K (.exit 0) ⟨[],[]⟩)):=by kernel_rfl
theorem lpE (K:Cont) (js:Nat→J) (bx:Nat→Iv) (n k:Nat) (_:n≤50) (_:n=k):LF 60 (cxF T (OrL.k L11) 60 71 (ntmF T 71)) (ckF T (OrL.k L11) 60) (qG T 71 [0,1,0,1,1]) ((cxF T (OrL.k L11) 60 71 (ntmF T 71)).T.hint (cxF T (OrL.k L11) 60 71 (ntmF T 71)).me (yQ (qG T 71 [0,1,0,1,1]))) K 60 (hE js bx n k 0)=bif (allN (fun i:Nat=>Iv.within (bx i) ⟨(js i).lo,(js i).hi⟩) n 0) then (K (.exit 0) ⟨[],[]⟩) else (K .ret ⟨[(6,.v (.b false))],[]⟩):=by
 refine (zQZ (c:=n) (hE js bx n k) (fun i:Nat=>Iv.within (bx i) ⟨(js i).lo,(js i).hi⟩) (K (.exit 0) ⟨[],[]⟩) (fun i:Nat=>(K .ret ⟨[(6,.v (.b false))],[]⟩)) (fun G i hi => ?_) (fun G => ?_) n 0 60 (by omega) (by omega)).trans (qUE _ _ _ _ _)
 ·refine (rdE G K js bx n k i).trans ?_;rw [vJQ (show (i:Int) < (n:Int) by omega),qYK (by omega),uJ (show i < n by omega),uJ (show i < k by omega),toN];rfl
 ·refine (rdE G K js bx n k n).trans ?_;rw [vYH (show ¬ (n:Int) < (n:Int) by omega)];rfl
def insB (js:Nat→J) (bx:Nat→Iv) (n k:Nat):Bool:=decide ((n:Int)=(k:Int)) && (allN (fun i:Nat=>Iv.within (bx i) ⟨(js i).lo,(js i).hi⟩) n 0)
set_option maxRecDepth 100000 in
theorem pxevery (js:Nat→J) (bx:Nat→Iv) (n k:Nat):qGJ T (OrL.k L11) (zW [([0,1,0,1,1],kK (hE js bx n k 0) (fun K=>(bif (decide ((n:Int)=(k:Int)) && decide (n≤50)) then (bif (allN (fun i:Nat=>Iv.within (bx i) ⟨(js i).lo,(js i).hi⟩) n 0) then (K (.exit 0) ⟨[],[]⟩) else (K .ret ⟨[(6,.v (.b false))],[]⟩)) else none)))]) 60 71 [.lf n (fJ js),.lf k (fB bx),.f 72 [] []] =
 (bif (!decide ((n:Int)=(k:Int))) then some (.v (.b false),[])
 else (bif (gSt (hE js bx n k 0) (hE js bx n k 0)) then (bif (decide ((n:Int)=(k:Int)) && decide (n≤50)) then (bif (allN (fun i:Nat=>Iv.within (bx i) ⟨(js i).lo,(js i).hi⟩) n 0) then some (.v (.b true),[])
 else some (.v (.b false),[]))
 else none)
 else none)):=by kernel_rfl
theorem snd_every (js:Nat→J) (bx:Nat→Iv) (n k:Nat) (hn:n≤50):zH Tryz.prog 71 [.lf n (fJ js),.lf k (fB bx),.f 72 [] []] (.v (.b (insB js bx n k))):=by
 refine kY (N:=60) (LO:=zW [([0,1,0,1,1],kK (hE js bx n k 0) (fun K=>(bif (decide ((n:Int)=(k:Int)) && decide (n≤50)) then (bif (allN (fun i:Nat=>Iv.within (bx i) ⟨(js i).lo,(js i).hi⟩) n 0) then (K (.exit 0) ⟨[],[]⟩) else (K .ret ⟨[(6,.v (.b false))],[]⟩)) else none)))]) yH yZ (OrL.ok (l:=L11) yVU) (fun p S hp => ?_) ?_
 ·refine qQQ (L:=qG T 71) (l:=[([0,1,0,1,1],kK (hE js bx n k 0) (fun K=>(bif (decide ((n:Int)=(k:Int)) && decide (n≤50)) then (bif (allN (fun i:Nat=>Iv.within (bx i) ⟨(js i).lo,(js i).hi⟩) n 0) then (K (.exit 0) ⟨[],[]⟩) else (K .ret ⟨[(6,.v (.b false))],[]⟩)) else none)))]) (show AllP _ [([0,1,0,1,1],kK (hE js bx n k 0) (fun K=>(bif (decide ((n:Int)=(k:Int)) && decide (n≤50)) then (bif (allN (fun i:Nat=>Iv.within (bx i) ⟨(js i).lo,(js i).hi⟩) n 0) then (K (.exit 0) ⟨[],[]⟩) else (K .ret ⟨[(6,.v (.b false))],[]⟩)) else none)))] from ⟨qZU fun K r hr => ?_,trivial⟩) p S hp
  ·obtain ⟨hg,hr⟩:=qQ hr;rw [vQJ] at hg;have hn:=vJZ hg.2;have hk:n=k:=by have:=vJZ hg.1; omega
   exact (lpE K js bx n k hn hk).trans hr
 ·refine (pxevery js bx n k).trans ?_;unfold insB;rw [kX,vJQ hn];cases decide ((n:Int)=(k:Int)) <;> cases (allN (fun i:Nat=>Iv.within (bx i) ⟨(js i).lo,(js i).hi⟩) n 0) <;> rfl
noncomputable def o_ev (js:Nat→J) (bx:Nat→Iv) (n k:Nat):List PV→Option (Bool × Ret):=fun ps=>some (gEq (.t ps) (.t [.lf n (fJ js),.lf k (fB bx),.f 72 [] []]) && decide (n≤50),.v (.b (insB js bx n k)))
theorem ok_ev (js:Nat→J) (bx:Nat→Iv) (n k:Nat):zY Tryz.prog 71 (o_ev js bx n k):=by
 intro ps q hh;unfold o_ev at hh;simp only [vQZ,vQY,vQJ] at hh;obtain ⟨⟨hg,hb⟩,rfl⟩:=hh
 have:=zQV hg
 simp only [PV.t.injEq] at this;rw [this];exact snd_every js bx n k (vJZ hb)
theorem yQV {js:Nat→J} {ms:Nat→Ms} {n m:Nat} (h:rErr js ms n m=0):1≤n∧n≤10:=by
 unfold rErr at h;by_cases h0:(n:Int)=0
 ·rw [vJQ h0] at h; cases h
 by_cases h1:10 < (n:Int)
 ·rw [vYH h0,vJQ h1] at h; cases h
 omega
def pIn (js:Nat→J) (ms:Nat→Ms) (bx:Nat→Iv) (n m k:Nat):Bool:=decide (rErr js ms n m=0) && insB js bx n k
theorem snd_pIn (js:Nat→J) (ms:Nat→Ms) (bx:Nat→Iv) (n m k:Nat):zH Tryz.prog 42 [.a [.lf n (fJ js),.lf m (fM ms)],.lf k (fB bx)] (.v (.b (pIn js ms bx n m k))):=by
 refine qX (N:=60) yH yZ (OrL.ok (l:=[(58,o_cr [.a [.lf n (fJ js),.lf m (fM ms)]] (.v (.n .i64 (rErr js ms n m)))),(71,o_ev js bx n k)]) ⟨qQI (zVG js ms n m),ok_ev js bx n k,trivial⟩) ?_;refine (by kernel_rfl:_=bif (g1 [.a [.lf n (fJ js),.lf m (fM ms)]]) then (bif (decide ((rErr js ms n m)=0)) then (bif (g1 [.lf n (fJ js),.lf k (fB bx),.f 72 [] []] && decide (n≤50)) then (bif (insB js bx n k) then some (.v (.b true),[])
 else some (.v (.b false),[]))
 else none)
 else some (.v (.b false),[]))
 else none).trans ?_
 unfold pIn;rw [g1_t,g1_t];by_cases h:rErr js ms n m=0
 ·have:=yQV h
  rw [vJQ h,vJQ (show n≤50 by omega)];cases insB js bx n k <;> rfl
 ·rw [vYH h]; rfl
def hA (bx:Nat→Iv) (k:Nat) (i:Int):St:=⟨[(0,.v (.lf k (fB bx))),(3,.v (.n .i64 i))],[]⟩
def allV (bx:Nat→Iv) (k:Nat):Bool:=(allN (fun i:Nat=>Iv.valid (bx i)) k 0)
def hL (js:Nat→J) (ms:Nat→Ms) (n m:Nat) (i:Int) (rows:List (List PV)):St:=⟨[(1,.p 1 0),(3,.o 30),(4,.v (.n .i64 i))],[(1,.blk [.v (.lf n (fJ js)),.v (.lf m (fM ms))]),(30,.reg 65 2 (.l rows))]⟩
def unFB (f:Nat→List PV):Nat→Iv:=fun i=>match f i with
 | [.n _ lo,.n _ hi]=>⟨lo,hi⟩
 | _=>⟨0,0⟩
def hW (bx bz:Nat→Iv) (k l:Nat) (i:Int):St:=⟨[(0,.v (.lf k (fB bx))),(1,.v (.lf l (fB bz))),(5,.v (.n .i64 i))],[]⟩
theorem within_valid {a b:Iv} (h:Iv.within a b=true):Iv.valid a=true∧Iv.valid b=true:=by
 unfold Iv.within at h;simp only [vQJ] at h;exact ⟨h.1.1.1,h.1.1.2⟩
theorem pIn_n {js:Nat→J} {ms:Nat→Ms} {bx:Nat→Iv} {n m k:Nat} (h:pIn js ms bx n m k=true):rErr js ms n m=0∧n=k∧∀ i,i < n→Iv.valid (bx i)=true:=by
 unfold pIn insB at h;simp only [vQJ,decide_eq_true_eq] at h;exact ⟨h.1,by omega,fun i hi=>(within_valid (allN_iff.1 h.2.2 i (Nat.zero_le _) (by omega))).1⟩
def isB (bx:Nat→Iv) (n k:Nat):Bool:=decide ((k:Int)=(n:Int)) && allV bx k
set_option maxRecDepth 100000 in
theorem tr_cNv (a0 a1:Int):runK T (OrL.k L11) 60 125 [.a [.n .i64 a0,.n .i64 a1]] =
 some (.v (.b (!Iv.valid ⟨a0,a1⟩)),[]):=by
 refine (by kernel_rfl:_=bif Iv.valid ⟨a0,a1⟩ then some (.v (.b false),[]) else some (.v (.b true),[])).trans ?_;cases Iv.valid ⟨a0,a1⟩ <;> rfl
noncomputable def jQZ:List PV→Option (Bool × Ret):=fun ps=>match ps with
 | [.a a']=>(ivD a').bind fun a=>some (true,.v (.b (!Iv.valid a)))
 | _=>none
theorem ok_cNv:zY Tryz.prog 125 jQZ:=by
 intro ps r h;unfold jQZ at h;split at h
 ·simp only [vQQ,vQZ,vQY] at h;obtain ⟨a,ha,hg,rfl⟩:=h;rw [uY ha];exact qX (N:=60) yH yZ (OrL.ok yVU) (tr_cNv _ _)
 ·cases h
noncomputable def L12:OrL:=(125,jQZ) :: L11
theorem L12_ok:AllP (fun x:Nat × (List PV→Option (Bool × Ret))=>zY Tryz.prog x.1 x.2) L12:=⟨ok_cNv,yVU⟩
def hI (bx:Nat→Iv) (k:Nat) (i:Int):St:=⟨[(0,.v (.lf k (fB bx))),(1,.v (.f 125 [] [])),(7,.v (.n .i64 (k:Int))),(8,.v (.n .i64 i))],[]⟩
set_option maxRecDepth 100000 in
theorem rdI (G:St→Option (Ret × Mem)) (K:Cont) (bx:Nat→Iv) (k:Nat) (i:Int):qHK 60 (cxF T (OrL.k L12) 60 144 (ntmF T 144)) (ckF T (OrL.k L12) 60) (qG T 144 [0,1,0,1]) ((cxF T (OrL.k L12) 60 144 (ntmF T 144)).T.hint (cxF T (OrL.k L12) 60 144 (ntmF T 144)).me (yQ (qG T 144 [0,1,0,1]))) K G (hI bx k i) =
 (bif (decide (i < (k:Int))) then (bif (inB i k) then (bif !Iv.valid (bx (i).toNat) then (K .ret ⟨[(4,.v (.n .i64 i))],[]⟩)
 else (G (hI bx k (vJJ .i64 (i + 1)))))
 else none)
 else (K (.exit 0) ⟨[],[]⟩)):=by kernel_rfl
theorem lpI (K:Cont) (bx:Nat→Iv) (k:Nat) (_:k≤50):LF 60 (cxF T (OrL.k L12) 60 144 (ntmF T 144)) (ckF T (OrL.k L12) 60) (qG T 144 [0,1,0,1]) ((cxF T (OrL.k L12) 60 144 (ntmF T 144)).T.hint (cxF T (OrL.k L12) 60 144 (ntmF T 144)).me (yQ (qG T 144 [0,1,0,1]))) K 60 (hI bx k 0)=bif (allN (fun i:Nat=>Iv.valid (bx i)) k 0) then (K (.exit 0) ⟨[],[]⟩) else (K .ret ⟨[(4,.v (.n .i64 ((Rx.firstK (fun i:Nat=>Iv.valid (bx i)) k 0:Nat):Int)))],[]⟩):=by
 refine (zQZ (c:=k) (hI bx k) (fun i:Nat=>Iv.valid (bx i)) (K (.exit 0) ⟨[],[]⟩) (fun i:Nat=>(K .ret ⟨[(4,.v (.n .i64 (i:Int)))],[]⟩)) (fun G i hi => ?_) (fun G => ?_) k 0 60 (by omega) (by omega)).trans (qJW _ _ _ _ _)
 ·refine (rdI G K bx k i).trans ?_;rw [vJQ (show (i:Int) < (k:Int) by omega),qYK (by omega),uJ (show i < k by omega),toN];cases Iv.valid (bx i) <;> rfl
 ·refine (rdI G K bx k k).trans ?_;rw [vYH (show ¬ (k:Int) < (k:Int) by omega)];rfl
set_option maxRecDepth 100000 in
theorem pxidx (bx:Nat→Iv) (k:Nat):qGJ T (OrL.k L12) (zW [([0,1,0,1],kK (hI bx k 0) (fun K=>(bif (decide (k≤50)) then (bif (allN (fun i:Nat=>Iv.valid (bx i)) k 0) then (K (.exit 0) ⟨[],[]⟩) else (K .ret ⟨[(4,.v (.n .i64 ((Rx.firstK (fun i:Nat=>Iv.valid (bx i)) k 0:Nat):Int)))],[]⟩)) else none)))]) 60 144 [.lf k (fB bx),.f 125 [] []] =
 (bif (gSt (hI bx k 0) (hI bx k 0)) then (bif (decide (k≤50)) then (bif (allN (fun i:Nat=>Iv.valid (bx i)) k 0) then some (.v (.n .i64 (-1)),[])
 else some (.v (.n .i64 ((Rx.firstK (fun i:Nat=>Iv.valid (bx i)) k 0:Nat):Int)),[]))
 else none)
 else none):=by kernel_rfl
theorem snd_idx (bx:Nat→Iv) (k:Nat) (hk:k≤50):zH Tryz.prog 144 [.lf k (fB bx),.f 125 [] []] (.v (.n .i64 (bif allV bx k then -1 else ((Rx.firstK (fun i:Nat=>Iv.valid (bx i)) k 0:Nat):Int)))):=by
 refine kY (N:=60) (LO:=zW [([0,1,0,1],kK (hI bx k 0) (fun K=>(bif (decide (k≤50)) then (bif (allN (fun i:Nat=>Iv.valid (bx i)) k 0) then (K (.exit 0) ⟨[],[]⟩) else (K .ret ⟨[(4,.v (.n .i64 ((Rx.firstK (fun i:Nat=>Iv.valid (bx i)) k 0:Nat):Int)))],[]⟩)) else none)))]) yH yZ (OrL.ok (l:=L12) L12_ok) (fun p S hp => ?_) ?_
 ·refine qQQ (L:=qG T 144) (l:=[([0,1,0,1],kK (hI bx k 0) (fun K=>(bif (decide (k≤50)) then (bif (allN (fun i:Nat=>Iv.valid (bx i)) k 0) then (K (.exit 0) ⟨[],[]⟩) else (K .ret ⟨[(4,.v (.n .i64 ((Rx.firstK (fun i:Nat=>Iv.valid (bx i)) k 0:Nat):Int)))],[]⟩)) else none)))]) (show AllP _ [([0,1,0,1],kK (hI bx k 0) (fun K=>(bif (decide (k≤50)) then (bif (allN (fun i:Nat=>Iv.valid (bx i)) k 0) then (K (.exit 0) ⟨[],[]⟩) else (K .ret ⟨[(4,.v (.n .i64 ((Rx.firstK (fun i:Nat=>Iv.valid (bx i)) k 0:Nat):Int)))],[]⟩)) else none)))] from ⟨qZU fun K r hr => ?_,trivial⟩) p S hp
  ·obtain ⟨hg,hr⟩:=qQ hr;have hk:=vJZ hg;exact (lpI K bx k hk).trans hr
 ·refine (pxidx bx k).trans ?_;unfold allV;rw [kX,vJQ hk];cases (allN (fun i:Nat=>Iv.valid (bx i)) k 0) <;> rfl
theorem snd_conB (bx:Nat→Iv) (k:Nat) (hk:k≤50):zH Tryz.prog 124 [.lf k (fB bx),.f 125 [] []] (.v (.b (!allV bx k))):=by
 refine qX (N:=60) yH yZ (OrL.ok (l:=[(144,o_cr [.lf k (fB bx),.f 125 [] []] (.v (.n .i64 (bif allV bx k then -1 else ((Rx.firstK (fun i:Nat=>Iv.valid (bx i)) k 0:Nat):Int)))))]) ⟨qQI (snd_idx bx k hk),trivial⟩) ?_;refine (by kernel_rfl:_=bif (g1 [.lf k (fB bx),.f 125 [] []]) then (bif (decide (0≤(bif allV bx k then -1 else ((Rx.firstK (fun i:Nat=>Iv.valid (bx i)) k 0:Nat):Int)))) then some (.v (.b true),[])
 else some (.v (.b false),[]))
 else none).trans ?_
 rw [g1_t];cases allV bx k with
 | true=>rfl
 | false =>
  rw [vYG,vJQ (show 0≤((Rx.firstK (fun i:Nat=>Iv.valid (bx i)) k 0:Nat):Int) by omega)];rfl
theorem snd_isP (js:Nat→J) (ms:Nat→Ms) (bx:Nat→Iv) (n m k:Nat) (hk:k≤50):zH Tryz.prog 96 [.a [.lf n (fJ js),.lf m (fM ms)],.lf k (fB bx)] (.v (.b (isB bx n k))):=by
 refine qX (N:=60) yH yZ (OrL.ok (l:=[(124,o_cr [.lf k (fB bx),.f 125 [] []] (.v (.b (!allV bx k))))]) ⟨qQI (snd_conB bx k hk),trivial⟩) ?_;refine (by kernel_rfl:_=bif (decide ((k:Int)=(n:Int))) then (bif (g1 [.lf k (fB bx),.f 125 [] []]) then (bif (!allV bx k) then some (.v (.b false),[])
 else some (.v (.b true),[]))
 else none)
 else some (.v (.b false),[])).trans ?_
 unfold isB;rw [g1_t];cases decide ((k:Int)=(n:Int)) <;> cases allV bx k <;> rfl
end Go.Proofs.YtbfcbojgnppacaaGreat.Nx
namespace Go.Proofs.YtbfcbojgnppacaaGreat
open Go.Sx Go.Rx Rt Go.RowKit
namespace Tk
end Tk
open Tk
theorem en128:uQ Tryz.prog 128:=qU Tryz.func128 (by kernel_rfl) (by kernel_rfl)
namespace Tk
noncomputable def qWJ:List PV→Option (Bool × Ret):=fun ps=>match ps with
 | [.a z']=>(z3D z').bind fun z=>some (true,.v (.a (v3C (V3.of z))))
 | _=>none
theorem zUF:zY Tryz.prog 69 qWJ:=by
 intro ps r h;unfold qWJ at h;split at h
 ·simp only [vQQ,vQZ,vQY] at h;obtain ⟨z,hz,hg,rfl⟩:=h;rw [zKC hz];exact qY (qU Tryz.func69 (by kernel_rfl) (by kernel_rfl)) rfl rfl (fun w=>mPoint _ _ _ w)
 ·cases h
noncomputable def LTk1:OrL:=(69,qWJ) :: ([]:OrL)
theorem LTk1_ok:AllP (fun x:Nat × (List PV→Option (Bool × Ret))=>zY Tryz.prog x.1 x.2) LTk1:=⟨zUF,trivial⟩
noncomputable def zGV:List PV→Option (Bool × Ret):=fun ps=>match ps with
 | [.a v']=>(v3D v').bind fun v=>some (true,.v (.a (poC (Po.shift v))))
 | _=>none
theorem ok_pShift:zY Tryz.prog 145 zGV:=by
 intro ps r h;unfold zGV at h;split at h
 ·simp only [vQQ,vQZ,vQY] at h;obtain ⟨v,hv,hg,rfl⟩:=h;rw [qUC hv];exact qY (qU Tryz.func145 (by kernel_rfl) (by kernel_rfl)) rfl rfl (fun w=>pShift _ _ _ _ _ _ w)
 ·cases h
noncomputable def LTk2:OrL:=(145,zGV) :: LTk1
theorem LTk2_ok:AllP (fun x:Nat × (List PV→Option (Bool × Ret))=>zY Tryz.prog x.1 x.2) LTk2:=⟨ok_pShift,LTk1_ok⟩
noncomputable def yYG:List PV→Option (Bool × Ret):=fun ps=>match ps with
 | [.n .i64 k,.a a']=>(ivD a').bind fun a=>some (true,.v (.a (poC (Po.turn k a))))
 | _=>none
theorem ok_pTurn:zY Tryz.prog 165 yYG:=by
 intro ps r h;unfold yYG at h;split at h
 ·simp only [vQQ,vQZ,vQY] at h;obtain ⟨a,ha,hg,rfl⟩:=h;rw [uY ha];exact qY (qU Tryz.func165 (by kernel_rfl) (by kernel_rfl)) rfl rfl (fun w=>pTurn _ _ _ w)
 ·cases h
noncomputable def LTk3:OrL:=(165,yYG) :: LTk2
theorem LTk3_ok:AllP (fun x:Nat × (List PV→Option (Bool × Ret))=>zY Tryz.prog x.1 x.2) LTk3:=⟨ok_pTurn,LTk2_ok⟩
noncomputable def qGB:List PV→Option (Bool × Ret):=fun ps=>match ps with
 | []=>some (true,.v (.a (poC (Po.rest))))
 | _=>none
theorem ok_pIdentity:zY Tryz.prog 166 qGB:=by
 intro ps r h;unfold qGB at h;split at h
 ·simp only [vQZ,vQY] at h;obtain ⟨hg,rfl⟩:=h;exact qY (qU Tryz.func166 (by kernel_rfl) (by kernel_rfl)) rfl rfl (fun w=>pIdentity  w)
 ·cases h
noncomputable def LTk4:OrL:=(166,qGB) :: LTk3
theorem LTk4_ok:AllP (fun x:Nat × (List PV→Option (Bool × Ret))=>zY Tryz.prog x.1 x.2) LTk4:=⟨ok_pIdentity,LTk3_ok⟩
noncomputable def zYW:List PV→Option (Bool × Ret):=fun ps=>match ps with
 | [.a p',.a q']=>(poD p').bind fun p=>(poD q').bind fun q=>some (true,.v (.a (poC (Po.mul p q))))
 | _=>none
theorem ok_pCompose:zY Tryz.prog 128 zYW:=by
 intro ps r h;unfold zYW at h;split at h
 ·simp only [vQQ,vQZ,vQY] at h;obtain ⟨p,hp,q,hq,hg,rfl⟩:=h;rw [yKJ hp];rw [yKJ hq];exact qY (qU Tryz.func128 (by kernel_rfl) (by kernel_rfl)) rfl rfl (fun w=>pCompose _ _ _ _ _ _ _ _ _ _ _ _ _ _ _ _ _ _ _ _ _ _ _ _ _ _ _ _ _ _ _ _ _ _ _ _ _ _ _ _ _ _ _ _ _ _ _ _ w)
 ·cases h
noncomputable def LTk5:OrL:=(128,zYW) :: LTk4
theorem LTk5_ok:AllP (fun x:Nat × (List PV→Option (Bool × Ret))=>zY Tryz.prog x.1 x.2) LTk5:=⟨ok_pCompose,LTk4_ok⟩
end Tk
set_option maxRecDepth 100000 in
theorem kJoint (a0 a1:Int) (nm:ByteArray) (kind par ox oy oz jlo jhi we spd acc tq:Int) (w:World):Calls Tryz.prog 127 [.agg #[.string nm,.int .i64 kind,.int .i64 par,.int .i64 ox,.int .i64 oy,.int .i64 oz,.int .i64 jlo,.int .i64 jhi,.int .i64 we,.int .i64 spd,.int .i64 acc,.int .i64 tq],.agg #[.int .i64 a0,.int .i64 a1]].toArray w (Rets (po (zGL kind ⟨ox,oy,oz⟩ (⟨a0,a1⟩:Iv))) (w)) :=
 qH (x:=.a (poC (zGL kind ⟨ox,oy,oz⟩ ⟨a0,a1⟩))) (qX (N:=60) (ps:=[.a [.s nm,.n .i64 kind,.n .i64 par,.n .i64 ox,.n .i64 oy,.n .i64 oz,.n .i64 jlo,.n .i64 jhi,.n .i64 we,.n .i64 spd,.n .i64 acc,.n .i64 tq],.a [.n .i64 a0,.n .i64 a1]]) yH yZ (OrL.ok (l:=LTk5) LTk5_ok) (by
 rcases kind with a | a
 ·rcases a with _ | _ | _ | _ | _ | _ | _ | a <;> kernel_rfl
 ·kernel_rfl)) rfl rfl w
end Go.Proofs.YtbfcbojgnppacaaGreat
namespace Go.Proofs.YtbfcbojgnppacaaGreat
open Go.Sx Go.Rx Rt Go.RowKit
namespace Tr
end Tr
open Tr
theorem k4 {k:Int} (h:k=4):vJJ .i64 (k - 4)=0:=by rw [h]; rfl
theorem k5 {k:Int} (h:k=5):vJJ .i64 (k - 4)=1:=by rw [h]; rfl
theorem k6 {k:Int} (h:k=6):vJJ .i64 (k - 4)=2:=by rw [h]; rfl
namespace Tr
noncomputable def qVC:List PV→Option (Bool × Ret):=fun ps=>match ps with
 | [.a z']=>(z3D z').bind fun z=>some (true,.v (.a (v3C (V3.of z))))
 | _=>none
theorem ok_rPoint:zY Tryz.prog 84 qVC:=by
 intro ps r h;unfold qVC at h;split at h
 ·simp only [vQQ,vQZ,vQY] at h;obtain ⟨z,hz,hg,rfl⟩:=h;rw [zKC hz];exact qY (qU Tryz.func84 (by kernel_rfl) (by kernel_rfl)) rfl rfl (fun w=>rPoint _ _ _ w)
 ·cases h
end Tr
end Go.Proofs.YtbfcbojgnppacaaGreat
namespace Go.Proofs.YtbfcbojgnppacaaGreat
open Go.Sx
theorem fa25_0:zQC Tryz.prog 25 0 0=true:=by kernel_rfl
theorem ty22:tyB Tryz.prog 22 false 1=true:=by kernel_rfl
theorem sl22:slcB Tryz.prog 22 70 12=true:=by kernel_rfl
theorem inc_nat {k:Nat} (h:k≤1000000):vJJ .i64 ((k:Int) + 1)=((k + 1:Nat):Int):=by
 refine (qK ?_).trans ?_ <;> omega
end Go.Proofs.YtbfcbojgnppacaaGreat

/- Part 25 of the texts behind the last one: rules and contracts. No condition. -/
import Derived.Test.YtgmbkkkbfbocnaaGreatKL24
open Option renaming bind_eq_some_iff → vQQ
open Option.some renaming injEq → vQZ
open Prod.mk renaming injEq → vQY
open List renaming getElem?_eq_getElem → vQK, length_cons → vQW, length_nil → vQV, all_eq_true → vZZ
namespace Go.Proofs.YtgmbkkkbfbocnaaGreat
open Go.Sx Go.Rx Rt Go.RowKit
namespace Tp
end Tp
open Tp
theorem la58:qUX Tryz.prog 58=some ([.int .i64 0,.int .i64 0,.int .i64 0],[(0,1),(1,1),(2,1)]):=by kernel_rfl
theorem ze68:qKZ Tryz.prog 68 (.agg #[.int .i64 0,.int .i64 0,.int .i64 0,.int .i64 0,.int .i64 0,.int .i64 0,.int .i64 0,.int .i64 0,.int .i64 0,.int .i64 0,.int .i64 0,.int .i64 0,.int .i64 0,.int .i64 0,.int .i64 0,.int .i64 0,.int .i64 0,.int .i64 0,.int .i64 0,.int .i64 0,.int .i64 0,.int .i64 0,.int .i64 0,.int .i64 0]):=by unfold qKZ; kernel_rfl
theorem ty68:tyB Tryz.prog 68 true 24=true:=by kernel_rfl
namespace Tp
noncomputable def zKX:List PV→Option (Bool × Ret):=fun ps=>match ps with
 | []=>some (true,.v (.a (m3C (M3.unit))))
 | _=>none
theorem ok_mIdentity:zX Tryz.prog 127 zKX:=by
 intro ps r h;unfold zKX at h;split at h
 ·simp only [vQZ,vQY] at h;obtain ⟨hg,rfl⟩:=h;exact qK (qU Tryz.func127 (by kernel_rfl) (by kernel_rfl)) rfl rfl (fun w=>mIdentity  w)
 ·cases h
noncomputable def LTp1:OrL:=(127,zKX) :: ([]:OrL)
theorem LTp1_ok:AllP (fun x:Nat × (List PV→Option (Bool × Ret))=>zX Tryz.prog x.1 x.2) LTp1:=⟨ok_mIdentity,trivial⟩
noncomputable def jYK:List PV→Option (Bool × Ret):=fun ps=>match ps with
 | [.n .i64 k,.a a']=>(ivD a').bind fun a=>some (true,.v (.a (m3C (M3.turn k a))))
 | _=>none
theorem ok_mTurn:zX Tryz.prog 176 jYK:=by
 intro ps r h;unfold jYK at h;split at h
 ·simp only [vQQ,vQZ,vQY] at h;obtain ⟨a,ha,hg,rfl⟩:=h;rw [uW ha];exact qK (qU Tryz.func176 (by kernel_rfl) (by kernel_rfl)) rfl rfl (fun w=>mTurn _ _ _ w)
 ·cases h
noncomputable def LTp2:OrL:=(176,jYK) :: LTp1
theorem LTp2_ok:AllP (fun x:Nat × (List PV→Option (Bool × Ret))=>zX Tryz.prog x.1 x.2) LTp2:=⟨ok_mTurn,LTp1_ok⟩
noncomputable def zVZ:List PV→Option (Bool × Ret):=fun ps=>match ps with
 | [.a m',.a n']=>(m3D m').bind fun m=>(m3D n').bind fun n=>some (true,.v (.a (m3C (M3.mul m n))))
 | _=>none
theorem ok_mCompose:zX Tryz.prog 126 zVZ:=by
 intro ps r h;unfold zVZ at h;split at h
 ·simp only [vQQ,vQZ,vQY] at h;obtain ⟨m,hm,n,hn,hg,rfl⟩:=h;rw [yYZ hm];rw [yYZ hn];exact qK (qU Tryz.func126 (by kernel_rfl) (by kernel_rfl)) rfl rfl (fun w=>mCompose _ _ _ _ _ _ _ _ _ _ _ _ _ _ _ _ _ _ _ _ _ _ _ _ _ _ _ _ _ _ _ _ _ _ _ _ w)
 ·cases h
noncomputable def LTp3:OrL:=(126,zVZ) :: LTp2
theorem LTp3_ok:AllP (fun x:Nat × (List PV→Option (Bool × Ret))=>zX Tryz.prog x.1 x.2) LTp3:=⟨ok_mCompose,LTp2_ok⟩
noncomputable def zQY:List PV→Option (Bool × Ret):=fun ps=>match ps with
 | [.a m',.a v']=>(m3D m').bind fun m=>(v3D v').bind fun v=>some (true,.v (.a (v3C (M3.apply m v))))
 | _=>none
theorem yZU:zX Tryz.prog 155 zQY:=by
 intro ps r h;unfold zQY at h;split at h
 ·simp only [vQQ,vQZ,vQY] at h;obtain ⟨m,hm,v,hv,hg,rfl⟩:=h;rw [yYZ hm];rw [zZK hv];exact qK (qU Tryz.func155 (by kernel_rfl) (by kernel_rfl)) rfl rfl (fun w=>mApply _ _ _ _ _ _ _ _ _ _ _ _ _ _ _ _ _ _ _ _ _ _ _ _ w)
 ·cases h
noncomputable def LTp4:OrL:=(155,zQY) :: LTp3
theorem LTp4_ok:AllP (fun x:Nat × (List PV→Option (Bool × Ret))=>zX Tryz.prog x.1 x.2) LTp4:=⟨yZU,LTp3_ok⟩
noncomputable def jVX:List PV→Option (Bool × Ret):=fun ps=>match ps with
 | [.a v',.a w']=>(v3D v').bind fun v=>(v3D w').bind fun w=>some (true,.v (.a (v3C (V3.add v w))))
 | _=>none
theorem ok_mAdd:zX Tryz.prog 154 jVX:=by
 intro ps r h;unfold jVX at h;split at h
 ·simp only [vQQ,vQZ,vQY] at h;obtain ⟨v,hv,w,hw,hg,rfl⟩:=h;rw [zZK hv];rw [zZK hw];exact qK (qU Tryz.func154 (by kernel_rfl) (by kernel_rfl)) rfl rfl (fun w=>mAdd _ _ _ _ _ _ _ _ _ _ _ _ w)
 ·cases h
noncomputable def LTp5:OrL:=(154,jVX) :: LTp4
theorem LTp5_ok:AllP (fun x:Nat × (List PV→Option (Bool × Ret))=>zX Tryz.prog x.1 x.2) LTp5:=⟨ok_mAdd,LTp4_ok⟩
noncomputable def jZV:List PV→Option (Bool × Ret):=fun ps=>match ps with
 | []=>some (true,.v (.a (m3C (M3.unit))))
 | _=>none
theorem ok_rUnit:zX Tryz.prog 141 jZV:=by
 intro ps r h;unfold jZV at h;split at h
 ·simp only [vQZ,vQY] at h;obtain ⟨hg,rfl⟩:=h;exact qK (qU Tryz.func141 (by kernel_rfl) (by kernel_rfl)) rfl rfl (fun w=>rUnit  w)
 ·cases h
noncomputable def LTp6:OrL:=(141,jZV) :: LTp5
theorem LTp6_ok:AllP (fun x:Nat × (List PV→Option (Bool × Ret))=>zX Tryz.prog x.1 x.2) LTp6:=⟨ok_rUnit,LTp5_ok⟩
noncomputable def jZG:List PV→Option (Bool × Ret):=fun ps=>match ps with
 | [.n .i64 k,.a a']=>(ivD a').bind fun a=>some (true,.v (.a (m3C (M3.turn k a))))
 | _=>none
theorem ok_rTurn:zX Tryz.prog 149 jZG:=by
 intro ps r h;unfold jZG at h;split at h
 ·simp only [vQQ,vQZ,vQY] at h;obtain ⟨a,ha,hg,rfl⟩:=h;rw [uW ha];exact qK (qU Tryz.func149 (by kernel_rfl) (by kernel_rfl)) rfl rfl (fun w=>rTurn _ _ _ w)
 ·cases h
noncomputable def LTp7:OrL:=(149,jZG) :: LTp6
theorem LTp7_ok:AllP (fun x:Nat × (List PV→Option (Bool × Ret))=>zX Tryz.prog x.1 x.2) LTp7:=⟨ok_rTurn,LTp6_ok⟩
noncomputable def zWG:List PV→Option (Bool × Ret):=fun ps=>match ps with
 | [.a m',.a n']=>(m3D m').bind fun m=>(m3D n').bind fun n=>some (true,.v (.a (m3C (M3.mul m n))))
 | _=>none
theorem ok_rCompose:zX Tryz.prog 117 zWG:=by
 intro ps r h;unfold zWG at h;split at h
 ·simp only [vQQ,vQZ,vQY] at h;obtain ⟨m,hm,n,hn,hg,rfl⟩:=h;rw [yYZ hm];rw [yYZ hn];exact qK (qU Tryz.func117 (by kernel_rfl) (by kernel_rfl)) rfl rfl (fun w=>rCompose _ _ _ _ _ _ _ _ _ _ _ _ _ _ _ _ _ _ _ _ _ _ _ _ _ _ _ _ _ _ _ _ _ _ _ _ w)
 ·cases h
noncomputable def LTp8:OrL:=(117,zWG) :: LTp7
theorem LTp8_ok:AllP (fun x:Nat × (List PV→Option (Bool × Ret))=>zX Tryz.prog x.1 x.2) LTp8:=⟨ok_rCompose,LTp7_ok⟩
noncomputable def yXQ:List PV→Option (Bool × Ret):=fun ps=>match ps with
 | [.a m',.a v']=>(m3D m').bind fun m=>(v3D v').bind fun v=>some (true,.v (.a (v3C (M3.apply m v))))
 | _=>none
theorem ok_rApply:zX Tryz.prog 83 yXQ:=by
 intro ps r h;unfold yXQ at h;split at h
 ·simp only [vQQ,vQZ,vQY] at h;obtain ⟨m,hm,v,hv,hg,rfl⟩:=h;rw [yYZ hm];rw [zZK hv];exact qK (qU Tryz.func83 (by kernel_rfl) (by kernel_rfl)) rfl rfl (fun w=>rApply _ _ _ _ _ _ _ _ _ _ _ _ _ _ _ _ _ _ _ _ _ _ _ _ w)
 ·cases h
noncomputable def LTp9:OrL:=(83,yXQ) :: LTp8
theorem LTp9_ok:AllP (fun x:Nat × (List PV→Option (Bool × Ret))=>zX Tryz.prog x.1 x.2) LTp9:=⟨ok_rApply,LTp8_ok⟩
noncomputable def yZW:List PV→Option (Bool × Ret):=fun ps=>match ps with
 | [.a v',.a w']=>(v3D v').bind fun v=>(v3D w').bind fun w=>some (true,.v (.a (v3C (V3.add v w))))
 | _=>none
theorem ok_rAddVec:zX Tryz.prog 82 yZW:=by
 intro ps r h;unfold yZW at h;split at h
 ·simp only [vQQ,vQZ,vQY] at h;obtain ⟨v,hv,w,hw,hg,rfl⟩:=h;rw [zZK hv];rw [zZK hw];exact qK (qU Tryz.func82 (by kernel_rfl) (by kernel_rfl)) rfl rfl (fun w=>rAddVec _ _ _ _ _ _ _ _ _ _ _ _ w)
 ·cases h
noncomputable def yJY:OrL:=(82,yZW) :: LTp9
theorem qXV:AllP (fun x:Nat × (List PV→Option (Bool × Ret))=>zX Tryz.prog x.1 x.2) yJY:=⟨ok_rAddVec,LTp9_ok⟩
end Tp
set_option maxRecDepth 100000 in
theorem pShift (va0 va1 va2 va3 va4 va5:Int) (w:World):Calls Tryz.prog 79 [.agg #[.int .i64 va0,.int .i64 va1,.int .i64 va2,.int .i64 va3,.int .i64 va4,.int .i64 va5]].toArray w (Rets (po (Po.shift (⟨⟨va0,va1⟩,⟨va2,va3⟩,⟨va4,va5⟩⟩:V3))) (w)) :=
 zY (x:=.a (poC (Po.shift (⟨⟨va0,va1⟩,⟨va2,va3⟩,⟨va4,va5⟩⟩:V3)))) (zQ (N:=60) (ps:=[.a (ivs [⟨va0,va1⟩,⟨va2,va3⟩,⟨va4,va5⟩])]) jU yJ (OrL.ok (l:=yJY) qXV) (by kernel_rfl)) rfl rfl w
set_option maxRecDepth 100000 in
theorem pIdentity  (w:World):Calls Tryz.prog 88 [].toArray w (Rets (po (Po.rest)) (w)) :=
 zY (x:=.a (poC Po.rest)) (zQ (N:=60) (ps:=[]) jU yJ (OrL.ok (l:=yJY) qXV) (by kernel_rfl)) rfl rfl w
set_option maxRecDepth 100000 in
theorem pTurn (axis:Int) (a0 a1:Int) (w:World):Calls Tryz.prog 159 [.int .i64 axis,.agg #[.int .i64 a0,.int .i64 a1]].toArray w (Rets (po (Po.turn axis (⟨a0,a1⟩:Iv))) (w)) :=
 zY (x:=.a (poC (Po.turn axis ⟨a0,a1⟩))) (zQ (N:=60) (ps:=[.n .i64 axis,.a [.n .i64 a0,.n .i64 a1]]) jU yJ (OrL.ok (l:=yJY) qXV) (by kernel_rfl)) rfl rfl w
set_option maxRecDepth 100000 in
theorem pCompose (pa0 pa1 pa2 pa3 pa4 pa5 pa6 pa7 pa8 pa9 pa10 pa11 pa12 pa13 pa14 pa15 pa16 pa17 pa18 pa19 pa20 pa21 pa22 pa23:Int) (qa0 qa1 qa2 qa3 qa4 qa5 qa6 qa7 qa8 qa9 qa10 qa11 qa12 qa13 qa14 qa15 qa16 qa17 qa18 qa19 qa20 qa21 qa22 qa23:Int) (w:World):Calls Tryz.prog 78 [.agg #[.int .i64 pa0,.int .i64 pa1,.int .i64 pa2,.int .i64 pa3,.int .i64 pa4,.int .i64 pa5,.int .i64 pa6,.int .i64 pa7,.int .i64 pa8,.int .i64 pa9,.int .i64 pa10,.int .i64 pa11,.int .i64 pa12,.int .i64 pa13,.int .i64 pa14,.int .i64 pa15,.int .i64 pa16,.int .i64 pa17,.int .i64 pa18,.int .i64 pa19,.int .i64 pa20,.int .i64 pa21,.int .i64 pa22,.int .i64 pa23],.agg #[.int .i64 qa0,.int .i64 qa1,.int .i64 qa2,.int .i64 qa3,.int .i64 qa4,.int .i64 qa5,.int .i64 qa6,.int .i64 qa7,.int .i64 qa8,.int .i64 qa9,.int .i64 qa10,.int .i64 qa11,.int .i64 qa12,.int .i64 qa13,.int .i64 qa14,.int .i64 qa15,.int .i64 qa16,.int .i64 qa17,.int .i64 qa18,.int .i64 qa19,.int .i64 qa20,.int .i64 qa21,.int .i64 qa22,.int .i64 qa23]].toArray w (Rets (po (Po.mul (⟨⟨⟨⟨pa0,pa1⟩,⟨pa2,pa3⟩,⟨pa4,pa5⟩⟩,⟨⟨pa6,pa7⟩,⟨pa8,pa9⟩,⟨pa10,pa11⟩⟩,⟨⟨pa12,pa13⟩,⟨pa14,pa15⟩,⟨pa16,pa17⟩⟩⟩,⟨⟨pa18,pa19⟩,⟨pa20,pa21⟩,⟨pa22,pa23⟩⟩⟩:Po) (⟨⟨⟨⟨qa0,qa1⟩,⟨qa2,qa3⟩,⟨qa4,qa5⟩⟩,⟨⟨qa6,qa7⟩,⟨qa8,qa9⟩,⟨qa10,qa11⟩⟩,⟨⟨qa12,qa13⟩,⟨qa14,qa15⟩,⟨qa16,qa17⟩⟩⟩,⟨⟨qa18,qa19⟩,⟨qa20,qa21⟩,⟨qa22,qa23⟩⟩⟩:Po))) (w)) :=
 zY (x:=.a (poC (Po.mul (⟨(⟨⟨⟨pa0,pa1⟩,⟨pa2,pa3⟩,⟨pa4,pa5⟩⟩,⟨⟨pa6,pa7⟩,⟨pa8,pa9⟩,⟨pa10,pa11⟩⟩,⟨⟨pa12,pa13⟩,⟨pa14,pa15⟩,⟨pa16,pa17⟩⟩⟩:M3),⟨⟨pa18,pa19⟩,⟨pa20,pa21⟩,⟨pa22,pa23⟩⟩⟩:Po) (⟨(⟨⟨⟨qa0,qa1⟩,⟨qa2,qa3⟩,⟨qa4,qa5⟩⟩,⟨⟨qa6,qa7⟩,⟨qa8,qa9⟩,⟨qa10,qa11⟩⟩,⟨⟨qa12,qa13⟩,⟨qa14,qa15⟩,⟨qa16,qa17⟩⟩⟩:M3),⟨⟨qa18,qa19⟩,⟨qa20,qa21⟩,⟨qa22,qa23⟩⟩⟩:Po)))) (zQ (N:=60) (ps:=[.a (ivs [⟨pa0,pa1⟩,⟨pa2,pa3⟩,⟨pa4,pa5⟩,⟨pa6,pa7⟩,⟨pa8,pa9⟩,⟨pa10,pa11⟩,⟨pa12,pa13⟩,⟨pa14,pa15⟩,⟨pa16,pa17⟩,⟨pa18,pa19⟩,⟨pa20,pa21⟩,⟨pa22,pa23⟩]),.a (ivs [⟨qa0,qa1⟩,⟨qa2,qa3⟩,⟨qa4,qa5⟩,⟨qa6,qa7⟩,⟨qa8,qa9⟩,⟨qa10,qa11⟩,⟨qa12,qa13⟩,⟨qa14,qa15⟩,⟨qa16,qa17⟩,⟨qa18,qa19⟩,⟨qa20,qa21⟩,⟨qa22,qa23⟩])]) jU yJ (OrL.ok (l:=yJY) qXV) (by kernel_rfl)) rfl rfl w
set_option maxRecDepth 100000 in
theorem pApply (pa0 pa1 pa2 pa3 pa4 pa5 pa6 pa7 pa8 pa9 pa10 pa11 pa12 pa13 pa14 pa15 pa16 pa17 pa18 pa19 pa20 pa21 pa22 pa23:Int) (va0 va1 va2 va3 va4 va5:Int) (w:World):Calls Tryz.prog 73 [.agg #[.int .i64 pa0,.int .i64 pa1,.int .i64 pa2,.int .i64 pa3,.int .i64 pa4,.int .i64 pa5,.int .i64 pa6,.int .i64 pa7,.int .i64 pa8,.int .i64 pa9,.int .i64 pa10,.int .i64 pa11,.int .i64 pa12,.int .i64 pa13,.int .i64 pa14,.int .i64 pa15,.int .i64 pa16,.int .i64 pa17,.int .i64 pa18,.int .i64 pa19,.int .i64 pa20,.int .i64 pa21,.int .i64 pa22,.int .i64 pa23],.agg #[.int .i64 va0,.int .i64 va1,.int .i64 va2,.int .i64 va3,.int .i64 va4,.int .i64 va5]].toArray w (Rets (v3 (Po.app (⟨⟨⟨⟨pa0,pa1⟩,⟨pa2,pa3⟩,⟨pa4,pa5⟩⟩,⟨⟨pa6,pa7⟩,⟨pa8,pa9⟩,⟨pa10,pa11⟩⟩,⟨⟨pa12,pa13⟩,⟨pa14,pa15⟩,⟨pa16,pa17⟩⟩⟩,⟨⟨pa18,pa19⟩,⟨pa20,pa21⟩,⟨pa22,pa23⟩⟩⟩:Po) (⟨⟨va0,va1⟩,⟨va2,va3⟩,⟨va4,va5⟩⟩:V3))) (w)) :=
 zY (x:=.a (v3C (Po.app (⟨(⟨⟨⟨pa0,pa1⟩,⟨pa2,pa3⟩,⟨pa4,pa5⟩⟩,⟨⟨pa6,pa7⟩,⟨pa8,pa9⟩,⟨pa10,pa11⟩⟩,⟨⟨pa12,pa13⟩,⟨pa14,pa15⟩,⟨pa16,pa17⟩⟩⟩:M3),⟨⟨pa18,pa19⟩,⟨pa20,pa21⟩,⟨pa22,pa23⟩⟩⟩:Po) (⟨⟨va0,va1⟩,⟨va2,va3⟩,⟨va4,va5⟩⟩:V3)))) (zQ (N:=60) (ps:=[.a (ivs [⟨pa0,pa1⟩,⟨pa2,pa3⟩,⟨pa4,pa5⟩,⟨pa6,pa7⟩,⟨pa8,pa9⟩,⟨pa10,pa11⟩,⟨pa12,pa13⟩,⟨pa14,pa15⟩,⟨pa16,pa17⟩,⟨pa18,pa19⟩,⟨pa20,pa21⟩,⟨pa22,pa23⟩]),.a (ivs [⟨va0,va1⟩,⟨va2,va3⟩,⟨va4,va5⟩])]) jU yJ (OrL.ok (l:=yJY) qXV) (by kernel_rfl)) rfl rfl w
set_option maxRecDepth 100000 in
theorem qShift (va0 va1 va2 va3 va4 va5:Int) (w:World):Calls Tryz.prog 116 [.agg #[.int .i64 va0,.int .i64 va1,.int .i64 va2,.int .i64 va3,.int .i64 va4,.int .i64 va5]].toArray w (Rets (po (Po.shift (⟨⟨va0,va1⟩,⟨va2,va3⟩,⟨va4,va5⟩⟩:V3))) (w)) :=
 zY (x:=.a (poC (Po.shift (⟨⟨va0,va1⟩,⟨va2,va3⟩,⟨va4,va5⟩⟩:V3)))) (zQ (N:=60) (ps:=[.a (ivs [⟨va0,va1⟩,⟨va2,va3⟩,⟨va4,va5⟩])]) jU yJ (OrL.ok (l:=yJY) qXV) (by kernel_rfl)) rfl rfl w
set_option maxRecDepth 100000 in
theorem qRest  (w:World):Calls Tryz.prog 90 [].toArray w (Rets (po (Po.rest)) (w)) :=
 zY (x:=.a (poC Po.rest)) (zQ (N:=60) (ps:=[]) jU yJ (OrL.ok (l:=yJY) qXV) (by kernel_rfl)) rfl rfl w
set_option maxRecDepth 100000 in
theorem qTurn (axis:Int) (a0 a1:Int) (w:World):Calls Tryz.prog 115 [.int .i64 axis,.agg #[.int .i64 a0,.int .i64 a1]].toArray w (Rets (po (Po.turn axis (⟨a0,a1⟩:Iv))) (w)) :=
 zY (x:=.a (poC (Po.turn axis ⟨a0,a1⟩))) (zQ (N:=60) (ps:=[.n .i64 axis,.a [.n .i64 a0,.n .i64 a1]]) jU yJ (OrL.ok (l:=yJY) qXV) (by kernel_rfl)) rfl rfl w
set_option maxRecDepth 100000 in
theorem qCompose (pa0 pa1 pa2 pa3 pa4 pa5 pa6 pa7 pa8 pa9 pa10 pa11 pa12 pa13 pa14 pa15 pa16 pa17 pa18 pa19 pa20 pa21 pa22 pa23:Int) (qa0 qa1 qa2 qa3 qa4 qa5 qa6 qa7 qa8 qa9 qa10 qa11 qa12 qa13 qa14 qa15 qa16 qa17 qa18 qa19 qa20 qa21 qa22 qa23:Int) (w:World):Calls Tryz.prog 68 [.agg #[.int .i64 pa0,.int .i64 pa1,.int .i64 pa2,.int .i64 pa3,.int .i64 pa4,.int .i64 pa5,.int .i64 pa6,.int .i64 pa7,.int .i64 pa8,.int .i64 pa9,.int .i64 pa10,.int .i64 pa11,.int .i64 pa12,.int .i64 pa13,.int .i64 pa14,.int .i64 pa15,.int .i64 pa16,.int .i64 pa17,.int .i64 pa18,.int .i64 pa19,.int .i64 pa20,.int .i64 pa21,.int .i64 pa22,.int .i64 pa23],.agg #[.int .i64 qa0,.int .i64 qa1,.int .i64 qa2,.int .i64 qa3,.int .i64 qa4,.int .i64 qa5,.int .i64 qa6,.int .i64 qa7,.int .i64 qa8,.int .i64 qa9,.int .i64 qa10,.int .i64 qa11,.int .i64 qa12,.int .i64 qa13,.int .i64 qa14,.int .i64 qa15,.int .i64 qa16,.int .i64 qa17,.int .i64 qa18,.int .i64 qa19,.int .i64 qa20,.int .i64 qa21,.int .i64 qa22,.int .i64 qa23]].toArray w (Rets (po (Po.mul (⟨⟨⟨⟨pa0,pa1⟩,⟨pa2,pa3⟩,⟨pa4,pa5⟩⟩,⟨⟨pa6,pa7⟩,⟨pa8,pa9⟩,⟨pa10,pa11⟩⟩,⟨⟨pa12,pa13⟩,⟨pa14,pa15⟩,⟨pa16,pa17⟩⟩⟩,⟨⟨pa18,pa19⟩,⟨pa20,pa21⟩,⟨pa22,pa23⟩⟩⟩:Po) (⟨⟨⟨⟨qa0,qa1⟩,⟨qa2,qa3⟩,⟨qa4,qa5⟩⟩,⟨⟨qa6,qa7⟩,⟨qa8,qa9⟩,⟨qa10,qa11⟩⟩,⟨⟨qa12,qa13⟩,⟨qa14,qa15⟩,⟨qa16,qa17⟩⟩⟩,⟨⟨qa18,qa19⟩,⟨qa20,qa21⟩,⟨qa22,qa23⟩⟩⟩:Po))) (w)) :=
 zY (x:=.a (poC (Po.mul (⟨(⟨⟨⟨pa0,pa1⟩,⟨pa2,pa3⟩,⟨pa4,pa5⟩⟩,⟨⟨pa6,pa7⟩,⟨pa8,pa9⟩,⟨pa10,pa11⟩⟩,⟨⟨pa12,pa13⟩,⟨pa14,pa15⟩,⟨pa16,pa17⟩⟩⟩:M3),⟨⟨pa18,pa19⟩,⟨pa20,pa21⟩,⟨pa22,pa23⟩⟩⟩:Po) (⟨(⟨⟨⟨qa0,qa1⟩,⟨qa2,qa3⟩,⟨qa4,qa5⟩⟩,⟨⟨qa6,qa7⟩,⟨qa8,qa9⟩,⟨qa10,qa11⟩⟩,⟨⟨qa12,qa13⟩,⟨qa14,qa15⟩,⟨qa16,qa17⟩⟩⟩:M3),⟨⟨qa18,qa19⟩,⟨qa20,qa21⟩,⟨qa22,qa23⟩⟩⟩:Po)))) (zQ (N:=60) (ps:=[.a (ivs [⟨pa0,pa1⟩,⟨pa2,pa3⟩,⟨pa4,pa5⟩,⟨pa6,pa7⟩,⟨pa8,pa9⟩,⟨pa10,pa11⟩,⟨pa12,pa13⟩,⟨pa14,pa15⟩,⟨pa16,pa17⟩,⟨pa18,pa19⟩,⟨pa20,pa21⟩,⟨pa22,pa23⟩]),.a (ivs [⟨qa0,qa1⟩,⟨qa2,qa3⟩,⟨qa4,qa5⟩,⟨qa6,qa7⟩,⟨qa8,qa9⟩,⟨qa10,qa11⟩,⟨qa12,qa13⟩,⟨qa14,qa15⟩,⟨qa16,qa17⟩,⟨qa18,qa19⟩,⟨qa20,qa21⟩,⟨qa22,qa23⟩])]) jU yJ (OrL.ok (l:=yJY) qXV) (by kernel_rfl)) rfl rfl w
set_option maxRecDepth 100000 in
theorem qApply (pa0 pa1 pa2 pa3 pa4 pa5 pa6 pa7 pa8 pa9 pa10 pa11 pa12 pa13 pa14 pa15 pa16 pa17 pa18 pa19 pa20 pa21 pa22 pa23:Int) (va0 va1 va2 va3 va4 va5:Int) (w:World):Calls Tryz.prog 35 [.agg #[.int .i64 pa0,.int .i64 pa1,.int .i64 pa2,.int .i64 pa3,.int .i64 pa4,.int .i64 pa5,.int .i64 pa6,.int .i64 pa7,.int .i64 pa8,.int .i64 pa9,.int .i64 pa10,.int .i64 pa11,.int .i64 pa12,.int .i64 pa13,.int .i64 pa14,.int .i64 pa15,.int .i64 pa16,.int .i64 pa17,.int .i64 pa18,.int .i64 pa19,.int .i64 pa20,.int .i64 pa21,.int .i64 pa22,.int .i64 pa23],.agg #[.int .i64 va0,.int .i64 va1,.int .i64 va2,.int .i64 va3,.int .i64 va4,.int .i64 va5]].toArray w (Rets (v3 (Po.app (⟨⟨⟨⟨pa0,pa1⟩,⟨pa2,pa3⟩,⟨pa4,pa5⟩⟩,⟨⟨pa6,pa7⟩,⟨pa8,pa9⟩,⟨pa10,pa11⟩⟩,⟨⟨pa12,pa13⟩,⟨pa14,pa15⟩,⟨pa16,pa17⟩⟩⟩,⟨⟨pa18,pa19⟩,⟨pa20,pa21⟩,⟨pa22,pa23⟩⟩⟩:Po) (⟨⟨va0,va1⟩,⟨va2,va3⟩,⟨va4,va5⟩⟩:V3))) (w)) :=
 zY (x:=.a (v3C (Po.app (⟨(⟨⟨⟨pa0,pa1⟩,⟨pa2,pa3⟩,⟨pa4,pa5⟩⟩,⟨⟨pa6,pa7⟩,⟨pa8,pa9⟩,⟨pa10,pa11⟩⟩,⟨⟨pa12,pa13⟩,⟨pa14,pa15⟩,⟨pa16,pa17⟩⟩⟩:M3),⟨⟨pa18,pa19⟩,⟨pa20,pa21⟩,⟨pa22,pa23⟩⟩⟩:Po) (⟨⟨va0,va1⟩,⟨va2,va3⟩,⟨va4,va5⟩⟩:V3)))) (zQ (N:=60) (ps:=[.a (ivs [⟨pa0,pa1⟩,⟨pa2,pa3⟩,⟨pa4,pa5⟩,⟨pa6,pa7⟩,⟨pa8,pa9⟩,⟨pa10,pa11⟩,⟨pa12,pa13⟩,⟨pa14,pa15⟩,⟨pa16,pa17⟩,⟨pa18,pa19⟩,⟨pa20,pa21⟩,⟨pa22,pa23⟩]),.a (ivs [⟨va0,va1⟩,⟨va2,va3⟩,⟨va4,va5⟩])]) jU yJ (OrL.ok (l:=yJY) qXV) (by kernel_rfl)) rfl rfl w
end Go.Proofs.YtgmbkkkbfbocnaaGreat
namespace Go.Proofs.YtgmbkkkbfbocnaaGreat
open Go.Sx
theorem ty3:tyB Tryz.prog 3 false 1=true:=by kernel_rfl
end Go.Proofs.YtgmbkkkbfbocnaaGreat
namespace Go.Proofs.YtgmbkkkbfbocnaaGreat
open Go.Sx
theorem ze88:qKZ Tryz.prog 88 (.agg #[.string ByteArray.empty,.int .i64 0,.int .i64 0,.int .i64 0,.int .i64 0,.int .i64 0,.int .i64 0,.int .i64 0,.int .i64 0,.int .i64 0,.int .i64 0,.int .i64 0]):=by unfold qKZ; kernel_rfl
theorem la88:qUX Tryz.prog 88=some ([.string ByteArray.empty,.int .i64 0,.int .i64 0,.int .i64 0,.int .i64 0,.int .i64 0,.int .i64 0,.int .i64 0,.int .i64 0,.int .i64 0,.int .i64 0,.int .i64 0],[(0,1),(1,1),(2,1),(3,3),(6,1),(7,1),(8,1),(9,1),(10,1),(11,1)]):=by kernel_rfl
theorem ty88:tyB Tryz.prog 88 true 12=true:=by kernel_rfl
theorem jUJ:zJW Tryz.prog 88 2 2=true:=by kernel_rfl
end Go.Proofs.YtgmbkkkbfbocnaaGreat
namespace Go.Proofs.YtgmbkkkbfbocnaaGreat.Od
open Go.Rx Rt Go.Sx Go.RowKit
def F_b:Bool→Option (Ret × Mem):=fun v=>some (.v (.b v),[])
def limK (k:Int):Int:=if k=1 ∨ k=2 ∨ k=3 then 524288 else if k=4 ∨ k=5 ∨ k=6 then 4194304 else 0
def jp (j:J):List PV:=[.s j.name,.n .i64 j.kind,.n .i64 j.parent,.n .i64 j.off.x,.n .i64 j.off.y,.n .i64 j.off.z,.n .i64 j.lo,.n .i64 j.hi,.n .i64 j.weight,.n .i64 j.speed,.n .i64 j.accel,.n .i64 j.torque]
def mp (m:Ms):List PV:=[.n .i64 m.link,.n .i64 m.mass,.n .i64 m.p.x,.n .i64 m.p.y,.n .i64 m.p.z]
theorem zJG {α:Type} {f:α→List PV} {g:α→List Value} (h:∀ x,(f x).map PV.val1=g x) (l:List α):qKX (l.map f)=l.map g:=by
 unfold qKX;rw [List.map_map];exact List.map_congr_left fun x _=>h x
theorem yVZ {α:Type} {f:α→List PV} {sz:Nat} (h:∀ x,(Nat.beq (f x).length sz && (f x).all PV.flat1)=true) (l:List α):qVQ sz (l.map f)=true:=by
 unfold qVQ;rw [List.all_map,vZZ];exact fun x _=>h x
theorem rp_told {α:Type} {f:α→List PV} {g:α→List Value} {sz k c:Nat} {l:List α} {a:Option Addr} {F D:Nat→Prop} {G:World→Prop} {w:World} (hv:∀ x,(f x).map PV.val1=g x) (hf:∀ x,(Nat.beq (f x).length sz && (f x).all PV.flat1)=true) (hk:l.length=k) (hc:k≤c) (h0:0 < sz)
  (hd:qWW D G) (hG:G w) (hi:∀ w,G w→qUQ sz a (l.map g) w) (hF:∀ k,D k→F k):RP F w (.l (l.map f)) (.slice a k c):=by
 have:=rp_of_slc (F:=F) (c:=c) (yVZ hf l) (by rw [List.length_map,hk]; exact hc) (by rw [zJG hv]; exact hi w hG) (fun b off ha hne=>hF b (dep_mem hd hG hi h0 (fun e=>hne (by cases l with | nil=>rfl | cons x xs=>cases e)) b off ha))
 rw [List.length_map,hk] at this;exact this
theorem yUQ {α:Type} {f:α→List PV} {g:α→List Value} {sz k:Nat} {l:List α} {F:Nat→Prop} {w:World} {v:Value} (hv:∀ x,(f x).map PV.val1=g x) (hf:∀ x,(Nat.beq (f x).length sz && (f x).all PV.flat1)=true) (hk:l.length=k) (hF:∀ k,F k→k < w.heap.size) (h:RP F w (.l (l.map f)) v) :
  ∃ a c,v=.slice a k c∧k≤c∧qUQ sz a (l.map g) w:=by
 obtain ⟨a,c,rfl,hc,hS,_⟩:=slc_of_rp (yVZ hf l) hF h;rw [List.length_map,hk] at hc;exact ⟨a,c,by rw [List.length_map,hk],hc,by rw [zJG hv] at hS; exact hS⟩
theorem lks_len {js:List J} {bx:List Iv}:∀ k,k≤js.length→k≤bx.length→(lks js bx k).length=k
 | 0,_,_=>rfl
 | k + 1,h1,h2=>by
  have e1:js[k]? = some (js[k]'(by omega)):=vQK (by omega);have e2:bx[k]? = some (bx[k]'(by omega)):=vQK (by omega);simp only [lks,e1,e2,List.length_append,vQW,vQV];rw [lks_len k (by omega) (by omega)]
def F_n:Int→Option (Ret × Mem):=fun v=>some (.v (.n .i64 v),[])
def JF (i:Int) (j:J):Prop:=(0≤j.kind∧j.kind≤6)∧(-1≤j.parent∧j.parent < i)∧(-4194304≤j.off.x∧j.off.x≤4194304)∧(-4194304≤j.off.y∧j.off.y≤4194304)∧(-4194304≤j.off.z∧j.off.z≤4194304)∧(j.lo≤j.hi ∧ -limK j.kind≤j.lo∧j.hi≤limK j.kind) ∧
  (1≤j.weight∧j.weight≤1024)∧(1≤j.speed∧j.speed≤1048576)∧(1≤j.accel∧j.accel≤1048576)∧(1≤j.torque∧j.torque≤1099511627776)
def cjT {α:Type} (f:Int→α) (i:Int) (j:J):α:=(bif (decide (j.kind < 0)) then (f 803) else (bif (decide (6 < j.kind)) then (f 803) else (bif (decide (j.parent < (-1))) then (f 804) else (bif (decide (i≤j.parent)) then (f 804) else (bif (decide (j.off.x < (-4194304))) then (f 805) else (bif (decide (4194304 < j.off.x)) then (f 805) else (bif (decide (j.off.y < (-4194304))) then (f 805) else (bif (decide (4194304 < j.off.y)) then (f 805) else (bif (decide (j.off.z < (-4194304))) then (f 805) else (bif (decide (4194304 < j.off.z)) then (f 805) else (bif (decide (j.kind=0)) then (bif (decide (j.hi < j.lo)) then (f 806) else (bif (decide (j.lo < 0)) then (f 806) else (bif (decide (0 < j.hi)) then (f 806) else (bif (decide (1≤j.weight)) then (bif (decide (j.weight≤1024)) then (bif (decide (1≤j.speed)) then (bif (decide (j.speed≤1048576)) then (bif (decide (1≤j.accel)) then (bif (decide (j.accel≤1048576)) then (bif (decide (1≤j.torque)) then (bif (decide (j.torque≤1099511627776)) then (f 0) else (f 807)) else (f 807)) else (f 807)) else (f 807)) else (f 807)) else (f 807)) else (f 807)) else (f 807))))) else (bif (decide (j.kind=1)) then (bif (decide (j.hi < j.lo)) then (f 806) else (bif (decide (j.lo < (-524288))) then (f 806) else (bif (decide (524288 < j.hi)) then (f 806) else (bif (decide (1≤j.weight)) then (bif (decide (j.weight≤1024)) then (bif (decide (1≤j.speed)) then (bif (decide (j.speed≤1048576)) then (bif (decide (1≤j.accel)) then (bif (decide (j.accel≤1048576)) then (bif (decide (1≤j.torque)) then (bif (decide (j.torque≤1099511627776)) then (f 0) else (f 807)) else (f 807)) else (f 807)) else (f 807)) else (f 807)) else (f 807)) else (f 807)) else (f 807))))) else (bif (decide (j.kind=2)) then (bif (decide (j.hi < j.lo)) then (f 806) else (bif (decide (j.lo < (-524288))) then (f 806) else (bif (decide (524288 < j.hi)) then (f 806) else (bif (decide (1≤j.weight)) then (bif (decide (j.weight≤1024)) then (bif (decide (1≤j.speed)) then (bif (decide (j.speed≤1048576)) then (bif (decide (1≤j.accel)) then (bif (decide (j.accel≤1048576)) then (bif (decide (1≤j.torque)) then (bif (decide (j.torque≤1099511627776)) then (f 0) else (f 807)) else (f 807)) else (f 807)) else (f 807)) else (f 807)) else (f 807)) else (f 807)) else (f 807))))) else (bif (decide (j.kind=3)) then (bif (decide (j.hi < j.lo)) then (f 806) else (bif (decide (j.lo < (-524288))) then (f 806) else (bif (decide (524288 < j.hi)) then (f 806) else (bif (decide (1≤j.weight)) then (bif (decide (j.weight≤1024)) then (bif (decide (1≤j.speed)) then (bif (decide (j.speed≤1048576)) then (bif (decide (1≤j.accel)) then (bif (decide (j.accel≤1048576)) then (bif (decide (1≤j.torque)) then (bif (decide (j.torque≤1099511627776)) then (f 0) else (f 807)) else (f 807)) else (f 807)) else (f 807)) else (f 807)) else (f 807)) else (f 807)) else (f 807))))) else (bif (decide (j.hi < j.lo)) then (f 806) else (bif (decide (j.lo < (-4194304))) then (f 806) else (bif (decide (4194304 < j.hi)) then (f 806) else (bif (decide (1≤j.weight)) then (bif (decide (j.weight≤1024)) then (bif (decide (1≤j.speed)) then (bif (decide (j.speed≤1048576)) then (bif (decide (1≤j.accel)) then (bif (decide (j.accel≤1048576)) then (bif (decide (1≤j.torque)) then (bif (decide (j.torque≤1099511627776)) then (f 0) else (f 807)) else (f 807)) else (f 807)) else (f 807)) else (f 807)) else (f 807)) else (f 807)) else (f 807)))))))))))))))))))
noncomputable def yXU:List PV→Option (Bool × Ret):=fun ps=>match ps with
 | [.n .i64 n,.n .i64 k]=>some (decide (0 < k∧k≤9223372036854775807),.v (.n .i64 (n % k)))
 | _=>none
theorem ok_mRound:zX Tryz.prog 20 yXU:=by
 intro ps r h;unfold yXU at h;split at h
 ·simp only [vQZ,vQY] at h;obtain ⟨hg,rfl⟩:=h;exact qK (qU Tryz.func20 (by kernel_rfl) (by kernel_rfl)) rfl rfl (fun w=>mRound _ _ (vJZ hg) w)
 ·cases h
noncomputable def L1:OrL:=(20,yXU) :: ([]:OrL)
theorem L1_ok:AllP (fun x:Nat × (List PV→Option (Bool × Ret))=>zX Tryz.prog x.1 x.2) L1:=⟨ok_mRound,trivial⟩
noncomputable def o_iOf:List PV→Option (Bool × Ret):=fun ps=>match ps with
 | [.n .i64 x]=>some (true,.v (.a (ivC (Iv.of x))))
 | _=>none
theorem ok_iOf:zX Tryz.prog 122 o_iOf:=by
 intro ps r h;unfold o_iOf at h;split at h
 ·simp only [vQZ,vQY] at h;obtain ⟨hg,rfl⟩:=h;exact qK (qU Tryz.func122 (by kernel_rfl) (by kernel_rfl)) rfl rfl (fun w=>iOf _ w)
 ·cases h
noncomputable def L2:OrL:=(122,o_iOf) :: L1
theorem L2_ok:AllP (fun x:Nat × (List PV→Option (Bool × Ret))=>zX Tryz.prog x.1 x.2) L2:=⟨ok_iOf,L1_ok⟩
noncomputable def yXK:List PV→Option (Bool × Ret):=fun ps=>match ps with
 | [.a p',.a v']=>(poD p').bind fun p=>(v3D v').bind fun v=>some (true,.v (.a (v3C (Po.app p v))))
 | _=>none
theorem ok_pApply:zX Tryz.prog 73 yXK:=by
 intro ps r h;unfold yXK at h;split at h
 ·simp only [vQQ,vQZ,vQY] at h;obtain ⟨p,hp,v,hv,hg,rfl⟩:=h;rw [yKY hp];rw [zZK hv];exact qK (qU Tryz.func73 (by kernel_rfl) (by kernel_rfl)) rfl rfl (fun w=>pApply _ _ _ _ _ _ _ _ _ _ _ _ _ _ _ _ _ _ _ _ _ _ _ _ _ _ _ _ _ _ w)
 ·cases h
noncomputable def L3:OrL:=(73,yXK) :: L2
theorem L3_ok:AllP (fun x:Nat × (List PV→Option (Bool × Ret))=>zX Tryz.prog x.1 x.2) L3:=⟨ok_pApply,L2_ok⟩
noncomputable def zQY:List PV→Option (Bool × Ret):=fun ps=>match ps with
 | [.a m',.a v']=>(m3D m').bind fun m=>(v3D v').bind fun v=>some (true,.v (.a (v3C (M3.apply m v))))
 | _=>none
theorem yZU:zX Tryz.prog 155 zQY:=by
 intro ps r h;unfold zQY at h;split at h
 ·simp only [vQQ,vQZ,vQY] at h;obtain ⟨m,hm,v,hv,hg,rfl⟩:=h;rw [yYZ hm];rw [zZK hv];exact qK (qU Tryz.func155 (by kernel_rfl) (by kernel_rfl)) rfl rfl (fun w=>mApply _ _ _ _ _ _ _ _ _ _ _ _ _ _ _ _ _ _ _ _ _ _ _ _ w)
 ·cases h
noncomputable def L4:OrL:=(155,zQY) :: L3
theorem L4_ok:AllP (fun x:Nat × (List PV→Option (Bool × Ret))=>zX Tryz.prog x.1 x.2) L4:=⟨yZU,L3_ok⟩
noncomputable def zQZ:List PV→Option (Bool × Ret):=fun ps=>match ps with
 | [.a z']=>(z3D z').bind fun z=>some (true,.v (.a (v3C (V3.of z))))
 | _=>none
theorem yZK:zX Tryz.prog 74 zQZ:=by
 intro ps r h;unfold zQZ at h;split at h
 ·simp only [vQQ,vQZ,vQY] at h;obtain ⟨z,hz,hg,rfl⟩:=h;rw [jKJ hz];exact qK (qU Tryz.func74 (by kernel_rfl) (by kernel_rfl)) rfl rfl (fun w=>mPoint _ _ _ w)
 ·cases h
noncomputable def L5:OrL:=(74,zQZ) :: L4
theorem L5_ok:AllP (fun x:Nat × (List PV→Option (Bool × Ret))=>zX Tryz.prog x.1 x.2) L5:=⟨yZK,L4_ok⟩
end Go.Proofs.YtgmbkkkbfbocnaaGreat.Od

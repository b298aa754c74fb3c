/- Part 13 of the texts behind the last one: rules and contracts. No condition. -/
import Derived.Test.YtgmbkkkbfbocnaaGreatGM12
open Option renaming bind_eq_some_iff → vQQ
open Option.some renaming injEq → vQZ
open Prod.mk renaming injEq → vQY
open Bool renaming and_eq_true → vQJ
open List renaming getElem?_eq_getElem → vQK, length_cons → vQW, length_nil → vQV, all_eq_true → vZZ, take_succ_cons → vYK, drop_succ_cons → vYU, take_zero → vYX, drop_zero → vYW
open Go.IntKind renaming wrap → vJJ
namespace Go.Proofs.YtgmbkkkbfbocnaaGreat
open Go.Sx Go.Rx Rt Go.RowKit
namespace Tm
end Tm
open Tm
theorem la197:qVY Tryz.prog 197=some ([.int .i64 0,.int .i64 0,.int .i64 0,.int .i64 0],[(0,1),(1,1),(2,1),(3,1)]):=by kernel_rfl
theorem ze197:qUQ Tryz.prog 197 (.agg #[.int .i64 0,.int .i64 0,.int .i64 0,.int .i64 0]):=by unfold qUQ; kernel_rfl
theorem ty197:tyB Tryz.prog 197 true 4=true:=by kernel_rfl
theorem ar197:arrB Tryz.prog 197 4 1=true:=by kernel_rfl
theorem en175:uW Tryz.prog 175:=qW Tryz.func175 (by kernel_rfl) (by kernel_rfl)
theorem iScaled (a:Int) (b:Int) (_:In64 a) (hb:In64 b) (_:b≤4611686018427387904) (w:World):Calls Tryz.prog 175 [.int .i64 a,.int .i64 b].toArray w (Rets (iv (Iv.mk (qZQ (a / 65536)) (qZQ (zV b 65536)))) (w)):=by
 refine jV (n:=10) Tryz.func175 rfl rfl rfl ?_;refine zK ?_;refine qU ?_;refine qGQ 4 ze62 rfl rfl rfl ?_; intro b4;refine zX ?_;refine qK ?_;refine zK ?_;refine qU ?_;refine qG (qV rfl) rfl rfl rfl ?_;refine qWG (F:=vI) (uJ en180 rfl (fun w _=>zHQ _ _ (by decide) w)) rfl rfl rfl ?_; intro r6 hr6;refine qG (qV rfl) rfl rfl rfl ?_;refine qWG (F:=vI) (uJ en181 rfl (fun w _=>yHV _ _ (by decide) hb w)) rfl rfl rfl ?_; intro r8 hr8;refine qWG (F:=iv) (uJ en152 rfl (fun w _=>iLimited _ _  w)) rfl rfl rfl ?_; intro r9 hr9;refine qJK 4 ty62 rfl rfl rfl rfl rfl rfl rfl rfl ?_;refine zX ?_;refine qK ?_;refine qQJ ?_;refine kX (rs:=[.cell 4 62]) rfl (resC (qXQ 4 rfl rfl ty62 rfl) (resN)) (congrArg (iv) (?_:⟨_,_⟩=Iv.mk (qZQ (a / 65536)) (qZQ (zV b 65536))))
 subst_vars; rfl
theorem ix4_0 {p0 p1 p2 p3:Int}:∀ w:World,(Instr.index 197 (.agg #[.int .i64 p0,.int .i64 p1,.int .i64 p2,.int .i64 p3]) (.int .i64 0)).run Tryz.prog w=.ok (.int .i64 p0) w:=fun w=>by kernel_rfl
theorem ix4_1 {p0 p1 p2 p3:Int}:∀ w:World,(Instr.index 197 (.agg #[.int .i64 p0,.int .i64 p1,.int .i64 p2,.int .i64 p3]) (.int .i64 1)).run Tryz.prog w=.ok (.int .i64 p1) w:=fun w=>by kernel_rfl
theorem ix4_2 {p0 p1 p2 p3:Int}:∀ w:World,(Instr.index 197 (.agg #[.int .i64 p0,.int .i64 p1,.int .i64 p2,.int .i64 p3]) (.int .i64 2)).run Tryz.prog w=.ok (.int .i64 p2) w:=fun w=>by kernel_rfl
theorem ix4_3 {p0 p1 p2 p3:Int}:∀ w:World,(Instr.index 197 (.agg #[.int .i64 p0,.int .i64 p1,.int .i64 p2,.int .i64 p3]) (.int .i64 3)).run Tryz.prog w=.ok (.int .i64 p3) w:=fun w=>by kernel_rfl
theorem iMul (a0 a1:Int) (b0 b1:Int) (w:World):Calls Tryz.prog 157 [.agg #[.int .i64 a0,.int .i64 a1],.agg #[.int .i64 b0,.int .i64 b1]].toArray w (Rets (iv (Iv.mul (⟨a0,a1⟩:Iv) (⟨b0,b1⟩:Iv))) (w)):=by
 refine jV (n:=54) Tryz.func157 rfl rfl rfl ?_;refine zK ?_;refine qU ?_;refine zYK 2 rfl rfl rfl rfl ?_; intro b2;refine zYK 3 rfl rfl rfl rfl ?_; intro b3;refine qGQ 4 ze62 rfl rfl rfl ?_; intro b4;refine zX ?_;refine qK ?_;refine zK ?_;refine zK ?_;refine qU ?_;refine qG (qJJ 2 ty62 rfl rfl rfl) rfl rfl rfl ?_;refine qG (qJJ 3 ty62 rfl rfl rfl) rfl rfl rfl ?_;refine qWG (F:=vB) (uJ en174 rfl (fun w _=>iValid2 _ _ _ _  w)) rfl rfl rfl ?_; intro r12 hr12;refine qG (yJJ rfl) rfl rfl rfl ?_;refine zX ?_;refine qK ?_;refine qUJ rfl (fun hc13 => ?_) (fun hc13 => ?_)
 ·
  refine zK ?_;refine qU ?_;refine qG (qWQ la62 rfl rfl) rfl rfl rfl ?_;refine qJK 4 ty62 rfl rfl rfl rfl rfl rfl rfl rfl ?_;refine zX ?_;refine qK ?_;refine qQJ ?_;refine qHG ?_;refine kX (rs:=[.cell 4 62]) rfl (resC (qXQ 4 rfl rfl ty62 rfl) (resN)) (congrArg (iv) (?_:⟨_,_⟩=Iv.mul (⟨a0,a1⟩:Iv) (⟨b0,b1⟩:Iv)))
  subst_vars; first | (simp_all [Iv.mul,min4,max4]; done) | (simp_all [Iv.mul,min4,max4] <;> omega) | grind [Iv.mul,min4,max4]
 ·
  refine qZV ?_;refine qK ?_;refine zK ?_;have hv:=(hr12.symm.trans (by simpa using hc13))
  rw [vQJ] at hv;have ha:=uV hv.1;have hb:=uV hv.2;have m1:=zQV (a:=a0) (b:=b0) (by omega) (by omega);have m2:=zQV (a:=a0) (b:=b1) (by omega) (by omega);have m3:=zQV (a:=a1) (b:=b0) (by omega) (by omega);have m4:=zQV (a:=a1) (b:=b1) (by omega) (by omega);refine qU ?_;refine qG (zH zZZ rfl) rfl rfl rfl ?_;refine qG (jZ 2 ty2 rfl rfl rfl) rfl rfl rfl ?_;refine qG (zH zZZ rfl) rfl rfl rfl ?_;refine qG (jZ 3 ty2 rfl rfl rfl) rfl rfl rfl ?_;refine qG (zQQ rfl rfl (by first | exact zQ ⟨by omega,by omega⟩ | rfl)) rfl rfl rfl ?_;refine qG (zH zZZ rfl) rfl rfl rfl ?_;refine qG (jZ 2 ty2 rfl rfl rfl) rfl rfl rfl ?_;refine qG (zH zXG rfl) rfl rfl rfl ?_;refine qG (jZ 3 ty2 rfl rfl rfl) rfl rfl rfl ?_;refine qG (zQQ rfl rfl (by first | exact zQ ⟨by omega,by omega⟩ | rfl)) rfl rfl rfl ?_;refine qG (zH zXG rfl) rfl rfl rfl ?_;refine qG (jZ 2 ty2 rfl rfl rfl) rfl rfl rfl ?_;refine qG (zH zZZ rfl) rfl rfl rfl ?_;refine qG (jZ 3 ty2 rfl rfl rfl) rfl rfl rfl ?_;refine qG (zQQ rfl rfl (by first | exact zQ ⟨by omega,by omega⟩ | rfl)) rfl rfl rfl ?_;refine qG (zH zXG rfl) rfl rfl rfl ?_;refine qG (jZ 2 ty2 rfl rfl rfl) rfl rfl rfl ?_;refine qG (zH zXG rfl) rfl rfl rfl ?_;refine qG (jZ 3 ty2 rfl rfl rfl) rfl rfl rfl ?_;refine qG (zQQ rfl rfl (by first | exact zQ ⟨by omega,by omega⟩ | rfl)) rfl rfl rfl ?_;refine qG (qWQ la197 rfl rfl) rfl rfl rfl ?_;refine qGQ 5 ze197 rfl rfl rfl ?_; intro b5;refine qJK 5 ty197 rfl rfl rfl rfl rfl rfl rfl rfl ?_;refine zX ?_;refine qK ?_;refine zK ?_;refine qWZ 5 mo (by kernel_rfl) ?_;simp only [vYK,vYX,vYU,vYW];refine jX (zQK ar197 rfl rfl (by first | decide | omega) (by first | decide | omega)) rfl rfl rfl ?_;refine jX (jZ 5 ty2 rfl rfl rfl) rfl rfl rfl ?_;refine jX (zQK ar197 rfl rfl (by first | decide | omega) (by first | decide | omega)) rfl rfl rfl ?_;refine jX (jZ 5 ty2 rfl rfl rfl) rfl rfl rfl ?_;refine jX (zY rfl) rfl rfl rfl ?_;refine zYU ?_;refine qGU ?_;refine qG (zY rfl) rfl rfl rfl ?_;refine zX ?_;refine qK ?_;refine zK ?_;refine zK ?_;refine qU ?_;refine qG (qJJ 5 ty197 rfl rfl rfl) rfl rfl rfl ?_;refine qG (qV rfl) rfl rfl rfl ?_;refine zX ?_;refine qK ?_;refine qXJ ?_;refine doC_rounds 5 ?_;refine zWQ ?_;refine zK ?_;refine qU ?_;refine qG (qWX rfl rfl) rfl rfl rfl ?_;refine zX ?_;refine qK ?_;refine zK ?_;refine qHK rfl (by decide) ?_;refine qZV ?_;refine qK ?_;refine zK ?_;refine qXJ ?_;refine zK ?_;refine qU ?_;refine qG (qHY rfl rfl (ix4_0)) rfl rfl rfl ?_;refine qG (zY rfl) rfl rfl rfl ?_;refine zX ?_;refine qK ?_;refine qU ?_;refine qG (qV rfl) rfl rfl rfl ?_;refine qG (qV rfl) rfl rfl rfl ?_;refine qG (zQZ rfl rfl) rfl rfl rfl ?_;refine qG (qV rfl) rfl rfl rfl ?_;refine qG (qV rfl) rfl rfl rfl ?_;refine qG (zQY rfl rfl) rfl rfl rfl ?_;refine qG (zY rfl) rfl rfl rfl ?_;refine qG (zY rfl) rfl rfl rfl ?_;refine zX ?_;refine uZ ?_;refine qK ?_;refine qU ?_;refine qG (qKG rfl rfl (by first | exact zQ ⟨by omega,by omega⟩ | rfl)) rfl rfl rfl ?_;refine qG (qV rfl) rfl rfl rfl ?_;refine zX ?_;refine qHH ?_;refine zWQ ?_;refine zK ?_;refine qU ?_;refine qG (qWX rfl rfl) rfl rfl rfl ?_;refine zX ?_;refine qK ?_;refine zK ?_;refine qHK rfl (by decide) ?_;refine qZV ?_;refine qK ?_;refine zK ?_;refine qXJ ?_;refine zK ?_;refine qU ?_;refine qG (qHY rfl rfl (ix4_1)) rfl rfl rfl ?_;refine qG (zY rfl) rfl rfl rfl ?_;refine zX ?_;refine qK ?_;refine qU ?_;refine qG (qV rfl) rfl rfl rfl ?_;refine qG (qV rfl) rfl rfl rfl ?_;refine qG (zQZ rfl rfl) rfl rfl rfl ?_;refine qG (qV rfl) rfl rfl rfl ?_;refine qG (qV rfl) rfl rfl rfl ?_;refine qG (zQY rfl rfl) rfl rfl rfl ?_;refine qG (zY rfl) rfl rfl rfl ?_;refine qG (zY rfl) rfl rfl rfl ?_;refine zX ?_;refine uZ ?_;refine qK ?_;refine qU ?_;refine qG (qKG rfl rfl (by first | exact zQ ⟨by omega,by omega⟩ | rfl)) rfl rfl rfl ?_;refine qG (qV rfl) rfl rfl rfl ?_;refine zX ?_;refine qHH ?_;refine zWQ ?_;refine zK ?_;refine qU ?_;refine qG (qWX rfl rfl) rfl rfl rfl ?_;refine zX ?_;refine qK ?_;refine zK ?_;refine qHK rfl (by decide) ?_;refine qZV ?_;refine qK ?_;refine zK ?_;refine qXJ ?_;refine zK ?_;refine qU ?_;refine qG (qHY rfl rfl (ix4_2)) rfl rfl rfl ?_;refine qG (zY rfl) rfl rfl rfl ?_;refine zX ?_;refine qK ?_;refine qU ?_;refine qG (qV rfl) rfl rfl rfl ?_;refine qG (qV rfl) rfl rfl rfl ?_;refine qG (zQZ rfl rfl) rfl rfl rfl ?_;refine qG (qV rfl) rfl rfl rfl ?_;refine qG (qV rfl) rfl rfl rfl ?_;refine qG (zQY rfl rfl) rfl rfl rfl ?_;refine qG (zY rfl) rfl rfl rfl ?_;refine qG (zY rfl) rfl rfl rfl ?_;refine zX ?_;refine uZ ?_;refine qK ?_;refine qU ?_;refine qG (qKG rfl rfl (by first | exact zQ ⟨by omega,by omega⟩ | rfl)) rfl rfl rfl ?_;refine qG (qV rfl) rfl rfl rfl ?_;refine zX ?_;refine qHH ?_;refine zWQ ?_;refine zK ?_;refine qU ?_;refine qG (qWX rfl rfl) rfl rfl rfl ?_;refine zX ?_;refine qK ?_;refine zK ?_;refine qHK rfl (by decide) ?_;refine qZV ?_;refine qK ?_;refine zK ?_;refine qXJ ?_;refine zK ?_;refine qU ?_;refine qG (qHY rfl rfl (ix4_3)) rfl rfl rfl ?_;refine qG (zY rfl) rfl rfl rfl ?_;refine zX ?_;refine qK ?_;refine qU ?_;refine qG (qV rfl) rfl rfl rfl ?_;refine qG (qV rfl) rfl rfl rfl ?_;refine qG (zQZ rfl rfl) rfl rfl rfl ?_;refine qG (qV rfl) rfl rfl rfl ?_;refine qG (qV rfl) rfl rfl rfl ?_;refine qG (zQY rfl rfl) rfl rfl rfl ?_;refine qG (zY rfl) rfl rfl rfl ?_;refine qG (zY rfl) rfl rfl rfl ?_;refine zX ?_;refine uZ ?_;refine qK ?_;refine qU ?_;refine qG (qKG rfl rfl (by first | exact zQ ⟨by omega,by omega⟩ | rfl)) rfl rfl rfl ?_;refine qG (qV rfl) rfl rfl rfl ?_;refine zX ?_;refine qHH ?_;refine zWQ ?_;refine zK ?_;refine qU ?_;refine qG (qWX rfl rfl) rfl rfl rfl ?_;refine zX ?_;refine qK ?_;refine zK ?_;refine zJU rfl (by decide) ?_;refine jQY ?_;refine qJW ?_;refine qJW ?_;refine qVV ?_;refine qK ?_;refine zK ?_;refine qU ?_;refine qG (qV rfl) rfl rfl rfl ?_;refine qG (qV rfl) rfl rfl rfl ?_;refine qWG (F:=iv) (uJ en175 rfl (fun w _=>iScaled _ _ (by unfold In64; omega) (by unfold In64; omega) (by omega) w)) rfl rfl rfl ?_; intro r53 hr53;refine qJK 4 ty62 rfl rfl rfl rfl rfl rfl rfl rfl ?_;refine zX ?_;refine qK ?_;refine qQJ ?_;refine kX (rs:=[.cell 4 62]) rfl (resC (qXQ 4 rfl rfl ty62 rfl) (resN)) (congrArg (iv) (?_:⟨_,_⟩=Iv.mul (⟨a0,a1⟩:Iv) (⟨b0,b1⟩:Iv)))
  subst_vars; first | (simp_all [Iv.mul,min4,max4]; done) | (simp_all [Iv.mul,min4,max4] <;> omega) | grind [Iv.mul,min4,max4]
namespace Tm
noncomputable def LTm1:OrL:=(122,Ta.o_iOf) :: ([]:OrL)
theorem LTm1_ok:AllP (fun x:Nat × (List PV→Option (Bool × Ret))=>zJ Tryz.prog x.1 x.2) LTm1:=⟨Ta.ok_iOf,trivial⟩
noncomputable def LTm2:OrL:=(34,Ta.o_rOf) :: LTm1
theorem jXV:AllP (fun x:Nat × (List PV→Option (Bool × Ret))=>zJ Tryz.prog x.1 x.2) LTm2:=⟨Ta.ok_rOf,LTm1_ok⟩
end Tm
set_option maxRecDepth 100000 in
theorem mPoint (p0 p1 p2:Int) (w:World):Calls Tryz.prog 74 [.agg #[.int .i64 p0,.int .i64 p1,.int .i64 p2]].toArray w (Rets (v3 (V3.of (⟨p0,p1,p2⟩:Z3))) (w)) :=
 zZ (x:=.a (v3C (V3.of ⟨p0,p1,p2⟩))) (qH (N:=60) (ps:=[.a [.n .i64 p0,.n .i64 p1,.n .i64 p2]]) yJ zG (OrL.ok (l:=LTm2) jXV) (by kernel_rfl)) rfl rfl w
set_option maxRecDepth 100000 in
theorem rPoint (p0 p1 p2:Int) (w:World):Calls Tryz.prog 36 [.agg #[.int .i64 p0,.int .i64 p1,.int .i64 p2]].toArray w (Rets (v3 (V3.of (⟨p0,p1,p2⟩:Z3))) (w)) :=
 zZ (x:=.a (v3C (V3.of ⟨p0,p1,p2⟩))) (qH (N:=60) (ps:=[.a [.n .i64 p0,.n .i64 p1,.n .i64 p2]]) yJ zG (OrL.ok (l:=LTm2) jXV) (by kernel_rfl)) rfl rfl w
namespace Tm
noncomputable def LTm3:OrL:=(135,Tn.o_iValid) :: LTm2
theorem LTm3_ok:AllP (fun x:Nat × (List PV→Option (Bool × Ret))=>zJ Tryz.prog x.1 x.2) LTm3:=⟨Tn.ok_iValid,jXV⟩
noncomputable def o_iAdd:List PV→Option (Bool × Ret):=fun ps=>match ps with
 | [.a a',.a b']=>(ivD a').bind fun a=>(ivD b').bind fun b=>some (true,.v (.a (ivC (Iv.add a b))))
 | _=>none
theorem ok_iAdd:zJ Tryz.prog 156 o_iAdd:=by
 intro ps r h;unfold o_iAdd at h;split at h
 ·simp only [vQQ,vQZ,vQY] at h;obtain ⟨a,ha,b,hb,hg,rfl⟩:=h;rw [qQH ha];rw [qQH hb];exact qX (qW Tryz.func156 (by kernel_rfl) (by kernel_rfl)) rfl rfl (fun w=>iAdd _ _ _ _ w)
 ·cases h
noncomputable def LTm4:OrL:=(156,o_iAdd) :: LTm3
theorem LTm4_ok:AllP (fun x:Nat × (List PV→Option (Bool × Ret))=>zJ Tryz.prog x.1 x.2) LTm4:=⟨ok_iAdd,LTm3_ok⟩
noncomputable def LTm5:OrL:=(184,Ta.o_iNeg) :: LTm4
theorem LTm5_ok:AllP (fun x:Nat × (List PV→Option (Bool × Ret))=>zJ Tryz.prog x.1 x.2) LTm5:=⟨Ta.ok_iNeg,LTm4_ok⟩
noncomputable def LTm6:OrL:=(148,Tn.o_rValid) :: LTm5
theorem LTm6_ok:AllP (fun x:Nat × (List PV→Option (Bool × Ret))=>zJ Tryz.prog x.1 x.2) LTm6:=⟨Tn.ok_rValid,LTm5_ok⟩
noncomputable def o_rAdd:List PV→Option (Bool × Ret):=fun ps=>match ps with
 | [.a a',.a b']=>(ivD a').bind fun a=>(ivD b').bind fun b=>some (true,.v (.a (ivC (Iv.add a b))))
 | _=>none
theorem ok_rAdd:zJ Tryz.prog 131 o_rAdd:=by
 intro ps r h;unfold o_rAdd at h;split at h
 ·simp only [vQQ,vQZ,vQY] at h;obtain ⟨a,ha,b,hb,hg,rfl⟩:=h;rw [qQH ha];rw [qQH hb];exact qX (qW Tryz.func131 (by kernel_rfl) (by kernel_rfl)) rfl rfl (fun w=>rAdd _ _ _ _ w)
 ·cases h
noncomputable def LTm7:OrL:=(131,o_rAdd) :: LTm6
theorem LTm7_ok:AllP (fun x:Nat × (List PV→Option (Bool × Ret))=>zJ Tryz.prog x.1 x.2) LTm7:=⟨ok_rAdd,LTm6_ok⟩
noncomputable def LTm8:OrL:=(171,Ta.o_rNeg) :: LTm7
theorem yUX:AllP (fun x:Nat × (List PV→Option (Bool × Ret))=>zJ Tryz.prog x.1 x.2) LTm8:=⟨Ta.ok_rNeg,LTm7_ok⟩
end Tm
set_option maxRecDepth 100000 in
theorem mAdd (p0 p1 p2 p3 p4 p5:Int) (q0 q1 q2 q3 q4 q5:Int) (w:World):Calls Tryz.prog 154 [.agg #[.int .i64 p0,.int .i64 p1,.int .i64 p2,.int .i64 p3,.int .i64 p4,.int .i64 p5],.agg #[.int .i64 q0,.int .i64 q1,.int .i64 q2,.int .i64 q3,.int .i64 q4,.int .i64 q5]].toArray w (Rets (v3 (V3.add (⟨⟨p0,p1⟩,⟨p2,p3⟩,⟨p4,p5⟩⟩:V3) (⟨⟨q0,q1⟩,⟨q2,q3⟩,⟨q4,q5⟩⟩:V3))) (w)) :=
 zZ (x:=.a (v3C (V3.add ⟨⟨p0,p1⟩,⟨p2,p3⟩,⟨p4,p5⟩⟩ ⟨⟨q0,q1⟩,⟨q2,q3⟩,⟨q4,q5⟩⟩))) (qH (N:=60) (ps:=[.a (ivs [⟨p0,p1⟩,⟨p2,p3⟩,⟨p4,p5⟩]),.a (ivs [⟨q0,q1⟩,⟨q2,q3⟩,⟨q4,q5⟩])]) yJ zG (OrL.ok (l:=LTm8) yUX) (by kernel_rfl)) rfl rfl w
set_option maxRecDepth 100000 in
theorem rAddVec (p0 p1 p2 p3 p4 p5:Int) (q0 q1 q2 q3 q4 q5:Int) (w:World):Calls Tryz.prog 82 [.agg #[.int .i64 p0,.int .i64 p1,.int .i64 p2,.int .i64 p3,.int .i64 p4,.int .i64 p5],.agg #[.int .i64 q0,.int .i64 q1,.int .i64 q2,.int .i64 q3,.int .i64 q4,.int .i64 q5]].toArray w (Rets (v3 (V3.add (⟨⟨p0,p1⟩,⟨p2,p3⟩,⟨p4,p5⟩⟩:V3) (⟨⟨q0,q1⟩,⟨q2,q3⟩,⟨q4,q5⟩⟩:V3))) (w)) :=
 zZ (x:=.a (v3C (V3.add ⟨⟨p0,p1⟩,⟨p2,p3⟩,⟨p4,p5⟩⟩ ⟨⟨q0,q1⟩,⟨q2,q3⟩,⟨q4,q5⟩⟩))) (qH (N:=60) (ps:=[.a (ivs [⟨p0,p1⟩,⟨p2,p3⟩,⟨p4,p5⟩]),.a (ivs [⟨q0,q1⟩,⟨q2,q3⟩,⟨q4,q5⟩])]) yJ zG (OrL.ok (l:=LTm8) yUX) (by kernel_rfl)) rfl rfl w
set_option maxRecDepth 100000 in
theorem mIdentity  (w:World):Calls Tryz.prog 127 [].toArray w (Rets (m3 (M3.unit)) (w)) :=
 zZ (x:=.a (m3C M3.unit)) (qH (N:=60) (ps:=[]) yJ zG (OrL.ok (l:=LTm8) yUX) (by kernel_rfl)) rfl rfl w
set_option maxRecDepth 100000 in
theorem rUnit  (w:World):Calls Tryz.prog 141 [].toArray w (Rets (m3 (M3.unit)) (w)) :=
 zZ (x:=.a (m3C M3.unit)) (qH (N:=60) (ps:=[]) yJ zG (OrL.ok (l:=LTm8) yUX) (by kernel_rfl)) rfl rfl w
namespace Tm
noncomputable def zGX:List PV→Option (Bool × Ret):=fun ps=>match ps with
 | [.a a']=>(ivD a').bind fun a=>some (true,.v (.a (ivC (kV a))))
 | _=>none
theorem ok_aSinOver:zJ Tryz.prog 183 zGX:=by
 intro ps r h;unfold zGX at h;split at h
 ·simp only [vQQ,vQZ,vQY] at h;obtain ⟨a,ha,hg,rfl⟩:=h;rw [qQH ha];exact qX (qW Tryz.func183 (by kernel_rfl) (by kernel_rfl)) rfl rfl (fun w=>aSinOver _ _ w)
 ·cases h
noncomputable def LTm9:OrL:=(183,zGX) :: LTm8
theorem LTm9_ok:AllP (fun x:Nat × (List PV→Option (Bool × Ret))=>zJ Tryz.prog x.1 x.2) LTm9:=⟨ok_aSinOver,yUX⟩
noncomputable def zGW:List PV→Option (Bool × Ret):=fun ps=>match ps with
 | [.a a']=>(ivD a').bind fun a=>some (true,.v (.a (ivC (kG a))))
 | _=>none
theorem ok_aCosOver:zJ Tryz.prog 182 zGW:=by
 intro ps r h;unfold zGW at h;split at h
 ·simp only [vQQ,vQZ,vQY] at h;obtain ⟨a,ha,hg,rfl⟩:=h;rw [qQH ha];exact qX (qW Tryz.func182 (by kernel_rfl) (by kernel_rfl)) rfl rfl (fun w=>aCosOver _ _ w)
 ·cases h
noncomputable def LTm10:OrL:=(182,zGW) :: LTm9
theorem LTm10_ok:AllP (fun x:Nat × (List PV→Option (Bool × Ret))=>zJ Tryz.prog x.1 x.2) LTm10:=⟨ok_aCosOver,LTm9_ok⟩
noncomputable def zVW:List PV→Option (Bool × Ret):=fun ps=>match ps with
 | [.a a']=>(ivD a').bind fun a=>some (true,.v (.a (ivC (kV a))))
 | _=>none
theorem ok_rSinOver:zJ Tryz.prog 170 zVW:=by
 intro ps r h;unfold zVW at h;split at h
 ·simp only [vQQ,vQZ,vQY] at h;obtain ⟨a,ha,hg,rfl⟩:=h;rw [qQH ha];exact qX (qW Tryz.func170 (by kernel_rfl) (by kernel_rfl)) rfl rfl (fun w=>rSinOver _ _ w)
 ·cases h
noncomputable def LTm11:OrL:=(170,zVW) :: LTm10
theorem LTm11_ok:AllP (fun x:Nat × (List PV→Option (Bool × Ret))=>zJ Tryz.prog x.1 x.2) LTm11:=⟨ok_rSinOver,LTm10_ok⟩
noncomputable def zVH:List PV→Option (Bool × Ret):=fun ps=>match ps with
 | [.a a']=>(ivD a').bind fun a=>some (true,.v (.a (ivC (kG a))))
 | _=>none
theorem ok_rCosOver:zJ Tryz.prog 169 zVH:=by
 intro ps r h;unfold zVH at h;split at h
 ·simp only [vQQ,vQZ,vQY] at h;obtain ⟨a,ha,hg,rfl⟩:=h;rw [qQH ha];exact qX (qW Tryz.func169 (by kernel_rfl) (by kernel_rfl)) rfl rfl (fun w=>rCosOver _ _ w)
 ·cases h
noncomputable def kGG:OrL:=(169,zVH) :: LTm11
theorem LTm12_ok:AllP (fun x:Nat × (List PV→Option (Bool × Ret))=>zJ Tryz.prog x.1 x.2) kGG:=⟨ok_rCosOver,LTm11_ok⟩
end Tm
set_option maxRecDepth 100000 in
theorem mTurn (axis:Int) (a0 a1:Int) (w:World):Calls Tryz.prog 176 [.int .i64 axis,.agg #[.int .i64 a0,.int .i64 a1]].toArray w (Rets (m3 (M3.turn axis (⟨a0,a1⟩:Iv))) (w)) :=
 zZ (x:=.a (m3C (M3.turn axis ⟨a0,a1⟩))) (qH (N:=60) (ps:=[.n .i64 axis,.a [.n .i64 a0,.n .i64 a1]]) yJ zG (OrL.ok (l:=kGG) LTm12_ok) ((by kernel_rfl:_=bif Iv.valid (Iv.mk a0 a1) then (bif (decide (axis=0)) then some (.v (.a (ivs [(Iv.of 65536),(Iv.of 0),(Iv.of 0),(Iv.of 0),(kG (Iv.mk a0 a1)),(Iv.neg (kV (Iv.mk a0 a1))),(Iv.of 0),(kV (Iv.mk a0 a1)),(kG (Iv.mk a0 a1))])),[])
 else bif (decide (axis=1)) then some (.v (.a (ivs [(kG (Iv.mk a0 a1)),(Iv.of 0),(kV (Iv.mk a0 a1)),(Iv.of 0),(Iv.of 65536),(Iv.of 0),(Iv.neg (kV (Iv.mk a0 a1))),(Iv.of 0),(kG (Iv.mk a0 a1))])),[])
 else bif (decide (axis=2)) then some (.v (.a (ivs [(kG (Iv.mk a0 a1)),(Iv.neg (kV (Iv.mk a0 a1))),(Iv.of 0),(kV (Iv.mk a0 a1)),(kG (Iv.mk a0 a1)),(Iv.of 0),(Iv.of 0),(Iv.of 0),(Iv.of 65536)])),[])
 else some (.v (.a (ivs [iv0,iv0,iv0,iv0,iv0,iv0,iv0,iv0,iv0])),[]))
 else some (.v (.a (ivs [iv0,iv0,iv0,iv0,iv0,iv0,iv0,iv0,iv0])),[])).trans (by
 simp only [of_one,of_zero];unfold M3.turn;cases Iv.valid (Iv.mk a0 a1) <;> cases decide (axis=0) <;> cases decide (axis=1) <;> cases decide (axis=2) <;> rfl))) rfl rfl w
set_option maxRecDepth 100000 in
theorem rTurn (axis:Int) (a0 a1:Int) (w:World):Calls Tryz.prog 149 [.int .i64 axis,.agg #[.int .i64 a0,.int .i64 a1]].toArray w (Rets (m3 (M3.turn axis (⟨a0,a1⟩:Iv))) (w)) :=
 zZ (x:=.a (m3C (M3.turn axis ⟨a0,a1⟩))) (qH (N:=60) (ps:=[.n .i64 axis,.a [.n .i64 a0,.n .i64 a1]]) yJ zG (OrL.ok (l:=kGG) LTm12_ok) ((by kernel_rfl:_=bif Iv.valid (Iv.mk a0 a1) then (bif (decide (axis=0)) then some (.v (.a (ivs [(Iv.of 65536),iv0,iv0,iv0,(kG (Iv.mk a0 a1)),(Iv.neg (kV (Iv.mk a0 a1))),iv0,(kV (Iv.mk a0 a1)),(kG (Iv.mk a0 a1))])),[])
 else bif (decide (axis=1)) then some (.v (.a (ivs [(kG (Iv.mk a0 a1)),iv0,(kV (Iv.mk a0 a1)),iv0,(Iv.of 65536),iv0,(Iv.neg (kV (Iv.mk a0 a1))),iv0,(kG (Iv.mk a0 a1))])),[])
 else bif (decide (axis=2)) then some (.v (.a (ivs [(kG (Iv.mk a0 a1)),(Iv.neg (kV (Iv.mk a0 a1))),iv0,(kV (Iv.mk a0 a1)),(kG (Iv.mk a0 a1)),iv0,iv0,iv0,(Iv.of 65536)])),[])
 else some (.v (.a (ivs [iv0,iv0,iv0,iv0,iv0,iv0,iv0,iv0,iv0])),[]))
 else some (.v (.a (ivs [iv0,iv0,iv0,iv0,iv0,iv0,iv0,iv0,iv0])),[])).trans (by
 simp only [of_one,of_zero];unfold M3.turn;cases Iv.valid (Iv.mk a0 a1) <;> cases decide (axis=0) <;> cases decide (axis=1) <;> cases decide (axis=2) <;> rfl))) rfl rfl w
end Go.Proofs.YtgmbkkkbfbocnaaGreat
namespace Go.Proofs.YtgmbkkkbfbocnaaGreat
open Go.Rx Rt Go.Sx Go.RowKit
namespace VM2
noncomputable def LVM21:OrL:=(156,Tm.o_iAdd) :: ([]:OrL)
theorem LVM21_ok:AllP (fun x:Nat × (List PV→Option (Bool × Ret))=>zJ Tryz.prog x.1 x.2) LVM21:=⟨Tm.ok_iAdd,trivial⟩
noncomputable def kQG:List PV→Option (Bool × Ret):=fun ps=>match ps with
 | [.a a',.a b']=>(ivD a').bind fun a=>(ivD b').bind fun b=>some (true,.v (.a (ivC (Iv.mul a b))))
 | _=>none
theorem ok_iMul:zJ Tryz.prog 157 kQG:=by
 intro ps r h;unfold kQG at h;split at h
 ·simp only [vQQ,vQZ,vQY] at h;obtain ⟨a,ha,b,hb,hg,rfl⟩:=h;rw [qQH ha];rw [qQH hb];exact qX (qW Tryz.func157 (by kernel_rfl) (by kernel_rfl)) rfl rfl (fun w=>iMul _ _ _ _ w)
 ·cases h
noncomputable def LVM22:OrL:=(157,kQG) :: LVM21
theorem LVM22_ok:AllP (fun x:Nat × (List PV→Option (Bool × Ret))=>zJ Tryz.prog x.1 x.2) LVM22:=⟨ok_iMul,LVM21_ok⟩
noncomputable def kQK:List PV→Option (Bool × Ret):=fun ps=>match ps with
 | [.a a',.a b']=>(ivD a').bind fun a=>(ivD b').bind fun b=>some (true,.v (.a (ivC (Iv.mul a b))))
 | _=>none
theorem ok_rMul:zJ Tryz.prog 132 kQK:=by
 intro ps r h;unfold kQK at h;split at h
 ·simp only [vQQ,vQZ,vQY] at h;obtain ⟨a,ha,b,hb,hg,rfl⟩:=h;rw [qQH ha];rw [qQH hb];exact qX (qW Tryz.func132 (by kernel_rfl) (by kernel_rfl)) rfl rfl (fun w=>rMul _ _ _ _ w)
 ·cases h
noncomputable def LVM23:OrL:=(132,kQK) :: LVM22
theorem LVM23_ok:AllP (fun x:Nat × (List PV→Option (Bool × Ret))=>zJ Tryz.prog x.1 x.2) LVM23:=⟨ok_rMul,LVM22_ok⟩
noncomputable def kYH:OrL:=(131,Tm.o_rAdd) :: LVM23
theorem yYZ:AllP (fun x:Nat × (List PV→Option (Bool × Ret))=>zJ Tryz.prog x.1 x.2) kYH:=⟨Tm.ok_rAdd,LVM23_ok⟩
end VM2
open VM2
set_option maxRecDepth 100000 in
theorem mCompose (p0 p1 p2 p3 p4 p5 p6 p7 p8 p9 p10 p11 p12 p13 p14 p15 p16 p17:Int) (q0 q1 q2 q3 q4 q5 q6 q7 q8 q9 q10 q11 q12 q13 q14 q15 q16 q17:Int) (w:World):Calls Tryz.prog 126 [.agg #[.int .i64 p0,.int .i64 p1,.int .i64 p2,.int .i64 p3,.int .i64 p4,.int .i64 p5,.int .i64 p6,.int .i64 p7,.int .i64 p8,.int .i64 p9,.int .i64 p10,.int .i64 p11,.int .i64 p12,.int .i64 p13,.int .i64 p14,.int .i64 p15,.int .i64 p16,.int .i64 p17],.agg #[.int .i64 q0,.int .i64 q1,.int .i64 q2,.int .i64 q3,.int .i64 q4,.int .i64 q5,.int .i64 q6,.int .i64 q7,.int .i64 q8,.int .i64 q9,.int .i64 q10,.int .i64 q11,.int .i64 q12,.int .i64 q13,.int .i64 q14,.int .i64 q15,.int .i64 q16,.int .i64 q17]].toArray w (Rets (m3 (M3.mul ((M3.mk (V3.mk (Iv.mk p0 p1) (Iv.mk p2 p3) (Iv.mk p4 p5)) (V3.mk (Iv.mk p6 p7) (Iv.mk p8 p9) (Iv.mk p10 p11)) (V3.mk (Iv.mk p12 p13) (Iv.mk p14 p15) (Iv.mk p16 p17))):M3) ((M3.mk (V3.mk (Iv.mk q0 q1) (Iv.mk q2 q3) (Iv.mk q4 q5)) (V3.mk (Iv.mk q6 q7) (Iv.mk q8 q9) (Iv.mk q10 q11)) (V3.mk (Iv.mk q12 q13) (Iv.mk q14 q15) (Iv.mk q16 q17))):M3))) w) :=
 zZ (x:=.a (m3C (M3.mul ((M3.mk (V3.mk (Iv.mk p0 p1) (Iv.mk p2 p3) (Iv.mk p4 p5)) (V3.mk (Iv.mk p6 p7) (Iv.mk p8 p9) (Iv.mk p10 p11)) (V3.mk (Iv.mk p12 p13) (Iv.mk p14 p15) (Iv.mk p16 p17))):M3) ((M3.mk (V3.mk (Iv.mk q0 q1) (Iv.mk q2 q3) (Iv.mk q4 q5)) (V3.mk (Iv.mk q6 q7) (Iv.mk q8 q9) (Iv.mk q10 q11)) (V3.mk (Iv.mk q12 q13) (Iv.mk q14 q15) (Iv.mk q16 q17))):M3)))) (qH (N:=60) (ps:=[.a [.n .i64 p0,.n .i64 p1,.n .i64 p2,.n .i64 p3,.n .i64 p4,.n .i64 p5,.n .i64 p6,.n .i64 p7,.n .i64 p8,.n .i64 p9,.n .i64 p10,.n .i64 p11,.n .i64 p12,.n .i64 p13,.n .i64 p14,.n .i64 p15,.n .i64 p16,.n .i64 p17],.a [.n .i64 q0,.n .i64 q1,.n .i64 q2,.n .i64 q3,.n .i64 q4,.n .i64 q5,.n .i64 q6,.n .i64 q7,.n .i64 q8,.n .i64 q9,.n .i64 q10,.n .i64 q11,.n .i64 q12,.n .i64 q13,.n .i64 q14,.n .i64 q15,.n .i64 q16,.n .i64 q17]]) yJ zG (OrL.ok (l:=kYH) yYZ) ((by kernel_rfl:_=some (.v (.a [.n .i64 (min (max (Iv.add (Iv.add (Iv.add (Iv.mk 0 0) (Iv.mul (Iv.mk p0 p1) (Iv.mk q0 q1))) (Iv.mul (Iv.mk p2 p3) (Iv.mk q6 q7))) (Iv.mul (Iv.mk p4 p5) (Iv.mk q12 q13))).lo (-65536)) 65536),.n .i64 (min (max (Iv.add (Iv.add (Iv.add (Iv.mk 0 0) (Iv.mul (Iv.mk p0 p1) (Iv.mk q0 q1))) (Iv.mul (Iv.mk p2 p3) (Iv.mk q6 q7))) (Iv.mul (Iv.mk p4 p5) (Iv.mk q12 q13))).hi (-65536)) 65536),.n .i64 (min (max (Iv.add (Iv.add (Iv.add (Iv.mk 0 0) (Iv.mul (Iv.mk p0 p1) (Iv.mk q2 q3))) (Iv.mul (Iv.mk p2 p3) (Iv.mk q8 q9))) (Iv.mul (Iv.mk p4 p5) (Iv.mk q14 q15))).lo (-65536)) 65536),.n .i64 (min (max (Iv.add (Iv.add (Iv.add (Iv.mk 0 0) (Iv.mul (Iv.mk p0 p1) (Iv.mk q2 q3))) (Iv.mul (Iv.mk p2 p3) (Iv.mk q8 q9))) (Iv.mul (Iv.mk p4 p5) (Iv.mk q14 q15))).hi (-65536)) 65536),.n .i64 (min (max (Iv.add (Iv.add (Iv.add (Iv.mk 0 0) (Iv.mul (Iv.mk p0 p1) (Iv.mk q4 q5))) (Iv.mul (Iv.mk p2 p3) (Iv.mk q10 q11))) (Iv.mul (Iv.mk p4 p5) (Iv.mk q16 q17))).lo (-65536)) 65536),.n .i64 (min (max (Iv.add (Iv.add (Iv.add (Iv.mk 0 0) (Iv.mul (Iv.mk p0 p1) (Iv.mk q4 q5))) (Iv.mul (Iv.mk p2 p3) (Iv.mk q10 q11))) (Iv.mul (Iv.mk p4 p5) (Iv.mk q16 q17))).hi (-65536)) 65536),.n .i64 (min (max (Iv.add (Iv.add (Iv.add (Iv.mk 0 0) (Iv.mul (Iv.mk p6 p7) (Iv.mk q0 q1))) (Iv.mul (Iv.mk p8 p9) (Iv.mk q6 q7))) (Iv.mul (Iv.mk p10 p11) (Iv.mk q12 q13))).lo (-65536)) 65536),.n .i64 (min (max (Iv.add (Iv.add (Iv.add (Iv.mk 0 0) (Iv.mul (Iv.mk p6 p7) (Iv.mk q0 q1))) (Iv.mul (Iv.mk p8 p9) (Iv.mk q6 q7))) (Iv.mul (Iv.mk p10 p11) (Iv.mk q12 q13))).hi (-65536)) 65536),.n .i64 (min (max (Iv.add (Iv.add (Iv.add (Iv.mk 0 0) (Iv.mul (Iv.mk p6 p7) (Iv.mk q2 q3))) (Iv.mul (Iv.mk p8 p9) (Iv.mk q8 q9))) (Iv.mul (Iv.mk p10 p11) (Iv.mk q14 q15))).lo (-65536)) 65536),.n .i64 (min (max (Iv.add (Iv.add (Iv.add (Iv.mk 0 0) (Iv.mul (Iv.mk p6 p7) (Iv.mk q2 q3))) (Iv.mul (Iv.mk p8 p9) (Iv.mk q8 q9))) (Iv.mul (Iv.mk p10 p11) (Iv.mk q14 q15))).hi (-65536)) 65536),.n .i64 (min (max (Iv.add (Iv.add (Iv.add (Iv.mk 0 0) (Iv.mul (Iv.mk p6 p7) (Iv.mk q4 q5))) (Iv.mul (Iv.mk p8 p9) (Iv.mk q10 q11))) (Iv.mul (Iv.mk p10 p11) (Iv.mk q16 q17))).lo (-65536)) 65536),.n .i64 (min (max (Iv.add (Iv.add (Iv.add (Iv.mk 0 0) (Iv.mul (Iv.mk p6 p7) (Iv.mk q4 q5))) (Iv.mul (Iv.mk p8 p9) (Iv.mk q10 q11))) (Iv.mul (Iv.mk p10 p11) (Iv.mk q16 q17))).hi (-65536)) 65536),.n .i64 (min (max (Iv.add (Iv.add (Iv.add (Iv.mk 0 0) (Iv.mul (Iv.mk p12 p13) (Iv.mk q0 q1))) (Iv.mul (Iv.mk p14 p15) (Iv.mk q6 q7))) (Iv.mul (Iv.mk p16 p17) (Iv.mk q12 q13))).lo (-65536)) 65536),.n .i64 (min (max (Iv.add (Iv.add (Iv.add (Iv.mk 0 0) (Iv.mul (Iv.mk p12 p13) (Iv.mk q0 q1))) (Iv.mul (Iv.mk p14 p15) (Iv.mk q6 q7))) (Iv.mul (Iv.mk p16 p17) (Iv.mk q12 q13))).hi (-65536)) 65536),.n .i64 (min (max (Iv.add (Iv.add (Iv.add (Iv.mk 0 0) (Iv.mul (Iv.mk p12 p13) (Iv.mk q2 q3))) (Iv.mul (Iv.mk p14 p15) (Iv.mk q8 q9))) (Iv.mul (Iv.mk p16 p17) (Iv.mk q14 q15))).lo (-65536)) 65536),.n .i64 (min (max (Iv.add (Iv.add (Iv.add (Iv.mk 0 0) (Iv.mul (Iv.mk p12 p13) (Iv.mk q2 q3))) (Iv.mul (Iv.mk p14 p15) (Iv.mk q8 q9))) (Iv.mul (Iv.mk p16 p17) (Iv.mk q14 q15))).hi (-65536)) 65536),.n .i64 (min (max (Iv.add (Iv.add (Iv.add (Iv.mk 0 0) (Iv.mul (Iv.mk p12 p13) (Iv.mk q4 q5))) (Iv.mul (Iv.mk p14 p15) (Iv.mk q10 q11))) (Iv.mul (Iv.mk p16 p17) (Iv.mk q16 q17))).lo (-65536)) 65536),.n .i64 (min (max (Iv.add (Iv.add (Iv.add (Iv.mk 0 0) (Iv.mul (Iv.mk p12 p13) (Iv.mk q4 q5))) (Iv.mul (Iv.mk p14 p15) (Iv.mk q10 q11))) (Iv.mul (Iv.mk p16 p17) (Iv.mk q16 q17))).hi (-65536)) 65536)]),[])).trans (by simp only [add_zero_mul]; rfl))) rfl rfl w
set_option maxRecDepth 100000 in
theorem rCompose (p0 p1 p2 p3 p4 p5 p6 p7 p8 p9 p10 p11 p12 p13 p14 p15 p16 p17:Int) (q0 q1 q2 q3 q4 q5 q6 q7 q8 q9 q10 q11 q12 q13 q14 q15 q16 q17:Int) (w:World):Calls Tryz.prog 117 [.agg #[.int .i64 p0,.int .i64 p1,.int .i64 p2,.int .i64 p3,.int .i64 p4,.int .i64 p5,.int .i64 p6,.int .i64 p7,.int .i64 p8,.int .i64 p9,.int .i64 p10,.int .i64 p11,.int .i64 p12,.int .i64 p13,.int .i64 p14,.int .i64 p15,.int .i64 p16,.int .i64 p17],.agg #[.int .i64 q0,.int .i64 q1,.int .i64 q2,.int .i64 q3,.int .i64 q4,.int .i64 q5,.int .i64 q6,.int .i64 q7,.int .i64 q8,.int .i64 q9,.int .i64 q10,.int .i64 q11,.int .i64 q12,.int .i64 q13,.int .i64 q14,.int .i64 q15,.int .i64 q16,.int .i64 q17]].toArray w (Rets (m3 (M3.mul ((M3.mk (V3.mk (Iv.mk p0 p1) (Iv.mk p2 p3) (Iv.mk p4 p5)) (V3.mk (Iv.mk p6 p7) (Iv.mk p8 p9) (Iv.mk p10 p11)) (V3.mk (Iv.mk p12 p13) (Iv.mk p14 p15) (Iv.mk p16 p17))):M3) ((M3.mk (V3.mk (Iv.mk q0 q1) (Iv.mk q2 q3) (Iv.mk q4 q5)) (V3.mk (Iv.mk q6 q7) (Iv.mk q8 q9) (Iv.mk q10 q11)) (V3.mk (Iv.mk q12 q13) (Iv.mk q14 q15) (Iv.mk q16 q17))):M3))) w) :=
 zZ (x:=.a (m3C (M3.mul ((M3.mk (V3.mk (Iv.mk p0 p1) (Iv.mk p2 p3) (Iv.mk p4 p5)) (V3.mk (Iv.mk p6 p7) (Iv.mk p8 p9) (Iv.mk p10 p11)) (V3.mk (Iv.mk p12 p13) (Iv.mk p14 p15) (Iv.mk p16 p17))):M3) ((M3.mk (V3.mk (Iv.mk q0 q1) (Iv.mk q2 q3) (Iv.mk q4 q5)) (V3.mk (Iv.mk q6 q7) (Iv.mk q8 q9) (Iv.mk q10 q11)) (V3.mk (Iv.mk q12 q13) (Iv.mk q14 q15) (Iv.mk q16 q17))):M3)))) (qH (N:=60) (ps:=[.a [.n .i64 p0,.n .i64 p1,.n .i64 p2,.n .i64 p3,.n .i64 p4,.n .i64 p5,.n .i64 p6,.n .i64 p7,.n .i64 p8,.n .i64 p9,.n .i64 p10,.n .i64 p11,.n .i64 p12,.n .i64 p13,.n .i64 p14,.n .i64 p15,.n .i64 p16,.n .i64 p17],.a [.n .i64 q0,.n .i64 q1,.n .i64 q2,.n .i64 q3,.n .i64 q4,.n .i64 q5,.n .i64 q6,.n .i64 q7,.n .i64 q8,.n .i64 q9,.n .i64 q10,.n .i64 q11,.n .i64 q12,.n .i64 q13,.n .i64 q14,.n .i64 q15,.n .i64 q16,.n .i64 q17]]) yJ zG (OrL.ok (l:=kYH) yYZ) ((by kernel_rfl:_=some (.v (.a [.n .i64 (max (-65536) (min (Iv.add (Iv.add (Iv.mul (Iv.mk p0 p1) (Iv.mk q0 q1)) (Iv.mul (Iv.mk p2 p3) (Iv.mk q6 q7))) (Iv.mul (Iv.mk p4 p5) (Iv.mk q12 q13))).lo 65536)),.n .i64 (max (-65536) (min (Iv.add (Iv.add (Iv.mul (Iv.mk p0 p1) (Iv.mk q0 q1)) (Iv.mul (Iv.mk p2 p3) (Iv.mk q6 q7))) (Iv.mul (Iv.mk p4 p5) (Iv.mk q12 q13))).hi 65536)),.n .i64 (max (-65536) (min (Iv.add (Iv.add (Iv.mul (Iv.mk p0 p1) (Iv.mk q2 q3)) (Iv.mul (Iv.mk p2 p3) (Iv.mk q8 q9))) (Iv.mul (Iv.mk p4 p5) (Iv.mk q14 q15))).lo 65536)),.n .i64 (max (-65536) (min (Iv.add (Iv.add (Iv.mul (Iv.mk p0 p1) (Iv.mk q2 q3)) (Iv.mul (Iv.mk p2 p3) (Iv.mk q8 q9))) (Iv.mul (Iv.mk p4 p5) (Iv.mk q14 q15))).hi 65536)),.n .i64 (max (-65536) (min (Iv.add (Iv.add (Iv.mul (Iv.mk p0 p1) (Iv.mk q4 q5)) (Iv.mul (Iv.mk p2 p3) (Iv.mk q10 q11))) (Iv.mul (Iv.mk p4 p5) (Iv.mk q16 q17))).lo 65536)),.n .i64 (max (-65536) (min (Iv.add (Iv.add (Iv.mul (Iv.mk p0 p1) (Iv.mk q4 q5)) (Iv.mul (Iv.mk p2 p3) (Iv.mk q10 q11))) (Iv.mul (Iv.mk p4 p5) (Iv.mk q16 q17))).hi 65536)),.n .i64 (max (-65536) (min (Iv.add (Iv.add (Iv.mul (Iv.mk p6 p7) (Iv.mk q0 q1)) (Iv.mul (Iv.mk p8 p9) (Iv.mk q6 q7))) (Iv.mul (Iv.mk p10 p11) (Iv.mk q12 q13))).lo 65536)),.n .i64 (max (-65536) (min (Iv.add (Iv.add (Iv.mul (Iv.mk p6 p7) (Iv.mk q0 q1)) (Iv.mul (Iv.mk p8 p9) (Iv.mk q6 q7))) (Iv.mul (Iv.mk p10 p11) (Iv.mk q12 q13))).hi 65536)),.n .i64 (max (-65536) (min (Iv.add (Iv.add (Iv.mul (Iv.mk p6 p7) (Iv.mk q2 q3)) (Iv.mul (Iv.mk p8 p9) (Iv.mk q8 q9))) (Iv.mul (Iv.mk p10 p11) (Iv.mk q14 q15))).lo 65536)),.n .i64 (max (-65536) (min (Iv.add (Iv.add (Iv.mul (Iv.mk p6 p7) (Iv.mk q2 q3)) (Iv.mul (Iv.mk p8 p9) (Iv.mk q8 q9))) (Iv.mul (Iv.mk p10 p11) (Iv.mk q14 q15))).hi 65536)),.n .i64 (max (-65536) (min (Iv.add (Iv.add (Iv.mul (Iv.mk p6 p7) (Iv.mk q4 q5)) (Iv.mul (Iv.mk p8 p9) (Iv.mk q10 q11))) (Iv.mul (Iv.mk p10 p11) (Iv.mk q16 q17))).lo 65536)),.n .i64 (max (-65536) (min (Iv.add (Iv.add (Iv.mul (Iv.mk p6 p7) (Iv.mk q4 q5)) (Iv.mul (Iv.mk p8 p9) (Iv.mk q10 q11))) (Iv.mul (Iv.mk p10 p11) (Iv.mk q16 q17))).hi 65536)),.n .i64 (max (-65536) (min (Iv.add (Iv.add (Iv.mul (Iv.mk p12 p13) (Iv.mk q0 q1)) (Iv.mul (Iv.mk p14 p15) (Iv.mk q6 q7))) (Iv.mul (Iv.mk p16 p17) (Iv.mk q12 q13))).lo 65536)),.n .i64 (max (-65536) (min (Iv.add (Iv.add (Iv.mul (Iv.mk p12 p13) (Iv.mk q0 q1)) (Iv.mul (Iv.mk p14 p15) (Iv.mk q6 q7))) (Iv.mul (Iv.mk p16 p17) (Iv.mk q12 q13))).hi 65536)),.n .i64 (max (-65536) (min (Iv.add (Iv.add (Iv.mul (Iv.mk p12 p13) (Iv.mk q2 q3)) (Iv.mul (Iv.mk p14 p15) (Iv.mk q8 q9))) (Iv.mul (Iv.mk p16 p17) (Iv.mk q14 q15))).lo 65536)),.n .i64 (max (-65536) (min (Iv.add (Iv.add (Iv.mul (Iv.mk p12 p13) (Iv.mk q2 q3)) (Iv.mul (Iv.mk p14 p15) (Iv.mk q8 q9))) (Iv.mul (Iv.mk p16 p17) (Iv.mk q14 q15))).hi 65536)),.n .i64 (max (-65536) (min (Iv.add (Iv.add (Iv.mul (Iv.mk p12 p13) (Iv.mk q4 q5)) (Iv.mul (Iv.mk p14 p15) (Iv.mk q10 q11))) (Iv.mul (Iv.mk p16 p17) (Iv.mk q16 q17))).lo 65536)),.n .i64 (max (-65536) (min (Iv.add (Iv.add (Iv.mul (Iv.mk p12 p13) (Iv.mk q4 q5)) (Iv.mul (Iv.mk p14 p15) (Iv.mk q10 q11))) (Iv.mul (Iv.mk p16 p17) (Iv.mk q16 q17))).hi 65536))]),[])).trans (by simp only [lim_ref]; rfl))) rfl rfl w
set_option maxRecDepth 100000 in
theorem mApply (p0 p1 p2 p3 p4 p5 p6 p7 p8 p9 p10 p11 p12 p13 p14 p15 p16 p17:Int) (q0 q1 q2 q3 q4 q5:Int) (w:World):Calls Tryz.prog 155 [.agg #[.int .i64 p0,.int .i64 p1,.int .i64 p2,.int .i64 p3,.int .i64 p4,.int .i64 p5,.int .i64 p6,.int .i64 p7,.int .i64 p8,.int .i64 p9,.int .i64 p10,.int .i64 p11,.int .i64 p12,.int .i64 p13,.int .i64 p14,.int .i64 p15,.int .i64 p16,.int .i64 p17],.agg #[.int .i64 q0,.int .i64 q1,.int .i64 q2,.int .i64 q3,.int .i64 q4,.int .i64 q5]].toArray w (Rets (v3 (M3.apply ((M3.mk (V3.mk (Iv.mk p0 p1) (Iv.mk p2 p3) (Iv.mk p4 p5)) (V3.mk (Iv.mk p6 p7) (Iv.mk p8 p9) (Iv.mk p10 p11)) (V3.mk (Iv.mk p12 p13) (Iv.mk p14 p15) (Iv.mk p16 p17))):M3) ((V3.mk (Iv.mk q0 q1) (Iv.mk q2 q3) (Iv.mk q4 q5)):V3))) w) :=
 zZ (x:=.a (v3C (M3.apply ((M3.mk (V3.mk (Iv.mk p0 p1) (Iv.mk p2 p3) (Iv.mk p4 p5)) (V3.mk (Iv.mk p6 p7) (Iv.mk p8 p9) (Iv.mk p10 p11)) (V3.mk (Iv.mk p12 p13) (Iv.mk p14 p15) (Iv.mk p16 p17))):M3) ((V3.mk (Iv.mk q0 q1) (Iv.mk q2 q3) (Iv.mk q4 q5)):V3)))) (qH (N:=60) (ps:=[.a [.n .i64 p0,.n .i64 p1,.n .i64 p2,.n .i64 p3,.n .i64 p4,.n .i64 p5,.n .i64 p6,.n .i64 p7,.n .i64 p8,.n .i64 p9,.n .i64 p10,.n .i64 p11,.n .i64 p12,.n .i64 p13,.n .i64 p14,.n .i64 p15,.n .i64 p16,.n .i64 p17],.a [.n .i64 q0,.n .i64 q1,.n .i64 q2,.n .i64 q3,.n .i64 q4,.n .i64 q5]]) yJ zG (OrL.ok (l:=kYH) yYZ) ((by kernel_rfl:_=some (.v (.a [.n .i64 (Iv.add (Iv.add (Iv.add (Iv.mk 0 0) (Iv.mul (Iv.mk p0 p1) (Iv.mk q0 q1))) (Iv.mul (Iv.mk p2 p3) (Iv.mk q2 q3))) (Iv.mul (Iv.mk p4 p5) (Iv.mk q4 q5))).lo,.n .i64 (Iv.add (Iv.add (Iv.add (Iv.mk 0 0) (Iv.mul (Iv.mk p0 p1) (Iv.mk q0 q1))) (Iv.mul (Iv.mk p2 p3) (Iv.mk q2 q3))) (Iv.mul (Iv.mk p4 p5) (Iv.mk q4 q5))).hi,.n .i64 (Iv.add (Iv.add (Iv.add (Iv.mk 0 0) (Iv.mul (Iv.mk p6 p7) (Iv.mk q0 q1))) (Iv.mul (Iv.mk p8 p9) (Iv.mk q2 q3))) (Iv.mul (Iv.mk p10 p11) (Iv.mk q4 q5))).lo,.n .i64 (Iv.add (Iv.add (Iv.add (Iv.mk 0 0) (Iv.mul (Iv.mk p6 p7) (Iv.mk q0 q1))) (Iv.mul (Iv.mk p8 p9) (Iv.mk q2 q3))) (Iv.mul (Iv.mk p10 p11) (Iv.mk q4 q5))).hi,.n .i64 (Iv.add (Iv.add (Iv.add (Iv.mk 0 0) (Iv.mul (Iv.mk p12 p13) (Iv.mk q0 q1))) (Iv.mul (Iv.mk p14 p15) (Iv.mk q2 q3))) (Iv.mul (Iv.mk p16 p17) (Iv.mk q4 q5))).lo,.n .i64 (Iv.add (Iv.add (Iv.add (Iv.mk 0 0) (Iv.mul (Iv.mk p12 p13) (Iv.mk q0 q1))) (Iv.mul (Iv.mk p14 p15) (Iv.mk q2 q3))) (Iv.mul (Iv.mk p16 p17) (Iv.mk q4 q5))).hi]),[])).trans (by simp only [add_zero_mul]; rfl))) rfl rfl w
set_option maxRecDepth 100000 in
theorem rApply (p0 p1 p2 p3 p4 p5 p6 p7 p8 p9 p10 p11 p12 p13 p14 p15 p16 p17:Int) (q0 q1 q2 q3 q4 q5:Int) (w:World):Calls Tryz.prog 83 [.agg #[.int .i64 p0,.int .i64 p1,.int .i64 p2,.int .i64 p3,.int .i64 p4,.int .i64 p5,.int .i64 p6,.int .i64 p7,.int .i64 p8,.int .i64 p9,.int .i64 p10,.int .i64 p11,.int .i64 p12,.int .i64 p13,.int .i64 p14,.int .i64 p15,.int .i64 p16,.int .i64 p17],.agg #[.int .i64 q0,.int .i64 q1,.int .i64 q2,.int .i64 q3,.int .i64 q4,.int .i64 q5]].toArray w (Rets (v3 (M3.apply ((M3.mk (V3.mk (Iv.mk p0 p1) (Iv.mk p2 p3) (Iv.mk p4 p5)) (V3.mk (Iv.mk p6 p7) (Iv.mk p8 p9) (Iv.mk p10 p11)) (V3.mk (Iv.mk p12 p13) (Iv.mk p14 p15) (Iv.mk p16 p17))):M3) ((V3.mk (Iv.mk q0 q1) (Iv.mk q2 q3) (Iv.mk q4 q5)):V3))) w) :=
 zZ (x:=.a (v3C (M3.apply ((M3.mk (V3.mk (Iv.mk p0 p1) (Iv.mk p2 p3) (Iv.mk p4 p5)) (V3.mk (Iv.mk p6 p7) (Iv.mk p8 p9) (Iv.mk p10 p11)) (V3.mk (Iv.mk p12 p13) (Iv.mk p14 p15) (Iv.mk p16 p17))):M3) ((V3.mk (Iv.mk q0 q1) (Iv.mk q2 q3) (Iv.mk q4 q5)):V3)))) (qH (N:=60) (ps:=[.a [.n .i64 p0,.n .i64 p1,.n .i64 p2,.n .i64 p3,.n .i64 p4,.n .i64 p5,.n .i64 p6,.n .i64 p7,.n .i64 p8,.n .i64 p9,.n .i64 p10,.n .i64 p11,.n .i64 p12,.n .i64 p13,.n .i64 p14,.n .i64 p15,.n .i64 p16,.n .i64 p17],.a [.n .i64 q0,.n .i64 q1,.n .i64 q2,.n .i64 q3,.n .i64 q4,.n .i64 q5]]) yJ zG (OrL.ok (l:=kYH) yYZ) ((by kernel_rfl:_=some (.v (.a [.n .i64 (Iv.add (Iv.add (Iv.mul (Iv.mk p0 p1) (Iv.mk q0 q1)) (Iv.mul (Iv.mk p2 p3) (Iv.mk q2 q3))) (Iv.mul (Iv.mk p4 p5) (Iv.mk q4 q5))).lo,.n .i64 (Iv.add (Iv.add (Iv.mul (Iv.mk p0 p1) (Iv.mk q0 q1)) (Iv.mul (Iv.mk p2 p3) (Iv.mk q2 q3))) (Iv.mul (Iv.mk p4 p5) (Iv.mk q4 q5))).hi,.n .i64 (Iv.add (Iv.add (Iv.mul (Iv.mk p6 p7) (Iv.mk q0 q1)) (Iv.mul (Iv.mk p8 p9) (Iv.mk q2 q3))) (Iv.mul (Iv.mk p10 p11) (Iv.mk q4 q5))).lo,.n .i64 (Iv.add (Iv.add (Iv.mul (Iv.mk p6 p7) (Iv.mk q0 q1)) (Iv.mul (Iv.mk p8 p9) (Iv.mk q2 q3))) (Iv.mul (Iv.mk p10 p11) (Iv.mk q4 q5))).hi,.n .i64 (Iv.add (Iv.add (Iv.mul (Iv.mk p12 p13) (Iv.mk q0 q1)) (Iv.mul (Iv.mk p14 p15) (Iv.mk q2 q3))) (Iv.mul (Iv.mk p16 p17) (Iv.mk q4 q5))).lo,.n .i64 (Iv.add (Iv.add (Iv.mul (Iv.mk p12 p13) (Iv.mk q0 q1)) (Iv.mul (Iv.mk p14 p15) (Iv.mk q2 q3))) (Iv.mul (Iv.mk p16 p17) (Iv.mk q4 q5))).hi]),[])).trans (by rfl))) rfl rfl w
end Go.Proofs.YtgmbkkkbfbocnaaGreat
namespace Go.Proofs.YtgmbkkkbfbocnaaGreat
open Go.Sx Go.Rx Rt Go.RowKit
namespace Tp
end Tp
open Tp
theorem ze68:qUQ Tryz.prog 68 (.agg #[.int .i64 0,.int .i64 0,.int .i64 0,.int .i64 0,.int .i64 0,.int .i64 0,.int .i64 0,.int .i64 0,.int .i64 0,.int .i64 0,.int .i64 0,.int .i64 0,.int .i64 0,.int .i64 0,.int .i64 0,.int .i64 0,.int .i64 0,.int .i64 0,.int .i64 0,.int .i64 0,.int .i64 0,.int .i64 0,.int .i64 0,.int .i64 0]):=by unfold qUQ; kernel_rfl
theorem ty68:tyB Tryz.prog 68 true 24=true:=by kernel_rfl
namespace Tp
noncomputable def zKG:List PV→Option (Bool × Ret):=fun ps=>match ps with
 | []=>some (true,.v (.a (m3C (M3.unit))))
 | _=>none
theorem ok_mIdentity:zJ Tryz.prog 127 zKG:=by
 intro ps r h;unfold zKG at h;split at h
 ·simp only [vQZ,vQY] at h;obtain ⟨hg,rfl⟩:=h;exact qX (qW Tryz.func127 (by kernel_rfl) (by kernel_rfl)) rfl rfl (fun w=>mIdentity  w)
 ·cases h
noncomputable def LTp1:OrL:=(127,zKG) :: ([]:OrL)
theorem LTp1_ok:AllP (fun x:Nat × (List PV→Option (Bool × Ret))=>zJ Tryz.prog x.1 x.2) LTp1:=⟨ok_mIdentity,trivial⟩
noncomputable def jKH:List PV→Option (Bool × Ret):=fun ps=>match ps with
 | [.n .i64 k,.a a']=>(ivD a').bind fun a=>some (true,.v (.a (m3C (M3.turn k a))))
 | _=>none
theorem ok_mTurn:zJ Tryz.prog 176 jKH:=by
 intro ps r h;unfold jKH at h;split at h
 ·simp only [vQQ,vQZ,vQY] at h;obtain ⟨a,ha,hg,rfl⟩:=h;rw [qQH ha];exact qX (qW Tryz.func176 (by kernel_rfl) (by kernel_rfl)) rfl rfl (fun w=>mTurn _ _ _ w)
 ·cases h
noncomputable def LTp2:OrL:=(176,jKH) :: LTp1
theorem LTp2_ok:AllP (fun x:Nat × (List PV→Option (Bool × Ret))=>zJ Tryz.prog x.1 x.2) LTp2:=⟨ok_mTurn,LTp1_ok⟩
noncomputable def zGJ:List PV→Option (Bool × Ret):=fun ps=>match ps with
 | [.a m',.a n']=>(m3D m').bind fun m=>(m3D n').bind fun n=>some (true,.v (.a (m3C (M3.mul m n))))
 | _=>none
theorem ok_mCompose:zJ Tryz.prog 126 zGJ:=by
 intro ps r h;unfold zGJ at h;split at h
 ·simp only [vQQ,vQZ,vQY] at h;obtain ⟨m,hm,n,hn,hg,rfl⟩:=h;rw [yKZ hm];rw [yKZ hn];exact qX (qW Tryz.func126 (by kernel_rfl) (by kernel_rfl)) rfl rfl (fun w=>mCompose _ _ _ _ _ _ _ _ _ _ _ _ _ _ _ _ _ _ _ _ _ _ _ _ _ _ _ _ _ _ _ _ _ _ _ _ w)
 ·cases h
noncomputable def LTp3:OrL:=(126,zGJ) :: LTp2
theorem LTp3_ok:AllP (fun x:Nat × (List PV→Option (Bool × Ret))=>zJ Tryz.prog x.1 x.2) LTp3:=⟨ok_mCompose,LTp2_ok⟩
noncomputable def zQW:List PV→Option (Bool × Ret):=fun ps=>match ps with
 | [.a m',.a v']=>(m3D m').bind fun m=>(v3D v').bind fun v=>some (true,.v (.a (v3C (M3.apply m v))))
 | _=>none
theorem yJW:zJ Tryz.prog 155 zQW:=by
 intro ps r h;unfold zQW at h;split at h
 ·simp only [vQQ,vQZ,vQY] at h;obtain ⟨m,hm,v,hv,hg,rfl⟩:=h;rw [yKZ hm];rw [zZX hv];exact qX (qW Tryz.func155 (by kernel_rfl) (by kernel_rfl)) rfl rfl (fun w=>mApply _ _ _ _ _ _ _ _ _ _ _ _ _ _ _ _ _ _ _ _ _ _ _ _ w)
 ·cases h
noncomputable def LTp4:OrL:=(155,zQW) :: LTp3
theorem LTp4_ok:AllP (fun x:Nat × (List PV→Option (Bool × Ret))=>zJ Tryz.prog x.1 x.2) LTp4:=⟨yJW,LTp3_ok⟩
noncomputable def kQV:List PV→Option (Bool × Ret):=fun ps=>match ps with
 | [.a v',.a w']=>(v3D v').bind fun v=>(v3D w').bind fun w=>some (true,.v (.a (v3C (V3.add v w))))
 | _=>none
theorem ok_mAdd:zJ Tryz.prog 154 kQV:=by
 intro ps r h;unfold kQV at h;split at h
 ·simp only [vQQ,vQZ,vQY] at h;obtain ⟨v,hv,w,hw,hg,rfl⟩:=h;rw [zZX hv];rw [zZX hw];exact qX (qW Tryz.func154 (by kernel_rfl) (by kernel_rfl)) rfl rfl (fun w=>mAdd _ _ _ _ _ _ _ _ _ _ _ _ w)
 ·cases h
noncomputable def LTp5:OrL:=(154,kQV) :: LTp4
theorem LTp5_ok:AllP (fun x:Nat × (List PV→Option (Bool × Ret))=>zJ Tryz.prog x.1 x.2) LTp5:=⟨ok_mAdd,LTp4_ok⟩
noncomputable def jKJ:List PV→Option (Bool × Ret):=fun ps=>match ps with
 | []=>some (true,.v (.a (m3C (M3.unit))))
 | _=>none
theorem ok_rUnit:zJ Tryz.prog 141 jKJ:=by
 intro ps r h;unfold jKJ at h;split at h
 ·simp only [vQZ,vQY] at h;obtain ⟨hg,rfl⟩:=h;exact qX (qW Tryz.func141 (by kernel_rfl) (by kernel_rfl)) rfl rfl (fun w=>rUnit  w)
 ·cases h
noncomputable def LTp6:OrL:=(141,jKJ) :: LTp5
theorem LTp6_ok:AllP (fun x:Nat × (List PV→Option (Bool × Ret))=>zJ Tryz.prog x.1 x.2) LTp6:=⟨ok_rUnit,LTp5_ok⟩
noncomputable def jKK:List PV→Option (Bool × Ret):=fun ps=>match ps with
 | [.n .i64 k,.a a']=>(ivD a').bind fun a=>some (true,.v (.a (m3C (M3.turn k a))))
 | _=>none
theorem ok_rTurn:zJ Tryz.prog 149 jKK:=by
 intro ps r h;unfold jKK at h;split at h
 ·simp only [vQQ,vQZ,vQY] at h;obtain ⟨a,ha,hg,rfl⟩:=h;rw [qQH ha];exact qX (qW Tryz.func149 (by kernel_rfl) (by kernel_rfl)) rfl rfl (fun w=>rTurn _ _ _ w)
 ·cases h
noncomputable def LTp7:OrL:=(149,jKK) :: LTp6
theorem LTp7_ok:AllP (fun x:Nat × (List PV→Option (Bool × Ret))=>zJ Tryz.prog x.1 x.2) LTp7:=⟨ok_rTurn,LTp6_ok⟩
noncomputable def zGQ:List PV→Option (Bool × Ret):=fun ps=>match ps with
 | [.a m',.a n']=>(m3D m').bind fun m=>(m3D n').bind fun n=>some (true,.v (.a (m3C (M3.mul m n))))
 | _=>none
theorem ok_rCompose:zJ Tryz.prog 117 zGQ:=by
 intro ps r h;unfold zGQ at h;split at h
 ·simp only [vQQ,vQZ,vQY] at h;obtain ⟨m,hm,n,hn,hg,rfl⟩:=h;rw [yKZ hm];rw [yKZ hn];exact qX (qW Tryz.func117 (by kernel_rfl) (by kernel_rfl)) rfl rfl (fun w=>rCompose _ _ _ _ _ _ _ _ _ _ _ _ _ _ _ _ _ _ _ _ _ _ _ _ _ _ _ _ _ _ _ _ _ _ _ _ w)
 ·cases h
noncomputable def LTp8:OrL:=(117,zGQ) :: LTp7
theorem LTp8_ok:AllP (fun x:Nat × (List PV→Option (Bool × Ret))=>zJ Tryz.prog x.1 x.2) LTp8:=⟨ok_rCompose,LTp7_ok⟩
noncomputable def yVG:List PV→Option (Bool × Ret):=fun ps=>match ps with
 | [.a m',.a v']=>(m3D m').bind fun m=>(v3D v').bind fun v=>some (true,.v (.a (v3C (M3.apply m v))))
 | _=>none
theorem ok_rApply:zJ Tryz.prog 83 yVG:=by
 intro ps r h;unfold yVG at h;split at h
 ·simp only [vQQ,vQZ,vQY] at h;obtain ⟨m,hm,v,hv,hg,rfl⟩:=h;rw [yKZ hm];rw [zZX hv];exact qX (qW Tryz.func83 (by kernel_rfl) (by kernel_rfl)) rfl rfl (fun w=>rApply _ _ _ _ _ _ _ _ _ _ _ _ _ _ _ _ _ _ _ _ _ _ _ _ w)
 ·cases h
noncomputable def LTp9:OrL:=(83,yVG) :: LTp8
theorem LTp9_ok:AllP (fun x:Nat × (List PV→Option (Bool × Ret))=>zJ Tryz.prog x.1 x.2) LTp9:=⟨ok_rApply,LTp8_ok⟩
noncomputable def yJG:List PV→Option (Bool × Ret):=fun ps=>match ps with
 | [.a v',.a w']=>(v3D v').bind fun v=>(v3D w').bind fun w=>some (true,.v (.a (v3C (V3.add v w))))
 | _=>none
theorem ok_rAddVec:zJ Tryz.prog 82 yJG:=by
 intro ps r h;unfold yJG at h;split at h
 ·simp only [vQQ,vQZ,vQY] at h;obtain ⟨v,hv,w,hw,hg,rfl⟩:=h;rw [zZX hv];rw [zZX hw];exact qX (qW Tryz.func82 (by kernel_rfl) (by kernel_rfl)) rfl rfl (fun w=>rAddVec _ _ _ _ _ _ _ _ _ _ _ _ w)
 ·cases h
noncomputable def yUU:OrL:=(82,yJG) :: LTp9
theorem qXW:AllP (fun x:Nat × (List PV→Option (Bool × Ret))=>zJ Tryz.prog x.1 x.2) yUU:=⟨ok_rAddVec,LTp9_ok⟩
end Tp
set_option maxRecDepth 100000 in
theorem pShift (va0 va1 va2 va3 va4 va5:Int) (w:World):Calls Tryz.prog 79 [.agg #[.int .i64 va0,.int .i64 va1,.int .i64 va2,.int .i64 va3,.int .i64 va4,.int .i64 va5]].toArray w (Rets (po (Po.shift (⟨⟨va0,va1⟩,⟨va2,va3⟩,⟨va4,va5⟩⟩:V3))) (w)) :=
 zZ (x:=.a (poC (Po.shift (⟨⟨va0,va1⟩,⟨va2,va3⟩,⟨va4,va5⟩⟩:V3)))) (qH (N:=60) (ps:=[.a (ivs [⟨va0,va1⟩,⟨va2,va3⟩,⟨va4,va5⟩])]) yJ zG (OrL.ok (l:=yUU) qXW) (by kernel_rfl)) rfl rfl w
set_option maxRecDepth 100000 in
theorem pIdentity  (w:World):Calls Tryz.prog 88 [].toArray w (Rets (po (Po.rest)) (w)) :=
 zZ (x:=.a (poC Po.rest)) (qH (N:=60) (ps:=[]) yJ zG (OrL.ok (l:=yUU) qXW) (by kernel_rfl)) rfl rfl w
set_option maxRecDepth 100000 in
theorem pTurn (axis:Int) (a0 a1:Int) (w:World):Calls Tryz.prog 159 [.int .i64 axis,.agg #[.int .i64 a0,.int .i64 a1]].toArray w (Rets (po (Po.turn axis (⟨a0,a1⟩:Iv))) (w)) :=
 zZ (x:=.a (poC (Po.turn axis ⟨a0,a1⟩))) (qH (N:=60) (ps:=[.n .i64 axis,.a [.n .i64 a0,.n .i64 a1]]) yJ zG (OrL.ok (l:=yUU) qXW) (by kernel_rfl)) rfl rfl w
set_option maxRecDepth 100000 in
theorem pCompose (pa0 pa1 pa2 pa3 pa4 pa5 pa6 pa7 pa8 pa9 pa10 pa11 pa12 pa13 pa14 pa15 pa16 pa17 pa18 pa19 pa20 pa21 pa22 pa23:Int) (qa0 qa1 qa2 qa3 qa4 qa5 qa6 qa7 qa8 qa9 qa10 qa11 qa12 qa13 qa14 qa15 qa16 qa17 qa18 qa19 qa20 qa21 qa22 qa23:Int) (w:World):Calls Tryz.prog 78 [.agg #[.int .i64 pa0,.int .i64 pa1,.int .i64 pa2,.int .i64 pa3,.int .i64 pa4,.int .i64 pa5,.int .i64 pa6,.int .i64 pa7,.int .i64 pa8,.int .i64 pa9,.int .i64 pa10,.int .i64 pa11,.int .i64 pa12,.int .i64 pa13,.int .i64 pa14,.int .i64 pa15,.int .i64 pa16,.int .i64 pa17,.int .i64 pa18,.int .i64 pa19,.int .i64 pa20,.int .i64 pa21,.int .i64 pa22,.int .i64 pa23],.agg #[.int .i64 qa0,.int .i64 qa1,.int .i64 qa2,.int .i64 qa3,.int .i64 qa4,.int .i64 qa5,.int .i64 qa6,.int .i64 qa7,.int .i64 qa8,.int .i64 qa9,.int .i64 qa10,.int .i64 qa11,.int .i64 qa12,.int .i64 qa13,.int .i64 qa14,.int .i64 qa15,.int .i64 qa16,.int .i64 qa17,.int .i64 qa18,.int .i64 qa19,.int .i64 qa20,.int .i64 qa21,.int .i64 qa22,.int .i64 qa23]].toArray w (Rets (po (Po.mul (⟨⟨⟨⟨pa0,pa1⟩,⟨pa2,pa3⟩,⟨pa4,pa5⟩⟩,⟨⟨pa6,pa7⟩,⟨pa8,pa9⟩,⟨pa10,pa11⟩⟩,⟨⟨pa12,pa13⟩,⟨pa14,pa15⟩,⟨pa16,pa17⟩⟩⟩,⟨⟨pa18,pa19⟩,⟨pa20,pa21⟩,⟨pa22,pa23⟩⟩⟩:Po) (⟨⟨⟨⟨qa0,qa1⟩,⟨qa2,qa3⟩,⟨qa4,qa5⟩⟩,⟨⟨qa6,qa7⟩,⟨qa8,qa9⟩,⟨qa10,qa11⟩⟩,⟨⟨qa12,qa13⟩,⟨qa14,qa15⟩,⟨qa16,qa17⟩⟩⟩,⟨⟨qa18,qa19⟩,⟨qa20,qa21⟩,⟨qa22,qa23⟩⟩⟩:Po))) (w)) :=
 zZ (x:=.a (poC (Po.mul (⟨(⟨⟨⟨pa0,pa1⟩,⟨pa2,pa3⟩,⟨pa4,pa5⟩⟩,⟨⟨pa6,pa7⟩,⟨pa8,pa9⟩,⟨pa10,pa11⟩⟩,⟨⟨pa12,pa13⟩,⟨pa14,pa15⟩,⟨pa16,pa17⟩⟩⟩:M3),⟨⟨pa18,pa19⟩,⟨pa20,pa21⟩,⟨pa22,pa23⟩⟩⟩:Po) (⟨(⟨⟨⟨qa0,qa1⟩,⟨qa2,qa3⟩,⟨qa4,qa5⟩⟩,⟨⟨qa6,qa7⟩,⟨qa8,qa9⟩,⟨qa10,qa11⟩⟩,⟨⟨qa12,qa13⟩,⟨qa14,qa15⟩,⟨qa16,qa17⟩⟩⟩:M3),⟨⟨qa18,qa19⟩,⟨qa20,qa21⟩,⟨qa22,qa23⟩⟩⟩:Po)))) (qH (N:=60) (ps:=[.a (ivs [⟨pa0,pa1⟩,⟨pa2,pa3⟩,⟨pa4,pa5⟩,⟨pa6,pa7⟩,⟨pa8,pa9⟩,⟨pa10,pa11⟩,⟨pa12,pa13⟩,⟨pa14,pa15⟩,⟨pa16,pa17⟩,⟨pa18,pa19⟩,⟨pa20,pa21⟩,⟨pa22,pa23⟩]),.a (ivs [⟨qa0,qa1⟩,⟨qa2,qa3⟩,⟨qa4,qa5⟩,⟨qa6,qa7⟩,⟨qa8,qa9⟩,⟨qa10,qa11⟩,⟨qa12,qa13⟩,⟨qa14,qa15⟩,⟨qa16,qa17⟩,⟨qa18,qa19⟩,⟨qa20,qa21⟩,⟨qa22,qa23⟩])]) yJ zG (OrL.ok (l:=yUU) qXW) (by kernel_rfl)) rfl rfl w
set_option maxRecDepth 100000 in
theorem pApply (pa0 pa1 pa2 pa3 pa4 pa5 pa6 pa7 pa8 pa9 pa10 pa11 pa12 pa13 pa14 pa15 pa16 pa17 pa18 pa19 pa20 pa21 pa22 pa23:Int) (va0 va1 va2 va3 va4 va5:Int) (w:World):Calls Tryz.prog 73 [.agg #[.int .i64 pa0,.int .i64 pa1,.int .i64 pa2,.int .i64 pa3,.int .i64 pa4,.int .i64 pa5,.int .i64 pa6,.int .i64 pa7,.int .i64 pa8,.int .i64 pa9,.int .i64 pa10,.int .i64 pa11,.int .i64 pa12,.int .i64 pa13,.int .i64 pa14,.int .i64 pa15,.int .i64 pa16,.int .i64 pa17,.int .i64 pa18,.int .i64 pa19,.int .i64 pa20,.int .i64 pa21,.int .i64 pa22,.int .i64 pa23],.agg #[.int .i64 va0,.int .i64 va1,.int .i64 va2,.int .i64 va3,.int .i64 va4,.int .i64 va5]].toArray w (Rets (v3 (Po.app (⟨⟨⟨⟨pa0,pa1⟩,⟨pa2,pa3⟩,⟨pa4,pa5⟩⟩,⟨⟨pa6,pa7⟩,⟨pa8,pa9⟩,⟨pa10,pa11⟩⟩,⟨⟨pa12,pa13⟩,⟨pa14,pa15⟩,⟨pa16,pa17⟩⟩⟩,⟨⟨pa18,pa19⟩,⟨pa20,pa21⟩,⟨pa22,pa23⟩⟩⟩:Po) (⟨⟨va0,va1⟩,⟨va2,va3⟩,⟨va4,va5⟩⟩:V3))) (w)) :=
 zZ (x:=.a (v3C (Po.app (⟨(⟨⟨⟨pa0,pa1⟩,⟨pa2,pa3⟩,⟨pa4,pa5⟩⟩,⟨⟨pa6,pa7⟩,⟨pa8,pa9⟩,⟨pa10,pa11⟩⟩,⟨⟨pa12,pa13⟩,⟨pa14,pa15⟩,⟨pa16,pa17⟩⟩⟩:M3),⟨⟨pa18,pa19⟩,⟨pa20,pa21⟩,⟨pa22,pa23⟩⟩⟩:Po) (⟨⟨va0,va1⟩,⟨va2,va3⟩,⟨va4,va5⟩⟩:V3)))) (qH (N:=60) (ps:=[.a (ivs [⟨pa0,pa1⟩,⟨pa2,pa3⟩,⟨pa4,pa5⟩,⟨pa6,pa7⟩,⟨pa8,pa9⟩,⟨pa10,pa11⟩,⟨pa12,pa13⟩,⟨pa14,pa15⟩,⟨pa16,pa17⟩,⟨pa18,pa19⟩,⟨pa20,pa21⟩,⟨pa22,pa23⟩]),.a (ivs [⟨va0,va1⟩,⟨va2,va3⟩,⟨va4,va5⟩])]) yJ zG (OrL.ok (l:=yUU) qXW) (by kernel_rfl)) rfl rfl w
set_option maxRecDepth 100000 in
theorem qShift (va0 va1 va2 va3 va4 va5:Int) (w:World):Calls Tryz.prog 116 [.agg #[.int .i64 va0,.int .i64 va1,.int .i64 va2,.int .i64 va3,.int .i64 va4,.int .i64 va5]].toArray w (Rets (po (Po.shift (⟨⟨va0,va1⟩,⟨va2,va3⟩,⟨va4,va5⟩⟩:V3))) (w)) :=
 zZ (x:=.a (poC (Po.shift (⟨⟨va0,va1⟩,⟨va2,va3⟩,⟨va4,va5⟩⟩:V3)))) (qH (N:=60) (ps:=[.a (ivs [⟨va0,va1⟩,⟨va2,va3⟩,⟨va4,va5⟩])]) yJ zG (OrL.ok (l:=yUU) qXW) (by kernel_rfl)) rfl rfl w
set_option maxRecDepth 100000 in
theorem qRest  (w:World):Calls Tryz.prog 90 [].toArray w (Rets (po (Po.rest)) (w)) :=
 zZ (x:=.a (poC Po.rest)) (qH (N:=60) (ps:=[]) yJ zG (OrL.ok (l:=yUU) qXW) (by kernel_rfl)) rfl rfl w
set_option maxRecDepth 100000 in
theorem qTurn (axis:Int) (a0 a1:Int) (w:World):Calls Tryz.prog 115 [.int .i64 axis,.agg #[.int .i64 a0,.int .i64 a1]].toArray w (Rets (po (Po.turn axis (⟨a0,a1⟩:Iv))) (w)) :=
 zZ (x:=.a (poC (Po.turn axis ⟨a0,a1⟩))) (qH (N:=60) (ps:=[.n .i64 axis,.a [.n .i64 a0,.n .i64 a1]]) yJ zG (OrL.ok (l:=yUU) qXW) (by kernel_rfl)) rfl rfl w
set_option maxRecDepth 100000 in
theorem qCompose (pa0 pa1 pa2 pa3 pa4 pa5 pa6 pa7 pa8 pa9 pa10 pa11 pa12 pa13 pa14 pa15 pa16 pa17 pa18 pa19 pa20 pa21 pa22 pa23:Int) (qa0 qa1 qa2 qa3 qa4 qa5 qa6 qa7 qa8 qa9 qa10 qa11 qa12 qa13 qa14 qa15 qa16 qa17 qa18 qa19 qa20 qa21 qa22 qa23:Int) (w:World):Calls Tryz.prog 68 [.agg #[.int .i64 pa0,.int .i64 pa1,.int .i64 pa2,.int .i64 pa3,.int .i64 pa4,.int .i64 pa5,.int .i64 pa6,.int .i64 pa7,.int .i64 pa8,.int .i64 pa9,.int .i64 pa10,.int .i64 pa11,.int .i64 pa12,.int .i64 pa13,.int .i64 pa14,.int .i64 pa15,.int .i64 pa16,.int .i64 pa17,.int .i64 pa18,.int .i64 pa19,.int .i64 pa20,.int .i64 pa21,.int .i64 pa22,.int .i64 pa23],.agg #[.int .i64 qa0,.int .i64 qa1,.int .i64 qa2,.int .i64 qa3,.int .i64 qa4,.int .i64 qa5,.int .i64 qa6,.int .i64 qa7,.int .i64 qa8,.int .i64 qa9,.int .i64 qa10,.int .i64 qa11,.int .i64 qa12,.int .i64 qa13,.int .i64 qa14,.int .i64 qa15,.int .i64 qa16,.int .i64 qa17,.int .i64 qa18,.int .i64 qa19,.int .i64 qa20,.int .i64 qa21,.int .i64 qa22,.int .i64 qa23]].toArray w (Rets (po (Po.mul (⟨⟨⟨⟨pa0,pa1⟩,⟨pa2,pa3⟩,⟨pa4,pa5⟩⟩,⟨⟨pa6,pa7⟩,⟨pa8,pa9⟩,⟨pa10,pa11⟩⟩,⟨⟨pa12,pa13⟩,⟨pa14,pa15⟩,⟨pa16,pa17⟩⟩⟩,⟨⟨pa18,pa19⟩,⟨pa20,pa21⟩,⟨pa22,pa23⟩⟩⟩:Po) (⟨⟨⟨⟨qa0,qa1⟩,⟨qa2,qa3⟩,⟨qa4,qa5⟩⟩,⟨⟨qa6,qa7⟩,⟨qa8,qa9⟩,⟨qa10,qa11⟩⟩,⟨⟨qa12,qa13⟩,⟨qa14,qa15⟩,⟨qa16,qa17⟩⟩⟩,⟨⟨qa18,qa19⟩,⟨qa20,qa21⟩,⟨qa22,qa23⟩⟩⟩:Po))) (w)) :=
 zZ (x:=.a (poC (Po.mul (⟨(⟨⟨⟨pa0,pa1⟩,⟨pa2,pa3⟩,⟨pa4,pa5⟩⟩,⟨⟨pa6,pa7⟩,⟨pa8,pa9⟩,⟨pa10,pa11⟩⟩,⟨⟨pa12,pa13⟩,⟨pa14,pa15⟩,⟨pa16,pa17⟩⟩⟩:M3),⟨⟨pa18,pa19⟩,⟨pa20,pa21⟩,⟨pa22,pa23⟩⟩⟩:Po) (⟨(⟨⟨⟨qa0,qa1⟩,⟨qa2,qa3⟩,⟨qa4,qa5⟩⟩,⟨⟨qa6,qa7⟩,⟨qa8,qa9⟩,⟨qa10,qa11⟩⟩,⟨⟨qa12,qa13⟩,⟨qa14,qa15⟩,⟨qa16,qa17⟩⟩⟩:M3),⟨⟨qa18,qa19⟩,⟨qa20,qa21⟩,⟨qa22,qa23⟩⟩⟩:Po)))) (qH (N:=60) (ps:=[.a (ivs [⟨pa0,pa1⟩,⟨pa2,pa3⟩,⟨pa4,pa5⟩,⟨pa6,pa7⟩,⟨pa8,pa9⟩,⟨pa10,pa11⟩,⟨pa12,pa13⟩,⟨pa14,pa15⟩,⟨pa16,pa17⟩,⟨pa18,pa19⟩,⟨pa20,pa21⟩,⟨pa22,pa23⟩]),.a (ivs [⟨qa0,qa1⟩,⟨qa2,qa3⟩,⟨qa4,qa5⟩,⟨qa6,qa7⟩,⟨qa8,qa9⟩,⟨qa10,qa11⟩,⟨qa12,qa13⟩,⟨qa14,qa15⟩,⟨qa16,qa17⟩,⟨qa18,qa19⟩,⟨qa20,qa21⟩,⟨qa22,qa23⟩])]) yJ zG (OrL.ok (l:=yUU) qXW) (by kernel_rfl)) rfl rfl w
set_option maxRecDepth 100000 in
theorem qApply (pa0 pa1 pa2 pa3 pa4 pa5 pa6 pa7 pa8 pa9 pa10 pa11 pa12 pa13 pa14 pa15 pa16 pa17 pa18 pa19 pa20 pa21 pa22 pa23:Int) (va0 va1 va2 va3 va4 va5:Int) (w:World):Calls Tryz.prog 35 [.agg #[.int .i64 pa0,.int .i64 pa1,.int .i64 pa2,.int .i64 pa3,.int .i64 pa4,.int .i64 pa5,.int .i64 pa6,.int .i64 pa7,.int .i64 pa8,.int .i64 pa9,.int .i64 pa10,.int .i64 pa11,.int .i64 pa12,.int .i64 pa13,.int .i64 pa14,.int .i64 pa15,.int .i64 pa16,.int .i64 pa17,.int .i64 pa18,.int .i64 pa19,.int .i64 pa20,.int .i64 pa21,.int .i64 pa22,.int .i64 pa23],.agg #[.int .i64 va0,.int .i64 va1,.int .i64 va2,.int .i64 va3,.int .i64 va4,.int .i64 va5]].toArray w (Rets (v3 (Po.app (⟨⟨⟨⟨pa0,pa1⟩,⟨pa2,pa3⟩,⟨pa4,pa5⟩⟩,⟨⟨pa6,pa7⟩,⟨pa8,pa9⟩,⟨pa10,pa11⟩⟩,⟨⟨pa12,pa13⟩,⟨pa14,pa15⟩,⟨pa16,pa17⟩⟩⟩,⟨⟨pa18,pa19⟩,⟨pa20,pa21⟩,⟨pa22,pa23⟩⟩⟩:Po) (⟨⟨va0,va1⟩,⟨va2,va3⟩,⟨va4,va5⟩⟩:V3))) (w)) :=
 zZ (x:=.a (v3C (Po.app (⟨(⟨⟨⟨pa0,pa1⟩,⟨pa2,pa3⟩,⟨pa4,pa5⟩⟩,⟨⟨pa6,pa7⟩,⟨pa8,pa9⟩,⟨pa10,pa11⟩⟩,⟨⟨pa12,pa13⟩,⟨pa14,pa15⟩,⟨pa16,pa17⟩⟩⟩:M3),⟨⟨pa18,pa19⟩,⟨pa20,pa21⟩,⟨pa22,pa23⟩⟩⟩:Po) (⟨⟨va0,va1⟩,⟨va2,va3⟩,⟨va4,va5⟩⟩:V3)))) (qH (N:=60) (ps:=[.a (ivs [⟨pa0,pa1⟩,⟨pa2,pa3⟩,⟨pa4,pa5⟩,⟨pa6,pa7⟩,⟨pa8,pa9⟩,⟨pa10,pa11⟩,⟨pa12,pa13⟩,⟨pa14,pa15⟩,⟨pa16,pa17⟩,⟨pa18,pa19⟩,⟨pa20,pa21⟩,⟨pa22,pa23⟩]),.a (ivs [⟨va0,va1⟩,⟨va2,va3⟩,⟨va4,va5⟩])]) yJ zG (OrL.ok (l:=yUU) qXW) (by kernel_rfl)) rfl rfl w
end Go.Proofs.YtgmbkkkbfbocnaaGreat
namespace Go.Proofs.YtgmbkkkbfbocnaaGreat
open Go.Sx
theorem ty3:tyB Tryz.prog 3 false 1=true:=by kernel_rfl
end Go.Proofs.YtgmbkkkbfbocnaaGreat
namespace Go.Proofs.YtgmbkkkbfbocnaaGreat
open Go.Sx
theorem ze88:qUQ Tryz.prog 88 (.agg #[.string ByteArray.empty,.int .i64 0,.int .i64 0,.int .i64 0,.int .i64 0,.int .i64 0,.int .i64 0,.int .i64 0,.int .i64 0,.int .i64 0,.int .i64 0,.int .i64 0]):=by unfold qUQ; kernel_rfl
theorem ty88:tyB Tryz.prog 88 true 12=true:=by kernel_rfl
theorem jVK:zKZ Tryz.prog 88 2 2=true:=by kernel_rfl
end Go.Proofs.YtgmbkkkbfbocnaaGreat
namespace Go.Proofs.YtgmbkkkbfbocnaaGreat.Od
open Go.Rx Rt Go.Sx Go.RowKit
def andI (k:IntKind) (x y:Int):Int:=k.wrap ((BitVec.ofInt k.bits x &&& BitVec.ofInt k.bits y).toNat)
def F_b:Bool→Option (Ret × Mem):=fun v=>some (.v (.b v),[])
def jp (j:J):List PV:=[.s j.name,.n .i64 j.kind,.n .i64 j.parent,.n .i64 j.off.x,.n .i64 j.off.y,.n .i64 j.off.z,.n .i64 j.lo,.n .i64 j.hi,.n .i64 j.weight,.n .i64 j.speed,.n .i64 j.accel,.n .i64 j.torque]
def mp (m:Ms):List PV:=[.n .i64 m.link,.n .i64 m.mass,.n .i64 m.p.x,.n .i64 m.p.y,.n .i64 m.p.z]
theorem zKJ {α:Type} {f:α→List PV} {g:α→List Value} (h:∀ x,(f x).map PV.val1=g x) (l:List α):qUU (l.map f)=l.map g:=by
 unfold qUU;rw [List.map_map];exact List.map_congr_left fun x _=>h x
theorem yHK {α:Type} {f:α→List PV} {sz:Nat} (h:∀ x,(Nat.beq (f x).length sz && (f x).all PV.flat1)=true) (l:List α):qVJ sz (l.map f)=true:=by
 unfold qVJ;rw [List.all_map,vZZ];exact fun x _=>h x
theorem rp_told {α:Type} {f:α→List PV} {g:α→List Value} {sz k c:Nat} {l:List α} {a:Option Addr} {F D:Nat→Prop} {G:World→Prop} {w:World} (hv:∀ x,(f x).map PV.val1=g x) (hf:∀ x,(Nat.beq (f x).length sz && (f x).all PV.flat1)=true) (hk:l.length=k) (hc:k≤c) (h0:0 < sz)
  (hd:qWV D G) (hG:G w) (hi:∀ w,G w→qUH sz a (l.map g) w) (hF:∀ k,D k→F k):RP F w (.l (l.map f)) (.slice a k c):=by
 have:=rp_of_slc (F:=F) (c:=c) (yHK hf l) (by rw [List.length_map,hk]; exact hc) (by rw [zKJ hv]; exact hi w hG) (fun b off ha hne=>hF b (dep_mem hd hG hi h0 (fun e=>hne (by cases l with | nil=>rfl | cons x xs=>cases e)) b off ha))
 rw [List.length_map,hk] at this;exact this
theorem yWW {α:Type} {f:α→List PV} {g:α→List Value} {sz k:Nat} {l:List α} {F:Nat→Prop} {w:World} {v:Value} (hv:∀ x,(f x).map PV.val1=g x) (hf:∀ x,(Nat.beq (f x).length sz && (f x).all PV.flat1)=true) (hk:l.length=k) (hF:∀ k,F k→k < w.heap.size) (h:RP F w (.l (l.map f)) v) :
  ∃ a c,v=.slice a k c∧k≤c∧qUH sz a (l.map g) w:=by
 obtain ⟨a,c,rfl,hc,hS,_⟩:=slc_of_rp (yHK hf l) hF h;rw [List.length_map,hk] at hc;exact ⟨a,c,by rw [List.length_map,hk],hc,by rw [zKJ hv] at hS; exact hS⟩
theorem lks_len {js:List J} {bx:List Iv}:∀ k,k≤js.length→k≤bx.length→(lks js bx k).length=k
 | 0,_,_=>rfl
 | k + 1,h1,h2=>by
  have e1:js[k]? = some (js[k]'(by omega)):=vQK (by omega);have e2:bx[k]? = some (bx[k]'(by omega)):=vQK (by omega);simp only [lks,e1,e2,List.length_append,vQW,vQV];rw [lks_len k (by omega) (by omega)]
def F_n:Int→Option (Ret × Mem):=fun v=>some (.v (.n .i64 v),[])
def cjT {α:Type} (f:Int→α) (i:Int) (j:J):α:=(bif (decide (j.kind < 0)) then (f 803) else (bif (decide (6 < j.kind)) then (f 803) else (bif (decide (j.parent < (-1))) then (f 804) else (bif (decide (i≤j.parent)) then (f 804) else (bif (decide (j.off.x < (-4194304))) then (f 805) else (bif (decide (4194304 < j.off.x)) then (f 805) else (bif (decide (j.off.y < (-4194304))) then (f 805) else (bif (decide (4194304 < j.off.y)) then (f 805) else (bif (decide (j.off.z < (-4194304))) then (f 805) else (bif (decide (4194304 < j.off.z)) then (f 805) else (bif (decide (j.kind=0)) then (bif (decide (j.hi < j.lo)) then (f 806) else (bif (decide (j.lo < 0)) then (f 806) else (bif (decide (0 < j.hi)) then (f 806) else (bif (decide (1≤j.weight)) then (bif (decide (j.weight≤1024)) then (bif (decide (1≤j.speed)) then (bif (decide (j.speed≤1048576)) then (bif (decide (1≤j.accel)) then (bif (decide (j.accel≤1048576)) then (bif (decide (1≤j.torque)) then (bif (decide (j.torque≤1099511627776)) then (f 0) else (f 807)) else (f 807)) else (f 807)) else (f 807)) else (f 807)) else (f 807)) else (f 807)) else (f 807))))) else (bif (decide (j.kind=1)) then (bif (decide (j.hi < j.lo)) then (f 806) else (bif (decide (j.lo < (-524288))) then (f 806) else (bif (decide (524288 < j.hi)) then (f 806) else (bif (decide (1≤j.weight)) then (bif (decide (j.weight≤1024)) then (bif (decide (1≤j.speed)) then (bif (decide (j.speed≤1048576)) then (bif (decide (1≤j.accel)) then (bif (decide (j.accel≤1048576)) then (bif (decide (1≤j.torque)) then (bif (decide (j.torque≤1099511627776)) then (f 0) else (f 807)) else (f 807)) else (f 807)) else (f 807)) else (f 807)) else (f 807)) else (f 807)) else (f 807))))) else (bif (decide (j.kind=2)) then (bif (decide (j.hi < j.lo)) then (f 806) else (bif (decide (j.lo < (-524288))) then (f 806) else (bif (decide (524288 < j.hi)) then (f 806) else (bif (decide (1≤j.weight)) then (bif (decide (j.weight≤1024)) then (bif (decide (1≤j.speed)) then (bif (decide (j.speed≤1048576)) then (bif (decide (1≤j.accel)) then (bif (decide (j.accel≤1048576)) then (bif (decide (1≤j.torque)) then (bif (decide (j.torque≤1099511627776)) then (f 0) else (f 807)) else (f 807)) else (f 807)) else (f 807)) else (f 807)) else (f 807)) else (f 807)) else (f 807))))) else (bif (decide (j.kind=3)) then (bif (decide (j.hi < j.lo)) then (f 806) else (bif (decide (j.lo < (-524288))) then (f 806) else (bif (decide (524288 < j.hi)) then (f 806) else (bif (decide (1≤j.weight)) then (bif (decide (j.weight≤1024)) then (bif (decide (1≤j.speed)) then (bif (decide (j.speed≤1048576)) then (bif (decide (1≤j.accel)) then (bif (decide (j.accel≤1048576)) then (bif (decide (1≤j.torque)) then (bif (decide (j.torque≤1099511627776)) then (f 0) else (f 807)) else (f 807)) else (f 807)) else (f 807)) else (f 807)) else (f 807)) else (f 807)) else (f 807))))) else (bif (decide (j.hi < j.lo)) then (f 806) else (bif (decide (j.lo < (-4194304))) then (f 806) else (bif (decide (4194304 < j.hi)) then (f 806) else (bif (decide (1≤j.weight)) then (bif (decide (j.weight≤1024)) then (bif (decide (1≤j.speed)) then (bif (decide (j.speed≤1048576)) then (bif (decide (1≤j.accel)) then (bif (decide (j.accel≤1048576)) then (bif (decide (1≤j.torque)) then (bif (decide (j.torque≤1099511627776)) then (f 0) else (f 807)) else (f 807)) else (f 807)) else (f 807)) else (f 807)) else (f 807)) else (f 807)) else (f 807)))))))))))))))))))
noncomputable def yGJ:List PV→Option (Bool × Ret):=fun ps=>match ps with
 | [.n .i64 n,.n .i64 k]=>some (decide (0 < k∧k≤9223372036854775807),.v (.n .i64 (n % k)))
 | _=>none
theorem ok_mRound:zJ Tryz.prog 20 yGJ:=by
 intro ps r h;unfold yGJ at h;split at h
 ·simp only [vQZ,vQY] at h;obtain ⟨hg,rfl⟩:=h;exact qX (qW Tryz.func20 (by kernel_rfl) (by kernel_rfl)) rfl rfl (fun w=>mRound _ _ (vJZ hg) w)
 ·cases h
noncomputable def L1:OrL:=(20,yGJ) :: ([]:OrL)
theorem L1_ok:AllP (fun x:Nat × (List PV→Option (Bool × Ret))=>zJ Tryz.prog x.1 x.2) L1:=⟨ok_mRound,trivial⟩
noncomputable def o_iOf:List PV→Option (Bool × Ret):=fun ps=>match ps with
 | [.n .i64 x]=>some (true,.v (.a (ivC (Iv.of x))))
 | _=>none
theorem ok_iOf:zJ Tryz.prog 122 o_iOf:=by
 intro ps r h;unfold o_iOf at h;split at h
 ·simp only [vQZ,vQY] at h;obtain ⟨hg,rfl⟩:=h;exact qX (qW Tryz.func122 (by kernel_rfl) (by kernel_rfl)) rfl rfl (fun w=>iOf _ w)
 ·cases h
noncomputable def L2:OrL:=(122,o_iOf) :: L1
theorem L2_ok:AllP (fun x:Nat × (List PV→Option (Bool × Ret))=>zJ Tryz.prog x.1 x.2) L2:=⟨ok_iOf,L1_ok⟩
noncomputable def yGY:List PV→Option (Bool × Ret):=fun ps=>match ps with
 | [.a p',.a v']=>(poD p').bind fun p=>(v3D v').bind fun v=>some (true,.v (.a (v3C (Po.app p v))))
 | _=>none
theorem ok_pApply:zJ Tryz.prog 73 yGY:=by
 intro ps r h;unfold yGY at h;split at h
 ·simp only [vQQ,vQZ,vQY] at h;obtain ⟨p,hp,v,hv,hg,rfl⟩:=h;rw [yXY hp];rw [zZX hv];exact qX (qW Tryz.func73 (by kernel_rfl) (by kernel_rfl)) rfl rfl (fun w=>pApply _ _ _ _ _ _ _ _ _ _ _ _ _ _ _ _ _ _ _ _ _ _ _ _ _ _ _ _ _ _ w)
 ·cases h
noncomputable def L3:OrL:=(73,yGY) :: L2
theorem L3_ok:AllP (fun x:Nat × (List PV→Option (Bool × Ret))=>zJ Tryz.prog x.1 x.2) L3:=⟨ok_pApply,L2_ok⟩
noncomputable def zQW:List PV→Option (Bool × Ret):=fun ps=>match ps with
 | [.a m',.a v']=>(m3D m').bind fun m=>(v3D v').bind fun v=>some (true,.v (.a (v3C (M3.apply m v))))
 | _=>none
theorem yJW:zJ Tryz.prog 155 zQW:=by
 intro ps r h;unfold zQW at h;split at h
 ·simp only [vQQ,vQZ,vQY] at h;obtain ⟨m,hm,v,hv,hg,rfl⟩:=h;rw [yKZ hm];rw [zZX hv];exact qX (qW Tryz.func155 (by kernel_rfl) (by kernel_rfl)) rfl rfl (fun w=>mApply _ _ _ _ _ _ _ _ _ _ _ _ _ _ _ _ _ _ _ _ _ _ _ _ w)
 ·cases h
noncomputable def L4:OrL:=(155,zQW) :: L3
theorem L4_ok:AllP (fun x:Nat × (List PV→Option (Bool × Ret))=>zJ Tryz.prog x.1 x.2) L4:=⟨yJW,L3_ok⟩
noncomputable def zQX:List PV→Option (Bool × Ret):=fun ps=>match ps with
 | [.a z']=>(z3D z').bind fun z=>some (true,.v (.a (v3C (V3.of z))))
 | _=>none
theorem yJX:zJ Tryz.prog 74 zQX:=by
 intro ps r h;unfold zQX at h;split at h
 ·simp only [vQQ,vQZ,vQY] at h;obtain ⟨z,hz,hg,rfl⟩:=h;rw [jXH hz];exact qX (qW Tryz.func74 (by kernel_rfl) (by kernel_rfl)) rfl rfl (fun w=>mPoint _ _ _ w)
 ·cases h
noncomputable def L5:OrL:=(74,zQX) :: L4
theorem L5_ok:AllP (fun x:Nat × (List PV→Option (Bool × Ret))=>zJ Tryz.prog x.1 x.2) L5:=⟨yJX,L4_ok⟩
end Go.Proofs.YtgmbkkkbfbocnaaGreat.Od
namespace Go.Proofs.YtgmbkkkbfbocnaaGreat.Na
open Go.Rx Rt Go.Sx Go.RowKit Od
def okC (first:Bool) (c:Int):Bool:=(decide (97≤c) && decide (c≤122)) || (!first && ((decide (48≤c) && decide (c≤57)) || decide (c=95)))
def allC (s:ByteArray):Nat→Nat→Bool
 | 0,_=>true
 | k + 1,p=>okC (decide ((p:Int)=0)) (zWJ s p) && allC s k (p + 1)
def wrld:ByteArray:=ByteArray.mk #[119,111,114,108,100]
def nmB (s:ByteArray):Bool:=!(decide ((s.size:Int)=0)) && (!(decide (16 < (s.size:Int))) && (!(s.toList == wrld.toList) && allC s s.size 0))
theorem okC_high {f:Bool} {c:Int} (_:128≤c):okC f c=false:=by
 unfold okC;rw [vYH (show ¬ c≤122 by omega),vYH (show ¬ c≤57 by omega),vYH (show ¬ c=95 by omega)]
 simp
theorem byteAt_get {s:ByteArray} {p:Nat} (h:p < s.size):zWJ s p=((s[p]'h).toNat:Int):=by
 unfold zWJ;rw [getElem?_pos s p h];rfl
def hTn (s:ByteArray) (pos:Nat):St:=⟨[(18,.p 18 0)],[(18,.itr s pos)]⟩
def kVU {α:Type} (first:Bool) (c:Int) (g k:α):α:=(bif (decide (97≤c)) then (bif (decide (c≤122)) then g else (bif first then k else (bif (decide (48≤c)) then (bif (decide (c≤57)) then g else (bif (!decide (c=95)) then k else g)) else (bif (!decide (c=95)) then k else g)))) else (bif first then k else (bif (decide (48≤c)) then (bif (decide (c≤57)) then g else (bif (!decide (c=95)) then k else g)) else (bif (!decide (c=95)) then k else g))))
theorem rawTn_eq {α:Type} (first:Bool) (c:Int) (g k:α):kVU first c g k=bif okC first c then g else k:=by
 unfold kVU okC;cases first <;> cases hA:decide (97≤c) <;> cases hB:decide (c≤122) <;> cases hC:decide (48≤c) <;> cases hD:decide (c≤57) <;> cases hE:decide (c=95) <;> first | rfl | (exfalso; simp only [decide_eq_true_eq,decide_eq_false_iff_not] at *; omega)
set_option maxRecDepth 100000 in
theorem rdTn (G:St→Option (Ret × Mem)) (K:Cont) (s:ByteArray) (pos:Nat):qVQ 60 (cxF T (OrL.k ([]:OrL)) 60 53 (ntmF T 53)) (ckF T (OrL.k ([]:OrL)) 60) (qQ T 53 [0,1,0,1,1]) (fun e τ=>match e with
 | .normal=>G (qUX ((cxF T (OrL.k ([]:OrL)) 60 53 (ntmF T 53)).T.hint (cxF T (OrL.k ([]:OrL)) 60 53 (ntmF T 53)).me (qJ (qQ T 53 [0,1,0,1,1]))) τ)
 | e=>K e (qKZ ((cxF T (OrL.k ([]:OrL)) 60 53 (ntmF T 53)).T.hint (cxF T (OrL.k ([]:OrL)) 60 53 (ntmF T 53)).me (qJ (qQ T 53 [0,1,0,1,1]))) τ)) (hTn s pos) =
 bif (decide (pos < s.size)) then kVU (decide ((pos:Int)=0)) ((Utf8.decode s pos).1:Int) (G (hTn s (pos + (Utf8.decode s pos).2))) (K .ret ⟨[(2,.v (.b false))],[]⟩) else (K (.exit 0) ⟨[],[]⟩):=by kernel_rfl
theorem lpTn (K:Cont) (s:ByteArray):∀ (k p m:Nat),p + k=s.size→k < m→LF 60 (cxF T (OrL.k ([]:OrL)) 60 53 (ntmF T 53)) (ckF T (OrL.k ([]:OrL)) 60) (qQ T 53 [0,1,0,1,1]) ((cxF T (OrL.k ([]:OrL)) 60 53 (ntmF T 53)).T.hint (cxF T (OrL.k ([]:OrL)) 60 53 (ntmF T 53)).me (qJ (qQ T 53 [0,1,0,1,1]))) K m (hTn s p)=bif allC s k p then (K (.exit 0) ⟨[],[]⟩) else (K .ret ⟨[(2,.v (.b false))],[]⟩)
 | 0,p,m + 1,hp,hm=>by
  refine (rdTn (fun σ=>LF 60 (cxF T (OrL.k ([]:OrL)) 60 53 (ntmF T 53)) (ckF T (OrL.k ([]:OrL)) 60) (qQ T 53 [0,1,0,1,1]) ((cxF T (OrL.k ([]:OrL)) 60 53 (ntmF T 53)).T.hint (cxF T (OrL.k ([]:OrL)) 60 53 (ntmF T 53)).me (qJ (qQ T 53 [0,1,0,1,1]))) K m σ) K s p).trans ?_;rw [vYH (show ¬ p < s.size by omega)];rfl
 | k + 1,p,m + 1,hp,hm=>by
  refine (rdTn (fun σ=>LF 60 (cxF T (OrL.k ([]:OrL)) 60 53 (ntmF T 53)) (ckF T (OrL.k ([]:OrL)) 60) (qQ T 53 [0,1,0,1,1]) ((cxF T (OrL.k ([]:OrL)) 60 53 (ntmF T 53)).T.hint (cxF T (OrL.k ([]:OrL)) 60 53 (ntmF T 53)).me (qJ (qQ T 53 [0,1,0,1,1]))) K m σ) K s p).trans ?_;have hlt:p < s.size:=by omega
  rw [vJQ hlt,vYV,rawTn_eq];simp only [allC];have hb:=byteAt_get hlt;by_cases h128:(s[p]'hlt).toNat < 128
  ·rw [Go.decode_ascii s p hlt h128,hb];rw [lpTn K s k (p + 1) m (by omega) (by omega)];cases okC (decide ((p:Int)=0)) ((s[p]'hlt).toNat:Int) <;> rfl
  ·have hd:=(Go.decode_high s p hlt (by omega)).1;rw [okC_high (c:=((Utf8.decode s p).1:Int)) (by omega),okC_high (c:=zWJ s p) (by omega)];rfl
set_option maxRecDepth 100000 in
theorem pxTn (s:ByteArray):qHV T (OrL.k ([]:OrL)) (qZ [([0,1,0,1,1],uU (hTn s 0) (fun K=>bif decide (16 < (s.size:Int)) then none else (bif allC s s.size 0 then (K (.exit 0) ⟨[],[]⟩) else (K .ret ⟨[(2,.v (.b false))],[]⟩))))]) 60 53 [.s s] =
 (bif (decide ((s.size:Int)=0)) then some (.v (.b false),[]) else (bif (decide (16 < (s.size:Int))) then some (.v (.b false),[]) else (bif (s.toList == (ByteArray.mk #[119,111,114,108,100]).toList) then some (.v (.b false),[]) else (bif gSt (hTn s 0) (hTn s 0) then (bif decide (16 < (s.size:Int)) then none else (bif allC s s.size 0 then some (.v (.b true),[]) else some (.v (.b false),[]))) else none)))):=by kernel_rfl
theorem snd_Tn (s:ByteArray):yK Tryz.prog 53 [.s s] (.v (.b (nmB s))):=by
 refine uX (N:=60) (LO:=qZ [([0,1,0,1,1],uU (hTn s 0) (fun K=>bif decide (16 < (s.size:Int)) then none else (bif allC s s.size 0 then (K (.exit 0) ⟨[],[]⟩) else (K .ret ⟨[(2,.v (.b false))],[]⟩))))]) yJ zG (OrL.ok (l:=[]) trivial) (fun p S hp => ?_) ?_
 ·refine qZK (L:=qQ T 53) (l:=[([0,1,0,1,1],uU (hTn s 0) (fun K=>bif decide (16 < (s.size:Int)) then none else (bif allC s s.size 0 then (K (.exit 0) ⟨[],[]⟩) else (K .ret ⟨[(2,.v (.b false))],[]⟩))))]) (show AllP _ [([0,1,0,1,1],uU (hTn s 0) (fun K=>bif decide (16 < (s.size:Int)) then none else (bif allC s s.size 0 then (K (.exit 0) ⟨[],[]⟩) else (K .ret ⟨[(2,.v (.b false))],[]⟩))))] from ⟨qJH fun K r hr => ?_,trivial⟩) p S hp;cases hq:decide (16 < (s.size:Int)) with
  | true=>rw [hq] at hr; cases hr
  | false =>
   rw [hq] at hr;have h16:=vJY hq;exact (lpTn K s s.size 0 60 (by omega) (by omega)).trans hr
 ·refine (pxTn s).trans ?_;rw [yU,vYV];show _=some (Ret.v (.b (!(decide ((s.size:Int)=0)) && (!(decide (16 < (s.size:Int))) && (!(s.toList == (ByteArray.mk #[119,111,114,108,100]).toList) && allC s s.size 0)))),[]);cases decide ((s.size:Int)=0) <;> cases decide (16 < (s.size:Int)) <;> cases (s.toList == (ByteArray.mk #[119,111,114,108,100]).toList) <;> cases allC s s.size 0 <;> rfl
def hRn (s:ByteArray) (i:Int):St:=⟨[(0,.v (.s s)),(3,.v (.n .i64 i))],[]⟩
def kVX {α:Type} (b:Bool) (first:Bool) (c:Int) (g k:Option α):Option α:=(bif b then (bif (decide (97≤c)) then (bif b then (bif (decide (c≤122)) then g else (bif first then k else (bif b then (bif (!decide (c=95)) then (bif b then (bif (decide (c < 48)) then k else (bif b then (bif (decide (57 < c)) then k else g) else none)) else none) else g) else none))) else none) else (bif first then k else (bif b then (bif (!decide (c=95)) then (bif b then (bif (decide (c < 48)) then k else (bif b then (bif (decide (57 < c)) then k else g) else none)) else none) else g) else none))) else none)
theorem rawRn_eq {α:Type} (first:Bool) (c:Int) (g k:Option α):kVX true first c g k=bif okC first c then g else k:=by
 unfold kVX okC;rw [show decide (c < 48) = !decide (48≤c) by rw [← decide_not]; exact decide_eq_decide.2 (by omega),show decide (57 < c) = !decide (c≤57) by rw [← decide_not]; exact decide_eq_decide.2 (by omega)];cases first <;> cases hA:decide (97≤c) <;> cases hB:decide (c≤122) <;> cases hC:decide (48≤c) <;> cases hD:decide (c≤57) <;> cases hE:decide (c=95) <;> first | rfl | (exfalso; simp only [decide_eq_true_eq,decide_eq_false_iff_not] at *; omega)
set_option maxRecDepth 100000 in
theorem rdRn (G:St→Option (Ret × Mem)) (K:Cont) (s:ByteArray) (i:Int):qVQ 60 (cxF T (OrL.k ([]:OrL)) 60 106 (ntmF T 106)) (ckF T (OrL.k ([]:OrL)) 60) (qQ T 106 [0,1,0,1,1]) (fun e τ=>match e with
 | .normal=>G (qUX ((cxF T (OrL.k ([]:OrL)) 60 106 (ntmF T 106)).T.hint (cxF T (OrL.k ([]:OrL)) 60 106 (ntmF T 106)).me (qJ (qQ T 106 [0,1,0,1,1]))) τ)
 | e=>K e (qKZ ((cxF T (OrL.k ([]:OrL)) 60 106 (ntmF T 106)).T.hint (cxF T (OrL.k ([]:OrL)) 60 106 (ntmF T 106)).me (qJ (qQ T 106 [0,1,0,1,1]))) τ)) (hRn s i) =
 bif (decide (i < (s.size:Int))) then kVX (inB i s.size) (decide (i=0)) (zWJ s i.toNat) (G (hRn s (vJJ .i64 (i + 1)))) (K .ret ⟨[(2,.v (.b false))],[]⟩) else (K (.exit 0) ⟨[],[]⟩):=by kernel_rfl
theorem lpRn (K:Cont) (s:ByteArray) (hs:s.size≤1000):∀ (k p m:Nat),p + k=s.size→k < m→LF 60 (cxF T (OrL.k ([]:OrL)) 60 106 (ntmF T 106)) (ckF T (OrL.k ([]:OrL)) 60) (qQ T 106 [0,1,0,1,1]) ((cxF T (OrL.k ([]:OrL)) 60 106 (ntmF T 106)).T.hint (cxF T (OrL.k ([]:OrL)) 60 106 (ntmF T 106)).me (qJ (qQ T 106 [0,1,0,1,1]))) K m (hRn s p)=bif allC s k p then (K (.exit 0) ⟨[],[]⟩) else (K .ret ⟨[(2,.v (.b false))],[]⟩)
 | 0,p,m + 1,hp,hm=>by
  refine (rdRn (fun σ=>LF 60 (cxF T (OrL.k ([]:OrL)) 60 106 (ntmF T 106)) (ckF T (OrL.k ([]:OrL)) 60) (qQ T 106 [0,1,0,1,1]) ((cxF T (OrL.k ([]:OrL)) 60 106 (ntmF T 106)).T.hint (cxF T (OrL.k ([]:OrL)) 60 106 (ntmF T 106)).me (qJ (qQ T 106 [0,1,0,1,1]))) K m σ) K s p).trans ?_;rw [vYH (show ¬ (p:Int) < (s.size:Int) by omega)];rfl
 | k + 1,p,m + 1,hp,hm=>by
  refine (rdRn (fun σ=>LF 60 (cxF T (OrL.k ([]:OrL)) 60 106 (ntmF T 106)) (ckF T (OrL.k ([]:OrL)) 60) (qQ T 106 [0,1,0,1,1]) ((cxF T (OrL.k ([]:OrL)) 60 106 (ntmF T 106)).T.hint (cxF T (OrL.k ([]:OrL)) 60 106 (ntmF T 106)).me (qJ (qQ T 106 [0,1,0,1,1]))) K m σ) K s p).trans ?_;have hB:inB (p:Int) s.size=true:=by unfold inB; rw [vJQ (show (0:Int)≤p by omega),vJQ (show (p:Int).toNat < s.size by omega)]; rfl
  rw [vJQ (show (p:Int) < (s.size:Int) by omega),vYV,hB,rawRn_eq];simp only [allC];rw [show vJJ .i64 ((p:Int) + 1)=((p + 1:Nat):Int) by rw [zQ (by omega)]; omega,lpRn K s hs k (p + 1) m (by omega) (by omega)];show (bif okC (decide ((p:Int)=0)) (zWJ s (p:Int).toNat) then _ else _)=_;rw [show (p:Int).toNat=p by omega];cases okC (decide ((p:Int)=0)) (zWJ s p) <;> rfl
set_option maxRecDepth 100000 in
theorem pxRn (s:ByteArray):qHV T (OrL.k ([]:OrL)) (qZ [([0,1,0,1,1],uU (hRn s 0) (fun K=>bif decide (16 < (s.size:Int)) then none else (bif allC s s.size 0 then (K (.exit 0) ⟨[],[]⟩) else (K .ret ⟨[(2,.v (.b false))],[]⟩))))]) 60 106 [.s s] =
 (bif (decide ((s.size:Int) < 1)) then some (.v (.b false),[]) else (bif (decide (16 < (s.size:Int))) then some (.v (.b false),[]) else (bif (s.toList == (ByteArray.mk #[119,111,114,108,100]).toList) then some (.v (.b false),[]) else (bif gSt (hRn s 0) (hRn s 0) then (bif decide (16 < (s.size:Int)) then none else (bif allC s s.size 0 then some (.v (.b true),[]) else some (.v (.b false),[]))) else none)))):=by kernel_rfl
theorem snd_Rn (s:ByteArray):yK Tryz.prog 106 [.s s] (.v (.b (nmB s))):=by
 refine uX (N:=60) (LO:=qZ [([0,1,0,1,1],uU (hRn s 0) (fun K=>bif decide (16 < (s.size:Int)) then none else (bif allC s s.size 0 then (K (.exit 0) ⟨[],[]⟩) else (K .ret ⟨[(2,.v (.b false))],[]⟩))))]) yJ zG (OrL.ok (l:=[]) trivial) (fun p S hp => ?_) ?_
 ·refine qZK (L:=qQ T 106) (l:=[([0,1,0,1,1],uU (hRn s 0) (fun K=>bif decide (16 < (s.size:Int)) then none else (bif allC s s.size 0 then (K (.exit 0) ⟨[],[]⟩) else (K .ret ⟨[(2,.v (.b false))],[]⟩))))]) (show AllP _ [([0,1,0,1,1],uU (hRn s 0) (fun K=>bif decide (16 < (s.size:Int)) then none else (bif allC s s.size 0 then (K (.exit 0) ⟨[],[]⟩) else (K .ret ⟨[(2,.v (.b false))],[]⟩))))] from ⟨qJH fun K r hr => ?_,trivial⟩) p S hp;cases hq:decide (16 < (s.size:Int)) with
  | true=>rw [hq] at hr; cases hr
  | false =>
   rw [hq] at hr;have h16:=vJY hq;exact (lpRn K s (by omega) s.size 0 60 (by omega) (by omega)).trans hr
 ·refine (pxRn s).trans ?_;rw [yU,vYV];rw [show decide ((s.size:Int) < 1)=decide ((s.size:Int)=0) from decide_eq_decide.2 (by omega)];show _=some (Ret.v (.b (!(decide ((s.size:Int)=0)) && (!(decide (16 < (s.size:Int))) && (!(s.toList == (ByteArray.mk #[119,111,114,108,100]).toList) && allC s s.size 0)))),[]);cases decide ((s.size:Int)=0) <;> cases decide (16 < (s.size:Int)) <;> cases (s.toList == (ByteArray.mk #[119,111,114,108,100]).toList) <;> cases allC s s.size 0 <;> rfl
end Go.Proofs.YtgmbkkkbfbocnaaGreat.Na

/- Part 10 of the texts behind the last one: rules and contracts. No condition. -/
import Derived.Test.YtfcofnclgajfeaaGreatPV9
open Option renaming bind_eq_some_iff → vQQ
open Option.some renaming injEq → vQZ
open Prod.mk renaming injEq → vQY
open Bool renaming and_eq_true → vQJ
open List renaming getElem?_eq_getElem → vQK, length_cons → vQW, length_nil → vQV, all_eq_true → vZZ, take_succ_cons → vYK, drop_succ_cons → vYU, take_zero → vYX, drop_zero → vYW
open Go.IntKind renaming wrap → vJJ
namespace Go.Proofs.YtfcofnclgajfeaaGreat
open Go.Sx Go.Rx Rt Go.RowKit
namespace Tm
end Tm
open Tm
theorem la177:qKC Tryz.prog 177=some ([.int .i64 0,.int .i64 0,.int .i64 0,.int .i64 0],[(0,1),(1,1),(2,1),(3,1)]):=by kernel_rfl
theorem ze177:qYQ Tryz.prog 177 (.agg #[.int .i64 0,.int .i64 0,.int .i64 0,.int .i64 0]):=by unfold qYQ; kernel_rfl
theorem ty177:tyB Tryz.prog 177 true 4=true:=by kernel_rfl
theorem ar177:arrB Tryz.prog 177 4 1=true:=by kernel_rfl
theorem en152:kH Tryz.prog 152:=qU Tryz.func152 (by kernel_rfl) (by kernel_rfl)
theorem iScaled (a:Int) (b:Int) (_:In64 a) (hb:In64 b) (_:b≤4611686018427387904) (w:World):Calls Tryz.prog 152 [.int .i64 a,.int .i64 b].toArray w (Rets (iv (Iv.mk (qQJ (a / 65536)) (qQJ (zK b 65536)))) (w)):=by
 refine jU (n:=10) Tryz.func152 rfl rfl rfl ?_;refine zZ ?_;refine qY ?_;refine qUV 4 ze50 rfl rfl rfl ?_; intro b4;refine zJ ?_;refine qZ ?_;refine zZ ?_;refine qY ?_;refine qV (qW rfl) rfl rfl rfl ?_;refine qKG (F:=vI) (kV en159 rfl (fun w _=>zJZ _ _ (by decide) w)) rfl rfl rfl ?_; intro r6 hr6;refine qV (qW rfl) rfl rfl rfl ?_;refine qKG (F:=vI) (kV en160 rfl (fun w _=>zHJ _ _ (by decide) hb w)) rfl rfl rfl ?_; intro r8 hr8;refine qKG (F:=iv) (kV en120 rfl (fun w _=>iLimited _ _  w)) rfl rfl rfl ?_; intro r9 hr9;refine qZU 4 ty50 rfl rfl rfl rfl rfl rfl rfl rfl ?_;refine zJ ?_;refine qZ ?_;refine uG ?_;refine kY (rs:=[.cell 4 50]) rfl (resC (qJQ 4 rfl rfl ty50 rfl) (resN)) (congrArg (iv) (?_:⟨_,_⟩=Iv.mk (qQJ (a / 65536)) (qQJ (zK b 65536))))
 subst_vars; rfl
theorem ix4_0 {p0 p1 p2 p3:Int}:∀ w:World,(Instr.index 177 (.agg #[.int .i64 p0,.int .i64 p1,.int .i64 p2,.int .i64 p3]) (.int .i64 0)).run Tryz.prog w=.ok (.int .i64 p0) w:=fun w=>by kernel_rfl
theorem ix4_1 {p0 p1 p2 p3:Int}:∀ w:World,(Instr.index 177 (.agg #[.int .i64 p0,.int .i64 p1,.int .i64 p2,.int .i64 p3]) (.int .i64 1)).run Tryz.prog w=.ok (.int .i64 p1) w:=fun w=>by kernel_rfl
theorem ix4_2 {p0 p1 p2 p3:Int}:∀ w:World,(Instr.index 177 (.agg #[.int .i64 p0,.int .i64 p1,.int .i64 p2,.int .i64 p3]) (.int .i64 2)).run Tryz.prog w=.ok (.int .i64 p2) w:=fun w=>by kernel_rfl
theorem ix4_3 {p0 p1 p2 p3:Int}:∀ w:World,(Instr.index 177 (.agg #[.int .i64 p0,.int .i64 p1,.int .i64 p2,.int .i64 p3]) (.int .i64 3)).run Tryz.prog w=.ok (.int .i64 p3) w:=fun w=>by kernel_rfl
theorem iMul (a0 a1:Int) (b0 b1:Int) (w:World):Calls Tryz.prog 139 [.agg #[.int .i64 a0,.int .i64 a1],.agg #[.int .i64 b0,.int .i64 b1]].toArray w (Rets (iv (Iv.mul (⟨a0,a1⟩:Iv) (⟨b0,b1⟩:Iv))) (w)):=by
 refine jU (n:=54) Tryz.func139 rfl rfl rfl ?_;refine zZ ?_;refine qY ?_;refine qVL 2 rfl rfl rfl rfl ?_; intro b2;refine qVL 3 rfl rfl rfl rfl ?_; intro b3;refine qUV 4 ze50 rfl rfl rfl ?_; intro b4;refine zJ ?_;refine qZ ?_;refine zZ ?_;refine zZ ?_;refine qY ?_;refine qV (qZK 2 ty50 rfl rfl rfl) rfl rfl rfl ?_;refine qV (qZK 3 ty50 rfl rfl rfl) rfl rfl rfl ?_;refine qKG (F:=vB) (kV en82 rfl (fun w _=>iValid2 _ _ _ _  w)) rfl rfl rfl ?_; intro r12 hr12;refine qV (zUV rfl) rfl rfl rfl ?_;refine zJ ?_;refine qZ ?_;refine qYA rfl (fun hc13 => ?_) (fun hc13 => ?_)
 ·
  refine zZ ?_;refine qY ?_;refine qV (qKQ la50 rfl rfl) rfl rfl rfl ?_;refine qZU 4 ty50 rfl rfl rfl rfl rfl rfl rfl rfl ?_;refine zJ ?_;refine qZ ?_;refine uG ?_;refine qXI ?_;refine kY (rs:=[.cell 4 50]) rfl (resC (qJQ 4 rfl rfl ty50 rfl) (resN)) (congrArg (iv) (?_:⟨_,_⟩=Iv.mul (⟨a0,a1⟩:Iv) (⟨b0,b1⟩:Iv)))
  subst_vars; first | (simp_all [Iv.mul,min4,max4]; done) | (simp_all [Iv.mul,min4,max4] <;> omega) | grind [Iv.mul,min4,max4]
 ·
  refine qQG ?_;refine qZ ?_;refine zZ ?_;have hv:=(hr12.symm.trans (by simpa using hc13))
  rw [vQJ] at hv;have ha:=uJ hv.1;have hb:=uJ hv.2;have m1:=qWH (a:=a0) (b:=b0) (by omega) (by omega);have m2:=qWH (a:=a0) (b:=b1) (by omega) (by omega);have m3:=qWH (a:=a1) (b:=b0) (by omega) (by omega);have m4:=qWH (a:=a1) (b:=b1) (by omega) (by omega);refine qY ?_;refine qV (zU qWI rfl) rfl rfl rfl ?_;refine qV (yG 2 ty2 rfl rfl rfl) rfl rfl rfl ?_;refine qV (zU qWI rfl) rfl rfl rfl ?_;refine qV (yG 3 ty2 rfl rfl rfl) rfl rfl rfl ?_;refine qV (qWQ rfl rfl (by first | exact qG ⟨by omega,by omega⟩ | rfl)) rfl rfl rfl ?_;refine qV (zU qWI rfl) rfl rfl rfl ?_;refine qV (yG 2 ty2 rfl rfl rfl) rfl rfl rfl ?_;refine qV (zU zQE rfl) rfl rfl rfl ?_;refine qV (yG 3 ty2 rfl rfl rfl) rfl rfl rfl ?_;refine qV (qWQ rfl rfl (by first | exact qG ⟨by omega,by omega⟩ | rfl)) rfl rfl rfl ?_;refine qV (zU zQE rfl) rfl rfl rfl ?_;refine qV (yG 2 ty2 rfl rfl rfl) rfl rfl rfl ?_;refine qV (zU qWI rfl) rfl rfl rfl ?_;refine qV (yG 3 ty2 rfl rfl rfl) rfl rfl rfl ?_;refine qV (qWQ rfl rfl (by first | exact qG ⟨by omega,by omega⟩ | rfl)) rfl rfl rfl ?_;refine qV (zU zQE rfl) rfl rfl rfl ?_;refine qV (yG 2 ty2 rfl rfl rfl) rfl rfl rfl ?_;refine qV (zU zQE rfl) rfl rfl rfl ?_;refine qV (yG 3 ty2 rfl rfl rfl) rfl rfl rfl ?_;refine qV (qWQ rfl rfl (by first | exact qG ⟨by omega,by omega⟩ | rfl)) rfl rfl rfl ?_;refine qV (qKQ la177 rfl rfl) rfl rfl rfl ?_;refine qUV 5 ze177 rfl rfl rfl ?_; intro b5;refine qZU 5 ty177 rfl rfl rfl rfl rfl rfl rfl rfl ?_;refine zJ ?_;refine qZ ?_;refine zZ ?_;refine qKZ 5 mo (by kernel_rfl) ?_;simp only [vYK,vYX,vYU,vYW];refine jJ (qWK ar177 rfl rfl (by first | decide | omega) (by first | decide | omega)) rfl rfl rfl ?_;refine jJ (yG 5 ty2 rfl rfl rfl) rfl rfl rfl ?_;refine jJ (qWK ar177 rfl rfl (by first | decide | omega) (by first | decide | omega)) rfl rfl rfl ?_;refine jJ (yG 5 ty2 rfl rfl rfl) rfl rfl rfl ?_;refine jJ (zQ rfl) rfl rfl rfl ?_;refine qGQ ?_;refine qUL ?_;refine qV (zQ rfl) rfl rfl rfl ?_;refine zJ ?_;refine qZ ?_;refine zZ ?_;refine zZ ?_;refine qY ?_;refine qV (qZK 5 ty177 rfl rfl rfl) rfl rfl rfl ?_;refine qV (qW rfl) rfl rfl rfl ?_;refine zJ ?_;refine qZ ?_;refine qJK ?_;refine doC_rounds 5 ?_;refine zQI ?_;refine zZ ?_;refine qY ?_;refine qV (qKU rfl rfl) rfl rfl rfl ?_;refine zJ ?_;refine qZ ?_;refine zZ ?_;refine qXA rfl (by decide) ?_;refine qQG ?_;refine qZ ?_;refine zZ ?_;refine qJK ?_;refine zZ ?_;refine qY ?_;refine qV (qXK rfl rfl (ix4_0)) rfl rfl rfl ?_;refine qV (zQ rfl) rfl rfl rfl ?_;refine zJ ?_;refine qZ ?_;refine qY ?_;refine qV (qW rfl) rfl rfl rfl ?_;refine qV (qW rfl) rfl rfl rfl ?_;refine qV (qWZ rfl rfl) rfl rfl rfl ?_;refine qV (qW rfl) rfl rfl rfl ?_;refine qV (qW rfl) rfl rfl rfl ?_;refine qV (qWY rfl rfl) rfl rfl rfl ?_;refine qV (zQ rfl) rfl rfl rfl ?_;refine qV (zQ rfl) rfl rfl rfl ?_;refine zJ ?_;refine kX ?_;refine qZ ?_;refine qY ?_;refine qV (qYK rfl rfl (by first | exact qG ⟨by omega,by omega⟩ | rfl)) rfl rfl rfl ?_;refine qV (qW rfl) rfl rfl rfl ?_;refine zJ ?_;refine qXL ?_;refine zQI ?_;refine zZ ?_;refine qY ?_;refine qV (qKU rfl rfl) rfl rfl rfl ?_;refine zJ ?_;refine qZ ?_;refine zZ ?_;refine qXA rfl (by decide) ?_;refine qQG ?_;refine qZ ?_;refine zZ ?_;refine qJK ?_;refine zZ ?_;refine qY ?_;refine qV (qXK rfl rfl (ix4_1)) rfl rfl rfl ?_;refine qV (zQ rfl) rfl rfl rfl ?_;refine zJ ?_;refine qZ ?_;refine qY ?_;refine qV (qW rfl) rfl rfl rfl ?_;refine qV (qW rfl) rfl rfl rfl ?_;refine qV (qWZ rfl rfl) rfl rfl rfl ?_;refine qV (qW rfl) rfl rfl rfl ?_;refine qV (qW rfl) rfl rfl rfl ?_;refine qV (qWY rfl rfl) rfl rfl rfl ?_;refine qV (zQ rfl) rfl rfl rfl ?_;refine qV (zQ rfl) rfl rfl rfl ?_;refine zJ ?_;refine kX ?_;refine qZ ?_;refine qY ?_;refine qV (qYK rfl rfl (by first | exact qG ⟨by omega,by omega⟩ | rfl)) rfl rfl rfl ?_;refine qV (qW rfl) rfl rfl rfl ?_;refine zJ ?_;refine qXL ?_;refine zQI ?_;refine zZ ?_;refine qY ?_;refine qV (qKU rfl rfl) rfl rfl rfl ?_;refine zJ ?_;refine qZ ?_;refine zZ ?_;refine qXA rfl (by decide) ?_;refine qQG ?_;refine qZ ?_;refine zZ ?_;refine qJK ?_;refine zZ ?_;refine qY ?_;refine qV (qXK rfl rfl (ix4_2)) rfl rfl rfl ?_;refine qV (zQ rfl) rfl rfl rfl ?_;refine zJ ?_;refine qZ ?_;refine qY ?_;refine qV (qW rfl) rfl rfl rfl ?_;refine qV (qW rfl) rfl rfl rfl ?_;refine qV (qWZ rfl rfl) rfl rfl rfl ?_;refine qV (qW rfl) rfl rfl rfl ?_;refine qV (qW rfl) rfl rfl rfl ?_;refine qV (qWY rfl rfl) rfl rfl rfl ?_;refine qV (zQ rfl) rfl rfl rfl ?_;refine qV (zQ rfl) rfl rfl rfl ?_;refine zJ ?_;refine kX ?_;refine qZ ?_;refine qY ?_;refine qV (qYK rfl rfl (by first | exact qG ⟨by omega,by omega⟩ | rfl)) rfl rfl rfl ?_;refine qV (qW rfl) rfl rfl rfl ?_;refine zJ ?_;refine qXL ?_;refine zQI ?_;refine zZ ?_;refine qY ?_;refine qV (qKU rfl rfl) rfl rfl rfl ?_;refine zJ ?_;refine qZ ?_;refine zZ ?_;refine qXA rfl (by decide) ?_;refine qQG ?_;refine qZ ?_;refine zZ ?_;refine qJK ?_;refine zZ ?_;refine qY ?_;refine qV (qXK rfl rfl (ix4_3)) rfl rfl rfl ?_;refine qV (zQ rfl) rfl rfl rfl ?_;refine zJ ?_;refine qZ ?_;refine qY ?_;refine qV (qW rfl) rfl rfl rfl ?_;refine qV (qW rfl) rfl rfl rfl ?_;refine qV (qWZ rfl rfl) rfl rfl rfl ?_;refine qV (qW rfl) rfl rfl rfl ?_;refine qV (qW rfl) rfl rfl rfl ?_;refine qV (qWY rfl rfl) rfl rfl rfl ?_;refine qV (zQ rfl) rfl rfl rfl ?_;refine qV (zQ rfl) rfl rfl rfl ?_;refine zJ ?_;refine kX ?_;refine qZ ?_;refine qY ?_;refine qV (qYK rfl rfl (by first | exact qG ⟨by omega,by omega⟩ | rfl)) rfl rfl rfl ?_;refine qV (qW rfl) rfl rfl rfl ?_;refine zJ ?_;refine qXL ?_;refine zQI ?_;refine zZ ?_;refine qY ?_;refine qV (qKU rfl rfl) rfl rfl rfl ?_;refine zJ ?_;refine qZ ?_;refine zZ ?_;refine qGG rfl (by decide) ?_;refine zHV ?_;refine qZW ?_;refine qZW ?_;refine qUU ?_;refine qZ ?_;refine zZ ?_;refine qY ?_;refine qV (qW rfl) rfl rfl rfl ?_;refine qV (qW rfl) rfl rfl rfl ?_;refine qKG (F:=iv) (kV en152 rfl (fun w _=>iScaled _ _ (by unfold In64; omega) (by unfold In64; omega) (by omega) w)) rfl rfl rfl ?_; intro r53 hr53;refine qZU 4 ty50 rfl rfl rfl rfl rfl rfl rfl rfl ?_;refine zJ ?_;refine qZ ?_;refine uG ?_;refine kY (rs:=[.cell 4 50]) rfl (resC (qJQ 4 rfl rfl ty50 rfl) (resN)) (congrArg (iv) (?_:⟨_,_⟩=Iv.mul (⟨a0,a1⟩:Iv) (⟨b0,b1⟩:Iv)))
  subst_vars; first | (simp_all [Iv.mul,min4,max4]; done) | (simp_all [Iv.mul,min4,max4] <;> omega) | grind [Iv.mul,min4,max4]
namespace Tm
noncomputable def LTm1:OrL:=(87,Ta.o_iOf) :: ([]:OrL)
theorem LTm1_ok:AllP (fun x:Nat × (List PV→Option (Bool × Ret))=>zY Tryz.prog x.1 x.2) LTm1:=⟨Ta.ok_iOf,trivial⟩
noncomputable def LTm2:OrL:=(102,Ta.o_rOf) :: LTm1
theorem yJH:AllP (fun x:Nat × (List PV→Option (Bool × Ret))=>zY Tryz.prog x.1 x.2) LTm2:=⟨Ta.ok_rOf,LTm1_ok⟩
end Tm
set_option maxRecDepth 100000 in
theorem mPoint (p0 p1 p2:Int) (w:World):Calls Tryz.prog 56 [.agg #[.int .i64 p0,.int .i64 p1,.int .i64 p2]].toArray w (Rets (v3 (V3.of (⟨p0,p1,p2⟩:Z3))) (w)) :=
 qH (x:=.a (v3C (V3.of ⟨p0,p1,p2⟩))) (qX (N:=60) (ps:=[.a [.n .i64 p0,.n .i64 p1,.n .i64 p2]]) yY yQ (OrL.ok (l:=LTm2) yJH) (by kernel_rfl)) rfl rfl w
set_option maxRecDepth 100000 in
theorem rPoint (p0 p1 p2:Int) (w:World):Calls Tryz.prog 73 [.agg #[.int .i64 p0,.int .i64 p1,.int .i64 p2]].toArray w (Rets (v3 (V3.of (⟨p0,p1,p2⟩:Z3))) (w)) :=
 qH (x:=.a (v3C (V3.of ⟨p0,p1,p2⟩))) (qX (N:=60) (ps:=[.a [.n .i64 p0,.n .i64 p1,.n .i64 p2]]) yY yQ (OrL.ok (l:=LTm2) yJH) (by kernel_rfl)) rfl rfl w
namespace Tm
noncomputable def LTm3:OrL:=(113,Tn.o_iValid) :: LTm2
theorem LTm3_ok:AllP (fun x:Nat × (List PV→Option (Bool × Ret))=>zY Tryz.prog x.1 x.2) LTm3:=⟨Tn.ok_iValid,yJH⟩
noncomputable def o_iAdd:List PV→Option (Bool × Ret):=fun ps=>match ps with
 | [.a a',.a b']=>(ivD a').bind fun a=>(ivD b').bind fun b=>some (true,.v (.a (ivC (Iv.add a b))))
 | _=>none
theorem ok_iAdd:zY Tryz.prog 138 o_iAdd:=by
 intro ps r h;unfold o_iAdd at h;split at h
 ·simp only [vQQ,vQZ,vQY] at h;obtain ⟨a,ha,b,hb,hg,rfl⟩:=h;rw [uK ha];rw [uK hb];exact qJ (qU Tryz.func138 (by kernel_rfl) (by kernel_rfl)) rfl rfl (fun w=>iAdd _ _ _ _ w)
 ·cases h
noncomputable def LTm4:OrL:=(138,o_iAdd) :: LTm3
theorem LTm4_ok:AllP (fun x:Nat × (List PV→Option (Bool × Ret))=>zY Tryz.prog x.1 x.2) LTm4:=⟨ok_iAdd,LTm3_ok⟩
noncomputable def LTm5:OrL:=(172,Ta.o_iNeg) :: LTm4
theorem LTm5_ok:AllP (fun x:Nat × (List PV→Option (Bool × Ret))=>zY Tryz.prog x.1 x.2) LTm5:=⟨Ta.ok_iNeg,LTm4_ok⟩
noncomputable def LTm6:OrL:=(124,Tn.o_rValid) :: LTm5
theorem LTm6_ok:AllP (fun x:Nat × (List PV→Option (Bool × Ret))=>zY Tryz.prog x.1 x.2) LTm6:=⟨Tn.ok_rValid,LTm5_ok⟩
noncomputable def o_rAdd:List PV→Option (Bool × Ret):=fun ps=>match ps with
 | [.a a',.a b']=>(ivD a').bind fun a=>(ivD b').bind fun b=>some (true,.v (.a (ivC (Iv.add a b))))
 | _=>none
theorem ok_rAdd:zY Tryz.prog 104 o_rAdd:=by
 intro ps r h;unfold o_rAdd at h;split at h
 ·simp only [vQQ,vQZ,vQY] at h;obtain ⟨a,ha,b,hb,hg,rfl⟩:=h;rw [uK ha];rw [uK hb];exact qJ (qU Tryz.func104 (by kernel_rfl) (by kernel_rfl)) rfl rfl (fun w=>rAdd _ _ _ _ w)
 ·cases h
noncomputable def LTm7:OrL:=(104,o_rAdd) :: LTm6
theorem LTm7_ok:AllP (fun x:Nat × (List PV→Option (Bool × Ret))=>zY Tryz.prog x.1 x.2) LTm7:=⟨ok_rAdd,LTm6_ok⟩
noncomputable def LTm8:OrL:=(156,Ta.o_rNeg) :: LTm7
theorem zXI:AllP (fun x:Nat × (List PV→Option (Bool × Ret))=>zY Tryz.prog x.1 x.2) LTm8:=⟨Ta.ok_rNeg,LTm7_ok⟩
end Tm
set_option maxRecDepth 100000 in
theorem mAdd (p0 p1 p2 p3 p4 p5:Int) (q0 q1 q2 q3 q4 q5:Int) (w:World):Calls Tryz.prog 150 [.agg #[.int .i64 p0,.int .i64 p1,.int .i64 p2,.int .i64 p3,.int .i64 p4,.int .i64 p5],.agg #[.int .i64 q0,.int .i64 q1,.int .i64 q2,.int .i64 q3,.int .i64 q4,.int .i64 q5]].toArray w (Rets (v3 (V3.add (⟨⟨p0,p1⟩,⟨p2,p3⟩,⟨p4,p5⟩⟩:V3) (⟨⟨q0,q1⟩,⟨q2,q3⟩,⟨q4,q5⟩⟩:V3))) (w)) :=
 qH (x:=.a (v3C (V3.add ⟨⟨p0,p1⟩,⟨p2,p3⟩,⟨p4,p5⟩⟩ ⟨⟨q0,q1⟩,⟨q2,q3⟩,⟨q4,q5⟩⟩))) (qX (N:=60) (ps:=[.a (ivs [⟨p0,p1⟩,⟨p2,p3⟩,⟨p4,p5⟩]),.a (ivs [⟨q0,q1⟩,⟨q2,q3⟩,⟨q4,q5⟩])]) yY yQ (OrL.ok (l:=LTm8) zXI) (by kernel_rfl)) rfl rfl w
set_option maxRecDepth 100000 in
theorem rAddVec (p0 p1 p2 p3 p4 p5:Int) (q0 q1 q2 q3 q4 q5:Int) (w:World):Calls Tryz.prog 103 [.agg #[.int .i64 p0,.int .i64 p1,.int .i64 p2,.int .i64 p3,.int .i64 p4,.int .i64 p5],.agg #[.int .i64 q0,.int .i64 q1,.int .i64 q2,.int .i64 q3,.int .i64 q4,.int .i64 q5]].toArray w (Rets (v3 (V3.add (⟨⟨p0,p1⟩,⟨p2,p3⟩,⟨p4,p5⟩⟩:V3) (⟨⟨q0,q1⟩,⟨q2,q3⟩,⟨q4,q5⟩⟩:V3))) (w)) :=
 qH (x:=.a (v3C (V3.add ⟨⟨p0,p1⟩,⟨p2,p3⟩,⟨p4,p5⟩⟩ ⟨⟨q0,q1⟩,⟨q2,q3⟩,⟨q4,q5⟩⟩))) (qX (N:=60) (ps:=[.a (ivs [⟨p0,p1⟩,⟨p2,p3⟩,⟨p4,p5⟩]),.a (ivs [⟨q0,q1⟩,⟨q2,q3⟩,⟨q4,q5⟩])]) yY yQ (OrL.ok (l:=LTm8) zXI) (by kernel_rfl)) rfl rfl w
set_option maxRecDepth 100000 in
theorem mIdentity  (w:World):Calls Tryz.prog 145 [].toArray w (Rets (m3 (M3.unit)) (w)) :=
 qH (x:=.a (m3C M3.unit)) (qX (N:=60) (ps:=[]) yY yQ (OrL.ok (l:=LTm8) zXI) (by kernel_rfl)) rfl rfl w
set_option maxRecDepth 100000 in
theorem rUnit  (w:World):Calls Tryz.prog 143 [].toArray w (Rets (m3 (M3.unit)) (w)) :=
 qH (x:=.a (m3C M3.unit)) (qX (N:=60) (ps:=[]) yY yQ (OrL.ok (l:=LTm8) zXI) (by kernel_rfl)) rfl rfl w
namespace Tm
noncomputable def zYD:List PV→Option (Bool × Ret):=fun ps=>match ps with
 | [.a a']=>(ivD a').bind fun a=>some (true,.v (.a (ivC (kJ a))))
 | _=>none
theorem ok_aSinOver:zY Tryz.prog 171 zYD:=by
 intro ps r h;unfold zYD at h;split at h
 ·simp only [vQQ,vQZ,vQY] at h;obtain ⟨a,ha,hg,rfl⟩:=h;rw [uK ha];exact qJ (qU Tryz.func171 (by kernel_rfl) (by kernel_rfl)) rfl rfl (fun w=>aSinOver _ _ w)
 ·cases h
noncomputable def LTm9:OrL:=(171,zYD) :: LTm8
theorem LTm9_ok:AllP (fun x:Nat × (List PV→Option (Bool × Ret))=>zY Tryz.prog x.1 x.2) LTm9:=⟨ok_aSinOver,zXI⟩
noncomputable def zYE:List PV→Option (Bool × Ret):=fun ps=>match ps with
 | [.a a']=>(ivD a').bind fun a=>some (true,.v (.a (ivC (kK a))))
 | _=>none
theorem ok_aCosOver:zY Tryz.prog 170 zYE:=by
 intro ps r h;unfold zYE at h;split at h
 ·simp only [vQQ,vQZ,vQY] at h;obtain ⟨a,ha,hg,rfl⟩:=h;rw [uK ha];exact qJ (qU Tryz.func170 (by kernel_rfl) (by kernel_rfl)) rfl rfl (fun w=>aCosOver _ _ w)
 ·cases h
noncomputable def LTm10:OrL:=(170,zYE) :: LTm9
theorem LTm10_ok:AllP (fun x:Nat × (List PV→Option (Bool × Ret))=>zY Tryz.prog x.1 x.2) LTm10:=⟨ok_aCosOver,LTm9_ok⟩
noncomputable def zYK:List PV→Option (Bool × Ret):=fun ps=>match ps with
 | [.a a']=>(ivD a').bind fun a=>some (true,.v (.a (ivC (kJ a))))
 | _=>none
theorem ok_rSinOver:zY Tryz.prog 155 zYK:=by
 intro ps r h;unfold zYK at h;split at h
 ·simp only [vQQ,vQZ,vQY] at h;obtain ⟨a,ha,hg,rfl⟩:=h;rw [uK ha];exact qJ (qU Tryz.func155 (by kernel_rfl) (by kernel_rfl)) rfl rfl (fun w=>rSinOver _ _ w)
 ·cases h
noncomputable def LTm11:OrL:=(155,zYK) :: LTm10
theorem LTm11_ok:AllP (fun x:Nat × (List PV→Option (Bool × Ret))=>zY Tryz.prog x.1 x.2) LTm11:=⟨ok_rSinOver,LTm10_ok⟩
noncomputable def zYW:List PV→Option (Bool × Ret):=fun ps=>match ps with
 | [.a a']=>(ivD a').bind fun a=>some (true,.v (.a (ivC (kK a))))
 | _=>none
theorem ok_rCosOver:zY Tryz.prog 154 zYW:=by
 intro ps r h;unfold zYW at h;split at h
 ·simp only [vQQ,vQZ,vQY] at h;obtain ⟨a,ha,hg,rfl⟩:=h;rw [uK ha];exact qJ (qU Tryz.func154 (by kernel_rfl) (by kernel_rfl)) rfl rfl (fun w=>rCosOver _ _ w)
 ·cases h
noncomputable def yHA:OrL:=(154,zYW) :: LTm11
theorem LTm12_ok:AllP (fun x:Nat × (List PV→Option (Bool × Ret))=>zY Tryz.prog x.1 x.2) yHA:=⟨ok_rCosOver,LTm11_ok⟩
end Tm
set_option maxRecDepth 100000 in
theorem mTurn (axis:Int) (a0 a1:Int) (w:World):Calls Tryz.prog 164 [.int .i64 axis,.agg #[.int .i64 a0,.int .i64 a1]].toArray w (Rets (m3 (M3.turn axis (⟨a0,a1⟩:Iv))) (w)) :=
 qH (x:=.a (m3C (M3.turn axis ⟨a0,a1⟩))) (qX (N:=60) (ps:=[.n .i64 axis,.a [.n .i64 a0,.n .i64 a1]]) yY yQ (OrL.ok (l:=yHA) LTm12_ok) ((by kernel_rfl:_=bif Iv.valid (Iv.mk a0 a1) then (bif (decide (axis=0)) then some (.v (.a (ivs [(Iv.of 65536),(Iv.of 0),(Iv.of 0),(Iv.of 0),(kK (Iv.mk a0 a1)),(Iv.neg (kJ (Iv.mk a0 a1))),(Iv.of 0),(kJ (Iv.mk a0 a1)),(kK (Iv.mk a0 a1))])),[])
 else bif (decide (axis=1)) then some (.v (.a (ivs [(kK (Iv.mk a0 a1)),(Iv.of 0),(kJ (Iv.mk a0 a1)),(Iv.of 0),(Iv.of 65536),(Iv.of 0),(Iv.neg (kJ (Iv.mk a0 a1))),(Iv.of 0),(kK (Iv.mk a0 a1))])),[])
 else bif (decide (axis=2)) then some (.v (.a (ivs [(kK (Iv.mk a0 a1)),(Iv.neg (kJ (Iv.mk a0 a1))),(Iv.of 0),(kJ (Iv.mk a0 a1)),(kK (Iv.mk a0 a1)),(Iv.of 0),(Iv.of 0),(Iv.of 0),(Iv.of 65536)])),[])
 else some (.v (.a (ivs [iv0,iv0,iv0,iv0,iv0,iv0,iv0,iv0,iv0])),[]))
 else some (.v (.a (ivs [iv0,iv0,iv0,iv0,iv0,iv0,iv0,iv0,iv0])),[])).trans (by
 simp only [of_one,of_zero];unfold M3.turn;cases Iv.valid (Iv.mk a0 a1) <;> cases decide (axis=0) <;> cases decide (axis=1) <;> cases decide (axis=2) <;> rfl))) rfl rfl w
set_option maxRecDepth 100000 in
theorem rTurn (axis:Int) (a0 a1:Int) (w:World):Calls Tryz.prog 144 [.int .i64 axis,.agg #[.int .i64 a0,.int .i64 a1]].toArray w (Rets (m3 (M3.turn axis (⟨a0,a1⟩:Iv))) (w)) :=
 qH (x:=.a (m3C (M3.turn axis ⟨a0,a1⟩))) (qX (N:=60) (ps:=[.n .i64 axis,.a [.n .i64 a0,.n .i64 a1]]) yY yQ (OrL.ok (l:=yHA) LTm12_ok) ((by kernel_rfl:_=bif Iv.valid (Iv.mk a0 a1) then (bif (decide (axis=0)) then some (.v (.a (ivs [(Iv.of 65536),iv0,iv0,iv0,(kK (Iv.mk a0 a1)),(Iv.neg (kJ (Iv.mk a0 a1))),iv0,(kJ (Iv.mk a0 a1)),(kK (Iv.mk a0 a1))])),[])
 else bif (decide (axis=1)) then some (.v (.a (ivs [(kK (Iv.mk a0 a1)),iv0,(kJ (Iv.mk a0 a1)),iv0,(Iv.of 65536),iv0,(Iv.neg (kJ (Iv.mk a0 a1))),iv0,(kK (Iv.mk a0 a1))])),[])
 else bif (decide (axis=2)) then some (.v (.a (ivs [(kK (Iv.mk a0 a1)),(Iv.neg (kJ (Iv.mk a0 a1))),iv0,(kJ (Iv.mk a0 a1)),(kK (Iv.mk a0 a1)),iv0,iv0,iv0,(Iv.of 65536)])),[])
 else some (.v (.a (ivs [iv0,iv0,iv0,iv0,iv0,iv0,iv0,iv0,iv0])),[]))
 else some (.v (.a (ivs [iv0,iv0,iv0,iv0,iv0,iv0,iv0,iv0,iv0])),[])).trans (by
 simp only [of_one,of_zero];unfold M3.turn;cases Iv.valid (Iv.mk a0 a1) <;> cases decide (axis=0) <;> cases decide (axis=1) <;> cases decide (axis=2) <;> rfl))) rfl rfl w
end Go.Proofs.YtfcofnclgajfeaaGreat
namespace Go.Proofs.YtfcofnclgajfeaaGreat
open Go.Rx Rt Go.Sx Go.RowKit
namespace VM2
noncomputable def LVM21:OrL:=(138,Tm.o_iAdd) :: ([]:OrL)
theorem LVM21_ok:AllP (fun x:Nat × (List PV→Option (Bool × Ret))=>zY Tryz.prog x.1 x.2) LVM21:=⟨Tm.ok_iAdd,trivial⟩
noncomputable def yXV:List PV→Option (Bool × Ret):=fun ps=>match ps with
 | [.a a',.a b']=>(ivD a').bind fun a=>(ivD b').bind fun b=>some (true,.v (.a (ivC (Iv.mul a b))))
 | _=>none
theorem ok_iMul:zY Tryz.prog 139 yXV:=by
 intro ps r h;unfold yXV at h;split at h
 ·simp only [vQQ,vQZ,vQY] at h;obtain ⟨a,ha,b,hb,hg,rfl⟩:=h;rw [uK ha];rw [uK hb];exact qJ (qU Tryz.func139 (by kernel_rfl) (by kernel_rfl)) rfl rfl (fun w=>iMul _ _ _ _ w)
 ·cases h
noncomputable def LVM22:OrL:=(139,yXV) :: LVM21
theorem LVM22_ok:AllP (fun x:Nat × (List PV→Option (Bool × Ret))=>zY Tryz.prog x.1 x.2) LVM22:=⟨ok_iMul,LVM21_ok⟩
noncomputable def yXY:List PV→Option (Bool × Ret):=fun ps=>match ps with
 | [.a a',.a b']=>(ivD a').bind fun a=>(ivD b').bind fun b=>some (true,.v (.a (ivC (Iv.mul a b))))
 | _=>none
theorem ok_rMul:zY Tryz.prog 105 yXY:=by
 intro ps r h;unfold yXY at h;split at h
 ·simp only [vQQ,vQZ,vQY] at h;obtain ⟨a,ha,b,hb,hg,rfl⟩:=h;rw [uK ha];rw [uK hb];exact qJ (qU Tryz.func105 (by kernel_rfl) (by kernel_rfl)) rfl rfl (fun w=>rMul _ _ _ _ w)
 ·cases h
noncomputable def LVM23:OrL:=(105,yXY) :: LVM22
theorem LVM23_ok:AllP (fun x:Nat × (List PV→Option (Bool × Ret))=>zY Tryz.prog x.1 x.2) LVM23:=⟨ok_rMul,LVM22_ok⟩
noncomputable def yWB:OrL:=(104,Tm.o_rAdd) :: LVM23
theorem zKB:AllP (fun x:Nat × (List PV→Option (Bool × Ret))=>zY Tryz.prog x.1 x.2) yWB:=⟨Tm.ok_rAdd,LVM23_ok⟩
end VM2
open VM2
set_option maxRecDepth 100000 in
theorem mCompose (p0 p1 p2 p3 p4 p5 p6 p7 p8 p9 p10 p11 p12 p13 p14 p15 p16 p17:Int) (q0 q1 q2 q3 q4 q5 q6 q7 q8 q9 q10 q11 q12 q13 q14 q15 q16 q17:Int) (w:World):Calls Tryz.prog 137 [.agg #[.int .i64 p0,.int .i64 p1,.int .i64 p2,.int .i64 p3,.int .i64 p4,.int .i64 p5,.int .i64 p6,.int .i64 p7,.int .i64 p8,.int .i64 p9,.int .i64 p10,.int .i64 p11,.int .i64 p12,.int .i64 p13,.int .i64 p14,.int .i64 p15,.int .i64 p16,.int .i64 p17],.agg #[.int .i64 q0,.int .i64 q1,.int .i64 q2,.int .i64 q3,.int .i64 q4,.int .i64 q5,.int .i64 q6,.int .i64 q7,.int .i64 q8,.int .i64 q9,.int .i64 q10,.int .i64 q11,.int .i64 q12,.int .i64 q13,.int .i64 q14,.int .i64 q15,.int .i64 q16,.int .i64 q17]].toArray w (Rets (m3 (M3.mul ((M3.mk (V3.mk (Iv.mk p0 p1) (Iv.mk p2 p3) (Iv.mk p4 p5)) (V3.mk (Iv.mk p6 p7) (Iv.mk p8 p9) (Iv.mk p10 p11)) (V3.mk (Iv.mk p12 p13) (Iv.mk p14 p15) (Iv.mk p16 p17))):M3) ((M3.mk (V3.mk (Iv.mk q0 q1) (Iv.mk q2 q3) (Iv.mk q4 q5)) (V3.mk (Iv.mk q6 q7) (Iv.mk q8 q9) (Iv.mk q10 q11)) (V3.mk (Iv.mk q12 q13) (Iv.mk q14 q15) (Iv.mk q16 q17))):M3))) w) :=
 qH (x:=.a (m3C (M3.mul ((M3.mk (V3.mk (Iv.mk p0 p1) (Iv.mk p2 p3) (Iv.mk p4 p5)) (V3.mk (Iv.mk p6 p7) (Iv.mk p8 p9) (Iv.mk p10 p11)) (V3.mk (Iv.mk p12 p13) (Iv.mk p14 p15) (Iv.mk p16 p17))):M3) ((M3.mk (V3.mk (Iv.mk q0 q1) (Iv.mk q2 q3) (Iv.mk q4 q5)) (V3.mk (Iv.mk q6 q7) (Iv.mk q8 q9) (Iv.mk q10 q11)) (V3.mk (Iv.mk q12 q13) (Iv.mk q14 q15) (Iv.mk q16 q17))):M3)))) (qX (N:=60) (ps:=[.a [.n .i64 p0,.n .i64 p1,.n .i64 p2,.n .i64 p3,.n .i64 p4,.n .i64 p5,.n .i64 p6,.n .i64 p7,.n .i64 p8,.n .i64 p9,.n .i64 p10,.n .i64 p11,.n .i64 p12,.n .i64 p13,.n .i64 p14,.n .i64 p15,.n .i64 p16,.n .i64 p17],.a [.n .i64 q0,.n .i64 q1,.n .i64 q2,.n .i64 q3,.n .i64 q4,.n .i64 q5,.n .i64 q6,.n .i64 q7,.n .i64 q8,.n .i64 q9,.n .i64 q10,.n .i64 q11,.n .i64 q12,.n .i64 q13,.n .i64 q14,.n .i64 q15,.n .i64 q16,.n .i64 q17]]) yY yQ (OrL.ok (l:=yWB) zKB) ((by kernel_rfl:_=some (.v (.a [.n .i64 (min (max (Iv.add (Iv.add (Iv.add (Iv.mk 0 0) (Iv.mul (Iv.mk p0 p1) (Iv.mk q0 q1))) (Iv.mul (Iv.mk p2 p3) (Iv.mk q6 q7))) (Iv.mul (Iv.mk p4 p5) (Iv.mk q12 q13))).lo (-65536)) 65536),.n .i64 (min (max (Iv.add (Iv.add (Iv.add (Iv.mk 0 0) (Iv.mul (Iv.mk p0 p1) (Iv.mk q0 q1))) (Iv.mul (Iv.mk p2 p3) (Iv.mk q6 q7))) (Iv.mul (Iv.mk p4 p5) (Iv.mk q12 q13))).hi (-65536)) 65536),.n .i64 (min (max (Iv.add (Iv.add (Iv.add (Iv.mk 0 0) (Iv.mul (Iv.mk p0 p1) (Iv.mk q2 q3))) (Iv.mul (Iv.mk p2 p3) (Iv.mk q8 q9))) (Iv.mul (Iv.mk p4 p5) (Iv.mk q14 q15))).lo (-65536)) 65536),.n .i64 (min (max (Iv.add (Iv.add (Iv.add (Iv.mk 0 0) (Iv.mul (Iv.mk p0 p1) (Iv.mk q2 q3))) (Iv.mul (Iv.mk p2 p3) (Iv.mk q8 q9))) (Iv.mul (Iv.mk p4 p5) (Iv.mk q14 q15))).hi (-65536)) 65536),.n .i64 (min (max (Iv.add (Iv.add (Iv.add (Iv.mk 0 0) (Iv.mul (Iv.mk p0 p1) (Iv.mk q4 q5))) (Iv.mul (Iv.mk p2 p3) (Iv.mk q10 q11))) (Iv.mul (Iv.mk p4 p5) (Iv.mk q16 q17))).lo (-65536)) 65536),.n .i64 (min (max (Iv.add (Iv.add (Iv.add (Iv.mk 0 0) (Iv.mul (Iv.mk p0 p1) (Iv.mk q4 q5))) (Iv.mul (Iv.mk p2 p3) (Iv.mk q10 q11))) (Iv.mul (Iv.mk p4 p5) (Iv.mk q16 q17))).hi (-65536)) 65536),.n .i64 (min (max (Iv.add (Iv.add (Iv.add (Iv.mk 0 0) (Iv.mul (Iv.mk p6 p7) (Iv.mk q0 q1))) (Iv.mul (Iv.mk p8 p9) (Iv.mk q6 q7))) (Iv.mul (Iv.mk p10 p11) (Iv.mk q12 q13))).lo (-65536)) 65536),.n .i64 (min (max (Iv.add (Iv.add (Iv.add (Iv.mk 0 0) (Iv.mul (Iv.mk p6 p7) (Iv.mk q0 q1))) (Iv.mul (Iv.mk p8 p9) (Iv.mk q6 q7))) (Iv.mul (Iv.mk p10 p11) (Iv.mk q12 q13))).hi (-65536)) 65536),.n .i64 (min (max (Iv.add (Iv.add (Iv.add (Iv.mk 0 0) (Iv.mul (Iv.mk p6 p7) (Iv.mk q2 q3))) (Iv.mul (Iv.mk p8 p9) (Iv.mk q8 q9))) (Iv.mul (Iv.mk p10 p11) (Iv.mk q14 q15))).lo (-65536)) 65536),.n .i64 (min (max (Iv.add (Iv.add (Iv.add (Iv.mk 0 0) (Iv.mul (Iv.mk p6 p7) (Iv.mk q2 q3))) (Iv.mul (Iv.mk p8 p9) (Iv.mk q8 q9))) (Iv.mul (Iv.mk p10 p11) (Iv.mk q14 q15))).hi (-65536)) 65536),.n .i64 (min (max (Iv.add (Iv.add (Iv.add (Iv.mk 0 0) (Iv.mul (Iv.mk p6 p7) (Iv.mk q4 q5))) (Iv.mul (Iv.mk p8 p9) (Iv.mk q10 q11))) (Iv.mul (Iv.mk p10 p11) (Iv.mk q16 q17))).lo (-65536)) 65536),.n .i64 (min (max (Iv.add (Iv.add (Iv.add (Iv.mk 0 0) (Iv.mul (Iv.mk p6 p7) (Iv.mk q4 q5))) (Iv.mul (Iv.mk p8 p9) (Iv.mk q10 q11))) (Iv.mul (Iv.mk p10 p11) (Iv.mk q16 q17))).hi (-65536)) 65536),.n .i64 (min (max (Iv.add (Iv.add (Iv.add (Iv.mk 0 0) (Iv.mul (Iv.mk p12 p13) (Iv.mk q0 q1))) (Iv.mul (Iv.mk p14 p15) (Iv.mk q6 q7))) (Iv.mul (Iv.mk p16 p17) (Iv.mk q12 q13))).lo (-65536)) 65536),.n .i64 (min (max (Iv.add (Iv.add (Iv.add (Iv.mk 0 0) (Iv.mul (Iv.mk p12 p13) (Iv.mk q0 q1))) (Iv.mul (Iv.mk p14 p15) (Iv.mk q6 q7))) (Iv.mul (Iv.mk p16 p17) (Iv.mk q12 q13))).hi (-65536)) 65536),.n .i64 (min (max (Iv.add (Iv.add (Iv.add (Iv.mk 0 0) (Iv.mul (Iv.mk p12 p13) (Iv.mk q2 q3))) (Iv.mul (Iv.mk p14 p15) (Iv.mk q8 q9))) (Iv.mul (Iv.mk p16 p17) (Iv.mk q14 q15))).lo (-65536)) 65536),.n .i64 (min (max (Iv.add (Iv.add (Iv.add (Iv.mk 0 0) (Iv.mul (Iv.mk p12 p13) (Iv.mk q2 q3))) (Iv.mul (Iv.mk p14 p15) (Iv.mk q8 q9))) (Iv.mul (Iv.mk p16 p17) (Iv.mk q14 q15))).hi (-65536)) 65536),.n .i64 (min (max (Iv.add (Iv.add (Iv.add (Iv.mk 0 0) (Iv.mul (Iv.mk p12 p13) (Iv.mk q4 q5))) (Iv.mul (Iv.mk p14 p15) (Iv.mk q10 q11))) (Iv.mul (Iv.mk p16 p17) (Iv.mk q16 q17))).lo (-65536)) 65536),.n .i64 (min (max (Iv.add (Iv.add (Iv.add (Iv.mk 0 0) (Iv.mul (Iv.mk p12 p13) (Iv.mk q4 q5))) (Iv.mul (Iv.mk p14 p15) (Iv.mk q10 q11))) (Iv.mul (Iv.mk p16 p17) (Iv.mk q16 q17))).hi (-65536)) 65536)]),[])).trans (by simp only [add_zero_mul]; rfl))) rfl rfl w
set_option maxRecDepth 100000 in
theorem rCompose (p0 p1 p2 p3 p4 p5 p6 p7 p8 p9 p10 p11 p12 p13 p14 p15 p16 p17:Int) (q0 q1 q2 q3 q4 q5 q6 q7 q8 q9 q10 q11 q12 q13 q14 q15 q16 q17:Int) (w:World):Calls Tryz.prog 128 [.agg #[.int .i64 p0,.int .i64 p1,.int .i64 p2,.int .i64 p3,.int .i64 p4,.int .i64 p5,.int .i64 p6,.int .i64 p7,.int .i64 p8,.int .i64 p9,.int .i64 p10,.int .i64 p11,.int .i64 p12,.int .i64 p13,.int .i64 p14,.int .i64 p15,.int .i64 p16,.int .i64 p17],.agg #[.int .i64 q0,.int .i64 q1,.int .i64 q2,.int .i64 q3,.int .i64 q4,.int .i64 q5,.int .i64 q6,.int .i64 q7,.int .i64 q8,.int .i64 q9,.int .i64 q10,.int .i64 q11,.int .i64 q12,.int .i64 q13,.int .i64 q14,.int .i64 q15,.int .i64 q16,.int .i64 q17]].toArray w (Rets (m3 (M3.mul ((M3.mk (V3.mk (Iv.mk p0 p1) (Iv.mk p2 p3) (Iv.mk p4 p5)) (V3.mk (Iv.mk p6 p7) (Iv.mk p8 p9) (Iv.mk p10 p11)) (V3.mk (Iv.mk p12 p13) (Iv.mk p14 p15) (Iv.mk p16 p17))):M3) ((M3.mk (V3.mk (Iv.mk q0 q1) (Iv.mk q2 q3) (Iv.mk q4 q5)) (V3.mk (Iv.mk q6 q7) (Iv.mk q8 q9) (Iv.mk q10 q11)) (V3.mk (Iv.mk q12 q13) (Iv.mk q14 q15) (Iv.mk q16 q17))):M3))) w) :=
 qH (x:=.a (m3C (M3.mul ((M3.mk (V3.mk (Iv.mk p0 p1) (Iv.mk p2 p3) (Iv.mk p4 p5)) (V3.mk (Iv.mk p6 p7) (Iv.mk p8 p9) (Iv.mk p10 p11)) (V3.mk (Iv.mk p12 p13) (Iv.mk p14 p15) (Iv.mk p16 p17))):M3) ((M3.mk (V3.mk (Iv.mk q0 q1) (Iv.mk q2 q3) (Iv.mk q4 q5)) (V3.mk (Iv.mk q6 q7) (Iv.mk q8 q9) (Iv.mk q10 q11)) (V3.mk (Iv.mk q12 q13) (Iv.mk q14 q15) (Iv.mk q16 q17))):M3)))) (qX (N:=60) (ps:=[.a [.n .i64 p0,.n .i64 p1,.n .i64 p2,.n .i64 p3,.n .i64 p4,.n .i64 p5,.n .i64 p6,.n .i64 p7,.n .i64 p8,.n .i64 p9,.n .i64 p10,.n .i64 p11,.n .i64 p12,.n .i64 p13,.n .i64 p14,.n .i64 p15,.n .i64 p16,.n .i64 p17],.a [.n .i64 q0,.n .i64 q1,.n .i64 q2,.n .i64 q3,.n .i64 q4,.n .i64 q5,.n .i64 q6,.n .i64 q7,.n .i64 q8,.n .i64 q9,.n .i64 q10,.n .i64 q11,.n .i64 q12,.n .i64 q13,.n .i64 q14,.n .i64 q15,.n .i64 q16,.n .i64 q17]]) yY yQ (OrL.ok (l:=yWB) zKB) ((by kernel_rfl:_=some (.v (.a [.n .i64 (max (-65536) (min (Iv.add (Iv.add (Iv.mul (Iv.mk p0 p1) (Iv.mk q0 q1)) (Iv.mul (Iv.mk p2 p3) (Iv.mk q6 q7))) (Iv.mul (Iv.mk p4 p5) (Iv.mk q12 q13))).lo 65536)),.n .i64 (max (-65536) (min (Iv.add (Iv.add (Iv.mul (Iv.mk p0 p1) (Iv.mk q0 q1)) (Iv.mul (Iv.mk p2 p3) (Iv.mk q6 q7))) (Iv.mul (Iv.mk p4 p5) (Iv.mk q12 q13))).hi 65536)),.n .i64 (max (-65536) (min (Iv.add (Iv.add (Iv.mul (Iv.mk p0 p1) (Iv.mk q2 q3)) (Iv.mul (Iv.mk p2 p3) (Iv.mk q8 q9))) (Iv.mul (Iv.mk p4 p5) (Iv.mk q14 q15))).lo 65536)),.n .i64 (max (-65536) (min (Iv.add (Iv.add (Iv.mul (Iv.mk p0 p1) (Iv.mk q2 q3)) (Iv.mul (Iv.mk p2 p3) (Iv.mk q8 q9))) (Iv.mul (Iv.mk p4 p5) (Iv.mk q14 q15))).hi 65536)),.n .i64 (max (-65536) (min (Iv.add (Iv.add (Iv.mul (Iv.mk p0 p1) (Iv.mk q4 q5)) (Iv.mul (Iv.mk p2 p3) (Iv.mk q10 q11))) (Iv.mul (Iv.mk p4 p5) (Iv.mk q16 q17))).lo 65536)),.n .i64 (max (-65536) (min (Iv.add (Iv.add (Iv.mul (Iv.mk p0 p1) (Iv.mk q4 q5)) (Iv.mul (Iv.mk p2 p3) (Iv.mk q10 q11))) (Iv.mul (Iv.mk p4 p5) (Iv.mk q16 q17))).hi 65536)),.n .i64 (max (-65536) (min (Iv.add (Iv.add (Iv.mul (Iv.mk p6 p7) (Iv.mk q0 q1)) (Iv.mul (Iv.mk p8 p9) (Iv.mk q6 q7))) (Iv.mul (Iv.mk p10 p11) (Iv.mk q12 q13))).lo 65536)),.n .i64 (max (-65536) (min (Iv.add (Iv.add (Iv.mul (Iv.mk p6 p7) (Iv.mk q0 q1)) (Iv.mul (Iv.mk p8 p9) (Iv.mk q6 q7))) (Iv.mul (Iv.mk p10 p11) (Iv.mk q12 q13))).hi 65536)),.n .i64 (max (-65536) (min (Iv.add (Iv.add (Iv.mul (Iv.mk p6 p7) (Iv.mk q2 q3)) (Iv.mul (Iv.mk p8 p9) (Iv.mk q8 q9))) (Iv.mul (Iv.mk p10 p11) (Iv.mk q14 q15))).lo 65536)),.n .i64 (max (-65536) (min (Iv.add (Iv.add (Iv.mul (Iv.mk p6 p7) (Iv.mk q2 q3)) (Iv.mul (Iv.mk p8 p9) (Iv.mk q8 q9))) (Iv.mul (Iv.mk p10 p11) (Iv.mk q14 q15))).hi 65536)),.n .i64 (max (-65536) (min (Iv.add (Iv.add (Iv.mul (Iv.mk p6 p7) (Iv.mk q4 q5)) (Iv.mul (Iv.mk p8 p9) (Iv.mk q10 q11))) (Iv.mul (Iv.mk p10 p11) (Iv.mk q16 q17))).lo 65536)),.n .i64 (max (-65536) (min (Iv.add (Iv.add (Iv.mul (Iv.mk p6 p7) (Iv.mk q4 q5)) (Iv.mul (Iv.mk p8 p9) (Iv.mk q10 q11))) (Iv.mul (Iv.mk p10 p11) (Iv.mk q16 q17))).hi 65536)),.n .i64 (max (-65536) (min (Iv.add (Iv.add (Iv.mul (Iv.mk p12 p13) (Iv.mk q0 q1)) (Iv.mul (Iv.mk p14 p15) (Iv.mk q6 q7))) (Iv.mul (Iv.mk p16 p17) (Iv.mk q12 q13))).lo 65536)),.n .i64 (max (-65536) (min (Iv.add (Iv.add (Iv.mul (Iv.mk p12 p13) (Iv.mk q0 q1)) (Iv.mul (Iv.mk p14 p15) (Iv.mk q6 q7))) (Iv.mul (Iv.mk p16 p17) (Iv.mk q12 q13))).hi 65536)),.n .i64 (max (-65536) (min (Iv.add (Iv.add (Iv.mul (Iv.mk p12 p13) (Iv.mk q2 q3)) (Iv.mul (Iv.mk p14 p15) (Iv.mk q8 q9))) (Iv.mul (Iv.mk p16 p17) (Iv.mk q14 q15))).lo 65536)),.n .i64 (max (-65536) (min (Iv.add (Iv.add (Iv.mul (Iv.mk p12 p13) (Iv.mk q2 q3)) (Iv.mul (Iv.mk p14 p15) (Iv.mk q8 q9))) (Iv.mul (Iv.mk p16 p17) (Iv.mk q14 q15))).hi 65536)),.n .i64 (max (-65536) (min (Iv.add (Iv.add (Iv.mul (Iv.mk p12 p13) (Iv.mk q4 q5)) (Iv.mul (Iv.mk p14 p15) (Iv.mk q10 q11))) (Iv.mul (Iv.mk p16 p17) (Iv.mk q16 q17))).lo 65536)),.n .i64 (max (-65536) (min (Iv.add (Iv.add (Iv.mul (Iv.mk p12 p13) (Iv.mk q4 q5)) (Iv.mul (Iv.mk p14 p15) (Iv.mk q10 q11))) (Iv.mul (Iv.mk p16 p17) (Iv.mk q16 q17))).hi 65536))]),[])).trans (by simp only [lim_ref]; rfl))) rfl rfl w
set_option maxRecDepth 100000 in
theorem mApply (p0 p1 p2 p3 p4 p5 p6 p7 p8 p9 p10 p11 p12 p13 p14 p15 p16 p17:Int) (q0 q1 q2 q3 q4 q5:Int) (w:World):Calls Tryz.prog 118 [.agg #[.int .i64 p0,.int .i64 p1,.int .i64 p2,.int .i64 p3,.int .i64 p4,.int .i64 p5,.int .i64 p6,.int .i64 p7,.int .i64 p8,.int .i64 p9,.int .i64 p10,.int .i64 p11,.int .i64 p12,.int .i64 p13,.int .i64 p14,.int .i64 p15,.int .i64 p16,.int .i64 p17],.agg #[.int .i64 q0,.int .i64 q1,.int .i64 q2,.int .i64 q3,.int .i64 q4,.int .i64 q5]].toArray w (Rets (v3 (M3.apply ((M3.mk (V3.mk (Iv.mk p0 p1) (Iv.mk p2 p3) (Iv.mk p4 p5)) (V3.mk (Iv.mk p6 p7) (Iv.mk p8 p9) (Iv.mk p10 p11)) (V3.mk (Iv.mk p12 p13) (Iv.mk p14 p15) (Iv.mk p16 p17))):M3) ((V3.mk (Iv.mk q0 q1) (Iv.mk q2 q3) (Iv.mk q4 q5)):V3))) w) :=
 qH (x:=.a (v3C (M3.apply ((M3.mk (V3.mk (Iv.mk p0 p1) (Iv.mk p2 p3) (Iv.mk p4 p5)) (V3.mk (Iv.mk p6 p7) (Iv.mk p8 p9) (Iv.mk p10 p11)) (V3.mk (Iv.mk p12 p13) (Iv.mk p14 p15) (Iv.mk p16 p17))):M3) ((V3.mk (Iv.mk q0 q1) (Iv.mk q2 q3) (Iv.mk q4 q5)):V3)))) (qX (N:=60) (ps:=[.a [.n .i64 p0,.n .i64 p1,.n .i64 p2,.n .i64 p3,.n .i64 p4,.n .i64 p5,.n .i64 p6,.n .i64 p7,.n .i64 p8,.n .i64 p9,.n .i64 p10,.n .i64 p11,.n .i64 p12,.n .i64 p13,.n .i64 p14,.n .i64 p15,.n .i64 p16,.n .i64 p17],.a [.n .i64 q0,.n .i64 q1,.n .i64 q2,.n .i64 q3,.n .i64 q4,.n .i64 q5]]) yY yQ (OrL.ok (l:=yWB) zKB) ((by kernel_rfl:_=some (.v (.a [.n .i64 (Iv.add (Iv.add (Iv.add (Iv.mk 0 0) (Iv.mul (Iv.mk p0 p1) (Iv.mk q0 q1))) (Iv.mul (Iv.mk p2 p3) (Iv.mk q2 q3))) (Iv.mul (Iv.mk p4 p5) (Iv.mk q4 q5))).lo,.n .i64 (Iv.add (Iv.add (Iv.add (Iv.mk 0 0) (Iv.mul (Iv.mk p0 p1) (Iv.mk q0 q1))) (Iv.mul (Iv.mk p2 p3) (Iv.mk q2 q3))) (Iv.mul (Iv.mk p4 p5) (Iv.mk q4 q5))).hi,.n .i64 (Iv.add (Iv.add (Iv.add (Iv.mk 0 0) (Iv.mul (Iv.mk p6 p7) (Iv.mk q0 q1))) (Iv.mul (Iv.mk p8 p9) (Iv.mk q2 q3))) (Iv.mul (Iv.mk p10 p11) (Iv.mk q4 q5))).lo,.n .i64 (Iv.add (Iv.add (Iv.add (Iv.mk 0 0) (Iv.mul (Iv.mk p6 p7) (Iv.mk q0 q1))) (Iv.mul (Iv.mk p8 p9) (Iv.mk q2 q3))) (Iv.mul (Iv.mk p10 p11) (Iv.mk q4 q5))).hi,.n .i64 (Iv.add (Iv.add (Iv.add (Iv.mk 0 0) (Iv.mul (Iv.mk p12 p13) (Iv.mk q0 q1))) (Iv.mul (Iv.mk p14 p15) (Iv.mk q2 q3))) (Iv.mul (Iv.mk p16 p17) (Iv.mk q4 q5))).lo,.n .i64 (Iv.add (Iv.add (Iv.add (Iv.mk 0 0) (Iv.mul (Iv.mk p12 p13) (Iv.mk q0 q1))) (Iv.mul (Iv.mk p14 p15) (Iv.mk q2 q3))) (Iv.mul (Iv.mk p16 p17) (Iv.mk q4 q5))).hi]),[])).trans (by simp only [add_zero_mul]; rfl))) rfl rfl w
set_option maxRecDepth 100000 in
theorem rApply (p0 p1 p2 p3 p4 p5 p6 p7 p8 p9 p10 p11 p12 p13 p14 p15 p16 p17:Int) (q0 q1 q2 q3 q4 q5:Int) (w:World):Calls Tryz.prog 75 [.agg #[.int .i64 p0,.int .i64 p1,.int .i64 p2,.int .i64 p3,.int .i64 p4,.int .i64 p5,.int .i64 p6,.int .i64 p7,.int .i64 p8,.int .i64 p9,.int .i64 p10,.int .i64 p11,.int .i64 p12,.int .i64 p13,.int .i64 p14,.int .i64 p15,.int .i64 p16,.int .i64 p17],.agg #[.int .i64 q0,.int .i64 q1,.int .i64 q2,.int .i64 q3,.int .i64 q4,.int .i64 q5]].toArray w (Rets (v3 (M3.apply ((M3.mk (V3.mk (Iv.mk p0 p1) (Iv.mk p2 p3) (Iv.mk p4 p5)) (V3.mk (Iv.mk p6 p7) (Iv.mk p8 p9) (Iv.mk p10 p11)) (V3.mk (Iv.mk p12 p13) (Iv.mk p14 p15) (Iv.mk p16 p17))):M3) ((V3.mk (Iv.mk q0 q1) (Iv.mk q2 q3) (Iv.mk q4 q5)):V3))) w) :=
 qH (x:=.a (v3C (M3.apply ((M3.mk (V3.mk (Iv.mk p0 p1) (Iv.mk p2 p3) (Iv.mk p4 p5)) (V3.mk (Iv.mk p6 p7) (Iv.mk p8 p9) (Iv.mk p10 p11)) (V3.mk (Iv.mk p12 p13) (Iv.mk p14 p15) (Iv.mk p16 p17))):M3) ((V3.mk (Iv.mk q0 q1) (Iv.mk q2 q3) (Iv.mk q4 q5)):V3)))) (qX (N:=60) (ps:=[.a [.n .i64 p0,.n .i64 p1,.n .i64 p2,.n .i64 p3,.n .i64 p4,.n .i64 p5,.n .i64 p6,.n .i64 p7,.n .i64 p8,.n .i64 p9,.n .i64 p10,.n .i64 p11,.n .i64 p12,.n .i64 p13,.n .i64 p14,.n .i64 p15,.n .i64 p16,.n .i64 p17],.a [.n .i64 q0,.n .i64 q1,.n .i64 q2,.n .i64 q3,.n .i64 q4,.n .i64 q5]]) yY yQ (OrL.ok (l:=yWB) zKB) ((by kernel_rfl:_=some (.v (.a [.n .i64 (Iv.add (Iv.add (Iv.mul (Iv.mk p0 p1) (Iv.mk q0 q1)) (Iv.mul (Iv.mk p2 p3) (Iv.mk q2 q3))) (Iv.mul (Iv.mk p4 p5) (Iv.mk q4 q5))).lo,.n .i64 (Iv.add (Iv.add (Iv.mul (Iv.mk p0 p1) (Iv.mk q0 q1)) (Iv.mul (Iv.mk p2 p3) (Iv.mk q2 q3))) (Iv.mul (Iv.mk p4 p5) (Iv.mk q4 q5))).hi,.n .i64 (Iv.add (Iv.add (Iv.mul (Iv.mk p6 p7) (Iv.mk q0 q1)) (Iv.mul (Iv.mk p8 p9) (Iv.mk q2 q3))) (Iv.mul (Iv.mk p10 p11) (Iv.mk q4 q5))).lo,.n .i64 (Iv.add (Iv.add (Iv.mul (Iv.mk p6 p7) (Iv.mk q0 q1)) (Iv.mul (Iv.mk p8 p9) (Iv.mk q2 q3))) (Iv.mul (Iv.mk p10 p11) (Iv.mk q4 q5))).hi,.n .i64 (Iv.add (Iv.add (Iv.mul (Iv.mk p12 p13) (Iv.mk q0 q1)) (Iv.mul (Iv.mk p14 p15) (Iv.mk q2 q3))) (Iv.mul (Iv.mk p16 p17) (Iv.mk q4 q5))).lo,.n .i64 (Iv.add (Iv.add (Iv.mul (Iv.mk p12 p13) (Iv.mk q0 q1)) (Iv.mul (Iv.mk p14 p15) (Iv.mk q2 q3))) (Iv.mul (Iv.mk p16 p17) (Iv.mk q4 q5))).hi]),[])).trans (by rfl))) rfl rfl w
end Go.Proofs.YtfcofnclgajfeaaGreat
namespace Go.Proofs.YtfcofnclgajfeaaGreat
open Go.Sx Go.Rx Rt Go.RowKit
namespace Tp
end Tp
open Tp
theorem yWL:qYQ Tryz.prog 115 (.agg #[.int .i64 0,.int .i64 0,.int .i64 0,.int .i64 0,.int .i64 0,.int .i64 0,.int .i64 0,.int .i64 0,.int .i64 0,.int .i64 0,.int .i64 0,.int .i64 0,.int .i64 0,.int .i64 0,.int .i64 0,.int .i64 0,.int .i64 0,.int .i64 0,.int .i64 0,.int .i64 0,.int .i64 0,.int .i64 0,.int .i64 0,.int .i64 0]):=by unfold qYQ; kernel_rfl
theorem zWZ:tyB Tryz.prog 115 true 24=true:=by kernel_rfl
namespace Tp
noncomputable def qHJ:List PV→Option (Bool × Ret):=fun ps=>match ps with
 | []=>some (true,.v (.a (m3C (M3.unit))))
 | _=>none
theorem ok_mIdentity:zY Tryz.prog 145 qHJ:=by
 intro ps r h;unfold qHJ at h;split at h
 ·simp only [vQZ,vQY] at h;obtain ⟨hg,rfl⟩:=h;exact qJ (qU Tryz.func145 (by kernel_rfl) (by kernel_rfl)) rfl rfl (fun w=>mIdentity  w)
 ·cases h
noncomputable def LTp1:OrL:=(145,qHJ) :: ([]:OrL)
theorem LTp1_ok:AllP (fun x:Nat × (List PV→Option (Bool × Ret))=>zY Tryz.prog x.1 x.2) LTp1:=⟨ok_mIdentity,trivial⟩
noncomputable def yYU:List PV→Option (Bool × Ret):=fun ps=>match ps with
 | [.n .i64 k,.a a']=>(ivD a').bind fun a=>some (true,.v (.a (m3C (M3.turn k a))))
 | _=>none
theorem ok_mTurn:zY Tryz.prog 164 yYU:=by
 intro ps r h;unfold yYU at h;split at h
 ·simp only [vQQ,vQZ,vQY] at h;obtain ⟨a,ha,hg,rfl⟩:=h;rw [uK ha];exact qJ (qU Tryz.func164 (by kernel_rfl) (by kernel_rfl)) rfl rfl (fun w=>mTurn _ _ _ w)
 ·cases h
noncomputable def LTp2:OrL:=(164,yYU) :: LTp1
theorem LTp2_ok:AllP (fun x:Nat × (List PV→Option (Bool × Ret))=>zY Tryz.prog x.1 x.2) LTp2:=⟨ok_mTurn,LTp1_ok⟩
noncomputable def zYA:List PV→Option (Bool × Ret):=fun ps=>match ps with
 | [.a m',.a n']=>(m3D m').bind fun m=>(m3D n').bind fun n=>some (true,.v (.a (m3C (M3.mul m n))))
 | _=>none
theorem ok_mCompose:zY Tryz.prog 137 zYA:=by
 intro ps r h;unfold zYA at h;split at h
 ·simp only [vQQ,vQZ,vQY] at h;obtain ⟨m,hm,n,hn,hg,rfl⟩:=h;rw [zJA hm];rw [zJA hn];exact qJ (qU Tryz.func137 (by kernel_rfl) (by kernel_rfl)) rfl rfl (fun w=>mCompose _ _ _ _ _ _ _ _ _ _ _ _ _ _ _ _ _ _ _ _ _ _ _ _ _ _ _ _ _ _ _ _ _ _ _ _ w)
 ·cases h
noncomputable def LTp3:OrL:=(137,zYA) :: LTp2
theorem LTp3_ok:AllP (fun x:Nat × (List PV→Option (Bool × Ret))=>zY Tryz.prog x.1 x.2) LTp3:=⟨ok_mCompose,LTp2_ok⟩
noncomputable def qWG:List PV→Option (Bool × Ret):=fun ps=>match ps with
 | [.a m',.a v']=>(m3D m').bind fun m=>(v3D v').bind fun v=>some (true,.v (.a (v3C (M3.apply m v))))
 | _=>none
theorem zUD:zY Tryz.prog 118 qWG:=by
 intro ps r h;unfold qWG at h;split at h
 ·simp only [vQQ,vQZ,vQY] at h;obtain ⟨m,hm,v,hv,hg,rfl⟩:=h;rw [zJA hm];rw [qUI hv];exact qJ (qU Tryz.func118 (by kernel_rfl) (by kernel_rfl)) rfl rfl (fun w=>mApply _ _ _ _ _ _ _ _ _ _ _ _ _ _ _ _ _ _ _ _ _ _ _ _ w)
 ·cases h
noncomputable def LTp4:OrL:=(118,qWG) :: LTp3
theorem LTp4_ok:AllP (fun x:Nat × (List PV→Option (Bool × Ret))=>zY Tryz.prog x.1 x.2) LTp4:=⟨zUD,LTp3_ok⟩
noncomputable def yXW:List PV→Option (Bool × Ret):=fun ps=>match ps with
 | [.a v',.a w']=>(v3D v').bind fun v=>(v3D w').bind fun w=>some (true,.v (.a (v3C (V3.add v w))))
 | _=>none
theorem ok_mAdd:zY Tryz.prog 150 yXW:=by
 intro ps r h;unfold yXW at h;split at h
 ·simp only [vQQ,vQZ,vQY] at h;obtain ⟨v,hv,w,hw,hg,rfl⟩:=h;rw [qUI hv];rw [qUI hw];exact qJ (qU Tryz.func150 (by kernel_rfl) (by kernel_rfl)) rfl rfl (fun w=>mAdd _ _ _ _ _ _ _ _ _ _ _ _ w)
 ·cases h
noncomputable def LTp5:OrL:=(150,yXW) :: LTp4
theorem LTp5_ok:AllP (fun x:Nat × (List PV→Option (Bool × Ret))=>zY Tryz.prog x.1 x.2) LTp5:=⟨ok_mAdd,LTp4_ok⟩
noncomputable def yZF:List PV→Option (Bool × Ret):=fun ps=>match ps with
 | []=>some (true,.v (.a (m3C (M3.unit))))
 | _=>none
theorem ok_rUnit:zY Tryz.prog 143 yZF:=by
 intro ps r h;unfold yZF at h;split at h
 ·simp only [vQZ,vQY] at h;obtain ⟨hg,rfl⟩:=h;exact qJ (qU Tryz.func143 (by kernel_rfl) (by kernel_rfl)) rfl rfl (fun w=>rUnit  w)
 ·cases h
noncomputable def LTp6:OrL:=(143,yZF) :: LTp5
theorem LTp6_ok:AllP (fun x:Nat × (List PV→Option (Bool × Ret))=>zY Tryz.prog x.1 x.2) LTp6:=⟨ok_rUnit,LTp5_ok⟩
noncomputable def yZI:List PV→Option (Bool × Ret):=fun ps=>match ps with
 | [.n .i64 k,.a a']=>(ivD a').bind fun a=>some (true,.v (.a (m3C (M3.turn k a))))
 | _=>none
theorem ok_rTurn:zY Tryz.prog 144 yZI:=by
 intro ps r h;unfold yZI at h;split at h
 ·simp only [vQQ,vQZ,vQY] at h;obtain ⟨a,ha,hg,rfl⟩:=h;rw [uK ha];exact qJ (qU Tryz.func144 (by kernel_rfl) (by kernel_rfl)) rfl rfl (fun w=>rTurn _ _ _ w)
 ·cases h
noncomputable def LTp7:OrL:=(144,yZI) :: LTp6
theorem LTp7_ok:AllP (fun x:Nat × (List PV→Option (Bool × Ret))=>zY Tryz.prog x.1 x.2) LTp7:=⟨ok_rTurn,LTp6_ok⟩
noncomputable def zYV:List PV→Option (Bool × Ret):=fun ps=>match ps with
 | [.a m',.a n']=>(m3D m').bind fun m=>(m3D n').bind fun n=>some (true,.v (.a (m3C (M3.mul m n))))
 | _=>none
theorem ok_rCompose:zY Tryz.prog 128 zYV:=by
 intro ps r h;unfold zYV at h;split at h
 ·simp only [vQQ,vQZ,vQY] at h;obtain ⟨m,hm,n,hn,hg,rfl⟩:=h;rw [zJA hm];rw [zJA hn];exact qJ (qU Tryz.func128 (by kernel_rfl) (by kernel_rfl)) rfl rfl (fun w=>rCompose _ _ _ _ _ _ _ _ _ _ _ _ _ _ _ _ _ _ _ _ _ _ _ _ _ _ _ _ _ _ _ _ _ _ _ _ w)
 ·cases h
noncomputable def LTp8:OrL:=(128,zYV) :: LTp7
theorem LTp8_ok:AllP (fun x:Nat × (List PV→Option (Bool × Ret))=>zY Tryz.prog x.1 x.2) LTp8:=⟨ok_rCompose,LTp7_ok⟩
noncomputable def qWX:List PV→Option (Bool × Ret):=fun ps=>match ps with
 | [.a m',.a v']=>(m3D m').bind fun m=>(v3D v').bind fun v=>some (true,.v (.a (v3C (M3.apply m v))))
 | _=>none
theorem zUA:zY Tryz.prog 75 qWX:=by
 intro ps r h;unfold qWX at h;split at h
 ·simp only [vQQ,vQZ,vQY] at h;obtain ⟨m,hm,v,hv,hg,rfl⟩:=h;rw [zJA hm];rw [qUI hv];exact qJ (qU Tryz.func75 (by kernel_rfl) (by kernel_rfl)) rfl rfl (fun w=>rApply _ _ _ _ _ _ _ _ _ _ _ _ _ _ _ _ _ _ _ _ _ _ _ _ w)
 ·cases h
noncomputable def LTp9:OrL:=(75,qWX) :: LTp8
theorem LTp9_ok:AllP (fun x:Nat × (List PV→Option (Bool × Ret))=>zY Tryz.prog x.1 x.2) LTp9:=⟨zUA,LTp8_ok⟩
noncomputable def zXQ:List PV→Option (Bool × Ret):=fun ps=>match ps with
 | [.a v',.a w']=>(v3D v').bind fun v=>(v3D w').bind fun w=>some (true,.v (.a (v3C (V3.add v w))))
 | _=>none
theorem ok_rAddVec:zY Tryz.prog 103 zXQ:=by
 intro ps r h;unfold zXQ at h;split at h
 ·simp only [vQQ,vQZ,vQY] at h;obtain ⟨v,hv,w,hw,hg,rfl⟩:=h;rw [qUI hv];rw [qUI hw];exact qJ (qU Tryz.func103 (by kernel_rfl) (by kernel_rfl)) rfl rfl (fun w=>rAddVec _ _ _ _ _ _ _ _ _ _ _ _ w)
 ·cases h
noncomputable def zXF:OrL:=(103,zXQ) :: LTp9
theorem qJD:AllP (fun x:Nat × (List PV→Option (Bool × Ret))=>zY Tryz.prog x.1 x.2) zXF:=⟨ok_rAddVec,LTp9_ok⟩
end Tp
set_option maxRecDepth 100000 in
theorem pShift (va0 va1 va2 va3 va4 va5:Int) (w:World):Calls Tryz.prog 134 [.agg #[.int .i64 va0,.int .i64 va1,.int .i64 va2,.int .i64 va3,.int .i64 va4,.int .i64 va5]].toArray w (Rets (po (Po.shift (⟨⟨va0,va1⟩,⟨va2,va3⟩,⟨va4,va5⟩⟩:V3))) (w)) :=
 qH (x:=.a (poC (Po.shift (⟨⟨va0,va1⟩,⟨va2,va3⟩,⟨va4,va5⟩⟩:V3)))) (qX (N:=60) (ps:=[.a (ivs [⟨va0,va1⟩,⟨va2,va3⟩,⟨va4,va5⟩])]) yY yQ (OrL.ok (l:=zXF) qJD) (by kernel_rfl)) rfl rfl w
set_option maxRecDepth 100000 in
theorem pIdentity  (w:World):Calls Tryz.prog 158 [].toArray w (Rets (po (Po.rest)) (w)) :=
 qH (x:=.a (poC Po.rest)) (qX (N:=60) (ps:=[]) yY yQ (OrL.ok (l:=zXF) qJD) (by kernel_rfl)) rfl rfl w
set_option maxRecDepth 100000 in
theorem pTurn (axis:Int) (a0 a1:Int) (w:World):Calls Tryz.prog 157 [.int .i64 axis,.agg #[.int .i64 a0,.int .i64 a1]].toArray w (Rets (po (Po.turn axis (⟨a0,a1⟩:Iv))) (w)) :=
 qH (x:=.a (poC (Po.turn axis ⟨a0,a1⟩))) (qX (N:=60) (ps:=[.n .i64 axis,.a [.n .i64 a0,.n .i64 a1]]) yY yQ (OrL.ok (l:=zXF) qJD) (by kernel_rfl)) rfl rfl w
set_option maxRecDepth 100000 in
theorem pCompose (pa0 pa1 pa2 pa3 pa4 pa5 pa6 pa7 pa8 pa9 pa10 pa11 pa12 pa13 pa14 pa15 pa16 pa17 pa18 pa19 pa20 pa21 pa22 pa23:Int) (qa0 qa1 qa2 qa3 qa4 qa5 qa6 qa7 qa8 qa9 qa10 qa11 qa12 qa13 qa14 qa15 qa16 qa17 qa18 qa19 qa20 qa21 qa22 qa23:Int) (w:World):Calls Tryz.prog 117 [.agg #[.int .i64 pa0,.int .i64 pa1,.int .i64 pa2,.int .i64 pa3,.int .i64 pa4,.int .i64 pa5,.int .i64 pa6,.int .i64 pa7,.int .i64 pa8,.int .i64 pa9,.int .i64 pa10,.int .i64 pa11,.int .i64 pa12,.int .i64 pa13,.int .i64 pa14,.int .i64 pa15,.int .i64 pa16,.int .i64 pa17,.int .i64 pa18,.int .i64 pa19,.int .i64 pa20,.int .i64 pa21,.int .i64 pa22,.int .i64 pa23],.agg #[.int .i64 qa0,.int .i64 qa1,.int .i64 qa2,.int .i64 qa3,.int .i64 qa4,.int .i64 qa5,.int .i64 qa6,.int .i64 qa7,.int .i64 qa8,.int .i64 qa9,.int .i64 qa10,.int .i64 qa11,.int .i64 qa12,.int .i64 qa13,.int .i64 qa14,.int .i64 qa15,.int .i64 qa16,.int .i64 qa17,.int .i64 qa18,.int .i64 qa19,.int .i64 qa20,.int .i64 qa21,.int .i64 qa22,.int .i64 qa23]].toArray w (Rets (po (Po.mul (⟨⟨⟨⟨pa0,pa1⟩,⟨pa2,pa3⟩,⟨pa4,pa5⟩⟩,⟨⟨pa6,pa7⟩,⟨pa8,pa9⟩,⟨pa10,pa11⟩⟩,⟨⟨pa12,pa13⟩,⟨pa14,pa15⟩,⟨pa16,pa17⟩⟩⟩,⟨⟨pa18,pa19⟩,⟨pa20,pa21⟩,⟨pa22,pa23⟩⟩⟩:Po) (⟨⟨⟨⟨qa0,qa1⟩,⟨qa2,qa3⟩,⟨qa4,qa5⟩⟩,⟨⟨qa6,qa7⟩,⟨qa8,qa9⟩,⟨qa10,qa11⟩⟩,⟨⟨qa12,qa13⟩,⟨qa14,qa15⟩,⟨qa16,qa17⟩⟩⟩,⟨⟨qa18,qa19⟩,⟨qa20,qa21⟩,⟨qa22,qa23⟩⟩⟩:Po))) (w)) :=
 qH (x:=.a (poC (Po.mul (⟨(⟨⟨⟨pa0,pa1⟩,⟨pa2,pa3⟩,⟨pa4,pa5⟩⟩,⟨⟨pa6,pa7⟩,⟨pa8,pa9⟩,⟨pa10,pa11⟩⟩,⟨⟨pa12,pa13⟩,⟨pa14,pa15⟩,⟨pa16,pa17⟩⟩⟩:M3),⟨⟨pa18,pa19⟩,⟨pa20,pa21⟩,⟨pa22,pa23⟩⟩⟩:Po) (⟨(⟨⟨⟨qa0,qa1⟩,⟨qa2,qa3⟩,⟨qa4,qa5⟩⟩,⟨⟨qa6,qa7⟩,⟨qa8,qa9⟩,⟨qa10,qa11⟩⟩,⟨⟨qa12,qa13⟩,⟨qa14,qa15⟩,⟨qa16,qa17⟩⟩⟩:M3),⟨⟨qa18,qa19⟩,⟨qa20,qa21⟩,⟨qa22,qa23⟩⟩⟩:Po)))) (qX (N:=60) (ps:=[.a (ivs [⟨pa0,pa1⟩,⟨pa2,pa3⟩,⟨pa4,pa5⟩,⟨pa6,pa7⟩,⟨pa8,pa9⟩,⟨pa10,pa11⟩,⟨pa12,pa13⟩,⟨pa14,pa15⟩,⟨pa16,pa17⟩,⟨pa18,pa19⟩,⟨pa20,pa21⟩,⟨pa22,pa23⟩]),.a (ivs [⟨qa0,qa1⟩,⟨qa2,qa3⟩,⟨qa4,qa5⟩,⟨qa6,qa7⟩,⟨qa8,qa9⟩,⟨qa10,qa11⟩,⟨qa12,qa13⟩,⟨qa14,qa15⟩,⟨qa16,qa17⟩,⟨qa18,qa19⟩,⟨qa20,qa21⟩,⟨qa22,qa23⟩])]) yY yQ (OrL.ok (l:=zXF) qJD) (by kernel_rfl)) rfl rfl w
set_option maxRecDepth 100000 in
theorem pApply (pa0 pa1 pa2 pa3 pa4 pa5 pa6 pa7 pa8 pa9 pa10 pa11 pa12 pa13 pa14 pa15 pa16 pa17 pa18 pa19 pa20 pa21 pa22 pa23:Int) (va0 va1 va2 va3 va4 va5:Int) (w:World):Calls Tryz.prog 119 [.agg #[.int .i64 pa0,.int .i64 pa1,.int .i64 pa2,.int .i64 pa3,.int .i64 pa4,.int .i64 pa5,.int .i64 pa6,.int .i64 pa7,.int .i64 pa8,.int .i64 pa9,.int .i64 pa10,.int .i64 pa11,.int .i64 pa12,.int .i64 pa13,.int .i64 pa14,.int .i64 pa15,.int .i64 pa16,.int .i64 pa17,.int .i64 pa18,.int .i64 pa19,.int .i64 pa20,.int .i64 pa21,.int .i64 pa22,.int .i64 pa23],.agg #[.int .i64 va0,.int .i64 va1,.int .i64 va2,.int .i64 va3,.int .i64 va4,.int .i64 va5]].toArray w (Rets (v3 (Po.app (⟨⟨⟨⟨pa0,pa1⟩,⟨pa2,pa3⟩,⟨pa4,pa5⟩⟩,⟨⟨pa6,pa7⟩,⟨pa8,pa9⟩,⟨pa10,pa11⟩⟩,⟨⟨pa12,pa13⟩,⟨pa14,pa15⟩,⟨pa16,pa17⟩⟩⟩,⟨⟨pa18,pa19⟩,⟨pa20,pa21⟩,⟨pa22,pa23⟩⟩⟩:Po) (⟨⟨va0,va1⟩,⟨va2,va3⟩,⟨va4,va5⟩⟩:V3))) (w)) :=
 qH (x:=.a (v3C (Po.app (⟨(⟨⟨⟨pa0,pa1⟩,⟨pa2,pa3⟩,⟨pa4,pa5⟩⟩,⟨⟨pa6,pa7⟩,⟨pa8,pa9⟩,⟨pa10,pa11⟩⟩,⟨⟨pa12,pa13⟩,⟨pa14,pa15⟩,⟨pa16,pa17⟩⟩⟩:M3),⟨⟨pa18,pa19⟩,⟨pa20,pa21⟩,⟨pa22,pa23⟩⟩⟩:Po) (⟨⟨va0,va1⟩,⟨va2,va3⟩,⟨va4,va5⟩⟩:V3)))) (qX (N:=60) (ps:=[.a (ivs [⟨pa0,pa1⟩,⟨pa2,pa3⟩,⟨pa4,pa5⟩,⟨pa6,pa7⟩,⟨pa8,pa9⟩,⟨pa10,pa11⟩,⟨pa12,pa13⟩,⟨pa14,pa15⟩,⟨pa16,pa17⟩,⟨pa18,pa19⟩,⟨pa20,pa21⟩,⟨pa22,pa23⟩]),.a (ivs [⟨va0,va1⟩,⟨va2,va3⟩,⟨va4,va5⟩])]) yY yQ (OrL.ok (l:=zXF) qJD) (by kernel_rfl)) rfl rfl w
set_option maxRecDepth 100000 in
theorem qShift (va0 va1 va2 va3 va4 va5:Int) (w:World):Calls Tryz.prog 127 [.agg #[.int .i64 va0,.int .i64 va1,.int .i64 va2,.int .i64 va3,.int .i64 va4,.int .i64 va5]].toArray w (Rets (po (Po.shift (⟨⟨va0,va1⟩,⟨va2,va3⟩,⟨va4,va5⟩⟩:V3))) (w)) :=
 qH (x:=.a (poC (Po.shift (⟨⟨va0,va1⟩,⟨va2,va3⟩,⟨va4,va5⟩⟩:V3)))) (qX (N:=60) (ps:=[.a (ivs [⟨va0,va1⟩,⟨va2,va3⟩,⟨va4,va5⟩])]) yY yQ (OrL.ok (l:=zXF) qJD) (by kernel_rfl)) rfl rfl w
set_option maxRecDepth 100000 in
theorem qRest  (w:World):Calls Tryz.prog 125 [].toArray w (Rets (po (Po.rest)) (w)) :=
 qH (x:=.a (poC Po.rest)) (qX (N:=60) (ps:=[]) yY yQ (OrL.ok (l:=zXF) qJD) (by kernel_rfl)) rfl rfl w
set_option maxRecDepth 100000 in
theorem qTurn (axis:Int) (a0 a1:Int) (w:World):Calls Tryz.prog 126 [.int .i64 axis,.agg #[.int .i64 a0,.int .i64 a1]].toArray w (Rets (po (Po.turn axis (⟨a0,a1⟩:Iv))) (w)) :=
 qH (x:=.a (poC (Po.turn axis ⟨a0,a1⟩))) (qX (N:=60) (ps:=[.n .i64 axis,.a [.n .i64 a0,.n .i64 a1]]) yY yQ (OrL.ok (l:=zXF) qJD) (by kernel_rfl)) rfl rfl w
set_option maxRecDepth 100000 in
theorem qCompose (pa0 pa1 pa2 pa3 pa4 pa5 pa6 pa7 pa8 pa9 pa10 pa11 pa12 pa13 pa14 pa15 pa16 pa17 pa18 pa19 pa20 pa21 pa22 pa23:Int) (qa0 qa1 qa2 qa3 qa4 qa5 qa6 qa7 qa8 qa9 qa10 qa11 qa12 qa13 qa14 qa15 qa16 qa17 qa18 qa19 qa20 qa21 qa22 qa23:Int) (w:World):Calls Tryz.prog 101 [.agg #[.int .i64 pa0,.int .i64 pa1,.int .i64 pa2,.int .i64 pa3,.int .i64 pa4,.int .i64 pa5,.int .i64 pa6,.int .i64 pa7,.int .i64 pa8,.int .i64 pa9,.int .i64 pa10,.int .i64 pa11,.int .i64 pa12,.int .i64 pa13,.int .i64 pa14,.int .i64 pa15,.int .i64 pa16,.int .i64 pa17,.int .i64 pa18,.int .i64 pa19,.int .i64 pa20,.int .i64 pa21,.int .i64 pa22,.int .i64 pa23],.agg #[.int .i64 qa0,.int .i64 qa1,.int .i64 qa2,.int .i64 qa3,.int .i64 qa4,.int .i64 qa5,.int .i64 qa6,.int .i64 qa7,.int .i64 qa8,.int .i64 qa9,.int .i64 qa10,.int .i64 qa11,.int .i64 qa12,.int .i64 qa13,.int .i64 qa14,.int .i64 qa15,.int .i64 qa16,.int .i64 qa17,.int .i64 qa18,.int .i64 qa19,.int .i64 qa20,.int .i64 qa21,.int .i64 qa22,.int .i64 qa23]].toArray w (Rets (po (Po.mul (⟨⟨⟨⟨pa0,pa1⟩,⟨pa2,pa3⟩,⟨pa4,pa5⟩⟩,⟨⟨pa6,pa7⟩,⟨pa8,pa9⟩,⟨pa10,pa11⟩⟩,⟨⟨pa12,pa13⟩,⟨pa14,pa15⟩,⟨pa16,pa17⟩⟩⟩,⟨⟨pa18,pa19⟩,⟨pa20,pa21⟩,⟨pa22,pa23⟩⟩⟩:Po) (⟨⟨⟨⟨qa0,qa1⟩,⟨qa2,qa3⟩,⟨qa4,qa5⟩⟩,⟨⟨qa6,qa7⟩,⟨qa8,qa9⟩,⟨qa10,qa11⟩⟩,⟨⟨qa12,qa13⟩,⟨qa14,qa15⟩,⟨qa16,qa17⟩⟩⟩,⟨⟨qa18,qa19⟩,⟨qa20,qa21⟩,⟨qa22,qa23⟩⟩⟩:Po))) (w)) :=
 qH (x:=.a (poC (Po.mul (⟨(⟨⟨⟨pa0,pa1⟩,⟨pa2,pa3⟩,⟨pa4,pa5⟩⟩,⟨⟨pa6,pa7⟩,⟨pa8,pa9⟩,⟨pa10,pa11⟩⟩,⟨⟨pa12,pa13⟩,⟨pa14,pa15⟩,⟨pa16,pa17⟩⟩⟩:M3),⟨⟨pa18,pa19⟩,⟨pa20,pa21⟩,⟨pa22,pa23⟩⟩⟩:Po) (⟨(⟨⟨⟨qa0,qa1⟩,⟨qa2,qa3⟩,⟨qa4,qa5⟩⟩,⟨⟨qa6,qa7⟩,⟨qa8,qa9⟩,⟨qa10,qa11⟩⟩,⟨⟨qa12,qa13⟩,⟨qa14,qa15⟩,⟨qa16,qa17⟩⟩⟩:M3),⟨⟨qa18,qa19⟩,⟨qa20,qa21⟩,⟨qa22,qa23⟩⟩⟩:Po)))) (qX (N:=60) (ps:=[.a (ivs [⟨pa0,pa1⟩,⟨pa2,pa3⟩,⟨pa4,pa5⟩,⟨pa6,pa7⟩,⟨pa8,pa9⟩,⟨pa10,pa11⟩,⟨pa12,pa13⟩,⟨pa14,pa15⟩,⟨pa16,pa17⟩,⟨pa18,pa19⟩,⟨pa20,pa21⟩,⟨pa22,pa23⟩]),.a (ivs [⟨qa0,qa1⟩,⟨qa2,qa3⟩,⟨qa4,qa5⟩,⟨qa6,qa7⟩,⟨qa8,qa9⟩,⟨qa10,qa11⟩,⟨qa12,qa13⟩,⟨qa14,qa15⟩,⟨qa16,qa17⟩,⟨qa18,qa19⟩,⟨qa20,qa21⟩,⟨qa22,qa23⟩])]) yY yQ (OrL.ok (l:=zXF) qJD) (by kernel_rfl)) rfl rfl w
set_option maxRecDepth 100000 in
theorem qApply (pa0 pa1 pa2 pa3 pa4 pa5 pa6 pa7 pa8 pa9 pa10 pa11 pa12 pa13 pa14 pa15 pa16 pa17 pa18 pa19 pa20 pa21 pa22 pa23:Int) (va0 va1 va2 va3 va4 va5:Int) (w:World):Calls Tryz.prog 74 [.agg #[.int .i64 pa0,.int .i64 pa1,.int .i64 pa2,.int .i64 pa3,.int .i64 pa4,.int .i64 pa5,.int .i64 pa6,.int .i64 pa7,.int .i64 pa8,.int .i64 pa9,.int .i64 pa10,.int .i64 pa11,.int .i64 pa12,.int .i64 pa13,.int .i64 pa14,.int .i64 pa15,.int .i64 pa16,.int .i64 pa17,.int .i64 pa18,.int .i64 pa19,.int .i64 pa20,.int .i64 pa21,.int .i64 pa22,.int .i64 pa23],.agg #[.int .i64 va0,.int .i64 va1,.int .i64 va2,.int .i64 va3,.int .i64 va4,.int .i64 va5]].toArray w (Rets (v3 (Po.app (⟨⟨⟨⟨pa0,pa1⟩,⟨pa2,pa3⟩,⟨pa4,pa5⟩⟩,⟨⟨pa6,pa7⟩,⟨pa8,pa9⟩,⟨pa10,pa11⟩⟩,⟨⟨pa12,pa13⟩,⟨pa14,pa15⟩,⟨pa16,pa17⟩⟩⟩,⟨⟨pa18,pa19⟩,⟨pa20,pa21⟩,⟨pa22,pa23⟩⟩⟩:Po) (⟨⟨va0,va1⟩,⟨va2,va3⟩,⟨va4,va5⟩⟩:V3))) (w)) :=
 qH (x:=.a (v3C (Po.app (⟨(⟨⟨⟨pa0,pa1⟩,⟨pa2,pa3⟩,⟨pa4,pa5⟩⟩,⟨⟨pa6,pa7⟩,⟨pa8,pa9⟩,⟨pa10,pa11⟩⟩,⟨⟨pa12,pa13⟩,⟨pa14,pa15⟩,⟨pa16,pa17⟩⟩⟩:M3),⟨⟨pa18,pa19⟩,⟨pa20,pa21⟩,⟨pa22,pa23⟩⟩⟩:Po) (⟨⟨va0,va1⟩,⟨va2,va3⟩,⟨va4,va5⟩⟩:V3)))) (qX (N:=60) (ps:=[.a (ivs [⟨pa0,pa1⟩,⟨pa2,pa3⟩,⟨pa4,pa5⟩,⟨pa6,pa7⟩,⟨pa8,pa9⟩,⟨pa10,pa11⟩,⟨pa12,pa13⟩,⟨pa14,pa15⟩,⟨pa16,pa17⟩,⟨pa18,pa19⟩,⟨pa20,pa21⟩,⟨pa22,pa23⟩]),.a (ivs [⟨va0,va1⟩,⟨va2,va3⟩,⟨va4,va5⟩])]) yY yQ (OrL.ok (l:=zXF) qJD) (by kernel_rfl)) rfl rfl w
end Go.Proofs.YtfcofnclgajfeaaGreat
namespace Go.Proofs.YtfcofnclgajfeaaGreat
open Go.Sx
theorem ty3:tyB Tryz.prog 3 false 1=true:=by kernel_rfl
end Go.Proofs.YtfcofnclgajfeaaGreat
namespace Go.Proofs.YtfcofnclgajfeaaGreat
open Go.Sx
theorem ze64:qYQ Tryz.prog 64 (.agg #[.string ByteArray.empty,.int .i64 0,.int .i64 0,.int .i64 0,.int .i64 0,.int .i64 0,.int .i64 0,.int .i64 0,.int .i64 0,.int .i64 0,.int .i64 0,.int .i64 0]):=by unfold qYQ; kernel_rfl
theorem ty64:tyB Tryz.prog 64 true 12=true:=by kernel_rfl
theorem yKX:qGE Tryz.prog 64 2 2=true:=by kernel_rfl
end Go.Proofs.YtfcofnclgajfeaaGreat
namespace Go.Proofs.YtfcofnclgajfeaaGreat.Od
open Go.Rx Rt Go.Sx Go.RowKit
def andI (k:IntKind) (x y:Int):Int:=k.wrap ((BitVec.ofInt k.bits x &&& BitVec.ofInt k.bits y).toNat)
theorem uY {β γ:Type} {F:β→γ} {c:Bool} {a b:γ} {f g:β} (_:a=F f) (_:b=F g):(bif c then a else b)=F (bif c then f else g):=by cases c <;> assumption
def F_b:Bool→Option (Ret × Mem):=fun v=>some (.v (.b v),[])
def limK (k:Int):Int:=if k=1 ∨ k=2 ∨ k=3 then 524288 else if k=4 ∨ k=5 ∨ k=6 then 4194304 else 0
def jp (j:J):List PV:=[.s j.name,.n .i64 j.kind,.n .i64 j.parent,.n .i64 j.off.x,.n .i64 j.off.y,.n .i64 j.off.z,.n .i64 j.lo,.n .i64 j.hi,.n .i64 j.weight,.n .i64 j.speed,.n .i64 j.accel,.n .i64 j.torque]
def mp (m:Ms):List PV:=[.n .i64 m.link,.n .i64 m.mass,.n .i64 m.p.x,.n .i64 m.p.y,.n .i64 m.p.z]
def cp (c:Cn):List PV:=[.n .i64 c.kind,.n .i64 c.link,.n .i64 c.p.x,.n .i64 c.p.y,.n .i64 c.p.z,.n .i64 c.n.x,.n .i64 c.n.y,.n .i64 c.n.z,.n .i64 c.lo,.n .i64 c.hi]
theorem qGF {α:Type} {f:α→List PV} {g:α→List Value} (h:∀ x,(f x).map PV.val1=g x) (l:List α):qYC (l.map f)=l.map g:=by
 unfold qYC;rw [List.map_map];exact List.map_congr_left fun x _=>h x
theorem zGE {α:Type} {f:α→List PV} {sz:Nat} (h:∀ x,(Nat.beq (f x).length sz && (f x).all PV.flat1)=true) (l:List α):qKE sz (l.map f)=true:=by
 unfold qKE;rw [List.all_map,vZZ];exact fun x _=>h x
theorem rp_told {α:Type} {f:α→List PV} {g:α→List Value} {sz k c:Nat} {l:List α} {a:Option Addr} {F D:Nat→Prop} {G:World→Prop} {w:World} (hv:∀ x,(f x).map PV.val1=g x) (hf:∀ x,(Nat.beq (f x).length sz && (f x).all PV.flat1)=true) (hk:l.length=k) (hc:k≤c) (h0:0 < sz)
  (hd:qKV D G) (hG:G w) (hi:∀ w,G w→qYG sz a (l.map g) w) (hF:∀ k,D k→F k):RP F w (.l (l.map f)) (.slice a k c):=by
 have:=rp_of_slc (F:=F) (c:=c) (zGE hf l) (by rw [List.length_map,hk]; exact hc) (by rw [qGF hv]; exact hi w hG) (fun b off ha hne=>hF b (dep_mem hd hG hi h0 (fun e=>hne (by cases l with | nil=>rfl | cons x xs=>cases e)) b off ha))
 rw [List.length_map,hk] at this;exact this
theorem zVJ {α:Type} {f:α→List PV} {g:α→List Value} {sz k:Nat} {l:List α} {F:Nat→Prop} {w:World} {v:Value} (hv:∀ x,(f x).map PV.val1=g x) (hf:∀ x,(Nat.beq (f x).length sz && (f x).all PV.flat1)=true) (hk:l.length=k) (hF:∀ k,F k→k < w.heap.size) (h:RP F w (.l (l.map f)) v) :
  ∃ a c,v=.slice a k c∧k≤c∧qYG sz a (l.map g) w:=by
 obtain ⟨a,c,rfl,hc,hS,_⟩:=slc_of_rp (zGE hf l) hF h;rw [List.length_map,hk] at hc;exact ⟨a,c,by rw [List.length_map,hk],hc,by rw [qGF hv] at hS; exact hS⟩
theorem lks_len {js:List J} {bx:List Iv}:∀ k,k≤js.length→k≤bx.length→(lks js bx k).length=k
 | 0,_,_=>rfl
 | k + 1,h1,h2=>by
  have e1:js[k]? = some (js[k]'(by omega)):=vQK (by omega);have e2:bx[k]? = some (bx[k]'(by omega)):=vQK (by omega);simp only [lks,e1,e2,List.length_append,vQW,vQV];rw [lks_len k (by omega) (by omega)]
def F_n:Int→Option (Ret × Mem):=fun v=>some (.v (.n .i64 v),[])
def JF (i:Int) (j:J):Prop:=(0≤j.kind∧j.kind≤6)∧(-1≤j.parent∧j.parent < i)∧(-4194304≤j.off.x∧j.off.x≤4194304)∧(-4194304≤j.off.y∧j.off.y≤4194304)∧(-4194304≤j.off.z∧j.off.z≤4194304)∧(j.lo≤j.hi ∧ -limK j.kind≤j.lo∧j.hi≤limK j.kind) ∧
  (1≤j.weight∧j.weight≤1024)∧(1≤j.speed∧j.speed≤1048576)∧(1≤j.accel∧j.accel≤1048576)∧(1≤j.torque∧j.torque≤1099511627776)
def cjT {α:Type} (f:Int→α) (i:Int) (j:J):α:=(bif (decide (j.kind < 0)) then (f 803) else (bif (decide (6 < j.kind)) then (f 803) else (bif (decide (j.parent < (-1))) then (f 804) else (bif (decide (i≤j.parent)) then (f 804) else (bif (decide (j.off.x < (-4194304))) then (f 805) else (bif (decide (4194304 < j.off.x)) then (f 805) else (bif (decide (j.off.y < (-4194304))) then (f 805) else (bif (decide (4194304 < j.off.y)) then (f 805) else (bif (decide (j.off.z < (-4194304))) then (f 805) else (bif (decide (4194304 < j.off.z)) then (f 805) else (bif (decide (j.kind=0)) then (bif (decide (j.hi < j.lo)) then (f 806) else (bif (decide (j.lo < 0)) then (f 806) else (bif (decide (0 < j.hi)) then (f 806) else (bif (decide (1≤j.weight)) then (bif (decide (j.weight≤1024)) then (bif (decide (1≤j.speed)) then (bif (decide (j.speed≤1048576)) then (bif (decide (1≤j.accel)) then (bif (decide (j.accel≤1048576)) then (bif (decide (1≤j.torque)) then (bif (decide (j.torque≤1099511627776)) then (f 0) else (f 807)) else (f 807)) else (f 807)) else (f 807)) else (f 807)) else (f 807)) else (f 807)) else (f 807))))) else (bif (decide (j.kind=1)) then (bif (decide (j.hi < j.lo)) then (f 806) else (bif (decide (j.lo < (-524288))) then (f 806) else (bif (decide (524288 < j.hi)) then (f 806) else (bif (decide (1≤j.weight)) then (bif (decide (j.weight≤1024)) then (bif (decide (1≤j.speed)) then (bif (decide (j.speed≤1048576)) then (bif (decide (1≤j.accel)) then (bif (decide (j.accel≤1048576)) then (bif (decide (1≤j.torque)) then (bif (decide (j.torque≤1099511627776)) then (f 0) else (f 807)) else (f 807)) else (f 807)) else (f 807)) else (f 807)) else (f 807)) else (f 807)) else (f 807))))) else (bif (decide (j.kind=2)) then (bif (decide (j.hi < j.lo)) then (f 806) else (bif (decide (j.lo < (-524288))) then (f 806) else (bif (decide (524288 < j.hi)) then (f 806) else (bif (decide (1≤j.weight)) then (bif (decide (j.weight≤1024)) then (bif (decide (1≤j.speed)) then (bif (decide (j.speed≤1048576)) then (bif (decide (1≤j.accel)) then (bif (decide (j.accel≤1048576)) then (bif (decide (1≤j.torque)) then (bif (decide (j.torque≤1099511627776)) then (f 0) else (f 807)) else (f 807)) else (f 807)) else (f 807)) else (f 807)) else (f 807)) else (f 807)) else (f 807))))) else (bif (decide (j.kind=3)) then (bif (decide (j.hi < j.lo)) then (f 806) else (bif (decide (j.lo < (-524288))) then (f 806) else (bif (decide (524288 < j.hi)) then (f 806) else (bif (decide (1≤j.weight)) then (bif (decide (j.weight≤1024)) then (bif (decide (1≤j.speed)) then (bif (decide (j.speed≤1048576)) then (bif (decide (1≤j.accel)) then (bif (decide (j.accel≤1048576)) then (bif (decide (1≤j.torque)) then (bif (decide (j.torque≤1099511627776)) then (f 0) else (f 807)) else (f 807)) else (f 807)) else (f 807)) else (f 807)) else (f 807)) else (f 807)) else (f 807))))) else (bif (decide (j.hi < j.lo)) then (f 806) else (bif (decide (j.lo < (-4194304))) then (f 806) else (bif (decide (4194304 < j.hi)) then (f 806) else (bif (decide (1≤j.weight)) then (bif (decide (j.weight≤1024)) then (bif (decide (1≤j.speed)) then (bif (decide (j.speed≤1048576)) then (bif (decide (1≤j.accel)) then (bif (decide (j.accel≤1048576)) then (bif (decide (1≤j.torque)) then (bif (decide (j.torque≤1099511627776)) then (f 0) else (f 807)) else (f 807)) else (f 807)) else (f 807)) else (f 807)) else (f 807)) else (f 807)) else (f 807)))))))))))))))))))
noncomputable def qWW:List PV→Option (Bool × Ret):=fun ps=>match ps with
 | [.n .i64 n,.n .i64 k]=>some (decide (0 < k∧k≤9223372036854775807),.v (.n .i64 (n % k)))
 | _=>none
theorem zUB:zY Tryz.prog 9 qWW:=by
 intro ps r h;unfold qWW at h;split at h
 ·simp only [vQZ,vQY] at h;obtain ⟨hg,rfl⟩:=h;exact qJ (qU Tryz.func9 (by kernel_rfl) (by kernel_rfl)) rfl rfl (fun w=>mRound _ _ (vJZ hg) w)
 ·cases h
noncomputable def L1:OrL:=(9,qWW) :: ([]:OrL)
theorem yGA:AllP (fun x:Nat × (List PV→Option (Bool × Ret))=>zY Tryz.prog x.1 x.2) L1:=⟨zUB,trivial⟩
noncomputable def o_iOf:List PV→Option (Bool × Ret):=fun ps=>match ps with
 | [.n .i64 x]=>some (true,.v (.a (ivC (Iv.of x))))
 | _=>none
theorem ok_iOf:zY Tryz.prog 87 o_iOf:=by
 intro ps r h;unfold o_iOf at h;split at h
 ·simp only [vQZ,vQY] at h;obtain ⟨hg,rfl⟩:=h;exact qJ (qU Tryz.func87 (by kernel_rfl) (by kernel_rfl)) rfl rfl (fun w=>iOf _ w)
 ·cases h
noncomputable def L2:OrL:=(87,o_iOf) :: L1
theorem yWE:AllP (fun x:Nat × (List PV→Option (Bool × Ret))=>zY Tryz.prog x.1 x.2) L2:=⟨ok_iOf,yGA⟩
noncomputable def zGY:List PV→Option (Bool × Ret):=fun ps=>match ps with
 | [.a p',.a v']=>(poD p').bind fun p=>(v3D v').bind fun v=>some (true,.v (.a (v3C (Po.app p v))))
 | _=>none
theorem ok_pApply:zY Tryz.prog 119 zGY:=by
 intro ps r h;unfold zGY at h;split at h
 ·simp only [vQQ,vQZ,vQY] at h;obtain ⟨p,hp,v,hv,hg,rfl⟩:=h;rw [zWA hp];rw [qUI hv];exact qJ (qU Tryz.func119 (by kernel_rfl) (by kernel_rfl)) rfl rfl (fun w=>pApply _ _ _ _ _ _ _ _ _ _ _ _ _ _ _ _ _ _ _ _ _ _ _ _ _ _ _ _ _ _ w)
 ·cases h
noncomputable def L3:OrL:=(119,zGY) :: L2
theorem L3_ok:AllP (fun x:Nat × (List PV→Option (Bool × Ret))=>zY Tryz.prog x.1 x.2) L3:=⟨ok_pApply,yWE⟩
noncomputable def qWG:List PV→Option (Bool × Ret):=fun ps=>match ps with
 | [.a m',.a v']=>(m3D m').bind fun m=>(v3D v').bind fun v=>some (true,.v (.a (v3C (M3.apply m v))))
 | _=>none
theorem zUD:zY Tryz.prog 118 qWG:=by
 intro ps r h;unfold qWG at h;split at h
 ·simp only [vQQ,vQZ,vQY] at h;obtain ⟨m,hm,v,hv,hg,rfl⟩:=h;rw [zJA hm];rw [qUI hv];exact qJ (qU Tryz.func118 (by kernel_rfl) (by kernel_rfl)) rfl rfl (fun w=>mApply _ _ _ _ _ _ _ _ _ _ _ _ _ _ _ _ _ _ _ _ _ _ _ _ w)
 ·cases h
noncomputable def L4:OrL:=(118,qWG) :: L3
theorem L4_ok:AllP (fun x:Nat × (List PV→Option (Bool × Ret))=>zY Tryz.prog x.1 x.2) L4:=⟨zUD,L3_ok⟩
noncomputable def qWV:List PV→Option (Bool × Ret):=fun ps=>match ps with
 | [.a z']=>(z3D z').bind fun z=>some (true,.v (.a (v3C (V3.of z))))
 | _=>none
theorem zUC:zY Tryz.prog 56 qWV:=by
 intro ps r h;unfold qWV at h;split at h
 ·simp only [vQQ,vQZ,vQY] at h;obtain ⟨z,hz,hg,rfl⟩:=h;rw [zKD hz];exact qJ (qU Tryz.func56 (by kernel_rfl) (by kernel_rfl)) rfl rfl (fun w=>mPoint _ _ _ w)
 ·cases h
noncomputable def L5:OrL:=(56,qWV) :: L4
theorem L5_ok:AllP (fun x:Nat × (List PV→Option (Bool × Ret))=>zY Tryz.prog x.1 x.2) L5:=⟨zUC,L4_ok⟩
end Go.Proofs.YtfcofnclgajfeaaGreat.Od
namespace Go.Proofs.YtfcofnclgajfeaaGreat
open Go.Rx Rt Go.Sx Go.RowKit
def andI (k:IntKind) (x y:Int):Int:=k.wrap ((BitVec.ofInt k.bits x &&& BitVec.ofInt k.bits y).toNat)
theorem uY {β γ:Type} {F:β→γ} {c:Bool} {a b:γ} {f g:β} (_:a=F f) (_:b=F g):(bif c then a else b)=F (bif c then f else g):=by cases c <;> assumption
noncomputable def qWW:List PV→Option (Bool × Ret):=fun ps=>match ps with
 | [.n .i64 n,.n .i64 k]=>some (decide (0 < k∧k≤9223372036854775807),.v (.n .i64 (n % k)))
 | _=>none
theorem zUB:zY Tryz.prog 9 qWW:=by
 intro ps r h;unfold qWW at h;split at h
 ·simp only [vQZ,vQY] at h;obtain ⟨hg,rfl⟩:=h;exact qJ (qU Tryz.func9 (by kernel_rfl) (by kernel_rfl)) rfl rfl (fun w=>mRound _ _ (vJZ hg) w)
 ·cases h
noncomputable def L1:OrL:=(9,qWW) :: ([]:OrL)
theorem yGA:AllP (fun x:Nat × (List PV→Option (Bool × Ret))=>zY Tryz.prog x.1 x.2) L1:=⟨zUB,trivial⟩
set_option maxRecDepth 100000 in
theorem tr_rUsable (x:Int) (y:Int) (z:Int):runK T (OrL.k L1) 60 41 [.a [.n .i64 x,.n .i64 y,.n .i64 z]] =
 bif (!((decide (x=0)) && ((decide (y=0)) && ((decide (z=0)) && true)))) then (bif (decide (x < (-16384))) then some (.v (.b false),[])
  else bif (decide (16384 < x)) then some (.v (.b false),[])
  else bif (decide (y < (-16384))) then some (.v (.b false),[])
  else bif (decide (16384 < y)) then some (.v (.b false),[])
  else bif (decide (z < (-16384))) then some (.v (.b false),[])
  else bif (decide (16384 < z)) then some (.v (.b false),[])
  else some (.v (.b true),[]))
 else some (.v (.b false),[]):=by kernel_rfl
noncomputable def rUse (x y z:Int):Bool:=(bif (!((decide (x=0)) && ((decide (y=0)) && ((decide (z=0)) && true)))) then (bif (decide (x < (-16384))) then false else (bif (decide (16384 < x)) then false else (bif (decide (y < (-16384))) then false else (bif (decide (16384 < y)) then false else (bif (decide (z < (-16384))) then false else (bif (decide (16384 < z)) then false else true)))))) else false)
def qKK:Bool→Option (Ret × Mem):=fun v=>some (.v (.b v),[])
theorem sp_rUsable (x y z:Int):runK T (OrL.k L1) 60 41 [.a [.n .i64 x,.n .i64 y,.n .i64 z]]=some (.v (.b (rUse x y z)),[]):=by
 rw [tr_rUsable];exact ((uY (F:=qKK) (uY (F:=qKK) rfl (uY (F:=qKK) rfl (uY (F:=qKK) rfl (uY (F:=qKK) rfl (uY (F:=qKK) rfl (uY (F:=qKK) rfl rfl)))))) rfl):_=qKK (rUse x y z))
noncomputable def zUI:List PV→Option (Bool × Ret):=fun ps=>match ps with
 | [.a z']=>(z3D z').bind fun z=>some (true,.v (.b (rUse z.x z.y z.z)))
 | _=>none
theorem ok_rUsable:zY Tryz.prog 41 zUI:=by
 intro ps r h;unfold zUI at h;split at h
 ·simp only [vQQ,vQZ,vQY] at h;obtain ⟨z,hz,hg,rfl⟩:=h;rw [zKD hz];exact qX yY yQ (OrL.ok yGA) (sp_rUsable _ _ _)
 ·cases h
noncomputable def L2:OrL:=(41,zUI) :: L1
theorem yWE:AllP (fun x:Nat × (List PV→Option (Bool × Ret))=>zY Tryz.prog x.1 x.2) L2:=⟨ok_rUsable,yGA⟩
set_option maxRecDepth 100000 in
theorem tr_mNormal (a:Int) (b:Int) (c:Int):runK T (OrL.k L2) 60 24 [.n .i64 a,.n .i64 b,.n .i64 c] =
 bif (decide ((andI .i64 a 8)=8)) then (bif rUse (Z3.mk (vJJ .i64 (a % 32769 - 16384)) (vJJ .i64 (b % 32769 - 16384)) (vJJ .i64 (c % 32769 - 16384))).x (Z3.mk (vJJ .i64 (a % 32769 - 16384)) (vJJ .i64 (b % 32769 - 16384)) (vJJ .i64 (c % 32769 - 16384))).y (Z3.mk (vJJ .i64 (a % 32769 - 16384)) (vJJ .i64 (b % 32769 - 16384)) (vJJ .i64 (c % 32769 - 16384))).z then some (.v (.a [.n .i64 (vJJ .i64 (a % 32769 - 16384)),.n .i64 (vJJ .i64 (b % 32769 - 16384)),.n .i64 (vJJ .i64 (c % 32769 - 16384))]),[])
  else some (.v (.a [.n .i64 1,.n .i64 0,.n .i64 0]),[]))
 else bif rUse (Z3.mk (vJJ .i64 (a % 41 - 20)) (vJJ .i64 (b % 41 - 20)) (vJJ .i64 (c % 41 - 20))).x (Z3.mk (vJJ .i64 (a % 41 - 20)) (vJJ .i64 (b % 41 - 20)) (vJJ .i64 (c % 41 - 20))).y (Z3.mk (vJJ .i64 (a % 41 - 20)) (vJJ .i64 (b % 41 - 20)) (vJJ .i64 (c % 41 - 20))).z then some (.v (.a [.n .i64 (vJJ .i64 (a % 41 - 20)),.n .i64 (vJJ .i64 (b % 41 - 20)),.n .i64 (vJJ .i64 (c % 41 - 20))]),[])
 else some (.v (.a [.n .i64 1,.n .i64 0,.n .i64 0]),[]):=by kernel_rfl
noncomputable def nrm (a b c:Int):Z3:=(bif (decide ((andI .i64 a 8)=8)) then (bif rUse (Z3.mk (vJJ .i64 (a % 32769 - 16384)) (vJJ .i64 (b % 32769 - 16384)) (vJJ .i64 (c % 32769 - 16384))).x (Z3.mk (vJJ .i64 (a % 32769 - 16384)) (vJJ .i64 (b % 32769 - 16384)) (vJJ .i64 (c % 32769 - 16384))).y (Z3.mk (vJJ .i64 (a % 32769 - 16384)) (vJJ .i64 (b % 32769 - 16384)) (vJJ .i64 (c % 32769 - 16384))).z then (Z3.mk (vJJ .i64 (a % 32769 - 16384)) (vJJ .i64 (b % 32769 - 16384)) (vJJ .i64 (c % 32769 - 16384))) else (Z3.mk 1 0 0)) else (bif rUse (Z3.mk (vJJ .i64 (a % 41 - 20)) (vJJ .i64 (b % 41 - 20)) (vJJ .i64 (c % 41 - 20))).x (Z3.mk (vJJ .i64 (a % 41 - 20)) (vJJ .i64 (b % 41 - 20)) (vJJ .i64 (c % 41 - 20))).y (Z3.mk (vJJ .i64 (a % 41 - 20)) (vJJ .i64 (b % 41 - 20)) (vJJ .i64 (c % 41 - 20))).z then (Z3.mk (vJJ .i64 (a % 41 - 20)) (vJJ .i64 (b % 41 - 20)) (vJJ .i64 (c % 41 - 20))) else (Z3.mk 1 0 0)))
def zZW:Z3→Option (Ret × Mem):=fun v=>some (.v (.a (z3C v)),[])
theorem sp_mNormal (a b c:Int):runK T (OrL.k L2) 60 24 [.n .i64 a,.n .i64 b,.n .i64 c]=some (.v (.a (z3C (nrm a b c))),[]):=by
 rw [tr_mNormal];exact ((uY (F:=zZW) (uY (F:=zZW) rfl rfl) (uY (F:=zZW) rfl rfl)):_=zZW (nrm a b c))
noncomputable def zXZ:List PV→Option (Bool × Ret):=fun ps=>match ps with
 | [.n .i64 a,.n .i64 b,.n .i64 c]=>some (true,.v (.a (z3C (nrm a b c))))
 | _=>none
theorem ok_mNormal:zY Tryz.prog 24 zXZ:=by
 intro ps r h;unfold zXZ at h;split at h
 ·simp only [vQZ,vQY] at h;obtain ⟨hg,rfl⟩:=h;exact qX yY yQ (OrL.ok yWE) (sp_mNormal _ _ _)
 ·cases h
noncomputable def L3:OrL:=(24,zXZ) :: L2
theorem L3_ok:AllP (fun x:Nat × (List PV→Option (Bool × Ret))=>zY Tryz.prog x.1 x.2) L3:=⟨ok_mNormal,yWE⟩
end Go.Proofs.YtfcofnclgajfeaaGreat
namespace Go.Proofs.YtfcofnclgajfeaaGreat.Oe
open Go.Rx Rt Go.Sx Go.RowKit
open Od
set_option maxRecDepth 100000 in
theorem tr_sDot (nx:Int) (ny:Int) (nz:Int) (v0:Int) (v1:Int) (v2:Int) (v3:Int) (v4:Int) (v5:Int):runK T (OrL.k L5) 60 57 [.a [.n .i64 nx,.n .i64 ny,.n .i64 nz],.a [.n .i64 v0,.n .i64 v1,.n .i64 v2,.n .i64 v3,.n .i64 v4,.n .i64 v5]] =
 bif (decide (nx < (-16384))) then some (.v (.t [.n .i64 0,.n .i64 0]),[])
 else bif (decide (16384 < nx)) then some (.v (.t [.n .i64 0,.n .i64 0]),[])
 else bif (decide (ny < (-16384))) then some (.v (.t [.n .i64 0,.n .i64 0]),[])
 else bif (decide (16384 < ny)) then some (.v (.t [.n .i64 0,.n .i64 0]),[])
 else bif (decide (nz < (-16384))) then some (.v (.t [.n .i64 0,.n .i64 0]),[])
 else bif (decide (16384 < nz)) then some (.v (.t [.n .i64 0,.n .i64 0]),[])
 else bif (!((decide (nx=0)) && ((decide (ny=0)) && ((decide (nz=0)) && true)))) then (bif (decide (v0 < (-268435456))) then some (.v (.t [.n .i64 0,.n .i64 0]),[])
  else bif (decide (v1 < v0)) then some (.v (.t [.n .i64 0,.n .i64 0]),[])
  else bif (decide (268435456 < v1)) then some (.v (.t [.n .i64 0,.n .i64 0]),[])
  else bif (decide (v2 < (-268435456))) then some (.v (.t [.n .i64 0,.n .i64 0]),[])
  else bif (decide (v3 < v2)) then some (.v (.t [.n .i64 0,.n .i64 0]),[])
  else bif (decide (268435456 < v3)) then some (.v (.t [.n .i64 0,.n .i64 0]),[])
  else bif (decide (v4 < (-268435456))) then some (.v (.t [.n .i64 0,.n .i64 0]),[])
  else bif (decide (v5 < v4)) then some (.v (.t [.n .i64 0,.n .i64 0]),[])
  else bif (decide (268435456 < v5)) then some (.v (.t [.n .i64 0,.n .i64 0]),[])
  else some (.v (.t [.n .i64 (vJJ .i64 ((vJJ .i64 ((vJJ .i64 (0 + (min (vJJ .i64 (nx * v0)) (vJJ .i64 (nx * v1))))) + (min (vJJ .i64 (ny * v2)) (vJJ .i64 (ny * v3))))) + (min (vJJ .i64 (nz * v4)) (vJJ .i64 (nz * v5))))),.n .i64 (vJJ .i64 ((vJJ .i64 ((vJJ .i64 (0 + (max (vJJ .i64 (nx * v0)) (vJJ .i64 (nx * v1))))) + (max (vJJ .i64 (ny * v2)) (vJJ .i64 (ny * v3))))) + (max (vJJ .i64 (nz * v4)) (vJJ .i64 (nz * v5)))))]),[]))
 else some (.v (.t [.n .i64 0,.n .i64 0]),[]):=by kernel_rfl
noncomputable def dot (nx ny nz v0 v1 v2 v3 v4 v5:Int):Int × Int:=(bif (decide (nx < (-16384))) then (0,0) else (bif (decide (16384 < nx)) then (0,0) else (bif (decide (ny < (-16384))) then (0,0) else (bif (decide (16384 < ny)) then (0,0) else (bif (decide (nz < (-16384))) then (0,0) else (bif (decide (16384 < nz)) then (0,0) else (bif (!((decide (nx=0)) && ((decide (ny=0)) && ((decide (nz=0)) && true)))) then (bif (decide (v0 < (-268435456))) then (0,0) else (bif (decide (v1 < v0)) then (0,0) else (bif (decide (268435456 < v1)) then (0,0) else (bif (decide (v2 < (-268435456))) then (0,0) else (bif (decide (v3 < v2)) then (0,0) else (bif (decide (268435456 < v3)) then (0,0) else (bif (decide (v4 < (-268435456))) then (0,0) else (bif (decide (v5 < v4)) then (0,0) else (bif (decide (268435456 < v5)) then (0,0) else ((vJJ .i64 ((vJJ .i64 ((vJJ .i64 (0 + (min (vJJ .i64 (nx * v0)) (vJJ .i64 (nx * v1))))) + (min (vJJ .i64 (ny * v2)) (vJJ .i64 (ny * v3))))) + (min (vJJ .i64 (nz * v4)) (vJJ .i64 (nz * v5))))),(vJJ .i64 ((vJJ .i64 ((vJJ .i64 (0 + (max (vJJ .i64 (nx * v0)) (vJJ .i64 (nx * v1))))) + (max (vJJ .i64 (ny * v2)) (vJJ .i64 (ny * v3))))) + (max (vJJ .i64 (nz * v4)) (vJJ .i64 (nz * v5))))))))))))))) else (0,0))))))))
def qKJ:Int × Int→Option (Ret × Mem):=fun v=>some (.v (.t [.n .i64 v.1,.n .i64 v.2]),[])
theorem sp_sDot (nx ny nz v0 v1 v2 v3 v4 v5:Int):runK T (OrL.k L5) 60 57 [.a [.n .i64 nx,.n .i64 ny,.n .i64 nz],.a [.n .i64 v0,.n .i64 v1,.n .i64 v2,.n .i64 v3,.n .i64 v4,.n .i64 v5]]=some (.v (.t [.n .i64 (dot nx ny nz v0 v1 v2 v3 v4 v5).1,.n .i64 (dot nx ny nz v0 v1 v2 v3 v4 v5).2]),[]):=by
 rw [tr_sDot];exact ((uY (F:=qKJ) rfl (uY (F:=qKJ) rfl (uY (F:=qKJ) rfl (uY (F:=qKJ) rfl (uY (F:=qKJ) rfl (uY (F:=qKJ) rfl (uY (F:=qKJ) (uY (F:=qKJ) rfl (uY (F:=qKJ) rfl (uY (F:=qKJ) rfl (uY (F:=qKJ) rfl (uY (F:=qKJ) rfl (uY (F:=qKJ) rfl (uY (F:=qKJ) rfl (uY (F:=qKJ) rfl (uY (F:=qKJ) rfl rfl))))))))) rfl))))))):_=qKJ (dot nx ny nz v0 v1 v2 v3 v4 v5))
noncomputable def yUL:List PV→Option (Bool × Ret):=fun ps=>match ps with
 | [.a z',.a v']=>(z3D z').bind fun z=>(v3D v').bind fun v=>some (true,.v (.t [.n .i64 (dot z.x z.y z.z v.x.lo v.x.hi v.y.lo v.y.hi v.z.lo v.z.hi).1,.n .i64 (dot z.x z.y z.z v.x.lo v.x.hi v.y.lo v.y.hi v.z.lo v.z.hi).2]))
 | _=>none
theorem ok_sDot:zY Tryz.prog 57 yUL:=by
 intro ps r h;unfold yUL at h;split at h
 ·simp only [vQQ,vQZ,vQY] at h;obtain ⟨z,hz,v,hv,hg,rfl⟩:=h;rw [zKD hz];rw [qUI hv];exact qX yY yQ (OrL.ok L5_ok) (sp_sDot _ _ _ _ _ _ _ _ _)
 ·cases h
noncomputable def L6:OrL:=(57,yUL) :: L5
theorem L6_ok:AllP (fun x:Nat × (List PV→Option (Bool × Ret))=>zY Tryz.prog x.1 x.2) L6:=⟨ok_sDot,L5_ok⟩
theorem bz {α:Type} {p:Prop} [Decidable p] {x z:α} (h:¬ p→x=z):(bif decide p then z else x)=z:=by
 by_cases hp:p
 ·rw [vJQ hp]; rfl
 ·rw [vYH hp]; exact h hp
end Go.Proofs.YtfcofnclgajfeaaGreat.Oe
namespace Go.Proofs.YtfcofnclgajfeaaGreat.Na
open Go.Rx Rt Go.Sx Go.RowKit Od
def okC (first:Bool) (c:Int):Bool:=(decide (97≤c) && decide (c≤122)) || (!first && ((decide (48≤c) && decide (c≤57)) || decide (c=95)))
def allC (s:ByteArray):Nat→Nat→Bool
 | 0,_=>true
 | k + 1,p=>okC (decide ((p:Int)=0)) (zZK s p) && allC s k (p + 1)
def wrld:ByteArray:=ByteArray.mk #[119,111,114,108,100]
def nmB (s:ByteArray):Bool:=!(decide ((s.size:Int)=0)) && (!(decide (16 < (s.size:Int))) && (!(s.toList == wrld.toList) && allC s s.size 0))
theorem okC_high {f:Bool} {c:Int} (_:128≤c):okC f c=false:=by
 unfold okC;rw [vYH (show ¬ c≤122 by omega),vYH (show ¬ c≤57 by omega),vYH (show ¬ c=95 by omega)]
 simp
theorem byteAt_get {s:ByteArray} {p:Nat} (h:p < s.size):zZK s p=((s[p]'h).toNat:Int):=by
 unfold zZK;rw [getElem?_pos s p h];rfl
def hTn (s:ByteArray) (pos:Nat):St:=⟨[(18,.p 18 0)],[(18,.itr s pos)]⟩
def yGF {α:Type} (first:Bool) (c:Int) (g k:α):α:=(bif (decide (97≤c)) then (bif (decide (c≤122)) then g else (bif first then k else (bif (decide (48≤c)) then (bif (decide (c≤57)) then g else (bif (!decide (c=95)) then k else g)) else (bif (!decide (c=95)) then k else g)))) else (bif first then k else (bif (decide (48≤c)) then (bif (decide (c≤57)) then g else (bif (!decide (c=95)) then k else g)) else (bif (!decide (c=95)) then k else g))))
theorem rawTn_eq {α:Type} (first:Bool) (c:Int) (g k:α):yGF first c g k=bif okC first c then g else k:=by
 unfold yGF okC;cases first <;> cases hA:decide (97≤c) <;> cases hB:decide (c≤122) <;> cases hC:decide (48≤c) <;> cases hD:decide (c≤57) <;> cases hE:decide (c=95) <;> first | rfl | (exfalso; simp only [decide_eq_true_eq,decide_eq_false_iff_not] at *; omega)
set_option maxRecDepth 100000 in
theorem rdTn (G:St→Option (Ret × Mem)) (K:Cont) (s:ByteArray) (pos:Nat):qJI 60 (cxF T (OrL.k ([]:OrL)) 60 107 (ntmF T 107)) (ckF T (OrL.k ([]:OrL)) 60) (qK T 107 [0,1,0,1,1]) (fun e τ=>match e with
 | .normal=>G (qYV ((cxF T (OrL.k ([]:OrL)) 60 107 (ntmF T 107)).T.hint (cxF T (OrL.k ([]:OrL)) 60 107 (ntmF T 107)).me (zV (qK T 107 [0,1,0,1,1]))) τ)
 | e=>K e (qZG ((cxF T (OrL.k ([]:OrL)) 60 107 (ntmF T 107)).T.hint (cxF T (OrL.k ([]:OrL)) 60 107 (ntmF T 107)).me (zV (qK T 107 [0,1,0,1,1]))) τ)) (hTn s pos) =
 bif (decide (pos < s.size)) then yGF (decide ((pos:Int)=0)) ((Utf8.decode s pos).1:Int) (G (hTn s (pos + (Utf8.decode s pos).2))) (K .ret ⟨[(2,.v (.b false))],[]⟩) else (K (.exit 0) ⟨[],[]⟩):=by kernel_rfl
theorem lpTn (K:Cont) (s:ByteArray):∀ (k p m:Nat),p + k=s.size→k < m→LF 60 (cxF T (OrL.k ([]:OrL)) 60 107 (ntmF T 107)) (ckF T (OrL.k ([]:OrL)) 60) (qK T 107 [0,1,0,1,1]) ((cxF T (OrL.k ([]:OrL)) 60 107 (ntmF T 107)).T.hint (cxF T (OrL.k ([]:OrL)) 60 107 (ntmF T 107)).me (zV (qK T 107 [0,1,0,1,1]))) K m (hTn s p)=bif allC s k p then (K (.exit 0) ⟨[],[]⟩) else (K .ret ⟨[(2,.v (.b false))],[]⟩)
 | 0,p,m + 1,hp,hm=>by
  refine (rdTn (fun σ=>LF 60 (cxF T (OrL.k ([]:OrL)) 60 107 (ntmF T 107)) (ckF T (OrL.k ([]:OrL)) 60) (qK T 107 [0,1,0,1,1]) ((cxF T (OrL.k ([]:OrL)) 60 107 (ntmF T 107)).T.hint (cxF T (OrL.k ([]:OrL)) 60 107 (ntmF T 107)).me (zV (qK T 107 [0,1,0,1,1]))) K m σ) K s p).trans ?_;rw [vYH (show ¬ p < s.size by omega)];rfl
 | k + 1,p,m + 1,hp,hm=>by
  refine (rdTn (fun σ=>LF 60 (cxF T (OrL.k ([]:OrL)) 60 107 (ntmF T 107)) (ckF T (OrL.k ([]:OrL)) 60) (qK T 107 [0,1,0,1,1]) ((cxF T (OrL.k ([]:OrL)) 60 107 (ntmF T 107)).T.hint (cxF T (OrL.k ([]:OrL)) 60 107 (ntmF T 107)).me (zV (qK T 107 [0,1,0,1,1]))) K m σ) K s p).trans ?_;have hlt:p < s.size:=by omega
  rw [vJQ hlt,vYV,rawTn_eq];simp only [allC];have hb:=byteAt_get hlt;by_cases h128:(s[p]'hlt).toNat < 128
  ·rw [Go.decode_ascii s p hlt h128,hb];rw [lpTn K s k (p + 1) m (by omega) (by omega)];cases okC (decide ((p:Int)=0)) ((s[p]'hlt).toNat:Int) <;> rfl
  ·have hd:=(Go.decode_high s p hlt (by omega)).1;rw [okC_high (c:=((Utf8.decode s p).1:Int)) (by omega),okC_high (c:=zZK s p) (by omega)];rfl
set_option maxRecDepth 100000 in
theorem pxTn (s:ByteArray):qKH T (OrL.k ([]:OrL)) (zW [([0,1,0,1,1],yW (hTn s 0) (fun K=>bif decide (16 < (s.size:Int)) then none else (bif allC s s.size 0 then (K (.exit 0) ⟨[],[]⟩) else (K .ret ⟨[(2,.v (.b false))],[]⟩))))]) 60 107 [.s s] =
 (bif (decide ((s.size:Int)=0)) then some (.v (.b false),[]) else (bif (decide (16 < (s.size:Int))) then some (.v (.b false),[]) else (bif (s.toList == (ByteArray.mk #[119,111,114,108,100]).toList) then some (.v (.b false),[]) else (bif gSt (hTn s 0) (hTn s 0) then (bif decide (16 < (s.size:Int)) then none else (bif allC s s.size 0 then some (.v (.b true),[]) else some (.v (.b false),[]))) else none)))):=by kernel_rfl
theorem snd_Tn (s:ByteArray):yZ Tryz.prog 107 [.s s] (.v (.b (nmB s))):=by
 refine yH (N:=60) (LO:=zW [([0,1,0,1,1],yW (hTn s 0) (fun K=>bif decide (16 < (s.size:Int)) then none else (bif allC s s.size 0 then (K (.exit 0) ⟨[],[]⟩) else (K .ret ⟨[(2,.v (.b false))],[]⟩))))]) yY yQ (OrL.ok (l:=[]) trivial) (fun p S hp => ?_) ?_
 ·refine kQ (L:=qK T 107) (l:=[([0,1,0,1,1],yW (hTn s 0) (fun K=>bif decide (16 < (s.size:Int)) then none else (bif allC s s.size 0 then (K (.exit 0) ⟨[],[]⟩) else (K .ret ⟨[(2,.v (.b false))],[]⟩))))]) (show AllP _ [([0,1,0,1,1],yW (hTn s 0) (fun K=>bif decide (16 < (s.size:Int)) then none else (bif allC s s.size 0 then (K (.exit 0) ⟨[],[]⟩) else (K .ret ⟨[(2,.v (.b false))],[]⟩))))] from ⟨kW fun K r hr => ?_,trivial⟩) p S hp;cases hq:decide (16 < (s.size:Int)) with
  | true=>rw [hq] at hr; cases hr
  | false =>
   rw [hq] at hr;have h16:=vJY hq;exact (lpTn K s s.size 0 60 (by omega) (by omega)).trans hr
 ·refine (pxTn s).trans ?_;rw [jG,vYV];show _=some (Ret.v (.b (!(decide ((s.size:Int)=0)) && (!(decide (16 < (s.size:Int))) && (!(s.toList == (ByteArray.mk #[119,111,114,108,100]).toList) && allC s s.size 0)))),[]);cases decide ((s.size:Int)=0) <;> cases decide (16 < (s.size:Int)) <;> cases (s.toList == (ByteArray.mk #[119,111,114,108,100]).toList) <;> cases allC s s.size 0 <;> rfl
def hRn (s:ByteArray) (i:Int):St:=⟨[(0,.v (.s s)),(3,.v (.n .i64 i))],[]⟩
def yGI {α:Type} (b:Bool) (first:Bool) (c:Int) (g k:Option α):Option α:=(bif b then (bif (decide (97≤c)) then (bif b then (bif (decide (c≤122)) then g else (bif first then k else (bif b then (bif (!decide (c=95)) then (bif b then (bif (decide (c < 48)) then k else (bif b then (bif (decide (57 < c)) then k else g) else none)) else none) else g) else none))) else none) else (bif first then k else (bif b then (bif (!decide (c=95)) then (bif b then (bif (decide (c < 48)) then k else (bif b then (bif (decide (57 < c)) then k else g) else none)) else none) else g) else none))) else none)
theorem rawRn_eq {α:Type} (first:Bool) (c:Int) (g k:Option α):yGI true first c g k=bif okC first c then g else k:=by
 unfold yGI okC;rw [show decide (c < 48) = !decide (48≤c) by rw [← decide_not]; exact decide_eq_decide.2 (by omega),show decide (57 < c) = !decide (c≤57) by rw [← decide_not]; exact decide_eq_decide.2 (by omega)];cases first <;> cases hA:decide (97≤c) <;> cases hB:decide (c≤122) <;> cases hC:decide (48≤c) <;> cases hD:decide (c≤57) <;> cases hE:decide (c=95) <;> first | rfl | (exfalso; simp only [decide_eq_true_eq,decide_eq_false_iff_not] at *; omega)
set_option maxRecDepth 100000 in
theorem rdRn (G:St→Option (Ret × Mem)) (K:Cont) (s:ByteArray) (i:Int):qJI 60 (cxF T (OrL.k ([]:OrL)) 60 122 (ntmF T 122)) (ckF T (OrL.k ([]:OrL)) 60) (qK T 122 [0,1,0,1,1]) (fun e τ=>match e with
 | .normal=>G (qYV ((cxF T (OrL.k ([]:OrL)) 60 122 (ntmF T 122)).T.hint (cxF T (OrL.k ([]:OrL)) 60 122 (ntmF T 122)).me (zV (qK T 122 [0,1,0,1,1]))) τ)
 | e=>K e (qZG ((cxF T (OrL.k ([]:OrL)) 60 122 (ntmF T 122)).T.hint (cxF T (OrL.k ([]:OrL)) 60 122 (ntmF T 122)).me (zV (qK T 122 [0,1,0,1,1]))) τ)) (hRn s i) =
 bif (decide (i < (s.size:Int))) then yGI (inB i s.size) (decide (i=0)) (zZK s i.toNat) (G (hRn s (vJJ .i64 (i + 1)))) (K .ret ⟨[(2,.v (.b false))],[]⟩) else (K (.exit 0) ⟨[],[]⟩):=by kernel_rfl
theorem lpRn (K:Cont) (s:ByteArray) (hs:s.size≤1000):∀ (k p m:Nat),p + k=s.size→k < m→LF 60 (cxF T (OrL.k ([]:OrL)) 60 122 (ntmF T 122)) (ckF T (OrL.k ([]:OrL)) 60) (qK T 122 [0,1,0,1,1]) ((cxF T (OrL.k ([]:OrL)) 60 122 (ntmF T 122)).T.hint (cxF T (OrL.k ([]:OrL)) 60 122 (ntmF T 122)).me (zV (qK T 122 [0,1,0,1,1]))) K m (hRn s p)=bif allC s k p then (K (.exit 0) ⟨[],[]⟩) else (K .ret ⟨[(2,.v (.b false))],[]⟩)
 | 0,p,m + 1,hp,hm=>by
  refine (rdRn (fun σ=>LF 60 (cxF T (OrL.k ([]:OrL)) 60 122 (ntmF T 122)) (ckF T (OrL.k ([]:OrL)) 60) (qK T 122 [0,1,0,1,1]) ((cxF T (OrL.k ([]:OrL)) 60 122 (ntmF T 122)).T.hint (cxF T (OrL.k ([]:OrL)) 60 122 (ntmF T 122)).me (zV (qK T 122 [0,1,0,1,1]))) K m σ) K s p).trans ?_;rw [vYH (show ¬ (p:Int) < (s.size:Int) by omega)];rfl
 | k + 1,p,m + 1,hp,hm=>by
  refine (rdRn (fun σ=>LF 60 (cxF T (OrL.k ([]:OrL)) 60 122 (ntmF T 122)) (ckF T (OrL.k ([]:OrL)) 60) (qK T 122 [0,1,0,1,1]) ((cxF T (OrL.k ([]:OrL)) 60 122 (ntmF T 122)).T.hint (cxF T (OrL.k ([]:OrL)) 60 122 (ntmF T 122)).me (zV (qK T 122 [0,1,0,1,1]))) K m σ) K s p).trans ?_;have hB:inB (p:Int) s.size=true:=by unfold inB; rw [vJQ (show (0:Int)≤p by omega),vJQ (show (p:Int).toNat < s.size by omega)]; rfl
  rw [vJQ (show (p:Int) < (s.size:Int) by omega),vYV,hB,rawRn_eq];simp only [allC];rw [show vJJ .i64 ((p:Int) + 1)=((p + 1:Nat):Int) by rw [qG (by omega)]; omega,lpRn K s hs k (p + 1) m (by omega) (by omega)];show (bif okC (decide ((p:Int)=0)) (zZK s (p:Int).toNat) then _ else _)=_;rw [show (p:Int).toNat=p by omega];cases okC (decide ((p:Int)=0)) (zZK s p) <;> rfl
set_option maxRecDepth 100000 in
theorem pxRn (s:ByteArray):qKH T (OrL.k ([]:OrL)) (zW [([0,1,0,1,1],yW (hRn s 0) (fun K=>bif decide (16 < (s.size:Int)) then none else (bif allC s s.size 0 then (K (.exit 0) ⟨[],[]⟩) else (K .ret ⟨[(2,.v (.b false))],[]⟩))))]) 60 122 [.s s] =
 (bif (decide ((s.size:Int) < 1)) then some (.v (.b false),[]) else (bif (decide (16 < (s.size:Int))) then some (.v (.b false),[]) else (bif (s.toList == (ByteArray.mk #[119,111,114,108,100]).toList) then some (.v (.b false),[]) else (bif gSt (hRn s 0) (hRn s 0) then (bif decide (16 < (s.size:Int)) then none else (bif allC s s.size 0 then some (.v (.b true),[]) else some (.v (.b false),[]))) else none)))):=by kernel_rfl
theorem snd_Rn (s:ByteArray):yZ Tryz.prog 122 [.s s] (.v (.b (nmB s))):=by
 refine yH (N:=60) (LO:=zW [([0,1,0,1,1],yW (hRn s 0) (fun K=>bif decide (16 < (s.size:Int)) then none else (bif allC s s.size 0 then (K (.exit 0) ⟨[],[]⟩) else (K .ret ⟨[(2,.v (.b false))],[]⟩))))]) yY yQ (OrL.ok (l:=[]) trivial) (fun p S hp => ?_) ?_
 ·refine kQ (L:=qK T 122) (l:=[([0,1,0,1,1],yW (hRn s 0) (fun K=>bif decide (16 < (s.size:Int)) then none else (bif allC s s.size 0 then (K (.exit 0) ⟨[],[]⟩) else (K .ret ⟨[(2,.v (.b false))],[]⟩))))]) (show AllP _ [([0,1,0,1,1],yW (hRn s 0) (fun K=>bif decide (16 < (s.size:Int)) then none else (bif allC s s.size 0 then (K (.exit 0) ⟨[],[]⟩) else (K .ret ⟨[(2,.v (.b false))],[]⟩))))] from ⟨kW fun K r hr => ?_,trivial⟩) p S hp;cases hq:decide (16 < (s.size:Int)) with
  | true=>rw [hq] at hr; cases hr
  | false =>
   rw [hq] at hr;have h16:=vJY hq;exact (lpRn K s (by omega) s.size 0 60 (by omega) (by omega)).trans hr
 ·refine (pxRn s).trans ?_;rw [jG,vYV];rw [show decide ((s.size:Int) < 1)=decide ((s.size:Int)=0) from decide_eq_decide.2 (by omega)];show _=some (Ret.v (.b (!(decide ((s.size:Int)=0)) && (!(decide (16 < (s.size:Int))) && (!(s.toList == (ByteArray.mk #[119,111,114,108,100]).toList) && allC s s.size 0)))),[]);cases decide ((s.size:Int)=0) <;> cases decide (16 < (s.size:Int)) <;> cases (s.toList == (ByteArray.mk #[119,111,114,108,100]).toList) <;> cases allC s s.size 0 <;> rfl
end Go.Proofs.YtfcofnclgajfeaaGreat.Na

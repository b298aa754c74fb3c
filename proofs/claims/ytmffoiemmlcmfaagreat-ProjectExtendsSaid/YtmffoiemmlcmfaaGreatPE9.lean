/- Part 9 of the texts behind the last one: rules and contracts. No condition. -/
import Derived.Test.YtmffoiemmlcmfaaGreatPE8
open Option renaming bind_eq_some_iff → vQQ
open Option.some renaming injEq → vQZ
open Prod.mk renaming injEq → vQY
open List renaming mem_of_getElem? → vQG, getElem?_map → vZY, getD_eq_getElem?_getD → vZG, take_succ_cons → vYK, drop_succ_cons → vYU, take_zero → vYX, drop_zero → vYW
open Go.IntKind renaming wrap → vJJ
namespace Go.Proofs.YtmffoiemmlcmfaaGreat
open Go.Rx Rt Go.Sx Go.RowKit
namespace VM2
noncomputable def LVM21:OrL:=(150,Tm.o_iAdd) :: ([]:OrL)
theorem LVM21_ok:AllP (fun x:Nat × (List PV→Option (Bool × Ret))=>zW Tryz.prog x.1 x.2) LVM21:=⟨Tm.ok_iAdd,trivial⟩
noncomputable def kVZ:List PV→Option (Bool × Ret):=fun ps=>match ps with
 | [.a a',.a b']=>(ivD a').bind fun a=>(ivD b').bind fun b=>some (true,.v (.a (ivC (Iv.mul a b))))
 | _=>none
theorem ok_iMul:zW Tryz.prog 151 kVZ:=by
 intro ps r h;unfold kVZ at h;split at h
 ·simp only [vQQ,vQZ,vQY] at h;obtain ⟨a,ha,b,hb,hg,rfl⟩:=h;rw [qZY ha];rw [qZY hb];exact zJ (zQ Tryz.func151 (by kernel_rfl) (by kernel_rfl)) rfl rfl (fun w=>iMul _ _ _ _ w)
 ·cases h
noncomputable def LVM22:OrL:=(151,kVZ) :: LVM21
theorem LVM22_ok:AllP (fun x:Nat × (List PV→Option (Bool × Ret))=>zW Tryz.prog x.1 x.2) LVM22:=⟨ok_iMul,LVM21_ok⟩
noncomputable def kWX:List PV→Option (Bool × Ret):=fun ps=>match ps with
 | [.a a',.a b']=>(ivD a').bind fun a=>(ivD b').bind fun b=>some (true,.v (.a (ivC (Iv.mul a b))))
 | _=>none
theorem ok_rMul:zW Tryz.prog 73 kWX:=by
 intro ps r h;unfold kWX at h;split at h
 ·simp only [vQQ,vQZ,vQY] at h;obtain ⟨a,ha,b,hb,hg,rfl⟩:=h;rw [qZY ha];rw [qZY hb];exact zJ (zQ Tryz.func73 (by kernel_rfl) (by kernel_rfl)) rfl rfl (fun w=>rMul _ _ _ _ w)
 ·cases h
noncomputable def LVM23:OrL:=(73,kWX) :: LVM22
theorem LVM23_ok:AllP (fun x:Nat × (List PV→Option (Bool × Ret))=>zW Tryz.prog x.1 x.2) LVM23:=⟨ok_rMul,LVM22_ok⟩
noncomputable def kGH:OrL:=(72,Tm.o_rAdd) :: LVM23
theorem yWK:AllP (fun x:Nat × (List PV→Option (Bool × Ret))=>zW Tryz.prog x.1 x.2) kGH:=⟨Tm.ok_rAdd,LVM23_ok⟩
end VM2
open VM2
set_option maxRecDepth 100000 in
theorem mCompose (p0 p1 p2 p3 p4 p5 p6 p7 p8 p9 p10 p11 p12 p13 p14 p15 p16 p17:Int) (q0 q1 q2 q3 q4 q5 q6 q7 q8 q9 q10 q11 q12 q13 q14 q15 q16 q17:Int) (w:World):Calls Tryz.prog 149 [.agg #[.int .i64 p0,.int .i64 p1,.int .i64 p2,.int .i64 p3,.int .i64 p4,.int .i64 p5,.int .i64 p6,.int .i64 p7,.int .i64 p8,.int .i64 p9,.int .i64 p10,.int .i64 p11,.int .i64 p12,.int .i64 p13,.int .i64 p14,.int .i64 p15,.int .i64 p16,.int .i64 p17],.agg #[.int .i64 q0,.int .i64 q1,.int .i64 q2,.int .i64 q3,.int .i64 q4,.int .i64 q5,.int .i64 q6,.int .i64 q7,.int .i64 q8,.int .i64 q9,.int .i64 q10,.int .i64 q11,.int .i64 q12,.int .i64 q13,.int .i64 q14,.int .i64 q15,.int .i64 q16,.int .i64 q17]].toArray w (Rets (m3 (M3.mul ((M3.mk (V3.mk (Iv.mk p0 p1) (Iv.mk p2 p3) (Iv.mk p4 p5)) (V3.mk (Iv.mk p6 p7) (Iv.mk p8 p9) (Iv.mk p10 p11)) (V3.mk (Iv.mk p12 p13) (Iv.mk p14 p15) (Iv.mk p16 p17))):M3) ((M3.mk (V3.mk (Iv.mk q0 q1) (Iv.mk q2 q3) (Iv.mk q4 q5)) (V3.mk (Iv.mk q6 q7) (Iv.mk q8 q9) (Iv.mk q10 q11)) (V3.mk (Iv.mk q12 q13) (Iv.mk q14 q15) (Iv.mk q16 q17))):M3))) w) :=
 zX (x:=.a (m3C (M3.mul ((M3.mk (V3.mk (Iv.mk p0 p1) (Iv.mk p2 p3) (Iv.mk p4 p5)) (V3.mk (Iv.mk p6 p7) (Iv.mk p8 p9) (Iv.mk p10 p11)) (V3.mk (Iv.mk p12 p13) (Iv.mk p14 p15) (Iv.mk p16 p17))):M3) ((M3.mk (V3.mk (Iv.mk q0 q1) (Iv.mk q2 q3) (Iv.mk q4 q5)) (V3.mk (Iv.mk q6 q7) (Iv.mk q8 q9) (Iv.mk q10 q11)) (V3.mk (Iv.mk q12 q13) (Iv.mk q14 q15) (Iv.mk q16 q17))):M3)))) (qG (N:=60) (ps:=[.a [.n .i64 p0,.n .i64 p1,.n .i64 p2,.n .i64 p3,.n .i64 p4,.n .i64 p5,.n .i64 p6,.n .i64 p7,.n .i64 p8,.n .i64 p9,.n .i64 p10,.n .i64 p11,.n .i64 p12,.n .i64 p13,.n .i64 p14,.n .i64 p15,.n .i64 p16,.n .i64 p17],.a [.n .i64 q0,.n .i64 q1,.n .i64 q2,.n .i64 q3,.n .i64 q4,.n .i64 q5,.n .i64 q6,.n .i64 q7,.n .i64 q8,.n .i64 q9,.n .i64 q10,.n .i64 q11,.n .i64 q12,.n .i64 q13,.n .i64 q14,.n .i64 q15,.n .i64 q16,.n .i64 q17]]) yJ yQ (OrL.ok (l:=kGH) yWK) ((by kernel_rfl:_=some (.v (.a [.n .i64 (min (max (Iv.add (Iv.add (Iv.add (Iv.mk 0 0) (Iv.mul (Iv.mk p0 p1) (Iv.mk q0 q1))) (Iv.mul (Iv.mk p2 p3) (Iv.mk q6 q7))) (Iv.mul (Iv.mk p4 p5) (Iv.mk q12 q13))).lo (-65536)) 65536),.n .i64 (min (max (Iv.add (Iv.add (Iv.add (Iv.mk 0 0) (Iv.mul (Iv.mk p0 p1) (Iv.mk q0 q1))) (Iv.mul (Iv.mk p2 p3) (Iv.mk q6 q7))) (Iv.mul (Iv.mk p4 p5) (Iv.mk q12 q13))).hi (-65536)) 65536),.n .i64 (min (max (Iv.add (Iv.add (Iv.add (Iv.mk 0 0) (Iv.mul (Iv.mk p0 p1) (Iv.mk q2 q3))) (Iv.mul (Iv.mk p2 p3) (Iv.mk q8 q9))) (Iv.mul (Iv.mk p4 p5) (Iv.mk q14 q15))).lo (-65536)) 65536),.n .i64 (min (max (Iv.add (Iv.add (Iv.add (Iv.mk 0 0) (Iv.mul (Iv.mk p0 p1) (Iv.mk q2 q3))) (Iv.mul (Iv.mk p2 p3) (Iv.mk q8 q9))) (Iv.mul (Iv.mk p4 p5) (Iv.mk q14 q15))).hi (-65536)) 65536),.n .i64 (min (max (Iv.add (Iv.add (Iv.add (Iv.mk 0 0) (Iv.mul (Iv.mk p0 p1) (Iv.mk q4 q5))) (Iv.mul (Iv.mk p2 p3) (Iv.mk q10 q11))) (Iv.mul (Iv.mk p4 p5) (Iv.mk q16 q17))).lo (-65536)) 65536),.n .i64 (min (max (Iv.add (Iv.add (Iv.add (Iv.mk 0 0) (Iv.mul (Iv.mk p0 p1) (Iv.mk q4 q5))) (Iv.mul (Iv.mk p2 p3) (Iv.mk q10 q11))) (Iv.mul (Iv.mk p4 p5) (Iv.mk q16 q17))).hi (-65536)) 65536),.n .i64 (min (max (Iv.add (Iv.add (Iv.add (Iv.mk 0 0) (Iv.mul (Iv.mk p6 p7) (Iv.mk q0 q1))) (Iv.mul (Iv.mk p8 p9) (Iv.mk q6 q7))) (Iv.mul (Iv.mk p10 p11) (Iv.mk q12 q13))).lo (-65536)) 65536),.n .i64 (min (max (Iv.add (Iv.add (Iv.add (Iv.mk 0 0) (Iv.mul (Iv.mk p6 p7) (Iv.mk q0 q1))) (Iv.mul (Iv.mk p8 p9) (Iv.mk q6 q7))) (Iv.mul (Iv.mk p10 p11) (Iv.mk q12 q13))).hi (-65536)) 65536),.n .i64 (min (max (Iv.add (Iv.add (Iv.add (Iv.mk 0 0) (Iv.mul (Iv.mk p6 p7) (Iv.mk q2 q3))) (Iv.mul (Iv.mk p8 p9) (Iv.mk q8 q9))) (Iv.mul (Iv.mk p10 p11) (Iv.mk q14 q15))).lo (-65536)) 65536),.n .i64 (min (max (Iv.add (Iv.add (Iv.add (Iv.mk 0 0) (Iv.mul (Iv.mk p6 p7) (Iv.mk q2 q3))) (Iv.mul (Iv.mk p8 p9) (Iv.mk q8 q9))) (Iv.mul (Iv.mk p10 p11) (Iv.mk q14 q15))).hi (-65536)) 65536),.n .i64 (min (max (Iv.add (Iv.add (Iv.add (Iv.mk 0 0) (Iv.mul (Iv.mk p6 p7) (Iv.mk q4 q5))) (Iv.mul (Iv.mk p8 p9) (Iv.mk q10 q11))) (Iv.mul (Iv.mk p10 p11) (Iv.mk q16 q17))).lo (-65536)) 65536),.n .i64 (min (max (Iv.add (Iv.add (Iv.add (Iv.mk 0 0) (Iv.mul (Iv.mk p6 p7) (Iv.mk q4 q5))) (Iv.mul (Iv.mk p8 p9) (Iv.mk q10 q11))) (Iv.mul (Iv.mk p10 p11) (Iv.mk q16 q17))).hi (-65536)) 65536),.n .i64 (min (max (Iv.add (Iv.add (Iv.add (Iv.mk 0 0) (Iv.mul (Iv.mk p12 p13) (Iv.mk q0 q1))) (Iv.mul (Iv.mk p14 p15) (Iv.mk q6 q7))) (Iv.mul (Iv.mk p16 p17) (Iv.mk q12 q13))).lo (-65536)) 65536),.n .i64 (min (max (Iv.add (Iv.add (Iv.add (Iv.mk 0 0) (Iv.mul (Iv.mk p12 p13) (Iv.mk q0 q1))) (Iv.mul (Iv.mk p14 p15) (Iv.mk q6 q7))) (Iv.mul (Iv.mk p16 p17) (Iv.mk q12 q13))).hi (-65536)) 65536),.n .i64 (min (max (Iv.add (Iv.add (Iv.add (Iv.mk 0 0) (Iv.mul (Iv.mk p12 p13) (Iv.mk q2 q3))) (Iv.mul (Iv.mk p14 p15) (Iv.mk q8 q9))) (Iv.mul (Iv.mk p16 p17) (Iv.mk q14 q15))).lo (-65536)) 65536),.n .i64 (min (max (Iv.add (Iv.add (Iv.add (Iv.mk 0 0) (Iv.mul (Iv.mk p12 p13) (Iv.mk q2 q3))) (Iv.mul (Iv.mk p14 p15) (Iv.mk q8 q9))) (Iv.mul (Iv.mk p16 p17) (Iv.mk q14 q15))).hi (-65536)) 65536),.n .i64 (min (max (Iv.add (Iv.add (Iv.add (Iv.mk 0 0) (Iv.mul (Iv.mk p12 p13) (Iv.mk q4 q5))) (Iv.mul (Iv.mk p14 p15) (Iv.mk q10 q11))) (Iv.mul (Iv.mk p16 p17) (Iv.mk q16 q17))).lo (-65536)) 65536),.n .i64 (min (max (Iv.add (Iv.add (Iv.add (Iv.mk 0 0) (Iv.mul (Iv.mk p12 p13) (Iv.mk q4 q5))) (Iv.mul (Iv.mk p14 p15) (Iv.mk q10 q11))) (Iv.mul (Iv.mk p16 p17) (Iv.mk q16 q17))).hi (-65536)) 65536)]),[])).trans (by simp only [add_zero_mul]; rfl))) rfl rfl w
set_option maxRecDepth 100000 in
theorem rCompose (p0 p1 p2 p3 p4 p5 p6 p7 p8 p9 p10 p11 p12 p13 p14 p15 p16 p17:Int) (q0 q1 q2 q3 q4 q5 q6 q7 q8 q9 q10 q11 q12 q13 q14 q15 q16 q17:Int) (w:World):Calls Tryz.prog 104 [.agg #[.int .i64 p0,.int .i64 p1,.int .i64 p2,.int .i64 p3,.int .i64 p4,.int .i64 p5,.int .i64 p6,.int .i64 p7,.int .i64 p8,.int .i64 p9,.int .i64 p10,.int .i64 p11,.int .i64 p12,.int .i64 p13,.int .i64 p14,.int .i64 p15,.int .i64 p16,.int .i64 p17],.agg #[.int .i64 q0,.int .i64 q1,.int .i64 q2,.int .i64 q3,.int .i64 q4,.int .i64 q5,.int .i64 q6,.int .i64 q7,.int .i64 q8,.int .i64 q9,.int .i64 q10,.int .i64 q11,.int .i64 q12,.int .i64 q13,.int .i64 q14,.int .i64 q15,.int .i64 q16,.int .i64 q17]].toArray w (Rets (m3 (M3.mul ((M3.mk (V3.mk (Iv.mk p0 p1) (Iv.mk p2 p3) (Iv.mk p4 p5)) (V3.mk (Iv.mk p6 p7) (Iv.mk p8 p9) (Iv.mk p10 p11)) (V3.mk (Iv.mk p12 p13) (Iv.mk p14 p15) (Iv.mk p16 p17))):M3) ((M3.mk (V3.mk (Iv.mk q0 q1) (Iv.mk q2 q3) (Iv.mk q4 q5)) (V3.mk (Iv.mk q6 q7) (Iv.mk q8 q9) (Iv.mk q10 q11)) (V3.mk (Iv.mk q12 q13) (Iv.mk q14 q15) (Iv.mk q16 q17))):M3))) w) :=
 zX (x:=.a (m3C (M3.mul ((M3.mk (V3.mk (Iv.mk p0 p1) (Iv.mk p2 p3) (Iv.mk p4 p5)) (V3.mk (Iv.mk p6 p7) (Iv.mk p8 p9) (Iv.mk p10 p11)) (V3.mk (Iv.mk p12 p13) (Iv.mk p14 p15) (Iv.mk p16 p17))):M3) ((M3.mk (V3.mk (Iv.mk q0 q1) (Iv.mk q2 q3) (Iv.mk q4 q5)) (V3.mk (Iv.mk q6 q7) (Iv.mk q8 q9) (Iv.mk q10 q11)) (V3.mk (Iv.mk q12 q13) (Iv.mk q14 q15) (Iv.mk q16 q17))):M3)))) (qG (N:=60) (ps:=[.a [.n .i64 p0,.n .i64 p1,.n .i64 p2,.n .i64 p3,.n .i64 p4,.n .i64 p5,.n .i64 p6,.n .i64 p7,.n .i64 p8,.n .i64 p9,.n .i64 p10,.n .i64 p11,.n .i64 p12,.n .i64 p13,.n .i64 p14,.n .i64 p15,.n .i64 p16,.n .i64 p17],.a [.n .i64 q0,.n .i64 q1,.n .i64 q2,.n .i64 q3,.n .i64 q4,.n .i64 q5,.n .i64 q6,.n .i64 q7,.n .i64 q8,.n .i64 q9,.n .i64 q10,.n .i64 q11,.n .i64 q12,.n .i64 q13,.n .i64 q14,.n .i64 q15,.n .i64 q16,.n .i64 q17]]) yJ yQ (OrL.ok (l:=kGH) yWK) ((by kernel_rfl:_=some (.v (.a [.n .i64 (max (-65536) (min (Iv.add (Iv.add (Iv.mul (Iv.mk p0 p1) (Iv.mk q0 q1)) (Iv.mul (Iv.mk p2 p3) (Iv.mk q6 q7))) (Iv.mul (Iv.mk p4 p5) (Iv.mk q12 q13))).lo 65536)),.n .i64 (max (-65536) (min (Iv.add (Iv.add (Iv.mul (Iv.mk p0 p1) (Iv.mk q0 q1)) (Iv.mul (Iv.mk p2 p3) (Iv.mk q6 q7))) (Iv.mul (Iv.mk p4 p5) (Iv.mk q12 q13))).hi 65536)),.n .i64 (max (-65536) (min (Iv.add (Iv.add (Iv.mul (Iv.mk p0 p1) (Iv.mk q2 q3)) (Iv.mul (Iv.mk p2 p3) (Iv.mk q8 q9))) (Iv.mul (Iv.mk p4 p5) (Iv.mk q14 q15))).lo 65536)),.n .i64 (max (-65536) (min (Iv.add (Iv.add (Iv.mul (Iv.mk p0 p1) (Iv.mk q2 q3)) (Iv.mul (Iv.mk p2 p3) (Iv.mk q8 q9))) (Iv.mul (Iv.mk p4 p5) (Iv.mk q14 q15))).hi 65536)),.n .i64 (max (-65536) (min (Iv.add (Iv.add (Iv.mul (Iv.mk p0 p1) (Iv.mk q4 q5)) (Iv.mul (Iv.mk p2 p3) (Iv.mk q10 q11))) (Iv.mul (Iv.mk p4 p5) (Iv.mk q16 q17))).lo 65536)),.n .i64 (max (-65536) (min (Iv.add (Iv.add (Iv.mul (Iv.mk p0 p1) (Iv.mk q4 q5)) (Iv.mul (Iv.mk p2 p3) (Iv.mk q10 q11))) (Iv.mul (Iv.mk p4 p5) (Iv.mk q16 q17))).hi 65536)),.n .i64 (max (-65536) (min (Iv.add (Iv.add (Iv.mul (Iv.mk p6 p7) (Iv.mk q0 q1)) (Iv.mul (Iv.mk p8 p9) (Iv.mk q6 q7))) (Iv.mul (Iv.mk p10 p11) (Iv.mk q12 q13))).lo 65536)),.n .i64 (max (-65536) (min (Iv.add (Iv.add (Iv.mul (Iv.mk p6 p7) (Iv.mk q0 q1)) (Iv.mul (Iv.mk p8 p9) (Iv.mk q6 q7))) (Iv.mul (Iv.mk p10 p11) (Iv.mk q12 q13))).hi 65536)),.n .i64 (max (-65536) (min (Iv.add (Iv.add (Iv.mul (Iv.mk p6 p7) (Iv.mk q2 q3)) (Iv.mul (Iv.mk p8 p9) (Iv.mk q8 q9))) (Iv.mul (Iv.mk p10 p11) (Iv.mk q14 q15))).lo 65536)),.n .i64 (max (-65536) (min (Iv.add (Iv.add (Iv.mul (Iv.mk p6 p7) (Iv.mk q2 q3)) (Iv.mul (Iv.mk p8 p9) (Iv.mk q8 q9))) (Iv.mul (Iv.mk p10 p11) (Iv.mk q14 q15))).hi 65536)),.n .i64 (max (-65536) (min (Iv.add (Iv.add (Iv.mul (Iv.mk p6 p7) (Iv.mk q4 q5)) (Iv.mul (Iv.mk p8 p9) (Iv.mk q10 q11))) (Iv.mul (Iv.mk p10 p11) (Iv.mk q16 q17))).lo 65536)),.n .i64 (max (-65536) (min (Iv.add (Iv.add (Iv.mul (Iv.mk p6 p7) (Iv.mk q4 q5)) (Iv.mul (Iv.mk p8 p9) (Iv.mk q10 q11))) (Iv.mul (Iv.mk p10 p11) (Iv.mk q16 q17))).hi 65536)),.n .i64 (max (-65536) (min (Iv.add (Iv.add (Iv.mul (Iv.mk p12 p13) (Iv.mk q0 q1)) (Iv.mul (Iv.mk p14 p15) (Iv.mk q6 q7))) (Iv.mul (Iv.mk p16 p17) (Iv.mk q12 q13))).lo 65536)),.n .i64 (max (-65536) (min (Iv.add (Iv.add (Iv.mul (Iv.mk p12 p13) (Iv.mk q0 q1)) (Iv.mul (Iv.mk p14 p15) (Iv.mk q6 q7))) (Iv.mul (Iv.mk p16 p17) (Iv.mk q12 q13))).hi 65536)),.n .i64 (max (-65536) (min (Iv.add (Iv.add (Iv.mul (Iv.mk p12 p13) (Iv.mk q2 q3)) (Iv.mul (Iv.mk p14 p15) (Iv.mk q8 q9))) (Iv.mul (Iv.mk p16 p17) (Iv.mk q14 q15))).lo 65536)),.n .i64 (max (-65536) (min (Iv.add (Iv.add (Iv.mul (Iv.mk p12 p13) (Iv.mk q2 q3)) (Iv.mul (Iv.mk p14 p15) (Iv.mk q8 q9))) (Iv.mul (Iv.mk p16 p17) (Iv.mk q14 q15))).hi 65536)),.n .i64 (max (-65536) (min (Iv.add (Iv.add (Iv.mul (Iv.mk p12 p13) (Iv.mk q4 q5)) (Iv.mul (Iv.mk p14 p15) (Iv.mk q10 q11))) (Iv.mul (Iv.mk p16 p17) (Iv.mk q16 q17))).lo 65536)),.n .i64 (max (-65536) (min (Iv.add (Iv.add (Iv.mul (Iv.mk p12 p13) (Iv.mk q4 q5)) (Iv.mul (Iv.mk p14 p15) (Iv.mk q10 q11))) (Iv.mul (Iv.mk p16 p17) (Iv.mk q16 q17))).hi 65536))]),[])).trans (by simp only [lim_ref]; rfl))) rfl rfl w
set_option maxRecDepth 100000 in
theorem mApply (p0 p1 p2 p3 p4 p5 p6 p7 p8 p9 p10 p11 p12 p13 p14 p15 p16 p17:Int) (q0 q1 q2 q3 q4 q5:Int) (w:World):Calls Tryz.prog 140 [.agg #[.int .i64 p0,.int .i64 p1,.int .i64 p2,.int .i64 p3,.int .i64 p4,.int .i64 p5,.int .i64 p6,.int .i64 p7,.int .i64 p8,.int .i64 p9,.int .i64 p10,.int .i64 p11,.int .i64 p12,.int .i64 p13,.int .i64 p14,.int .i64 p15,.int .i64 p16,.int .i64 p17],.agg #[.int .i64 q0,.int .i64 q1,.int .i64 q2,.int .i64 q3,.int .i64 q4,.int .i64 q5]].toArray w (Rets (v3 (M3.apply ((M3.mk (V3.mk (Iv.mk p0 p1) (Iv.mk p2 p3) (Iv.mk p4 p5)) (V3.mk (Iv.mk p6 p7) (Iv.mk p8 p9) (Iv.mk p10 p11)) (V3.mk (Iv.mk p12 p13) (Iv.mk p14 p15) (Iv.mk p16 p17))):M3) ((V3.mk (Iv.mk q0 q1) (Iv.mk q2 q3) (Iv.mk q4 q5)):V3))) w) :=
 zX (x:=.a (v3C (M3.apply ((M3.mk (V3.mk (Iv.mk p0 p1) (Iv.mk p2 p3) (Iv.mk p4 p5)) (V3.mk (Iv.mk p6 p7) (Iv.mk p8 p9) (Iv.mk p10 p11)) (V3.mk (Iv.mk p12 p13) (Iv.mk p14 p15) (Iv.mk p16 p17))):M3) ((V3.mk (Iv.mk q0 q1) (Iv.mk q2 q3) (Iv.mk q4 q5)):V3)))) (qG (N:=60) (ps:=[.a [.n .i64 p0,.n .i64 p1,.n .i64 p2,.n .i64 p3,.n .i64 p4,.n .i64 p5,.n .i64 p6,.n .i64 p7,.n .i64 p8,.n .i64 p9,.n .i64 p10,.n .i64 p11,.n .i64 p12,.n .i64 p13,.n .i64 p14,.n .i64 p15,.n .i64 p16,.n .i64 p17],.a [.n .i64 q0,.n .i64 q1,.n .i64 q2,.n .i64 q3,.n .i64 q4,.n .i64 q5]]) yJ yQ (OrL.ok (l:=kGH) yWK) ((by kernel_rfl:_=some (.v (.a [.n .i64 (Iv.add (Iv.add (Iv.add (Iv.mk 0 0) (Iv.mul (Iv.mk p0 p1) (Iv.mk q0 q1))) (Iv.mul (Iv.mk p2 p3) (Iv.mk q2 q3))) (Iv.mul (Iv.mk p4 p5) (Iv.mk q4 q5))).lo,.n .i64 (Iv.add (Iv.add (Iv.add (Iv.mk 0 0) (Iv.mul (Iv.mk p0 p1) (Iv.mk q0 q1))) (Iv.mul (Iv.mk p2 p3) (Iv.mk q2 q3))) (Iv.mul (Iv.mk p4 p5) (Iv.mk q4 q5))).hi,.n .i64 (Iv.add (Iv.add (Iv.add (Iv.mk 0 0) (Iv.mul (Iv.mk p6 p7) (Iv.mk q0 q1))) (Iv.mul (Iv.mk p8 p9) (Iv.mk q2 q3))) (Iv.mul (Iv.mk p10 p11) (Iv.mk q4 q5))).lo,.n .i64 (Iv.add (Iv.add (Iv.add (Iv.mk 0 0) (Iv.mul (Iv.mk p6 p7) (Iv.mk q0 q1))) (Iv.mul (Iv.mk p8 p9) (Iv.mk q2 q3))) (Iv.mul (Iv.mk p10 p11) (Iv.mk q4 q5))).hi,.n .i64 (Iv.add (Iv.add (Iv.add (Iv.mk 0 0) (Iv.mul (Iv.mk p12 p13) (Iv.mk q0 q1))) (Iv.mul (Iv.mk p14 p15) (Iv.mk q2 q3))) (Iv.mul (Iv.mk p16 p17) (Iv.mk q4 q5))).lo,.n .i64 (Iv.add (Iv.add (Iv.add (Iv.mk 0 0) (Iv.mul (Iv.mk p12 p13) (Iv.mk q0 q1))) (Iv.mul (Iv.mk p14 p15) (Iv.mk q2 q3))) (Iv.mul (Iv.mk p16 p17) (Iv.mk q4 q5))).hi]),[])).trans (by simp only [add_zero_mul]; rfl))) rfl rfl w
set_option maxRecDepth 100000 in
theorem rApply (p0 p1 p2 p3 p4 p5 p6 p7 p8 p9 p10 p11 p12 p13 p14 p15 p16 p17:Int) (q0 q1 q2 q3 q4 q5:Int) (w:World):Calls Tryz.prog 46 [.agg #[.int .i64 p0,.int .i64 p1,.int .i64 p2,.int .i64 p3,.int .i64 p4,.int .i64 p5,.int .i64 p6,.int .i64 p7,.int .i64 p8,.int .i64 p9,.int .i64 p10,.int .i64 p11,.int .i64 p12,.int .i64 p13,.int .i64 p14,.int .i64 p15,.int .i64 p16,.int .i64 p17],.agg #[.int .i64 q0,.int .i64 q1,.int .i64 q2,.int .i64 q3,.int .i64 q4,.int .i64 q5]].toArray w (Rets (v3 (M3.apply ((M3.mk (V3.mk (Iv.mk p0 p1) (Iv.mk p2 p3) (Iv.mk p4 p5)) (V3.mk (Iv.mk p6 p7) (Iv.mk p8 p9) (Iv.mk p10 p11)) (V3.mk (Iv.mk p12 p13) (Iv.mk p14 p15) (Iv.mk p16 p17))):M3) ((V3.mk (Iv.mk q0 q1) (Iv.mk q2 q3) (Iv.mk q4 q5)):V3))) w) :=
 zX (x:=.a (v3C (M3.apply ((M3.mk (V3.mk (Iv.mk p0 p1) (Iv.mk p2 p3) (Iv.mk p4 p5)) (V3.mk (Iv.mk p6 p7) (Iv.mk p8 p9) (Iv.mk p10 p11)) (V3.mk (Iv.mk p12 p13) (Iv.mk p14 p15) (Iv.mk p16 p17))):M3) ((V3.mk (Iv.mk q0 q1) (Iv.mk q2 q3) (Iv.mk q4 q5)):V3)))) (qG (N:=60) (ps:=[.a [.n .i64 p0,.n .i64 p1,.n .i64 p2,.n .i64 p3,.n .i64 p4,.n .i64 p5,.n .i64 p6,.n .i64 p7,.n .i64 p8,.n .i64 p9,.n .i64 p10,.n .i64 p11,.n .i64 p12,.n .i64 p13,.n .i64 p14,.n .i64 p15,.n .i64 p16,.n .i64 p17],.a [.n .i64 q0,.n .i64 q1,.n .i64 q2,.n .i64 q3,.n .i64 q4,.n .i64 q5]]) yJ yQ (OrL.ok (l:=kGH) yWK) ((by kernel_rfl:_=some (.v (.a [.n .i64 (Iv.add (Iv.add (Iv.mul (Iv.mk p0 p1) (Iv.mk q0 q1)) (Iv.mul (Iv.mk p2 p3) (Iv.mk q2 q3))) (Iv.mul (Iv.mk p4 p5) (Iv.mk q4 q5))).lo,.n .i64 (Iv.add (Iv.add (Iv.mul (Iv.mk p0 p1) (Iv.mk q0 q1)) (Iv.mul (Iv.mk p2 p3) (Iv.mk q2 q3))) (Iv.mul (Iv.mk p4 p5) (Iv.mk q4 q5))).hi,.n .i64 (Iv.add (Iv.add (Iv.mul (Iv.mk p6 p7) (Iv.mk q0 q1)) (Iv.mul (Iv.mk p8 p9) (Iv.mk q2 q3))) (Iv.mul (Iv.mk p10 p11) (Iv.mk q4 q5))).lo,.n .i64 (Iv.add (Iv.add (Iv.mul (Iv.mk p6 p7) (Iv.mk q0 q1)) (Iv.mul (Iv.mk p8 p9) (Iv.mk q2 q3))) (Iv.mul (Iv.mk p10 p11) (Iv.mk q4 q5))).hi,.n .i64 (Iv.add (Iv.add (Iv.mul (Iv.mk p12 p13) (Iv.mk q0 q1)) (Iv.mul (Iv.mk p14 p15) (Iv.mk q2 q3))) (Iv.mul (Iv.mk p16 p17) (Iv.mk q4 q5))).lo,.n .i64 (Iv.add (Iv.add (Iv.mul (Iv.mk p12 p13) (Iv.mk q0 q1)) (Iv.mul (Iv.mk p14 p15) (Iv.mk q2 q3))) (Iv.mul (Iv.mk p16 p17) (Iv.mk q4 q5))).hi]),[])).trans (by rfl))) rfl rfl w
end Go.Proofs.YtmffoiemmlcmfaaGreat
namespace Go.Proofs.YtmffoiemmlcmfaaGreat
open Go.Sx Go.Rx Rt Go.RowKit
namespace Tp
end Tp
open Tp
theorem la53:qKJ Tryz.prog 53=some ([.int .i64 0,.int .i64 0,.int .i64 0],[(0,1),(1,1),(2,1)]):=by kernel_rfl
theorem ze88:qYU Tryz.prog 88 (.agg #[.int .i64 0,.int .i64 0,.int .i64 0,.int .i64 0,.int .i64 0,.int .i64 0,.int .i64 0,.int .i64 0,.int .i64 0,.int .i64 0,.int .i64 0,.int .i64 0,.int .i64 0,.int .i64 0,.int .i64 0,.int .i64 0,.int .i64 0,.int .i64 0,.int .i64 0,.int .i64 0,.int .i64 0,.int .i64 0,.int .i64 0,.int .i64 0]):=by unfold qYU; kernel_rfl
theorem ty88:tyB Tryz.prog 88 true 24=true:=by kernel_rfl
namespace Tp
noncomputable def zHQ:List PV→Option (Bool × Ret):=fun ps=>match ps with
 | []=>some (true,.v (.a (m3C (M3.unit))))
 | _=>none
theorem ok_mIdentity:zW Tryz.prog 155 zHQ:=by
 intro ps r h;unfold zHQ at h;split at h
 ·simp only [vQZ,vQY] at h;obtain ⟨hg,rfl⟩:=h;exact zJ (zQ Tryz.func155 (by kernel_rfl) (by kernel_rfl)) rfl rfl (fun w=>mIdentity  w)
 ·cases h
noncomputable def LTp1:OrL:=(155,zHQ) :: ([]:OrL)
theorem LTp1_ok:AllP (fun x:Nat × (List PV→Option (Bool × Ret))=>zW Tryz.prog x.1 x.2) LTp1:=⟨ok_mIdentity,trivial⟩
noncomputable def kQU:List PV→Option (Bool × Ret):=fun ps=>match ps with
 | [.n .i64 k,.a a']=>(ivD a').bind fun a=>some (true,.v (.a (m3C (M3.turn k a))))
 | _=>none
theorem ok_mTurn:zW Tryz.prog 173 kQU:=by
 intro ps r h;unfold kQU at h;split at h
 ·simp only [vQQ,vQZ,vQY] at h;obtain ⟨a,ha,hg,rfl⟩:=h;rw [qZY ha];exact zJ (zQ Tryz.func173 (by kernel_rfl) (by kernel_rfl)) rfl rfl (fun w=>mTurn _ _ _ w)
 ·cases h
noncomputable def LTp2:OrL:=(173,kQU) :: LTp1
theorem LTp2_ok:AllP (fun x:Nat × (List PV→Option (Bool × Ret))=>zW Tryz.prog x.1 x.2) LTp2:=⟨ok_mTurn,LTp1_ok⟩
noncomputable def yKZ:List PV→Option (Bool × Ret):=fun ps=>match ps with
 | [.a m',.a n']=>(m3D m').bind fun m=>(m3D n').bind fun n=>some (true,.v (.a (m3C (M3.mul m n))))
 | _=>none
theorem ok_mCompose:zW Tryz.prog 149 yKZ:=by
 intro ps r h;unfold yKZ at h;split at h
 ·simp only [vQQ,vQZ,vQY] at h;obtain ⟨m,hm,n,hn,hg,rfl⟩:=h;rw [yHK hm];rw [yHK hn];exact zJ (zQ Tryz.func149 (by kernel_rfl) (by kernel_rfl)) rfl rfl (fun w=>mCompose _ _ _ _ _ _ _ _ _ _ _ _ _ _ _ _ _ _ _ _ _ _ _ _ _ _ _ _ _ _ _ _ _ _ _ _ w)
 ·cases h
noncomputable def LTp3:OrL:=(149,yKZ) :: LTp2
theorem LTp3_ok:AllP (fun x:Nat × (List PV→Option (Bool × Ret))=>zW Tryz.prog x.1 x.2) LTp3:=⟨ok_mCompose,LTp2_ok⟩
noncomputable def o_mApply:List PV→Option (Bool × Ret):=fun ps=>match ps with
 | [.a m',.a v']=>(m3D m').bind fun m=>(v3D v').bind fun v=>some (true,.v (.a (v3C (M3.apply m v))))
 | _=>none
theorem ok_mApply:zW Tryz.prog 140 o_mApply:=by
 intro ps r h;unfold o_mApply at h;split at h
 ·simp only [vQQ,vQZ,vQY] at h;obtain ⟨m,hm,v,hv,hg,rfl⟩:=h;rw [yHK hm];rw [zJK hv];exact zJ (zQ Tryz.func140 (by kernel_rfl) (by kernel_rfl)) rfl rfl (fun w=>mApply _ _ _ _ _ _ _ _ _ _ _ _ _ _ _ _ _ _ _ _ _ _ _ _ w)
 ·cases h
noncomputable def LTp4:OrL:=(140,o_mApply) :: LTp3
theorem LTp4_ok:AllP (fun x:Nat × (List PV→Option (Bool × Ret))=>zW Tryz.prog x.1 x.2) LTp4:=⟨ok_mApply,LTp3_ok⟩
noncomputable def kVQ:List PV→Option (Bool × Ret):=fun ps=>match ps with
 | [.a v',.a w']=>(v3D v').bind fun v=>(v3D w').bind fun w=>some (true,.v (.a (v3C (V3.add v w))))
 | _=>none
theorem ok_mAdd:zW Tryz.prog 160 kVQ:=by
 intro ps r h;unfold kVQ at h;split at h
 ·simp only [vQQ,vQZ,vQY] at h;obtain ⟨v,hv,w,hw,hg,rfl⟩:=h;rw [zJK hv];rw [zJK hw];exact zJ (zQ Tryz.func160 (by kernel_rfl) (by kernel_rfl)) rfl rfl (fun w=>mAdd _ _ _ _ _ _ _ _ _ _ _ _ w)
 ·cases h
noncomputable def LTp5:OrL:=(160,kVQ) :: LTp4
theorem LTp5_ok:AllP (fun x:Nat × (List PV→Option (Bool × Ret))=>zW Tryz.prog x.1 x.2) LTp5:=⟨ok_mAdd,LTp4_ok⟩
noncomputable def jHV:List PV→Option (Bool × Ret):=fun ps=>match ps with
 | []=>some (true,.v (.a (m3C (M3.unit))))
 | _=>none
theorem ok_rUnit:zW Tryz.prog 130 jHV:=by
 intro ps r h;unfold jHV at h;split at h
 ·simp only [vQZ,vQY] at h;obtain ⟨hg,rfl⟩:=h;exact zJ (zQ Tryz.func130 (by kernel_rfl) (by kernel_rfl)) rfl rfl (fun w=>rUnit  w)
 ·cases h
noncomputable def LTp6:OrL:=(130,jHV) :: LTp5
theorem LTp6_ok:AllP (fun x:Nat × (List PV→Option (Bool × Ret))=>zW Tryz.prog x.1 x.2) LTp6:=⟨ok_rUnit,LTp5_ok⟩
noncomputable def jHG:List PV→Option (Bool × Ret):=fun ps=>match ps with
 | [.n .i64 k,.a a']=>(ivD a').bind fun a=>some (true,.v (.a (m3C (M3.turn k a))))
 | _=>none
theorem ok_rTurn:zW Tryz.prog 131 jHG:=by
 intro ps r h;unfold jHG at h;split at h
 ·simp only [vQQ,vQZ,vQY] at h;obtain ⟨a,ha,hg,rfl⟩:=h;rw [qZY ha];exact zJ (zQ Tryz.func131 (by kernel_rfl) (by kernel_rfl)) rfl rfl (fun w=>rTurn _ _ _ w)
 ·cases h
noncomputable def LTp7:OrL:=(131,jHG) :: LTp6
theorem LTp7_ok:AllP (fun x:Nat × (List PV→Option (Bool × Ret))=>zW Tryz.prog x.1 x.2) LTp7:=⟨ok_rTurn,LTp6_ok⟩
noncomputable def yJG:List PV→Option (Bool × Ret):=fun ps=>match ps with
 | [.a m',.a n']=>(m3D m').bind fun m=>(m3D n').bind fun n=>some (true,.v (.a (m3C (M3.mul m n))))
 | _=>none
theorem ok_rCompose:zW Tryz.prog 104 yJG:=by
 intro ps r h;unfold yJG at h;split at h
 ·simp only [vQQ,vQZ,vQY] at h;obtain ⟨m,hm,n,hn,hg,rfl⟩:=h;rw [yHK hm];rw [yHK hn];exact zJ (zQ Tryz.func104 (by kernel_rfl) (by kernel_rfl)) rfl rfl (fun w=>rCompose _ _ _ _ _ _ _ _ _ _ _ _ _ _ _ _ _ _ _ _ _ _ _ _ _ _ _ _ _ _ _ _ _ _ _ _ w)
 ·cases h
noncomputable def LTp8:OrL:=(104,yJG) :: LTp7
theorem LTp8_ok:AllP (fun x:Nat × (List PV→Option (Bool × Ret))=>zW Tryz.prog x.1 x.2) LTp8:=⟨ok_rCompose,LTp7_ok⟩
noncomputable def zKH:List PV→Option (Bool × Ret):=fun ps=>match ps with
 | [.a m',.a v']=>(m3D m').bind fun m=>(v3D v').bind fun v=>some (true,.v (.a (v3C (M3.apply m v))))
 | _=>none
theorem yGK:zW Tryz.prog 46 zKH:=by
 intro ps r h;unfold zKH at h;split at h
 ·simp only [vQQ,vQZ,vQY] at h;obtain ⟨m,hm,v,hv,hg,rfl⟩:=h;rw [yHK hm];rw [zJK hv];exact zJ (zQ Tryz.func46 (by kernel_rfl) (by kernel_rfl)) rfl rfl (fun w=>rApply _ _ _ _ _ _ _ _ _ _ _ _ _ _ _ _ _ _ _ _ _ _ _ _ w)
 ·cases h
noncomputable def LTp9:OrL:=(46,zKH) :: LTp8
theorem LTp9_ok:AllP (fun x:Nat × (List PV→Option (Bool × Ret))=>zW Tryz.prog x.1 x.2) LTp9:=⟨yGK,LTp8_ok⟩
noncomputable def yGH:List PV→Option (Bool × Ret):=fun ps=>match ps with
 | [.a v',.a w']=>(v3D v').bind fun v=>(v3D w').bind fun w=>some (true,.v (.a (v3C (V3.add v w))))
 | _=>none
theorem ok_rAddVec:zW Tryz.prog 71 yGH:=by
 intro ps r h;unfold yGH at h;split at h
 ·simp only [vQQ,vQZ,vQY] at h;obtain ⟨v,hv,w,hw,hg,rfl⟩:=h;rw [zJK hv];rw [zJK hw];exact zJ (zQ Tryz.func71 (by kernel_rfl) (by kernel_rfl)) rfl rfl (fun w=>rAddVec _ _ _ _ _ _ _ _ _ _ _ _ w)
 ·cases h
noncomputable def jQH:OrL:=(71,yGH) :: LTp9
theorem qHK:AllP (fun x:Nat × (List PV→Option (Bool × Ret))=>zW Tryz.prog x.1 x.2) jQH:=⟨ok_rAddVec,LTp9_ok⟩
end Tp
set_option maxRecDepth 100000 in
theorem pShift (va0 va1 va2 va3 va4 va5:Int) (w:World):Calls Tryz.prog 146 [.agg #[.int .i64 va0,.int .i64 va1,.int .i64 va2,.int .i64 va3,.int .i64 va4,.int .i64 va5]].toArray w (Rets (po (Po.shift (⟨⟨va0,va1⟩,⟨va2,va3⟩,⟨va4,va5⟩⟩:V3))) (w)) :=
 zX (x:=.a (poC (Po.shift (⟨⟨va0,va1⟩,⟨va2,va3⟩,⟨va4,va5⟩⟩:V3)))) (qG (N:=60) (ps:=[.a (ivs [⟨va0,va1⟩,⟨va2,va3⟩,⟨va4,va5⟩])]) yJ yQ (OrL.ok (l:=jQH) qHK) (by kernel_rfl)) rfl rfl w
set_option maxRecDepth 100000 in
theorem pIdentity  (w:World):Calls Tryz.prog 168 [].toArray w (Rets (po (Po.rest)) (w)) :=
 zX (x:=.a (poC Po.rest)) (qG (N:=60) (ps:=[]) yJ yQ (OrL.ok (l:=jQH) qHK) (by kernel_rfl)) rfl rfl w
set_option maxRecDepth 100000 in
theorem pTurn (axis:Int) (a0 a1:Int) (w:World):Calls Tryz.prog 167 [.int .i64 axis,.agg #[.int .i64 a0,.int .i64 a1]].toArray w (Rets (po (Po.turn axis (⟨a0,a1⟩:Iv))) (w)) :=
 zX (x:=.a (poC (Po.turn axis ⟨a0,a1⟩))) (qG (N:=60) (ps:=[.n .i64 axis,.a [.n .i64 a0,.n .i64 a1]]) yJ yQ (OrL.ok (l:=jQH) qHK) (by kernel_rfl)) rfl rfl w
set_option maxRecDepth 100000 in
theorem pCompose (pa0 pa1 pa2 pa3 pa4 pa5 pa6 pa7 pa8 pa9 pa10 pa11 pa12 pa13 pa14 pa15 pa16 pa17 pa18 pa19 pa20 pa21 pa22 pa23:Int) (qa0 qa1 qa2 qa3 qa4 qa5 qa6 qa7 qa8 qa9 qa10 qa11 qa12 qa13 qa14 qa15 qa16 qa17 qa18 qa19 qa20 qa21 qa22 qa23:Int) (w:World):Calls Tryz.prog 139 [.agg #[.int .i64 pa0,.int .i64 pa1,.int .i64 pa2,.int .i64 pa3,.int .i64 pa4,.int .i64 pa5,.int .i64 pa6,.int .i64 pa7,.int .i64 pa8,.int .i64 pa9,.int .i64 pa10,.int .i64 pa11,.int .i64 pa12,.int .i64 pa13,.int .i64 pa14,.int .i64 pa15,.int .i64 pa16,.int .i64 pa17,.int .i64 pa18,.int .i64 pa19,.int .i64 pa20,.int .i64 pa21,.int .i64 pa22,.int .i64 pa23],.agg #[.int .i64 qa0,.int .i64 qa1,.int .i64 qa2,.int .i64 qa3,.int .i64 qa4,.int .i64 qa5,.int .i64 qa6,.int .i64 qa7,.int .i64 qa8,.int .i64 qa9,.int .i64 qa10,.int .i64 qa11,.int .i64 qa12,.int .i64 qa13,.int .i64 qa14,.int .i64 qa15,.int .i64 qa16,.int .i64 qa17,.int .i64 qa18,.int .i64 qa19,.int .i64 qa20,.int .i64 qa21,.int .i64 qa22,.int .i64 qa23]].toArray w (Rets (po (Po.mul (⟨⟨⟨⟨pa0,pa1⟩,⟨pa2,pa3⟩,⟨pa4,pa5⟩⟩,⟨⟨pa6,pa7⟩,⟨pa8,pa9⟩,⟨pa10,pa11⟩⟩,⟨⟨pa12,pa13⟩,⟨pa14,pa15⟩,⟨pa16,pa17⟩⟩⟩,⟨⟨pa18,pa19⟩,⟨pa20,pa21⟩,⟨pa22,pa23⟩⟩⟩:Po) (⟨⟨⟨⟨qa0,qa1⟩,⟨qa2,qa3⟩,⟨qa4,qa5⟩⟩,⟨⟨qa6,qa7⟩,⟨qa8,qa9⟩,⟨qa10,qa11⟩⟩,⟨⟨qa12,qa13⟩,⟨qa14,qa15⟩,⟨qa16,qa17⟩⟩⟩,⟨⟨qa18,qa19⟩,⟨qa20,qa21⟩,⟨qa22,qa23⟩⟩⟩:Po))) (w)) :=
 zX (x:=.a (poC (Po.mul (⟨(⟨⟨⟨pa0,pa1⟩,⟨pa2,pa3⟩,⟨pa4,pa5⟩⟩,⟨⟨pa6,pa7⟩,⟨pa8,pa9⟩,⟨pa10,pa11⟩⟩,⟨⟨pa12,pa13⟩,⟨pa14,pa15⟩,⟨pa16,pa17⟩⟩⟩:M3),⟨⟨pa18,pa19⟩,⟨pa20,pa21⟩,⟨pa22,pa23⟩⟩⟩:Po) (⟨(⟨⟨⟨qa0,qa1⟩,⟨qa2,qa3⟩,⟨qa4,qa5⟩⟩,⟨⟨qa6,qa7⟩,⟨qa8,qa9⟩,⟨qa10,qa11⟩⟩,⟨⟨qa12,qa13⟩,⟨qa14,qa15⟩,⟨qa16,qa17⟩⟩⟩:M3),⟨⟨qa18,qa19⟩,⟨qa20,qa21⟩,⟨qa22,qa23⟩⟩⟩:Po)))) (qG (N:=60) (ps:=[.a (ivs [⟨pa0,pa1⟩,⟨pa2,pa3⟩,⟨pa4,pa5⟩,⟨pa6,pa7⟩,⟨pa8,pa9⟩,⟨pa10,pa11⟩,⟨pa12,pa13⟩,⟨pa14,pa15⟩,⟨pa16,pa17⟩,⟨pa18,pa19⟩,⟨pa20,pa21⟩,⟨pa22,pa23⟩]),.a (ivs [⟨qa0,qa1⟩,⟨qa2,qa3⟩,⟨qa4,qa5⟩,⟨qa6,qa7⟩,⟨qa8,qa9⟩,⟨qa10,qa11⟩,⟨qa12,qa13⟩,⟨qa14,qa15⟩,⟨qa16,qa17⟩,⟨qa18,qa19⟩,⟨qa20,qa21⟩,⟨qa22,qa23⟩])]) yJ yQ (OrL.ok (l:=jQH) qHK) (by kernel_rfl)) rfl rfl w
set_option maxRecDepth 100000 in
theorem pApply (pa0 pa1 pa2 pa3 pa4 pa5 pa6 pa7 pa8 pa9 pa10 pa11 pa12 pa13 pa14 pa15 pa16 pa17 pa18 pa19 pa20 pa21 pa22 pa23:Int) (va0 va1 va2 va3 va4 va5:Int) (w:World):Calls Tryz.prog 141 [.agg #[.int .i64 pa0,.int .i64 pa1,.int .i64 pa2,.int .i64 pa3,.int .i64 pa4,.int .i64 pa5,.int .i64 pa6,.int .i64 pa7,.int .i64 pa8,.int .i64 pa9,.int .i64 pa10,.int .i64 pa11,.int .i64 pa12,.int .i64 pa13,.int .i64 pa14,.int .i64 pa15,.int .i64 pa16,.int .i64 pa17,.int .i64 pa18,.int .i64 pa19,.int .i64 pa20,.int .i64 pa21,.int .i64 pa22,.int .i64 pa23],.agg #[.int .i64 va0,.int .i64 va1,.int .i64 va2,.int .i64 va3,.int .i64 va4,.int .i64 va5]].toArray w (Rets (v3 (Po.app (⟨⟨⟨⟨pa0,pa1⟩,⟨pa2,pa3⟩,⟨pa4,pa5⟩⟩,⟨⟨pa6,pa7⟩,⟨pa8,pa9⟩,⟨pa10,pa11⟩⟩,⟨⟨pa12,pa13⟩,⟨pa14,pa15⟩,⟨pa16,pa17⟩⟩⟩,⟨⟨pa18,pa19⟩,⟨pa20,pa21⟩,⟨pa22,pa23⟩⟩⟩:Po) (⟨⟨va0,va1⟩,⟨va2,va3⟩,⟨va4,va5⟩⟩:V3))) (w)) :=
 zX (x:=.a (v3C (Po.app (⟨(⟨⟨⟨pa0,pa1⟩,⟨pa2,pa3⟩,⟨pa4,pa5⟩⟩,⟨⟨pa6,pa7⟩,⟨pa8,pa9⟩,⟨pa10,pa11⟩⟩,⟨⟨pa12,pa13⟩,⟨pa14,pa15⟩,⟨pa16,pa17⟩⟩⟩:M3),⟨⟨pa18,pa19⟩,⟨pa20,pa21⟩,⟨pa22,pa23⟩⟩⟩:Po) (⟨⟨va0,va1⟩,⟨va2,va3⟩,⟨va4,va5⟩⟩:V3)))) (qG (N:=60) (ps:=[.a (ivs [⟨pa0,pa1⟩,⟨pa2,pa3⟩,⟨pa4,pa5⟩,⟨pa6,pa7⟩,⟨pa8,pa9⟩,⟨pa10,pa11⟩,⟨pa12,pa13⟩,⟨pa14,pa15⟩,⟨pa16,pa17⟩,⟨pa18,pa19⟩,⟨pa20,pa21⟩,⟨pa22,pa23⟩]),.a (ivs [⟨va0,va1⟩,⟨va2,va3⟩,⟨va4,va5⟩])]) yJ yQ (OrL.ok (l:=jQH) qHK) (by kernel_rfl)) rfl rfl w
set_option maxRecDepth 100000 in
theorem qShift (va0 va1 va2 va3 va4 va5:Int) (w:World):Calls Tryz.prog 103 [.agg #[.int .i64 va0,.int .i64 va1,.int .i64 va2,.int .i64 va3,.int .i64 va4,.int .i64 va5]].toArray w (Rets (po (Po.shift (⟨⟨va0,va1⟩,⟨va2,va3⟩,⟨va4,va5⟩⟩:V3))) (w)) :=
 zX (x:=.a (poC (Po.shift (⟨⟨va0,va1⟩,⟨va2,va3⟩,⟨va4,va5⟩⟩:V3)))) (qG (N:=60) (ps:=[.a (ivs [⟨va0,va1⟩,⟨va2,va3⟩,⟨va4,va5⟩])]) yJ yQ (OrL.ok (l:=jQH) qHK) (by kernel_rfl)) rfl rfl w
set_option maxRecDepth 100000 in
theorem qRest  (w:World):Calls Tryz.prog 101 [].toArray w (Rets (po (Po.rest)) (w)) :=
 zX (x:=.a (poC Po.rest)) (qG (N:=60) (ps:=[]) yJ yQ (OrL.ok (l:=jQH) qHK) (by kernel_rfl)) rfl rfl w
set_option maxRecDepth 100000 in
theorem qTurn (axis:Int) (a0 a1:Int) (w:World):Calls Tryz.prog 102 [.int .i64 axis,.agg #[.int .i64 a0,.int .i64 a1]].toArray w (Rets (po (Po.turn axis (⟨a0,a1⟩:Iv))) (w)) :=
 zX (x:=.a (poC (Po.turn axis ⟨a0,a1⟩))) (qG (N:=60) (ps:=[.n .i64 axis,.a [.n .i64 a0,.n .i64 a1]]) yJ yQ (OrL.ok (l:=jQH) qHK) (by kernel_rfl)) rfl rfl w
set_option maxRecDepth 100000 in
theorem qCompose (pa0 pa1 pa2 pa3 pa4 pa5 pa6 pa7 pa8 pa9 pa10 pa11 pa12 pa13 pa14 pa15 pa16 pa17 pa18 pa19 pa20 pa21 pa22 pa23:Int) (qa0 qa1 qa2 qa3 qa4 qa5 qa6 qa7 qa8 qa9 qa10 qa11 qa12 qa13 qa14 qa15 qa16 qa17 qa18 qa19 qa20 qa21 qa22 qa23:Int) (w:World):Calls Tryz.prog 69 [.agg #[.int .i64 pa0,.int .i64 pa1,.int .i64 pa2,.int .i64 pa3,.int .i64 pa4,.int .i64 pa5,.int .i64 pa6,.int .i64 pa7,.int .i64 pa8,.int .i64 pa9,.int .i64 pa10,.int .i64 pa11,.int .i64 pa12,.int .i64 pa13,.int .i64 pa14,.int .i64 pa15,.int .i64 pa16,.int .i64 pa17,.int .i64 pa18,.int .i64 pa19,.int .i64 pa20,.int .i64 pa21,.int .i64 pa22,.int .i64 pa23],.agg #[.int .i64 qa0,.int .i64 qa1,.int .i64 qa2,.int .i64 qa3,.int .i64 qa4,.int .i64 qa5,.int .i64 qa6,.int .i64 qa7,.int .i64 qa8,.int .i64 qa9,.int .i64 qa10,.int .i64 qa11,.int .i64 qa12,.int .i64 qa13,.int .i64 qa14,.int .i64 qa15,.int .i64 qa16,.int .i64 qa17,.int .i64 qa18,.int .i64 qa19,.int .i64 qa20,.int .i64 qa21,.int .i64 qa22,.int .i64 qa23]].toArray w (Rets (po (Po.mul (⟨⟨⟨⟨pa0,pa1⟩,⟨pa2,pa3⟩,⟨pa4,pa5⟩⟩,⟨⟨pa6,pa7⟩,⟨pa8,pa9⟩,⟨pa10,pa11⟩⟩,⟨⟨pa12,pa13⟩,⟨pa14,pa15⟩,⟨pa16,pa17⟩⟩⟩,⟨⟨pa18,pa19⟩,⟨pa20,pa21⟩,⟨pa22,pa23⟩⟩⟩:Po) (⟨⟨⟨⟨qa0,qa1⟩,⟨qa2,qa3⟩,⟨qa4,qa5⟩⟩,⟨⟨qa6,qa7⟩,⟨qa8,qa9⟩,⟨qa10,qa11⟩⟩,⟨⟨qa12,qa13⟩,⟨qa14,qa15⟩,⟨qa16,qa17⟩⟩⟩,⟨⟨qa18,qa19⟩,⟨qa20,qa21⟩,⟨qa22,qa23⟩⟩⟩:Po))) (w)) :=
 zX (x:=.a (poC (Po.mul (⟨(⟨⟨⟨pa0,pa1⟩,⟨pa2,pa3⟩,⟨pa4,pa5⟩⟩,⟨⟨pa6,pa7⟩,⟨pa8,pa9⟩,⟨pa10,pa11⟩⟩,⟨⟨pa12,pa13⟩,⟨pa14,pa15⟩,⟨pa16,pa17⟩⟩⟩:M3),⟨⟨pa18,pa19⟩,⟨pa20,pa21⟩,⟨pa22,pa23⟩⟩⟩:Po) (⟨(⟨⟨⟨qa0,qa1⟩,⟨qa2,qa3⟩,⟨qa4,qa5⟩⟩,⟨⟨qa6,qa7⟩,⟨qa8,qa9⟩,⟨qa10,qa11⟩⟩,⟨⟨qa12,qa13⟩,⟨qa14,qa15⟩,⟨qa16,qa17⟩⟩⟩:M3),⟨⟨qa18,qa19⟩,⟨qa20,qa21⟩,⟨qa22,qa23⟩⟩⟩:Po)))) (qG (N:=60) (ps:=[.a (ivs [⟨pa0,pa1⟩,⟨pa2,pa3⟩,⟨pa4,pa5⟩,⟨pa6,pa7⟩,⟨pa8,pa9⟩,⟨pa10,pa11⟩,⟨pa12,pa13⟩,⟨pa14,pa15⟩,⟨pa16,pa17⟩,⟨pa18,pa19⟩,⟨pa20,pa21⟩,⟨pa22,pa23⟩]),.a (ivs [⟨qa0,qa1⟩,⟨qa2,qa3⟩,⟨qa4,qa5⟩,⟨qa6,qa7⟩,⟨qa8,qa9⟩,⟨qa10,qa11⟩,⟨qa12,qa13⟩,⟨qa14,qa15⟩,⟨qa16,qa17⟩,⟨qa18,qa19⟩,⟨qa20,qa21⟩,⟨qa22,qa23⟩])]) yJ yQ (OrL.ok (l:=jQH) qHK) (by kernel_rfl)) rfl rfl w
set_option maxRecDepth 100000 in
theorem qApply (pa0 pa1 pa2 pa3 pa4 pa5 pa6 pa7 pa8 pa9 pa10 pa11 pa12 pa13 pa14 pa15 pa16 pa17 pa18 pa19 pa20 pa21 pa22 pa23:Int) (va0 va1 va2 va3 va4 va5:Int) (w:World):Calls Tryz.prog 45 [.agg #[.int .i64 pa0,.int .i64 pa1,.int .i64 pa2,.int .i64 pa3,.int .i64 pa4,.int .i64 pa5,.int .i64 pa6,.int .i64 pa7,.int .i64 pa8,.int .i64 pa9,.int .i64 pa10,.int .i64 pa11,.int .i64 pa12,.int .i64 pa13,.int .i64 pa14,.int .i64 pa15,.int .i64 pa16,.int .i64 pa17,.int .i64 pa18,.int .i64 pa19,.int .i64 pa20,.int .i64 pa21,.int .i64 pa22,.int .i64 pa23],.agg #[.int .i64 va0,.int .i64 va1,.int .i64 va2,.int .i64 va3,.int .i64 va4,.int .i64 va5]].toArray w (Rets (v3 (Po.app (⟨⟨⟨⟨pa0,pa1⟩,⟨pa2,pa3⟩,⟨pa4,pa5⟩⟩,⟨⟨pa6,pa7⟩,⟨pa8,pa9⟩,⟨pa10,pa11⟩⟩,⟨⟨pa12,pa13⟩,⟨pa14,pa15⟩,⟨pa16,pa17⟩⟩⟩,⟨⟨pa18,pa19⟩,⟨pa20,pa21⟩,⟨pa22,pa23⟩⟩⟩:Po) (⟨⟨va0,va1⟩,⟨va2,va3⟩,⟨va4,va5⟩⟩:V3))) (w)) :=
 zX (x:=.a (v3C (Po.app (⟨(⟨⟨⟨pa0,pa1⟩,⟨pa2,pa3⟩,⟨pa4,pa5⟩⟩,⟨⟨pa6,pa7⟩,⟨pa8,pa9⟩,⟨pa10,pa11⟩⟩,⟨⟨pa12,pa13⟩,⟨pa14,pa15⟩,⟨pa16,pa17⟩⟩⟩:M3),⟨⟨pa18,pa19⟩,⟨pa20,pa21⟩,⟨pa22,pa23⟩⟩⟩:Po) (⟨⟨va0,va1⟩,⟨va2,va3⟩,⟨va4,va5⟩⟩:V3)))) (qG (N:=60) (ps:=[.a (ivs [⟨pa0,pa1⟩,⟨pa2,pa3⟩,⟨pa4,pa5⟩,⟨pa6,pa7⟩,⟨pa8,pa9⟩,⟨pa10,pa11⟩,⟨pa12,pa13⟩,⟨pa14,pa15⟩,⟨pa16,pa17⟩,⟨pa18,pa19⟩,⟨pa20,pa21⟩,⟨pa22,pa23⟩]),.a (ivs [⟨va0,va1⟩,⟨va2,va3⟩,⟨va4,va5⟩])]) yJ yQ (OrL.ok (l:=jQH) qHK) (by kernel_rfl)) rfl rfl w
end Go.Proofs.YtmffoiemmlcmfaaGreat
namespace Go.Proofs.YtmffoiemmlcmfaaGreat.Od
open Go.Rx Rt Go.Sx Go.RowKit
noncomputable def zUQ:List PV→Option (Bool × Ret):=fun ps=>match ps with
 | [.n .i64 n,.n .i64 k]=>some (decide (0 < k∧k≤9223372036854775807),.v (.n .i64 (n % k)))
 | _=>none
theorem yGU:zW Tryz.prog 9 zUQ:=by
 intro ps r h;unfold zUQ at h;split at h
 ·simp only [vQZ,vQY] at h;obtain ⟨hg,rfl⟩:=h;exact zJ (zQ Tryz.func9 (by kernel_rfl) (by kernel_rfl)) rfl rfl (fun w=>kJZ _ _ (vJZ hg) w)
 ·cases h
noncomputable def L1:OrL:=(9,zUQ) :: ([]:OrL)
theorem uZU:AllP (fun x:Nat × (List PV→Option (Bool × Ret))=>zW Tryz.prog x.1 x.2) L1:=⟨yGU,trivial⟩
noncomputable def L2:OrL:=(59,Ta.o_iOf) :: L1
theorem kHY:AllP (fun x:Nat × (List PV→Option (Bool × Ret))=>zW Tryz.prog x.1 x.2) L2:=⟨Ta.ok_iOf,uZU⟩
noncomputable def jJX:List PV→Option (Bool × Ret):=fun ps=>match ps with
 | [.a p',.a v']=>(poD p').bind fun p=>(v3D v').bind fun v=>some (true,.v (.a (v3C (Po.app p v))))
 | _=>none
theorem ok_pApply:zW Tryz.prog 141 jJX:=by
 intro ps r h;unfold jJX at h;split at h
 ·simp only [vQQ,vQZ,vQY] at h;obtain ⟨p,hp,v,hv,hg,rfl⟩:=h;rw [jZW hp];rw [zJK hv];exact zJ (zQ Tryz.func141 (by kernel_rfl) (by kernel_rfl)) rfl rfl (fun w=>pApply _ _ _ _ _ _ _ _ _ _ _ _ _ _ _ _ _ _ _ _ _ _ _ _ _ _ _ _ _ _ w)
 ·cases h
noncomputable def L3:OrL:=(141,jJX) :: L2
theorem L3_ok:AllP (fun x:Nat × (List PV→Option (Bool × Ret))=>zW Tryz.prog x.1 x.2) L3:=⟨ok_pApply,kHY⟩
noncomputable def L4:OrL:=(140,Tp.o_mApply) :: L3
theorem L4_ok:AllP (fun x:Nat × (List PV→Option (Bool × Ret))=>zW Tryz.prog x.1 x.2) L4:=⟨Tp.ok_mApply,L3_ok⟩
noncomputable def zUZ:List PV→Option (Bool × Ret):=fun ps=>match ps with
 | [.a z']=>(z3D z').bind fun z=>some (true,.v (.a (v3C (V3.of z))))
 | _=>none
theorem yGX:zW Tryz.prog 88 zUZ:=by
 intro ps r h;unfold zUZ at h;split at h
 ·simp only [vQQ,vQZ,vQY] at h;obtain ⟨z,hz,hg,rfl⟩:=h;rw [yWX hz];exact zJ (zQ Tryz.func88 (by kernel_rfl) (by kernel_rfl)) rfl rfl (fun w=>mPoint _ _ _ w)
 ·cases h
noncomputable def L5:OrL:=(88,zUZ) :: L4
theorem L5_ok:AllP (fun x:Nat × (List PV→Option (Bool × Ret))=>zW Tryz.prog x.1 x.2) L5:=⟨yGX,L4_ok⟩
set_option maxRecDepth 100000 in
theorem tr_sDot (nx:Int) (ny:Int) (nz:Int) (v0:Int) (v1:Int) (v2:Int) (v3:Int) (v4:Int) (v5:Int):runK T (OrL.k L5) 60 89 [.a [.n .i64 nx,.n .i64 ny,.n .i64 nz],.a [.n .i64 v0,.n .i64 v1,.n .i64 v2,.n .i64 v3,.n .i64 v4,.n .i64 v5]] =
 bif (decide (nx < (-16384))) then some (.v (.t [.n .i64 0,.n .i64 0]),[])
 else bif (decide (16384 < nx)) then some (.v (.t [.n .i64 0,.n .i64 0]),[])
 else bif (decide (ny < (-16384))) then some (.v (.t [.n .i64 0,.n .i64 0]),[])
 else bif (decide (16384 < ny)) then some (.v (.t [.n .i64 0,.n .i64 0]),[])
 else bif (decide (nz < (-16384))) then some (.v (.t [.n .i64 0,.n .i64 0]),[])
 else bif (decide (16384 < nz)) then some (.v (.t [.n .i64 0,.n .i64 0]),[])
 else bif (!((decide (nx=0)) && ((decide (ny=0)) && ((decide (nz=0)) && true)))) then (bif (decide (v0 < (-268435456))) then some (.v (.t [.n .i64 0,.n .i64 0]),[])
  else bif (decide (v1 < v0)) then some (.v (.t [.n .i64 0,.n .i64 0]),[])
  else bif (decide (268435456 < v1)) then some (.v (.t [.n .i64 0,.n .i64 0]),[])
  else bif (decide (v2 < (-268435456))) then some (.v (.t [.n .i64 0,.n .i64 0]),[])
  else bif (decide (v3 < v2)) then some (.v (.t [.n .i64 0,.n .i64 0]),[])
  else bif (decide (268435456 < v3)) then some (.v (.t [.n .i64 0,.n .i64 0]),[])
  else bif (decide (v4 < (-268435456))) then some (.v (.t [.n .i64 0,.n .i64 0]),[])
  else bif (decide (v5 < v4)) then some (.v (.t [.n .i64 0,.n .i64 0]),[])
  else bif (decide (268435456 < v5)) then some (.v (.t [.n .i64 0,.n .i64 0]),[])
  else some (.v (.t [.n .i64 (vJJ .i64 ((vJJ .i64 ((vJJ .i64 (0 + (min (vJJ .i64 (nx * v0)) (vJJ .i64 (nx * v1))))) + (min (vJJ .i64 (ny * v2)) (vJJ .i64 (ny * v3))))) + (min (vJJ .i64 (nz * v4)) (vJJ .i64 (nz * v5))))),.n .i64 (vJJ .i64 ((vJJ .i64 ((vJJ .i64 (0 + (max (vJJ .i64 (nx * v0)) (vJJ .i64 (nx * v1))))) + (max (vJJ .i64 (ny * v2)) (vJJ .i64 (ny * v3))))) + (max (vJJ .i64 (nz * v4)) (vJJ .i64 (nz * v5)))))]),[]))
 else some (.v (.t [.n .i64 0,.n .i64 0]),[]):=by kernel_rfl
noncomputable def dot (nx ny nz v0 v1 v2 v3 v4 v5:Int):Int × Int:=(bif (decide (nx < (-16384))) then (0,0) else (bif (decide (16384 < nx)) then (0,0) else (bif (decide (ny < (-16384))) then (0,0) else (bif (decide (16384 < ny)) then (0,0) else (bif (decide (nz < (-16384))) then (0,0) else (bif (decide (16384 < nz)) then (0,0) else (bif (!((decide (nx=0)) && ((decide (ny=0)) && ((decide (nz=0)) && true)))) then (bif (decide (v0 < (-268435456))) then (0,0) else (bif (decide (v1 < v0)) then (0,0) else (bif (decide (268435456 < v1)) then (0,0) else (bif (decide (v2 < (-268435456))) then (0,0) else (bif (decide (v3 < v2)) then (0,0) else (bif (decide (268435456 < v3)) then (0,0) else (bif (decide (v4 < (-268435456))) then (0,0) else (bif (decide (v5 < v4)) then (0,0) else (bif (decide (268435456 < v5)) then (0,0) else ((vJJ .i64 ((vJJ .i64 ((vJJ .i64 (0 + (min (vJJ .i64 (nx * v0)) (vJJ .i64 (nx * v1))))) + (min (vJJ .i64 (ny * v2)) (vJJ .i64 (ny * v3))))) + (min (vJJ .i64 (nz * v4)) (vJJ .i64 (nz * v5))))),(vJJ .i64 ((vJJ .i64 ((vJJ .i64 (0 + (max (vJJ .i64 (nx * v0)) (vJJ .i64 (nx * v1))))) + (max (vJJ .i64 (ny * v2)) (vJJ .i64 (ny * v3))))) + (max (vJJ .i64 (nz * v4)) (vJJ .i64 (nz * v5))))))))))))))) else (0,0))))))))
def qHH:Int × Int→Option (Ret × Mem):=fun v=>some (.v (.t [.n .i64 v.1,.n .i64 v.2]),[])
theorem sp_sDot (nx ny nz v0 v1 v2 v3 v4 v5:Int):runK T (OrL.k L5) 60 89 [.a [.n .i64 nx,.n .i64 ny,.n .i64 nz],.a [.n .i64 v0,.n .i64 v1,.n .i64 v2,.n .i64 v3,.n .i64 v4,.n .i64 v5]]=some (.v (.t [.n .i64 (dot nx ny nz v0 v1 v2 v3 v4 v5).1,.n .i64 (dot nx ny nz v0 v1 v2 v3 v4 v5).2]),[]):=by
 rw [tr_sDot];exact ((qZJ (F:=qHH) rfl (qZJ (F:=qHH) rfl (qZJ (F:=qHH) rfl (qZJ (F:=qHH) rfl (qZJ (F:=qHH) rfl (qZJ (F:=qHH) rfl (qZJ (F:=qHH) (qZJ (F:=qHH) rfl (qZJ (F:=qHH) rfl (qZJ (F:=qHH) rfl (qZJ (F:=qHH) rfl (qZJ (F:=qHH) rfl (qZJ (F:=qHH) rfl (qZJ (F:=qHH) rfl (qZJ (F:=qHH) rfl (qZJ (F:=qHH) rfl rfl))))))))) rfl))))))):_=qHH (dot nx ny nz v0 v1 v2 v3 v4 v5))
noncomputable def kWJ:List PV→Option (Bool × Ret):=fun ps=>match ps with
 | [.a z',.a v']=>(z3D z').bind fun z=>(v3D v').bind fun v=>some (true,.v (.t [.n .i64 (dot z.x z.y z.z v.x.lo v.x.hi v.y.lo v.y.hi v.z.lo v.z.hi).1,.n .i64 (dot z.x z.y z.z v.x.lo v.x.hi v.y.lo v.y.hi v.z.lo v.z.hi).2]))
 | _=>none
theorem ok_sDot:zW Tryz.prog 89 kWJ:=by
 intro ps r h;unfold kWJ at h;split at h
 ·simp only [vQQ,vQZ,vQY] at h;obtain ⟨z,hz,v,hv,hg,rfl⟩:=h;rw [yWX hz];rw [zJK hv];exact qG yJ yQ (OrL.ok L5_ok) (sp_sDot _ _ _ _ _ _ _ _ _)
 ·cases h
noncomputable def L6:OrL:=(89,kWJ) :: L5
theorem L6_ok:AllP (fun x:Nat × (List PV→Option (Bool × Ret))=>zW Tryz.prog x.1 x.2) L6:=⟨ok_sDot,L5_ok⟩
theorem bz {α:Type} {p:Prop} [Decidable p] {x z:α} (h:¬ p→x=z):(bif decide p then z else x)=z:=by
 by_cases hp:p
 ·rw [vJQ hp]; rfl
 ·rw [vYH hp]; exact h hp
end Go.Proofs.YtmffoiemmlcmfaaGreat.Od
namespace Go.Rx
open Go.RowKit Go.Sx
theorem own_mem {D:Nat→Prop} {G:World→Prop} {e sz cap k:Nat} {a:Option Addr} {ys:List Value} {w:World} (hd:zQU D G) (hG:G w) (hi:∀ w,G w→OwnF 0 e sz a cap k ys w):∀ ad,a=some ad→D ad.block:=by
 rintro ad rfl
 apply Classical.byContradiction;intro hn;obtain ⟨_,h1⟩:=hi w hG;rcases h1 with ⟨h1,_⟩ | ⟨g,cp,cur,hv,_,hb,_,_,hs,_⟩
 ·cases h1
 ·simp only [Value.slice.injEq,vQZ] at hv;obtain ⟨rfl,_,rfl⟩:=hv;have hlt:g < w.heap.size:=qQV hb;have hG':G { w with heap:=w.heap.setIfInBounds g (.cells (cur.push (.bool true)) e (0,0)) }:=hd w _ (fun k hk=>by
   have e:g ≠ k:=fun e=>hn (e ▸ hk)
   show (w.heap.setIfInBounds g _)[k]? = _;exact Array.getElem?_setIfInBounds_ne e) hG
  obtain ⟨_,h2⟩:=hi _ hG';rcases h2 with ⟨h2,_⟩ | ⟨g',cp',cur',hv',_,hb',_,_,hs',_⟩
  ·cases h2
  ·simp only [Value.slice.injEq,vQZ,Addr.mk.injEq] at hv';obtain ⟨⟨rfl,_⟩,_,rfl⟩:=hv';have hb2:(w.heap.setIfInBounds g (.cells (cur.push (.bool true)) e (0,0)))[g]? = some (.cells cur' e (0,0)):=hb';rw [Array.getElem?_setIfInBounds_self_of_lt hlt] at hb2;simp only [vQZ,Obj.cells.injEq] at hb2;rw [← hb2.1,Array.size_push,hs] at hs';omega
theorem al_flat {F:Nat→Prop} {w:World} {sz:Nat} {rows:List (List PV)} (hs:zZQ sz rows=true):Al (Al (RP F w)) rows (qXV rows)∧(∀ v ∈ qXV rows,∀ u ∈ v,u.oneCell'=true):=by
 unfold qXV;refine ⟨⟨by simp,fun i r v hr hv => ?_⟩,fun v hv u hu => ?_⟩
 ·rw [vZY,hr] at hv;cases hv;refine ⟨by simp,fun j p u hp hu => ?_⟩;rw [vZY,hp] at hu;cases hu;exact (zGJ ((qVQ hs (vQG hr)).2 p (vQG hp))).1
 ·obtain ⟨r,hr,rfl⟩:=List.mem_map.1 hv;obtain ⟨p,hp,rfl⟩:=List.mem_map.1 hu;exact (zGJ (F:=F) (w:=w) ((qVQ hs hr).2 p hp)).2
theorem yYW {P:Program} {f:Nat} {ps:List PV} {e sz:Nat} {rows:List (List PV)} {Φ:Option Addr × Nat→Prop} (hent:kH P f) (hs:zZQ sz rows=true) (h0:0 < sz)
  (h:∀ (w:World) (F:Nat→Prop) (vals:List Value),(∀ k,F k→k < w.heap.size)→Al (RP F w) ps vals→Calls P f vals.toArray w (jXX Φ (fun x=>.slice x.1 rows.length x.2) (fun x=>OwnF 0 e sz x.1 x.2 rows.length (qXV rows).flatten) w)):zH P f ps (.ow e sz rows):=by
 refine ⟨hent,fun w F vals hF hal=>(h w F vals hF hal).mono ?_⟩
 rintro en w' ⟨x,hx,rfl,hg,D,h1,h2,h3⟩
 have hal:=al_flat (F:=F) (w:=w') hs;refine ⟨_,F,rfl,hg,fun k hk=>hk,fun k hk=>.inl hk,x.1,x.2,qXV rows,rfl,h0,hal.1,fun r hr=>(qVQ hs hr).1,hal.2,h3,fun b hb => ?_⟩;obtain ⟨ad,ha,rfl⟩:=Option.map_eq_some_iff.1 hb;have hD:=h2 _ (own_mem h1 h3 (fun _ h=>h) ad ha);exact ⟨fun hk=>by have:=hF _ hk; omega,hD.1,hD.2⟩
end Go.Rx
namespace Go.Sx
def JB (j:J):Prop:=-1000000≤j.lo∧j.lo≤j.hi∧j.hi≤1000000
theorem jointOf_b (L:List Int) (p:Nat) (k:Int):JB (zQK L p k).1:=by
 by_cases h0:qQJ (srcR L (p + 2) 8)=0
 ·rw [zZG h0];exact ⟨by show (-1000000:Int)≤0; omega,by show (0:Int)≤0; omega,by show (0:Int)≤1000000; omega⟩
 ·by_cases h:qQJ (srcR L (p + 2) 8)=4 ∨ qQJ (srcR L (p + 2) 8)=5
  ·rw [qXQ h];have a:=zQW L (jQ p k) (k:=3) (by decide);have b:=zQW L (jQ p k + 1) (k:=4) (by decide);unfold JB;dsimp only;omega
  ·rw [zJG h0 h];have a:=zQW L (jQ p k) (k:=5) (by decide);have b:=zQW L (jQ p k + 1) (k:=4) (by decide);have c:=zQW L (jQ p k + 2) (k:=3) (by decide);unfold JB;dsimp only;rw [Int.tdiv_eq_ediv_of_nonneg (a:=(1 + srcR L (jQ p k + 1) 4) * 65536) (by omega),show (-srcR L (jQ p k) 5 * 65536).tdiv 8 = -(srcR L (jQ p k) 5 * 8192) by
    rw [show -srcR L (jQ p k) 5 * 65536 = -(srcR L (jQ p k) 5 * 8192) * 8 by omega];exact Int.mul_tdiv_cancel _ (by decide)]
   omega
theorem jsOf_b (L:List Int) (i:Nat):∀ k,∀ j ∈ (jsOf L i k).1,JB j
 | 0,j,h=>by cases h
 | k + 1,j,h=>by
  rcases List.mem_append.1 (show j ∈ (jsOf L i k).1 ++ [(zQK L (jsOf L i k).2 (k:Int)).1] from h) with h | h
  ·exact jsOf_b L i k j h
  ·obtain rfl:=List.mem_singleton.1 h;exact jointOf_b _ _ _
def ivc (v:Iv):List Value:=[.int .i64 v.lo,.int .i64 v.hi]
def ivC (rows:List Iv):List Value:=(rows.map ivc).flatten
theorem rows2 (l:List Iv):∀ r ∈ l.map ivc,r.length=2:=fun r hr=>by
 obtain ⟨v,_,rfl⟩:=List.mem_map.1 hr;rfl
end Go.Sx
namespace Go.Sx
section
variable {P:Program} {w0:Base} {S:yH} {H:Heap} {d:Option Tmp} {ty:TypeId} {pos:String} {af:Array Edge} {g:Option (Nat × Bool)}
end
def V3.put (k:Int) (a:Iv):V3:=if k=0 then ⟨a,iv0,iv0⟩ else if k=1 then ⟨iv0,a,iv0⟩ else ⟨iv0,iv0,a⟩
def jMot (k:Int) (a:Iv):Po:=if k=1 ∨ k=2 ∨ k=3 then Po.turn (k - 1) a else if k=4 ∨ k=5 ∨ k=6 then Po.shift (V3.put (k - 4) a) else Po.rest
def kUG (k:Int) (o:Z3) (a:Iv):Po:=Po.mul (Po.shift (V3.of o)) (jMot k a)
end Go.Sx
namespace Go.Sx
def pc (p:Po):List Value:=[.int .i64 p.r.x.x.lo,.int .i64 p.r.x.x.hi,.int .i64 p.r.x.y.lo,.int .i64 p.r.x.y.hi,.int .i64 p.r.x.z.lo,.int .i64 p.r.x.z.hi,.int .i64 p.r.y.x.lo,.int .i64 p.r.y.x.hi,.int .i64 p.r.y.y.lo,.int .i64 p.r.y.y.hi,.int .i64 p.r.y.z.lo,.int .i64 p.r.y.z.hi,.int .i64 p.r.z.x.lo,.int .i64 p.r.z.x.hi,.int .i64 p.r.z.y.lo,.int .i64 p.r.z.y.hi,.int .i64 p.r.z.z.lo,.int .i64 p.r.z.z.hi,.int .i64 p.t.x.lo,.int .i64 p.t.x.hi,.int .i64 p.t.y.lo,.int .i64 p.t.y.hi,.int .i64 p.t.z.lo,.int .i64 p.t.z.hi]
def zRow:List Value:=List.replicate 24 (.int .i64 0)
def lkP (ps:List Po) (j:J) (a:Iv):Po:=if j.parent = -1 then kUG j.kind j.off a else Po.mul (ps.getD j.parent.toNat Po.rest) (kUG j.kind j.off a)
def lks (js:List J) (bx:List Iv):Nat→List Po
 | 0=>[]
 | k + 1=>match js[k]?,bx[k]? with
  | some j,some a=>lks js bx k ++ [lkP (lks js bx k) j a]
  | _,_=>lks js bx k
theorem yQX {js:List J} {bx:List Iv} {k:Nat} {j:J} {a:Iv} (h1:js[k]? = some j) (h2:bx[k]? = some a):lks js bx (k + 1)=lks js bx k ++ [lkP (lks js bx k) j a]:=by
 simp only [lks,h1,h2]
def lkR (ps:List Po) (m:Nat):List (List Value):=ps.map pc ++ List.replicate m zRow
theorem lkR_set {ps:List Po} {m:Nat} (v:List Value):(lkR ps (m + 1)).set ps.length v=ps.map pc ++ v :: List.replicate m zRow:=by
 unfold lkR;rw [List.set_append_right _ _ (by simp)];simp [List.replicate_succ]
theorem lkR_set2 {ps:List Po} {m:Nat} (u v:List Value):(ps.map pc ++ u :: List.replicate m zRow).set ps.length v=ps.map pc ++ v :: List.replicate m zRow:=by
 rw [List.set_append_right _ _ (by simp)]
 simp
theorem lkR_done {ps:List Po} {m:Nat} (p:Po):ps.map pc ++ pc p :: List.replicate m zRow=lkR (ps ++ [p]) m:=by
 unfold lkR
 simp
theorem lkR_at {ps:List Po} {m i:Nat} {u:List Value} (h:i < ps.length):(ps.map pc ++ u :: List.replicate m zRow)[i]? = some (pc (ps.getD i Po.rest)):=by
 rw [List.getElem?_append_left (by simpa using h),vZY];simp [vZG,h]
theorem kVG {ps:List Po} {m:Nat} {u:List Value}:(ps.map pc ++ u :: List.replicate m zRow)[ps.length]? = some u:=by
 rw [List.getElem?_append_right (by simp)]
 simp
end Go.Sx
namespace Go.Proofs.YtmffoiemmlcmfaaGreat
open Go.Sx
theorem la81:qKJ Tryz.prog 81=some ([.slice none 0 0,.int .i64 0],[(0,1),(1,1)]):=by kernel_rfl
theorem kKZ:qVJ Tryz.prog 81 1 1=true:=by kernel_rfl
theorem ty3:tyB Tryz.prog 3 false 1=true:=by kernel_rfl
theorem fa81_0:qVJ Tryz.prog 81 0 0=true:=by kernel_rfl
theorem ty28:tyB Tryz.prog 28 false 1=true:=by kernel_rfl
theorem sl28:slcB Tryz.prog 28 3 1=true:=by kernel_rfl
theorem en9:kH Tryz.prog 9:=zQ Tryz.func9 (by kernel_rfl) (by kernel_rfl)
theorem en21:kH Tryz.prog 21:=zQ Tryz.func21 (by kernel_rfl) (by kernel_rfl)
theorem src_inc {i:Nat} {L:List Int} (hl:L.length≤9223372036854775807) (h:i < L.length):vJJ .i64 (((min i L.length:Nat):Int) + 1)=((min (i + 1) L.length:Nat):Int):=by
 refine (zK ?_).trans ?_ <;> omega
theorem src_dec {i:Nat} {L:List Int} (hl:L.length≤9223372036854775807) (h:i < L.length):vJJ .i64 (((min (i + 1) L.length:Nat):Int) - 1)=(i:Int):=by
 refine (zK ?_).trans ?_ <;> omega
theorem src_out {w:World} {b i:Nat} {sl:Value} {L:List Int} (h:L.length≤i):srcW w b sl L i=srcW w b sl L (i + 1):=by
 unfold srcW srcC;rw [show min i L.length=min (i + 1) L.length by omega]
theorem src_outB {B:Base} {b i:Nat} {sl:Value} {L:List Int} (h:L.length≤i):srcB B b sl L i=srcB B b sl L (i + 1):=by
 unfold srcB; rw [src_out h]
theorem srcR_out {i:Nat} {L:List Int} (k:Int) (h:L.length≤i):(0:Int)=srcR L i k:=by
 unfold srcR;simp [vZG,List.getElem?_eq_none h]
theorem mFrom0  (a:Option Addr) (cap:Nat) (L:List Int) (w:World):Calls Tryz.prog 20 [.slice a L.length cap].toArray w (uZQ (NewT w (srcC (.slice a L.length cap) L 0) 81) w):=by
 refine jY (n:=6) Tryz.func20 rfl rfl rfl ?_;refine qW ?_;refine qZ ?_;refine qJ (qV rfl) rfl rfl rfl ?_;refine qX ?_;refine qQ ?_;refine qW ?_;refine qZ ?_;refine qJ (qK rfl) rfl rfl rfl ?_;refine qJ (qZV la81 rfl rfl) rfl rfl rfl ?_;refine zYQ 5 rfl rfl rfl rfl ?_; intro b5;refine qJ (qV rfl) rfl rfl rfl ?_;refine qX ?_;refine qQ ?_;refine jU ?_;refine zYG (rs:=[.tmp 2]) rfl (resC (uU rfl) (resN)) rfl ?_;intro w2 k;rw [srcC_zero];exact ⟨_,rfl,k.grow,_,rfl,(k.at (i:=5) rfl).1,(k.at (i:=5) rfl).2⟩
theorem uYV {sl:Value} {L:List Int} {m:Nat} (w:World) (h:IntsAt w m sl L):Calls Tryz.prog 20 [sl].toArray w (uZQ (NewT w (srcC sl L 0) 81) w):=by
 obtain ⟨_,a,cap,rfl,_⟩:=h;exact mFrom0 a cap L w
theorem jW {b:Nat} {sl:Value} {L:List Int} {i:Nat} (k:Int) (hk:0 < k∧k≤9223372036854775807) (w:World) (hs:Src w b sl L i):Calls Tryz.prog 21 [.pointer (some ⟨b,0,none⟩),.int .i64 k].toArray w (Rets (vI (srcR L i k)) (srcW w b sl L (i + 1))):=by
 refine yYQ (n:=35) hs Tryz.func21 rfl rfl rfl ?_;refine qW ?_;obtain ⟨t0,hb⟩:=hs.blk;obtain ⟨hlen,a,cap,rfl,hcell⟩:=hs.ints;refine qZ ?_;refine qJ (qV rfl) rfl rfl rfl ?_;refine qX ?_;refine qQ ?_;refine qW ?_;refine qW ?_;refine qWU 9 mo (by kernel_rfl) ?_;simp only [vYK,vYX,vYU,vYW];refine yV (qK rfl) rfl rfl rfl ?_;refine yV (qUX rfl) rfl rfl rfl ?_;refine yV (qU kKZ rfl) rfl rfl rfl ?_;refine yV (qVG (B:=⟨w,[]⟩) hb ty3 rfl rfl) rfl rfl rfl ?_;refine yV (qK rfl) rfl rfl rfl ?_;refine yV (qUX rfl) rfl rfl rfl ?_;refine yV (qU fa81_0 rfl) rfl rfl rfl ?_;refine yV (qVG (B:=⟨w,[]⟩) hb ty28 rfl rfl) rfl rfl rfl ?_;refine yV (qUG sl28 rfl) rfl rfl rfl ?_;refine zYZ ?_;refine qWG ?_;refine qJ (opV_geq rfl rfl) rfl rfl rfl ?_;refine qX ?_;refine qQ ?_;refine kZ rfl (fun hc14 => ?_) (fun hc14 => ?_)
 ·
  have h2:L.length≤i:=by have:=vJZ hc14; omega
  rw [src_outB h2];refine qW ?_;refine qZ ?_;refine qJ (qV rfl) rfl rfl rfl ?_;refine qX ?_;refine qQ ?_;refine jU ?_;refine zQG ?_;refine yU (rs:=[.tmp 4]) rfl (resC (uU rfl) (resN)) (congrArg (vI) (?_:_=srcR L i k));exact srcR_out k h2
 ·
  have h2:i < L.length:=by have:=vJY hc14; omega
  obtain ⟨bb,off,rfl,hbb,hcc⟩:=hcell i h2;have hlt:=qQV hb;refine kJ ?_;refine qQ ?_;refine qW ?_;refine qZ ?_;refine qJ (qK rfl) rfl rfl rfl ?_;refine qJ (qUX rfl) rfl rfl rfl ?_;refine qJ (qU kKZ rfl) rfl rfl rfl ?_;refine qJ (qVG (B:=⟨w,[]⟩) hb ty3 rfl rfl) rfl rfl rfl ?_;refine qJ (uQ rfl rfl (src_inc hlen h2)) rfl rfl rfl ?_;refine qJ (qUX rfl) rfl rfl rfl ?_;refine qJ (qU kKZ rfl) rfl rfl rfl ?_;refine doL_store_base (B:=⟨w,[]⟩) hb ty3 rfl rfl rfl rfl rfl rfl ?_;refine qX ?_;refine qQ ?_;refine qW ?_;refine qWU 13 mo (by kernel_rfl) ?_;simp only [vYK,vYX,vYU,vYW];refine yV (qK rfl) rfl rfl rfl ?_;refine yV (qUX rfl) rfl rfl rfl ?_;refine yV (qU fa81_0 rfl) rfl rfl rfl ?_;refine yV (qVG (B:=⟨w,[]⟩) hb ty28 rfl rfl) rfl rfl rfl ?_;refine yV (qK rfl) rfl rfl rfl ?_;refine yV (qUX rfl) rfl rfl rfl ?_;refine yV (qU kKZ rfl) rfl rfl rfl ?_;refine yV (qVG (B:=⟨w,[]⟩) hb ty3 rfl rfl) rfl rfl rfl ?_;refine yV (qGW rfl rfl (src_dec hlen h2)) rfl rfl rfl ?_;refine yV (qHJ sl28 rfl rfl (by first | decide | omega) (by first | decide | omega)) rfl rfl rfl ?_;refine yV (opV_load1_old ty3 rfl (by simp [Base.setRow]; omega) ((cell_setRow_other _ _ _ _ (by simp; omega)).trans (by simpa using hcc))) rfl rfl rfl ?_;refine yV (qK rfl) rfl rfl rfl ?_;refine yUV (F:=vI) (uG en9 rfl (fun w _=>kJZ _ _ (by first | omega | assumption | (unfold In64; omega) | decide) w)) rfl rfl rfl ?_; intro r34 hr34;refine zYZ ?_;refine qWG ?_;refine qJ (qV rfl) rfl rfl rfl ?_;refine qX ?_;refine qQ ?_;refine jU ?_;refine yU (rs:=[.tmp 4]) rfl (resC (uU rfl) (resN)) (congrArg (vI) (?_:_=srcR L i k));exact hr34
theorem qWJ {b:Nat} {sl:Value} {L:List Int} {i:Nat} (k:Int) (hk:0≤k∧k≤1000000000) (w:World) (hs:Src w b sl L i):Calls Tryz.prog 24 [.pointer (some ⟨b,0,none⟩),.int .i64 k].toArray w (Rets (vI (srcS L i k)) (srcW w b sl L (i + 1))):=by
 refine yYQ (n:=12) hs Tryz.func24 rfl rfl rfl ?_;refine qW ?_;refine qZ ?_;refine qJ (qV rfl) rfl rfl rfl ?_;refine qX ?_;refine qQ ?_;refine qW ?_;refine qZ ?_;refine qJ (qK rfl) rfl rfl rfl ?_;refine qJ (qK rfl) rfl rfl rfl ?_;refine qJ (kQ rfl rfl (by first | exact zK ⟨by omega,by omega⟩ | rfl)) rfl rfl rfl ?_;refine qJ (uQ rfl rfl (by first | exact zK ⟨by omega,by omega⟩ | rfl)) rfl rfl rfl ?_;refine jK (F:=vI) hs en21 rfl (fun w' h=>jW _ (by first | omega | assumption | (unfold In64; omega) | decide) w' h) rfl rfl ?_; intro r9 hr9;have br9:=uK hr9 (by first | decide | omega);refine qJ (qK rfl) rfl rfl rfl ?_;refine qJ (qGW rfl rfl (by first | exact zK ⟨by omega,by omega⟩ | rfl)) rfl rfl rfl ?_;refine qJ (qV rfl) rfl rfl rfl ?_;refine qX ?_;refine qQ ?_;refine jU ?_;refine yU (rs:=[.tmp 4]) rfl (resC (uU rfl) (resN)) (congrArg (vI) (?_:_=srcS L i k))
 subst_vars; rfl
end Go.Proofs.YtmffoiemmlcmfaaGreat
namespace Go.Proofs.YtmffoiemmlcmfaaGreat
open Go.Sx
theorem ze55:qYU Tryz.prog 55 (.agg #[.string ByteArray.empty,.int .i64 0,.int .i64 0,.int .i64 0,.int .i64 0,.int .i64 0,.int .i64 0,.int .i64 0,.int .i64 0,.int .i64 0,.int .i64 0,.int .i64 0]):=by unfold qYU; kernel_rfl
theorem en38:kH Tryz.prog 38:=zQ Tryz.func38 (by kernel_rfl) (by kernel_rfl)
theorem la55:qKJ Tryz.prog 55=some ([.string ByteArray.empty,.int .i64 0,.int .i64 0,.int .i64 0,.int .i64 0,.int .i64 0,.int .i64 0,.int .i64 0,.int .i64 0,.int .i64 0,.int .i64 0,.int .i64 0],[(0,1),(1,1),(2,1),(3,3),(6,1),(7,1),(8,1),(9,1),(10,1),(11,1)]):=by kernel_rfl
theorem ty55:tyB Tryz.prog 55 true 12=true:=by kernel_rfl
theorem la112:qKJ Tryz.prog 112=some ([.int .i64 0,.int .i64 0,.int .i64 0,.int .i64 0,.int .i64 0,.int .i64 0,.int .i64 0,.int .i64 0],[(0,1),(1,1),(2,1),(3,1),(4,1),(5,1),(6,1),(7,1)]):=by kernel_rfl
theorem jVK:qVJ Tryz.prog 55 1 1=true:=by kernel_rfl
theorem jVJ:qVJ Tryz.prog 55 2 2=true:=by kernel_rfl
theorem en24:kH Tryz.prog 24:=zQ Tryz.func24 (by kernel_rfl) (by kernel_rfl)
theorem fa55_3:qVJ Tryz.prog 55 3 3=true:=by kernel_rfl
theorem ty53:tyB Tryz.prog 53 true 3=true:=by kernel_rfl
theorem zKQ:qVJ Tryz.prog 55 4 6=true:=by kernel_rfl
theorem zJH:qVJ Tryz.prog 55 5 7=true:=by kernel_rfl
theorem mkLetter (k:Int) (hk:0≤k∧k≤9) (w:World):Calls Tryz.prog 38 [.int .i64 k].toArray w (Rets (vS (zHZ k)) (w)):=by
 refine jY (n:=7) Tryz.func38 rfl rfl rfl ?_;refine qW ?_;refine qZ ?_;refine qJ (qV rfl) rfl rfl rfl ?_;refine qX ?_;refine qQ ?_;refine qW ?_;refine qZ ?_;refine qJ (qK rfl) rfl rfl rfl ?_;refine qJ (qK rfl) rfl rfl rfl ?_;refine qJ (uQ rfl rfl (by first | exact zK ⟨by omega,by omega⟩ | rfl)) rfl rfl rfl ?_;refine qJ (opV_sliceStr (s:=abc) Tryz.underlying9 rfl rfl rfl (by omega) (by omega) (by show _≤(10:Int); omega)) rfl rfl rfl ?_;refine qJ (qV rfl) rfl rfl rfl ?_;refine qX ?_;refine qQ ?_;refine jU ?_;refine yU (rs:=[.tmp 2]) rfl (resC (uU rfl) (resN)) (congrArg (vS) (?_:_=zHZ k));rfl
theorem ixK {i:Int} (h:0≤i∧i < 8):∀ w:World,(Instr.index 112 (.agg #[.int .i64 3,.int .i64 3,.int .i64 1,.int .i64 2,.int .i64 4,.int .i64 5,.int .i64 3,.int .i64 0]) (.int .i64 i)).run Tryz.prog w=.ok (.int .i64 (qQJ i)) w:=by
 have hi:i=0 ∨ i=1 ∨ i=2 ∨ i=3 ∨ i=4 ∨ i=5 ∨ i=6 ∨ i=7:=by omega
 rcases hi with rfl | rfl | rfl | rfl | rfl | rfl | rfl | rfl <;> (intro w; kernel_rfl)
theorem quo8 {a:Int} (h : -9000000000≤a∧a≤9000000000):vJJ .i64 (a.tdiv 8)=a.tdiv 8:=zK (by
 have:=zWW (a:=a) (b:=8) (by unfold In64; omega) (by decide)
 exact this)
theorem hi8 {a b:Int} (ha:0≤a∧a < 4) (hb:0≤b∧b < 3):vJJ .i64 (((1 + a) * 65536).tdiv 8 + b)=((1 + a) * 65536).tdiv 8 + b:=zK (by
 rw [Int.tdiv_eq_ediv_of_nonneg (by omega)]; omega)
theorem mkJoint {b:Nat} {sl:Value} {L:List Int} {i:Nat} (k:Int) (hk:0≤k∧k≤9) (w:World) (hs:Src w b sl L i):Calls Tryz.prog 41 [.pointer (some ⟨b,0,none⟩),.int .i64 k].toArray w (Rets (jv ((zQK L i k).1)) (srcW w b sl L ((zQK L i k).2))):=by
 refine yYQ (n:=68) hs Tryz.func41 rfl rfl rfl ?_;refine qW ?_;refine qZ ?_;refine qKV 4 ze55 rfl rfl rfl ?_; intro b4;refine qX ?_;refine qQ ?_;refine qW ?_;refine qZ ?_;refine qJ (qK rfl) rfl rfl rfl ?_;refine qHG (F:=vS) (uG en38 rfl (fun w _=>mkLetter _ (by first | omega | assumption | (unfold In64; omega) | decide) w)) rfl rfl rfl ?_; intro r7 hr7;refine qJ (qK rfl) rfl rfl rfl ?_;refine qJ (qGW rfl rfl (by first | exact zK ⟨by omega,by omega⟩ | rfl)) rfl rfl rfl ?_;refine qJ (qK rfl) rfl rfl rfl ?_;refine jK (F:=vI) hs en21 rfl (fun w' h=>jW _ (by first | omega | assumption | (unfold In64; omega) | decide) w' h) rfl rfl ?_; intro r11 hr11;have br11:=uK hr11 (by first | decide | omega);refine qJ (uQ rfl rfl (by first | exact zK ⟨by omega,by omega⟩ | rfl)) rfl rfl rfl ?_;refine qJ (qK rfl) rfl rfl rfl ?_;refine jK (F:=vI) hs en21 rfl (fun w' h=>jW _ (by first | omega | assumption | (unfold In64; omega) | decide) w' h) rfl rfl ?_; intro r14 hr14;have br14:=uK hr14 (by first | decide | omega);refine qJ (uQ rfl rfl (by first | exact zK ⟨by omega,by omega⟩ | rfl)) rfl rfl rfl ?_;refine qJ (qZV la55 rfl rfl) rfl rfl rfl ?_;refine qKV 5 ze55 rfl rfl rfl ?_; intro b5;refine zV 5 ty55 rfl rfl rfl rfl rfl rfl rfl rfl ?_;refine qX ?_;refine qQ ?_;refine qW ?_;refine qZ ?_;refine qJ (qZV la112 rfl rfl) rfl rfl rfl ?_;refine qJ (qK rfl) rfl rfl rfl ?_;refine jK (F:=vI) hs en21 rfl (fun w' h=>jW _ (by first | omega | assumption | (unfold In64; omega) | decide) w' h) rfl rfl ?_; intro r19 hr19;have br19:=uK hr19 (by first | decide | omega);refine qJ (zZV rfl rfl (ixK (by omega))) rfl rfl rfl ?_;refine qJ (qU jVK rfl) rfl rfl rfl ?_;refine zV 5 ty3 rfl rfl rfl rfl rfl rfl rfl rfl ?_;refine qX ?_;refine qQ ?_;refine qW ?_;refine qW ?_;refine qZ ?_;refine qJ (qK rfl) rfl rfl rfl ?_;refine jK (F:=vI) hs en21 rfl (fun w' h=>jW _ (by first | omega | assumption | (unfold In64; omega) | decide) w' h) rfl rfl ?_; intro r23 hr23;have br23:=uK hr23 (by first | decide | omega);refine qJ (qUW rfl rfl) rfl rfl rfl ?_;refine qX ?_;refine qQ ?_;refine kZ rfl (fun hc24 => ?_) (fun hc24 => ?_)
 ·
  have hp:srcR L (i + 3) 4=1:=by have:=vJZ hc24; rw [← this]; exact hr23.symm
  refine qZ ?_;refine qJ (qU jVJ rfl) rfl rfl rfl ?_;refine zV 5 ty3 rfl rfl rfl rfl rfl rfl rfl rfl ?_;refine qX ?_;refine qQ ?_;refine qW ?_;refine qW ?_;refine qZ ?_;refine qJ (qK rfl) rfl rfl rfl ?_;refine qJ (yJK rfl rfl) rfl rfl rfl ?_;refine qX ?_;refine qQ ?_;refine kZ rfl (fun hc27 => ?_) (fun hc27 => ?_)
  ·
   have hi:0 < k:=vJZ hc27;refine qZ ?_;refine qJ (qK rfl) rfl rfl rfl ?_;refine jK (F:=vI) hs en24 rfl (fun w' h=>qWJ _ (by first | omega | assumption | (unfold In64; omega) | decide) w' h) rfl rfl ?_; intro r29 hr29;have br29:=zVH hr29 (by first | decide | omega);refine qJ (kQ rfl rfl (by first | exact zK ⟨by omega,by omega⟩ | rfl)) rfl rfl rfl ?_;refine qJ (qK rfl) rfl rfl rfl ?_;refine jK (F:=vI) hs en24 rfl (fun w' h=>qWJ _ (by first | omega | assumption | (unfold In64; omega) | decide) w' h) rfl rfl ?_; intro r32 hr32;have br32:=zVH hr32 (by first | decide | omega);refine qJ (kQ rfl rfl (by first | exact zK ⟨by omega,by omega⟩ | rfl)) rfl rfl rfl ?_;refine qJ (qZV la53 rfl rfl) rfl rfl rfl ?_;refine qJ (qU fa55_3 rfl) rfl rfl rfl ?_;refine zV 5 ty53 rfl rfl rfl rfl rfl rfl rfl rfl ?_;refine qX ?_;refine qQ ?_;refine qW ?_;refine qW ?_;refine qZ ?_;refine qJ (qU jVK rfl) rfl rfl rfl ?_;refine qJ (yX 5 ty3 rfl rfl rfl) rfl rfl rfl ?_;refine qX ?_;refine qQ ?_;refine uW ?_;refine qW ?_;refine qZ ?_;refine qJ (qUW rfl rfl) rfl rfl rfl ?_;refine qJ (qV rfl) rfl rfl rfl ?_;refine qX ?_;refine qQ ?_;refine kZ rfl (fun hc53 => ?_) (fun hc53 => ?_)
   ·
    have hk0:qQJ (srcR L (i + 2) 8)=0:=by have:=vJZ hc53; rw [hr19] at this; exact this
    rw [zZG hk0]
    first | rw [qWY hp hi,qYZ hi] | rw [qWZ hp hi,qYY hi] | rw [qWQ hp hi,qYZ hi] | rw [qXH hp hi,qYY hi]
    refine kJ ?_;refine zU ?_;refine qQ ?_;refine qW ?_;refine qZ ?_;refine qJ (jG 5 ty55 rfl rfl rfl) rfl rfl rfl ?_;refine zV 4 ty55 rfl rfl rfl rfl rfl rfl rfl rfl ?_;refine qX ?_;refine qQ ?_;refine jU ?_;refine yU (rs:=[.cell 4 55]) rfl (resC (jH 4 rfl rfl ty55 rfl) (resN)) ?_
    subst_vars; rfl
   ·
    have hk0:¬ qQJ (srcR L (i + 2) 8)=0:=by have:=vJY hc53; rw [hr19] at this; exact this
    refine qW ?_;refine qW ?_;refine qZ ?_;refine qJ (qUW rfl rfl) rfl rfl rfl ?_;refine qJ (qV rfl) rfl rfl rfl ?_;refine qX ?_;refine qQ ?_;refine kZ rfl (fun hc55 => ?_) (fun hc55 => ?_)
    ·
     have hk4:qQJ (srcR L (i + 2) 8)=4:=by have:=vJZ hc55; rw [hr19] at this; exact this
     rw [qXQ (.inl hk4)]
     first | rw [qWY hp hi,qYZ hi] | rw [qWZ hp hi,qYY hi] | rw [qWQ hp hi,qYZ hi] | rw [qXH hp hi,qYY hi]
     refine kJ ?_;refine qQ ?_;refine qXY rfl (hc55) ?_;refine qZ ?_;refine qJ (qK rfl) rfl rfl rfl ?_;refine jK (F:=vI) hs en21 rfl (fun w' h=>jW _ (by first | omega | assumption | (unfold In64; omega) | decide) w' h) rfl rfl ?_; intro r59 hr59;have br59:=uK hr59 (by first | decide | omega);refine qJ (qGV rfl (by first | exact zUH ⟨by omega,by omega⟩ | rfl)) rfl rfl rfl ?_;refine qJ (kQ rfl rfl (by first | exact zK ⟨by omega,by omega⟩ | rfl)) rfl rfl rfl ?_;refine qJ (qK rfl) rfl rfl rfl ?_;refine jK (F:=vI) hs en21 rfl (fun w' h=>jW _ (by first | omega | assumption | (unfold In64; omega) | decide) w' h) rfl rfl ?_; intro r63 hr63;have br63:=uK hr63 (by first | decide | omega);refine qJ (kQ rfl rfl (by first | exact zK ⟨by omega,by omega⟩ | rfl)) rfl rfl rfl ?_;refine qJ (qU zKQ rfl) rfl rfl rfl ?_;refine zV 5 ty2 rfl rfl rfl rfl rfl rfl rfl rfl ?_;refine qJ (qU zJH rfl) rfl rfl rfl ?_;refine zV 5 ty2 rfl rfl rfl rfl rfl rfl rfl rfl ?_;refine qX ?_;refine zU ?_;refine qQ ?_;refine qW ?_;refine qZ ?_;refine qJ (jG 5 ty55 rfl rfl rfl) rfl rfl rfl ?_;refine zV 4 ty55 rfl rfl rfl rfl rfl rfl rfl rfl ?_;refine qX ?_;refine qQ ?_;refine jU ?_;refine yU (rs:=[.cell 4 55]) rfl (resC (jH 4 rfl rfl ty55 rfl) (resN)) ?_
     subst_vars; rfl
    ·
     have hk4:¬ qQJ (srcR L (i + 2) 8)=4:=by have:=vJY hc55; rw [hr19] at this; exact this
     refine qZ ?_;refine qJ (qUW rfl rfl) rfl rfl rfl ?_;refine qJ (qV rfl) rfl rfl rfl ?_;refine qX ?_;refine qQ ?_;refine kZ rfl (fun hc55_2 => ?_) (fun hc55_2 => ?_)
     ·
      have hk5:qQJ (srcR L (i + 2) 8)=5:=by have:=vJZ hc55_2; rw [hr19] at this; exact this
      rw [qXQ (.inr hk5)]
      first | rw [qWY hp hi,qYZ hi] | rw [qWZ hp hi,qYY hi] | rw [qWQ hp hi,qYZ hi] | rw [qXH hp hi,qYY hi]
      refine qZ ?_;refine qJ (qK rfl) rfl rfl rfl ?_;refine jK (F:=vI) hs en21 rfl (fun w' h=>jW _ (by first | omega | assumption | (unfold In64; omega) | decide) w' h) rfl rfl ?_; intro r59 hr59;have br59:=uK hr59 (by first | decide | omega);refine qJ (qGV rfl (by first | exact zUH ⟨by omega,by omega⟩ | rfl)) rfl rfl rfl ?_;refine qJ (kQ rfl rfl (by first | exact zK ⟨by omega,by omega⟩ | rfl)) rfl rfl rfl ?_;refine qJ (qK rfl) rfl rfl rfl ?_;refine jK (F:=vI) hs en21 rfl (fun w' h=>jW _ (by first | omega | assumption | (unfold In64; omega) | decide) w' h) rfl rfl ?_; intro r63 hr63;have br63:=uK hr63 (by first | decide | omega);refine qJ (kQ rfl rfl (by first | exact zK ⟨by omega,by omega⟩ | rfl)) rfl rfl rfl ?_;refine qJ (qU zKQ rfl) rfl rfl rfl ?_;refine zV 5 ty2 rfl rfl rfl rfl rfl rfl rfl rfl ?_;refine qJ (qU zJH rfl) rfl rfl rfl ?_;refine zV 5 ty2 rfl rfl rfl rfl rfl rfl rfl rfl ?_;refine qX ?_;refine zU ?_;refine qQ ?_;refine qW ?_;refine qZ ?_;refine qJ (jG 5 ty55 rfl rfl rfl) rfl rfl rfl ?_;refine zV 4 ty55 rfl rfl rfl rfl rfl rfl rfl rfl ?_;refine qX ?_;refine qQ ?_;refine jU ?_;refine yU (rs:=[.cell 4 55]) rfl (resC (jH 4 rfl rfl ty55 rfl) (resN)) ?_
      subst_vars; rfl
     ·
      have hk5:¬ qQJ (srcR L (i + 2) 8)=5:=by have:=vJY hc55_2; rw [hr19] at this; exact this
      rw [zJG hk0 (by omega)]
      first | rw [qWY hp hi,qYZ hi] | rw [qWZ hp hi,qYY hi] | rw [qWQ hp hi,qYZ hi] | rw [qXH hp hi,qYY hi]
      refine qZ ?_;refine qJ (qK rfl) rfl rfl rfl ?_;refine jK (F:=vI) hs en21 rfl (fun w' h=>jW _ (by first | omega | assumption | (unfold In64; omega) | decide) w' h) rfl rfl ?_; intro r39 hr39;have br39:=uK hr39 (by first | decide | omega);refine qJ (qGV rfl (by first | exact zUH ⟨by omega,by omega⟩ | rfl)) rfl rfl rfl ?_;refine qJ (kQ rfl rfl (by first | exact zK ⟨by omega,by omega⟩ | rfl)) rfl rfl rfl ?_;refine qJ (qVW rfl rfl (by first | decide | omega) (quo8 (by omega))) rfl rfl rfl ?_;refine qJ (qK rfl) rfl rfl rfl ?_;refine jK (F:=vI) hs en21 rfl (fun w' h=>jW _ (by first | omega | assumption | (unfold In64; omega) | decide) w' h) rfl rfl ?_; intro r44 hr44;have br44:=uK hr44 (by first | decide | omega);refine qJ (uQ rfl rfl (by first | exact zK ⟨by omega,by omega⟩ | rfl)) rfl rfl rfl ?_;refine qJ (kQ rfl rfl (by first | exact zK ⟨by omega,by omega⟩ | rfl)) rfl rfl rfl ?_;refine qJ (qVW rfl rfl (by first | decide | omega) (quo8 (by omega))) rfl rfl rfl ?_;refine qJ (qK rfl) rfl rfl rfl ?_;refine jK (F:=vI) hs en21 rfl (fun w' h=>jW _ (by first | omega | assumption | (unfold In64; omega) | decide) w' h) rfl rfl ?_; intro r49 hr49;have br49:=uK hr49 (by first | decide | omega);refine qJ (uQ rfl rfl (hi8 br44 br49)) rfl rfl rfl ?_;refine qJ (qU zKQ rfl) rfl rfl rfl ?_;refine zV 5 ty2 rfl rfl rfl rfl rfl rfl rfl rfl ?_;refine qJ (qU zJH rfl) rfl rfl rfl ?_;refine zV 5 ty2 rfl rfl rfl rfl rfl rfl rfl rfl ?_;refine qX ?_;refine zU ?_;refine qQ ?_;refine qW ?_;refine qZ ?_;refine qJ (jG 5 ty55 rfl rfl rfl) rfl rfl rfl ?_;refine zV 4 ty55 rfl rfl rfl rfl rfl rfl rfl rfl ?_;refine qX ?_;refine qQ ?_;refine jU ?_;refine yU (rs:=[.cell 4 55]) rfl (resC (jH 4 rfl rfl ty55 rfl) (resN)) ?_
      subst_vars; rfl
  ·
   have hi:¬ 0 < k:=vJY hc27;refine kJ ?_;refine qQ ?_;refine qW ?_;refine qW ?_;refine qZ ?_;refine qJ (qU jVK rfl) rfl rfl rfl ?_;refine qJ (yX 5 ty3 rfl rfl rfl) rfl rfl rfl ?_;refine qX ?_;refine qQ ?_;refine uW ?_;refine qW ?_;refine qZ ?_;refine qJ (qUW rfl rfl) rfl rfl rfl ?_;refine qJ (qV rfl) rfl rfl rfl ?_;refine qX ?_;refine qQ ?_;refine kZ rfl (fun hc53 => ?_) (fun hc53 => ?_)
   ·
    have hk0:qQJ (srcR L (i + 2) 8)=0:=by have:=vJZ hc53; rw [hr19] at this; exact this
    rw [zZG hk0]
    first | rw [qWY hp hi,qYZ hi] | rw [qWZ hp hi,qYY hi] | rw [qWQ hp hi,qYZ hi] | rw [qXH hp hi,qYY hi]
    refine kJ ?_;refine zU ?_;refine qQ ?_;refine qW ?_;refine qZ ?_;refine qJ (jG 5 ty55 rfl rfl rfl) rfl rfl rfl ?_;refine zV 4 ty55 rfl rfl rfl rfl rfl rfl rfl rfl ?_;refine qX ?_;refine qQ ?_;refine jU ?_;refine yU (rs:=[.cell 4 55]) rfl (resC (jH 4 rfl rfl ty55 rfl) (resN)) ?_
    subst_vars; rfl
   ·
    have hk0:¬ qQJ (srcR L (i + 2) 8)=0:=by have:=vJY hc53; rw [hr19] at this; exact this
    refine qW ?_;refine qW ?_;refine qZ ?_;refine qJ (qUW rfl rfl) rfl rfl rfl ?_;refine qJ (qV rfl) rfl rfl rfl ?_;refine qX ?_;refine qQ ?_;refine kZ rfl (fun hc55 => ?_) (fun hc55 => ?_)
    ·
     have hk4:qQJ (srcR L (i + 2) 8)=4:=by have:=vJZ hc55; rw [hr19] at this; exact this
     rw [qXQ (.inl hk4)]
     first | rw [qWY hp hi,qYZ hi] | rw [qWZ hp hi,qYY hi] | rw [qWQ hp hi,qYZ hi] | rw [qXH hp hi,qYY hi]
     refine kJ ?_;refine qQ ?_;refine qXY rfl (hc55) ?_;refine qZ ?_;refine qJ (qK rfl) rfl rfl rfl ?_;refine jK (F:=vI) hs en21 rfl (fun w' h=>jW _ (by first | omega | assumption | (unfold In64; omega) | decide) w' h) rfl rfl ?_; intro r59 hr59;have br59:=uK hr59 (by first | decide | omega);refine qJ (qGV rfl (by first | exact zUH ⟨by omega,by omega⟩ | rfl)) rfl rfl rfl ?_;refine qJ (kQ rfl rfl (by first | exact zK ⟨by omega,by omega⟩ | rfl)) rfl rfl rfl ?_;refine qJ (qK rfl) rfl rfl rfl ?_;refine jK (F:=vI) hs en21 rfl (fun w' h=>jW _ (by first | omega | assumption | (unfold In64; omega) | decide) w' h) rfl rfl ?_; intro r63 hr63;have br63:=uK hr63 (by first | decide | omega);refine qJ (kQ rfl rfl (by first | exact zK ⟨by omega,by omega⟩ | rfl)) rfl rfl rfl ?_;refine qJ (qU zKQ rfl) rfl rfl rfl ?_;refine zV 5 ty2 rfl rfl rfl rfl rfl rfl rfl rfl ?_;refine qJ (qU zJH rfl) rfl rfl rfl ?_;refine zV 5 ty2 rfl rfl rfl rfl rfl rfl rfl rfl ?_;refine qX ?_;refine zU ?_;refine qQ ?_;refine qW ?_;refine qZ ?_;refine qJ (jG 5 ty55 rfl rfl rfl) rfl rfl rfl ?_;refine zV 4 ty55 rfl rfl rfl rfl rfl rfl rfl rfl ?_;refine qX ?_;refine qQ ?_;refine jU ?_;refine yU (rs:=[.cell 4 55]) rfl (resC (jH 4 rfl rfl ty55 rfl) (resN)) ?_
     subst_vars; rfl
    ·
     have hk4:¬ qQJ (srcR L (i + 2) 8)=4:=by have:=vJY hc55; rw [hr19] at this; exact this
     refine qZ ?_;refine qJ (qUW rfl rfl) rfl rfl rfl ?_;refine qJ (qV rfl) rfl rfl rfl ?_;refine qX ?_;refine qQ ?_;refine kZ rfl (fun hc55_2 => ?_) (fun hc55_2 => ?_)
     ·
      have hk5:qQJ (srcR L (i + 2) 8)=5:=by have:=vJZ hc55_2; rw [hr19] at this; exact this
      rw [qXQ (.inr hk5)]
      first | rw [qWY hp hi,qYZ hi] | rw [qWZ hp hi,qYY hi] | rw [qWQ hp hi,qYZ hi] | rw [qXH hp hi,qYY hi]
      refine qZ ?_;refine qJ (qK rfl) rfl rfl rfl ?_;refine jK (F:=vI) hs en21 rfl (fun w' h=>jW _ (by first | omega | assumption | (unfold In64; omega) | decide) w' h) rfl rfl ?_; intro r59 hr59;have br59:=uK hr59 (by first | decide | omega);refine qJ (qGV rfl (by first | exact zUH ⟨by omega,by omega⟩ | rfl)) rfl rfl rfl ?_;refine qJ (kQ rfl rfl (by first | exact zK ⟨by omega,by omega⟩ | rfl)) rfl rfl rfl ?_;refine qJ (qK rfl) rfl rfl rfl ?_;refine jK (F:=vI) hs en21 rfl (fun w' h=>jW _ (by first | omega | assumption | (unfold In64; omega) | decide) w' h) rfl rfl ?_; intro r63 hr63;have br63:=uK hr63 (by first | decide | omega);refine qJ (kQ rfl rfl (by first | exact zK ⟨by omega,by omega⟩ | rfl)) rfl rfl rfl ?_;refine qJ (qU zKQ rfl) rfl rfl rfl ?_;refine zV 5 ty2 rfl rfl rfl rfl rfl rfl rfl rfl ?_;refine qJ (qU zJH rfl) rfl rfl rfl ?_;refine zV 5 ty2 rfl rfl rfl rfl rfl rfl rfl rfl ?_;refine qX ?_;refine zU ?_;refine qQ ?_;refine qW ?_;refine qZ ?_;refine qJ (jG 5 ty55 rfl rfl rfl) rfl rfl rfl ?_;refine zV 4 ty55 rfl rfl rfl rfl rfl rfl rfl rfl ?_;refine qX ?_;refine qQ ?_;refine jU ?_;refine yU (rs:=[.cell 4 55]) rfl (resC (jH 4 rfl rfl ty55 rfl) (resN)) ?_
      subst_vars; rfl
     ·
      have hk5:¬ qQJ (srcR L (i + 2) 8)=5:=by have:=vJY hc55_2; rw [hr19] at this; exact this
      rw [zJG hk0 (by omega)]
      first | rw [qWY hp hi,qYZ hi] | rw [qWZ hp hi,qYY hi] | rw [qWQ hp hi,qYZ hi] | rw [qXH hp hi,qYY hi]
      refine qZ ?_;refine qJ (qK rfl) rfl rfl rfl ?_;refine jK (F:=vI) hs en21 rfl (fun w' h=>jW _ (by first | omega | assumption | (unfold In64; omega) | decide) w' h) rfl rfl ?_; intro r39 hr39;have br39:=uK hr39 (by first | decide | omega);refine qJ (qGV rfl (by first | exact zUH ⟨by omega,by omega⟩ | rfl)) rfl rfl rfl ?_;refine qJ (kQ rfl rfl (by first | exact zK ⟨by omega,by omega⟩ | rfl)) rfl rfl rfl ?_;refine qJ (qVW rfl rfl (by first | decide | omega) (quo8 (by omega))) rfl rfl rfl ?_;refine qJ (qK rfl) rfl rfl rfl ?_;refine jK (F:=vI) hs en21 rfl (fun w' h=>jW _ (by first | omega | assumption | (unfold In64; omega) | decide) w' h) rfl rfl ?_; intro r44 hr44;have br44:=uK hr44 (by first | decide | omega);refine qJ (uQ rfl rfl (by first | exact zK ⟨by omega,by omega⟩ | rfl)) rfl rfl rfl ?_;refine qJ (kQ rfl rfl (by first | exact zK ⟨by omega,by omega⟩ | rfl)) rfl rfl rfl ?_;refine qJ (qVW rfl rfl (by first | decide | omega) (quo8 (by omega))) rfl rfl rfl ?_;refine qJ (qK rfl) rfl rfl rfl ?_;refine jK (F:=vI) hs en21 rfl (fun w' h=>jW _ (by first | omega | assumption | (unfold In64; omega) | decide) w' h) rfl rfl ?_; intro r49 hr49;have br49:=uK hr49 (by first | decide | omega);refine qJ (uQ rfl rfl (hi8 br44 br49)) rfl rfl rfl ?_;refine qJ (qU zKQ rfl) rfl rfl rfl ?_;refine zV 5 ty2 rfl rfl rfl rfl rfl rfl rfl rfl ?_;refine qJ (qU zJH rfl) rfl rfl rfl ?_;refine zV 5 ty2 rfl rfl rfl rfl rfl rfl rfl rfl ?_;refine qX ?_;refine zU ?_;refine qQ ?_;refine qW ?_;refine qZ ?_;refine qJ (jG 5 ty55 rfl rfl rfl) rfl rfl rfl ?_;refine zV 4 ty55 rfl rfl rfl rfl rfl rfl rfl rfl ?_;refine qX ?_;refine qQ ?_;refine jU ?_;refine yU (rs:=[.cell 4 55]) rfl (resC (jH 4 rfl rfl ty55 rfl) (resN)) ?_
      subst_vars; rfl
 ·
  have hp:¬ srcR L (i + 3) 4=1:=fun e=>by have:=vJY hc24; exact this (hr23.trans e)
  refine kJ ?_;refine qQ ?_;refine qW ?_;refine qW ?_;refine qZ ?_;refine qJ (qK rfl) rfl rfl rfl ?_;refine qJ (yJK rfl rfl) rfl rfl rfl ?_;refine qX ?_;refine qQ ?_;refine kZ rfl (fun hc27 => ?_) (fun hc27 => ?_)
  ·
   have hi:0 < k:=vJZ hc27;refine qZ ?_;refine qJ (qK rfl) rfl rfl rfl ?_;refine jK (F:=vI) hs en24 rfl (fun w' h=>qWJ _ (by first | omega | assumption | (unfold In64; omega) | decide) w' h) rfl rfl ?_; intro r29 hr29;have br29:=zVH hr29 (by first | decide | omega);refine qJ (kQ rfl rfl (by first | exact zK ⟨by omega,by omega⟩ | rfl)) rfl rfl rfl ?_;refine qJ (qK rfl) rfl rfl rfl ?_;refine jK (F:=vI) hs en24 rfl (fun w' h=>qWJ _ (by first | omega | assumption | (unfold In64; omega) | decide) w' h) rfl rfl ?_; intro r32 hr32;have br32:=zVH hr32 (by first | decide | omega);refine qJ (kQ rfl rfl (by first | exact zK ⟨by omega,by omega⟩ | rfl)) rfl rfl rfl ?_;refine qJ (qZV la53 rfl rfl) rfl rfl rfl ?_;refine qJ (qU fa55_3 rfl) rfl rfl rfl ?_;refine zV 5 ty53 rfl rfl rfl rfl rfl rfl rfl rfl ?_;refine qX ?_;refine qQ ?_;refine qW ?_;refine qW ?_;refine qZ ?_;refine qJ (qU jVK rfl) rfl rfl rfl ?_;refine qJ (yX 5 ty3 rfl rfl rfl) rfl rfl rfl ?_;refine qX ?_;refine qQ ?_;refine uW ?_;refine qW ?_;refine qZ ?_;refine qJ (qUW rfl rfl) rfl rfl rfl ?_;refine qJ (qV rfl) rfl rfl rfl ?_;refine qX ?_;refine qQ ?_;refine kZ rfl (fun hc53 => ?_) (fun hc53 => ?_)
   ·
    have hk0:qQJ (srcR L (i + 2) 8)=0:=by have:=vJZ hc53; rw [hr19] at this; exact this
    rw [zZG hk0]
    first | rw [qWY hp hi,qYZ hi] | rw [qWZ hp hi,qYY hi] | rw [qWQ hp hi,qYZ hi] | rw [qXH hp hi,qYY hi]
    refine kJ ?_;refine zU ?_;refine qQ ?_;refine qW ?_;refine qZ ?_;refine qJ (jG 5 ty55 rfl rfl rfl) rfl rfl rfl ?_;refine zV 4 ty55 rfl rfl rfl rfl rfl rfl rfl rfl ?_;refine qX ?_;refine qQ ?_;refine jU ?_;refine yU (rs:=[.cell 4 55]) rfl (resC (jH 4 rfl rfl ty55 rfl) (resN)) ?_
    subst_vars; rfl
   ·
    have hk0:¬ qQJ (srcR L (i + 2) 8)=0:=by have:=vJY hc53; rw [hr19] at this; exact this
    refine qW ?_;refine qW ?_;refine qZ ?_;refine qJ (qUW rfl rfl) rfl rfl rfl ?_;refine qJ (qV rfl) rfl rfl rfl ?_;refine qX ?_;refine qQ ?_;refine kZ rfl (fun hc55 => ?_) (fun hc55 => ?_)
    ·
     have hk4:qQJ (srcR L (i + 2) 8)=4:=by have:=vJZ hc55; rw [hr19] at this; exact this
     rw [qXQ (.inl hk4)]
     first | rw [qWY hp hi,qYZ hi] | rw [qWZ hp hi,qYY hi] | rw [qWQ hp hi,qYZ hi] | rw [qXH hp hi,qYY hi]
     refine kJ ?_;refine qQ ?_;refine qXY rfl (hc55) ?_;refine qZ ?_;refine qJ (qK rfl) rfl rfl rfl ?_;refine jK (F:=vI) hs en21 rfl (fun w' h=>jW _ (by first | omega | assumption | (unfold In64; omega) | decide) w' h) rfl rfl ?_; intro r59 hr59;have br59:=uK hr59 (by first | decide | omega);refine qJ (qGV rfl (by first | exact zUH ⟨by omega,by omega⟩ | rfl)) rfl rfl rfl ?_;refine qJ (kQ rfl rfl (by first | exact zK ⟨by omega,by omega⟩ | rfl)) rfl rfl rfl ?_;refine qJ (qK rfl) rfl rfl rfl ?_;refine jK (F:=vI) hs en21 rfl (fun w' h=>jW _ (by first | omega | assumption | (unfold In64; omega) | decide) w' h) rfl rfl ?_; intro r63 hr63;have br63:=uK hr63 (by first | decide | omega);refine qJ (kQ rfl rfl (by first | exact zK ⟨by omega,by omega⟩ | rfl)) rfl rfl rfl ?_;refine qJ (qU zKQ rfl) rfl rfl rfl ?_;refine zV 5 ty2 rfl rfl rfl rfl rfl rfl rfl rfl ?_;refine qJ (qU zJH rfl) rfl rfl rfl ?_;refine zV 5 ty2 rfl rfl rfl rfl rfl rfl rfl rfl ?_;refine qX ?_;refine zU ?_;refine qQ ?_;refine qW ?_;refine qZ ?_;refine qJ (jG 5 ty55 rfl rfl rfl) rfl rfl rfl ?_;refine zV 4 ty55 rfl rfl rfl rfl rfl rfl rfl rfl ?_;refine qX ?_;refine qQ ?_;refine jU ?_;refine yU (rs:=[.cell 4 55]) rfl (resC (jH 4 rfl rfl ty55 rfl) (resN)) ?_
     subst_vars; rfl
    ·
     have hk4:¬ qQJ (srcR L (i + 2) 8)=4:=by have:=vJY hc55; rw [hr19] at this; exact this
     refine qZ ?_;refine qJ (qUW rfl rfl) rfl rfl rfl ?_;refine qJ (qV rfl) rfl rfl rfl ?_;refine qX ?_;refine qQ ?_;refine kZ rfl (fun hc55_2 => ?_) (fun hc55_2 => ?_)
     ·
      have hk5:qQJ (srcR L (i + 2) 8)=5:=by have:=vJZ hc55_2; rw [hr19] at this; exact this
      rw [qXQ (.inr hk5)]
      first | rw [qWY hp hi,qYZ hi] | rw [qWZ hp hi,qYY hi] | rw [qWQ hp hi,qYZ hi] | rw [qXH hp hi,qYY hi]
      refine qZ ?_;refine qJ (qK rfl) rfl rfl rfl ?_;refine jK (F:=vI) hs en21 rfl (fun w' h=>jW _ (by first | omega | assumption | (unfold In64; omega) | decide) w' h) rfl rfl ?_; intro r59 hr59;have br59:=uK hr59 (by first | decide | omega);refine qJ (qGV rfl (by first | exact zUH ⟨by omega,by omega⟩ | rfl)) rfl rfl rfl ?_;refine qJ (kQ rfl rfl (by first | exact zK ⟨by omega,by omega⟩ | rfl)) rfl rfl rfl ?_;refine qJ (qK rfl) rfl rfl rfl ?_;refine jK (F:=vI) hs en21 rfl (fun w' h=>jW _ (by first | omega | assumption | (unfold In64; omega) | decide) w' h) rfl rfl ?_; intro r63 hr63;have br63:=uK hr63 (by first | decide | omega);refine qJ (kQ rfl rfl (by first | exact zK ⟨by omega,by omega⟩ | rfl)) rfl rfl rfl ?_;refine qJ (qU zKQ rfl) rfl rfl rfl ?_;refine zV 5 ty2 rfl rfl rfl rfl rfl rfl rfl rfl ?_;refine qJ (qU zJH rfl) rfl rfl rfl ?_;refine zV 5 ty2 rfl rfl rfl rfl rfl rfl rfl rfl ?_;refine qX ?_;refine zU ?_;refine qQ ?_;refine qW ?_;refine qZ ?_;refine qJ (jG 5 ty55 rfl rfl rfl) rfl rfl rfl ?_;refine zV 4 ty55 rfl rfl rfl rfl rfl rfl rfl rfl ?_;refine qX ?_;refine qQ ?_;refine jU ?_;refine yU (rs:=[.cell 4 55]) rfl (resC (jH 4 rfl rfl ty55 rfl) (resN)) ?_
      subst_vars; rfl
     ·
      have hk5:¬ qQJ (srcR L (i + 2) 8)=5:=by have:=vJY hc55_2; rw [hr19] at this; exact this
      rw [zJG hk0 (by omega)]
      first | rw [qWY hp hi,qYZ hi] | rw [qWZ hp hi,qYY hi] | rw [qWQ hp hi,qYZ hi] | rw [qXH hp hi,qYY hi]
      refine qZ ?_;refine qJ (qK rfl) rfl rfl rfl ?_;refine jK (F:=vI) hs en21 rfl (fun w' h=>jW _ (by first | omega | assumption | (unfold In64; omega) | decide) w' h) rfl rfl ?_; intro r39 hr39;have br39:=uK hr39 (by first | decide | omega);refine qJ (qGV rfl (by first | exact zUH ⟨by omega,by omega⟩ | rfl)) rfl rfl rfl ?_;refine qJ (kQ rfl rfl (by first | exact zK ⟨by omega,by omega⟩ | rfl)) rfl rfl rfl ?_;refine qJ (qVW rfl rfl (by first | decide | omega) (quo8 (by omega))) rfl rfl rfl ?_;refine qJ (qK rfl) rfl rfl rfl ?_;refine jK (F:=vI) hs en21 rfl (fun w' h=>jW _ (by first | omega | assumption | (unfold In64; omega) | decide) w' h) rfl rfl ?_; intro r44 hr44;have br44:=uK hr44 (by first | decide | omega);refine qJ (uQ rfl rfl (by first | exact zK ⟨by omega,by omega⟩ | rfl)) rfl rfl rfl ?_;refine qJ (kQ rfl rfl (by first | exact zK ⟨by omega,by omega⟩ | rfl)) rfl rfl rfl ?_;refine qJ (qVW rfl rfl (by first | decide | omega) (quo8 (by omega))) rfl rfl rfl ?_;refine qJ (qK rfl) rfl rfl rfl ?_;refine jK (F:=vI) hs en21 rfl (fun w' h=>jW _ (by first | omega | assumption | (unfold In64; omega) | decide) w' h) rfl rfl ?_; intro r49 hr49;have br49:=uK hr49 (by first | decide | omega);refine qJ (uQ rfl rfl (hi8 br44 br49)) rfl rfl rfl ?_;refine qJ (qU zKQ rfl) rfl rfl rfl ?_;refine zV 5 ty2 rfl rfl rfl rfl rfl rfl rfl rfl ?_;refine qJ (qU zJH rfl) rfl rfl rfl ?_;refine zV 5 ty2 rfl rfl rfl rfl rfl rfl rfl rfl ?_;refine qX ?_;refine zU ?_;refine qQ ?_;refine qW ?_;refine qZ ?_;refine qJ (jG 5 ty55 rfl rfl rfl) rfl rfl rfl ?_;refine zV 4 ty55 rfl rfl rfl rfl rfl rfl rfl rfl ?_;refine qX ?_;refine qQ ?_;refine jU ?_;refine yU (rs:=[.cell 4 55]) rfl (resC (jH 4 rfl rfl ty55 rfl) (resN)) ?_
      subst_vars; rfl
  ·
   have hi:¬ 0 < k:=vJY hc27;refine kJ ?_;refine qQ ?_;refine qW ?_;refine qW ?_;refine qZ ?_;refine qJ (qU jVK rfl) rfl rfl rfl ?_;refine qJ (yX 5 ty3 rfl rfl rfl) rfl rfl rfl ?_;refine qX ?_;refine qQ ?_;refine uW ?_;refine qW ?_;refine qZ ?_;refine qJ (qUW rfl rfl) rfl rfl rfl ?_;refine qJ (qV rfl) rfl rfl rfl ?_;refine qX ?_;refine qQ ?_;refine kZ rfl (fun hc53 => ?_) (fun hc53 => ?_)
   ·
    have hk0:qQJ (srcR L (i + 2) 8)=0:=by have:=vJZ hc53; rw [hr19] at this; exact this
    rw [zZG hk0]
    first | rw [qWY hp hi,qYZ hi] | rw [qWZ hp hi,qYY hi] | rw [qWQ hp hi,qYZ hi] | rw [qXH hp hi,qYY hi]
    refine kJ ?_;refine zU ?_;refine qQ ?_;refine qW ?_;refine qZ ?_;refine qJ (jG 5 ty55 rfl rfl rfl) rfl rfl rfl ?_;refine zV 4 ty55 rfl rfl rfl rfl rfl rfl rfl rfl ?_;refine qX ?_;refine qQ ?_;refine jU ?_;refine yU (rs:=[.cell 4 55]) rfl (resC (jH 4 rfl rfl ty55 rfl) (resN)) ?_
    subst_vars; rfl
   ·
    have hk0:¬ qQJ (srcR L (i + 2) 8)=0:=by have:=vJY hc53; rw [hr19] at this; exact this
    refine qW ?_;refine qW ?_;refine qZ ?_;refine qJ (qUW rfl rfl) rfl rfl rfl ?_;refine qJ (qV rfl) rfl rfl rfl ?_;refine qX ?_;refine qQ ?_;refine kZ rfl (fun hc55 => ?_) (fun hc55 => ?_)
    ·
     have hk4:qQJ (srcR L (i + 2) 8)=4:=by have:=vJZ hc55; rw [hr19] at this; exact this
     rw [qXQ (.inl hk4)]
     first | rw [qWY hp hi,qYZ hi] | rw [qWZ hp hi,qYY hi] | rw [qWQ hp hi,qYZ hi] | rw [qXH hp hi,qYY hi]
     refine kJ ?_;refine qQ ?_;refine qXY rfl (hc55) ?_;refine qZ ?_;refine qJ (qK rfl) rfl rfl rfl ?_;refine jK (F:=vI) hs en21 rfl (fun w' h=>jW _ (by first | omega | assumption | (unfold In64; omega) | decide) w' h) rfl rfl ?_; intro r59 hr59;have br59:=uK hr59 (by first | decide | omega);refine qJ (qGV rfl (by first | exact zUH ⟨by omega,by omega⟩ | rfl)) rfl rfl rfl ?_;refine qJ (kQ rfl rfl (by first | exact zK ⟨by omega,by omega⟩ | rfl)) rfl rfl rfl ?_;refine qJ (qK rfl) rfl rfl rfl ?_;refine jK (F:=vI) hs en21 rfl (fun w' h=>jW _ (by first | omega | assumption | (unfold In64; omega) | decide) w' h) rfl rfl ?_; intro r63 hr63;have br63:=uK hr63 (by first | decide | omega);refine qJ (kQ rfl rfl (by first | exact zK ⟨by omega,by omega⟩ | rfl)) rfl rfl rfl ?_;refine qJ (qU zKQ rfl) rfl rfl rfl ?_;refine zV 5 ty2 rfl rfl rfl rfl rfl rfl rfl rfl ?_;refine qJ (qU zJH rfl) rfl rfl rfl ?_;refine zV 5 ty2 rfl rfl rfl rfl rfl rfl rfl rfl ?_;refine qX ?_;refine zU ?_;refine qQ ?_;refine qW ?_;refine qZ ?_;refine qJ (jG 5 ty55 rfl rfl rfl) rfl rfl rfl ?_;refine zV 4 ty55 rfl rfl rfl rfl rfl rfl rfl rfl ?_;refine qX ?_;refine qQ ?_;refine jU ?_;refine yU (rs:=[.cell 4 55]) rfl (resC (jH 4 rfl rfl ty55 rfl) (resN)) ?_
     subst_vars; rfl
    ·
     have hk4:¬ qQJ (srcR L (i + 2) 8)=4:=by have:=vJY hc55; rw [hr19] at this; exact this
     refine qZ ?_;refine qJ (qUW rfl rfl) rfl rfl rfl ?_;refine qJ (qV rfl) rfl rfl rfl ?_;refine qX ?_;refine qQ ?_;refine kZ rfl (fun hc55_2 => ?_) (fun hc55_2 => ?_)
     ·
      have hk5:qQJ (srcR L (i + 2) 8)=5:=by have:=vJZ hc55_2; rw [hr19] at this; exact this
      rw [qXQ (.inr hk5)]
      first | rw [qWY hp hi,qYZ hi] | rw [qWZ hp hi,qYY hi] | rw [qWQ hp hi,qYZ hi] | rw [qXH hp hi,qYY hi]
      refine qZ ?_;refine qJ (qK rfl) rfl rfl rfl ?_;refine jK (F:=vI) hs en21 rfl (fun w' h=>jW _ (by first | omega | assumption | (unfold In64; omega) | decide) w' h) rfl rfl ?_; intro r59 hr59;have br59:=uK hr59 (by first | decide | omega);refine qJ (qGV rfl (by first | exact zUH ⟨by omega,by omega⟩ | rfl)) rfl rfl rfl ?_;refine qJ (kQ rfl rfl (by first | exact zK ⟨by omega,by omega⟩ | rfl)) rfl rfl rfl ?_;refine qJ (qK rfl) rfl rfl rfl ?_;refine jK (F:=vI) hs en21 rfl (fun w' h=>jW _ (by first | omega | assumption | (unfold In64; omega) | decide) w' h) rfl rfl ?_; intro r63 hr63;have br63:=uK hr63 (by first | decide | omega);refine qJ (kQ rfl rfl (by first | exact zK ⟨by omega,by omega⟩ | rfl)) rfl rfl rfl ?_;refine qJ (qU zKQ rfl) rfl rfl rfl ?_;refine zV 5 ty2 rfl rfl rfl rfl rfl rfl rfl rfl ?_;refine qJ (qU zJH rfl) rfl rfl rfl ?_;refine zV 5 ty2 rfl rfl rfl rfl rfl rfl rfl rfl ?_;refine qX ?_;refine zU ?_;refine qQ ?_;refine qW ?_;refine qZ ?_;refine qJ (jG 5 ty55 rfl rfl rfl) rfl rfl rfl ?_;refine zV 4 ty55 rfl rfl rfl rfl rfl rfl rfl rfl ?_;refine qX ?_;refine qQ ?_;refine jU ?_;refine yU (rs:=[.cell 4 55]) rfl (resC (jH 4 rfl rfl ty55 rfl) (resN)) ?_
      subst_vars; rfl
     ·
      have hk5:¬ qQJ (srcR L (i + 2) 8)=5:=by have:=vJY hc55_2; rw [hr19] at this; exact this
      rw [zJG hk0 (by omega)]
      first | rw [qWY hp hi,qYZ hi] | rw [qWZ hp hi,qYY hi] | rw [qWQ hp hi,qYZ hi] | rw [qXH hp hi,qYY hi]
      refine qZ ?_;refine qJ (qK rfl) rfl rfl rfl ?_;refine jK (F:=vI) hs en21 rfl (fun w' h=>jW _ (by first | omega | assumption | (unfold In64; omega) | decide) w' h) rfl rfl ?_; intro r39 hr39;have br39:=uK hr39 (by first | decide | omega);refine qJ (qGV rfl (by first | exact zUH ⟨by omega,by omega⟩ | rfl)) rfl rfl rfl ?_;refine qJ (kQ rfl rfl (by first | exact zK ⟨by omega,by omega⟩ | rfl)) rfl rfl rfl ?_;refine qJ (qVW rfl rfl (by first | decide | omega) (quo8 (by omega))) rfl rfl rfl ?_;refine qJ (qK rfl) rfl rfl rfl ?_;refine jK (F:=vI) hs en21 rfl (fun w' h=>jW _ (by first | omega | assumption | (unfold In64; omega) | decide) w' h) rfl rfl ?_; intro r44 hr44;have br44:=uK hr44 (by first | decide | omega);refine qJ (uQ rfl rfl (by first | exact zK ⟨by omega,by omega⟩ | rfl)) rfl rfl rfl ?_;refine qJ (kQ rfl rfl (by first | exact zK ⟨by omega,by omega⟩ | rfl)) rfl rfl rfl ?_;refine qJ (qVW rfl rfl (by first | decide | omega) (quo8 (by omega))) rfl rfl rfl ?_;refine qJ (qK rfl) rfl rfl rfl ?_;refine jK (F:=vI) hs en21 rfl (fun w' h=>jW _ (by first | omega | assumption | (unfold In64; omega) | decide) w' h) rfl rfl ?_; intro r49 hr49;have br49:=uK hr49 (by first | decide | omega);refine qJ (uQ rfl rfl (hi8 br44 br49)) rfl rfl rfl ?_;refine qJ (qU zKQ rfl) rfl rfl rfl ?_;refine zV 5 ty2 rfl rfl rfl rfl rfl rfl rfl rfl ?_;refine qJ (qU zJH rfl) rfl rfl rfl ?_;refine zV 5 ty2 rfl rfl rfl rfl rfl rfl rfl rfl ?_;refine qX ?_;refine zU ?_;refine qQ ?_;refine qW ?_;refine qZ ?_;refine qJ (jG 5 ty55 rfl rfl rfl) rfl rfl rfl ?_;refine zV 4 ty55 rfl rfl rfl rfl rfl rfl rfl rfl ?_;refine qX ?_;refine qQ ?_;refine jU ?_;refine yU (rs:=[.cell 4 55]) rfl (resC (jH 4 rfl rfl ty55 rfl) (resN)) ?_
      subst_vars; rfl
end Go.Proofs.YtmffoiemmlcmfaaGreat

/- Part 11 of the texts behind the last one: rules and contracts. No condition. -/
import Derived.Test.YtmeldddgjfocdaaGreatGL10
open Option renaming bind_eq_some_iff → vQQ
open Option.some renaming injEq → vQZ
open Prod.mk renaming injEq → vQY
open List renaming getElem?_eq_getElem → vQK, length_cons → vQW, length_nil → vQV, all_eq_true → vZZ
open Go.IntKind renaming wrap → vJJ
namespace Go.Proofs.YtmeldddgjfocdaaGreat
open Go.Rx Rt Go.Sx Go.RowKit
namespace VM2
noncomputable def fQY:OrL:=(160,Tm.o_iAdd) :: ([]:OrL)
theorem kHG:AllP (fun x:Nat × (List PV→Option (Bool × Ret))=>zZ Tryz.prog x.1 x.2) fQY:=⟨Tm.ok_iAdd,trivial⟩
noncomputable def jVL:List PV→Option (Bool × Ret):=fun ps=>match ps with
 | [.a a',.a b']=>(ivD a').bind fun a=>(ivD b').bind fun b=>some (true,.v (.a (ivC (Iv.mul a b))))
 | _=>none
theorem uVJ:zZ Tryz.prog 161 jVL:=by
 intro ps r h;unfold jVL at h;split at h
 ·simp only [vQQ,vQZ,vQY] at h;obtain ⟨a,ha,b,hb,hg,rfl⟩:=h;rw [qQF ha];rw [qQF hb];exact qU (qW Tryz.func161 (by kernel_rfl) (by kernel_rfl)) rfl rfl (fun w=>iMul _ _ _ _ w)
 ·cases h
noncomputable def fQZ:OrL:=(161,jVL) :: fQY
theorem kHV:AllP (fun x:Nat × (List PV→Option (Bool × Ret))=>zZ Tryz.prog x.1 x.2) fQZ:=⟨uVJ,kHG⟩
noncomputable def jVC:List PV→Option (Bool × Ret):=fun ps=>match ps with
 | [.a a',.a b']=>(ivD a').bind fun a=>(ivD b').bind fun b=>some (true,.v (.a (ivC (Iv.mul a b))))
 | _=>none
theorem uWA:zZ Tryz.prog 142 jVC:=by
 intro ps r h;unfold jVC at h;split at h
 ·simp only [vQQ,vQZ,vQY] at h;obtain ⟨a,ha,b,hb,hg,rfl⟩:=h;rw [qQF ha];rw [qQF hb];exact qU (qW Tryz.func142 (by kernel_rfl) (by kernel_rfl)) rfl rfl (fun w=>rMul _ _ _ _ w)
 ·cases h
noncomputable def fQQ:OrL:=(142,jVC) :: fQZ
theorem kHW:AllP (fun x:Nat × (List PV→Option (Bool × Ret))=>zZ Tryz.prog x.1 x.2) fQQ:=⟨uWA,kHV⟩
noncomputable def kZW:OrL:=(141,Tm.o_rAdd) :: fQQ
theorem zKB:AllP (fun x:Nat × (List PV→Option (Bool × Ret))=>zZ Tryz.prog x.1 x.2) kZW:=⟨Tm.ok_rAdd,kHW⟩
end VM2
open VM2
set_option maxRecDepth 100000 in
theorem kWJ (p0 p1 p2 p3 p4 p5 p6 p7 p8 p9 p10 p11 p12 p13 p14 p15 p16 p17:Int) (q0 q1 q2 q3 q4 q5 q6 q7 q8 q9 q10 q11 q12 q13 q14 q15 q16 q17:Int) (w:World):Calls Tryz.prog 136 [.agg #[.int .i64 p0,.int .i64 p1,.int .i64 p2,.int .i64 p3,.int .i64 p4,.int .i64 p5,.int .i64 p6,.int .i64 p7,.int .i64 p8,.int .i64 p9,.int .i64 p10,.int .i64 p11,.int .i64 p12,.int .i64 p13,.int .i64 p14,.int .i64 p15,.int .i64 p16,.int .i64 p17],.agg #[.int .i64 q0,.int .i64 q1,.int .i64 q2,.int .i64 q3,.int .i64 q4,.int .i64 q5,.int .i64 q6,.int .i64 q7,.int .i64 q8,.int .i64 q9,.int .i64 q10,.int .i64 q11,.int .i64 q12,.int .i64 q13,.int .i64 q14,.int .i64 q15,.int .i64 q16,.int .i64 q17]].toArray w (Rets (m3 (M3.mul ((M3.mk (V3.mk (Iv.mk p0 p1) (Iv.mk p2 p3) (Iv.mk p4 p5)) (V3.mk (Iv.mk p6 p7) (Iv.mk p8 p9) (Iv.mk p10 p11)) (V3.mk (Iv.mk p12 p13) (Iv.mk p14 p15) (Iv.mk p16 p17))):M3) ((M3.mk (V3.mk (Iv.mk q0 q1) (Iv.mk q2 q3) (Iv.mk q4 q5)) (V3.mk (Iv.mk q6 q7) (Iv.mk q8 q9) (Iv.mk q10 q11)) (V3.mk (Iv.mk q12 q13) (Iv.mk q14 q15) (Iv.mk q16 q17))):M3))) w) :=
 zY (x:=.a (m3C (M3.mul ((M3.mk (V3.mk (Iv.mk p0 p1) (Iv.mk p2 p3) (Iv.mk p4 p5)) (V3.mk (Iv.mk p6 p7) (Iv.mk p8 p9) (Iv.mk p10 p11)) (V3.mk (Iv.mk p12 p13) (Iv.mk p14 p15) (Iv.mk p16 p17))):M3) ((M3.mk (V3.mk (Iv.mk q0 q1) (Iv.mk q2 q3) (Iv.mk q4 q5)) (V3.mk (Iv.mk q6 q7) (Iv.mk q8 q9) (Iv.mk q10 q11)) (V3.mk (Iv.mk q12 q13) (Iv.mk q14 q15) (Iv.mk q16 q17))):M3)))) (qH (N:=60) (ps:=[.a [.n .i64 p0,.n .i64 p1,.n .i64 p2,.n .i64 p3,.n .i64 p4,.n .i64 p5,.n .i64 p6,.n .i64 p7,.n .i64 p8,.n .i64 p9,.n .i64 p10,.n .i64 p11,.n .i64 p12,.n .i64 p13,.n .i64 p14,.n .i64 p15,.n .i64 p16,.n .i64 p17],.a [.n .i64 q0,.n .i64 q1,.n .i64 q2,.n .i64 q3,.n .i64 q4,.n .i64 q5,.n .i64 q6,.n .i64 q7,.n .i64 q8,.n .i64 q9,.n .i64 q10,.n .i64 q11,.n .i64 q12,.n .i64 q13,.n .i64 q14,.n .i64 q15,.n .i64 q16,.n .i64 q17]]) jQ yQ (OrL.ok (l:=kZW) zKB) ((by kernel_rfl:_=some (.v (.a [.n .i64 (min (max (Iv.add (Iv.add (Iv.add (Iv.mk 0 0) (Iv.mul (Iv.mk p0 p1) (Iv.mk q0 q1))) (Iv.mul (Iv.mk p2 p3) (Iv.mk q6 q7))) (Iv.mul (Iv.mk p4 p5) (Iv.mk q12 q13))).lo (-65536)) 65536),.n .i64 (min (max (Iv.add (Iv.add (Iv.add (Iv.mk 0 0) (Iv.mul (Iv.mk p0 p1) (Iv.mk q0 q1))) (Iv.mul (Iv.mk p2 p3) (Iv.mk q6 q7))) (Iv.mul (Iv.mk p4 p5) (Iv.mk q12 q13))).hi (-65536)) 65536),.n .i64 (min (max (Iv.add (Iv.add (Iv.add (Iv.mk 0 0) (Iv.mul (Iv.mk p0 p1) (Iv.mk q2 q3))) (Iv.mul (Iv.mk p2 p3) (Iv.mk q8 q9))) (Iv.mul (Iv.mk p4 p5) (Iv.mk q14 q15))).lo (-65536)) 65536),.n .i64 (min (max (Iv.add (Iv.add (Iv.add (Iv.mk 0 0) (Iv.mul (Iv.mk p0 p1) (Iv.mk q2 q3))) (Iv.mul (Iv.mk p2 p3) (Iv.mk q8 q9))) (Iv.mul (Iv.mk p4 p5) (Iv.mk q14 q15))).hi (-65536)) 65536),.n .i64 (min (max (Iv.add (Iv.add (Iv.add (Iv.mk 0 0) (Iv.mul (Iv.mk p0 p1) (Iv.mk q4 q5))) (Iv.mul (Iv.mk p2 p3) (Iv.mk q10 q11))) (Iv.mul (Iv.mk p4 p5) (Iv.mk q16 q17))).lo (-65536)) 65536),.n .i64 (min (max (Iv.add (Iv.add (Iv.add (Iv.mk 0 0) (Iv.mul (Iv.mk p0 p1) (Iv.mk q4 q5))) (Iv.mul (Iv.mk p2 p3) (Iv.mk q10 q11))) (Iv.mul (Iv.mk p4 p5) (Iv.mk q16 q17))).hi (-65536)) 65536),.n .i64 (min (max (Iv.add (Iv.add (Iv.add (Iv.mk 0 0) (Iv.mul (Iv.mk p6 p7) (Iv.mk q0 q1))) (Iv.mul (Iv.mk p8 p9) (Iv.mk q6 q7))) (Iv.mul (Iv.mk p10 p11) (Iv.mk q12 q13))).lo (-65536)) 65536),.n .i64 (min (max (Iv.add (Iv.add (Iv.add (Iv.mk 0 0) (Iv.mul (Iv.mk p6 p7) (Iv.mk q0 q1))) (Iv.mul (Iv.mk p8 p9) (Iv.mk q6 q7))) (Iv.mul (Iv.mk p10 p11) (Iv.mk q12 q13))).hi (-65536)) 65536),.n .i64 (min (max (Iv.add (Iv.add (Iv.add (Iv.mk 0 0) (Iv.mul (Iv.mk p6 p7) (Iv.mk q2 q3))) (Iv.mul (Iv.mk p8 p9) (Iv.mk q8 q9))) (Iv.mul (Iv.mk p10 p11) (Iv.mk q14 q15))).lo (-65536)) 65536),.n .i64 (min (max (Iv.add (Iv.add (Iv.add (Iv.mk 0 0) (Iv.mul (Iv.mk p6 p7) (Iv.mk q2 q3))) (Iv.mul (Iv.mk p8 p9) (Iv.mk q8 q9))) (Iv.mul (Iv.mk p10 p11) (Iv.mk q14 q15))).hi (-65536)) 65536),.n .i64 (min (max (Iv.add (Iv.add (Iv.add (Iv.mk 0 0) (Iv.mul (Iv.mk p6 p7) (Iv.mk q4 q5))) (Iv.mul (Iv.mk p8 p9) (Iv.mk q10 q11))) (Iv.mul (Iv.mk p10 p11) (Iv.mk q16 q17))).lo (-65536)) 65536),.n .i64 (min (max (Iv.add (Iv.add (Iv.add (Iv.mk 0 0) (Iv.mul (Iv.mk p6 p7) (Iv.mk q4 q5))) (Iv.mul (Iv.mk p8 p9) (Iv.mk q10 q11))) (Iv.mul (Iv.mk p10 p11) (Iv.mk q16 q17))).hi (-65536)) 65536),.n .i64 (min (max (Iv.add (Iv.add (Iv.add (Iv.mk 0 0) (Iv.mul (Iv.mk p12 p13) (Iv.mk q0 q1))) (Iv.mul (Iv.mk p14 p15) (Iv.mk q6 q7))) (Iv.mul (Iv.mk p16 p17) (Iv.mk q12 q13))).lo (-65536)) 65536),.n .i64 (min (max (Iv.add (Iv.add (Iv.add (Iv.mk 0 0) (Iv.mul (Iv.mk p12 p13) (Iv.mk q0 q1))) (Iv.mul (Iv.mk p14 p15) (Iv.mk q6 q7))) (Iv.mul (Iv.mk p16 p17) (Iv.mk q12 q13))).hi (-65536)) 65536),.n .i64 (min (max (Iv.add (Iv.add (Iv.add (Iv.mk 0 0) (Iv.mul (Iv.mk p12 p13) (Iv.mk q2 q3))) (Iv.mul (Iv.mk p14 p15) (Iv.mk q8 q9))) (Iv.mul (Iv.mk p16 p17) (Iv.mk q14 q15))).lo (-65536)) 65536),.n .i64 (min (max (Iv.add (Iv.add (Iv.add (Iv.mk 0 0) (Iv.mul (Iv.mk p12 p13) (Iv.mk q2 q3))) (Iv.mul (Iv.mk p14 p15) (Iv.mk q8 q9))) (Iv.mul (Iv.mk p16 p17) (Iv.mk q14 q15))).hi (-65536)) 65536),.n .i64 (min (max (Iv.add (Iv.add (Iv.add (Iv.mk 0 0) (Iv.mul (Iv.mk p12 p13) (Iv.mk q4 q5))) (Iv.mul (Iv.mk p14 p15) (Iv.mk q10 q11))) (Iv.mul (Iv.mk p16 p17) (Iv.mk q16 q17))).lo (-65536)) 65536),.n .i64 (min (max (Iv.add (Iv.add (Iv.add (Iv.mk 0 0) (Iv.mul (Iv.mk p12 p13) (Iv.mk q4 q5))) (Iv.mul (Iv.mk p14 p15) (Iv.mk q10 q11))) (Iv.mul (Iv.mk p16 p17) (Iv.mk q16 q17))).hi (-65536)) 65536)]),[])).trans (by simp only [zJH]; rfl))) rfl rfl w
set_option maxRecDepth 100000 in
theorem kKL (p0 p1 p2 p3 p4 p5 p6 p7 p8 p9 p10 p11 p12 p13 p14 p15 p16 p17:Int) (q0 q1 q2 q3 q4 q5 q6 q7 q8 q9 q10 q11 q12 q13 q14 q15 q16 q17:Int) (w:World):Calls Tryz.prog 123 [.agg #[.int .i64 p0,.int .i64 p1,.int .i64 p2,.int .i64 p3,.int .i64 p4,.int .i64 p5,.int .i64 p6,.int .i64 p7,.int .i64 p8,.int .i64 p9,.int .i64 p10,.int .i64 p11,.int .i64 p12,.int .i64 p13,.int .i64 p14,.int .i64 p15,.int .i64 p16,.int .i64 p17],.agg #[.int .i64 q0,.int .i64 q1,.int .i64 q2,.int .i64 q3,.int .i64 q4,.int .i64 q5,.int .i64 q6,.int .i64 q7,.int .i64 q8,.int .i64 q9,.int .i64 q10,.int .i64 q11,.int .i64 q12,.int .i64 q13,.int .i64 q14,.int .i64 q15,.int .i64 q16,.int .i64 q17]].toArray w (Rets (m3 (M3.mul ((M3.mk (V3.mk (Iv.mk p0 p1) (Iv.mk p2 p3) (Iv.mk p4 p5)) (V3.mk (Iv.mk p6 p7) (Iv.mk p8 p9) (Iv.mk p10 p11)) (V3.mk (Iv.mk p12 p13) (Iv.mk p14 p15) (Iv.mk p16 p17))):M3) ((M3.mk (V3.mk (Iv.mk q0 q1) (Iv.mk q2 q3) (Iv.mk q4 q5)) (V3.mk (Iv.mk q6 q7) (Iv.mk q8 q9) (Iv.mk q10 q11)) (V3.mk (Iv.mk q12 q13) (Iv.mk q14 q15) (Iv.mk q16 q17))):M3))) w) :=
 zY (x:=.a (m3C (M3.mul ((M3.mk (V3.mk (Iv.mk p0 p1) (Iv.mk p2 p3) (Iv.mk p4 p5)) (V3.mk (Iv.mk p6 p7) (Iv.mk p8 p9) (Iv.mk p10 p11)) (V3.mk (Iv.mk p12 p13) (Iv.mk p14 p15) (Iv.mk p16 p17))):M3) ((M3.mk (V3.mk (Iv.mk q0 q1) (Iv.mk q2 q3) (Iv.mk q4 q5)) (V3.mk (Iv.mk q6 q7) (Iv.mk q8 q9) (Iv.mk q10 q11)) (V3.mk (Iv.mk q12 q13) (Iv.mk q14 q15) (Iv.mk q16 q17))):M3)))) (qH (N:=60) (ps:=[.a [.n .i64 p0,.n .i64 p1,.n .i64 p2,.n .i64 p3,.n .i64 p4,.n .i64 p5,.n .i64 p6,.n .i64 p7,.n .i64 p8,.n .i64 p9,.n .i64 p10,.n .i64 p11,.n .i64 p12,.n .i64 p13,.n .i64 p14,.n .i64 p15,.n .i64 p16,.n .i64 p17],.a [.n .i64 q0,.n .i64 q1,.n .i64 q2,.n .i64 q3,.n .i64 q4,.n .i64 q5,.n .i64 q6,.n .i64 q7,.n .i64 q8,.n .i64 q9,.n .i64 q10,.n .i64 q11,.n .i64 q12,.n .i64 q13,.n .i64 q14,.n .i64 q15,.n .i64 q16,.n .i64 q17]]) jQ yQ (OrL.ok (l:=kZW) zKB) ((by kernel_rfl:_=some (.v (.a [.n .i64 (max (-65536) (min (Iv.add (Iv.add (Iv.mul (Iv.mk p0 p1) (Iv.mk q0 q1)) (Iv.mul (Iv.mk p2 p3) (Iv.mk q6 q7))) (Iv.mul (Iv.mk p4 p5) (Iv.mk q12 q13))).lo 65536)),.n .i64 (max (-65536) (min (Iv.add (Iv.add (Iv.mul (Iv.mk p0 p1) (Iv.mk q0 q1)) (Iv.mul (Iv.mk p2 p3) (Iv.mk q6 q7))) (Iv.mul (Iv.mk p4 p5) (Iv.mk q12 q13))).hi 65536)),.n .i64 (max (-65536) (min (Iv.add (Iv.add (Iv.mul (Iv.mk p0 p1) (Iv.mk q2 q3)) (Iv.mul (Iv.mk p2 p3) (Iv.mk q8 q9))) (Iv.mul (Iv.mk p4 p5) (Iv.mk q14 q15))).lo 65536)),.n .i64 (max (-65536) (min (Iv.add (Iv.add (Iv.mul (Iv.mk p0 p1) (Iv.mk q2 q3)) (Iv.mul (Iv.mk p2 p3) (Iv.mk q8 q9))) (Iv.mul (Iv.mk p4 p5) (Iv.mk q14 q15))).hi 65536)),.n .i64 (max (-65536) (min (Iv.add (Iv.add (Iv.mul (Iv.mk p0 p1) (Iv.mk q4 q5)) (Iv.mul (Iv.mk p2 p3) (Iv.mk q10 q11))) (Iv.mul (Iv.mk p4 p5) (Iv.mk q16 q17))).lo 65536)),.n .i64 (max (-65536) (min (Iv.add (Iv.add (Iv.mul (Iv.mk p0 p1) (Iv.mk q4 q5)) (Iv.mul (Iv.mk p2 p3) (Iv.mk q10 q11))) (Iv.mul (Iv.mk p4 p5) (Iv.mk q16 q17))).hi 65536)),.n .i64 (max (-65536) (min (Iv.add (Iv.add (Iv.mul (Iv.mk p6 p7) (Iv.mk q0 q1)) (Iv.mul (Iv.mk p8 p9) (Iv.mk q6 q7))) (Iv.mul (Iv.mk p10 p11) (Iv.mk q12 q13))).lo 65536)),.n .i64 (max (-65536) (min (Iv.add (Iv.add (Iv.mul (Iv.mk p6 p7) (Iv.mk q0 q1)) (Iv.mul (Iv.mk p8 p9) (Iv.mk q6 q7))) (Iv.mul (Iv.mk p10 p11) (Iv.mk q12 q13))).hi 65536)),.n .i64 (max (-65536) (min (Iv.add (Iv.add (Iv.mul (Iv.mk p6 p7) (Iv.mk q2 q3)) (Iv.mul (Iv.mk p8 p9) (Iv.mk q8 q9))) (Iv.mul (Iv.mk p10 p11) (Iv.mk q14 q15))).lo 65536)),.n .i64 (max (-65536) (min (Iv.add (Iv.add (Iv.mul (Iv.mk p6 p7) (Iv.mk q2 q3)) (Iv.mul (Iv.mk p8 p9) (Iv.mk q8 q9))) (Iv.mul (Iv.mk p10 p11) (Iv.mk q14 q15))).hi 65536)),.n .i64 (max (-65536) (min (Iv.add (Iv.add (Iv.mul (Iv.mk p6 p7) (Iv.mk q4 q5)) (Iv.mul (Iv.mk p8 p9) (Iv.mk q10 q11))) (Iv.mul (Iv.mk p10 p11) (Iv.mk q16 q17))).lo 65536)),.n .i64 (max (-65536) (min (Iv.add (Iv.add (Iv.mul (Iv.mk p6 p7) (Iv.mk q4 q5)) (Iv.mul (Iv.mk p8 p9) (Iv.mk q10 q11))) (Iv.mul (Iv.mk p10 p11) (Iv.mk q16 q17))).hi 65536)),.n .i64 (max (-65536) (min (Iv.add (Iv.add (Iv.mul (Iv.mk p12 p13) (Iv.mk q0 q1)) (Iv.mul (Iv.mk p14 p15) (Iv.mk q6 q7))) (Iv.mul (Iv.mk p16 p17) (Iv.mk q12 q13))).lo 65536)),.n .i64 (max (-65536) (min (Iv.add (Iv.add (Iv.mul (Iv.mk p12 p13) (Iv.mk q0 q1)) (Iv.mul (Iv.mk p14 p15) (Iv.mk q6 q7))) (Iv.mul (Iv.mk p16 p17) (Iv.mk q12 q13))).hi 65536)),.n .i64 (max (-65536) (min (Iv.add (Iv.add (Iv.mul (Iv.mk p12 p13) (Iv.mk q2 q3)) (Iv.mul (Iv.mk p14 p15) (Iv.mk q8 q9))) (Iv.mul (Iv.mk p16 p17) (Iv.mk q14 q15))).lo 65536)),.n .i64 (max (-65536) (min (Iv.add (Iv.add (Iv.mul (Iv.mk p12 p13) (Iv.mk q2 q3)) (Iv.mul (Iv.mk p14 p15) (Iv.mk q8 q9))) (Iv.mul (Iv.mk p16 p17) (Iv.mk q14 q15))).hi 65536)),.n .i64 (max (-65536) (min (Iv.add (Iv.add (Iv.mul (Iv.mk p12 p13) (Iv.mk q4 q5)) (Iv.mul (Iv.mk p14 p15) (Iv.mk q10 q11))) (Iv.mul (Iv.mk p16 p17) (Iv.mk q16 q17))).lo 65536)),.n .i64 (max (-65536) (min (Iv.add (Iv.add (Iv.mul (Iv.mk p12 p13) (Iv.mk q4 q5)) (Iv.mul (Iv.mk p14 p15) (Iv.mk q10 q11))) (Iv.mul (Iv.mk p16 p17) (Iv.mk q16 q17))).hi 65536))]),[])).trans (by simp only [uGW]; rfl))) rfl rfl w
set_option maxRecDepth 100000 in
theorem uZF (p0 p1 p2 p3 p4 p5 p6 p7 p8 p9 p10 p11 p12 p13 p14 p15 p16 p17:Int) (q0 q1 q2 q3 q4 q5:Int) (w:World):Calls Tryz.prog 159 [.agg #[.int .i64 p0,.int .i64 p1,.int .i64 p2,.int .i64 p3,.int .i64 p4,.int .i64 p5,.int .i64 p6,.int .i64 p7,.int .i64 p8,.int .i64 p9,.int .i64 p10,.int .i64 p11,.int .i64 p12,.int .i64 p13,.int .i64 p14,.int .i64 p15,.int .i64 p16,.int .i64 p17],.agg #[.int .i64 q0,.int .i64 q1,.int .i64 q2,.int .i64 q3,.int .i64 q4,.int .i64 q5]].toArray w (Rets (v3 (M3.apply ((M3.mk (V3.mk (Iv.mk p0 p1) (Iv.mk p2 p3) (Iv.mk p4 p5)) (V3.mk (Iv.mk p6 p7) (Iv.mk p8 p9) (Iv.mk p10 p11)) (V3.mk (Iv.mk p12 p13) (Iv.mk p14 p15) (Iv.mk p16 p17))):M3) ((V3.mk (Iv.mk q0 q1) (Iv.mk q2 q3) (Iv.mk q4 q5)):V3))) w) :=
 zY (x:=.a (v3C (M3.apply ((M3.mk (V3.mk (Iv.mk p0 p1) (Iv.mk p2 p3) (Iv.mk p4 p5)) (V3.mk (Iv.mk p6 p7) (Iv.mk p8 p9) (Iv.mk p10 p11)) (V3.mk (Iv.mk p12 p13) (Iv.mk p14 p15) (Iv.mk p16 p17))):M3) ((V3.mk (Iv.mk q0 q1) (Iv.mk q2 q3) (Iv.mk q4 q5)):V3)))) (qH (N:=60) (ps:=[.a [.n .i64 p0,.n .i64 p1,.n .i64 p2,.n .i64 p3,.n .i64 p4,.n .i64 p5,.n .i64 p6,.n .i64 p7,.n .i64 p8,.n .i64 p9,.n .i64 p10,.n .i64 p11,.n .i64 p12,.n .i64 p13,.n .i64 p14,.n .i64 p15,.n .i64 p16,.n .i64 p17],.a [.n .i64 q0,.n .i64 q1,.n .i64 q2,.n .i64 q3,.n .i64 q4,.n .i64 q5]]) jQ yQ (OrL.ok (l:=kZW) zKB) ((by kernel_rfl:_=some (.v (.a [.n .i64 (Iv.add (Iv.add (Iv.add (Iv.mk 0 0) (Iv.mul (Iv.mk p0 p1) (Iv.mk q0 q1))) (Iv.mul (Iv.mk p2 p3) (Iv.mk q2 q3))) (Iv.mul (Iv.mk p4 p5) (Iv.mk q4 q5))).lo,.n .i64 (Iv.add (Iv.add (Iv.add (Iv.mk 0 0) (Iv.mul (Iv.mk p0 p1) (Iv.mk q0 q1))) (Iv.mul (Iv.mk p2 p3) (Iv.mk q2 q3))) (Iv.mul (Iv.mk p4 p5) (Iv.mk q4 q5))).hi,.n .i64 (Iv.add (Iv.add (Iv.add (Iv.mk 0 0) (Iv.mul (Iv.mk p6 p7) (Iv.mk q0 q1))) (Iv.mul (Iv.mk p8 p9) (Iv.mk q2 q3))) (Iv.mul (Iv.mk p10 p11) (Iv.mk q4 q5))).lo,.n .i64 (Iv.add (Iv.add (Iv.add (Iv.mk 0 0) (Iv.mul (Iv.mk p6 p7) (Iv.mk q0 q1))) (Iv.mul (Iv.mk p8 p9) (Iv.mk q2 q3))) (Iv.mul (Iv.mk p10 p11) (Iv.mk q4 q5))).hi,.n .i64 (Iv.add (Iv.add (Iv.add (Iv.mk 0 0) (Iv.mul (Iv.mk p12 p13) (Iv.mk q0 q1))) (Iv.mul (Iv.mk p14 p15) (Iv.mk q2 q3))) (Iv.mul (Iv.mk p16 p17) (Iv.mk q4 q5))).lo,.n .i64 (Iv.add (Iv.add (Iv.add (Iv.mk 0 0) (Iv.mul (Iv.mk p12 p13) (Iv.mk q0 q1))) (Iv.mul (Iv.mk p14 p15) (Iv.mk q2 q3))) (Iv.mul (Iv.mk p16 p17) (Iv.mk q4 q5))).hi]),[])).trans (by simp only [zJH]; rfl))) rfl rfl w
set_option maxRecDepth 100000 in
theorem xJA (p0 p1 p2 p3 p4 p5 p6 p7 p8 p9 p10 p11 p12 p13 p14 p15 p16 p17:Int) (q0 q1 q2 q3 q4 q5:Int) (w:World):Calls Tryz.prog 102 [.agg #[.int .i64 p0,.int .i64 p1,.int .i64 p2,.int .i64 p3,.int .i64 p4,.int .i64 p5,.int .i64 p6,.int .i64 p7,.int .i64 p8,.int .i64 p9,.int .i64 p10,.int .i64 p11,.int .i64 p12,.int .i64 p13,.int .i64 p14,.int .i64 p15,.int .i64 p16,.int .i64 p17],.agg #[.int .i64 q0,.int .i64 q1,.int .i64 q2,.int .i64 q3,.int .i64 q4,.int .i64 q5]].toArray w (Rets (v3 (M3.apply ((M3.mk (V3.mk (Iv.mk p0 p1) (Iv.mk p2 p3) (Iv.mk p4 p5)) (V3.mk (Iv.mk p6 p7) (Iv.mk p8 p9) (Iv.mk p10 p11)) (V3.mk (Iv.mk p12 p13) (Iv.mk p14 p15) (Iv.mk p16 p17))):M3) ((V3.mk (Iv.mk q0 q1) (Iv.mk q2 q3) (Iv.mk q4 q5)):V3))) w) :=
 zY (x:=.a (v3C (M3.apply ((M3.mk (V3.mk (Iv.mk p0 p1) (Iv.mk p2 p3) (Iv.mk p4 p5)) (V3.mk (Iv.mk p6 p7) (Iv.mk p8 p9) (Iv.mk p10 p11)) (V3.mk (Iv.mk p12 p13) (Iv.mk p14 p15) (Iv.mk p16 p17))):M3) ((V3.mk (Iv.mk q0 q1) (Iv.mk q2 q3) (Iv.mk q4 q5)):V3)))) (qH (N:=60) (ps:=[.a [.n .i64 p0,.n .i64 p1,.n .i64 p2,.n .i64 p3,.n .i64 p4,.n .i64 p5,.n .i64 p6,.n .i64 p7,.n .i64 p8,.n .i64 p9,.n .i64 p10,.n .i64 p11,.n .i64 p12,.n .i64 p13,.n .i64 p14,.n .i64 p15,.n .i64 p16,.n .i64 p17],.a [.n .i64 q0,.n .i64 q1,.n .i64 q2,.n .i64 q3,.n .i64 q4,.n .i64 q5]]) jQ yQ (OrL.ok (l:=kZW) zKB) ((by kernel_rfl:_=some (.v (.a [.n .i64 (Iv.add (Iv.add (Iv.mul (Iv.mk p0 p1) (Iv.mk q0 q1)) (Iv.mul (Iv.mk p2 p3) (Iv.mk q2 q3))) (Iv.mul (Iv.mk p4 p5) (Iv.mk q4 q5))).lo,.n .i64 (Iv.add (Iv.add (Iv.mul (Iv.mk p0 p1) (Iv.mk q0 q1)) (Iv.mul (Iv.mk p2 p3) (Iv.mk q2 q3))) (Iv.mul (Iv.mk p4 p5) (Iv.mk q4 q5))).hi,.n .i64 (Iv.add (Iv.add (Iv.mul (Iv.mk p6 p7) (Iv.mk q0 q1)) (Iv.mul (Iv.mk p8 p9) (Iv.mk q2 q3))) (Iv.mul (Iv.mk p10 p11) (Iv.mk q4 q5))).lo,.n .i64 (Iv.add (Iv.add (Iv.mul (Iv.mk p6 p7) (Iv.mk q0 q1)) (Iv.mul (Iv.mk p8 p9) (Iv.mk q2 q3))) (Iv.mul (Iv.mk p10 p11) (Iv.mk q4 q5))).hi,.n .i64 (Iv.add (Iv.add (Iv.mul (Iv.mk p12 p13) (Iv.mk q0 q1)) (Iv.mul (Iv.mk p14 p15) (Iv.mk q2 q3))) (Iv.mul (Iv.mk p16 p17) (Iv.mk q4 q5))).lo,.n .i64 (Iv.add (Iv.add (Iv.mul (Iv.mk p12 p13) (Iv.mk q0 q1)) (Iv.mul (Iv.mk p14 p15) (Iv.mk q2 q3))) (Iv.mul (Iv.mk p16 p17) (Iv.mk q4 q5))).hi]),[])).trans (by rfl))) rfl rfl w
end Go.Proofs.YtmeldddgjfocdaaGreat
namespace Go.Proofs.YtmeldddgjfocdaaGreat
open Go.Sx Go.Rx Rt Go.RowKit
namespace Tp
end Tp
open Tp
theorem ze68:qJY Tryz.prog 68 (.agg #[.int .i64 0,.int .i64 0,.int .i64 0,.int .i64 0,.int .i64 0,.int .i64 0,.int .i64 0,.int .i64 0,.int .i64 0,.int .i64 0,.int .i64 0,.int .i64 0,.int .i64 0,.int .i64 0,.int .i64 0,.int .i64 0,.int .i64 0,.int .i64 0,.int .i64 0,.int .i64 0,.int .i64 0,.int .i64 0,.int .i64 0,.int .i64 0]):=by unfold qJY; kernel_rfl
theorem ty68:tyB Tryz.prog 68 true 24=true:=by kernel_rfl
namespace Tp
noncomputable def qGD:List PV→Option (Bool × Ret):=fun ps=>match ps with
 | []=>some (true,.v (.a (m3C (M3.unit))))
 | _=>none
theorem yJA:zZ Tryz.prog 137 qGD:=by
 intro ps r h;unfold qGD at h;split at h
 ·simp only [vQZ,vQY] at h;obtain ⟨hg,rfl⟩:=h;exact qU (qW Tryz.func137 (by kernel_rfl) (by kernel_rfl)) rfl rfl (fun w=>jGC  w)
 ·cases h
noncomputable def LTp1:OrL:=(137,qGD) :: ([]:OrL)
theorem xQK:AllP (fun x:Nat × (List PV→Option (Bool × Ret))=>zZ Tryz.prog x.1 x.2) LTp1:=⟨yJA,trivial⟩
noncomputable def yVJ:List PV→Option (Bool × Ret):=fun ps=>match ps with
 | [.n .i64 k,.a a']=>(ivD a').bind fun a=>some (true,.v (.a (m3C (M3.turn k a))))
 | _=>none
theorem kXV:zZ Tryz.prog 180 yVJ:=by
 intro ps r h;unfold yVJ at h;split at h
 ·simp only [vQQ,vQZ,vQY] at h;obtain ⟨a,ha,hg,rfl⟩:=h;rw [qQF ha];exact qU (qW Tryz.func180 (by kernel_rfl) (by kernel_rfl)) rfl rfl (fun w=>fXW _ _ _ w)
 ·cases h
noncomputable def LTp2:OrL:=(180,yVJ) :: LTp1
theorem xQJ:AllP (fun x:Nat × (List PV→Option (Bool × Ret))=>zZ Tryz.prog x.1 x.2) LTp2:=⟨kXV,xQK⟩
noncomputable def zYQ:List PV→Option (Bool × Ret):=fun ps=>match ps with
 | [.a m',.a n']=>(m3D m').bind fun m=>(m3D n').bind fun n=>some (true,.v (.a (m3C (M3.mul m n))))
 | _=>none
theorem yWH:zZ Tryz.prog 136 zYQ:=by
 intro ps r h;unfold zYQ at h;split at h
 ·simp only [vQQ,vQZ,vQY] at h;obtain ⟨m,hm,n,hn,hg,rfl⟩:=h;rw [zXV hm];rw [zXV hn];exact qU (qW Tryz.func136 (by kernel_rfl) (by kernel_rfl)) rfl rfl (fun w=>kWJ _ _ _ _ _ _ _ _ _ _ _ _ _ _ _ _ _ _ _ _ _ _ _ _ _ _ _ _ _ _ _ _ _ _ _ _ w)
 ·cases h
noncomputable def LTp3:OrL:=(136,zYQ) :: LTp2
theorem xQY:AllP (fun x:Nat × (List PV→Option (Bool × Ret))=>zZ Tryz.prog x.1 x.2) LTp3:=⟨yWH,xQJ⟩
noncomputable def qWU:List PV→Option (Bool × Ret):=fun ps=>match ps with
 | [.a m',.a v']=>(m3D m').bind fun m=>(v3D v').bind fun v=>some (true,.v (.a (v3C (M3.apply m v))))
 | _=>none
theorem zXJ:zZ Tryz.prog 159 qWU:=by
 intro ps r h;unfold qWU at h;split at h
 ·simp only [vQQ,vQZ,vQY] at h;obtain ⟨m,hm,v,hv,hg,rfl⟩:=h;rw [zXV hm];rw [qWI hv];exact qU (qW Tryz.func159 (by kernel_rfl) (by kernel_rfl)) rfl rfl (fun w=>uZF _ _ _ _ _ _ _ _ _ _ _ _ _ _ _ _ _ _ _ _ _ _ _ _ w)
 ·cases h
noncomputable def LTp4:OrL:=(159,qWU) :: LTp3
theorem xQZ:AllP (fun x:Nat × (List PV→Option (Bool × Ret))=>zZ Tryz.prog x.1 x.2) LTp4:=⟨zXJ,xQY⟩
noncomputable def jVI:List PV→Option (Bool × Ret):=fun ps=>match ps with
 | [.a v',.a w']=>(v3D v').bind fun v=>(v3D w').bind fun w=>some (true,.v (.a (v3C (V3.add v w))))
 | _=>none
theorem uVZ:zZ Tryz.prog 158 jVI:=by
 intro ps r h;unfold jVI at h;split at h
 ·simp only [vQQ,vQZ,vQY] at h;obtain ⟨v,hv,w,hw,hg,rfl⟩:=h;rw [qWI hv];rw [qWI hw];exact qU (qW Tryz.func158 (by kernel_rfl) (by kernel_rfl)) rfl rfl (fun w=>mAdd _ _ _ _ _ _ _ _ _ _ _ _ w)
 ·cases h
noncomputable def LTp5:OrL:=(158,jVI) :: LTp4
theorem xQQ:AllP (fun x:Nat × (List PV→Option (Bool × Ret))=>zZ Tryz.prog x.1 x.2) LTp5:=⟨uVZ,xQZ⟩
noncomputable def yWE:List PV→Option (Bool × Ret):=fun ps=>match ps with
 | []=>some (true,.v (.a (m3C (M3.unit))))
 | _=>none
theorem kUL:zZ Tryz.prog 135 yWE:=by
 intro ps r h;unfold yWE at h;split at h
 ·simp only [vQZ,vQY] at h;obtain ⟨hg,rfl⟩:=h;exact qU (qW Tryz.func135 (by kernel_rfl) (by kernel_rfl)) rfl rfl (fun w=>fZF  w)
 ·cases h
noncomputable def LTp6:OrL:=(135,yWE) :: LTp5
theorem uHL:AllP (fun x:Nat × (List PV→Option (Bool × Ret))=>zZ Tryz.prog x.1 x.2) LTp6:=⟨kUL,xQQ⟩
noncomputable def yWF:List PV→Option (Bool × Ret):=fun ps=>match ps with
 | [.n .i64 k,.a a']=>(ivD a').bind fun a=>some (true,.v (.a (m3C (M3.turn k a))))
 | _=>none
theorem kXQ:zZ Tryz.prog 153 yWF:=by
 intro ps r h;unfold yWF at h;split at h
 ·simp only [vQQ,vQZ,vQY] at h;obtain ⟨a,ha,hg,rfl⟩:=h;rw [qQF ha];exact qU (qW Tryz.func153 (by kernel_rfl) (by kernel_rfl)) rfl rfl (fun w=>fZI _ _ _ w)
 ·cases h
noncomputable def LTp7:OrL:=(153,yWF) :: LTp6
theorem uHI:AllP (fun x:Nat × (List PV→Option (Bool × Ret))=>zZ Tryz.prog x.1 x.2) LTp7:=⟨kXQ,uHL⟩
noncomputable def zZF:List PV→Option (Bool × Ret):=fun ps=>match ps with
 | [.a m',.a n']=>(m3D m').bind fun m=>(m3D n').bind fun n=>some (true,.v (.a (m3C (M3.mul m n))))
 | _=>none
theorem yWX:zZ Tryz.prog 123 zZF:=by
 intro ps r h;unfold zZF at h;split at h
 ·simp only [vQQ,vQZ,vQY] at h;obtain ⟨m,hm,n,hn,hg,rfl⟩:=h;rw [zXV hm];rw [zXV hn];exact qU (qW Tryz.func123 (by kernel_rfl) (by kernel_rfl)) rfl rfl (fun w=>kKL _ _ _ _ _ _ _ _ _ _ _ _ _ _ _ _ _ _ _ _ _ _ _ _ _ _ _ _ _ _ _ _ _ _ _ _ w)
 ·cases h
noncomputable def LTp8:OrL:=(123,zZF) :: LTp7
theorem uHF:AllP (fun x:Nat × (List PV→Option (Bool × Ret))=>zZ Tryz.prog x.1 x.2) LTp8:=⟨yWX,uHI⟩
noncomputable def yQZ:List PV→Option (Bool × Ret):=fun ps=>match ps with
 | [.a m',.a v']=>(m3D m').bind fun m=>(v3D v').bind fun v=>some (true,.v (.a (v3C (M3.apply m v))))
 | _=>none
theorem jWE:zZ Tryz.prog 102 yQZ:=by
 intro ps r h;unfold yQZ at h;split at h
 ·simp only [vQQ,vQZ,vQY] at h;obtain ⟨m,hm,v,hv,hg,rfl⟩:=h;rw [zXV hm];rw [qWI hv];exact qU (qW Tryz.func102 (by kernel_rfl) (by kernel_rfl)) rfl rfl (fun w=>xJA _ _ _ _ _ _ _ _ _ _ _ _ _ _ _ _ _ _ _ _ _ _ _ _ w)
 ·cases h
noncomputable def LTp9:OrL:=(102,yQZ) :: LTp8
theorem uHE:AllP (fun x:Nat × (List PV→Option (Bool × Ret))=>zZ Tryz.prog x.1 x.2) LTp9:=⟨jWE,uHF⟩
noncomputable def zXU:List PV→Option (Bool × Ret):=fun ps=>match ps with
 | [.a v',.a w']=>(v3D v').bind fun v=>(v3D w').bind fun w=>some (true,.v (.a (v3C (V3.add v w))))
 | _=>none
theorem jJC:zZ Tryz.prog 101 zXU:=by
 intro ps r h;unfold zXU at h;split at h
 ·simp only [vQQ,vQZ,vQY] at h;obtain ⟨v,hv,w,hw,hg,rfl⟩:=h;rw [qWI hv];rw [qWI hw];exact qU (qW Tryz.func101 (by kernel_rfl) (by kernel_rfl)) rfl rfl (fun w=>uXI _ _ _ _ _ _ _ _ _ _ _ _ w)
 ·cases h
noncomputable def zWA:OrL:=(101,zXU) :: LTp9
theorem qKY:AllP (fun x:Nat × (List PV→Option (Bool × Ret))=>zZ Tryz.prog x.1 x.2) zWA:=⟨jJC,uHE⟩
end Tp
set_option maxRecDepth 100000 in
theorem xKD (va0 va1 va2 va3 va4 va5:Int) (w:World):Calls Tryz.prog 98 [.agg #[.int .i64 va0,.int .i64 va1,.int .i64 va2,.int .i64 va3,.int .i64 va4,.int .i64 va5]].toArray w (Rets (po (Po.shift (⟨⟨va0,va1⟩,⟨va2,va3⟩,⟨va4,va5⟩⟩:V3))) (w)) :=
 zY (x:=.a (poC (Po.shift (⟨⟨va0,va1⟩,⟨va2,va3⟩,⟨va4,va5⟩⟩:V3)))) (qH (N:=60) (ps:=[.a (ivs [⟨va0,va1⟩,⟨va2,va3⟩,⟨va4,va5⟩])]) jQ yQ (OrL.ok (l:=zWA) qKY) (by kernel_rfl)) rfl rfl w
set_option maxRecDepth 100000 in
theorem yJY  (w:World):Calls Tryz.prog 107 [].toArray w (Rets (po (Po.rest)) (w)) :=
 zY (x:=.a (poC Po.rest)) (qH (N:=60) (ps:=[]) jQ yQ (OrL.ok (l:=zWA) qKY) (by kernel_rfl)) rfl rfl w
set_option maxRecDepth 100000 in
theorem fKY (axis:Int) (a0 a1:Int) (w:World):Calls Tryz.prog 163 [.int .i64 axis,.agg #[.int .i64 a0,.int .i64 a1]].toArray w (Rets (po (Po.turn axis (⟨a0,a1⟩:Iv))) (w)) :=
 zY (x:=.a (poC (Po.turn axis ⟨a0,a1⟩))) (qH (N:=60) (ps:=[.n .i64 axis,.a [.n .i64 a0,.n .i64 a1]]) jQ yQ (OrL.ok (l:=zWA) qKY) (by kernel_rfl)) rfl rfl w
set_option maxRecDepth 100000 in
theorem yHD (pa0 pa1 pa2 pa3 pa4 pa5 pa6 pa7 pa8 pa9 pa10 pa11 pa12 pa13 pa14 pa15 pa16 pa17 pa18 pa19 pa20 pa21 pa22 pa23:Int) (qa0 qa1 qa2 qa3 qa4 qa5 qa6 qa7 qa8 qa9 qa10 qa11 qa12 qa13 qa14 qa15 qa16 qa17 qa18 qa19 qa20 qa21 qa22 qa23:Int) (w:World):Calls Tryz.prog 97 [.agg #[.int .i64 pa0,.int .i64 pa1,.int .i64 pa2,.int .i64 pa3,.int .i64 pa4,.int .i64 pa5,.int .i64 pa6,.int .i64 pa7,.int .i64 pa8,.int .i64 pa9,.int .i64 pa10,.int .i64 pa11,.int .i64 pa12,.int .i64 pa13,.int .i64 pa14,.int .i64 pa15,.int .i64 pa16,.int .i64 pa17,.int .i64 pa18,.int .i64 pa19,.int .i64 pa20,.int .i64 pa21,.int .i64 pa22,.int .i64 pa23],.agg #[.int .i64 qa0,.int .i64 qa1,.int .i64 qa2,.int .i64 qa3,.int .i64 qa4,.int .i64 qa5,.int .i64 qa6,.int .i64 qa7,.int .i64 qa8,.int .i64 qa9,.int .i64 qa10,.int .i64 qa11,.int .i64 qa12,.int .i64 qa13,.int .i64 qa14,.int .i64 qa15,.int .i64 qa16,.int .i64 qa17,.int .i64 qa18,.int .i64 qa19,.int .i64 qa20,.int .i64 qa21,.int .i64 qa22,.int .i64 qa23]].toArray w (Rets (po (Po.mul (⟨⟨⟨⟨pa0,pa1⟩,⟨pa2,pa3⟩,⟨pa4,pa5⟩⟩,⟨⟨pa6,pa7⟩,⟨pa8,pa9⟩,⟨pa10,pa11⟩⟩,⟨⟨pa12,pa13⟩,⟨pa14,pa15⟩,⟨pa16,pa17⟩⟩⟩,⟨⟨pa18,pa19⟩,⟨pa20,pa21⟩,⟨pa22,pa23⟩⟩⟩:Po) (⟨⟨⟨⟨qa0,qa1⟩,⟨qa2,qa3⟩,⟨qa4,qa5⟩⟩,⟨⟨qa6,qa7⟩,⟨qa8,qa9⟩,⟨qa10,qa11⟩⟩,⟨⟨qa12,qa13⟩,⟨qa14,qa15⟩,⟨qa16,qa17⟩⟩⟩,⟨⟨qa18,qa19⟩,⟨qa20,qa21⟩,⟨qa22,qa23⟩⟩⟩:Po))) (w)) :=
 zY (x:=.a (poC (Po.mul (⟨(⟨⟨⟨pa0,pa1⟩,⟨pa2,pa3⟩,⟨pa4,pa5⟩⟩,⟨⟨pa6,pa7⟩,⟨pa8,pa9⟩,⟨pa10,pa11⟩⟩,⟨⟨pa12,pa13⟩,⟨pa14,pa15⟩,⟨pa16,pa17⟩⟩⟩:M3),⟨⟨pa18,pa19⟩,⟨pa20,pa21⟩,⟨pa22,pa23⟩⟩⟩:Po) (⟨(⟨⟨⟨qa0,qa1⟩,⟨qa2,qa3⟩,⟨qa4,qa5⟩⟩,⟨⟨qa6,qa7⟩,⟨qa8,qa9⟩,⟨qa10,qa11⟩⟩,⟨⟨qa12,qa13⟩,⟨qa14,qa15⟩,⟨qa16,qa17⟩⟩⟩:M3),⟨⟨qa18,qa19⟩,⟨qa20,qa21⟩,⟨qa22,qa23⟩⟩⟩:Po)))) (qH (N:=60) (ps:=[.a (ivs [⟨pa0,pa1⟩,⟨pa2,pa3⟩,⟨pa4,pa5⟩,⟨pa6,pa7⟩,⟨pa8,pa9⟩,⟨pa10,pa11⟩,⟨pa12,pa13⟩,⟨pa14,pa15⟩,⟨pa16,pa17⟩,⟨pa18,pa19⟩,⟨pa20,pa21⟩,⟨pa22,pa23⟩]),.a (ivs [⟨qa0,qa1⟩,⟨qa2,qa3⟩,⟨qa4,qa5⟩,⟨qa6,qa7⟩,⟨qa8,qa9⟩,⟨qa10,qa11⟩,⟨qa12,qa13⟩,⟨qa14,qa15⟩,⟨qa16,qa17⟩,⟨qa18,qa19⟩,⟨qa20,qa21⟩,⟨qa22,qa23⟩])]) jQ yQ (OrL.ok (l:=zWA) qKY) (by kernel_rfl)) rfl rfl w
set_option maxRecDepth 100000 in
theorem xKE (pa0 pa1 pa2 pa3 pa4 pa5 pa6 pa7 pa8 pa9 pa10 pa11 pa12 pa13 pa14 pa15 pa16 pa17 pa18 pa19 pa20 pa21 pa22 pa23:Int) (va0 va1 va2 va3 va4 va5:Int) (w:World):Calls Tryz.prog 78 [.agg #[.int .i64 pa0,.int .i64 pa1,.int .i64 pa2,.int .i64 pa3,.int .i64 pa4,.int .i64 pa5,.int .i64 pa6,.int .i64 pa7,.int .i64 pa8,.int .i64 pa9,.int .i64 pa10,.int .i64 pa11,.int .i64 pa12,.int .i64 pa13,.int .i64 pa14,.int .i64 pa15,.int .i64 pa16,.int .i64 pa17,.int .i64 pa18,.int .i64 pa19,.int .i64 pa20,.int .i64 pa21,.int .i64 pa22,.int .i64 pa23],.agg #[.int .i64 va0,.int .i64 va1,.int .i64 va2,.int .i64 va3,.int .i64 va4,.int .i64 va5]].toArray w (Rets (v3 (Po.app (⟨⟨⟨⟨pa0,pa1⟩,⟨pa2,pa3⟩,⟨pa4,pa5⟩⟩,⟨⟨pa6,pa7⟩,⟨pa8,pa9⟩,⟨pa10,pa11⟩⟩,⟨⟨pa12,pa13⟩,⟨pa14,pa15⟩,⟨pa16,pa17⟩⟩⟩,⟨⟨pa18,pa19⟩,⟨pa20,pa21⟩,⟨pa22,pa23⟩⟩⟩:Po) (⟨⟨va0,va1⟩,⟨va2,va3⟩,⟨va4,va5⟩⟩:V3))) (w)) :=
 zY (x:=.a (v3C (Po.app (⟨(⟨⟨⟨pa0,pa1⟩,⟨pa2,pa3⟩,⟨pa4,pa5⟩⟩,⟨⟨pa6,pa7⟩,⟨pa8,pa9⟩,⟨pa10,pa11⟩⟩,⟨⟨pa12,pa13⟩,⟨pa14,pa15⟩,⟨pa16,pa17⟩⟩⟩:M3),⟨⟨pa18,pa19⟩,⟨pa20,pa21⟩,⟨pa22,pa23⟩⟩⟩:Po) (⟨⟨va0,va1⟩,⟨va2,va3⟩,⟨va4,va5⟩⟩:V3)))) (qH (N:=60) (ps:=[.a (ivs [⟨pa0,pa1⟩,⟨pa2,pa3⟩,⟨pa4,pa5⟩,⟨pa6,pa7⟩,⟨pa8,pa9⟩,⟨pa10,pa11⟩,⟨pa12,pa13⟩,⟨pa14,pa15⟩,⟨pa16,pa17⟩,⟨pa18,pa19⟩,⟨pa20,pa21⟩,⟨pa22,pa23⟩]),.a (ivs [⟨va0,va1⟩,⟨va2,va3⟩,⟨va4,va5⟩])]) jQ yQ (OrL.ok (l:=zWA) qKY) (by kernel_rfl)) rfl rfl w
set_option maxRecDepth 100000 in
theorem xJB (va0 va1 va2 va3 va4 va5:Int) (w:World):Calls Tryz.prog 122 [.agg #[.int .i64 va0,.int .i64 va1,.int .i64 va2,.int .i64 va3,.int .i64 va4,.int .i64 va5]].toArray w (Rets (po (Po.shift (⟨⟨va0,va1⟩,⟨va2,va3⟩,⟨va4,va5⟩⟩:V3))) (w)) :=
 zY (x:=.a (poC (Po.shift (⟨⟨va0,va1⟩,⟨va2,va3⟩,⟨va4,va5⟩⟩:V3)))) (qH (N:=60) (ps:=[.a (ivs [⟨va0,va1⟩,⟨va2,va3⟩,⟨va4,va5⟩])]) jQ yQ (OrL.ok (l:=zWA) qKY) (by kernel_rfl)) rfl rfl w
set_option maxRecDepth 100000 in
theorem xJC  (w:World):Calls Tryz.prog 94 [].toArray w (Rets (po (Po.rest)) (w)) :=
 zY (x:=.a (poC Po.rest)) (qH (N:=60) (ps:=[]) jQ yQ (OrL.ok (l:=zWA) qKY) (by kernel_rfl)) rfl rfl w
set_option maxRecDepth 100000 in
theorem fYZ (axis:Int) (a0 a1:Int) (w:World):Calls Tryz.prog 121 [.int .i64 axis,.agg #[.int .i64 a0,.int .i64 a1]].toArray w (Rets (po (Po.turn axis (⟨a0,a1⟩:Iv))) (w)) :=
 zY (x:=.a (poC (Po.turn axis ⟨a0,a1⟩))) (qH (N:=60) (ps:=[.n .i64 axis,.a [.n .i64 a0,.n .i64 a1]]) jQ yQ (OrL.ok (l:=zWA) qKY) (by kernel_rfl)) rfl rfl w
set_option maxRecDepth 100000 in
theorem yHA (pa0 pa1 pa2 pa3 pa4 pa5 pa6 pa7 pa8 pa9 pa10 pa11 pa12 pa13 pa14 pa15 pa16 pa17 pa18 pa19 pa20 pa21 pa22 pa23:Int) (qa0 qa1 qa2 qa3 qa4 qa5 qa6 qa7 qa8 qa9 qa10 qa11 qa12 qa13 qa14 qa15 qa16 qa17 qa18 qa19 qa20 qa21 qa22 qa23:Int) (w:World):Calls Tryz.prog 73 [.agg #[.int .i64 pa0,.int .i64 pa1,.int .i64 pa2,.int .i64 pa3,.int .i64 pa4,.int .i64 pa5,.int .i64 pa6,.int .i64 pa7,.int .i64 pa8,.int .i64 pa9,.int .i64 pa10,.int .i64 pa11,.int .i64 pa12,.int .i64 pa13,.int .i64 pa14,.int .i64 pa15,.int .i64 pa16,.int .i64 pa17,.int .i64 pa18,.int .i64 pa19,.int .i64 pa20,.int .i64 pa21,.int .i64 pa22,.int .i64 pa23],.agg #[.int .i64 qa0,.int .i64 qa1,.int .i64 qa2,.int .i64 qa3,.int .i64 qa4,.int .i64 qa5,.int .i64 qa6,.int .i64 qa7,.int .i64 qa8,.int .i64 qa9,.int .i64 qa10,.int .i64 qa11,.int .i64 qa12,.int .i64 qa13,.int .i64 qa14,.int .i64 qa15,.int .i64 qa16,.int .i64 qa17,.int .i64 qa18,.int .i64 qa19,.int .i64 qa20,.int .i64 qa21,.int .i64 qa22,.int .i64 qa23]].toArray w (Rets (po (Po.mul (⟨⟨⟨⟨pa0,pa1⟩,⟨pa2,pa3⟩,⟨pa4,pa5⟩⟩,⟨⟨pa6,pa7⟩,⟨pa8,pa9⟩,⟨pa10,pa11⟩⟩,⟨⟨pa12,pa13⟩,⟨pa14,pa15⟩,⟨pa16,pa17⟩⟩⟩,⟨⟨pa18,pa19⟩,⟨pa20,pa21⟩,⟨pa22,pa23⟩⟩⟩:Po) (⟨⟨⟨⟨qa0,qa1⟩,⟨qa2,qa3⟩,⟨qa4,qa5⟩⟩,⟨⟨qa6,qa7⟩,⟨qa8,qa9⟩,⟨qa10,qa11⟩⟩,⟨⟨qa12,qa13⟩,⟨qa14,qa15⟩,⟨qa16,qa17⟩⟩⟩,⟨⟨qa18,qa19⟩,⟨qa20,qa21⟩,⟨qa22,qa23⟩⟩⟩:Po))) (w)) :=
 zY (x:=.a (poC (Po.mul (⟨(⟨⟨⟨pa0,pa1⟩,⟨pa2,pa3⟩,⟨pa4,pa5⟩⟩,⟨⟨pa6,pa7⟩,⟨pa8,pa9⟩,⟨pa10,pa11⟩⟩,⟨⟨pa12,pa13⟩,⟨pa14,pa15⟩,⟨pa16,pa17⟩⟩⟩:M3),⟨⟨pa18,pa19⟩,⟨pa20,pa21⟩,⟨pa22,pa23⟩⟩⟩:Po) (⟨(⟨⟨⟨qa0,qa1⟩,⟨qa2,qa3⟩,⟨qa4,qa5⟩⟩,⟨⟨qa6,qa7⟩,⟨qa8,qa9⟩,⟨qa10,qa11⟩⟩,⟨⟨qa12,qa13⟩,⟨qa14,qa15⟩,⟨qa16,qa17⟩⟩⟩:M3),⟨⟨qa18,qa19⟩,⟨qa20,qa21⟩,⟨qa22,qa23⟩⟩⟩:Po)))) (qH (N:=60) (ps:=[.a (ivs [⟨pa0,pa1⟩,⟨pa2,pa3⟩,⟨pa4,pa5⟩,⟨pa6,pa7⟩,⟨pa8,pa9⟩,⟨pa10,pa11⟩,⟨pa12,pa13⟩,⟨pa14,pa15⟩,⟨pa16,pa17⟩,⟨pa18,pa19⟩,⟨pa20,pa21⟩,⟨pa22,pa23⟩]),.a (ivs [⟨qa0,qa1⟩,⟨qa2,qa3⟩,⟨qa4,qa5⟩,⟨qa6,qa7⟩,⟨qa8,qa9⟩,⟨qa10,qa11⟩,⟨qa12,qa13⟩,⟨qa14,qa15⟩,⟨qa16,qa17⟩,⟨qa18,qa19⟩,⟨qa20,qa21⟩,⟨qa22,qa23⟩])]) jQ yQ (OrL.ok (l:=zWA) qKY) (by kernel_rfl)) rfl rfl w
set_option maxRecDepth 100000 in
theorem xJD (pa0 pa1 pa2 pa3 pa4 pa5 pa6 pa7 pa8 pa9 pa10 pa11 pa12 pa13 pa14 pa15 pa16 pa17 pa18 pa19 pa20 pa21 pa22 pa23:Int) (va0 va1 va2 va3 va4 va5:Int) (w:World):Calls Tryz.prog 48 [.agg #[.int .i64 pa0,.int .i64 pa1,.int .i64 pa2,.int .i64 pa3,.int .i64 pa4,.int .i64 pa5,.int .i64 pa6,.int .i64 pa7,.int .i64 pa8,.int .i64 pa9,.int .i64 pa10,.int .i64 pa11,.int .i64 pa12,.int .i64 pa13,.int .i64 pa14,.int .i64 pa15,.int .i64 pa16,.int .i64 pa17,.int .i64 pa18,.int .i64 pa19,.int .i64 pa20,.int .i64 pa21,.int .i64 pa22,.int .i64 pa23],.agg #[.int .i64 va0,.int .i64 va1,.int .i64 va2,.int .i64 va3,.int .i64 va4,.int .i64 va5]].toArray w (Rets (v3 (Po.app (⟨⟨⟨⟨pa0,pa1⟩,⟨pa2,pa3⟩,⟨pa4,pa5⟩⟩,⟨⟨pa6,pa7⟩,⟨pa8,pa9⟩,⟨pa10,pa11⟩⟩,⟨⟨pa12,pa13⟩,⟨pa14,pa15⟩,⟨pa16,pa17⟩⟩⟩,⟨⟨pa18,pa19⟩,⟨pa20,pa21⟩,⟨pa22,pa23⟩⟩⟩:Po) (⟨⟨va0,va1⟩,⟨va2,va3⟩,⟨va4,va5⟩⟩:V3))) (w)) :=
 zY (x:=.a (v3C (Po.app (⟨(⟨⟨⟨pa0,pa1⟩,⟨pa2,pa3⟩,⟨pa4,pa5⟩⟩,⟨⟨pa6,pa7⟩,⟨pa8,pa9⟩,⟨pa10,pa11⟩⟩,⟨⟨pa12,pa13⟩,⟨pa14,pa15⟩,⟨pa16,pa17⟩⟩⟩:M3),⟨⟨pa18,pa19⟩,⟨pa20,pa21⟩,⟨pa22,pa23⟩⟩⟩:Po) (⟨⟨va0,va1⟩,⟨va2,va3⟩,⟨va4,va5⟩⟩:V3)))) (qH (N:=60) (ps:=[.a (ivs [⟨pa0,pa1⟩,⟨pa2,pa3⟩,⟨pa4,pa5⟩,⟨pa6,pa7⟩,⟨pa8,pa9⟩,⟨pa10,pa11⟩,⟨pa12,pa13⟩,⟨pa14,pa15⟩,⟨pa16,pa17⟩,⟨pa18,pa19⟩,⟨pa20,pa21⟩,⟨pa22,pa23⟩]),.a (ivs [⟨va0,va1⟩,⟨va2,va3⟩,⟨va4,va5⟩])]) jQ yQ (OrL.ok (l:=zWA) qKY) (by kernel_rfl)) rfl rfl w
end Go.Proofs.YtmeldddgjfocdaaGreat
namespace Go.Proofs.YtmeldddgjfocdaaGreat
open Go.Sx
theorem ty3:tyB Tryz.prog 3 false 1=true:=by kernel_rfl
end Go.Proofs.YtmeldddgjfocdaaGreat
namespace Go.Proofs.YtmeldddgjfocdaaGreat
open Go.Sx
theorem fZV:qJY Tryz.prog 105 (.agg #[.string ByteArray.empty,.int .i64 0,.int .i64 0,.int .i64 0,.int .i64 0,.int .i64 0,.int .i64 0,.int .i64 0,.int .i64 0,.int .i64 0,.int .i64 0,.int .i64 0]):=by unfold qJY; kernel_rfl
theorem kYJ:tyB Tryz.prog 105 true 12=true:=by kernel_rfl
theorem yZK:qGW Tryz.prog 105 2 2=true:=by kernel_rfl
end Go.Proofs.YtmeldddgjfocdaaGreat
namespace Go.Proofs.YtmeldddgjfocdaaGreat.Od
open Go.Rx Rt Go.Sx Go.RowKit
def andI (k:IntKind) (x y:Int):Int:=k.wrap ((BitVec.ofInt k.bits x &&& BitVec.ofInt k.bits y).toNat)
def F_b:Bool→Option (Ret × Mem):=fun v=>some (.v (.b v),[])
def jp (j:J):List PV:=[.s j.name,.n .i64 j.kind,.n .i64 j.parent,.n .i64 j.off.x,.n .i64 j.off.y,.n .i64 j.off.z,.n .i64 j.lo,.n .i64 j.hi,.n .i64 j.weight,.n .i64 j.speed,.n .i64 j.accel,.n .i64 j.torque]
def mp (m:Ms):List PV:=[.n .i64 m.link,.n .i64 m.mass,.n .i64 m.p.x,.n .i64 m.p.y,.n .i64 m.p.z]
theorem qGV {α:Type} {f:α→List PV} {g:α→List Value} (h:∀ x,(f x).map PV.val1=g x) (l:List α):qJX (l.map f)=l.map g:=by
 unfold qJX;rw [List.map_map];exact List.map_congr_left fun x _=>h x
theorem yZQ {α:Type} {f:α→List PV} {sz:Nat} (h:∀ x,(Nat.beq (f x).length sz && (f x).all PV.flat1)=true) (l:List α):qUQ sz (l.map f)=true:=by
 unfold qUQ;rw [List.all_map,vZZ];exact fun x _=>h x
theorem uXJ {α:Type} {f:α→List PV} {g:α→List Value} {sz k c:Nat} {l:List α} {a:Option Addr} {F D:Nat→Prop} {G:World→Prop} {w:World} (hv:∀ x,(f x).map PV.val1=g x) (hf:∀ x,(Nat.beq (f x).length sz && (f x).all PV.flat1)=true) (hk:l.length=k) (hc:k≤c) (h0:0 < sz)
  (hd:qKC D G) (hG:G w) (hi:∀ w,G w→qJA sz a (l.map g) w) (hF:∀ k,D k→F k):RP F w (.l (l.map f)) (.slice a k c):=by
 have:=yYG (F:=F) (c:=c) (yZQ hf l) (by rw [List.length_map,hk]; exact hc) (by rw [qGV hv]; exact hi w hG) (fun b off ha hne=>hF b (uGF hd hG hi h0 (fun e=>hne (by cases l with | nil=>rfl | cons x xs=>cases e)) b off ha))
 rw [List.length_map,hk] at this;exact this
theorem zHJ {α:Type} {f:α→List PV} {g:α→List Value} {sz k:Nat} {l:List α} {F:Nat→Prop} {w:World} {v:Value} (hv:∀ x,(f x).map PV.val1=g x) (hf:∀ x,(Nat.beq (f x).length sz && (f x).all PV.flat1)=true) (hk:l.length=k) (hF:∀ k,F k→k < w.heap.size) (h:RP F w (.l (l.map f)) v) :
  ∃ a c,v=.slice a k c∧k≤c∧qJA sz a (l.map g) w:=by
 obtain ⟨a,c,rfl,hc,hS,_⟩:=jUF (yZQ hf l) hF h;rw [List.length_map,hk] at hc;exact ⟨a,c,by rw [List.length_map,hk],hc,by rw [qGV hv] at hS; exact hS⟩
theorem jGL {js:List J} {bx:List Iv}:∀ k,k≤js.length→k≤bx.length→(lks js bx k).length=k
 | 0,_,_=>rfl
 | k + 1,h1,h2=>by
  have e1:js[k]? = some (js[k]'(by omega)):=vQK (by omega);have e2:bx[k]? = some (bx[k]'(by omega)):=vQK (by omega);simp only [lks,e1,e2,List.length_append,vQW,vQV];rw [jGL k (by omega) (by omega)]
def F_n:Int→Option (Ret × Mem):=fun v=>some (.v (.n .i64 v),[])
def cjT {α:Type} (f:Int→α) (i:Int) (j:J):α:=(bif (decide (j.kind < 0)) then (f 803) else (bif (decide (6 < j.kind)) then (f 803) else (bif (decide (j.parent < (-1))) then (f 804) else (bif (decide (i≤j.parent)) then (f 804) else (bif (decide (j.off.x < (-4194304))) then (f 805) else (bif (decide (4194304 < j.off.x)) then (f 805) else (bif (decide (j.off.y < (-4194304))) then (f 805) else (bif (decide (4194304 < j.off.y)) then (f 805) else (bif (decide (j.off.z < (-4194304))) then (f 805) else (bif (decide (4194304 < j.off.z)) then (f 805) else (bif (decide (j.kind=0)) then (bif (decide (j.hi < j.lo)) then (f 806) else (bif (decide (j.lo < 0)) then (f 806) else (bif (decide (0 < j.hi)) then (f 806) else (bif (decide (1≤j.weight)) then (bif (decide (j.weight≤1024)) then (bif (decide (1≤j.speed)) then (bif (decide (j.speed≤1048576)) then (bif (decide (1≤j.accel)) then (bif (decide (j.accel≤1048576)) then (bif (decide (1≤j.torque)) then (bif (decide (j.torque≤1099511627776)) then (f 0) else (f 807)) else (f 807)) else (f 807)) else (f 807)) else (f 807)) else (f 807)) else (f 807)) else (f 807))))) else (bif (decide (j.kind=1)) then (bif (decide (j.hi < j.lo)) then (f 806) else (bif (decide (j.lo < (-524288))) then (f 806) else (bif (decide (524288 < j.hi)) then (f 806) else (bif (decide (1≤j.weight)) then (bif (decide (j.weight≤1024)) then (bif (decide (1≤j.speed)) then (bif (decide (j.speed≤1048576)) then (bif (decide (1≤j.accel)) then (bif (decide (j.accel≤1048576)) then (bif (decide (1≤j.torque)) then (bif (decide (j.torque≤1099511627776)) then (f 0) else (f 807)) else (f 807)) else (f 807)) else (f 807)) else (f 807)) else (f 807)) else (f 807)) else (f 807))))) else (bif (decide (j.kind=2)) then (bif (decide (j.hi < j.lo)) then (f 806) else (bif (decide (j.lo < (-524288))) then (f 806) else (bif (decide (524288 < j.hi)) then (f 806) else (bif (decide (1≤j.weight)) then (bif (decide (j.weight≤1024)) then (bif (decide (1≤j.speed)) then (bif (decide (j.speed≤1048576)) then (bif (decide (1≤j.accel)) then (bif (decide (j.accel≤1048576)) then (bif (decide (1≤j.torque)) then (bif (decide (j.torque≤1099511627776)) then (f 0) else (f 807)) else (f 807)) else (f 807)) else (f 807)) else (f 807)) else (f 807)) else (f 807)) else (f 807))))) else (bif (decide (j.kind=3)) then (bif (decide (j.hi < j.lo)) then (f 806) else (bif (decide (j.lo < (-524288))) then (f 806) else (bif (decide (524288 < j.hi)) then (f 806) else (bif (decide (1≤j.weight)) then (bif (decide (j.weight≤1024)) then (bif (decide (1≤j.speed)) then (bif (decide (j.speed≤1048576)) then (bif (decide (1≤j.accel)) then (bif (decide (j.accel≤1048576)) then (bif (decide (1≤j.torque)) then (bif (decide (j.torque≤1099511627776)) then (f 0) else (f 807)) else (f 807)) else (f 807)) else (f 807)) else (f 807)) else (f 807)) else (f 807)) else (f 807))))) else (bif (decide (j.hi < j.lo)) then (f 806) else (bif (decide (j.lo < (-4194304))) then (f 806) else (bif (decide (4194304 < j.hi)) then (f 806) else (bif (decide (1≤j.weight)) then (bif (decide (j.weight≤1024)) then (bif (decide (1≤j.speed)) then (bif (decide (j.speed≤1048576)) then (bif (decide (1≤j.accel)) then (bif (decide (j.accel≤1048576)) then (bif (decide (1≤j.torque)) then (bif (decide (j.torque≤1099511627776)) then (f 0) else (f 807)) else (f 807)) else (f 807)) else (f 807)) else (f 807)) else (f 807)) else (f 807)) else (f 807)))))))))))))))))))
noncomputable def yQX:List PV→Option (Bool × Ret):=fun ps=>match ps with
 | [.n .i64 n,.n .i64 k]=>some (decide (0 < k∧k≤9223372036854775807),.v (.n .i64 (n % k)))
 | _=>none
theorem jVZ:zZ Tryz.prog 23 yQX:=by
 intro ps r h;unfold yQX at h;split at h
 ·simp only [vQZ,vQY] at h;obtain ⟨hg,rfl⟩:=h;exact qU (qW Tryz.func23 (by kernel_rfl) (by kernel_rfl)) rfl rfl (fun w=>xVH _ _ (vJZ hg) w)
 ·cases h
noncomputable def L1:OrL:=(23,yQX) :: ([]:OrL)
theorem fWI:AllP (fun x:Nat × (List PV→Option (Bool × Ret))=>zZ Tryz.prog x.1 x.2) L1:=⟨jVZ,trivial⟩
noncomputable def o_iOf:List PV→Option (Bool × Ret):=fun ps=>match ps with
 | [.n .i64 x]=>some (true,.v (.a (ivC (Iv.of x))))
 | _=>none
theorem ok_iOf:zZ Tryz.prog 128 o_iOf:=by
 intro ps r h;unfold o_iOf at h;split at h
 ·simp only [vQZ,vQY] at h;obtain ⟨hg,rfl⟩:=h;exact qU (qW Tryz.func128 (by kernel_rfl) (by kernel_rfl)) rfl rfl (fun w=>iOf _ w)
 ·cases h
noncomputable def L2:OrL:=(128,o_iOf) :: L1
theorem fWF:AllP (fun x:Nat × (List PV→Option (Bool × Ret))=>zZ Tryz.prog x.1 x.2) L2:=⟨ok_iOf,fWI⟩
noncomputable def yQU:List PV→Option (Bool × Ret):=fun ps=>match ps with
 | [.a p',.a v']=>(poD p').bind fun p=>(v3D v').bind fun v=>some (true,.v (.a (v3C (Po.app p v))))
 | _=>none
theorem jVQ:zZ Tryz.prog 78 yQU:=by
 intro ps r h;unfold yQU at h;split at h
 ·simp only [vQQ,vQZ,vQY] at h;obtain ⟨p,hp,v,hv,hg,rfl⟩:=h;rw [zVH hp];rw [qWI hv];exact qU (qW Tryz.func78 (by kernel_rfl) (by kernel_rfl)) rfl rfl (fun w=>xKE _ _ _ _ _ _ _ _ _ _ _ _ _ _ _ _ _ _ _ _ _ _ _ _ _ _ _ _ _ _ w)
 ·cases h
noncomputable def L3:OrL:=(78,yQU) :: L2
theorem fWE:AllP (fun x:Nat × (List PV→Option (Bool × Ret))=>zZ Tryz.prog x.1 x.2) L3:=⟨jVQ,fWF⟩
noncomputable def qWU:List PV→Option (Bool × Ret):=fun ps=>match ps with
 | [.a m',.a v']=>(m3D m').bind fun m=>(v3D v').bind fun v=>some (true,.v (.a (v3C (M3.apply m v))))
 | _=>none
theorem zXJ:zZ Tryz.prog 159 qWU:=by
 intro ps r h;unfold qWU at h;split at h
 ·simp only [vQQ,vQZ,vQY] at h;obtain ⟨m,hm,v,hv,hg,rfl⟩:=h;rw [zXV hm];rw [qWI hv];exact qU (qW Tryz.func159 (by kernel_rfl) (by kernel_rfl)) rfl rfl (fun w=>uZF _ _ _ _ _ _ _ _ _ _ _ _ _ _ _ _ _ _ _ _ _ _ _ _ w)
 ·cases h
noncomputable def L4:OrL:=(159,qWU) :: L3
theorem fWD:AllP (fun x:Nat × (List PV→Option (Bool × Ret))=>zZ Tryz.prog x.1 x.2) L4:=⟨zXJ,fWE⟩
noncomputable def qWK:List PV→Option (Bool × Ret):=fun ps=>match ps with
 | [.a z']=>(z3D z').bind fun z=>some (true,.v (.a (v3C (V3.of z))))
 | _=>none
theorem zXY:zZ Tryz.prog 79 qWK:=by
 intro ps r h;unfold qWK at h;split at h
 ·simp only [vQQ,vQZ,vQY] at h;obtain ⟨z,hz,hg,rfl⟩:=h;rw [yGD hz];exact qU (qW Tryz.func79 (by kernel_rfl) (by kernel_rfl)) rfl rfl (fun w=>uZE _ _ _ w)
 ·cases h
noncomputable def L5:OrL:=(79,qWK) :: L4
theorem fZX:AllP (fun x:Nat × (List PV→Option (Bool × Ret))=>zZ Tryz.prog x.1 x.2) L5:=⟨zXY,fWD⟩
end Go.Proofs.YtmeldddgjfocdaaGreat.Od
namespace Go.Proofs.YtmeldddgjfocdaaGreat.Na
open Go.Rx Rt Go.Sx Go.RowKit Od
def okC (first:Bool) (c:Int):Bool:=(decide (97≤c) && decide (c≤122)) || (!first && ((decide (48≤c) && decide (c≤57)) || decide (c=95)))
def allC (s:ByteArray):Nat→Nat→Bool
 | 0,_=>true
 | k + 1,p=>okC (decide ((p:Int)=0)) (zQD s p) && allC s k (p + 1)
def wrld:ByteArray:=ByteArray.mk #[119,111,114,108,100]
def nmB (s:ByteArray):Bool:=!(decide ((s.size:Int)=0)) && (!(decide (16 < (s.size:Int))) && (!(s.toList == wrld.toList) && allC s s.size 0))
theorem yHF {f:Bool} {c:Int} (_:128≤c):okC f c=false:=by
 unfold okC;rw [vYH (show ¬ c≤122 by omega),vYH (show ¬ c≤57 by omega),vYH (show ¬ c=95 by omega)]
 simp
theorem jKD {s:ByteArray} {p:Nat} (h:p < s.size):zQD s p=((s[p]'h).toNat:Int):=by
 unfold zQD;rw [getElem?_pos s p h];rfl
def hTn (s:ByteArray) (pos:Nat):St:=⟨[(18,.p 18 0)],[(18,.itr s pos)]⟩
def uXC {α:Type} (first:Bool) (c:Int) (g k:α):α:=(bif (decide (97≤c)) then (bif (decide (c≤122)) then g else (bif first then k else (bif (decide (48≤c)) then (bif (decide (c≤57)) then g else (bif (!decide (c=95)) then k else g)) else (bif (!decide (c=95)) then k else g)))) else (bif first then k else (bif (decide (48≤c)) then (bif (decide (c≤57)) then g else (bif (!decide (c=95)) then k else g)) else (bif (!decide (c=95)) then k else g))))
theorem kKC {α:Type} (first:Bool) (c:Int) (g k:α):uXC first c g k=bif okC first c then g else k:=by
 unfold uXC okC;cases first <;> cases hA:decide (97≤c) <;> cases hB:decide (c≤122) <;> cases hC:decide (48≤c) <;> cases hD:decide (c≤57) <;> cases hE:decide (c=95) <;> first | rfl | (exfalso; simp only [decide_eq_true_eq,decide_eq_false_iff_not] at *; omega)
set_option maxRecDepth 100000 in
theorem rdTn (G:St→Option (Ret × Mem)) (K:Cont) (s:ByteArray) (pos:Nat):qKF 60 (cxF T (OrL.k ([]:OrL)) 60 61 (ntmF T 61)) (ckF T (OrL.k ([]:OrL)) 60) (qY T 61 [0,1,0,1,1]) (fun e τ=>match e with
 | .normal=>G (qJW ((cxF T (OrL.k ([]:OrL)) 60 61 (ntmF T 61)).T.hint (cxF T (OrL.k ([]:OrL)) 60 61 (ntmF T 61)).me (yZ (qY T 61 [0,1,0,1,1]))) τ)
 | e=>K e (qYB ((cxF T (OrL.k ([]:OrL)) 60 61 (ntmF T 61)).T.hint (cxF T (OrL.k ([]:OrL)) 60 61 (ntmF T 61)).me (yZ (qY T 61 [0,1,0,1,1]))) τ)) (hTn s pos) =
 bif (decide (pos < s.size)) then uXC (decide ((pos:Int)=0)) ((Utf8.decode s pos).1:Int) (G (hTn s (pos + (Utf8.decode s pos).2))) (K .ret ⟨[(2,.v (.b false))],[]⟩) else (K (.exit 0) ⟨[],[]⟩):=by kernel_rfl
theorem lpTn (K:Cont) (s:ByteArray):∀ (k p m:Nat),p + k=s.size→k < m→LF 60 (cxF T (OrL.k ([]:OrL)) 60 61 (ntmF T 61)) (ckF T (OrL.k ([]:OrL)) 60) (qY T 61 [0,1,0,1,1]) ((cxF T (OrL.k ([]:OrL)) 60 61 (ntmF T 61)).T.hint (cxF T (OrL.k ([]:OrL)) 60 61 (ntmF T 61)).me (yZ (qY T 61 [0,1,0,1,1]))) K m (hTn s p)=bif allC s k p then (K (.exit 0) ⟨[],[]⟩) else (K .ret ⟨[(2,.v (.b false))],[]⟩)
 | 0,p,m + 1,hp,hm=>by
  refine (rdTn (fun σ=>LF 60 (cxF T (OrL.k ([]:OrL)) 60 61 (ntmF T 61)) (ckF T (OrL.k ([]:OrL)) 60) (qY T 61 [0,1,0,1,1]) ((cxF T (OrL.k ([]:OrL)) 60 61 (ntmF T 61)).T.hint (cxF T (OrL.k ([]:OrL)) 60 61 (ntmF T 61)).me (yZ (qY T 61 [0,1,0,1,1]))) K m σ) K s p).trans ?_;rw [vYH (show ¬ p < s.size by omega)];rfl
 | k + 1,p,m + 1,hp,hm=>by
  refine (rdTn (fun σ=>LF 60 (cxF T (OrL.k ([]:OrL)) 60 61 (ntmF T 61)) (ckF T (OrL.k ([]:OrL)) 60) (qY T 61 [0,1,0,1,1]) ((cxF T (OrL.k ([]:OrL)) 60 61 (ntmF T 61)).T.hint (cxF T (OrL.k ([]:OrL)) 60 61 (ntmF T 61)).me (yZ (qY T 61 [0,1,0,1,1]))) K m σ) K s p).trans ?_;have hlt:p < s.size:=by omega
  rw [vJQ hlt,vYV,kKC];simp only [allC];have hb:=jKD hlt;by_cases h128:(s[p]'hlt).toNat < 128
  ·rw [Go.decode_ascii s p hlt h128,hb];rw [lpTn K s k (p + 1) m (by omega) (by omega)];cases okC (decide ((p:Int)=0)) ((s[p]'hlt).toNat:Int) <;> rfl
  ·have hd:=(Go.decode_high s p hlt (by omega)).1;rw [yHF (c:=((Utf8.decode s p).1:Int)) (by omega),yHF (c:=zQD s p) (by omega)];rfl
set_option maxRecDepth 100000 in
theorem pxTn (s:ByteArray):qXD T (OrL.k ([]:OrL)) (qK [([0,1,0,1,1],uU (hTn s 0) (fun K=>bif decide (16 < (s.size:Int)) then none else (bif allC s s.size 0 then (K (.exit 0) ⟨[],[]⟩) else (K .ret ⟨[(2,.v (.b false))],[]⟩))))]) 60 61 [.s s] =
 (bif (decide ((s.size:Int)=0)) then some (.v (.b false),[]) else (bif (decide (16 < (s.size:Int))) then some (.v (.b false),[]) else (bif (s.toList == (ByteArray.mk #[119,111,114,108,100]).toList) then some (.v (.b false),[]) else (bif gSt (hTn s 0) (hTn s 0) then (bif decide (16 < (s.size:Int)) then none else (bif allC s s.size 0 then some (.v (.b true),[]) else some (.v (.b false),[]))) else none)))):=by kernel_rfl
theorem xYH (s:ByteArray):zG Tryz.prog 61 [.s s] (.v (.b (nmB s))):=by
 refine uW (N:=60) (LO:=qK [([0,1,0,1,1],uU (hTn s 0) (fun K=>bif decide (16 < (s.size:Int)) then none else (bif allC s s.size 0 then (K (.exit 0) ⟨[],[]⟩) else (K .ret ⟨[(2,.v (.b false))],[]⟩))))]) jQ yQ (OrL.ok (l:=[]) trivial) (fun p S hp => ?_) ?_
 ·refine qZQ (L:=qY T 61) (l:=[([0,1,0,1,1],uU (hTn s 0) (fun K=>bif decide (16 < (s.size:Int)) then none else (bif allC s s.size 0 then (K (.exit 0) ⟨[],[]⟩) else (K .ret ⟨[(2,.v (.b false))],[]⟩))))]) (show AllP _ [([0,1,0,1,1],uU (hTn s 0) (fun K=>bif decide (16 < (s.size:Int)) then none else (bif allC s s.size 0 then (K (.exit 0) ⟨[],[]⟩) else (K .ret ⟨[(2,.v (.b false))],[]⟩))))] from ⟨qYH fun K r hr => ?_,trivial⟩) p S hp;cases hq:decide (16 < (s.size:Int)) with
  | true=>rw [hq] at hr; cases hr
  | false =>
   rw [hq] at hr;have h16:=vJY hq;exact (lpTn K s s.size 0 60 (by omega) (by omega)).trans hr
 ·refine (pxTn s).trans ?_;rw [yJ,vYV];show _=some (Ret.v (.b (!(decide ((s.size:Int)=0)) && (!(decide (16 < (s.size:Int))) && (!(s.toList == (ByteArray.mk #[119,111,114,108,100]).toList) && allC s s.size 0)))),[]);cases decide ((s.size:Int)=0) <;> cases decide (16 < (s.size:Int)) <;> cases (s.toList == (ByteArray.mk #[119,111,114,108,100]).toList) <;> cases allC s s.size 0 <;> rfl
def hRn (s:ByteArray) (i:Int):St:=⟨[(0,.v (.s s)),(3,.v (.n .i64 i))],[]⟩
def uXD {α:Type} (b:Bool) (first:Bool) (c:Int) (g k:Option α):Option α:=(bif b then (bif (decide (97≤c)) then (bif b then (bif (decide (c≤122)) then g else (bif first then k else (bif b then (bif (!decide (c=95)) then (bif b then (bif (decide (c < 48)) then k else (bif b then (bif (decide (57 < c)) then k else g) else none)) else none) else g) else none))) else none) else (bif first then k else (bif b then (bif (!decide (c=95)) then (bif b then (bif (decide (c < 48)) then k else (bif b then (bif (decide (57 < c)) then k else g) else none)) else none) else g) else none))) else none)
theorem kKD {α:Type} (first:Bool) (c:Int) (g k:Option α):uXD true first c g k=bif okC first c then g else k:=by
 unfold uXD okC;rw [show decide (c < 48) = !decide (48≤c) by rw [← decide_not]; exact decide_eq_decide.2 (by omega),show decide (57 < c) = !decide (c≤57) by rw [← decide_not]; exact decide_eq_decide.2 (by omega)];cases first <;> cases hA:decide (97≤c) <;> cases hB:decide (c≤122) <;> cases hC:decide (48≤c) <;> cases hD:decide (c≤57) <;> cases hE:decide (c=95) <;> first | rfl | (exfalso; simp only [decide_eq_true_eq,decide_eq_false_iff_not] at *; omega)
set_option maxRecDepth 100000 in
theorem rdRn (G:St→Option (Ret × Mem)) (K:Cont) (s:ByteArray) (i:Int):qKF 60 (cxF T (OrL.k ([]:OrL)) 60 116 (ntmF T 116)) (ckF T (OrL.k ([]:OrL)) 60) (qY T 116 [0,1,0,1,1]) (fun e τ=>match e with
 | .normal=>G (qJW ((cxF T (OrL.k ([]:OrL)) 60 116 (ntmF T 116)).T.hint (cxF T (OrL.k ([]:OrL)) 60 116 (ntmF T 116)).me (yZ (qY T 116 [0,1,0,1,1]))) τ)
 | e=>K e (qYB ((cxF T (OrL.k ([]:OrL)) 60 116 (ntmF T 116)).T.hint (cxF T (OrL.k ([]:OrL)) 60 116 (ntmF T 116)).me (yZ (qY T 116 [0,1,0,1,1]))) τ)) (hRn s i) =
 bif (decide (i < (s.size:Int))) then uXD (inB i s.size) (decide (i=0)) (zQD s i.toNat) (G (hRn s (vJJ .i64 (i + 1)))) (K .ret ⟨[(2,.v (.b false))],[]⟩) else (K (.exit 0) ⟨[],[]⟩):=by kernel_rfl
theorem lpRn (K:Cont) (s:ByteArray) (hs:s.size≤1000):∀ (k p m:Nat),p + k=s.size→k < m→LF 60 (cxF T (OrL.k ([]:OrL)) 60 116 (ntmF T 116)) (ckF T (OrL.k ([]:OrL)) 60) (qY T 116 [0,1,0,1,1]) ((cxF T (OrL.k ([]:OrL)) 60 116 (ntmF T 116)).T.hint (cxF T (OrL.k ([]:OrL)) 60 116 (ntmF T 116)).me (yZ (qY T 116 [0,1,0,1,1]))) K m (hRn s p)=bif allC s k p then (K (.exit 0) ⟨[],[]⟩) else (K .ret ⟨[(2,.v (.b false))],[]⟩)
 | 0,p,m + 1,hp,hm=>by
  refine (rdRn (fun σ=>LF 60 (cxF T (OrL.k ([]:OrL)) 60 116 (ntmF T 116)) (ckF T (OrL.k ([]:OrL)) 60) (qY T 116 [0,1,0,1,1]) ((cxF T (OrL.k ([]:OrL)) 60 116 (ntmF T 116)).T.hint (cxF T (OrL.k ([]:OrL)) 60 116 (ntmF T 116)).me (yZ (qY T 116 [0,1,0,1,1]))) K m σ) K s p).trans ?_;rw [vYH (show ¬ (p:Int) < (s.size:Int) by omega)];rfl
 | k + 1,p,m + 1,hp,hm=>by
  refine (rdRn (fun σ=>LF 60 (cxF T (OrL.k ([]:OrL)) 60 116 (ntmF T 116)) (ckF T (OrL.k ([]:OrL)) 60) (qY T 116 [0,1,0,1,1]) ((cxF T (OrL.k ([]:OrL)) 60 116 (ntmF T 116)).T.hint (cxF T (OrL.k ([]:OrL)) 60 116 (ntmF T 116)).me (yZ (qY T 116 [0,1,0,1,1]))) K m σ) K s p).trans ?_;have hB:inB (p:Int) s.size=true:=by unfold inB; rw [vJQ (show (0:Int)≤p by omega),vJQ (show (p:Int).toNat < s.size by omega)]; rfl
  rw [vJQ (show (p:Int) < (s.size:Int) by omega),vYV,hB,kKD];simp only [allC];rw [show vJJ .i64 ((p:Int) + 1)=((p + 1:Nat):Int) by rw [qX (by omega)]; omega,lpRn K s hs k (p + 1) m (by omega) (by omega)];show (bif okC (decide ((p:Int)=0)) (zQD s (p:Int).toNat) then _ else _)=_;rw [show (p:Int).toNat=p by omega];cases okC (decide ((p:Int)=0)) (zQD s p) <;> rfl
set_option maxRecDepth 100000 in
theorem pxRn (s:ByteArray):qXD T (OrL.k ([]:OrL)) (qK [([0,1,0,1,1],uU (hRn s 0) (fun K=>bif decide (16 < (s.size:Int)) then none else (bif allC s s.size 0 then (K (.exit 0) ⟨[],[]⟩) else (K .ret ⟨[(2,.v (.b false))],[]⟩))))]) 60 116 [.s s] =
 (bif (decide ((s.size:Int) < 1)) then some (.v (.b false),[]) else (bif (decide (16 < (s.size:Int))) then some (.v (.b false),[]) else (bif (s.toList == (ByteArray.mk #[119,111,114,108,100]).toList) then some (.v (.b false),[]) else (bif gSt (hRn s 0) (hRn s 0) then (bif decide (16 < (s.size:Int)) then none else (bif allC s s.size 0 then some (.v (.b true),[]) else some (.v (.b false),[]))) else none)))):=by kernel_rfl
theorem xYA (s:ByteArray):zG Tryz.prog 116 [.s s] (.v (.b (nmB s))):=by
 refine uW (N:=60) (LO:=qK [([0,1,0,1,1],uU (hRn s 0) (fun K=>bif decide (16 < (s.size:Int)) then none else (bif allC s s.size 0 then (K (.exit 0) ⟨[],[]⟩) else (K .ret ⟨[(2,.v (.b false))],[]⟩))))]) jQ yQ (OrL.ok (l:=[]) trivial) (fun p S hp => ?_) ?_
 ·refine qZQ (L:=qY T 116) (l:=[([0,1,0,1,1],uU (hRn s 0) (fun K=>bif decide (16 < (s.size:Int)) then none else (bif allC s s.size 0 then (K (.exit 0) ⟨[],[]⟩) else (K .ret ⟨[(2,.v (.b false))],[]⟩))))]) (show AllP _ [([0,1,0,1,1],uU (hRn s 0) (fun K=>bif decide (16 < (s.size:Int)) then none else (bif allC s s.size 0 then (K (.exit 0) ⟨[],[]⟩) else (K .ret ⟨[(2,.v (.b false))],[]⟩))))] from ⟨qYH fun K r hr => ?_,trivial⟩) p S hp;cases hq:decide (16 < (s.size:Int)) with
  | true=>rw [hq] at hr; cases hr
  | false =>
   rw [hq] at hr;have h16:=vJY hq;exact (lpRn K s (by omega) s.size 0 60 (by omega) (by omega)).trans hr
 ·refine (pxRn s).trans ?_;rw [yJ,vYV];rw [show decide ((s.size:Int) < 1)=decide ((s.size:Int)=0) from decide_eq_decide.2 (by omega)];show _=some (Ret.v (.b (!(decide ((s.size:Int)=0)) && (!(decide (16 < (s.size:Int))) && (!(s.toList == (ByteArray.mk #[119,111,114,108,100]).toList) && allC s s.size 0)))),[]);cases decide ((s.size:Int)=0) <;> cases decide (16 < (s.size:Int)) <;> cases (s.toList == (ByteArray.mk #[119,111,114,108,100]).toList) <;> cases allC s s.size 0 <;> rfl
end Go.Proofs.YtmeldddgjfocdaaGreat.Na
namespace Go.Proofs.YtmeldddgjfocdaaGreat.Nb
open Go.Rx Rt Go.Sx Go.RowKit Od
open Na
def fJ (js:Nat→J):Nat→List PV:=fun v=>jp (js v)
def fM (ms:Nat→Ms):Nat→List PV:=fun v=>mp (ms v)
def fnd (js:Nat→J) (nm:ByteArray):Nat→Nat→Int
 | 0,_ => -1
 | k + 1,p=>bif ((js p).name.toList == nm.toList) then (p:Int) else fnd js nm k (p + 1)
def dup (js:Nat→J) (nm:ByteArray):Nat→Nat→Bool
 | 0,_=>false
 | k + 1,p=>((js p).name.toList == nm.toList) || dup js nm k (p + 1)
def hF (js:Nat→J) (ms:Nat→Ms) (n m:Nat) (nm:ByteArray) (i:Int):St:=⟨[(1,.v (.s nm)),(2,.p 2 0),(8,.v (.n .i64 (n:Int))),(9,.v (.n .i64 i))],[(2,.blk [.v (.lf n (fJ js)),.v (.lf m (fM ms))])]⟩
set_option maxRecDepth 100000 in
theorem rdF (G:St→Option (Ret × Mem)) (K:Cont) (js:Nat→J) (ms:Nat→Ms) (n m:Nat) (nm:ByteArray) (i:Int):qKF 60 (cxF T (OrL.k ([]:OrL)) 60 168 (ntmF T 168)) (ckF T (OrL.k ([]:OrL)) 60) (qY T 168 [0,1,0,1]) (fun e τ=>match e with
 | .normal=>G (qJW ((cxF T (OrL.k ([]:OrL)) 60 168 (ntmF T 168)).T.hint (cxF T (OrL.k ([]:OrL)) 60 168 (ntmF T 168)).me (yZ (qY T 168 [0,1,0,1]))) τ)
 | e=>K e (qYB ((cxF T (OrL.k ([]:OrL)) 60 168 (ntmF T 168)).T.hint (cxF T (OrL.k ([]:OrL)) 60 168 (ntmF T 168)).me (yZ (qY T 168 [0,1,0,1]))) τ)) (hF js ms n m nm i) =
 (bif (decide (i < (n:Int))) then (bif (inB i n) then (bif ((js (i).toNat).name.toList == nm.toList) then (K .ret ⟨[(4,.v (.n .i64 i))],[]⟩)
 else (G (hF js ms n m nm (vJJ .i64 (i + 1)))))
 else none)
 else (K (.exit 0) ⟨[],[]⟩)):=by kernel_rfl
theorem lpF (K:Cont) (js:Nat→J) (ms:Nat→Ms) (n m:Nat) (nm:ByteArray) (hn:n≤1000):∀ (k p q:Nat),p + k=n→k < q→LF 60 (cxF T (OrL.k ([]:OrL)) 60 168 (ntmF T 168)) (ckF T (OrL.k ([]:OrL)) 60) (qY T 168 [0,1,0,1]) ((cxF T (OrL.k ([]:OrL)) 60 168 (ntmF T 168)).T.hint (cxF T (OrL.k ([]:OrL)) 60 168 (ntmF T 168)).me (yZ (qY T 168 [0,1,0,1]))) K q (hF js ms n m nm p)=(bif decide (fnd js nm k p = -1) then K (.exit 0) ⟨[],[]⟩ else K .ret ⟨[(4,.v (.n .i64 (fnd js nm k p)))],[]⟩)
 | 0,p,q + 1,hp,hq=>by
  refine (rdF (fun σ=>LF 60 (cxF T (OrL.k ([]:OrL)) 60 168 (ntmF T 168)) (ckF T (OrL.k ([]:OrL)) 60) (qY T 168 [0,1,0,1]) ((cxF T (OrL.k ([]:OrL)) 60 168 (ntmF T 168)).T.hint (cxF T (OrL.k ([]:OrL)) 60 168 (ntmF T 168)).me (yZ (qY T 168 [0,1,0,1]))) K q σ) K js ms n m nm p).trans ?_;rw [vYH (show ¬ (p:Int) < (n:Int) by omega)];rfl
 | k + 1,p,q + 1,hp,hq=>by
  refine (rdF (fun σ=>LF 60 (cxF T (OrL.k ([]:OrL)) 60 168 (ntmF T 168)) (ckF T (OrL.k ([]:OrL)) 60) (qY T 168 [0,1,0,1]) ((cxF T (OrL.k ([]:OrL)) 60 168 (ntmF T 168)).T.hint (cxF T (OrL.k ([]:OrL)) 60 168 (ntmF T 168)).me (yZ (qY T 168 [0,1,0,1]))) K q σ) K js ms n m nm p).trans ?_;rw [vJQ (show (p:Int) < (n:Int) by omega),yU (show p < n by omega),kK (by omega),lpF K js ms n m nm hn k (p + 1) q (by omega) (by omega),toN];by_cases hq:((js p).name.toList == nm.toList)=true
  ·simp only [fnd,hq,vYV,vYH (show ¬ (p:Int) = -1 by omega),vYG]
  ·rw [Bool.not_eq_true] at hq;simp only [fnd,hq,vYV,vYG]
set_option maxRecDepth 100000 in
theorem pxF (js:Nat→J) (ms:Nat→Ms) (n m:Nat) (nm:ByteArray):qXD T (OrL.k ([]:OrL)) (qK [([0,1,0,1],uU (hF js ms n m nm 0) (fun K=>(bif decide (fnd js nm n 0 = -1) then K (.exit 0) ⟨[],[]⟩ else K .ret ⟨[(4,.v (.n .i64 (fnd js nm n 0)))],[]⟩)))]) 60 168 [(.a [.lf n (fJ js),.lf m (fM ms)]),.s nm] =
 bif gSt (hF js ms n m nm 0) (hF js ms n m nm 0) then (bif decide (fnd js nm n 0 = -1) then some (.v (.n .i64 (-1)),[]) else some (.v (.n .i64 (fnd js nm n 0)),[])) else none:=by kernel_rfl
theorem kJU (js:Nat→J) (ms:Nat→Ms) (n m:Nat) (nm:ByteArray) (_:n≤50):zG Tryz.prog 168 [(.a [.lf n (fJ js),.lf m (fM ms)]),.s nm] (.v (.n .i64 (fnd js nm n 0))):=by
 refine uW (N:=60) (LO:=qK [([0,1,0,1],uU (hF js ms n m nm 0) (fun K=>(bif decide (fnd js nm n 0 = -1) then K (.exit 0) ⟨[],[]⟩ else K .ret ⟨[(4,.v (.n .i64 (fnd js nm n 0)))],[]⟩)))]) jQ yQ (OrL.ok (l:=[]) trivial) (fun p S hp => ?_) ?_
 ·refine qZQ (L:=qY T 168) (l:=[([0,1,0,1],uU (hF js ms n m nm 0) (fun K=>(bif decide (fnd js nm n 0 = -1) then K (.exit 0) ⟨[],[]⟩ else K .ret ⟨[(4,.v (.n .i64 (fnd js nm n 0)))],[]⟩)))]) (show AllP _ [([0,1,0,1],uU (hF js ms n m nm 0) (fun K=>(bif decide (fnd js nm n 0 = -1) then K (.exit 0) ⟨[],[]⟩ else K .ret ⟨[(4,.v (.n .i64 (fnd js nm n 0)))],[]⟩)))] from ⟨qYH fun K r hr => ?_,trivial⟩) p S hp;exact (lpF K js ms n m nm (by omega) n 0 60 (by omega) (by omega)).trans hr
 ·refine (pxF js ms n m nm).trans ?_;rw [yJ,vYV];by_cases h:fnd js nm n 0 = -1
  ·rw [vJQ h,h]; rfl
  ·rw [vYH h]; rfl
theorem kQQ (js:Nat→J) (i:Nat):∀ (k p:Nat),p≤i→i < p + k→(fnd js (js i).name k p=(i:Int) ↔ dup js (js i).name (i - p) p=false)
 | 0,p,h1,h2=>by omega
 | k + 1,p,h1,h2=>by
  by_cases he:p=i
  ·subst he;rw [Nat.sub_self];simp [fnd,dup]
  ·have ih:=kQQ js i k (p + 1) (by omega) (by omega);rw [show i - p=(i - (p + 1)) + 1 by omega];simp only [fnd,dup];cases ((js p).name.toList == (js i).name.toList)
   ·simpa using ih
   ·simp; omega
def cpT {α:Type} (f:Int→α) (i:Int) (j:J):α:=(bif (decide (j.kind < 0)) then (f 803) else (bif (decide (6 < j.kind)) then (f 803) else (bif (decide (j.parent < (-1))) then (f 804) else (bif (decide (i≤j.parent)) then (f 804) else (bif (decide (j.off.x < (-4194304))) then (f 805) else (bif (decide (4194304 < j.off.x)) then (f 805) else (bif (decide (j.off.y < (-4194304))) then (f 805) else (bif (decide (4194304 < j.off.y)) then (f 805) else (bif (decide (j.off.z < (-4194304))) then (f 805) else (bif (decide (4194304 < j.off.z)) then (f 805) else (bif (decide (j.kind=1)) then (bif (decide (j.hi < j.lo)) then (f 806) else (bif (decide (j.lo < (-524288))) then (f 806) else (bif (decide (524288 < j.hi)) then (f 806) else (bif (decide (1≤j.weight)) then (bif (decide (j.weight≤1024)) then (bif (decide (1≤j.speed)) then (bif (decide (j.speed≤1048576)) then (bif (decide (1≤j.accel)) then (bif (decide (j.accel≤1048576)) then (bif (decide (1≤j.torque)) then (bif (decide (j.torque≤1099511627776)) then (f 0) else (f 807)) else (f 807)) else (f 807)) else (f 807)) else (f 807)) else (f 807)) else (f 807)) else (f 807))))) else (bif (decide (j.kind=2)) then (bif (decide (j.hi < j.lo)) then (f 806) else (bif (decide (j.lo < (-524288))) then (f 806) else (bif (decide (524288 < j.hi)) then (f 806) else (bif (decide (1≤j.weight)) then (bif (decide (j.weight≤1024)) then (bif (decide (1≤j.speed)) then (bif (decide (j.speed≤1048576)) then (bif (decide (1≤j.accel)) then (bif (decide (j.accel≤1048576)) then (bif (decide (1≤j.torque)) then (bif (decide (j.torque≤1099511627776)) then (f 0) else (f 807)) else (f 807)) else (f 807)) else (f 807)) else (f 807)) else (f 807)) else (f 807)) else (f 807))))) else (bif (decide (j.kind=3)) then (bif (decide (j.hi < j.lo)) then (f 806) else (bif (decide (j.lo < (-524288))) then (f 806) else (bif (decide (524288 < j.hi)) then (f 806) else (bif (decide (1≤j.weight)) then (bif (decide (j.weight≤1024)) then (bif (decide (1≤j.speed)) then (bif (decide (j.speed≤1048576)) then (bif (decide (1≤j.accel)) then (bif (decide (j.accel≤1048576)) then (bif (decide (1≤j.torque)) then (bif (decide (j.torque≤1099511627776)) then (f 0) else (f 807)) else (f 807)) else (f 807)) else (f 807)) else (f 807)) else (f 807)) else (f 807)) else (f 807))))) else (bif (decide (j.kind=4)) then (bif (decide (j.hi < j.lo)) then (f 806) else (bif (decide (j.lo < (-4194304))) then (f 806) else (bif (decide (4194304 < j.hi)) then (f 806) else (bif (decide (1≤j.weight)) then (bif (decide (j.weight≤1024)) then (bif (decide (1≤j.speed)) then (bif (decide (j.speed≤1048576)) then (bif (decide (1≤j.accel)) then (bif (decide (j.accel≤1048576)) then (bif (decide (1≤j.torque)) then (bif (decide (j.torque≤1099511627776)) then (f 0) else (f 807)) else (f 807)) else (f 807)) else (f 807)) else (f 807)) else (f 807)) else (f 807)) else (f 807))))) else (bif (decide (j.kind=5)) then (bif (decide (j.hi < j.lo)) then (f 806) else (bif (decide (j.lo < (-4194304))) then (f 806) else (bif (decide (4194304 < j.hi)) then (f 806) else (bif (decide (1≤j.weight)) then (bif (decide (j.weight≤1024)) then (bif (decide (1≤j.speed)) then (bif (decide (j.speed≤1048576)) then (bif (decide (1≤j.accel)) then (bif (decide (j.accel≤1048576)) then (bif (decide (1≤j.torque)) then (bif (decide (j.torque≤1099511627776)) then (f 0) else (f 807)) else (f 807)) else (f 807)) else (f 807)) else (f 807)) else (f 807)) else (f 807)) else (f 807))))) else (bif (decide (j.kind=6)) then (bif (decide (j.hi < j.lo)) then (f 806) else (bif (decide (j.lo < (-4194304))) then (f 806) else (bif (decide (4194304 < j.hi)) then (f 806) else (bif (decide (1≤j.weight)) then (bif (decide (j.weight≤1024)) then (bif (decide (1≤j.speed)) then (bif (decide (j.speed≤1048576)) then (bif (decide (1≤j.accel)) then (bif (decide (j.accel≤1048576)) then (bif (decide (1≤j.torque)) then (bif (decide (j.torque≤1099511627776)) then (f 0) else (f 807)) else (f 807)) else (f 807)) else (f 807)) else (f 807)) else (f 807)) else (f 807)) else (f 807))))) else (bif (decide (j.hi < j.lo)) then (f 806) else (bif (decide (j.lo < 0)) then (f 806) else (bif (decide (0 < j.hi)) then (f 806) else (bif (decide (1≤j.weight)) then (bif (decide (j.weight≤1024)) then (bif (decide (1≤j.speed)) then (bif (decide (j.speed≤1048576)) then (bif (decide (1≤j.accel)) then (bif (decide (j.accel≤1048576)) then (bif (decide (1≤j.torque)) then (bif (decide (j.torque≤1099511627776)) then (f 0) else (f 807)) else (f 807)) else (f 807)) else (f 807)) else (f 807)) else (f 807)) else (f 807)) else (f 807)))))))))))))))))))))
theorem fWV {α:Type} (f:Int→α) (i:Int) (j:J):cpT f i j=cjT f i j:=by
 unfold cpT cjT;by_cases h0:j.kind < 0
 ·simp only [vJQ h0,vYV]
 by_cases h6:6 < j.kind
 ·simp only [vJQ h6,vYV]
 rcases (by omega:j.kind=0 ∨ j.kind=1 ∨ j.kind=2 ∨ j.kind=3 ∨ j.kind=4 ∨ j.kind=5 ∨ j.kind=6) with h | h | h | h | h | h | h
 ·simp only [vJQ (show j.kind=0 by omega),vYH (show ¬ j.kind=1 by omega),vYH (show ¬ j.kind=2 by omega),vYH (show ¬ j.kind=3 by omega),vYH (show ¬ j.kind=4 by omega),vYH (show ¬ j.kind=5 by omega),vYH (show ¬ j.kind=6 by omega),vYV,vYG]
 ·simp only [vYH (show ¬ j.kind=0 by omega),vJQ (show j.kind=1 by omega),vYH (show ¬ j.kind=2 by omega),vYH (show ¬ j.kind=3 by omega),vYH (show ¬ j.kind=4 by omega),vYH (show ¬ j.kind=5 by omega),vYH (show ¬ j.kind=6 by omega),vYV,vYG]
 ·simp only [vYH (show ¬ j.kind=0 by omega),vYH (show ¬ j.kind=1 by omega),vJQ (show j.kind=2 by omega),vYH (show ¬ j.kind=3 by omega),vYH (show ¬ j.kind=4 by omega),vYH (show ¬ j.kind=5 by omega),vYH (show ¬ j.kind=6 by omega),vYV,vYG]
 ·simp only [vYH (show ¬ j.kind=0 by omega),vYH (show ¬ j.kind=1 by omega),vYH (show ¬ j.kind=2 by omega),vJQ (show j.kind=3 by omega),vYH (show ¬ j.kind=4 by omega),vYH (show ¬ j.kind=5 by omega),vYH (show ¬ j.kind=6 by omega),vYV,vYG]
 ·simp only [vYH (show ¬ j.kind=0 by omega),vYH (show ¬ j.kind=1 by omega),vYH (show ¬ j.kind=2 by omega),vYH (show ¬ j.kind=3 by omega),vJQ (show j.kind=4 by omega),vYH (show ¬ j.kind=5 by omega),vYH (show ¬ j.kind=6 by omega),vYV,vYG]
 ·simp only [vYH (show ¬ j.kind=0 by omega),vYH (show ¬ j.kind=1 by omega),vYH (show ¬ j.kind=2 by omega),vYH (show ¬ j.kind=3 by omega),vYH (show ¬ j.kind=4 by omega),vJQ (show j.kind=5 by omega),vYH (show ¬ j.kind=6 by omega),vYV,vYG]
 ·simp only [vYH (show ¬ j.kind=0 by omega),vYH (show ¬ j.kind=1 by omega),vYH (show ¬ j.kind=2 by omega),vYH (show ¬ j.kind=3 by omega),vYH (show ¬ j.kind=4 by omega),vYH (show ¬ j.kind=5 by omega),vJQ (show j.kind=6 by omega),vYV,vYG]
def jErr (js:Nat→J) (n i:Nat):Int:=bif nmB (js i).name then (bif dup js (js i).name i 0 then 802 else cjT (fun e=>e) i (js i)) else 802
noncomputable def o_nm:List PV→Option (Bool × Ret):=fun ps=>match ps with
 | [.s s]=>some (true,.v (.b (nmB s)))
 | _=>none
theorem xUA:zZ Tryz.prog 61 o_nm:=by
 intro ps r hh;unfold o_nm at hh;split at hh
 ·simp only [vQZ,vQY] at hh;obtain ⟨_,rfl⟩:=hh;exact xYH _
 ·cases hh
theorem ok_rn:zZ Tryz.prog 116 o_nm:=by
 intro ps r hh;unfold o_nm at hh;split at hh
 ·simp only [vQZ,vQY] at hh;obtain ⟨_,rfl⟩:=hh;exact xYA _
 ·cases hh
noncomputable def o_fd (js:Nat→J) (ms:Nat→Ms) (n m:Nat):List PV→Option (Bool × Ret):=fun ps=>match ps with
 | [r,.s s]=>some (gEq r (.a [.lf n (fJ js),.lf m (fM ms)]),.v (.n .i64 (fnd js s n 0)))
 | _=>none
theorem kXB (js:Nat→J) (ms:Nat→Ms) (n m:Nat) (hn:n≤50):zZ Tryz.prog 168 (o_fd js ms n m):=by
 intro ps r hh;unfold o_fd at hh;split at hh
 ·simp only [vQZ,vQY] at hh;obtain ⟨hg,rfl⟩:=hh;obtain rfl:=zXL hg;exact kJU _ _ _ _ _ hn
 ·cases hh
set_option maxRecDepth 100000 in
theorem xZD (js:Nat→J) (ms:Nat→Ms) (n m:Nat) (i:Int):runK T (OrL.k [(61,o_nm),(168,o_fd js ms n m)]) 60 146 [(.a [.lf n (fJ js),.lf m (fM ms)]),.n .i64 i] =
 bif inB i n then (bif nmB (js i.toNat).name then (bif gEq (.a [.lf n (fJ js),.lf m (fM ms)]) (.a [.lf n (fJ js),.lf m (fM ms)]) then (bif !decide (fnd js (js i.toNat).name n 0=i) then some (.v (.n .i64 802),[]) else cpT F_n i (js i.toNat)) else none) else some (.v (.n .i64 802),[])) else none:=by kernel_rfl
theorem F_cj (i:Int) (j:J):cjT F_n i j=F_n (cjT (fun e=>e) i j):=by
 unfold cjT;simp only [Bool.apply_cond F_n]
theorem uUV (js:Nat→J) (ms:Nat→Ms) (n m:Nat) (hn:n≤50) (i:Nat) (hi:i < n):zG Tryz.prog 146 [(.a [.lf n (fJ js),.lf m (fM ms)]),.n .i64 i] (.v (.n .i64 (jErr js n i))):=by
 refine qH (N:=60) jQ yQ (OrL.ok (l:=[(61,o_nm),(168,o_fd js ms n m)]) ⟨xUA,kXB js ms n m hn,trivial⟩) ?_;rw [xZD,yU hi,vYV,toN,zQU,vYV,fWV,F_cj];have hd:=kQQ js i n 0 (by omega) (by omega);rw [Nat.sub_zero] at hd;unfold jErr;cases nmB (js i).name with
 | false=>rfl
 | true =>
  cases hq:dup js (js i).name i 0 with
  | false=>rw [vJQ (hd.2 hq)]; rfl
  | true=>rw [vYH (fun h=>by rw [hd.1 h] at hq; cases hq)]; rfl
def hC (js:Nat→J) (n:Nat) (i:Int) (k:Int):St:=⟨[(0,.v (.lf n (fJ js))),(1,.v (.n .i64 i)),(5,.p 5 0),(6,.v (.n .i64 k))],[(5,.blk [.v (.s (js (i).toNat).name),.v (.n .i64 (js (i).toNat).kind),.v (.n .i64 (js (i).toNat).parent),.v (.n .i64 (js (i).toNat).off.x),.v (.n .i64 (js (i).toNat).off.y),.v (.n .i64 (js (i).toNat).off.z),.v (.n .i64 (js (i).toNat).lo),.v (.n .i64 (js (i).toNat).hi),.v (.n .i64 (js (i).toNat).weight),.v (.n .i64 (js (i).toNat).speed),.v (.n .i64 (js (i).toNat).accel),.v (.n .i64 (js (i).toNat).torque)])]⟩
set_option maxRecDepth 100000 in
theorem rdC (G:St→Option (Ret × Mem)) (K:Cont) (js:Nat→J) (n:Nat) (i:Int) (k:Int):qKF 60 (cxF T (OrL.k [(116,o_nm)]) 60 119 (ntmF T 119)) (ckF T (OrL.k [(116,o_nm)]) 60) (qY T 119 [0,1,0,1,1,1]) (fun e τ=>match e with
 | .normal=>G (qJW ((cxF T (OrL.k [(116,o_nm)]) 60 119 (ntmF T 119)).T.hint (cxF T (OrL.k [(116,o_nm)]) 60 119 (ntmF T 119)).me (yZ (qY T 119 [0,1,0,1,1,1]))) τ)
 | e=>K e (qYB ((cxF T (OrL.k [(116,o_nm)]) 60 119 (ntmF T 119)).T.hint (cxF T (OrL.k [(116,o_nm)]) 60 119 (ntmF T 119)).me (yZ (qY T 119 [0,1,0,1,1,1]))) τ)) (hC js n i k) =
 (bif (decide (k < i)) then (bif (inB k n) then (bif ((js (k).toNat).name.toList == (js (i).toNat).name.toList) then (K .ret ⟨[(1,.v (.n .i64 i)),(4,.v (.n .i64 802)),(5,.p 5 0)],[(5,.blk [.v (.s (js (i).toNat).name),.v (.n .i64 (js (i).toNat).kind),.v (.n .i64 (js (i).toNat).parent),.v (.n .i64 (js (i).toNat).off.x),.v (.n .i64 (js (i).toNat).off.y),.v (.n .i64 (js (i).toNat).off.z),.v (.n .i64 (js (i).toNat).lo),.v (.n .i64 (js (i).toNat).hi),.v (.n .i64 (js (i).toNat).weight),.v (.n .i64 (js (i).toNat).speed),.v (.n .i64 (js (i).toNat).accel),.v (.n .i64 (js (i).toNat).torque)])]⟩)
 else (G (hC js n i (vJJ .i64 (k + 1)))))
 else none)
 else (K (.exit 0) ⟨[(1,.v (.n .i64 i)),(5,.p 5 0)],[(5,.blk [.v (.s (js (i).toNat).name),.v (.n .i64 (js (i).toNat).kind),.v (.n .i64 (js (i).toNat).parent),.v (.n .i64 (js (i).toNat).off.x),.v (.n .i64 (js (i).toNat).off.y),.v (.n .i64 (js (i).toNat).off.z),.v (.n .i64 (js (i).toNat).lo),.v (.n .i64 (js (i).toNat).hi),.v (.n .i64 (js (i).toNat).weight),.v (.n .i64 (js (i).toNat).speed),.v (.n .i64 (js (i).toNat).accel),.v (.n .i64 (js (i).toNat).torque)])]⟩)):=by kernel_rfl
def rC (js:Nat→J) (i:Int):St:=⟨[(1,.v (.n .i64 i)),(4,.v (.n .i64 802)),(5,.p 5 0)],[(5,.blk [.v (.s (js (i).toNat).name),.v (.n .i64 (js (i).toNat).kind),.v (.n .i64 (js (i).toNat).parent),.v (.n .i64 (js (i).toNat).off.x),.v (.n .i64 (js (i).toNat).off.y),.v (.n .i64 (js (i).toNat).off.z),.v (.n .i64 (js (i).toNat).lo),.v (.n .i64 (js (i).toNat).hi),.v (.n .i64 (js (i).toNat).weight),.v (.n .i64 (js (i).toNat).speed),.v (.n .i64 (js (i).toNat).accel),.v (.n .i64 (js (i).toNat).torque)])]⟩
def oC (js:Nat→J) (i:Int):St:=⟨[(1,.v (.n .i64 i)),(5,.p 5 0)],[(5,.blk [.v (.s (js (i).toNat).name),.v (.n .i64 (js (i).toNat).kind),.v (.n .i64 (js (i).toNat).parent),.v (.n .i64 (js (i).toNat).off.x),.v (.n .i64 (js (i).toNat).off.y),.v (.n .i64 (js (i).toNat).off.z),.v (.n .i64 (js (i).toNat).lo),.v (.n .i64 (js (i).toNat).hi),.v (.n .i64 (js (i).toNat).weight),.v (.n .i64 (js (i).toNat).speed),.v (.n .i64 (js (i).toNat).accel),.v (.n .i64 (js (i).toNat).torque)])]⟩
theorem lpC (K:Cont) (js:Nat→J) (n i:Nat) (hn:n≤1000) (hi:i < n):∀ (k p q:Nat),p + k=i→k < q→LF 60 (cxF T (OrL.k [(116,o_nm)]) 60 119 (ntmF T 119)) (ckF T (OrL.k [(116,o_nm)]) 60) (qY T 119 [0,1,0,1,1,1]) ((cxF T (OrL.k [(116,o_nm)]) 60 119 (ntmF T 119)).T.hint (cxF T (OrL.k [(116,o_nm)]) 60 119 (ntmF T 119)).me (yZ (qY T 119 [0,1,0,1,1,1]))) K q (hC js n i p)=bif dup js (js i).name k p then (K .ret (rC js i)) else (K (.exit 0) (oC js i))
 | 0,p,q + 1,hp,hq=>by
  refine (rdC (fun σ=>LF 60 (cxF T (OrL.k [(116,o_nm)]) 60 119 (ntmF T 119)) (ckF T (OrL.k [(116,o_nm)]) 60) (qY T 119 [0,1,0,1,1,1]) ((cxF T (OrL.k [(116,o_nm)]) 60 119 (ntmF T 119)).T.hint (cxF T (OrL.k [(116,o_nm)]) 60 119 (ntmF T 119)).me (yZ (qY T 119 [0,1,0,1,1,1]))) K q σ) K js n i p).trans ?_;rw [vYH (show ¬ (p:Int) < (i:Int) by omega)];rfl
 | k + 1,p,q + 1,hp,hq=>by
  refine (rdC (fun σ=>LF 60 (cxF T (OrL.k [(116,o_nm)]) 60 119 (ntmF T 119)) (ckF T (OrL.k [(116,o_nm)]) 60) (qY T 119 [0,1,0,1,1,1]) ((cxF T (OrL.k [(116,o_nm)]) 60 119 (ntmF T 119)).T.hint (cxF T (OrL.k [(116,o_nm)]) 60 119 (ntmF T 119)).me (yZ (qY T 119 [0,1,0,1,1,1]))) K q σ) K js n i p).trans ?_;rw [vJQ (show (p:Int) < (i:Int) by omega),yU (show p < n by omega),kK (by omega),lpC K js n i hn hi k (p + 1) q (by omega) (by omega),toN,toN];simp only [vYV,dup];cases ((js p).name.toList == (js i).name.toList) <;> rfl
set_option maxRecDepth 100000 in
theorem pxC (js:Nat→J) (n:Nat) (i:Int):qXD T (OrL.k [(116,o_nm)]) (qK [([0,1,0,1,1,1],uU (hC js n i 0) (fun K=>bif dup js (js i.toNat).name i.toNat 0 then (K .ret (rC js i)) else (K (.exit 0) (oC js i))))]) 60 119 [.lf n (fJ js),.n .i64 i] =
 bif inB i n then (bif nmB (js i.toNat).name then (bif gSt (hC js n i 0) (hC js n i 0) then (bif dup js (js i.toNat).name i.toNat 0 then some (.v (.n .i64 802),[]) else cjT F_n i (js i.toNat)) else none) else some (.v (.n .i64 802),[])) else none:=by kernel_rfl
theorem uUW (js:Nat→J) (n:Nat) (_:n≤50) (i:Nat) (hi:i < n):zG Tryz.prog 119 [.lf n (fJ js),.n .i64 i] (.v (.n .i64 (jErr js n i))):=by
 refine uW (N:=60) (LO:=qK [([0,1,0,1,1,1],uU (hC js n (i:Int) 0) (fun K=>bif dup js (js (i:Int).toNat).name (i:Int).toNat 0 then (K .ret (rC js i)) else (K (.exit 0) (oC js i))))]) jQ yQ (OrL.ok (l:=[(116,o_nm)]) ⟨ok_rn,trivial⟩) (fun p S hp => ?_) ?_
 ·refine qZQ (L:=qY T 119) (l:=[([0,1,0,1,1,1],uU (hC js n (i:Int) 0) (fun K=>bif dup js (js (i:Int).toNat).name (i:Int).toNat 0 then (K .ret (rC js i)) else (K (.exit 0) (oC js i))))]) (show AllP _ [([0,1,0,1,1,1],uU (hC js n (i:Int) 0) (fun K=>bif dup js (js (i:Int).toNat).name (i:Int).toNat 0 then (K .ret (rC js i)) else (K (.exit 0) (oC js i))))] from ⟨qYH fun K r hr => ?_,trivial⟩) p S hp
  have:=lpC K js n i (by omega) hi i 0 60 (by omega) (by omega)
  rw [toN] at hr;exact this.trans hr
 ·refine (pxC js n i).trans ?_;rw [yU hi,vYV,toN,yJ,vYV,F_cj];unfold jErr;cases nmB (js i).name <;> cases dup js (js i).name i 0 <;> rfl
end Go.Proofs.YtmeldddgjfocdaaGreat.Nb

/- Part 11 of the texts behind the last one: rules and contracts. No condition. -/
import Derived.Test.YtgmbkkkbfbocnaaGreatGM10
open Option renaming bind_eq_some_iff → vQQ
open Option.some renaming injEq → vQZ
open Prod.mk renaming injEq → vQY
open List renaming take_succ_cons → vYK, drop_succ_cons → vYU, take_zero → vYX, drop_zero → vYW
open Go.IntKind renaming wrap → vJJ
namespace Go.Proofs.YtgmbkkkbfbocnaaGreat
open Go.Sx Go.Rx Rt Go.RowKit
namespace Tn
end Tn
open Tn
theorem zZZ:zKZ Tryz.prog 62 0 0=true:=by kernel_rfl
theorem ty2:tyB Tryz.prog 2 false 1=true:=by kernel_rfl
theorem zXG:zKZ Tryz.prog 62 1 1=true:=by kernel_rfl
theorem ze62:qUQ Tryz.prog 62 (.agg #[.int .i64 0,.int .i64 0]):=by unfold qUQ; kernel_rfl
theorem la62:qVY Tryz.prog 62=some ([.int .i64 0,.int .i64 0],[(0,1),(1,1)]):=by kernel_rfl
theorem ty62:tyB Tryz.prog 62 true 2=true:=by kernel_rfl
theorem en152:uW Tryz.prog 152:=qW Tryz.func152 (by kernel_rfl) (by kernel_rfl)
theorem en148:uW Tryz.prog 148:=qW Tryz.func148 (by kernel_rfl) (by kernel_rfl)
theorem en160:uW Tryz.prog 160:=qW Tryz.func160 (by kernel_rfl) (by kernel_rfl)
theorem en174:uW Tryz.prog 174:=qW Tryz.func174 (by kernel_rfl) (by kernel_rfl)
theorem mo:Tryz.prog.follows .mixedOrders=true:=by kernel_rfl
theorem en161:uW Tryz.prog 161:=qW Tryz.func161 (by kernel_rfl) (by kernel_rfl)
theorem en162:uW Tryz.prog 162:=qW Tryz.func162 (by kernel_rfl) (by kernel_rfl)
set_option maxRecDepth 100000 in
theorem iValid (a0 a1:Int) (w:World):Calls Tryz.prog 135 [.agg #[.int .i64 a0,.int .i64 a1]].toArray w (Rets (vB (Iv.valid (⟨a0,a1⟩:Iv))) (w)) :=
 zZ (x:=.b (Iv.valid ⟨a0,a1⟩)) (qH (N:=60) (ps:=[.a [.n .i64 a0,.n .i64 a1]]) yJ zG (OrL.ok (l:=([]:OrL)) trivial) ((by kernel_rfl:_=bif (decide ((-2147483648)≤a0)) then (bif (decide (a0≤a1)) then (bif (decide (a1≤2147483648)) then some (.v (.b true),[])
 else some (.v (.b false),[]))
 else some (.v (.b false),[]))
 else some (.v (.b false),[])).trans (by
 show _=some (Ret.v (.b (decide (-2147483648≤a0) && decide (a0≤a1) && decide (a1≤2147483648))),[]);cases decide (-2147483648≤a0) <;> cases decide (a0≤a1) <;> cases decide (a1≤2147483648) <;> rfl))) rfl rfl w
set_option maxRecDepth 100000 in
theorem jWK (a0 a1:Int) (w:World):Calls Tryz.prog 148 [.agg #[.int .i64 a0,.int .i64 a1]].toArray w (Rets (vB (Iv.valid (⟨a0,a1⟩:Iv))) (w)) :=
 zZ (x:=.b (Iv.valid ⟨a0,a1⟩)) (qH (N:=60) (ps:=[.a [.n .i64 a0,.n .i64 a1]]) yJ zG (OrL.ok (l:=([]:OrL)) trivial) ((by kernel_rfl:_=bif (decide ((-2147483648)≤a0)) then (bif (decide (a0≤a1)) then (bif (decide (a1≤2147483648)) then some (.v (.b true),[])
 else some (.v (.b false),[]))
 else some (.v (.b false),[]))
 else some (.v (.b false),[])).trans (by
 show _=some (Ret.v (.b (decide (-2147483648≤a0) && decide (a0≤a1) && decide (a1≤2147483648))),[]);cases decide (-2147483648≤a0) <;> cases decide (a0≤a1) <;> cases decide (a1≤2147483648) <;> rfl))) rfl rfl w
namespace Tn
noncomputable def o_iValid:List PV→Option (Bool × Ret):=fun ps=>match ps with
 | [.a a']=>(ivD a').bind fun a=>some (true,.v (.b (Iv.valid a)))
 | _=>none
theorem ok_iValid:zJ Tryz.prog 135 o_iValid:=by
 intro ps r h;unfold o_iValid at h;split at h
 ·simp only [vQQ,vQZ,vQY] at h;obtain ⟨a,ha,hg,rfl⟩:=h;rw [qQH ha];exact qX (qW Tryz.func135 (by kernel_rfl) (by kernel_rfl)) rfl rfl (fun w=>iValid _ _ w)
 ·cases h
noncomputable def LTn1:OrL:=(135,o_iValid) :: ([]:OrL)
theorem LTn1_ok:AllP (fun x:Nat × (List PV→Option (Bool × Ret))=>zJ Tryz.prog x.1 x.2) LTn1:=⟨ok_iValid,trivial⟩
noncomputable def o_rValid:List PV→Option (Bool × Ret):=fun ps=>match ps with
 | [.a a']=>(ivD a').bind fun a=>some (true,.v (.b (Iv.valid a)))
 | _=>none
theorem ok_rValid:zJ Tryz.prog 148 o_rValid:=by
 intro ps r h;unfold o_rValid at h;split at h
 ·simp only [vQQ,vQZ,vQY] at h;obtain ⟨a,ha,hg,rfl⟩:=h;rw [qQH ha];exact qX (qW Tryz.func148 (by kernel_rfl) (by kernel_rfl)) rfl rfl (fun w=>jWK _ _ w)
 ·cases h
noncomputable def LTn2:OrL:=(148,o_rValid) :: LTn1
theorem jXW:AllP (fun x:Nat × (List PV→Option (Bool × Ret))=>zJ Tryz.prog x.1 x.2) LTn2:=⟨ok_rValid,LTn1_ok⟩
end Tn
set_option maxRecDepth 100000 in
theorem fClamp (a:Int) (w:World):Calls Tryz.prog 173 [.int .i64 a].toArray w (Rets (vI (qZQ a)) (w)) :=
 zZ (x:=.n .i64 (qZQ a)) (qH (N:=60) (ps:=[.n .i64 a]) yJ zG (OrL.ok (l:=LTn2) jXW) (by kernel_rfl)) rfl rfl w
set_option maxRecDepth 100000 in
theorem rClamp (a:Int) (w:World):Calls Tryz.prog 81 [.int .i64 a].toArray w (Rets (vI (qZQ a)) (w)) :=
 zZ (x:=.n .i64 (qZQ a)) (qH (N:=60) (ps:=[.n .i64 a]) yJ zG (OrL.ok (l:=LTn2) jXW) ((by kernel_rfl:_=some (.v (.n .i64 (max (-2147483648) (min a 2147483648))),[])).trans (by
 rw [show max (-2147483648) (min a 2147483648)=qZQ a by unfold qZQ; omega]))) rfl rfl w
namespace Tn
noncomputable def yGU:List PV→Option (Bool × Ret):=fun ps=>match ps with
 | [.n .i64 a]=>some (true,.v (.n .i64 ((qZQ a))))
 | _=>none
theorem ok_fClamp:zJ Tryz.prog 173 yGU:=by
 intro ps r h;unfold yGU at h;split at h
 ·simp only [vQZ,vQY] at h;obtain ⟨hg,rfl⟩:=h;exact qX (qW Tryz.func173 (by kernel_rfl) (by kernel_rfl)) rfl rfl (fun w=>fClamp _ w)
 ·cases h
noncomputable def LTn3:OrL:=(173,yGU) :: LTn2
theorem LTn3_ok:AllP (fun x:Nat × (List PV→Option (Bool × Ret))=>zJ Tryz.prog x.1 x.2) LTn3:=⟨ok_fClamp,jXW⟩
noncomputable def yVV:List PV→Option (Bool × Ret):=fun ps=>match ps with
 | [.n .i64 a]=>some (true,.v (.n .i64 ((qZQ a))))
 | _=>none
theorem ok_rClamp:zJ Tryz.prog 81 yVV:=by
 intro ps r h;unfold yVV at h;split at h
 ·simp only [vQZ,vQY] at h;obtain ⟨hg,rfl⟩:=h;exact qX (qW Tryz.func81 (by kernel_rfl) (by kernel_rfl)) rfl rfl (fun w=>rClamp _ w)
 ·cases h
noncomputable def LTn4:OrL:=(81,yVV) :: LTn3
theorem jXX:AllP (fun x:Nat × (List PV→Option (Bool × Ret))=>zJ Tryz.prog x.1 x.2) LTn4:=⟨ok_rClamp,LTn3_ok⟩
end Tn
set_option maxRecDepth 100000 in
theorem iLimited (lo:Int) (hi:Int) (w:World):Calls Tryz.prog 152 [.int .i64 lo,.int .i64 hi].toArray w (Rets (iv (Iv.limited lo hi)) (w)) :=
 zZ (x:=.a (ivC (Iv.limited lo hi))) (qH (N:=60) (ps:=[.n .i64 lo,.n .i64 hi]) yJ zG (OrL.ok (l:=LTn4) jXX) (by kernel_rfl)) rfl rfl w
set_option maxRecDepth 100000 in
theorem iOf (x:Int) (w:World):Calls Tryz.prog 122 [.int .i64 x].toArray w (Rets (iv (Iv.of x)) (w)) :=
 zZ (x:=.a (ivC (Iv.of x))) (qH (N:=60) (ps:=[.n .i64 x]) yJ zG (OrL.ok (l:=LTn4) jXX) (by kernel_rfl)) rfl rfl w
namespace Tn
noncomputable def zGK:List PV→Option (Bool × Ret):=fun ps=>match ps with
 | [.n .i64 a,.n .i64 b]=>some (true,.v (.a (ivC (Iv.limited a b))))
 | _=>none
theorem ok_iLimited:zJ Tryz.prog 152 zGK:=by
 intro ps r h;unfold zGK at h;split at h
 ·simp only [vQZ,vQY] at h;obtain ⟨hg,rfl⟩:=h;exact qX (qW Tryz.func152 (by kernel_rfl) (by kernel_rfl)) rfl rfl (fun w=>iLimited _ _ w)
 ·cases h
noncomputable def LTn5:OrL:=(152,zGK) :: LTn4
theorem jXU:AllP (fun x:Nat × (List PV→Option (Bool × Ret))=>zJ Tryz.prog x.1 x.2) LTn5:=⟨ok_iLimited,jXX⟩
end Tn
set_option maxRecDepth 100000 in
theorem rLimited (lo:Int) (hi:Int) (w:World):Calls Tryz.prog 160 [.int .i64 lo,.int .i64 hi].toArray w (Rets (iv (Iv.limited lo hi)) (w)) :=
 zZ (x:=.a (ivC (Iv.limited lo hi))) (qH (N:=60) (ps:=[.n .i64 lo,.n .i64 hi]) yJ zG (OrL.ok (l:=LTn5) jXU) (by kernel_rfl)) rfl rfl w
set_option maxRecDepth 100000 in
theorem rOf (x:Int) (w:World):Calls Tryz.prog 34 [.int .i64 x].toArray w (Rets (iv (Iv.of x)) (w)) :=
 zZ (x:=.a (ivC (Iv.of x))) (qH (N:=60) (ps:=[.n .i64 x]) yJ zG (OrL.ok (l:=LTn5) jXU) (by kernel_rfl)) rfl rfl w
namespace Tn
noncomputable def zVG:List PV→Option (Bool × Ret):=fun ps=>match ps with
 | [.n .i64 a,.n .i64 b]=>some (true,.v (.a (ivC (Iv.limited a b))))
 | _=>none
theorem ok_rLimited:zJ Tryz.prog 160 zVG:=by
 intro ps r h;unfold zVG at h;split at h
 ·simp only [vQZ,vQY] at h;obtain ⟨hg,rfl⟩:=h;exact qX (qW Tryz.func160 (by kernel_rfl) (by kernel_rfl)) rfl rfl (fun w=>rLimited _ _ w)
 ·cases h
noncomputable def LTn6:OrL:=(160,zVG) :: LTn5
theorem zZQ:AllP (fun x:Nat × (List PV→Option (Bool × Ret))=>zJ Tryz.prog x.1 x.2) LTn6:=⟨ok_rLimited,jXU⟩
end Tn
set_option maxRecDepth 100000 in
theorem iNeg (a0 a1:Int) (w:World):Calls Tryz.prog 184 [.agg #[.int .i64 a0,.int .i64 a1]].toArray w (Rets (iv (Iv.neg (⟨a0,a1⟩:Iv))) (w)) :=
 zZ (x:=.a (ivC (Iv.neg ⟨a0,a1⟩))) (qH (N:=60) (ps:=[.a [.n .i64 a0,.n .i64 a1]]) yJ zG (OrL.ok (l:=LTn6) zZQ) ((by kernel_rfl:_=bif Iv.valid (Iv.mk a0 a1) then some (.v (.a [.n .i64 (vJJ .i64 (0 - a1)),.n .i64 (vJJ .i64 (0 - a0))]),[])
 else some (.v (.a [.n .i64 0,.n .i64 0]),[])).trans (by
 unfold Iv.neg;cases ha:Iv.valid (Iv.mk a0 a1) with
 | false=>rfl
 | true =>
  have va:=uV ha;rw [zQ (show -9223372036854775808≤0 - a1∧0 - a1≤9223372036854775807 by omega),zQ (show -9223372036854775808≤0 - a0∧0 - a0≤9223372036854775807 by omega),show 0 - a1 = -a1 by omega,show 0 - a0 = -a0 by omega]; rfl))) rfl rfl w
set_option maxRecDepth 100000 in
theorem rNeg (a0 a1:Int) (w:World):Calls Tryz.prog 171 [.agg #[.int .i64 a0,.int .i64 a1]].toArray w (Rets (iv (Iv.neg (⟨a0,a1⟩:Iv))) (w)) :=
 zZ (x:=.a (ivC (Iv.neg ⟨a0,a1⟩))) (qH (N:=60) (ps:=[.a [.n .i64 a0,.n .i64 a1]]) yJ zG (OrL.ok (l:=LTn6) zZQ) ((by kernel_rfl:_=bif Iv.valid (Iv.mk a0 a1) then some (.v (.a [.n .i64 (vJJ .i64 (0 - a1)),.n .i64 (vJJ .i64 (0 - a0))]),[])
 else some (.v (.a [.n .i64 0,.n .i64 0]),[])).trans (by
 unfold Iv.neg;cases ha:Iv.valid (Iv.mk a0 a1) with
 | false=>rfl
 | true =>
  have va:=uV ha;rw [zQ (show -9223372036854775808≤0 - a1∧0 - a1≤9223372036854775807 by omega),zQ (show -9223372036854775808≤0 - a0∧0 - a0≤9223372036854775807 by omega),show 0 - a1 = -a1 by omega,show 0 - a0 = -a0 by omega]; rfl))) rfl rfl w
set_option maxRecDepth 100000 in
theorem iValid2 (a0 a1:Int) (b0 b1:Int) (w:World):Calls Tryz.prog 174 [.agg #[.int .i64 a0,.int .i64 a1],.agg #[.int .i64 b0,.int .i64 b1]].toArray w (Rets (vB ((Iv.valid (⟨a0,a1⟩:Iv) && Iv.valid (⟨b0,b1⟩:Iv)))) (w)) :=
 zZ (x:=.b (Iv.valid ⟨a0,a1⟩ && Iv.valid ⟨b0,b1⟩)) (qH (N:=60) (ps:=[.a [.n .i64 a0,.n .i64 a1],.a [.n .i64 b0,.n .i64 b1]]) yJ zG (OrL.ok (l:=LTn6) zZQ) ((by kernel_rfl:_=bif Iv.valid (Iv.mk a0 a1) then (bif Iv.valid (Iv.mk b0 b1) then some (.v (.b true),[])
 else some (.v (.b false),[]))
 else some (.v (.b false),[])).trans (by
 cases Iv.valid (Iv.mk a0 a1) <;> cases Iv.valid (Iv.mk b0 b1) <;> rfl))) rfl rfl w
set_option maxRecDepth 100000 in
theorem rAdd (a0 a1:Int) (b0 b1:Int) (w:World):Calls Tryz.prog 131 [.agg #[.int .i64 a0,.int .i64 a1],.agg #[.int .i64 b0,.int .i64 b1]].toArray w (Rets (iv (Iv.add (⟨a0,a1⟩:Iv) (⟨b0,b1⟩:Iv))) (w)) :=
 zZ (x:=.a (ivC (Iv.add ⟨a0,a1⟩ ⟨b0,b1⟩))) (qH (N:=60) (ps:=[.a [.n .i64 a0,.n .i64 a1],.a [.n .i64 b0,.n .i64 b1]]) yJ zG (OrL.ok (l:=LTn6) zZQ) ((by kernel_rfl:_=bif Iv.valid (Iv.mk a0 a1) then (bif Iv.valid (Iv.mk b0 b1) then some (.v (.a (ivC (Iv.limited (vJJ .i64 (a0 + b0)) (vJJ .i64 (a1 + b1))))),[])
 else some (.v (.a [.n .i64 0,.n .i64 0]),[]))
 else some (.v (.a [.n .i64 0,.n .i64 0]),[])).trans (by
 unfold Iv.add;cases ha:Iv.valid (Iv.mk a0 a1) with
 | false=>rfl
 | true =>
  cases hb:Iv.valid (Iv.mk b0 b1) with
  | false=>rfl
  | true =>
   have va:=uV ha;have vb:=uV hb;rw [zQ (show -9223372036854775808≤a0 + b0∧a0 + b0≤9223372036854775807 by omega),zQ (show -9223372036854775808≤a1 + b1∧a1 + b1≤9223372036854775807 by omega)]; rfl))) rfl rfl w
set_option maxRecDepth 100000 in
theorem iAdd (a0 a1:Int) (b0 b1:Int) (w:World):Calls Tryz.prog 156 [.agg #[.int .i64 a0,.int .i64 a1],.agg #[.int .i64 b0,.int .i64 b1]].toArray w (Rets (iv (Iv.add (⟨a0,a1⟩:Iv) (⟨b0,b1⟩:Iv))) (w)) :=
 zZ (x:=.a (ivC (Iv.add ⟨a0,a1⟩ ⟨b0,b1⟩))) (qH (N:=60) (ps:=[.a [.n .i64 a0,.n .i64 a1],.a [.n .i64 b0,.n .i64 b1]]) yJ zG (OrL.ok (l:=LTn6) zZQ) ((by kernel_rfl:_=bif Iv.valid (Iv.mk a0 a1) then (bif Iv.valid (Iv.mk b0 b1) then some (.v (.a (ivC (Iv.limited (vJJ .i64 (a0 + b0)) (vJJ .i64 (a1 + b1))))),[])
 else some (.v (.a [.n .i64 0,.n .i64 0]),[]))
 else some (.v (.a [.n .i64 0,.n .i64 0]),[])).trans (by
 unfold Iv.add;cases ha:Iv.valid (Iv.mk a0 a1) with
 | false=>rfl
 | true =>
  cases hb:Iv.valid (Iv.mk b0 b1) with
  | false=>rfl
  | true =>
   have va:=uV ha;have vb:=uV hb;rw [zQ (show -9223372036854775808≤a0 + b0∧a0 + b0≤9223372036854775807 by omega),zQ (show -9223372036854775808≤a1 + b1∧a1 + b1≤9223372036854775807 by omega)]; rfl))) rfl rfl w
set_option maxRecDepth 100000 in
theorem rHull (a0 a1:Int) (b0 b1:Int) (w:World):Calls Tryz.prog 185 [.agg #[.int .i64 a0,.int .i64 a1],.agg #[.int .i64 b0,.int .i64 b1]].toArray w (Rets (iv (Iv.hull (⟨a0,a1⟩:Iv) (⟨b0,b1⟩:Iv))) (w)) :=
 zZ (x:=.a (ivC (Iv.hull ⟨a0,a1⟩ ⟨b0,b1⟩))) (qH (N:=60) (ps:=[.a [.n .i64 a0,.n .i64 a1],.a [.n .i64 b0,.n .i64 b1]]) yJ zG (OrL.ok (l:=LTn6) zZQ) ((by kernel_rfl:_=bif Iv.valid (Iv.mk a0 a1) then (bif Iv.valid (Iv.mk b0 b1) then some (.v (.a [.n .i64 (min a0 b0),.n .i64 (max a1 b1)]),[])
 else some (.v (.a [.n .i64 0,.n .i64 0]),[]))
 else some (.v (.a [.n .i64 0,.n .i64 0]),[])).trans (by
 unfold Iv.hull;cases ha:Iv.valid (Iv.mk a0 a1) with
 | false=>rfl
 | true =>
  cases hb:Iv.valid (Iv.mk b0 b1) with
  | false=>rfl
  | true =>
   have va:=uV ha;have vb:=uV hb
   rfl))) rfl rfl w
set_option maxRecDepth 100000 in
theorem iHull (a0 a1:Int) (b0 b1:Int) (w:World):Calls Tryz.prog 195 [.agg #[.int .i64 a0,.int .i64 a1],.agg #[.int .i64 b0,.int .i64 b1]].toArray w (Rets (iv (Iv.hull (⟨a0,a1⟩:Iv) (⟨b0,b1⟩:Iv))) (w)) :=
 zZ (x:=.a (ivC (Iv.hull ⟨a0,a1⟩ ⟨b0,b1⟩))) (qH (N:=60) (ps:=[.a [.n .i64 a0,.n .i64 a1],.a [.n .i64 b0,.n .i64 b1]]) yJ zG (OrL.ok (l:=LTn6) zZQ) ((by kernel_rfl:_=bif Iv.valid (Iv.mk a0 a1) then (bif Iv.valid (Iv.mk b0 b1) then some (.v (.a [.n .i64 (min a0 b0),.n .i64 (max a1 b1)]),[])
 else some (.v (.a [.n .i64 0,.n .i64 0]),[]))
 else some (.v (.a [.n .i64 0,.n .i64 0]),[])).trans (by
 unfold Iv.hull;cases ha:Iv.valid (Iv.mk a0 a1) with
 | false=>rfl
 | true =>
  cases hb:Iv.valid (Iv.mk b0 b1) with
  | false=>rfl
  | true =>
   have va:=uV ha;have vb:=uV hb
   rfl))) rfl rfl w
set_option maxRecDepth 100000 in
theorem iWidth (a0 a1:Int) (w:World):Calls Tryz.prog 194 [.agg #[.int .i64 a0,.int .i64 a1]].toArray w (Rets (vI (Iv.width (⟨a0,a1⟩:Iv))) (w)) :=
 zZ (x:=.n .i64 (Iv.width ⟨a0,a1⟩)) (qH (N:=60) (ps:=[.a [.n .i64 a0,.n .i64 a1]]) yJ zG (OrL.ok (l:=LTn6) zZQ) ((by kernel_rfl:_=bif Iv.valid (Iv.mk a0 a1) then some (.v (.n .i64 (vJJ .i64 (a1 - a0))),[])
 else some (.v (.n .i64 0),[])).trans (by
 unfold Iv.width;cases ha:Iv.valid (Iv.mk a0 a1) with
 | false=>rfl
 | true =>
  have va:=uV ha;rw [zQ (show -9223372036854775808≤a1 - a0∧a1 - a0≤9223372036854775807 by omega)]; rfl))) rfl rfl w
set_option maxRecDepth 100000 in
theorem iHas (a0 a1:Int) (x:Int) (w:World):Calls Tryz.prog 201 [.agg #[.int .i64 a0,.int .i64 a1],.int .i64 x].toArray w (Rets (vB (Iv.has (⟨a0,a1⟩:Iv) x)) (w)) :=
 zZ (x:=.b (Iv.has ⟨a0,a1⟩ x)) (qH (N:=60) (ps:=[.a [.n .i64 a0,.n .i64 a1],.n .i64 x]) yJ zG (OrL.ok (l:=LTn6) zZQ) ((by kernel_rfl:_=bif Iv.valid (Iv.mk a0 a1) then (bif (decide (a0≤x)) then (bif (decide (x≤a1)) then some (.v (.b true),[])
 else some (.v (.b false),[]))
 else some (.v (.b false),[]))
 else some (.v (.b false),[])).trans (by
 show _=some (Ret.v (.b (Iv.valid (Iv.mk a0 a1) && decide (a0≤x) && decide (x≤a1))),[]);cases Iv.valid (Iv.mk a0 a1) <;> cases decide (a0≤x) <;> cases decide (x≤a1) <;> rfl))) rfl rfl w
theorem zHQ (a:Int) (k:Int) (_:0≤k∧k≤62) (w:World):Calls Tryz.prog 180 [.int .i64 a,.int .i64 k].toArray w (Rets (vI (a / 2 ^ (k).toNat)) (w)):=by
 refine jV (n:=11) Tryz.func180 rfl rfl rfl ?_;refine zK ?_;refine qU ?_;refine qG (zY rfl) rfl rfl rfl ?_;refine zX ?_;refine qK ?_;refine zK ?_;refine zK ?_;refine qU ?_;refine qG (qV rfl) rfl rfl rfl ?_;refine qG (qWX rfl rfl) rfl rfl rfl ?_;refine zX ?_;refine qK ?_;refine zJU rfl (by simp; omega) ?_;refine qZV ?_;refine qK ?_;refine zK ?_;refine qU ?_;refine qG (qV rfl) rfl rfl rfl ?_;refine qG (qV rfl) rfl rfl rfl ?_;refine qG (jKZ rfl rfl (by first | decide | omega) (shr_eq (by omega) (by omega))) rfl rfl rfl ?_;refine qG (zY rfl) rfl rfl rfl ?_;refine zX ?_;refine qK ?_;refine qQJ ?_;refine kX (rs:=[.tmp 4]) rfl (resC (qQY rfl) (resN)) (congrArg (vI) (?_:_=a / 2 ^ (k).toNat))
 first | rfl | (subst_vars; rfl) | (subst_vars; simp_all)
theorem yHV (a:Int) (k:Int) (_:0≤k∧k≤62) (ha:In64 a) (w:World):Calls Tryz.prog 181 [.int .i64 a,.int .i64 k].toArray w (Rets (vI (zV a (2 ^ (k).toNat))) (w)):=by
 refine jV (n:=20) Tryz.func181 rfl rfl rfl ?_;refine zK ?_;refine qU ?_;refine qG (zY rfl) rfl rfl rfl ?_;refine zX ?_;refine qK ?_;refine zK ?_;refine zK ?_;refine qU ?_;refine qG (qV rfl) rfl rfl rfl ?_;refine qG (qWX rfl rfl) rfl rfl rfl ?_;refine zX ?_;refine qK ?_;refine zJU rfl (by simp; omega) ?_;refine qZV ?_;refine qK ?_;refine zK ?_;refine qU ?_;refine qG (qV rfl) rfl rfl rfl ?_;refine qG (qV rfl) rfl rfl rfl ?_;refine qG (jKZ rfl rfl (by first | decide | omega) (shr_eq (by omega) (by omega))) rfl rfl rfl ?_;refine qG (zY rfl) rfl rfl rfl ?_;refine zX ?_;refine qK ?_;refine zK ?_;refine zK ?_;refine qU ?_;refine qG (qV rfl) rfl rfl rfl ?_;refine qG (qV rfl) rfl rfl rfl ?_;refine qG (opV_shl rfl rfl (by first | decide | omega) (shl_eq ha (by omega) (by omega))) rfl rfl rfl ?_;refine qG (qV rfl) rfl rfl rfl ?_;refine qG (yJK rfl rfl) rfl rfl rfl ?_;refine zX ?_;refine qK ?_;refine qUJ rfl (fun hc16 => ?_) (fun hc16 => ?_)
 ·
  have h1:¬ a / 2 ^ k.toNat * 2 ^ k.toNat=a:=by simpa using hc16
  have h2:=ceil_of_ne (Int.pow_pos (by decide)) h1;refine qU ?_;refine qG (qV rfl) rfl rfl rfl ?_;refine qG (qKG rfl rfl (zQ (shiftUp_bnd ha h1))) rfl rfl rfl ?_;refine qG (zY rfl) rfl rfl rfl ?_;refine zX ?_;refine qK ?_;refine zK ?_;refine qU ?_;refine qG (qV rfl) rfl rfl rfl ?_;refine qG (zY rfl) rfl rfl rfl ?_;refine zX ?_;refine qK ?_;refine qQJ ?_;refine kX (rs:=[.tmp 4]) rfl (resC (qQY rfl) (resN)) (congrArg (vI) (?_:_=zV a (2 ^ (k).toNat)));exact h2
 ·
  have h1:a / 2 ^ k.toNat * 2 ^ k.toNat=a:=by simpa using hc16
  have h2:=ceil_of_mul (Int.pow_pos (by decide)) h1;refine qZV ?_;refine qK ?_;refine zK ?_;refine qU ?_;refine qG (qV rfl) rfl rfl rfl ?_;refine qG (zY rfl) rfl rfl rfl ?_;refine zX ?_;refine qK ?_;refine qQJ ?_;refine kX (rs:=[.tmp 4]) rfl (resC (qQY rfl) (resN)) (congrArg (vI) (?_:_=zV a (2 ^ (k).toNat)));exact h2
theorem kQQ (a:Int) (b:Int) (ha:In64 a) (hb:0 < b) (w:World):Calls Tryz.prog 161 [.int .i64 a,.int .i64 b].toArray w (Rets (vI (a / b)) (w)):=by
 refine jV (n:=16) Tryz.func161 rfl rfl rfl ?_;refine zK ?_;have hq:=yQJ ha hb;refine qU ?_;refine qG (zY rfl) rfl rfl rfl ?_;refine zX ?_;refine qK ?_;refine zK ?_;refine qU ?_;refine qG (qV rfl) rfl rfl rfl ?_;refine qG (qV rfl) rfl rfl rfl ?_;refine qG (yVY rfl rfl (by first | decide | omega) (zQ hq)) rfl rfl rfl ?_;refine qG (zY rfl) rfl rfl rfl ?_;refine zX ?_;refine qK ?_;refine zK ?_;refine zK ?_;refine qU ?_;refine qG (qV rfl) rfl rfl rfl ?_;refine qG (qV rfl) rfl rfl rfl ?_;refine qG (zVK rfl rfl (by first | decide | omega) rfl) rfl rfl rfl ?_;refine qG (qWX rfl rfl) rfl rfl rfl ?_;refine zX ?_;refine qK ?_;refine qUJ rfl (fun hc12 => ?_) (fun hc12 => ?_)
 ·
  refine qU ?_;refine qG (qV rfl) rfl rfl rfl ?_;refine qG (yJY rfl rfl (zQ (floor_bnd ha hb (by simpa using hc12)))) rfl rfl rfl ?_;refine qG (zY rfl) rfl rfl rfl ?_;refine zX ?_;refine qK ?_;refine zK ?_;refine qU ?_;refine qG (qV rfl) rfl rfl rfl ?_;refine qG (zY rfl) rfl rfl rfl ?_;refine zX ?_;refine qK ?_;refine qQJ ?_;refine kX (rs:=[.tmp 4]) rfl (resC (qQY rfl) (resN)) (congrArg (vI) (?_:_=a / b));exact yKG hb (by simpa using hc12)
 ·
  refine qZV ?_;refine qK ?_;refine zK ?_;refine qU ?_;refine qG (qV rfl) rfl rfl rfl ?_;refine qG (zY rfl) rfl rfl rfl ?_;refine zX ?_;refine qK ?_;refine qQJ ?_;refine kX (rs:=[.tmp 4]) rfl (resC (qQY rfl) (resN)) (congrArg (vI) (?_:_=a / b));exact floor_pos hb (by simpa using hc12)
theorem kVW (a:Int) (b:Int) (ha:In64 a) (hb:0 < b) (w:World):Calls Tryz.prog 162 [.int .i64 a,.int .i64 b].toArray w (Rets (vI (zV a b)) (w)):=by
 refine jV (n:=16) Tryz.func162 rfl rfl rfl ?_;refine zK ?_;have hq:=yQJ ha hb;refine qU ?_;refine qG (zY rfl) rfl rfl rfl ?_;refine zX ?_;refine qK ?_;refine zK ?_;refine qU ?_;refine qG (qV rfl) rfl rfl rfl ?_;refine qG (qV rfl) rfl rfl rfl ?_;refine qG (yVY rfl rfl (by first | decide | omega) (zQ hq)) rfl rfl rfl ?_;refine qG (zY rfl) rfl rfl rfl ?_;refine zX ?_;refine qK ?_;refine zK ?_;refine zK ?_;refine qU ?_;refine qG (qV rfl) rfl rfl rfl ?_;refine qG (qV rfl) rfl rfl rfl ?_;refine qG (zVK rfl rfl (by first | decide | omega) rfl) rfl rfl rfl ?_;refine qG (opV_gtr rfl rfl) rfl rfl rfl ?_;refine zX ?_;refine qK ?_;refine qUJ rfl (fun hc12 => ?_) (fun hc12 => ?_)
 ·
  refine qU ?_;refine qG (qV rfl) rfl rfl rfl ?_;refine qG (qKG rfl rfl (zQ (ceil_bnd ha hb (by simpa using hc12)))) rfl rfl rfl ?_;refine qG (zY rfl) rfl rfl rfl ?_;refine zX ?_;refine qK ?_;refine zK ?_;refine qU ?_;refine qG (qV rfl) rfl rfl rfl ?_;refine qG (zY rfl) rfl rfl rfl ?_;refine zX ?_;refine qK ?_;refine qQJ ?_;refine kX (rs:=[.tmp 4]) rfl (resC (qQY rfl) (resN)) (congrArg (vI) (?_:_=zV a b));exact ceil_pos hb (by simpa using hc12)
 ·
  refine qZV ?_;refine qK ?_;refine zK ?_;refine qU ?_;refine qG (qV rfl) rfl rfl rfl ?_;refine qG (zY rfl) rfl rfl rfl ?_;refine zX ?_;refine qK ?_;refine qQJ ?_;refine kX (rs:=[.tmp 4]) rfl (resC (qQY rfl) (resN)) (congrArg (vI) (?_:_=zV a b));exact ceil_neg hb (by simpa using hc12)
theorem rMul (a0 a1:Int) (b0 b1:Int) (w:World):Calls Tryz.prog 132 [.agg #[.int .i64 a0,.int .i64 a1],.agg #[.int .i64 b0,.int .i64 b1]].toArray w (Rets (iv (Iv.mul (⟨a0,a1⟩:Iv) (⟨b0,b1⟩:Iv))) (w)):=by
 refine jV (n:=51) Tryz.func132 rfl rfl rfl ?_;refine zK ?_;refine qU ?_;refine zYK 2 rfl rfl rfl rfl ?_; intro b2;refine zYK 3 rfl rfl rfl rfl ?_; intro b3;refine qGQ 4 ze62 rfl rfl rfl ?_; intro b4;refine zX ?_;refine qK ?_;refine zK ?_;refine zK ?_;refine qU ?_;refine qG (qJJ 2 ty62 rfl rfl rfl) rfl rfl rfl ?_;refine qWG (F:=vB) (uJ en148 rfl (fun w _=>jWK _ _  w)) rfl rfl rfl ?_; intro r10 hr10;refine qG (yJJ rfl) rfl rfl rfl ?_;refine qG (qV rfl) rfl rfl rfl ?_;refine doL_split 12 rfl (fun hg12 => ?_) (fun hg12 => ?_)
 ·
  refine jQZ rfl rfl rfl ?_;refine jQZ rfl rfl rfl ?_;refine jQZ rfl rfl rfl ?_;refine qG (opV_pick_t rfl rfl rfl rfl) rfl rfl rfl ?_;refine zX ?_;refine qK ?_;refine qHK rfl (rfl) ?_;refine zK ?_;refine qU ?_;refine qG (qWQ la62 rfl rfl) rfl rfl rfl ?_;refine qJK 4 ty62 rfl rfl rfl rfl rfl rfl rfl rfl ?_;refine zX ?_;refine qK ?_;refine qQJ ?_;refine qHG ?_;refine kX (rs:=[.cell 4 62]) rfl (resC (qXQ 4 rfl rfl ty62 rfl) (resN)) (congrArg (iv) (?_:⟨_,_⟩=Iv.mul (⟨a0,a1⟩:Iv) (⟨b0,b1⟩:Iv)))
  subst_vars; first | (simp_all [Iv.mul,Iv.limited,min4,max4]; done) | (simp_all [Iv.mul,Iv.limited,min4,max4] <;> omega) | grind [Iv.mul,Iv.limited,min4,max4]
 ·
  refine qG (qJJ 3 ty62 rfl rfl rfl) rfl rfl rfl ?_;refine qWG (F:=vB) (uJ en148 rfl (fun w _=>jWK _ _  w)) rfl rfl rfl ?_; intro r14 hr14;refine qG (yJJ rfl) rfl rfl rfl ?_;refine qG (zVU rfl rfl rfl rfl) rfl rfl rfl ?_;refine zX ?_;refine qK ?_;refine qUJ rfl (fun hc16 => ?_) (fun hc16 => ?_)
  ·
   refine zK ?_;refine qU ?_;refine qG (qWQ la62 rfl rfl) rfl rfl rfl ?_;refine qJK 4 ty62 rfl rfl rfl rfl rfl rfl rfl rfl ?_;refine zX ?_;refine qK ?_;refine qQJ ?_;refine qHG ?_;refine kX (rs:=[.cell 4 62]) rfl (resC (qXQ 4 rfl rfl ty62 rfl) (resN)) (congrArg (iv) (?_:⟨_,_⟩=Iv.mul (⟨a0,a1⟩:Iv) (⟨b0,b1⟩:Iv)))
   subst_vars; first | (simp_all [Iv.mul,Iv.limited,min4,max4]; done) | (simp_all [Iv.mul,Iv.limited,min4,max4] <;> omega) | grind [Iv.mul,Iv.limited,min4,max4]
  ·
   refine qZV ?_;refine qK ?_;refine zK ?_;have ha:=uV (hr10.symm.trans (by simpa using hg12));have hb:=uV (hr14.symm.trans (by simpa using hc16));have m1:=zQV (a:=a0) (b:=b0) (by omega) (by omega);have m2:=zQV (a:=a0) (b:=b1) (by omega) (by omega);have m3:=zQV (a:=a1) (b:=b0) (by omega) (by omega);have m4:=zQV (a:=a1) (b:=b1) (by omega) (by omega);refine qWZ 23 mo (by kernel_rfl) ?_;simp only [vYK,vYX,vYU,vYW];refine jX (zH zZZ rfl) rfl rfl rfl ?_;refine jX (jZ 2 ty2 rfl rfl rfl) rfl rfl rfl ?_;refine jX (zH zZZ rfl) rfl rfl rfl ?_;refine jX (jZ 3 ty2 rfl rfl rfl) rfl rfl rfl ?_;refine jX (zQQ rfl rfl (by first | exact zQ ⟨by omega,by omega⟩ | rfl)) rfl rfl rfl ?_;refine jX (zH zZZ rfl) rfl rfl rfl ?_;refine jX (jZ 2 ty2 rfl rfl rfl) rfl rfl rfl ?_;refine jX (zH zXG rfl) rfl rfl rfl ?_;refine jX (jZ 3 ty2 rfl rfl rfl) rfl rfl rfl ?_;refine jX (zQQ rfl rfl (by first | exact zQ ⟨by omega,by omega⟩ | rfl)) rfl rfl rfl ?_;refine jX (zH zXG rfl) rfl rfl rfl ?_;refine jX (jZ 2 ty2 rfl rfl rfl) rfl rfl rfl ?_;refine jX (zH zZZ rfl) rfl rfl rfl ?_;refine jX (jZ 3 ty2 rfl rfl rfl) rfl rfl rfl ?_;refine jX (zQQ rfl rfl (by first | exact zQ ⟨by omega,by omega⟩ | rfl)) rfl rfl rfl ?_;refine jX (zH zXG rfl) rfl rfl rfl ?_;refine jX (jZ 2 ty2 rfl rfl rfl) rfl rfl rfl ?_;refine jX (zH zXG rfl) rfl rfl rfl ?_;refine jX (jZ 3 ty2 rfl rfl rfl) rfl rfl rfl ?_;refine jX (zQQ rfl rfl (by first | exact zQ ⟨by omega,by omega⟩ | rfl)) rfl rfl rfl ?_;refine jX (zY rfl) rfl rfl rfl ?_;refine jX (zY rfl) rfl rfl rfl ?_;refine jX (zY rfl) rfl rfl rfl ?_;refine zYU ?_;refine qGU ?_;refine qG (zY rfl) rfl rfl rfl ?_;refine zX ?_;refine qK ?_;refine zK ?_;refine qU ?_;refine qG (qV rfl) rfl rfl rfl ?_;refine qG (qV rfl) rfl rfl rfl ?_;refine qG (qV rfl) rfl rfl rfl ?_;refine qG (qV rfl) rfl rfl rfl ?_;refine qG (opV_min4 rfl rfl rfl rfl) rfl rfl rfl ?_;refine qWG (F:=vI) (uJ en161 rfl (fun w _=>kQQ _ _ (by unfold In64; omega) (by omega) w)) rfl rfl rfl ?_; intro r43 hr43;refine qG (qV rfl) rfl rfl rfl ?_;refine qG (qV rfl) rfl rfl rfl ?_;refine qG (qV rfl) rfl rfl rfl ?_;refine qG (qV rfl) rfl rfl rfl ?_;refine qG (opV_max4 rfl rfl rfl rfl) rfl rfl rfl ?_;refine qWG (F:=vI) (uJ en162 rfl (fun w _=>kVW _ _ (by unfold In64; omega) (by omega) w)) rfl rfl rfl ?_; intro r49 hr49;refine qWG (F:=iv) (uJ en160 rfl (fun w _=>rLimited _ _  w)) rfl rfl rfl ?_; intro r50 hr50;refine qJK 4 ty62 rfl rfl rfl rfl rfl rfl rfl rfl ?_;refine zX ?_;refine qK ?_;refine qQJ ?_;refine kX (rs:=[.cell 4 62]) rfl (resC (qXQ 4 rfl rfl ty62 rfl) (resN)) (congrArg (iv) (?_:⟨_,_⟩=Iv.mul (⟨a0,a1⟩:Iv) (⟨b0,b1⟩:Iv)))
   subst_vars; first | (simp_all [Iv.mul,Iv.limited,min4,max4]; done) | (simp_all [Iv.mul,Iv.limited,min4,max4] <;> omega) | grind [Iv.mul,Iv.limited,min4,max4]
end Go.Proofs.YtgmbkkkbfbocnaaGreat

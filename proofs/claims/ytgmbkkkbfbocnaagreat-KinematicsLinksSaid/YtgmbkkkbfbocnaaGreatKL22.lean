/- Part 22 of the texts behind the last one: rules and contracts. No condition. -/
import Derived.Test.YtgmbkkkbfbocnaaGreatKL21
open Option renaming bind_eq_some_iff → vQQ
open Option.some renaming injEq → vQZ
open Prod.mk renaming injEq → vQY
open List renaming take_succ_cons → vYK, drop_succ_cons → vYU, take_zero → vYX, drop_zero → vYW
open Go.IntKind renaming wrap → vJJ
namespace Go.Proofs.YtgmbkkkbfbocnaaGreat
open Go.Sx Go.Rx Rt Go.RowKit
namespace Tn
end Tn
open Tn
theorem zQG:zJW Tryz.prog 62 0 0=true:=by kernel_rfl
theorem ty2:tyB Tryz.prog 2 false 1=true:=by kernel_rfl
theorem zXQ:zJW Tryz.prog 62 1 1=true:=by kernel_rfl
theorem ze62:qKZ Tryz.prog 62 (.agg #[.int .i64 0,.int .i64 0]):=by unfold qKZ; kernel_rfl
theorem la62:qUX Tryz.prog 62=some ([.int .i64 0,.int .i64 0],[(0,1),(1,1)]):=by kernel_rfl
theorem ty62:tyB Tryz.prog 62 true 2=true:=by kernel_rfl
theorem en152:kU Tryz.prog 152:=qU Tryz.func152 (by kernel_rfl) (by kernel_rfl)
theorem en148:kU Tryz.prog 148:=qU Tryz.func148 (by kernel_rfl) (by kernel_rfl)
theorem en160:kU Tryz.prog 160:=qU Tryz.func160 (by kernel_rfl) (by kernel_rfl)
theorem en174:kU Tryz.prog 174:=qU Tryz.func174 (by kernel_rfl) (by kernel_rfl)
theorem mo:Tryz.prog.follows .mixedOrders=true:=by kernel_rfl
theorem en161:kU Tryz.prog 161:=qU Tryz.func161 (by kernel_rfl) (by kernel_rfl)
theorem en162:kU Tryz.prog 162:=qU Tryz.func162 (by kernel_rfl) (by kernel_rfl)
set_option maxRecDepth 100000 in
theorem iValid (a0 a1:Int) (w:World):Calls Tryz.prog 135 [.agg #[.int .i64 a0,.int .i64 a1]].toArray w (Rets (vB (Iv.valid (⟨a0,a1⟩:Iv))) (w)) :=
 zY (x:=.b (Iv.valid ⟨a0,a1⟩)) (zQ (N:=60) (ps:=[.a [.n .i64 a0,.n .i64 a1]]) jU yJ (OrL.ok (l:=([]:OrL)) trivial) ((by kernel_rfl:_=bif (decide ((-2147483648)≤a0)) then (bif (decide (a0≤a1)) then (bif (decide (a1≤2147483648)) then some (.v (.b true),[])
 else some (.v (.b false),[]))
 else some (.v (.b false),[]))
 else some (.v (.b false),[])).trans (by
 show _=some (Ret.v (.b (decide (-2147483648≤a0) && decide (a0≤a1) && decide (a1≤2147483648))),[]);cases decide (-2147483648≤a0) <;> cases decide (a0≤a1) <;> cases decide (a1≤2147483648) <;> rfl))) rfl rfl w
set_option maxRecDepth 100000 in
theorem jKU (a0 a1:Int) (w:World):Calls Tryz.prog 148 [.agg #[.int .i64 a0,.int .i64 a1]].toArray w (Rets (vB (Iv.valid (⟨a0,a1⟩:Iv))) (w)) :=
 zY (x:=.b (Iv.valid ⟨a0,a1⟩)) (zQ (N:=60) (ps:=[.a [.n .i64 a0,.n .i64 a1]]) jU yJ (OrL.ok (l:=([]:OrL)) trivial) ((by kernel_rfl:_=bif (decide ((-2147483648)≤a0)) then (bif (decide (a0≤a1)) then (bif (decide (a1≤2147483648)) then some (.v (.b true),[])
 else some (.v (.b false),[]))
 else some (.v (.b false),[]))
 else some (.v (.b false),[])).trans (by
 show _=some (Ret.v (.b (decide (-2147483648≤a0) && decide (a0≤a1) && decide (a1≤2147483648))),[]);cases decide (-2147483648≤a0) <;> cases decide (a0≤a1) <;> cases decide (a1≤2147483648) <;> rfl))) rfl rfl w
namespace Tn
noncomputable def o_iValid:List PV→Option (Bool × Ret):=fun ps=>match ps with
 | [.a a']=>(ivD a').bind fun a=>some (true,.v (.b (Iv.valid a)))
 | _=>none
theorem ok_iValid:zX Tryz.prog 135 o_iValid:=by
 intro ps r h;unfold o_iValid at h;split at h
 ·simp only [vQQ,vQZ,vQY] at h;obtain ⟨a,ha,hg,rfl⟩:=h;rw [uW ha];exact qK (qU Tryz.func135 (by kernel_rfl) (by kernel_rfl)) rfl rfl (fun w=>iValid _ _ w)
 ·cases h
noncomputable def LTn1:OrL:=(135,o_iValid) :: ([]:OrL)
theorem LTn1_ok:AllP (fun x:Nat × (List PV→Option (Bool × Ret))=>zX Tryz.prog x.1 x.2) LTn1:=⟨ok_iValid,trivial⟩
noncomputable def o_rValid:List PV→Option (Bool × Ret):=fun ps=>match ps with
 | [.a a']=>(ivD a').bind fun a=>some (true,.v (.b (Iv.valid a)))
 | _=>none
theorem ok_rValid:zX Tryz.prog 148 o_rValid:=by
 intro ps r h;unfold o_rValid at h;split at h
 ·simp only [vQQ,vQZ,vQY] at h;obtain ⟨a,ha,hg,rfl⟩:=h;rw [uW ha];exact qK (qU Tryz.func148 (by kernel_rfl) (by kernel_rfl)) rfl rfl (fun w=>jKU _ _ w)
 ·cases h
noncomputable def LTn2:OrL:=(148,o_rValid) :: LTn1
theorem jKQ:AllP (fun x:Nat × (List PV→Option (Bool × Ret))=>zX Tryz.prog x.1 x.2) LTn2:=⟨ok_rValid,LTn1_ok⟩
end Tn
set_option maxRecDepth 100000 in
theorem fClamp (a:Int) (w:World):Calls Tryz.prog 173 [.int .i64 a].toArray w (Rets (vI (uV a)) (w)) :=
 zY (x:=.n .i64 (uV a)) (zQ (N:=60) (ps:=[.n .i64 a]) jU yJ (OrL.ok (l:=LTn2) jKQ) (by kernel_rfl)) rfl rfl w
set_option maxRecDepth 100000 in
theorem rClamp (a:Int) (w:World):Calls Tryz.prog 81 [.int .i64 a].toArray w (Rets (vI (uV a)) (w)) :=
 zY (x:=.n .i64 (uV a)) (zQ (N:=60) (ps:=[.n .i64 a]) jU yJ (OrL.ok (l:=LTn2) jKQ) ((by kernel_rfl:_=some (.v (.n .i64 (max (-2147483648) (min a 2147483648))),[])).trans (by
 rw [show max (-2147483648) (min a 2147483648)=uV a by unfold uV; omega]))) rfl rfl w
namespace Tn
noncomputable def yXW:List PV→Option (Bool × Ret):=fun ps=>match ps with
 | [.n .i64 a]=>some (true,.v (.n .i64 ((uV a))))
 | _=>none
theorem ok_fClamp:zX Tryz.prog 173 yXW:=by
 intro ps r h;unfold yXW at h;split at h
 ·simp only [vQZ,vQY] at h;obtain ⟨hg,rfl⟩:=h;exact qK (qU Tryz.func173 (by kernel_rfl) (by kernel_rfl)) rfl rfl (fun w=>fClamp _ w)
 ·cases h
noncomputable def LTn3:OrL:=(173,yXW) :: LTn2
theorem LTn3_ok:AllP (fun x:Nat × (List PV→Option (Bool × Ret))=>zX Tryz.prog x.1 x.2) LTn3:=⟨ok_fClamp,jKQ⟩
noncomputable def yUH:List PV→Option (Bool × Ret):=fun ps=>match ps with
 | [.n .i64 a]=>some (true,.v (.n .i64 ((uV a))))
 | _=>none
theorem ok_rClamp:zX Tryz.prog 81 yUH:=by
 intro ps r h;unfold yUH at h;split at h
 ·simp only [vQZ,vQY] at h;obtain ⟨hg,rfl⟩:=h;exact qK (qU Tryz.func81 (by kernel_rfl) (by kernel_rfl)) rfl rfl (fun w=>rClamp _ w)
 ·cases h
noncomputable def LTn4:OrL:=(81,yUH) :: LTn3
theorem jJH:AllP (fun x:Nat × (List PV→Option (Bool × Ret))=>zX Tryz.prog x.1 x.2) LTn4:=⟨ok_rClamp,LTn3_ok⟩
end Tn
set_option maxRecDepth 100000 in
theorem iLimited (lo:Int) (hi:Int) (w:World):Calls Tryz.prog 152 [.int .i64 lo,.int .i64 hi].toArray w (Rets (iv (Iv.limited lo hi)) (w)) :=
 zY (x:=.a (ivC (Iv.limited lo hi))) (zQ (N:=60) (ps:=[.n .i64 lo,.n .i64 hi]) jU yJ (OrL.ok (l:=LTn4) jJH) (by kernel_rfl)) rfl rfl w
set_option maxRecDepth 100000 in
theorem iOf (x:Int) (w:World):Calls Tryz.prog 122 [.int .i64 x].toArray w (Rets (iv (Iv.of x)) (w)) :=
 zY (x:=.a (ivC (Iv.of x))) (zQ (N:=60) (ps:=[.n .i64 x]) jU yJ (OrL.ok (l:=LTn4) jJH) (by kernel_rfl)) rfl rfl w
namespace Tn
noncomputable def zVY:List PV→Option (Bool × Ret):=fun ps=>match ps with
 | [.n .i64 a,.n .i64 b]=>some (true,.v (.a (ivC (Iv.limited a b))))
 | _=>none
theorem ok_iLimited:zX Tryz.prog 152 zVY:=by
 intro ps r h;unfold zVY at h;split at h
 ·simp only [vQZ,vQY] at h;obtain ⟨hg,rfl⟩:=h;exact qK (qU Tryz.func152 (by kernel_rfl) (by kernel_rfl)) rfl rfl (fun w=>iLimited _ _ w)
 ·cases h
noncomputable def LTn5:OrL:=(152,zVY) :: LTn4
theorem jJG:AllP (fun x:Nat × (List PV→Option (Bool × Ret))=>zX Tryz.prog x.1 x.2) LTn5:=⟨ok_iLimited,jJH⟩
end Tn
set_option maxRecDepth 100000 in
theorem rLimited (lo:Int) (hi:Int) (w:World):Calls Tryz.prog 160 [.int .i64 lo,.int .i64 hi].toArray w (Rets (iv (Iv.limited lo hi)) (w)) :=
 zY (x:=.a (ivC (Iv.limited lo hi))) (zQ (N:=60) (ps:=[.n .i64 lo,.n .i64 hi]) jU yJ (OrL.ok (l:=LTn5) jJG) (by kernel_rfl)) rfl rfl w
set_option maxRecDepth 100000 in
theorem rOf (x:Int) (w:World):Calls Tryz.prog 34 [.int .i64 x].toArray w (Rets (iv (Iv.of x)) (w)) :=
 zY (x:=.a (ivC (Iv.of x))) (zQ (N:=60) (ps:=[.n .i64 x]) jU yJ (OrL.ok (l:=LTn5) jJG) (by kernel_rfl)) rfl rfl w
namespace Tn
noncomputable def zWW:List PV→Option (Bool × Ret):=fun ps=>match ps with
 | [.n .i64 a,.n .i64 b]=>some (true,.v (.a (ivC (Iv.limited a b))))
 | _=>none
theorem ok_rLimited:zX Tryz.prog 160 zWW:=by
 intro ps r h;unfold zWW at h;split at h
 ·simp only [vQZ,vQY] at h;obtain ⟨hg,rfl⟩:=h;exact qK (qU Tryz.func160 (by kernel_rfl) (by kernel_rfl)) rfl rfl (fun w=>rLimited _ _ w)
 ·cases h
noncomputable def LTn6:OrL:=(160,zWW) :: LTn5
theorem zQV:AllP (fun x:Nat × (List PV→Option (Bool × Ret))=>zX Tryz.prog x.1 x.2) LTn6:=⟨ok_rLimited,jJG⟩
end Tn
set_option maxRecDepth 100000 in
theorem iNeg (a0 a1:Int) (w:World):Calls Tryz.prog 184 [.agg #[.int .i64 a0,.int .i64 a1]].toArray w (Rets (iv (Iv.neg (⟨a0,a1⟩:Iv))) (w)) :=
 zY (x:=.a (ivC (Iv.neg ⟨a0,a1⟩))) (zQ (N:=60) (ps:=[.a [.n .i64 a0,.n .i64 a1]]) jU yJ (OrL.ok (l:=LTn6) zQV) ((by kernel_rfl:_=bif Iv.valid (Iv.mk a0 a1) then some (.v (.a [.n .i64 (vJJ .i64 (0 - a1)),.n .i64 (vJJ .i64 (0 - a0))]),[])
 else some (.v (.a [.n .i64 0,.n .i64 0]),[])).trans (by
 unfold Iv.neg;cases ha:Iv.valid (Iv.mk a0 a1) with
 | false=>rfl
 | true =>
  have va:=kW ha;rw [zZ (show -9223372036854775808≤0 - a1∧0 - a1≤9223372036854775807 by omega),zZ (show -9223372036854775808≤0 - a0∧0 - a0≤9223372036854775807 by omega),show 0 - a1 = -a1 by omega,show 0 - a0 = -a0 by omega]; rfl))) rfl rfl w
set_option maxRecDepth 100000 in
theorem rNeg (a0 a1:Int) (w:World):Calls Tryz.prog 171 [.agg #[.int .i64 a0,.int .i64 a1]].toArray w (Rets (iv (Iv.neg (⟨a0,a1⟩:Iv))) (w)) :=
 zY (x:=.a (ivC (Iv.neg ⟨a0,a1⟩))) (zQ (N:=60) (ps:=[.a [.n .i64 a0,.n .i64 a1]]) jU yJ (OrL.ok (l:=LTn6) zQV) ((by kernel_rfl:_=bif Iv.valid (Iv.mk a0 a1) then some (.v (.a [.n .i64 (vJJ .i64 (0 - a1)),.n .i64 (vJJ .i64 (0 - a0))]),[])
 else some (.v (.a [.n .i64 0,.n .i64 0]),[])).trans (by
 unfold Iv.neg;cases ha:Iv.valid (Iv.mk a0 a1) with
 | false=>rfl
 | true =>
  have va:=kW ha;rw [zZ (show -9223372036854775808≤0 - a1∧0 - a1≤9223372036854775807 by omega),zZ (show -9223372036854775808≤0 - a0∧0 - a0≤9223372036854775807 by omega),show 0 - a1 = -a1 by omega,show 0 - a0 = -a0 by omega]; rfl))) rfl rfl w
set_option maxRecDepth 100000 in
theorem iValid2 (a0 a1:Int) (b0 b1:Int) (w:World):Calls Tryz.prog 174 [.agg #[.int .i64 a0,.int .i64 a1],.agg #[.int .i64 b0,.int .i64 b1]].toArray w (Rets (vB ((Iv.valid (⟨a0,a1⟩:Iv) && Iv.valid (⟨b0,b1⟩:Iv)))) (w)) :=
 zY (x:=.b (Iv.valid ⟨a0,a1⟩ && Iv.valid ⟨b0,b1⟩)) (zQ (N:=60) (ps:=[.a [.n .i64 a0,.n .i64 a1],.a [.n .i64 b0,.n .i64 b1]]) jU yJ (OrL.ok (l:=LTn6) zQV) ((by kernel_rfl:_=bif Iv.valid (Iv.mk a0 a1) then (bif Iv.valid (Iv.mk b0 b1) then some (.v (.b true),[])
 else some (.v (.b false),[]))
 else some (.v (.b false),[])).trans (by
 cases Iv.valid (Iv.mk a0 a1) <;> cases Iv.valid (Iv.mk b0 b1) <;> rfl))) rfl rfl w
set_option maxRecDepth 100000 in
theorem rAdd (a0 a1:Int) (b0 b1:Int) (w:World):Calls Tryz.prog 131 [.agg #[.int .i64 a0,.int .i64 a1],.agg #[.int .i64 b0,.int .i64 b1]].toArray w (Rets (iv (Iv.add (⟨a0,a1⟩:Iv) (⟨b0,b1⟩:Iv))) (w)) :=
 zY (x:=.a (ivC (Iv.add ⟨a0,a1⟩ ⟨b0,b1⟩))) (zQ (N:=60) (ps:=[.a [.n .i64 a0,.n .i64 a1],.a [.n .i64 b0,.n .i64 b1]]) jU yJ (OrL.ok (l:=LTn6) zQV) ((by kernel_rfl:_=bif Iv.valid (Iv.mk a0 a1) then (bif Iv.valid (Iv.mk b0 b1) then some (.v (.a (ivC (Iv.limited (vJJ .i64 (a0 + b0)) (vJJ .i64 (a1 + b1))))),[])
 else some (.v (.a [.n .i64 0,.n .i64 0]),[]))
 else some (.v (.a [.n .i64 0,.n .i64 0]),[])).trans (by
 unfold Iv.add;cases ha:Iv.valid (Iv.mk a0 a1) with
 | false=>rfl
 | true =>
  cases hb:Iv.valid (Iv.mk b0 b1) with
  | false=>rfl
  | true =>
   have va:=kW ha;have vb:=kW hb;rw [zZ (show -9223372036854775808≤a0 + b0∧a0 + b0≤9223372036854775807 by omega),zZ (show -9223372036854775808≤a1 + b1∧a1 + b1≤9223372036854775807 by omega)]; rfl))) rfl rfl w
set_option maxRecDepth 100000 in
theorem iAdd (a0 a1:Int) (b0 b1:Int) (w:World):Calls Tryz.prog 156 [.agg #[.int .i64 a0,.int .i64 a1],.agg #[.int .i64 b0,.int .i64 b1]].toArray w (Rets (iv (Iv.add (⟨a0,a1⟩:Iv) (⟨b0,b1⟩:Iv))) (w)) :=
 zY (x:=.a (ivC (Iv.add ⟨a0,a1⟩ ⟨b0,b1⟩))) (zQ (N:=60) (ps:=[.a [.n .i64 a0,.n .i64 a1],.a [.n .i64 b0,.n .i64 b1]]) jU yJ (OrL.ok (l:=LTn6) zQV) ((by kernel_rfl:_=bif Iv.valid (Iv.mk a0 a1) then (bif Iv.valid (Iv.mk b0 b1) then some (.v (.a (ivC (Iv.limited (vJJ .i64 (a0 + b0)) (vJJ .i64 (a1 + b1))))),[])
 else some (.v (.a [.n .i64 0,.n .i64 0]),[]))
 else some (.v (.a [.n .i64 0,.n .i64 0]),[])).trans (by
 unfold Iv.add;cases ha:Iv.valid (Iv.mk a0 a1) with
 | false=>rfl
 | true =>
  cases hb:Iv.valid (Iv.mk b0 b1) with
  | false=>rfl
  | true =>
   have va:=kW ha;have vb:=kW hb;rw [zZ (show -9223372036854775808≤a0 + b0∧a0 + b0≤9223372036854775807 by omega),zZ (show -9223372036854775808≤a1 + b1∧a1 + b1≤9223372036854775807 by omega)]; rfl))) rfl rfl w
set_option maxRecDepth 100000 in
theorem rHull (a0 a1:Int) (b0 b1:Int) (w:World):Calls Tryz.prog 185 [.agg #[.int .i64 a0,.int .i64 a1],.agg #[.int .i64 b0,.int .i64 b1]].toArray w (Rets (iv (Iv.hull (⟨a0,a1⟩:Iv) (⟨b0,b1⟩:Iv))) (w)) :=
 zY (x:=.a (ivC (Iv.hull ⟨a0,a1⟩ ⟨b0,b1⟩))) (zQ (N:=60) (ps:=[.a [.n .i64 a0,.n .i64 a1],.a [.n .i64 b0,.n .i64 b1]]) jU yJ (OrL.ok (l:=LTn6) zQV) ((by kernel_rfl:_=bif Iv.valid (Iv.mk a0 a1) then (bif Iv.valid (Iv.mk b0 b1) then some (.v (.a [.n .i64 (min a0 b0),.n .i64 (max a1 b1)]),[])
 else some (.v (.a [.n .i64 0,.n .i64 0]),[]))
 else some (.v (.a [.n .i64 0,.n .i64 0]),[])).trans (by
 unfold Iv.hull;cases ha:Iv.valid (Iv.mk a0 a1) with
 | false=>rfl
 | true =>
  cases hb:Iv.valid (Iv.mk b0 b1) with
  | false=>rfl
  | true =>
   have va:=kW ha;have vb:=kW hb
   rfl))) rfl rfl w
set_option maxRecDepth 100000 in
theorem iHull (a0 a1:Int) (b0 b1:Int) (w:World):Calls Tryz.prog 195 [.agg #[.int .i64 a0,.int .i64 a1],.agg #[.int .i64 b0,.int .i64 b1]].toArray w (Rets (iv (Iv.hull (⟨a0,a1⟩:Iv) (⟨b0,b1⟩:Iv))) (w)) :=
 zY (x:=.a (ivC (Iv.hull ⟨a0,a1⟩ ⟨b0,b1⟩))) (zQ (N:=60) (ps:=[.a [.n .i64 a0,.n .i64 a1],.a [.n .i64 b0,.n .i64 b1]]) jU yJ (OrL.ok (l:=LTn6) zQV) ((by kernel_rfl:_=bif Iv.valid (Iv.mk a0 a1) then (bif Iv.valid (Iv.mk b0 b1) then some (.v (.a [.n .i64 (min a0 b0),.n .i64 (max a1 b1)]),[])
 else some (.v (.a [.n .i64 0,.n .i64 0]),[]))
 else some (.v (.a [.n .i64 0,.n .i64 0]),[])).trans (by
 unfold Iv.hull;cases ha:Iv.valid (Iv.mk a0 a1) with
 | false=>rfl
 | true =>
  cases hb:Iv.valid (Iv.mk b0 b1) with
  | false=>rfl
  | true =>
   have va:=kW ha;have vb:=kW hb
   rfl))) rfl rfl w
set_option maxRecDepth 100000 in
theorem iWidth (a0 a1:Int) (w:World):Calls Tryz.prog 194 [.agg #[.int .i64 a0,.int .i64 a1]].toArray w (Rets (vI (Iv.width (⟨a0,a1⟩:Iv))) (w)) :=
 zY (x:=.n .i64 (Iv.width ⟨a0,a1⟩)) (zQ (N:=60) (ps:=[.a [.n .i64 a0,.n .i64 a1]]) jU yJ (OrL.ok (l:=LTn6) zQV) ((by kernel_rfl:_=bif Iv.valid (Iv.mk a0 a1) then some (.v (.n .i64 (vJJ .i64 (a1 - a0))),[])
 else some (.v (.n .i64 0),[])).trans (by
 unfold Iv.width;cases ha:Iv.valid (Iv.mk a0 a1) with
 | false=>rfl
 | true =>
  have va:=kW ha;rw [zZ (show -9223372036854775808≤a1 - a0∧a1 - a0≤9223372036854775807 by omega)]; rfl))) rfl rfl w
set_option maxRecDepth 100000 in
theorem iHas (a0 a1:Int) (x:Int) (w:World):Calls Tryz.prog 201 [.agg #[.int .i64 a0,.int .i64 a1],.int .i64 x].toArray w (Rets (vB (Iv.has (⟨a0,a1⟩:Iv) x)) (w)) :=
 zY (x:=.b (Iv.has ⟨a0,a1⟩ x)) (zQ (N:=60) (ps:=[.a [.n .i64 a0,.n .i64 a1],.n .i64 x]) jU yJ (OrL.ok (l:=LTn6) zQV) ((by kernel_rfl:_=bif Iv.valid (Iv.mk a0 a1) then (bif (decide (a0≤x)) then (bif (decide (x≤a1)) then some (.v (.b true),[])
 else some (.v (.b false),[]))
 else some (.v (.b false),[]))
 else some (.v (.b false),[])).trans (by
 show _=some (Ret.v (.b (Iv.valid (Iv.mk a0 a1) && decide (a0≤x) && decide (x≤a1))),[]);cases Iv.valid (Iv.mk a0 a1) <;> cases decide (a0≤x) <;> cases decide (x≤a1) <;> rfl))) rfl rfl w
theorem zVG (a:Int) (k:Int) (h0:0≤k∧k≤62) (w:World):Calls Tryz.prog 180 [.int .i64 a,.int .i64 k].toArray w (Rets (vI (a / 2 ^ (k).toNat)) (w)):=by
 refine yG (n:=11) Tryz.func180 rfl rfl rfl ?_;refine zJ ?_;refine qJ ?_;refine qW (qH rfl) rfl rfl rfl ?_;refine zK ?_;refine qZ ?_;refine zJ ?_;refine zJ ?_;refine qJ ?_;refine qW (qV rfl) rfl rfl rfl ?_;refine qW (qWU rfl rfl) rfl rfl rfl ?_;refine zK ?_;refine qZ ?_;refine zJY rfl (by simp; omega) ?_;refine qQJ ?_;refine qZ ?_;refine zJ ?_;refine qJ ?_;refine qW (qV rfl) rfl rfl rfl ?_;refine qW (qV rfl) rfl rfl rfl ?_;refine qW (jZX rfl rfl (by first | decide | omega) (shr_eq (by omega) (by omega))) rfl rfl rfl ?_;refine qW (qH rfl) rfl rfl rfl ?_;refine zK ?_;refine qZ ?_;refine uZ ?_;refine jW (rs:=[.tmp 4]) rfl (resC (kG rfl) (resN)) (congrArg (vI) (?_:_=a / 2 ^ (k).toNat))
 first | rfl | (subst_vars; rfl) | (subst_vars; simp_all)
theorem yVK (a:Int) (k:Int) (h0:0≤k∧k≤62) (ha:In64 a) (w:World):Calls Tryz.prog 181 [.int .i64 a,.int .i64 k].toArray w (Rets (vI (zU a (2 ^ (k).toNat))) (w)):=by
 refine yG (n:=20) Tryz.func181 rfl rfl rfl ?_;refine zJ ?_;refine qJ ?_;refine qW (qH rfl) rfl rfl rfl ?_;refine zK ?_;refine qZ ?_;refine zJ ?_;refine zJ ?_;refine qJ ?_;refine qW (qV rfl) rfl rfl rfl ?_;refine qW (qWU rfl rfl) rfl rfl rfl ?_;refine zK ?_;refine qZ ?_;refine zJY rfl (by simp; omega) ?_;refine qQJ ?_;refine qZ ?_;refine zJ ?_;refine qJ ?_;refine qW (qV rfl) rfl rfl rfl ?_;refine qW (qV rfl) rfl rfl rfl ?_;refine qW (jZX rfl rfl (by first | decide | omega) (shr_eq (by omega) (by omega))) rfl rfl rfl ?_;refine qW (qH rfl) rfl rfl rfl ?_;refine zK ?_;refine qZ ?_;refine zJ ?_;refine zJ ?_;refine qJ ?_;refine qW (qV rfl) rfl rfl rfl ?_;refine qW (qV rfl) rfl rfl rfl ?_;refine qW (opV_shl rfl rfl (by first | decide | omega) (shl_eq ha (by omega) (by omega))) rfl rfl rfl ?_;refine qW (qV rfl) rfl rfl rfl ?_;refine qW (yZY rfl rfl) rfl rfl rfl ?_;refine zK ?_;refine qZ ?_;refine qKK rfl (fun hc16 => ?_) (fun hc16 => ?_)
 ·
  have h1:¬ a / 2 ^ k.toNat * 2 ^ k.toNat=a:=by simpa using hc16
  have h2:=ceil_of_ne (Int.pow_pos (by decide)) h1;refine qJ ?_;refine qW (qV rfl) rfl rfl rfl ?_;refine qW (qJG rfl rfl (zZ (shiftUp_bnd ha h1))) rfl rfl rfl ?_;refine qW (qH rfl) rfl rfl rfl ?_;refine zK ?_;refine qZ ?_;refine zJ ?_;refine qJ ?_;refine qW (qV rfl) rfl rfl rfl ?_;refine qW (qH rfl) rfl rfl rfl ?_;refine zK ?_;refine qZ ?_;refine uZ ?_;refine jW (rs:=[.tmp 4]) rfl (resC (kG rfl) (resN)) (congrArg (vI) (?_:_=zU a (2 ^ (k).toNat)));exact h2
 ·
  have h1:a / 2 ^ k.toNat * 2 ^ k.toNat=a:=by simpa using hc16
  have h2:=ceil_of_mul (Int.pow_pos (by decide)) h1;refine qQJ ?_;refine qZ ?_;refine zJ ?_;refine qJ ?_;refine qW (qV rfl) rfl rfl rfl ?_;refine qW (qH rfl) rfl rfl rfl ?_;refine zK ?_;refine qZ ?_;refine uZ ?_;refine jW (rs:=[.tmp 4]) rfl (resC (kG rfl) (resN)) (congrArg (vI) (?_:_=zU a (2 ^ (k).toNat)));exact h2
theorem jWG (a:Int) (b:Int) (ha:In64 a) (hb:0 < b) (w:World):Calls Tryz.prog 161 [.int .i64 a,.int .i64 b].toArray w (Rets (vI (a / b)) (w)):=by
 refine yG (n:=16) Tryz.func161 rfl rfl rfl ?_;refine zJ ?_;have hq:=zGG ha hb;refine qJ ?_;refine qW (qH rfl) rfl rfl rfl ?_;refine zK ?_;refine qZ ?_;refine zJ ?_;refine qJ ?_;refine qW (qV rfl) rfl rfl rfl ?_;refine qW (qV rfl) rfl rfl rfl ?_;refine qW (yUU rfl rfl (by first | decide | omega) (zZ hq)) rfl rfl rfl ?_;refine qW (qH rfl) rfl rfl rfl ?_;refine zK ?_;refine qZ ?_;refine zJ ?_;refine zJ ?_;refine qJ ?_;refine qW (qV rfl) rfl rfl rfl ?_;refine qW (qV rfl) rfl rfl rfl ?_;refine qW (zWJ rfl rfl (by first | decide | omega) rfl) rfl rfl rfl ?_;refine qW (qWU rfl rfl) rfl rfl rfl ?_;refine zK ?_;refine qZ ?_;refine qKK rfl (fun hc12 => ?_) (fun hc12 => ?_)
 ·
  refine qJ ?_;refine qW (qV rfl) rfl rfl rfl ?_;refine qW (yZQ rfl rfl (zZ (floor_bnd ha hb (by simpa using hc12)))) rfl rfl rfl ?_;refine qW (qH rfl) rfl rfl rfl ?_;refine zK ?_;refine qZ ?_;refine zJ ?_;refine qJ ?_;refine qW (qV rfl) rfl rfl rfl ?_;refine qW (qH rfl) rfl rfl rfl ?_;refine zK ?_;refine qZ ?_;refine uZ ?_;refine jW (rs:=[.tmp 4]) rfl (resC (kG rfl) (resN)) (congrArg (vI) (?_:_=a / b));exact yYW hb (by simpa using hc12)
 ·
  refine qQJ ?_;refine qZ ?_;refine zJ ?_;refine qJ ?_;refine qW (qV rfl) rfl rfl rfl ?_;refine qW (qH rfl) rfl rfl rfl ?_;refine zK ?_;refine qZ ?_;refine uZ ?_;refine jW (rs:=[.tmp 4]) rfl (resC (kG rfl) (resN)) (congrArg (vI) (?_:_=a / b));exact floor_pos hb (by simpa using hc12)
theorem kJV (a:Int) (b:Int) (ha:In64 a) (hb:0 < b) (w:World):Calls Tryz.prog 162 [.int .i64 a,.int .i64 b].toArray w (Rets (vI (zU a b)) (w)):=by
 refine yG (n:=16) Tryz.func162 rfl rfl rfl ?_;refine zJ ?_;have hq:=zGG ha hb;refine qJ ?_;refine qW (qH rfl) rfl rfl rfl ?_;refine zK ?_;refine qZ ?_;refine zJ ?_;refine qJ ?_;refine qW (qV rfl) rfl rfl rfl ?_;refine qW (qV rfl) rfl rfl rfl ?_;refine qW (yUU rfl rfl (by first | decide | omega) (zZ hq)) rfl rfl rfl ?_;refine qW (qH rfl) rfl rfl rfl ?_;refine zK ?_;refine qZ ?_;refine zJ ?_;refine zJ ?_;refine qJ ?_;refine qW (qV rfl) rfl rfl rfl ?_;refine qW (qV rfl) rfl rfl rfl ?_;refine qW (zWJ rfl rfl (by first | decide | omega) rfl) rfl rfl rfl ?_;refine qW (opV_gtr rfl rfl) rfl rfl rfl ?_;refine zK ?_;refine qZ ?_;refine qKK rfl (fun hc12 => ?_) (fun hc12 => ?_)
 ·
  refine qJ ?_;refine qW (qV rfl) rfl rfl rfl ?_;refine qW (qJG rfl rfl (zZ (ceil_bnd ha hb (by simpa using hc12)))) rfl rfl rfl ?_;refine qW (qH rfl) rfl rfl rfl ?_;refine zK ?_;refine qZ ?_;refine zJ ?_;refine qJ ?_;refine qW (qV rfl) rfl rfl rfl ?_;refine qW (qH rfl) rfl rfl rfl ?_;refine zK ?_;refine qZ ?_;refine uZ ?_;refine jW (rs:=[.tmp 4]) rfl (resC (kG rfl) (resN)) (congrArg (vI) (?_:_=zU a b));exact ceil_pos hb (by simpa using hc12)
 ·
  refine qQJ ?_;refine qZ ?_;refine zJ ?_;refine qJ ?_;refine qW (qV rfl) rfl rfl rfl ?_;refine qW (qH rfl) rfl rfl rfl ?_;refine zK ?_;refine qZ ?_;refine uZ ?_;refine jW (rs:=[.tmp 4]) rfl (resC (kG rfl) (resN)) (congrArg (vI) (?_:_=zU a b));exact ceil_neg hb (by simpa using hc12)
theorem rMul (a0 a1:Int) (b0 b1:Int) (w:World):Calls Tryz.prog 132 [.agg #[.int .i64 a0,.int .i64 a1],.agg #[.int .i64 b0,.int .i64 b1]].toArray w (Rets (iv (Iv.mul (⟨a0,a1⟩:Iv) (⟨b0,b1⟩:Iv))) (w)):=by
 refine yG (n:=51) Tryz.func132 rfl rfl rfl ?_;refine zJ ?_;refine qJ ?_;refine zYJ 2 rfl rfl rfl rfl ?_; intro b2;refine zYJ 3 rfl rfl rfl rfl ?_; intro b3;refine qWZ 4 ze62 rfl rfl rfl ?_; intro b4;refine zK ?_;refine qZ ?_;refine zJ ?_;refine zJ ?_;refine qJ ?_;refine qW (qZQ 2 ty62 rfl rfl rfl) rfl rfl rfl ?_;refine qXJ (F:=vB) (jX en148 rfl (fun w _=>jKU _ _  w)) rfl rfl rfl ?_; intro r10 hr10;refine qW (yZZ rfl) rfl rfl rfl ?_;refine qW (qV rfl) rfl rfl rfl ?_;refine doL_split 12 rfl (fun hg12 => ?_) (fun hg12 => ?_)
 ·
  refine yVW rfl rfl rfl ?_;refine yVW rfl rfl rfl ?_;refine yVW rfl rfl rfl ?_;refine qW (opV_pick_t rfl rfl rfl rfl) rfl rfl rfl ?_;refine zK ?_;refine qZ ?_;refine qHQ rfl (rfl) ?_;refine zJ ?_;refine qJ ?_;refine qW (qYG la62 rfl rfl) rfl rfl rfl ?_;refine qZK 4 ty62 rfl rfl rfl rfl rfl rfl rfl rfl ?_;refine zK ?_;refine qZ ?_;refine uZ ?_;refine qHK ?_;refine jW (rs:=[.cell 4 62]) rfl (resC (qUZ 4 rfl rfl ty62 rfl) (resN)) (congrArg (iv) (?_:⟨_,_⟩=Iv.mul (⟨a0,a1⟩:Iv) (⟨b0,b1⟩:Iv)))
  subst_vars; first | (simp_all [Iv.mul,Iv.limited,min4,max4]; done) | (simp_all [Iv.mul,Iv.limited,min4,max4] <;> omega) | grind [Iv.mul,Iv.limited,min4,max4]
 ·
  refine qW (qZQ 3 ty62 rfl rfl rfl) rfl rfl rfl ?_;refine qXJ (F:=vB) (jX en148 rfl (fun w _=>jKU _ _  w)) rfl rfl rfl ?_; intro r14 hr14;refine qW (yZZ rfl) rfl rfl rfl ?_;refine qW (zWK rfl rfl rfl rfl) rfl rfl rfl ?_;refine zK ?_;refine qZ ?_;refine qKK rfl (fun hc16 => ?_) (fun hc16 => ?_)
  ·
   refine zJ ?_;refine qJ ?_;refine qW (qYG la62 rfl rfl) rfl rfl rfl ?_;refine qZK 4 ty62 rfl rfl rfl rfl rfl rfl rfl rfl ?_;refine zK ?_;refine qZ ?_;refine uZ ?_;refine qHK ?_;refine jW (rs:=[.cell 4 62]) rfl (resC (qUZ 4 rfl rfl ty62 rfl) (resN)) (congrArg (iv) (?_:⟨_,_⟩=Iv.mul (⟨a0,a1⟩:Iv) (⟨b0,b1⟩:Iv)))
   subst_vars; first | (simp_all [Iv.mul,Iv.limited,min4,max4]; done) | (simp_all [Iv.mul,Iv.limited,min4,max4] <;> omega) | grind [Iv.mul,Iv.limited,min4,max4]
  ·
   refine qQJ ?_;refine qZ ?_;refine zJ ?_;have ha:=kW (hr10.symm.trans (by simpa using hg12));have hb:=kW (hr14.symm.trans (by simpa using hc16));have m1:=zQJ (a:=a0) (b:=b0) (by omega) (by omega);have m2:=zQJ (a:=a0) (b:=b1) (by omega) (by omega);have m3:=zQJ (a:=a1) (b:=b0) (by omega) (by omega);have m4:=zQJ (a:=a1) (b:=b1) (by omega) (by omega);refine qUV 23 mo (by kernel_rfl) ?_;simp only [vYK,vYX,vYU,vYW];refine yW (zW zQG rfl) rfl rfl rfl ?_;refine yW (yX 2 ty2 rfl rfl rfl) rfl rfl rfl ?_;refine yW (zW zQG rfl) rfl rfl rfl ?_;refine yW (yX 3 ty2 rfl rfl rfl) rfl rfl rfl ?_;refine yW (qHX rfl rfl (by first | exact zZ ⟨by omega,by omega⟩ | rfl)) rfl rfl rfl ?_;refine yW (zW zQG rfl) rfl rfl rfl ?_;refine yW (yX 2 ty2 rfl rfl rfl) rfl rfl rfl ?_;refine yW (zW zXQ rfl) rfl rfl rfl ?_;refine yW (yX 3 ty2 rfl rfl rfl) rfl rfl rfl ?_;refine yW (qHX rfl rfl (by first | exact zZ ⟨by omega,by omega⟩ | rfl)) rfl rfl rfl ?_;refine yW (zW zXQ rfl) rfl rfl rfl ?_;refine yW (yX 2 ty2 rfl rfl rfl) rfl rfl rfl ?_;refine yW (zW zQG rfl) rfl rfl rfl ?_;refine yW (yX 3 ty2 rfl rfl rfl) rfl rfl rfl ?_;refine yW (qHX rfl rfl (by first | exact zZ ⟨by omega,by omega⟩ | rfl)) rfl rfl rfl ?_;refine yW (zW zXQ rfl) rfl rfl rfl ?_;refine yW (yX 2 ty2 rfl rfl rfl) rfl rfl rfl ?_;refine yW (zW zXQ rfl) rfl rfl rfl ?_;refine yW (yX 3 ty2 rfl rfl rfl) rfl rfl rfl ?_;refine yW (qHX rfl rfl (by first | exact zZ ⟨by omega,by omega⟩ | rfl)) rfl rfl rfl ?_;refine yW (qH rfl) rfl rfl rfl ?_;refine yW (qH rfl) rfl rfl rfl ?_;refine yW (qH rfl) rfl rfl rfl ?_;refine zQU ?_;refine qWV ?_;refine qW (qH rfl) rfl rfl rfl ?_;refine zK ?_;refine qZ ?_;refine zJ ?_;refine qJ ?_;refine qW (qV rfl) rfl rfl rfl ?_;refine qW (qV rfl) rfl rfl rfl ?_;refine qW (qV rfl) rfl rfl rfl ?_;refine qW (qV rfl) rfl rfl rfl ?_;refine qW (opV_min4 rfl rfl rfl rfl) rfl rfl rfl ?_;refine qXJ (F:=vI) (jX en161 rfl (fun w _=>jWG _ _ (by unfold In64; omega) (by omega) w)) rfl rfl rfl ?_; intro r43 hr43;refine qW (qV rfl) rfl rfl rfl ?_;refine qW (qV rfl) rfl rfl rfl ?_;refine qW (qV rfl) rfl rfl rfl ?_;refine qW (qV rfl) rfl rfl rfl ?_;refine qW (opV_max4 rfl rfl rfl rfl) rfl rfl rfl ?_;refine qXJ (F:=vI) (jX en162 rfl (fun w _=>kJV _ _ (by unfold In64; omega) (by omega) w)) rfl rfl rfl ?_; intro r49 hr49;refine qXJ (F:=iv) (jX en160 rfl (fun w _=>rLimited _ _  w)) rfl rfl rfl ?_; intro r50 hr50;refine qZK 4 ty62 rfl rfl rfl rfl rfl rfl rfl rfl ?_;refine zK ?_;refine qZ ?_;refine uZ ?_;refine jW (rs:=[.cell 4 62]) rfl (resC (qUZ 4 rfl rfl ty62 rfl) (resN)) (congrArg (iv) (?_:⟨_,_⟩=Iv.mul (⟨a0,a1⟩:Iv) (⟨b0,b1⟩:Iv)))
   subst_vars; first | (simp_all [Iv.mul,Iv.limited,min4,max4]; done) | (simp_all [Iv.mul,Iv.limited,min4,max4] <;> omega) | grind [Iv.mul,Iv.limited,min4,max4]
end Go.Proofs.YtgmbkkkbfbocnaaGreat

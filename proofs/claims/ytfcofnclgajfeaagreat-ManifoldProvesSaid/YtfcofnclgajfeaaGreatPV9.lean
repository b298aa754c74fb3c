/- Part 9 of the texts behind the last one: rules and contracts. No condition. -/
import Derived.Test.YtfcofnclgajfeaaGreatPV8
open Option renaming bind_eq_some_iff → vQQ
open Option.some renaming injEq → vQZ
open Prod.mk renaming injEq → vQY
open Bool renaming and_eq_true → vQJ, and_self → vZJ, true_and → vZH
open List renaming take_succ_cons → vYK, drop_succ_cons → vYU, take_zero → vYX, drop_zero → vYW
open Go.IntKind renaming wrap → vJJ
namespace Go.Proofs.YtfcofnclgajfeaaGreat
open Go.Sx Go.Rx Rt Go.RowKit
namespace Tn
end Tn
open Tn
theorem qWI:qGE Tryz.prog 50 0 0=true:=by kernel_rfl
theorem ty2:tyB Tryz.prog 2 false 1=true:=by kernel_rfl
theorem zQE:qGE Tryz.prog 50 1 1=true:=by kernel_rfl
theorem ze50:qYQ Tryz.prog 50 (.agg #[.int .i64 0,.int .i64 0]):=by unfold qYQ; kernel_rfl
theorem la50:qKC Tryz.prog 50=some ([.int .i64 0,.int .i64 0],[(0,1),(1,1)]):=by kernel_rfl
theorem ty50:tyB Tryz.prog 50 true 2=true:=by kernel_rfl
theorem en120:kH Tryz.prog 120:=qU Tryz.func120 (by kernel_rfl) (by kernel_rfl)
theorem en124:kH Tryz.prog 124:=qU Tryz.func124 (by kernel_rfl) (by kernel_rfl)
theorem en130:kH Tryz.prog 130:=qU Tryz.func130 (by kernel_rfl) (by kernel_rfl)
theorem en82:kH Tryz.prog 82:=qU Tryz.func82 (by kernel_rfl) (by kernel_rfl)
theorem mo:Tryz.prog.follows .mixedOrders=true:=by kernel_rfl
theorem en65:kH Tryz.prog 65:=qU Tryz.func65 (by kernel_rfl) (by kernel_rfl)
theorem en66:kH Tryz.prog 66:=qU Tryz.func66 (by kernel_rfl) (by kernel_rfl)
set_option maxRecDepth 100000 in
theorem iValid (a0 a1:Int) (w:World):Calls Tryz.prog 113 [.agg #[.int .i64 a0,.int .i64 a1]].toArray w (Rets (vB (Iv.valid (⟨a0,a1⟩:Iv))) (w)) :=
 qH (x:=.b (Iv.valid ⟨a0,a1⟩)) (qX (N:=60) (ps:=[.a [.n .i64 a0,.n .i64 a1]]) yY yQ (OrL.ok (l:=([]:OrL)) trivial) ((by kernel_rfl:_=bif (decide ((-2147483648)≤a0)) then (bif (decide (a0≤a1)) then (bif (decide (a1≤2147483648)) then some (.v (.b true),[])
 else some (.v (.b false),[]))
 else some (.v (.b false),[]))
 else some (.v (.b false),[])).trans (by
 show _=some (Ret.v (.b (decide (-2147483648≤a0) && decide (a0≤a1) && decide (a1≤2147483648))),[]);cases decide (-2147483648≤a0) <;> cases decide (a0≤a1) <;> cases decide (a1≤2147483648) <;> rfl))) rfl rfl w
set_option maxRecDepth 100000 in
theorem yJI (a0 a1:Int) (w:World):Calls Tryz.prog 124 [.agg #[.int .i64 a0,.int .i64 a1]].toArray w (Rets (vB (Iv.valid (⟨a0,a1⟩:Iv))) (w)) :=
 qH (x:=.b (Iv.valid ⟨a0,a1⟩)) (qX (N:=60) (ps:=[.a [.n .i64 a0,.n .i64 a1]]) yY yQ (OrL.ok (l:=([]:OrL)) trivial) ((by kernel_rfl:_=bif (decide ((-2147483648)≤a0)) then (bif (decide (a0≤a1)) then (bif (decide (a1≤2147483648)) then some (.v (.b true),[])
 else some (.v (.b false),[]))
 else some (.v (.b false),[]))
 else some (.v (.b false),[])).trans (by
 show _=some (Ret.v (.b (decide (-2147483648≤a0) && decide (a0≤a1) && decide (a1≤2147483648))),[]);cases decide (-2147483648≤a0) <;> cases decide (a0≤a1) <;> cases decide (a1≤2147483648) <;> rfl))) rfl rfl w
namespace Tn
noncomputable def o_iValid:List PV→Option (Bool × Ret):=fun ps=>match ps with
 | [.a a']=>(ivD a').bind fun a=>some (true,.v (.b (Iv.valid a)))
 | _=>none
theorem ok_iValid:zY Tryz.prog 113 o_iValid:=by
 intro ps r h;unfold o_iValid at h;split at h
 ·simp only [vQQ,vQZ,vQY] at h;obtain ⟨a,ha,hg,rfl⟩:=h;rw [uK ha];exact qJ (qU Tryz.func113 (by kernel_rfl) (by kernel_rfl)) rfl rfl (fun w=>iValid _ _ w)
 ·cases h
noncomputable def LTn1:OrL:=(113,o_iValid) :: ([]:OrL)
theorem LTn1_ok:AllP (fun x:Nat × (List PV→Option (Bool × Ret))=>zY Tryz.prog x.1 x.2) LTn1:=⟨ok_iValid,trivial⟩
noncomputable def o_rValid:List PV→Option (Bool × Ret):=fun ps=>match ps with
 | [.a a']=>(ivD a').bind fun a=>some (true,.v (.b (Iv.valid a)))
 | _=>none
theorem ok_rValid:zY Tryz.prog 124 o_rValid:=by
 intro ps r h;unfold o_rValid at h;split at h
 ·simp only [vQQ,vQZ,vQY] at h;obtain ⟨a,ha,hg,rfl⟩:=h;rw [uK ha];exact qJ (qU Tryz.func124 (by kernel_rfl) (by kernel_rfl)) rfl rfl (fun w=>yJI _ _ w)
 ·cases h
noncomputable def LTn2:OrL:=(124,o_rValid) :: LTn1
theorem yJG:AllP (fun x:Nat × (List PV→Option (Bool × Ret))=>zY Tryz.prog x.1 x.2) LTn2:=⟨ok_rValid,LTn1_ok⟩
end Tn
set_option maxRecDepth 100000 in
theorem fClamp (a:Int) (w:World):Calls Tryz.prog 140 [.int .i64 a].toArray w (Rets (vI (qQJ a)) (w)) :=
 qH (x:=.n .i64 (qQJ a)) (qX (N:=60) (ps:=[.n .i64 a]) yY yQ (OrL.ok (l:=LTn2) yJG) (by kernel_rfl)) rfl rfl w
set_option maxRecDepth 100000 in
theorem rClamp (a:Int) (w:World):Calls Tryz.prog 129 [.int .i64 a].toArray w (Rets (vI (qQJ a)) (w)) :=
 qH (x:=.n .i64 (qQJ a)) (qX (N:=60) (ps:=[.n .i64 a]) yY yQ (OrL.ok (l:=LTn2) yJG) ((by kernel_rfl:_=some (.v (.n .i64 (max (-2147483648) (min a 2147483648))),[])).trans (by
 rw [show max (-2147483648) (min a 2147483648)=qQJ a by unfold qQJ; omega]))) rfl rfl w
namespace Tn
noncomputable def zGK:List PV→Option (Bool × Ret):=fun ps=>match ps with
 | [.n .i64 a]=>some (true,.v (.n .i64 ((qQJ a))))
 | _=>none
theorem ok_fClamp:zY Tryz.prog 140 zGK:=by
 intro ps r h;unfold zGK at h;split at h
 ·simp only [vQZ,vQY] at h;obtain ⟨hg,rfl⟩:=h;exact qJ (qU Tryz.func140 (by kernel_rfl) (by kernel_rfl)) rfl rfl (fun w=>fClamp _ w)
 ·cases h
noncomputable def LTn3:OrL:=(140,zGK) :: LTn2
theorem LTn3_ok:AllP (fun x:Nat × (List PV→Option (Bool × Ret))=>zY Tryz.prog x.1 x.2) LTn3:=⟨ok_fClamp,yJG⟩
noncomputable def zVI:List PV→Option (Bool × Ret):=fun ps=>match ps with
 | [.n .i64 a]=>some (true,.v (.n .i64 ((qQJ a))))
 | _=>none
theorem ok_rClamp:zY Tryz.prog 129 zVI:=by
 intro ps r h;unfold zVI at h;split at h
 ·simp only [vQZ,vQY] at h;obtain ⟨hg,rfl⟩:=h;exact qJ (qU Tryz.func129 (by kernel_rfl) (by kernel_rfl)) rfl rfl (fun w=>rClamp _ w)
 ·cases h
noncomputable def LTn4:OrL:=(129,zVI) :: LTn3
theorem yJV:AllP (fun x:Nat × (List PV→Option (Bool × Ret))=>zY Tryz.prog x.1 x.2) LTn4:=⟨ok_rClamp,LTn3_ok⟩
end Tn
set_option maxRecDepth 100000 in
theorem iLimited (lo:Int) (hi:Int) (w:World):Calls Tryz.prog 120 [.int .i64 lo,.int .i64 hi].toArray w (Rets (iv (Iv.limited lo hi)) (w)) :=
 qH (x:=.a (ivC (Iv.limited lo hi))) (qX (N:=60) (ps:=[.n .i64 lo,.n .i64 hi]) yY yQ (OrL.ok (l:=LTn4) yJV) (by kernel_rfl)) rfl rfl w
set_option maxRecDepth 100000 in
theorem iOf (x:Int) (w:World):Calls Tryz.prog 87 [.int .i64 x].toArray w (Rets (iv (Iv.of x)) (w)) :=
 qH (x:=.a (ivC (Iv.of x))) (qX (N:=60) (ps:=[.n .i64 x]) yY yQ (OrL.ok (l:=LTn4) yJV) (by kernel_rfl)) rfl rfl w
namespace Tn
noncomputable def zYB:List PV→Option (Bool × Ret):=fun ps=>match ps with
 | [.n .i64 a,.n .i64 b]=>some (true,.v (.a (ivC (Iv.limited a b))))
 | _=>none
theorem ok_iLimited:zY Tryz.prog 120 zYB:=by
 intro ps r h;unfold zYB at h;split at h
 ·simp only [vQZ,vQY] at h;obtain ⟨hg,rfl⟩:=h;exact qJ (qU Tryz.func120 (by kernel_rfl) (by kernel_rfl)) rfl rfl (fun w=>iLimited _ _ w)
 ·cases h
noncomputable def LTn5:OrL:=(120,zYB) :: LTn4
theorem yJW:AllP (fun x:Nat × (List PV→Option (Bool × Ret))=>zY Tryz.prog x.1 x.2) LTn5:=⟨ok_iLimited,yJV⟩
end Tn
set_option maxRecDepth 100000 in
theorem rLimited (lo:Int) (hi:Int) (w:World):Calls Tryz.prog 130 [.int .i64 lo,.int .i64 hi].toArray w (Rets (iv (Iv.limited lo hi)) (w)) :=
 qH (x:=.a (ivC (Iv.limited lo hi))) (qX (N:=60) (ps:=[.n .i64 lo,.n .i64 hi]) yY yQ (OrL.ok (l:=LTn5) yJW) (by kernel_rfl)) rfl rfl w
set_option maxRecDepth 100000 in
theorem rOf (x:Int) (w:World):Calls Tryz.prog 102 [.int .i64 x].toArray w (Rets (iv (Iv.of x)) (w)) :=
 qH (x:=.a (ivC (Iv.of x))) (qX (N:=60) (ps:=[.n .i64 x]) yY yQ (OrL.ok (l:=LTn5) yJW) (by kernel_rfl)) rfl rfl w
namespace Tn
noncomputable def zYX:List PV→Option (Bool × Ret):=fun ps=>match ps with
 | [.n .i64 a,.n .i64 b]=>some (true,.v (.a (ivC (Iv.limited a b))))
 | _=>none
theorem ok_rLimited:zY Tryz.prog 130 zYX:=by
 intro ps r h;unfold zYX at h;split at h
 ·simp only [vQZ,vQY] at h;obtain ⟨hg,rfl⟩:=h;exact qJ (qU Tryz.func130 (by kernel_rfl) (by kernel_rfl)) rfl rfl (fun w=>rLimited _ _ w)
 ·cases h
noncomputable def LTn6:OrL:=(130,zYX) :: LTn5
theorem qUB:AllP (fun x:Nat × (List PV→Option (Bool × Ret))=>zY Tryz.prog x.1 x.2) LTn6:=⟨ok_rLimited,yJW⟩
end Tn
set_option maxRecDepth 100000 in
theorem iNeg (a0 a1:Int) (w:World):Calls Tryz.prog 172 [.agg #[.int .i64 a0,.int .i64 a1]].toArray w (Rets (iv (Iv.neg (⟨a0,a1⟩:Iv))) (w)) :=
 qH (x:=.a (ivC (Iv.neg ⟨a0,a1⟩))) (qX (N:=60) (ps:=[.a [.n .i64 a0,.n .i64 a1]]) yY yQ (OrL.ok (l:=LTn6) qUB) ((by kernel_rfl:_=bif Iv.valid (Iv.mk a0 a1) then some (.v (.a [.n .i64 (vJJ .i64 (0 - a1)),.n .i64 (vJJ .i64 (0 - a0))]),[])
 else some (.v (.a [.n .i64 0,.n .i64 0]),[])).trans (by
 unfold Iv.neg;cases ha:Iv.valid (Iv.mk a0 a1) with
 | false=>rfl
 | true =>
  have va:=uJ ha;rw [qG (show -9223372036854775808≤0 - a1∧0 - a1≤9223372036854775807 by omega),qG (show -9223372036854775808≤0 - a0∧0 - a0≤9223372036854775807 by omega),show 0 - a1 = -a1 by omega,show 0 - a0 = -a0 by omega]; rfl))) rfl rfl w
set_option maxRecDepth 100000 in
theorem rNeg (a0 a1:Int) (w:World):Calls Tryz.prog 156 [.agg #[.int .i64 a0,.int .i64 a1]].toArray w (Rets (iv (Iv.neg (⟨a0,a1⟩:Iv))) (w)) :=
 qH (x:=.a (ivC (Iv.neg ⟨a0,a1⟩))) (qX (N:=60) (ps:=[.a [.n .i64 a0,.n .i64 a1]]) yY yQ (OrL.ok (l:=LTn6) qUB) ((by kernel_rfl:_=bif Iv.valid (Iv.mk a0 a1) then some (.v (.a [.n .i64 (vJJ .i64 (0 - a1)),.n .i64 (vJJ .i64 (0 - a0))]),[])
 else some (.v (.a [.n .i64 0,.n .i64 0]),[])).trans (by
 unfold Iv.neg;cases ha:Iv.valid (Iv.mk a0 a1) with
 | false=>rfl
 | true =>
  have va:=uJ ha;rw [qG (show -9223372036854775808≤0 - a1∧0 - a1≤9223372036854775807 by omega),qG (show -9223372036854775808≤0 - a0∧0 - a0≤9223372036854775807 by omega),show 0 - a1 = -a1 by omega,show 0 - a0 = -a0 by omega]; rfl))) rfl rfl w
set_option maxRecDepth 100000 in
theorem iValid2 (a0 a1:Int) (b0 b1:Int) (w:World):Calls Tryz.prog 82 [.agg #[.int .i64 a0,.int .i64 a1],.agg #[.int .i64 b0,.int .i64 b1]].toArray w (Rets (vB ((Iv.valid (⟨a0,a1⟩:Iv) && Iv.valid (⟨b0,b1⟩:Iv)))) (w)) :=
 qH (x:=.b (Iv.valid ⟨a0,a1⟩ && Iv.valid ⟨b0,b1⟩)) (qX (N:=60) (ps:=[.a [.n .i64 a0,.n .i64 a1],.a [.n .i64 b0,.n .i64 b1]]) yY yQ (OrL.ok (l:=LTn6) qUB) ((by kernel_rfl:_=bif Iv.valid (Iv.mk a0 a1) then (bif Iv.valid (Iv.mk b0 b1) then some (.v (.b true),[])
 else some (.v (.b false),[]))
 else some (.v (.b false),[])).trans (by
 cases Iv.valid (Iv.mk a0 a1) <;> cases Iv.valid (Iv.mk b0 b1) <;> rfl))) rfl rfl w
set_option maxRecDepth 100000 in
theorem rAdd (a0 a1:Int) (b0 b1:Int) (w:World):Calls Tryz.prog 104 [.agg #[.int .i64 a0,.int .i64 a1],.agg #[.int .i64 b0,.int .i64 b1]].toArray w (Rets (iv (Iv.add (⟨a0,a1⟩:Iv) (⟨b0,b1⟩:Iv))) (w)) :=
 qH (x:=.a (ivC (Iv.add ⟨a0,a1⟩ ⟨b0,b1⟩))) (qX (N:=60) (ps:=[.a [.n .i64 a0,.n .i64 a1],.a [.n .i64 b0,.n .i64 b1]]) yY yQ (OrL.ok (l:=LTn6) qUB) ((by kernel_rfl:_=bif Iv.valid (Iv.mk a0 a1) then (bif Iv.valid (Iv.mk b0 b1) then some (.v (.a (ivC (Iv.limited (vJJ .i64 (a0 + b0)) (vJJ .i64 (a1 + b1))))),[])
 else some (.v (.a [.n .i64 0,.n .i64 0]),[]))
 else some (.v (.a [.n .i64 0,.n .i64 0]),[])).trans (by
 unfold Iv.add;cases ha:Iv.valid (Iv.mk a0 a1) with
 | false=>rfl
 | true =>
  cases hb:Iv.valid (Iv.mk b0 b1) with
  | false=>rfl
  | true =>
   have va:=uJ ha;have vb:=uJ hb;rw [qG (show -9223372036854775808≤a0 + b0∧a0 + b0≤9223372036854775807 by omega),qG (show -9223372036854775808≤a1 + b1∧a1 + b1≤9223372036854775807 by omega)]; rfl))) rfl rfl w
set_option maxRecDepth 100000 in
theorem iAdd (a0 a1:Int) (b0 b1:Int) (w:World):Calls Tryz.prog 138 [.agg #[.int .i64 a0,.int .i64 a1],.agg #[.int .i64 b0,.int .i64 b1]].toArray w (Rets (iv (Iv.add (⟨a0,a1⟩:Iv) (⟨b0,b1⟩:Iv))) (w)) :=
 qH (x:=.a (ivC (Iv.add ⟨a0,a1⟩ ⟨b0,b1⟩))) (qX (N:=60) (ps:=[.a [.n .i64 a0,.n .i64 a1],.a [.n .i64 b0,.n .i64 b1]]) yY yQ (OrL.ok (l:=LTn6) qUB) ((by kernel_rfl:_=bif Iv.valid (Iv.mk a0 a1) then (bif Iv.valid (Iv.mk b0 b1) then some (.v (.a (ivC (Iv.limited (vJJ .i64 (a0 + b0)) (vJJ .i64 (a1 + b1))))),[])
 else some (.v (.a [.n .i64 0,.n .i64 0]),[]))
 else some (.v (.a [.n .i64 0,.n .i64 0]),[])).trans (by
 unfold Iv.add;cases ha:Iv.valid (Iv.mk a0 a1) with
 | false=>rfl
 | true =>
  cases hb:Iv.valid (Iv.mk b0 b1) with
  | false=>rfl
  | true =>
   have va:=uJ ha;have vb:=uJ hb;rw [qG (show -9223372036854775808≤a0 + b0∧a0 + b0≤9223372036854775807 by omega),qG (show -9223372036854775808≤a1 + b1∧a1 + b1≤9223372036854775807 by omega)]; rfl))) rfl rfl w
set_option maxRecDepth 100000 in
theorem rHull (a0 a1:Int) (b0 b1:Int) (w:World):Calls Tryz.prog 166 [.agg #[.int .i64 a0,.int .i64 a1],.agg #[.int .i64 b0,.int .i64 b1]].toArray w (Rets (iv (Iv.hull (⟨a0,a1⟩:Iv) (⟨b0,b1⟩:Iv))) (w)) :=
 qH (x:=.a (ivC (Iv.hull ⟨a0,a1⟩ ⟨b0,b1⟩))) (qX (N:=60) (ps:=[.a [.n .i64 a0,.n .i64 a1],.a [.n .i64 b0,.n .i64 b1]]) yY yQ (OrL.ok (l:=LTn6) qUB) ((by kernel_rfl:_=bif Iv.valid (Iv.mk a0 a1) then (bif Iv.valid (Iv.mk b0 b1) then some (.v (.a [.n .i64 (min a0 b0),.n .i64 (max a1 b1)]),[])
 else some (.v (.a [.n .i64 0,.n .i64 0]),[]))
 else some (.v (.a [.n .i64 0,.n .i64 0]),[])).trans (by
 unfold Iv.hull;cases ha:Iv.valid (Iv.mk a0 a1) with
 | false=>rfl
 | true =>
  cases hb:Iv.valid (Iv.mk b0 b1) with
  | false=>rfl
  | true =>
   have va:=uJ ha;have vb:=uJ hb
   rfl))) rfl rfl w
set_option maxRecDepth 100000 in
theorem iHull (a0 a1:Int) (b0 b1:Int) (w:World):Calls Tryz.prog 181 [.agg #[.int .i64 a0,.int .i64 a1],.agg #[.int .i64 b0,.int .i64 b1]].toArray w (Rets (iv (Iv.hull (⟨a0,a1⟩:Iv) (⟨b0,b1⟩:Iv))) (w)) :=
 qH (x:=.a (ivC (Iv.hull ⟨a0,a1⟩ ⟨b0,b1⟩))) (qX (N:=60) (ps:=[.a [.n .i64 a0,.n .i64 a1],.a [.n .i64 b0,.n .i64 b1]]) yY yQ (OrL.ok (l:=LTn6) qUB) ((by kernel_rfl:_=bif Iv.valid (Iv.mk a0 a1) then (bif Iv.valid (Iv.mk b0 b1) then some (.v (.a [.n .i64 (min a0 b0),.n .i64 (max a1 b1)]),[])
 else some (.v (.a [.n .i64 0,.n .i64 0]),[]))
 else some (.v (.a [.n .i64 0,.n .i64 0]),[])).trans (by
 unfold Iv.hull;cases ha:Iv.valid (Iv.mk a0 a1) with
 | false=>rfl
 | true =>
  cases hb:Iv.valid (Iv.mk b0 b1) with
  | false=>rfl
  | true =>
   have va:=uJ ha;have vb:=uJ hb
   rfl))) rfl rfl w
set_option maxRecDepth 100000 in
theorem iWidth (a0 a1:Int) (w:World):Calls Tryz.prog 180 [.agg #[.int .i64 a0,.int .i64 a1]].toArray w (Rets (vI (Iv.width (⟨a0,a1⟩:Iv))) (w)) :=
 qH (x:=.n .i64 (Iv.width ⟨a0,a1⟩)) (qX (N:=60) (ps:=[.a [.n .i64 a0,.n .i64 a1]]) yY yQ (OrL.ok (l:=LTn6) qUB) ((by kernel_rfl:_=bif Iv.valid (Iv.mk a0 a1) then some (.v (.n .i64 (vJJ .i64 (a1 - a0))),[])
 else some (.v (.n .i64 0),[])).trans (by
 unfold Iv.width;cases ha:Iv.valid (Iv.mk a0 a1) with
 | false=>rfl
 | true =>
  have va:=uJ ha;rw [qG (show -9223372036854775808≤a1 - a0∧a1 - a0≤9223372036854775807 by omega)]; rfl))) rfl rfl w
set_option maxRecDepth 100000 in
theorem iHas (a0 a1:Int) (x:Int) (w:World):Calls Tryz.prog 185 [.agg #[.int .i64 a0,.int .i64 a1],.int .i64 x].toArray w (Rets (vB (Iv.has (⟨a0,a1⟩:Iv) x)) (w)) :=
 qH (x:=.b (Iv.has ⟨a0,a1⟩ x)) (qX (N:=60) (ps:=[.a [.n .i64 a0,.n .i64 a1],.n .i64 x]) yY yQ (OrL.ok (l:=LTn6) qUB) ((by kernel_rfl:_=bif Iv.valid (Iv.mk a0 a1) then (bif (decide (a0≤x)) then (bif (decide (x≤a1)) then some (.v (.b true),[])
 else some (.v (.b false),[]))
 else some (.v (.b false),[]))
 else some (.v (.b false),[])).trans (by
 show _=some (Ret.v (.b (Iv.valid (Iv.mk a0 a1) && decide (a0≤x) && decide (x≤a1))),[]);cases Iv.valid (Iv.mk a0 a1) <;> cases decide (a0≤x) <;> cases decide (x≤a1) <;> rfl))) rfl rfl w
set_option maxRecDepth 100000 in
theorem rWithin (a0 a1:Int) (b0 b1:Int) (w:World):Calls Tryz.prog 98 [.agg #[.int .i64 a0,.int .i64 a1],.agg #[.int .i64 b0,.int .i64 b1]].toArray w (Rets (vB (Iv.within (⟨a0,a1⟩:Iv) (⟨b0,b1⟩:Iv))) (w)) :=
 qH (x:=.b (Iv.within ⟨a0,a1⟩ ⟨b0,b1⟩)) (qX (N:=60) (ps:=[.a [.n .i64 a0,.n .i64 a1],.a [.n .i64 b0,.n .i64 b1]]) yY yQ (OrL.ok (l:=LTn6) qUB) ((by kernel_rfl:_=bif Iv.valid (Iv.mk a0 a1) then (bif Iv.valid (Iv.mk b0 b1) then (bif (decide (b0≤a0)) then (bif (decide (a1≤b1)) then some (.v (.b true),[])
 else some (.v (.b false),[]))
 else some (.v (.b false),[]))
 else some (.v (.b false),[]))
 else some (.v (.b false),[])).trans (by
 show _=some (Ret.v (.b (Iv.valid (Iv.mk a0 a1) && Iv.valid (Iv.mk b0 b1) && decide (b0≤a0) && decide (a1≤b1))),[]);cases Iv.valid (Iv.mk a0 a1) <;> cases Iv.valid (Iv.mk b0 b1) <;> cases decide (b0≤a0) <;> cases decide (a1≤b1) <;> rfl))) rfl rfl w
set_option maxRecDepth 100000 in
theorem iWithin (a0 a1:Int) (b0 b1:Int) (w:World):Calls Tryz.prog 52 [.agg #[.int .i64 a0,.int .i64 a1],.agg #[.int .i64 b0,.int .i64 b1]].toArray w (Rets (vB (Iv.within (⟨a0,a1⟩:Iv) (⟨b0,b1⟩:Iv))) (w)) :=
 qH (x:=.b (Iv.within ⟨a0,a1⟩ ⟨b0,b1⟩)) (qX (N:=60) (ps:=[.a [.n .i64 a0,.n .i64 a1],.a [.n .i64 b0,.n .i64 b1]]) yY yQ (OrL.ok (l:=LTn6) qUB) ((by kernel_rfl:_=bif Iv.valid (Iv.mk a0 a1) then (bif Iv.valid (Iv.mk b0 b1) then (bif (decide (b0≤a0)) then (bif (decide (a1≤b1)) then some (.v (.b true),[])
 else some (.v (.b false),[]))
 else some (.v (.b false),[]))
 else some (.v (.b false),[]))
 else some (.v (.b false),[])).trans (by
 show _=some (Ret.v (.b (Iv.valid (Iv.mk a0 a1) && Iv.valid (Iv.mk b0 b1) && decide (b0≤a0) && decide (a1≤b1))),[]);cases Iv.valid (Iv.mk a0 a1) <;> cases Iv.valid (Iv.mk b0 b1) <;> cases decide (b0≤a0) <;> cases decide (a1≤b1) <;> rfl))) rfl rfl w
theorem zJZ (a:Int) (k:Int) (_:0≤k∧k≤62) (w:World):Calls Tryz.prog 159 [.int .i64 a,.int .i64 k].toArray w (Rets (vI (a / 2 ^ (k).toNat)) (w)):=by
 refine jU (n:=11) Tryz.func159 rfl rfl rfl ?_;refine zZ ?_;refine qY ?_;refine qV (zQ rfl) rfl rfl rfl ?_;refine zJ ?_;refine qZ ?_;refine zZ ?_;refine zZ ?_;refine qY ?_;refine qV (qW rfl) rfl rfl rfl ?_;refine qV (qKU rfl rfl) rfl rfl rfl ?_;refine zJ ?_;refine qZ ?_;refine qGG rfl (by simp; omega) ?_;refine qQG ?_;refine qZ ?_;refine zZ ?_;refine qY ?_;refine qV (qW rfl) rfl rfl rfl ?_;refine qV (qW rfl) rfl rfl rfl ?_;refine qV (yZE rfl rfl (by first | decide | omega) (shr_eq (by omega) (by omega))) rfl rfl rfl ?_;refine qV (zQ rfl) rfl rfl rfl ?_;refine zJ ?_;refine qZ ?_;refine uG ?_;refine kY (rs:=[.tmp 4]) rfl (resC (uW rfl) (resN)) (congrArg (vI) (?_:_=a / 2 ^ (k).toNat))
 first | rfl | (subst_vars; rfl) | (subst_vars; simp_all)
theorem zHJ (a:Int) (k:Int) (_:0≤k∧k≤62) (ha:In64 a) (w:World):Calls Tryz.prog 160 [.int .i64 a,.int .i64 k].toArray w (Rets (vI (zK a (2 ^ (k).toNat))) (w)):=by
 refine jU (n:=20) Tryz.func160 rfl rfl rfl ?_;refine zZ ?_;refine qY ?_;refine qV (zQ rfl) rfl rfl rfl ?_;refine zJ ?_;refine qZ ?_;refine zZ ?_;refine zZ ?_;refine qY ?_;refine qV (qW rfl) rfl rfl rfl ?_;refine qV (qKU rfl rfl) rfl rfl rfl ?_;refine zJ ?_;refine qZ ?_;refine qGG rfl (by simp; omega) ?_;refine qQG ?_;refine qZ ?_;refine zZ ?_;refine qY ?_;refine qV (qW rfl) rfl rfl rfl ?_;refine qV (qW rfl) rfl rfl rfl ?_;refine qV (yZE rfl rfl (by first | decide | omega) (shr_eq (by omega) (by omega))) rfl rfl rfl ?_;refine qV (zQ rfl) rfl rfl rfl ?_;refine zJ ?_;refine qZ ?_;refine zZ ?_;refine zZ ?_;refine qY ?_;refine qV (qW rfl) rfl rfl rfl ?_;refine qV (qW rfl) rfl rfl rfl ?_;refine qV (opV_shl rfl rfl (by first | decide | omega) (shl_eq ha (by omega) (by omega))) rfl rfl rfl ?_;refine qV (qW rfl) rfl rfl rfl ?_;refine qV (zUG rfl rfl) rfl rfl rfl ?_;refine zJ ?_;refine qZ ?_;refine qYA rfl (fun hc16 => ?_) (fun hc16 => ?_)
 ·
  have h1:¬ a / 2 ^ k.toNat * 2 ^ k.toNat=a:=by simpa using hc16
  have h2:=ceil_of_ne (Int.pow_pos (by decide)) h1;refine qY ?_;refine qV (qW rfl) rfl rfl rfl ?_;refine qV (qYK rfl rfl (qG (shiftUp_bnd ha h1))) rfl rfl rfl ?_;refine qV (zQ rfl) rfl rfl rfl ?_;refine zJ ?_;refine qZ ?_;refine zZ ?_;refine qY ?_;refine qV (qW rfl) rfl rfl rfl ?_;refine qV (zQ rfl) rfl rfl rfl ?_;refine zJ ?_;refine qZ ?_;refine uG ?_;refine kY (rs:=[.tmp 4]) rfl (resC (uW rfl) (resN)) (congrArg (vI) (?_:_=zK a (2 ^ (k).toNat)));exact h2
 ·
  have h1:a / 2 ^ k.toNat * 2 ^ k.toNat=a:=by simpa using hc16
  have h2:=ceil_of_mul (Int.pow_pos (by decide)) h1;refine qQG ?_;refine qZ ?_;refine zZ ?_;refine qY ?_;refine qV (qW rfl) rfl rfl rfl ?_;refine qV (zQ rfl) rfl rfl rfl ?_;refine zJ ?_;refine qZ ?_;refine uG ?_;refine kY (rs:=[.tmp 4]) rfl (resC (uW rfl) (resN)) (congrArg (vI) (?_:_=zK a (2 ^ (k).toNat)));exact h2
theorem yUF (a:Int) (b:Int) (ha:In64 a) (hb:0 < b) (w:World):Calls Tryz.prog 65 [.int .i64 a,.int .i64 b].toArray w (Rets (vI (a / b)) (w)):=by
 refine jU (n:=16) Tryz.func65 rfl rfl rfl ?_;refine zZ ?_;have hq:=qGY ha hb;refine qY ?_;refine qV (zQ rfl) rfl rfl rfl ?_;refine zJ ?_;refine qZ ?_;refine zZ ?_;refine qY ?_;refine qV (qW rfl) rfl rfl rfl ?_;refine qV (qW rfl) rfl rfl rfl ?_;refine qV (zVG rfl rfl (by first | decide | omega) (qG hq)) rfl rfl rfl ?_;refine qV (zQ rfl) rfl rfl rfl ?_;refine zJ ?_;refine qZ ?_;refine zZ ?_;refine zZ ?_;refine qY ?_;refine qV (qW rfl) rfl rfl rfl ?_;refine qV (qW rfl) rfl rfl rfl ?_;refine qV (zYZ rfl rfl (by first | decide | omega) rfl) rfl rfl rfl ?_;refine qV (qKU rfl rfl) rfl rfl rfl ?_;refine zJ ?_;refine qZ ?_;refine qYA rfl (fun hc12 => ?_) (fun hc12 => ?_)
 ·
  refine qY ?_;refine qV (qW rfl) rfl rfl rfl ?_;refine qV (zUW rfl rfl (qG (floor_bnd ha hb (by simpa using hc12)))) rfl rfl rfl ?_;refine qV (zQ rfl) rfl rfl rfl ?_;refine zJ ?_;refine qZ ?_;refine zZ ?_;refine qY ?_;refine qV (qW rfl) rfl rfl rfl ?_;refine qV (zQ rfl) rfl rfl rfl ?_;refine zJ ?_;refine qZ ?_;refine uG ?_;refine kY (rs:=[.tmp 4]) rfl (resC (uW rfl) (resN)) (congrArg (vI) (?_:_=a / b));exact zQC hb (by simpa using hc12)
 ·
  refine qQG ?_;refine qZ ?_;refine zZ ?_;refine qY ?_;refine qV (qW rfl) rfl rfl rfl ?_;refine qV (zQ rfl) rfl rfl rfl ?_;refine zJ ?_;refine qZ ?_;refine uG ?_;refine kY (rs:=[.tmp 4]) rfl (resC (uW rfl) (resN)) (congrArg (vI) (?_:_=a / b));exact zXB hb (by simpa using hc12)
theorem yGL (a:Int) (b:Int) (ha:In64 a) (hb:0 < b) (w:World):Calls Tryz.prog 66 [.int .i64 a,.int .i64 b].toArray w (Rets (vI (zK a b)) (w)):=by
 refine jU (n:=16) Tryz.func66 rfl rfl rfl ?_;refine zZ ?_;have hq:=qGY ha hb;refine qY ?_;refine qV (zQ rfl) rfl rfl rfl ?_;refine zJ ?_;refine qZ ?_;refine zZ ?_;refine qY ?_;refine qV (qW rfl) rfl rfl rfl ?_;refine qV (qW rfl) rfl rfl rfl ?_;refine qV (zVG rfl rfl (by first | decide | omega) (qG hq)) rfl rfl rfl ?_;refine qV (zQ rfl) rfl rfl rfl ?_;refine zJ ?_;refine qZ ?_;refine zZ ?_;refine zZ ?_;refine qY ?_;refine qV (qW rfl) rfl rfl rfl ?_;refine qV (qW rfl) rfl rfl rfl ?_;refine qV (zYZ rfl rfl (by first | decide | omega) rfl) rfl rfl rfl ?_;refine qV (opV_gtr rfl rfl) rfl rfl rfl ?_;refine zJ ?_;refine qZ ?_;refine qYA rfl (fun hc12 => ?_) (fun hc12 => ?_)
 ·
  refine qY ?_;refine qV (qW rfl) rfl rfl rfl ?_;refine qV (qYK rfl rfl (qG (ceil_bnd ha hb (by simpa using hc12)))) rfl rfl rfl ?_;refine qV (zQ rfl) rfl rfl rfl ?_;refine zJ ?_;refine qZ ?_;refine zZ ?_;refine qY ?_;refine qV (qW rfl) rfl rfl rfl ?_;refine qV (zQ rfl) rfl rfl rfl ?_;refine zJ ?_;refine qZ ?_;refine uG ?_;refine kY (rs:=[.tmp 4]) rfl (resC (uW rfl) (resN)) (congrArg (vI) (?_:_=zK a b));exact ceil_pos hb (by simpa using hc12)
 ·
  refine qQG ?_;refine qZ ?_;refine zZ ?_;refine qY ?_;refine qV (qW rfl) rfl rfl rfl ?_;refine qV (zQ rfl) rfl rfl rfl ?_;refine zJ ?_;refine qZ ?_;refine uG ?_;refine kY (rs:=[.tmp 4]) rfl (resC (uW rfl) (resN)) (congrArg (vI) (?_:_=zK a b));exact ceil_neg hb (by simpa using hc12)
theorem rMul (a0 a1:Int) (b0 b1:Int) (w:World):Calls Tryz.prog 105 [.agg #[.int .i64 a0,.int .i64 a1],.agg #[.int .i64 b0,.int .i64 b1]].toArray w (Rets (iv (Iv.mul (⟨a0,a1⟩:Iv) (⟨b0,b1⟩:Iv))) (w)):=by
 refine jU (n:=51) Tryz.func105 rfl rfl rfl ?_;refine zZ ?_;refine qY ?_;refine qVL 2 rfl rfl rfl rfl ?_; intro b2;refine qVL 3 rfl rfl rfl rfl ?_; intro b3;refine qUV 4 ze50 rfl rfl rfl ?_; intro b4;refine zJ ?_;refine qZ ?_;refine zZ ?_;refine zZ ?_;refine qY ?_;refine qV (qZK 2 ty50 rfl rfl rfl) rfl rfl rfl ?_;refine qKG (F:=vB) (kV en124 rfl (fun w _=>yJI _ _  w)) rfl rfl rfl ?_; intro r10 hr10;refine qV (zUV rfl) rfl rfl rfl ?_;refine qV (qW rfl) rfl rfl rfl ?_;refine doL_split 12 rfl (fun hg12 => ?_) (fun hg12 => ?_)
 ·
  refine zHW rfl rfl rfl ?_;refine zHW rfl rfl rfl ?_;refine zHW rfl rfl rfl ?_;refine qV (opV_pick_t rfl rfl rfl rfl) rfl rfl rfl ?_;refine zJ ?_;refine qZ ?_;refine qXA rfl (rfl) ?_;refine zZ ?_;refine qY ?_;refine qV (qKQ la50 rfl rfl) rfl rfl rfl ?_;refine qZU 4 ty50 rfl rfl rfl rfl rfl rfl rfl rfl ?_;refine zJ ?_;refine qZ ?_;refine uG ?_;refine qXI ?_;refine kY (rs:=[.cell 4 50]) rfl (resC (qJQ 4 rfl rfl ty50 rfl) (resN)) (congrArg (iv) (?_:⟨_,_⟩=Iv.mul (⟨a0,a1⟩:Iv) (⟨b0,b1⟩:Iv)))
  subst_vars; first | (simp_all [Iv.mul,Iv.limited,min4,max4]; done) | (simp_all [Iv.mul,Iv.limited,min4,max4] <;> omega) | grind [Iv.mul,Iv.limited,min4,max4]
 ·
  refine qV (qZK 3 ty50 rfl rfl rfl) rfl rfl rfl ?_;refine qKG (F:=vB) (kV en124 rfl (fun w _=>yJI _ _  w)) rfl rfl rfl ?_; intro r14 hr14;refine qV (zUV rfl) rfl rfl rfl ?_;refine qV (zYY rfl rfl rfl rfl) rfl rfl rfl ?_;refine zJ ?_;refine qZ ?_;refine qYA rfl (fun hc16 => ?_) (fun hc16 => ?_)
  ·
   refine zZ ?_;refine qY ?_;refine qV (qKQ la50 rfl rfl) rfl rfl rfl ?_;refine qZU 4 ty50 rfl rfl rfl rfl rfl rfl rfl rfl ?_;refine zJ ?_;refine qZ ?_;refine uG ?_;refine qXI ?_;refine kY (rs:=[.cell 4 50]) rfl (resC (qJQ 4 rfl rfl ty50 rfl) (resN)) (congrArg (iv) (?_:⟨_,_⟩=Iv.mul (⟨a0,a1⟩:Iv) (⟨b0,b1⟩:Iv)))
   subst_vars; first | (simp_all [Iv.mul,Iv.limited,min4,max4]; done) | (simp_all [Iv.mul,Iv.limited,min4,max4] <;> omega) | grind [Iv.mul,Iv.limited,min4,max4]
  ·
   refine qQG ?_;refine qZ ?_;refine zZ ?_;have ha:=uJ (hr10.symm.trans (by simpa using hg12));have hb:=uJ (hr14.symm.trans (by simpa using hc16));have m1:=qWH (a:=a0) (b:=b0) (by omega) (by omega);have m2:=qWH (a:=a0) (b:=b1) (by omega) (by omega);have m3:=qWH (a:=a1) (b:=b0) (by omega) (by omega);have m4:=qWH (a:=a1) (b:=b1) (by omega) (by omega);refine qKZ 23 mo (by kernel_rfl) ?_;simp only [vYK,vYX,vYU,vYW];refine jJ (zU qWI rfl) rfl rfl rfl ?_;refine jJ (yG 2 ty2 rfl rfl rfl) rfl rfl rfl ?_;refine jJ (zU qWI rfl) rfl rfl rfl ?_;refine jJ (yG 3 ty2 rfl rfl rfl) rfl rfl rfl ?_;refine jJ (qWQ rfl rfl (by first | exact qG ⟨by omega,by omega⟩ | rfl)) rfl rfl rfl ?_;refine jJ (zU qWI rfl) rfl rfl rfl ?_;refine jJ (yG 2 ty2 rfl rfl rfl) rfl rfl rfl ?_;refine jJ (zU zQE rfl) rfl rfl rfl ?_;refine jJ (yG 3 ty2 rfl rfl rfl) rfl rfl rfl ?_;refine jJ (qWQ rfl rfl (by first | exact qG ⟨by omega,by omega⟩ | rfl)) rfl rfl rfl ?_;refine jJ (zU zQE rfl) rfl rfl rfl ?_;refine jJ (yG 2 ty2 rfl rfl rfl) rfl rfl rfl ?_;refine jJ (zU qWI rfl) rfl rfl rfl ?_;refine jJ (yG 3 ty2 rfl rfl rfl) rfl rfl rfl ?_;refine jJ (qWQ rfl rfl (by first | exact qG ⟨by omega,by omega⟩ | rfl)) rfl rfl rfl ?_;refine jJ (zU zQE rfl) rfl rfl rfl ?_;refine jJ (yG 2 ty2 rfl rfl rfl) rfl rfl rfl ?_;refine jJ (zU zQE rfl) rfl rfl rfl ?_;refine jJ (yG 3 ty2 rfl rfl rfl) rfl rfl rfl ?_;refine jJ (qWQ rfl rfl (by first | exact qG ⟨by omega,by omega⟩ | rfl)) rfl rfl rfl ?_;refine jJ (zQ rfl) rfl rfl rfl ?_;refine jJ (zQ rfl) rfl rfl rfl ?_;refine jJ (zQ rfl) rfl rfl rfl ?_;refine qGQ ?_;refine qUL ?_;refine qV (zQ rfl) rfl rfl rfl ?_;refine zJ ?_;refine qZ ?_;refine zZ ?_;refine qY ?_;refine qV (qW rfl) rfl rfl rfl ?_;refine qV (qW rfl) rfl rfl rfl ?_;refine qV (qW rfl) rfl rfl rfl ?_;refine qV (qW rfl) rfl rfl rfl ?_;refine qV (opV_min4 rfl rfl rfl rfl) rfl rfl rfl ?_;refine qKG (F:=vI) (kV en65 rfl (fun w _=>yUF _ _ (by unfold In64; omega) (by omega) w)) rfl rfl rfl ?_; intro r43 hr43;refine qV (qW rfl) rfl rfl rfl ?_;refine qV (qW rfl) rfl rfl rfl ?_;refine qV (qW rfl) rfl rfl rfl ?_;refine qV (qW rfl) rfl rfl rfl ?_;refine qV (opV_max4 rfl rfl rfl rfl) rfl rfl rfl ?_;refine qKG (F:=vI) (kV en66 rfl (fun w _=>yGL _ _ (by unfold In64; omega) (by omega) w)) rfl rfl rfl ?_; intro r49 hr49;refine qKG (F:=iv) (kV en130 rfl (fun w _=>rLimited _ _  w)) rfl rfl rfl ?_; intro r50 hr50;refine qZU 4 ty50 rfl rfl rfl rfl rfl rfl rfl rfl ?_;refine zJ ?_;refine qZ ?_;refine uG ?_;refine kY (rs:=[.cell 4 50]) rfl (resC (qJQ 4 rfl rfl ty50 rfl) (resN)) (congrArg (iv) (?_:⟨_,_⟩=Iv.mul (⟨a0,a1⟩:Iv) (⟨b0,b1⟩:Iv)))
   subst_vars; first | (simp_all [Iv.mul,Iv.limited,min4,max4]; done) | (simp_all [Iv.mul,Iv.limited,min4,max4] <;> omega) | grind [Iv.mul,Iv.limited,min4,max4]
end Go.Proofs.YtfcofnclgajfeaaGreat
namespace Go.Proofs.YtfcofnclgajfeaaGreat
open Go.Sx Go.Rx Rt Go.RowKit
namespace Ta
end Ta
open Ta
theorem en159:kH Tryz.prog 159:=qU Tryz.func159 (by kernel_rfl) (by kernel_rfl)
theorem en160:kH Tryz.prog 160:=qU Tryz.func160 (by kernel_rfl) (by kernel_rfl)
theorem en183:kH Tryz.prog 183:=qU Tryz.func183 (by kernel_rfl) (by kernel_rfl)
theorem en168:kH Tryz.prog 168:=qU Tryz.func168 (by kernel_rfl) (by kernel_rfl)
theorem en185:kH Tryz.prog 185:=qU Tryz.func185 (by kernel_rfl) (by kernel_rfl)
theorem fSD14 (a:Int) (w:World):Calls Tryz.prog 159 [.int .i64 a,.int .i64 14].toArray w (Rets (vI (a / 16384)) w):=zJZ a 14 (by decide) w
theorem fSU14 (a:Int) (ha:In64 a) (w:World):Calls Tryz.prog 160 [.int .i64 a,.int .i64 14].toArray w (Rets (vI (zK a 16384)) w):=zHJ a 14 (by decide) ha w
theorem aMod (a:Int) (w:World):Calls Tryz.prog 183 [.int .i64 a].toArray w (Rets (vI (a % 65536)) (w)):=by
 refine jU (n:=5) Tryz.func183 rfl rfl rfl ?_;refine zZ ?_;refine qY ?_;refine qV (zQ rfl) rfl rfl rfl ?_;refine zJ ?_;refine qZ ?_;refine zZ ?_;refine qY ?_;refine qV (qW rfl) rfl rfl rfl ?_;refine qV (opV_and rfl rfl and_mask) rfl rfl rfl ?_;refine qV (zQ rfl) rfl rfl rfl ?_;refine zJ ?_;refine qZ ?_;refine uG ?_;refine kY (rs:=[.tmp 2]) rfl (resC (uW rfl) (resN)) (congrArg (vI) (?_:_=a % 65536))
 first | rfl | (subst_vars; rfl) | (subst_vars; simp_all)
theorem rMod (a:Int) (w:World):Calls Tryz.prog 168 [.int .i64 a].toArray w (Rets (vI (a % 65536)) (w)):=by
 refine jU (n:=7) Tryz.func168 rfl rfl rfl ?_;refine zZ ?_;have h0 : -65536 < a.tmod 65536:=by have:=Int.lt_tmod_of_pos a (show (0:Int) < 65536 by decide); omega
 have h1:a.tmod 65536 < 65536:=Int.tmod_lt_of_pos a (by decide);refine qY ?_;refine qV (zQ rfl) rfl rfl rfl ?_;refine zJ ?_;refine qZ ?_;refine zZ ?_;refine qY ?_;refine qV (qW rfl) rfl rfl rfl ?_;refine qV (zYZ rfl rfl (by first | decide | omega) (by first | exact tmod_nonneg (by omega) (by omega) | rfl)) rfl rfl rfl ?_;refine qV (qYK rfl rfl (by first | exact qG ⟨by omega,by omega⟩ | rfl)) rfl rfl rfl ?_;refine qV (zYZ rfl rfl (by first | decide | omega) (by first | exact tmod_nonneg (by omega) (by omega) | rfl)) rfl rfl rfl ?_;refine qV (zQ rfl) rfl rfl rfl ?_;refine zJ ?_;refine qZ ?_;refine uG ?_;refine kY (rs:=[.tmp 2]) rfl (resC (uW rfl) (resN)) (congrArg (vI) (?_:_=a % 65536))
 have:=Int.tdiv_mul_add_tmod a 65536; omega
theorem aCeil (a:Int) (b:Int) (ha:0≤a∧a≤1073741824) (hb:0 < b∧b≤1073741824) (w:World):Calls Tryz.prog 190 [.int .i64 a,.int .i64 b].toArray w (Rets (vI (zK a b)) (w)):=by
 refine jU (n:=11) Tryz.func190 rfl rfl rfl ?_;refine zZ ?_;refine qY ?_;refine qV (zQ rfl) rfl rfl rfl ?_;refine zJ ?_;refine qZ ?_;refine zZ ?_;refine qY ?_;refine qV (qW rfl) rfl rfl rfl ?_;refine qV (qW rfl) rfl rfl rfl ?_;refine qV (qYK rfl rfl (by first | exact qG ⟨by omega,by omega⟩ | rfl)) rfl rfl rfl ?_;refine qV (zUW rfl rfl (by first | exact qG ⟨by omega,by omega⟩ | rfl)) rfl rfl rfl ?_;refine qV (qW rfl) rfl rfl rfl ?_;refine qV (zVG rfl rfl (by first | decide | omega) (ceil_quo ha hb)) rfl rfl rfl ?_;refine qV (zQ rfl) rfl rfl rfl ?_;refine zJ ?_;refine qZ ?_;refine uG ?_;refine kY (rs:=[.tmp 4]) rfl (resC (uW rfl) (resN)) (congrArg (vI) (?_:_=zK a b))
 first | rfl | (subst_vars; rfl) | (subst_vars; simp_all)
theorem aEnc (lo:Int) (hi:Int) (hh:In64 hi) (w:World):Calls Tryz.prog 191 [.int .i64 lo,.int .i64 hi].toArray w (Rets (iv (encI lo hi)) (w)):=by
 refine jU (n:=12) Tryz.func191 rfl rfl rfl ?_;refine zZ ?_;refine qY ?_;refine qUV 4 ze50 rfl rfl rfl ?_; intro b4;refine zJ ?_;refine qZ ?_;refine zZ ?_;refine qY ?_;refine qV (qW rfl) rfl rfl rfl ?_;refine qKG (F:=vI) (kV en159 rfl (fun w _=>fSD14 _ w)) rfl rfl rfl ?_; intro r6 hr6;refine qV (qWY rfl rfl) rfl rfl rfl ?_;refine qV (qW rfl) rfl rfl rfl ?_;refine qKG (F:=vI) (kV en160 rfl (fun w _=>fSU14 _ hh w)) rfl rfl rfl ?_; intro r9 hr9;refine qV (qWZ rfl rfl) rfl rfl rfl ?_;refine qV (qKQ la50 rfl rfl) rfl rfl rfl ?_;refine qZU 4 ty50 rfl rfl rfl rfl rfl rfl rfl rfl ?_;refine zJ ?_;refine qZ ?_;refine uG ?_;refine kY (rs:=[.cell 4 50]) rfl (resC (qJQ 4 rfl rfl ty50 rfl) (resN)) (congrArg (iv) (?_:⟨_,_⟩=encI lo hi))
 subst_vars; first | (simp_all [encI]; done) | (simp_all [encI] <;> omega) | grind [encI]
theorem rEnc (lo:Int) (hi:Int) (hl:In64 lo) (hh:In64 hi) (w:World):Calls Tryz.prog 179 [.int .i64 lo,.int .i64 hi].toArray w (Rets (iv (encI lo hi)) (w)):=by
 refine jU (n:=12) Tryz.func179 rfl rfl rfl ?_;refine zZ ?_;refine qY ?_;refine qUV 4 ze50 rfl rfl rfl ?_; intro b4;refine zJ ?_;refine qZ ?_;refine zZ ?_;refine qY ?_;refine qV (qW rfl) rfl rfl rfl ?_;refine qKG (F:=vI) (kV en65 rfl (fun w _=>yUF _ _ hl (by decide) w)) rfl rfl rfl ?_; intro r6 hr6;refine qV (qWY rfl rfl) rfl rfl rfl ?_;refine qV (qW rfl) rfl rfl rfl ?_;refine qKG (F:=vI) (kV en66 rfl (fun w _=>yGL _ _ hh (by decide) w)) rfl rfl rfl ?_; intro r9 hr9;refine qV (qWZ rfl rfl) rfl rfl rfl ?_;refine qV (qKQ la50 rfl rfl) rfl rfl rfl ?_;refine qZU 4 ty50 rfl rfl rfl rfl rfl rfl rfl rfl ?_;refine zJ ?_;refine qZ ?_;refine uG ?_;refine kY (rs:=[.cell 4 50]) rfl (resC (qJQ 4 rfl rfl ty50 rfl) (resN)) (congrArg (iv) (?_:⟨_,_⟩=encI lo hi))
 subst_vars; first | (simp_all [encI]; done) | (simp_all [encI] <;> omega) | grind [encI]
theorem aMeets (a0 a1:Int) (c:Int) (hv:Iv.valid (⟨a0,a1⟩:Iv)=true) (_:0≤c∧c < 65536) (w:World):Calls Tryz.prog 182 [.agg #[.int .i64 a0,.int .i64 a1],.int .i64 c].toArray w (Rets (vB (kU (⟨a0,a1⟩:Iv) c)) (w)):=by
 refine jU (n:=15) Tryz.func182 rfl rfl rfl ?_;refine zZ ?_;have hv2:=uJ hv;refine qY ?_;refine qVL 2 rfl rfl rfl rfl ?_; intro b2;refine qV (zQ rfl) rfl rfl rfl ?_;refine zJ ?_;refine qZ ?_;refine zZ ?_;refine qKZ 10 mo (by kernel_rfl) ?_;simp only [vYK,vYX,vYU,vYW];refine jJ (qZK 2 ty50 rfl rfl rfl) rfl rfl rfl ?_;refine jJ (zU qWI rfl) rfl rfl rfl ?_;refine jJ (yG 2 ty2 rfl rfl rfl) rfl rfl rfl ?_;refine jJ (qW rfl) rfl rfl rfl ?_;refine jJ (zU qWI rfl) rfl rfl rfl ?_;refine jJ (yG 2 ty2 rfl rfl rfl) rfl rfl rfl ?_;refine jJ (zUW rfl rfl (by first | exact qG ⟨by omega,by omega⟩ | rfl)) rfl rfl rfl ?_;refine zXC (F:=vI) (kV en183 rfl (fun w _=>aMod _  w)) rfl rfl rfl ?_; intro r12 hr12;have qr12:0≤r12∧r12 < 65536:=by omega
 refine jJ (qYK rfl rfl (by first | exact qG ⟨by omega,by omega⟩ | rfl)) rfl rfl rfl ?_;refine zXC (F:=vB) (kV en185 rfl (fun w _=>iHas _ _ _  w)) rfl rfl rfl ?_; intro r14 hr14;refine qGQ ?_;refine qUL ?_;refine qV (zQ rfl) rfl rfl rfl ?_;refine zJ ?_;refine qZ ?_;refine uG ?_;refine kY (rs:=[.tmp 4]) rfl (resC (uW rfl) (resN)) (congrArg (vB) (?_:_=kU (⟨a0,a1⟩:Iv) c))
 subst_vars; simp only [Iv.has,kU,hv,vZH]; rw [vJQ (by omega),vZH]
theorem rMeets (a0 a1:Int) (c:Int) (hv:Iv.valid (⟨a0,a1⟩:Iv)=true) (_:0≤c∧c < 65536) (w:World):Calls Tryz.prog 167 [.agg #[.int .i64 a0,.int .i64 a1],.int .i64 c].toArray w (Rets (vB (kU (⟨a0,a1⟩:Iv) c)) (w)):=by
 refine jU (n:=16) Tryz.func167 rfl rfl rfl ?_;refine zZ ?_;have hv2:=uJ hv;refine qY ?_;refine qVL 2 rfl rfl rfl rfl ?_; intro b2;refine qV (zQ rfl) rfl rfl rfl ?_;refine zJ ?_;refine qZ ?_;refine zZ ?_;refine qKZ 11 mo (by kernel_rfl) ?_;simp only [vYK,vYX,vYU,vYW];refine jJ (zU qWI rfl) rfl rfl rfl ?_;refine jJ (yG 2 ty2 rfl rfl rfl) rfl rfl rfl ?_;refine jJ (qW rfl) rfl rfl rfl ?_;refine jJ (zU qWI rfl) rfl rfl rfl ?_;refine jJ (yG 2 ty2 rfl rfl rfl) rfl rfl rfl ?_;refine jJ (zUW rfl rfl (by first | exact qG ⟨by omega,by omega⟩ | rfl)) rfl rfl rfl ?_;refine zXC (F:=vI) (kV en168 rfl (fun w _=>rMod _  w)) rfl rfl rfl ?_; intro r11 hr11;have qr11:0≤r11∧r11 < 65536:=by omega
 refine jJ (qYK rfl rfl (by first | exact qG ⟨by omega,by omega⟩ | rfl)) rfl rfl rfl ?_;refine jJ (zU zQE rfl) rfl rfl rfl ?_;refine jJ (yG 2 ty2 rfl rfl rfl) rfl rfl rfl ?_;refine jJ (opV_leq rfl rfl) rfl rfl rfl ?_;refine qGQ ?_;refine qUL ?_;refine qV (zQ rfl) rfl rfl rfl ?_;refine zJ ?_;refine qZ ?_;refine uG ?_;refine kY (rs:=[.tmp 4]) rfl (resC (uW rfl) (resN)) (congrArg (vB) (?_:_=kU (⟨a0,a1⟩:Iv) c))
 subst_vars; simp [kU]
theorem mRound (n:Int) (k:Int) (hk:0 < k∧k≤9223372036854775807) (w:World):Calls Tryz.prog 9 [.int .i64 n,.int .i64 k].toArray w (Rets (vI (n % k)) (w)):=by
 refine jU (n:=15) Tryz.func9 rfl rfl rfl ?_;refine zZ ?_;have h0:=Int.lt_tmod_of_pos n hk.1;have h1:=Int.tmod_lt_of_pos n hk.1;refine qY ?_;refine qV (zQ rfl) rfl rfl rfl ?_;refine zJ ?_;refine qZ ?_;refine zZ ?_;refine qY ?_;refine qV (qW rfl) rfl rfl rfl ?_;refine qV (qW rfl) rfl rfl rfl ?_;refine qV (zYZ rfl rfl (by first | decide | omega) rfl) rfl rfl rfl ?_;refine qV (zQ rfl) rfl rfl rfl ?_;refine zJ ?_;refine qZ ?_;refine zZ ?_;refine zZ ?_;refine qY ?_;refine qV (qW rfl) rfl rfl rfl ?_;refine qV (qKU rfl rfl) rfl rfl rfl ?_;refine zJ ?_;refine qZ ?_;refine qYA rfl (fun hc10 => ?_) (fun hc10 => ?_)
 ·
  have h2:=vJZ hc10;refine qY ?_;refine qV (qW rfl) rfl rfl rfl ?_;refine qV (qW rfl) rfl rfl rfl ?_;refine qV (qYK rfl rfl (by first | exact qG ⟨by omega,by omega⟩ | rfl)) rfl rfl rfl ?_;refine qV (zQ rfl) rfl rfl rfl ?_;refine zJ ?_;refine qZ ?_;refine zZ ?_;refine qY ?_;refine qV (qW rfl) rfl rfl rfl ?_;refine qV (zQ rfl) rfl rfl rfl ?_;refine zJ ?_;refine qZ ?_;refine uG ?_;refine kY (rs:=[.tmp 4]) rfl (resC (uW rfl) (resN)) (congrArg (vI) (?_:_=n % k));exact round_neg hk.1 h2
 ·
  have h2:=vJY hc10;refine qQG ?_;refine qZ ?_;refine zZ ?_;refine qY ?_;refine qV (qW rfl) rfl rfl rfl ?_;refine qV (zQ rfl) rfl rfl rfl ?_;refine zJ ?_;refine qZ ?_;refine uG ?_;refine kY (rs:=[.tmp 4]) rfl (resC (uW rfl) (resN)) (congrArg (vI) (?_:_=n % k));exact round_pos hk.1 h2
namespace Ta
def iw (a:Int):Bool:=decide (-9223372036854775808≤a∧a≤9223372036854775807)
def pw (a:Int):Bool:=decide (0≤a∧a≤1073741824)
theorem yUW {a:Int} (h:iw a=true):In64 a:=by unfold iw at h; simp only [decide_eq_true_eq] at h; unfold In64; omega
theorem pw_of {a:Int} (h:pw a=true):0≤a∧a≤1073741824:=vJZ h
theorem iww (y:Int):iw (vJJ .i64 y)=true:=by
 refine vJQ ?_;unfold IntKind.wrap;have hb:IntKind.i64.bits=64:=rfl;have hs:IntKind.i64.signed=true:=rfl;simp only [hb,hs,vZH,decide_eq_true_eq]
 split <;> omega
theorem yGY {x:Int} (h:0≤x∧x≤8192) (k:Nat):iw (dn x k)=true:=by have:=qJU h k; exact vJQ (by omega)
theorem yGZ {x:Int} (h:0≤x∧x≤8192) (k:Nat):iw (up x k)=true:=by have:=qZV h k; exact vJQ (by omega)
theorem yVJ {x:Int} (h:0≤x∧x≤8192) (k:Nat):pw (up x k)=true:=vJQ (qZV h k)
noncomputable def qVE:List PV→Option (Bool × Ret):=fun ps=>match ps with
 | [.n .i64 a,.n .i64 k]=>some (decide (0≤k∧k≤62),.v (.n .i64 (a / 2 ^ Int.toNat k)))
 | _=>none
theorem ok_fShiftDown:zY Tryz.prog 159 qVE:=by
 intro ps r h;unfold qVE at h;split at h
 ·simp only [vQZ,vQY] at h;obtain ⟨hg,rfl⟩:=h
  try simp only [vQJ,decide_eq_true_eq] at hg
  exact qJ (qU Tryz.func159 (by kernel_rfl) (by kernel_rfl)) rfl rfl (fun w=>zJZ _ _ hg w)
 ·cases h
noncomputable def LTa1:OrL:=(159,qVE) :: ([]:OrL)
theorem LTa1_ok:AllP (fun x:Nat × (List PV→Option (Bool × Ret))=>zY Tryz.prog x.1 x.2) LTa1:=⟨ok_fShiftDown,trivial⟩
noncomputable def zYC:List PV→Option (Bool × Ret):=fun ps=>match ps with
 | [.n .i64 a,.n .i64 k]=>some (decide (0≤k∧k≤62) && iw a,.v (.n .i64 (zK a (2 ^ Int.toNat k))))
 | _=>none
theorem ok_fShiftUp:zY Tryz.prog 160 zYC:=by
 intro ps r h;unfold zYC at h;split at h
 ·simp only [vQZ,vQY] at h;obtain ⟨hg,rfl⟩:=h
  try simp only [vQJ,decide_eq_true_eq] at hg
  exact qJ (qU Tryz.func160 (by kernel_rfl) (by kernel_rfl)) rfl rfl (fun w=>zHJ _ _ hg.1 (yUW hg.2) w)
 ·cases h
noncomputable def LTa2:OrL:=(160,zYC) :: LTa1
theorem LTa2_ok:AllP (fun x:Nat × (List PV→Option (Bool × Ret))=>zY Tryz.prog x.1 x.2) LTa2:=⟨ok_fShiftUp,LTa1_ok⟩
noncomputable def zVF:List PV→Option (Bool × Ret):=fun ps=>match ps with
 | [.n .i64 a,.n .i64 b]=>some (decide (0 < b) && iw a,.v (.n .i64 (a / b)))
 | _=>none
theorem ok_rFloor:zY Tryz.prog 65 zVF:=by
 intro ps r h;unfold zVF at h;split at h
 ·simp only [vQZ,vQY] at h;obtain ⟨hg,rfl⟩:=h
  try simp only [vQJ,decide_eq_true_eq] at hg
  exact qJ (qU Tryz.func65 (by kernel_rfl) (by kernel_rfl)) rfl rfl (fun w=>yUF _ _ (yUW hg.2) hg.1 w)
 ·cases h
noncomputable def LTa3:OrL:=(65,zVF) :: LTa2
theorem LTa3_ok:AllP (fun x:Nat × (List PV→Option (Bool × Ret))=>zY Tryz.prog x.1 x.2) LTa3:=⟨ok_rFloor,LTa2_ok⟩
noncomputable def yYZ:List PV→Option (Bool × Ret):=fun ps=>match ps with
 | [.n .i64 a,.n .i64 b]=>some (decide (0 < b) && iw a,.v (.n .i64 (zK a b)))
 | _=>none
theorem ok_rCeil:zY Tryz.prog 66 yYZ:=by
 intro ps r h;unfold yYZ at h;split at h
 ·simp only [vQZ,vQY] at h;obtain ⟨hg,rfl⟩:=h
  try simp only [vQJ,decide_eq_true_eq] at hg
  exact qJ (qU Tryz.func66 (by kernel_rfl) (by kernel_rfl)) rfl rfl (fun w=>yGL _ _ (yUW hg.2) hg.1 w)
 ·cases h
noncomputable def LTa4:OrL:=(66,yYZ) :: LTa3
theorem LTa4_ok:AllP (fun x:Nat × (List PV→Option (Bool × Ret))=>zY Tryz.prog x.1 x.2) LTa4:=⟨ok_rCeil,LTa3_ok⟩
noncomputable def yYV:List PV→Option (Bool × Ret):=fun ps=>match ps with
 | [.n .i64 a,.n .i64 b]=>some (decide (0 < b∧b≤1073741824) && pw a,.v (.n .i64 (zK a b)))
 | _=>none
theorem ok_aCeil:zY Tryz.prog 190 yYV:=by
 intro ps r h;unfold yYV at h;split at h
 ·simp only [vQZ,vQY] at h;obtain ⟨hg,rfl⟩:=h
  try simp only [vQJ,decide_eq_true_eq] at hg
  exact qJ (qU Tryz.func190 (by kernel_rfl) (by kernel_rfl)) rfl rfl (fun w=>aCeil _ _ (pw_of hg.2) hg.1 w)
 ·cases h
noncomputable def LTa5:OrL:=(190,yYV) :: LTa4
theorem LTa5_ok:AllP (fun x:Nat × (List PV→Option (Bool × Ret))=>zY Tryz.prog x.1 x.2) LTa5:=⟨ok_aCeil,LTa4_ok⟩
noncomputable def yXB:List PV→Option (Bool × Ret):=fun ps=>match ps with
 | [.n .i64 l,.n .i64 a]=>some (iw a,.v (.a (ivC (encI l a))))
 | _=>none
theorem ok_aEnc:zY Tryz.prog 191 yXB:=by
 intro ps r h;unfold yXB at h;split at h
 ·simp only [vQZ,vQY] at h;obtain ⟨hg,rfl⟩:=h
  try simp only [vQJ,decide_eq_true_eq] at hg
  exact qJ (qU Tryz.func191 (by kernel_rfl) (by kernel_rfl)) rfl rfl (fun w=>aEnc _ _ (yUW hg) w)
 ·cases h
noncomputable def LTa6:OrL:=(191,yXB) :: LTa5
theorem LTa6_ok:AllP (fun x:Nat × (List PV→Option (Bool × Ret))=>zY Tryz.prog x.1 x.2) LTa6:=⟨ok_aEnc,LTa5_ok⟩
noncomputable def yXK:List PV→Option (Bool × Ret):=fun ps=>match ps with
 | [.n .i64 l,.n .i64 a]=>some (iw a && iw l,.v (.a (ivC (encI l a))))
 | _=>none
theorem ok_rEnc:zY Tryz.prog 179 yXK:=by
 intro ps r h;unfold yXK at h;split at h
 ·simp only [vQZ,vQY] at h;obtain ⟨hg,rfl⟩:=h
  try simp only [vQJ,decide_eq_true_eq] at hg
  exact qJ (qU Tryz.func179 (by kernel_rfl) (by kernel_rfl)) rfl rfl (fun w=>rEnc _ _ (yUW hg.2) (yUW hg.1) w)
 ·cases h
noncomputable def LTa7:OrL:=(179,yXK) :: LTa6
theorem yJA:AllP (fun x:Nat × (List PV→Option (Bool × Ret))=>zY Tryz.prog x.1 x.2) LTa7:=⟨ok_rEnc,LTa6_ok⟩
def wdn (x:Int):Nat→Int
 | 0=>1073741824
 | 1=>(vJJ .i64 (x * 6746518852)) / 65536
 | k + 2=>(vJJ .i64 (wdn x (k + 1) * ((vJJ .i64 (x * 6746518852)) / 65536))) / 1073741824
def wup (x:Int):Nat→Int
 | 0=>1073741824
 | 1=>zK (vJJ .i64 (x * 6746518853)) 65536
 | k + 2=>zK (vJJ .i64 (wup x (k + 1) * zK (vJJ .i64 (x * 6746518853)) 65536)) 1073741824
theorem wmul {a b:Int} (_:0≤a∧a≤1073741824) (_:0≤b∧b≤1073741824):vJJ .i64 (a * b)=a * b:=mul_in (by omega) (by omega)
theorem yUG {x:Int} (h:0≤x∧x≤8192):∀ k,wdn x k=dn x k
 | 0=>rfl
 | 1=>by unfold wdn dn; rw [qG (by omega)]
 | k + 2=>by rw [wdn,dn,yUG h (k + 1),qG (show -9223372036854775808≤x * 6746518852∧x * 6746518852≤9223372036854775807 by omega),wmul (qJU h (k + 1)) (show 0≤x * 6746518852 / 65536∧x * 6746518852 / 65536≤1073741824 by omega)]
theorem yUV {x:Int} (h:0≤x∧x≤8192):∀ k,wup x k=up x k
 | 0=>rfl
 | 1=>by unfold wup up; rw [qG (by omega)]
 | k + 2=>by rw [wup,up,yUV h (k + 1),qG (show -9223372036854775808≤x * 6746518853∧x * 6746518853≤9223372036854775807 by omega),wmul (qZV h (k + 1)) (yZU rfl h)]
set_option maxRecDepth 100000 in
theorem sp_aPow (x:Int) (h:0≤x∧x≤8192):yZ Tryz.prog 188 [.n .i64 x] (.v (.t [.a [.n .i64 1073741824,.n .i64 (dn x 1),.n .i64 (dn x 2),.n .i64 (dn x 3),.n .i64 (dn x 4),.n .i64 (dn x 5),.n .i64 (dn x 6),.n .i64 (dn x 7),.n .i64 (dn x 8),.n .i64 (dn x 9),.n .i64 (dn x 10)],.a [.n .i64 1073741824,.n .i64 (up x 1),.n .i64 (up x 2),.n .i64 (up x 3),.n .i64 (up x 4),.n .i64 (up x 5),.n .i64 (up x 6),.n .i64 (up x 7),.n .i64 (up x 8),.n .i64 (up x 9),.n .i64 (up x 10)]])):=qX (N:=60) (ps:=[.n .i64 x]) yY yQ (OrL.ok (l:=LTa7) yJA) ((by kernel_rfl:_=bif iw (vJJ .i64 (x * 6746518853)) then (bif iw (vJJ .i64 (wup x 1 * wup x 1)) then (bif iw (vJJ .i64 (wup x 2 * wup x 1)) then (bif iw (vJJ .i64 (wup x 3 * wup x 1)) then (bif iw (vJJ .i64 (wup x 4 * wup x 1)) then (bif iw (vJJ .i64 (wup x 5 * wup x 1)) then (bif iw (vJJ .i64 (wup x 6 * wup x 1)) then (bif iw (vJJ .i64 (wup x 7 * wup x 1)) then (bif iw (vJJ .i64 (wup x 8 * wup x 1)) then (bif iw (vJJ .i64 (wup x 9 * wup x 1)) then some (.v (.t [.a [.n .i64 1073741824,.n .i64 (wdn x 1),.n .i64 (wdn x 2),.n .i64 (wdn x 3),.n .i64 (wdn x 4),.n .i64 (wdn x 5),.n .i64 (wdn x 6),.n .i64 (wdn x 7),.n .i64 (wdn x 8),.n .i64 (wdn x 9),.n .i64 (wdn x 10)],.a [.n .i64 1073741824,.n .i64 (wup x 1),.n .i64 (wup x 2),.n .i64 (wup x 3),.n .i64 (wup x 4),.n .i64 (wup x 5),.n .i64 (wup x 6),.n .i64 (wup x 7),.n .i64 (wup x 8),.n .i64 (wup x 9),.n .i64 (wup x 10)]]),[])
 else none)
 else none)
 else none)
 else none)
 else none)
 else none)
 else none)
 else none)
 else none)
 else none).trans (by
 simp only [iww,vYV,yUG h,yUV h]))
set_option maxRecDepth 100000 in
theorem sp_rPow (x:Int) (h:0≤x∧x≤8192):yZ Tryz.prog 178 [.n .i64 x] (.v (.t [.a [.n .i64 0,.n .i64 (dn x 1),.n .i64 (dn x 2),.n .i64 (dn x 3),.n .i64 (dn x 4),.n .i64 (dn x 5),.n .i64 (dn x 6),.n .i64 (dn x 7),.n .i64 (dn x 8),.n .i64 (dn x 9),.n .i64 (dn x 10)],.a [.n .i64 0,.n .i64 (up x 1),.n .i64 (up x 2),.n .i64 (up x 3),.n .i64 (up x 4),.n .i64 (up x 5),.n .i64 (up x 6),.n .i64 (up x 7),.n .i64 (up x 8),.n .i64 (up x 9),.n .i64 (up x 10)]])):=qX (N:=60) (ps:=[.n .i64 x]) yY yQ (OrL.ok (l:=LTa7) yJA) ((by kernel_rfl:_=bif iw (vJJ .i64 (x * 6746518852)) then (bif iw (vJJ .i64 (x * 6746518853)) then (bif iw (vJJ .i64 (wdn x 1 * wdn x 1)) then (bif iw (vJJ .i64 (wup x 1 * wup x 1)) then (bif iw (vJJ .i64 (wdn x 2 * wdn x 1)) then (bif iw (vJJ .i64 (wup x 2 * wup x 1)) then (bif iw (vJJ .i64 (wdn x 3 * wdn x 1)) then (bif iw (vJJ .i64 (wup x 3 * wup x 1)) then (bif iw (vJJ .i64 (wdn x 4 * wdn x 1)) then (bif iw (vJJ .i64 (wup x 4 * wup x 1)) then (bif iw (vJJ .i64 (wdn x 5 * wdn x 1)) then (bif iw (vJJ .i64 (wup x 5 * wup x 1)) then (bif iw (vJJ .i64 (wdn x 6 * wdn x 1)) then (bif iw (vJJ .i64 (wup x 6 * wup x 1)) then (bif iw (vJJ .i64 (wdn x 7 * wdn x 1)) then (bif iw (vJJ .i64 (wup x 7 * wup x 1)) then (bif iw (vJJ .i64 (wdn x 8 * wdn x 1)) then (bif iw (vJJ .i64 (wup x 8 * wup x 1)) then (bif iw (vJJ .i64 (wdn x 9 * wdn x 1)) then (bif iw (vJJ .i64 (wup x 9 * wup x 1)) then some (.v (.t [.a [.n .i64 0,.n .i64 (wdn x 1),.n .i64 (wdn x 2),.n .i64 (wdn x 3),.n .i64 (wdn x 4),.n .i64 (wdn x 5),.n .i64 (wdn x 6),.n .i64 (wdn x 7),.n .i64 (wdn x 8),.n .i64 (wdn x 9),.n .i64 (wdn x 10)],.a [.n .i64 0,.n .i64 (wup x 1),.n .i64 (wup x 2),.n .i64 (wup x 3),.n .i64 (wup x 4),.n .i64 (wup x 5),.n .i64 (wup x 6),.n .i64 (wup x 7),.n .i64 (wup x 8),.n .i64 (wup x 9),.n .i64 (wup x 10)]]),[])
 else none)
 else none)
 else none)
 else none)
 else none)
 else none)
 else none)
 else none)
 else none)
 else none)
 else none)
 else none)
 else none)
 else none)
 else none)
 else none)
 else none)
 else none)
 else none)
 else none).trans (by
 simp only [iww,vYV,yUG h,yUV h]))
noncomputable def yXH:List PV→Option (Bool × Ret):=fun ps=>match ps with
 | [.n .i64 x]=>some (decide (0≤x∧x≤8192),.v (.t [.a [.n .i64 1073741824,.n .i64 (dn x 1),.n .i64 (dn x 2),.n .i64 (dn x 3),.n .i64 (dn x 4),.n .i64 (dn x 5),.n .i64 (dn x 6),.n .i64 (dn x 7),.n .i64 (dn x 8),.n .i64 (dn x 9),.n .i64 (dn x 10)],.a [.n .i64 1073741824,.n .i64 (up x 1),.n .i64 (up x 2),.n .i64 (up x 3),.n .i64 (up x 4),.n .i64 (up x 5),.n .i64 (up x 6),.n .i64 (up x 7),.n .i64 (up x 8),.n .i64 (up x 9),.n .i64 (up x 10)]]))
 | _=>none
theorem ok_aPow:zY Tryz.prog 188 yXH:=by
 intro ps r h;unfold yXH at h;split at h
 ·simp only [vQZ,vQY] at h;obtain ⟨hg,rfl⟩:=h;exact sp_aPow _ (vJZ hg)
 ·cases h
noncomputable def LTa8:OrL:=(188,yXH) :: LTa7
theorem LTa8_ok:AllP (fun x:Nat × (List PV→Option (Bool × Ret))=>zY Tryz.prog x.1 x.2) LTa8:=⟨ok_aPow,yJA⟩
noncomputable def yXZ:List PV→Option (Bool × Ret):=fun ps=>match ps with
 | [.n .i64 x]=>some (decide (0≤x∧x≤8192),.v (.t [.a [.n .i64 0,.n .i64 (dn x 1),.n .i64 (dn x 2),.n .i64 (dn x 3),.n .i64 (dn x 4),.n .i64 (dn x 5),.n .i64 (dn x 6),.n .i64 (dn x 7),.n .i64 (dn x 8),.n .i64 (dn x 9),.n .i64 (dn x 10)],.a [.n .i64 0,.n .i64 (up x 1),.n .i64 (up x 2),.n .i64 (up x 3),.n .i64 (up x 4),.n .i64 (up x 5),.n .i64 (up x 6),.n .i64 (up x 7),.n .i64 (up x 8),.n .i64 (up x 9),.n .i64 (up x 10)]]))
 | _=>none
theorem ok_rPow:zY Tryz.prog 178 yXZ:=by
 intro ps r h;unfold yXZ at h;split at h
 ·simp only [vQZ,vQY] at h;obtain ⟨hg,rfl⟩:=h;exact sp_rPow _ (vJZ hg)
 ·cases h
noncomputable def LTa9:OrL:=(178,yXZ) :: LTa8
theorem zXL:AllP (fun x:Nat × (List PV→Option (Bool × Ret))=>zY Tryz.prog x.1 x.2) LTa9:=⟨ok_rPow,LTa8_ok⟩
theorem tdnn {a b:Int} (h:0≤a):a.tdiv b=a / b:=Int.tdiv_eq_ediv_of_nonneg h
def yKB (x:Int):Int:=(vJJ .i64 ((vJJ .i64 ((vJJ .i64 ((vJJ .i64 (0 + (vJJ .i64 (1 * (dn x 1))))) + (vJJ .i64 ((-1) * zK (up x 3) 6)))) + (vJJ .i64 (1 * (vJJ .i64 ((dn x 5).tdiv 120)))))) + (vJJ .i64 ((-1) * zK (up x 7) 5040))))
theorem aSineL_eq {x:Int} (h:0≤x∧x≤8192):yKB x=sinL x:=by
 have d1:=qJU h 1;have d5:=qJU h 5;have u3:=qZV h 3;have u7:=qZV h 7;have c3:=yJ (r:=zK (up x 3) 6) rfl u3 (by decide);have c7:=yJ (r:=zK (up x 7) 5040) rfl u7 (by decide);unfold yKB sinL;simp only [tdnn d5.1];have w0:vJJ .i64 (1 * (dn x 1))=(1 * (dn x 1)):=qG (by omega);have w1:vJJ .i64 (0 + (1 * (dn x 1)))=(0 + (1 * (dn x 1))):=qG (by omega);have w2:vJJ .i64 ((-1) * zK (up x 3) 6)=((-1) * zK (up x 3) 6):=qG (by omega);have w3:vJJ .i64 ((0 + (1 * (dn x 1))) + ((-1) * zK (up x 3) 6))=((0 + (1 * (dn x 1))) + ((-1) * zK (up x 3) 6)):=qG (by omega);have w4:vJJ .i64 (((dn x 5) / 120))=(((dn x 5) / 120)):=qG (by omega);have w5:vJJ .i64 (1 * (((dn x 5) / 120)))=(1 * (((dn x 5) / 120))):=qG (by omega);have w6:vJJ .i64 (((0 + (1 * (dn x 1))) + ((-1) * zK (up x 3) 6)) + (1 * (((dn x 5) / 120))))=(((0 + (1 * (dn x 1))) + ((-1) * zK (up x 3) 6)) + (1 * (((dn x 5) / 120)))):=qG (by omega);have w7:vJJ .i64 ((-1) * zK (up x 7) 5040)=((-1) * zK (up x 7) 5040):=qG (by omega);have w8:vJJ .i64 ((((0 + (1 * (dn x 1))) + ((-1) * zK (up x 3) 6)) + (1 * (((dn x 5) / 120)))) + ((-1) * zK (up x 7) 5040))=((((0 + (1 * (dn x 1))) + ((-1) * zK (up x 3) 6)) + (1 * (((dn x 5) / 120)))) + ((-1) * zK (up x 7) 5040)):=qG (by omega);simp only [w0,w1,w2,w3,w4,w5,w6,w7,w8]
 try omega
def yQE (x:Int):Int:=(vJJ .i64 ((vJJ .i64 ((vJJ .i64 ((vJJ .i64 ((vJJ .i64 (0 + (vJJ .i64 (1 * (up x 1))))) + (vJJ .i64 ((-1) * (vJJ .i64 ((dn x 3).tdiv 6)))))) + (vJJ .i64 (1 * zK (up x 5) 120)))) + (vJJ .i64 ((-1) * (vJJ .i64 ((dn x 7).tdiv 5040)))))) + (vJJ .i64 (1 * zK (up x 9) 362880))))
theorem aSineU_eq {x:Int} (h:0≤x∧x≤8192):yQE x=sinU x:=by
 have d3:=qJU h 3;have d7:=qJU h 7;have u1:=qZV h 1;have u5:=qZV h 5;have u9:=qZV h 9;have c5:=yJ (r:=zK (up x 5) 120) rfl u5 (by decide);have c9:=yJ (r:=zK (up x 9) 362880) rfl u9 (by decide);unfold yQE sinU;simp only [tdnn d3.1,tdnn d7.1];have w0:vJJ .i64 (1 * (up x 1))=(1 * (up x 1)):=qG (by omega);have w1:vJJ .i64 (0 + (1 * (up x 1)))=(0 + (1 * (up x 1))):=qG (by omega);have w2:vJJ .i64 (((dn x 3) / 6))=(((dn x 3) / 6)):=qG (by omega);have w3:vJJ .i64 ((-1) * (((dn x 3) / 6)))=((-1) * (((dn x 3) / 6))):=qG (by omega);have w4:vJJ .i64 ((0 + (1 * (up x 1))) + ((-1) * (((dn x 3) / 6))))=((0 + (1 * (up x 1))) + ((-1) * (((dn x 3) / 6)))):=qG (by omega);have w5:vJJ .i64 (1 * zK (up x 5) 120)=(1 * zK (up x 5) 120):=qG (by omega);have w6:vJJ .i64 (((0 + (1 * (up x 1))) + ((-1) * (((dn x 3) / 6)))) + (1 * zK (up x 5) 120))=(((0 + (1 * (up x 1))) + ((-1) * (((dn x 3) / 6)))) + (1 * zK (up x 5) 120)):=qG (by omega);have w7:vJJ .i64 (((dn x 7) / 5040))=(((dn x 7) / 5040)):=qG (by omega);have w8:vJJ .i64 ((-1) * (((dn x 7) / 5040)))=((-1) * (((dn x 7) / 5040))):=qG (by omega);have w9:vJJ .i64 ((((0 + (1 * (up x 1))) + ((-1) * (((dn x 3) / 6)))) + (1 * zK (up x 5) 120)) + ((-1) * (((dn x 7) / 5040))))=((((0 + (1 * (up x 1))) + ((-1) * (((dn x 3) / 6)))) + (1 * zK (up x 5) 120)) + ((-1) * (((dn x 7) / 5040)))):=qG (by omega);have w10:vJJ .i64 (1 * zK (up x 9) 362880)=(1 * zK (up x 9) 362880):=qG (by omega);have w11:vJJ .i64 (((((0 + (1 * (up x 1))) + ((-1) * (((dn x 3) / 6)))) + (1 * zK (up x 5) 120)) + ((-1) * (((dn x 7) / 5040)))) + (1 * zK (up x 9) 362880))=(((((0 + (1 * (up x 1))) + ((-1) * (((dn x 3) / 6)))) + (1 * zK (up x 5) 120)) + ((-1) * (((dn x 7) / 5040)))) + (1 * zK (up x 9) 362880)):=qG (by omega);simp only [w0,w1,w2,w3,w4,w5,w6,w7,w8,w9,w10,w11]
 try omega
end Ta
set_option maxRecDepth 100000 in
theorem aSine (x:Int) (h:0≤x∧x≤8192) (w:World):Calls Tryz.prog 186 [.int .i64 x].toArray w (Rets (iv (zVK x)) (w)) :=
 qH (x:=.a (ivC (zVK x))) (qX (N:=60) (ps:=[.n .i64 x]) yY yQ (OrL.ok (l:=LTa9) zXL) ((by kernel_rfl:_=bif decide (0≤x∧x≤8192) then (bif pw (up x 3) then (bif pw (up x 7) then (bif pw (up x 5) then (bif pw (up x 9) then (bif iw (yQE x) then some (.v (.a (ivC (encI (yKB x) (yQE x)))),[])
 else none)
 else none)
 else none)
 else none)
 else none)
 else none).trans (by
 have iL:iw (yKB x)=true:=iww _;have iU:iw (yQE x)=true:=iww _;rw [aSineL_eq h] at iL ⊢;rw [aSineU_eq h] at iU ⊢;simp only [vJQ h,yVJ h,yGZ h,yGY h,iL,iU,vYV,vZJ]
 rfl))) rfl rfl w
namespace Ta
def zKA (x:Int):Int:=(vJJ .i64 ((vJJ .i64 ((vJJ .i64 ((vJJ .i64 ((vJJ .i64 (1073741824 + (vJJ .i64 ((-1) * zK (up x 2) 2)))) + (vJJ .i64 (1 * (vJJ .i64 ((dn x 4).tdiv 24)))))) + (vJJ .i64 ((-1) * zK (up x 6) 720)))) + (vJJ .i64 (1 * (vJJ .i64 ((dn x 8).tdiv 40320)))))) + (vJJ .i64 ((-1) * zK (up x 10) 3628800))))
theorem aCosineL_eq {x:Int} (h:0≤x∧x≤8192):zKA x=cosL x:=by
 have d4:=qJU h 4;have d8:=qJU h 8;have u2:=qZV h 2;have u6:=qZV h 6;have u10:=qZV h 10;have c10:=yJ (r:=zK (up x 10) 3628800) rfl u10 (by decide);have c2:=yJ (r:=zK (up x 2) 2) rfl u2 (by decide);have c6:=yJ (r:=zK (up x 6) 720) rfl u6 (by decide);unfold zKA cosL;simp only [tdnn d4.1,tdnn d8.1];have w0:vJJ .i64 ((-1) * zK (up x 2) 2)=((-1) * zK (up x 2) 2):=qG (by omega);have w1:vJJ .i64 (1073741824 + ((-1) * zK (up x 2) 2))=(1073741824 + ((-1) * zK (up x 2) 2)):=qG (by omega);have w2:vJJ .i64 (((dn x 4) / 24))=(((dn x 4) / 24)):=qG (by omega);have w3:vJJ .i64 (1 * (((dn x 4) / 24)))=(1 * (((dn x 4) / 24))):=qG (by omega);have w4:vJJ .i64 ((1073741824 + ((-1) * zK (up x 2) 2)) + (1 * (((dn x 4) / 24))))=((1073741824 + ((-1) * zK (up x 2) 2)) + (1 * (((dn x 4) / 24)))):=qG (by omega);have w5:vJJ .i64 ((-1) * zK (up x 6) 720)=((-1) * zK (up x 6) 720):=qG (by omega);have w6:vJJ .i64 (((1073741824 + ((-1) * zK (up x 2) 2)) + (1 * (((dn x 4) / 24)))) + ((-1) * zK (up x 6) 720))=(((1073741824 + ((-1) * zK (up x 2) 2)) + (1 * (((dn x 4) / 24)))) + ((-1) * zK (up x 6) 720)):=qG (by omega);have w7:vJJ .i64 (((dn x 8) / 40320))=(((dn x 8) / 40320)):=qG (by omega);have w8:vJJ .i64 (1 * (((dn x 8) / 40320)))=(1 * (((dn x 8) / 40320))):=qG (by omega);have w9:vJJ .i64 ((((1073741824 + ((-1) * zK (up x 2) 2)) + (1 * (((dn x 4) / 24)))) + ((-1) * zK (up x 6) 720)) + (1 * (((dn x 8) / 40320))))=((((1073741824 + ((-1) * zK (up x 2) 2)) + (1 * (((dn x 4) / 24)))) + ((-1) * zK (up x 6) 720)) + (1 * (((dn x 8) / 40320)))):=qG (by omega);have w10:vJJ .i64 ((-1) * zK (up x 10) 3628800)=((-1) * zK (up x 10) 3628800):=qG (by omega);have w11:vJJ .i64 (((((1073741824 + ((-1) * zK (up x 2) 2)) + (1 * (((dn x 4) / 24)))) + ((-1) * zK (up x 6) 720)) + (1 * (((dn x 8) / 40320)))) + ((-1) * zK (up x 10) 3628800))=(((((1073741824 + ((-1) * zK (up x 2) 2)) + (1 * (((dn x 4) / 24)))) + ((-1) * zK (up x 6) 720)) + (1 * (((dn x 8) / 40320)))) + ((-1) * zK (up x 10) 3628800)):=qG (by omega);simp only [w0,w1,w2,w3,w4,w5,w6,w7,w8,w9,w10,w11]
 try omega
def zZX (x:Int):Int:=(vJJ .i64 ((vJJ .i64 ((vJJ .i64 ((vJJ .i64 (1073741824 + (vJJ .i64 ((-1) * (vJJ .i64 ((dn x 2).tdiv 2)))))) + (vJJ .i64 (1 * zK (up x 4) 24)))) + (vJJ .i64 ((-1) * (vJJ .i64 ((dn x 6).tdiv 720)))))) + (vJJ .i64 (1 * zK (up x 8) 40320))))
theorem aCosineU_eq {x:Int} (h:0≤x∧x≤8192):zZX x=cosU x:=by
 have d2:=qJU h 2;have d6:=qJU h 6;have u4:=qZV h 4;have u8:=qZV h 8;have c4:=yJ (r:=zK (up x 4) 24) rfl u4 (by decide);have c8:=yJ (r:=zK (up x 8) 40320) rfl u8 (by decide);unfold zZX cosU;simp only [tdnn d2.1,tdnn d6.1];have w0:vJJ .i64 (((dn x 2) / 2))=(((dn x 2) / 2)):=qG (by omega);have w1:vJJ .i64 ((-1) * (((dn x 2) / 2)))=((-1) * (((dn x 2) / 2))):=qG (by omega);have w2:vJJ .i64 (1073741824 + ((-1) * (((dn x 2) / 2))))=(1073741824 + ((-1) * (((dn x 2) / 2)))):=qG (by omega);have w3:vJJ .i64 (1 * zK (up x 4) 24)=(1 * zK (up x 4) 24):=qG (by omega);have w4:vJJ .i64 ((1073741824 + ((-1) * (((dn x 2) / 2)))) + (1 * zK (up x 4) 24))=((1073741824 + ((-1) * (((dn x 2) / 2)))) + (1 * zK (up x 4) 24)):=qG (by omega);have w5:vJJ .i64 (((dn x 6) / 720))=(((dn x 6) / 720)):=qG (by omega);have w6:vJJ .i64 ((-1) * (((dn x 6) / 720)))=((-1) * (((dn x 6) / 720))):=qG (by omega);have w7:vJJ .i64 (((1073741824 + ((-1) * (((dn x 2) / 2)))) + (1 * zK (up x 4) 24)) + ((-1) * (((dn x 6) / 720))))=(((1073741824 + ((-1) * (((dn x 2) / 2)))) + (1 * zK (up x 4) 24)) + ((-1) * (((dn x 6) / 720)))):=qG (by omega);have w8:vJJ .i64 (1 * zK (up x 8) 40320)=(1 * zK (up x 8) 40320):=qG (by omega);have w9:vJJ .i64 ((((1073741824 + ((-1) * (((dn x 2) / 2)))) + (1 * zK (up x 4) 24)) + ((-1) * (((dn x 6) / 720)))) + (1 * zK (up x 8) 40320))=((((1073741824 + ((-1) * (((dn x 2) / 2)))) + (1 * zK (up x 4) 24)) + ((-1) * (((dn x 6) / 720)))) + (1 * zK (up x 8) 40320)):=qG (by omega);simp only [w0,w1,w2,w3,w4,w5,w6,w7,w8,w9]
 try omega
end Ta
set_option maxRecDepth 100000 in
theorem aCosine (x:Int) (h:0≤x∧x≤8192) (w:World):Calls Tryz.prog 187 [.int .i64 x].toArray w (Rets (iv (qWC x)) (w)) :=
 qH (x:=.a (ivC (qWC x))) (qX (N:=60) (ps:=[.n .i64 x]) yY yQ (OrL.ok (l:=LTa9) zXL) ((by kernel_rfl:_=bif decide (0≤x∧x≤8192) then (bif pw (up x 2) then (bif pw (up x 6) then (bif pw (up x 10) then (bif pw (up x 4) then (bif pw (up x 8) then (bif iw (zZX x) then some (.v (.a (ivC (encI (zKA x) (zZX x)))),[])
 else none)
 else none)
 else none)
 else none)
 else none)
 else none)
 else none).trans (by
 have iL:iw (zKA x)=true:=iww _;have iU:iw (zZX x)=true:=iww _;rw [aCosineL_eq h] at iL ⊢;rw [aCosineU_eq h] at iU ⊢;simp only [vJQ h,yVJ h,yGZ h,yGY h,iL,iU,vYV,vZJ]
 rfl))) rfl rfl w
namespace Ta
def yQJ (x:Int):Int:=(vJJ .i64 ((vJJ .i64 ((vJJ .i64 ((dn x 1) - zK (up x 3) 6)) + (dn x 5) / 120)) - zK (up x 7) 5040))
theorem rSineL_eq {x:Int} (h:0≤x∧x≤8192):yQJ x=sinL x:=by
 have d1:=qJU h 1;have d5:=qJU h 5;have u3:=qZV h 3;have u7:=qZV h 7;have c3:=yJ (r:=zK (up x 3) 6) rfl u3 (by decide);have c7:=yJ (r:=zK (up x 7) 5040) rfl u7 (by decide);unfold yQJ sinL;have w0:vJJ .i64 ((dn x 1) - zK (up x 3) 6)=((dn x 1) - zK (up x 3) 6):=qG (by omega);have w1:vJJ .i64 (((dn x 1) - zK (up x 3) 6) + (dn x 5) / 120)=(((dn x 1) - zK (up x 3) 6) + (dn x 5) / 120):=qG (by omega);have w2:vJJ .i64 ((((dn x 1) - zK (up x 3) 6) + (dn x 5) / 120) - zK (up x 7) 5040)=((((dn x 1) - zK (up x 3) 6) + (dn x 5) / 120) - zK (up x 7) 5040):=qG (by omega);simp only [w0,w1,w2]
 try omega
def yQY (x:Int):Int:=(vJJ .i64 ((vJJ .i64 ((vJJ .i64 ((vJJ .i64 ((up x 1) - (dn x 3) / 6)) + zK (up x 5) 120)) - (dn x 7) / 5040)) + zK (up x 9) 362880))
theorem rSineU_eq {x:Int} (h:0≤x∧x≤8192):yQY x=sinU x:=by
 have d3:=qJU h 3;have d7:=qJU h 7;have u1:=qZV h 1;have u5:=qZV h 5;have u9:=qZV h 9;have c5:=yJ (r:=zK (up x 5) 120) rfl u5 (by decide);have c9:=yJ (r:=zK (up x 9) 362880) rfl u9 (by decide);unfold yQY sinU;have w0:vJJ .i64 ((up x 1) - (dn x 3) / 6)=((up x 1) - (dn x 3) / 6):=qG (by omega);have w1:vJJ .i64 (((up x 1) - (dn x 3) / 6) + zK (up x 5) 120)=(((up x 1) - (dn x 3) / 6) + zK (up x 5) 120):=qG (by omega);have w2:vJJ .i64 ((((up x 1) - (dn x 3) / 6) + zK (up x 5) 120) - (dn x 7) / 5040)=((((up x 1) - (dn x 3) / 6) + zK (up x 5) 120) - (dn x 7) / 5040):=qG (by omega);have w3:vJJ .i64 (((((up x 1) - (dn x 3) / 6) + zK (up x 5) 120) - (dn x 7) / 5040) + zK (up x 9) 362880)=(((((up x 1) - (dn x 3) / 6) + zK (up x 5) 120) - (dn x 7) / 5040) + zK (up x 9) 362880):=qG (by omega);simp only [w0,w1,w2,w3]
 try omega
end Ta
set_option maxRecDepth 100000 in
theorem rSine (x:Int) (h:0≤x∧x≤8192) (w:World):Calls Tryz.prog 173 [.int .i64 x].toArray w (Rets (iv (zVK x)) (w)) :=
 qH (x:=.a (ivC (zVK x))) (qX (N:=60) (ps:=[.n .i64 x]) yY yQ (OrL.ok (l:=LTa9) zXL) ((by kernel_rfl:_=bif decide (0≤x∧x≤8192) then (bif iw (up x 3) then (bif iw (dn x 5) then (bif iw (up x 7) then (bif iw (dn x 3) then (bif iw (up x 5) then (bif iw (dn x 7) then (bif iw (up x 9) then (bif (iw (yQY x) && iw (yQJ x)) then some (.v (.a (ivC (encI (yQJ x) (yQY x)))),[])
 else none)
 else none)
 else none)
 else none)
 else none)
 else none)
 else none)
 else none)
 else none).trans (by
 have iL:iw (yQJ x)=true:=iww _;have iU:iw (yQY x)=true:=iww _;rw [rSineL_eq h] at iL ⊢;rw [rSineU_eq h] at iU ⊢;simp only [vJQ h,yVJ h,yGZ h,yGY h,iL,iU,vYV,vZJ]
 rfl))) rfl rfl w
namespace Ta
def zQJ (x:Int):Int:=(vJJ .i64 ((vJJ .i64 ((vJJ .i64 ((vJJ .i64 ((vJJ .i64 (1073741824 - zK (up x 2) 2)) + (dn x 4) / 24)) - zK (up x 6) 720)) + (dn x 8) / 40320)) - zK (up x 10) 3628800))
theorem rCosineL_eq {x:Int} (h:0≤x∧x≤8192):zQJ x=cosL x:=by
 have d4:=qJU h 4;have d8:=qJU h 8;have u2:=qZV h 2;have u6:=qZV h 6;have u10:=qZV h 10;have c10:=yJ (r:=zK (up x 10) 3628800) rfl u10 (by decide);have c2:=yJ (r:=zK (up x 2) 2) rfl u2 (by decide);have c6:=yJ (r:=zK (up x 6) 720) rfl u6 (by decide);unfold zQJ cosL;have w0:vJJ .i64 (1073741824 - zK (up x 2) 2)=(1073741824 - zK (up x 2) 2):=qG (by omega);have w1:vJJ .i64 ((1073741824 - zK (up x 2) 2) + (dn x 4) / 24)=((1073741824 - zK (up x 2) 2) + (dn x 4) / 24):=qG (by omega);have w2:vJJ .i64 (((1073741824 - zK (up x 2) 2) + (dn x 4) / 24) - zK (up x 6) 720)=(((1073741824 - zK (up x 2) 2) + (dn x 4) / 24) - zK (up x 6) 720):=qG (by omega);have w3:vJJ .i64 ((((1073741824 - zK (up x 2) 2) + (dn x 4) / 24) - zK (up x 6) 720) + (dn x 8) / 40320)=((((1073741824 - zK (up x 2) 2) + (dn x 4) / 24) - zK (up x 6) 720) + (dn x 8) / 40320):=qG (by omega);have w4:vJJ .i64 (((((1073741824 - zK (up x 2) 2) + (dn x 4) / 24) - zK (up x 6) 720) + (dn x 8) / 40320) - zK (up x 10) 3628800)=(((((1073741824 - zK (up x 2) 2) + (dn x 4) / 24) - zK (up x 6) 720) + (dn x 8) / 40320) - zK (up x 10) 3628800):=qG (by omega);simp only [w0,w1,w2,w3,w4]
 try omega
def zQY (x:Int):Int:=(vJJ .i64 ((vJJ .i64 ((vJJ .i64 ((vJJ .i64 (1073741824 - (dn x 2) / 2)) + zK (up x 4) 24)) - (dn x 6) / 720)) + zK (up x 8) 40320))
theorem rCosineU_eq {x:Int} (h:0≤x∧x≤8192):zQY x=cosU x:=by
 have d2:=qJU h 2;have d6:=qJU h 6;have u4:=qZV h 4;have u8:=qZV h 8;have c4:=yJ (r:=zK (up x 4) 24) rfl u4 (by decide);have c8:=yJ (r:=zK (up x 8) 40320) rfl u8 (by decide);unfold zQY cosU;have w0:vJJ .i64 (1073741824 - (dn x 2) / 2)=(1073741824 - (dn x 2) / 2):=qG (by omega);have w1:vJJ .i64 ((1073741824 - (dn x 2) / 2) + zK (up x 4) 24)=((1073741824 - (dn x 2) / 2) + zK (up x 4) 24):=qG (by omega);have w2:vJJ .i64 (((1073741824 - (dn x 2) / 2) + zK (up x 4) 24) - (dn x 6) / 720)=(((1073741824 - (dn x 2) / 2) + zK (up x 4) 24) - (dn x 6) / 720):=qG (by omega);have w3:vJJ .i64 ((((1073741824 - (dn x 2) / 2) + zK (up x 4) 24) - (dn x 6) / 720) + zK (up x 8) 40320)=((((1073741824 - (dn x 2) / 2) + zK (up x 4) 24) - (dn x 6) / 720) + zK (up x 8) 40320):=qG (by omega);simp only [w0,w1,w2,w3]
 try omega
end Ta
set_option maxRecDepth 100000 in
theorem rCosine (x:Int) (h:0≤x∧x≤8192) (w:World):Calls Tryz.prog 174 [.int .i64 x].toArray w (Rets (iv (qWC x)) (w)) :=
 qH (x:=.a (ivC (qWC x))) (qX (N:=60) (ps:=[.n .i64 x]) yY yQ (OrL.ok (l:=LTa9) zXL) ((by kernel_rfl:_=bif decide (0≤x∧x≤8192) then (bif iw (up x 2) then (bif iw (dn x 4) then (bif iw (up x 6) then (bif iw (dn x 8) then (bif iw (up x 10) then (bif iw (dn x 2) then (bif iw (up x 4) then (bif iw (dn x 6) then (bif iw (up x 8) then (bif (iw (zQY x) && iw (zQJ x)) then some (.v (.a (ivC (encI (zQJ x) (zQY x)))),[])
 else none)
 else none)
 else none)
 else none)
 else none)
 else none)
 else none)
 else none)
 else none)
 else none)
 else none).trans (by
 have iL:iw (zQJ x)=true:=iww _;have iU:iw (zQY x)=true:=iww _;rw [rCosineL_eq h] at iL ⊢;rw [rCosineU_eq h] at iU ⊢;simp only [vJQ h,yVJ h,yGZ h,yGY h,iL,iU,vYV,vZJ]
 rfl))) rfl rfl w
namespace Ta
noncomputable def yYW:List PV→Option (Bool × Ret):=fun ps=>match ps with
 | [.n .i64 x]=>some (decide (0≤x∧x≤8192),.v (.a (ivC (zVK x))))
 | _=>none
theorem ok_aSine:zY Tryz.prog 186 yYW:=by
 intro ps r h;unfold yYW at h;split at h
 ·simp only [vQZ,vQY] at h;obtain ⟨hg,rfl⟩:=h
  try simp only [vQJ,decide_eq_true_eq] at hg
  exact qJ (qU Tryz.func186 (by kernel_rfl) (by kernel_rfl)) rfl rfl (fun w=>aSine _ hg w)
 ·cases h
noncomputable def LTa10:OrL:=(186,yYW) :: LTa9
theorem LTa10_ok:AllP (fun x:Nat × (List PV→Option (Bool × Ret))=>zY Tryz.prog x.1 x.2) LTa10:=⟨ok_aSine,zXL⟩
noncomputable def zXJ:List PV→Option (Bool × Ret):=fun ps=>match ps with
 | [.n .i64 x]=>some (decide (0≤x∧x≤8192),.v (.a (ivC (qWC x))))
 | _=>none
theorem ok_aCosine:zY Tryz.prog 187 zXJ:=by
 intro ps r h;unfold zXJ at h;split at h
 ·simp only [vQZ,vQY] at h;obtain ⟨hg,rfl⟩:=h
  try simp only [vQJ,decide_eq_true_eq] at hg
  exact qJ (qU Tryz.func187 (by kernel_rfl) (by kernel_rfl)) rfl rfl (fun w=>aCosine _ hg w)
 ·cases h
noncomputable def LTa11:OrL:=(187,zXJ) :: LTa10
theorem LTa11_ok:AllP (fun x:Nat × (List PV→Option (Bool × Ret))=>zY Tryz.prog x.1 x.2) LTa11:=⟨ok_aCosine,LTa10_ok⟩
noncomputable def yZL:List PV→Option (Bool × Ret):=fun ps=>match ps with
 | [.n .i64 x]=>some (decide (0≤x∧x≤8192),.v (.a (ivC (zVK x))))
 | _=>none
theorem ok_rSine:zY Tryz.prog 173 yZL:=by
 intro ps r h;unfold yZL at h;split at h
 ·simp only [vQZ,vQY] at h;obtain ⟨hg,rfl⟩:=h
  try simp only [vQJ,decide_eq_true_eq] at hg
  exact qJ (qU Tryz.func173 (by kernel_rfl) (by kernel_rfl)) rfl rfl (fun w=>rSine _ hg w)
 ·cases h
noncomputable def LTa12:OrL:=(173,yZL) :: LTa11
theorem LTa12_ok:AllP (fun x:Nat × (List PV→Option (Bool × Ret))=>zY Tryz.prog x.1 x.2) LTa12:=⟨ok_rSine,LTa11_ok⟩
noncomputable def zUL:List PV→Option (Bool × Ret):=fun ps=>match ps with
 | [.n .i64 x]=>some (decide (0≤x∧x≤8192),.v (.a (ivC (qWC x))))
 | _=>none
theorem ok_rCosine:zY Tryz.prog 174 zUL:=by
 intro ps r h;unfold zUL at h;split at h
 ·simp only [vQZ,vQY] at h;obtain ⟨hg,rfl⟩:=h
  try simp only [vQJ,decide_eq_true_eq] at hg
  exact qJ (qU Tryz.func174 (by kernel_rfl) (by kernel_rfl)) rfl rfl (fun w=>rCosine _ hg w)
 ·cases h
noncomputable def yGH:OrL:=(174,zUL) :: LTa12
theorem zHE:AllP (fun x:Nat × (List PV→Option (Bool × Ret))=>zY Tryz.prog x.1 x.2) yGH:=⟨ok_rCosine,LTa12_ok⟩
end Ta
set_option maxRecDepth 100000 in
theorem aFirst (r:Int) (_:0≤r∧r≤16384) (w:World):Calls Tryz.prog 184 [.int .i64 r].toArray w (Rets (iv (qYZ r)) (w)) :=
 qH (x:=.a (ivC (qYZ r))) (qX (N:=60) (ps:=[.n .i64 r]) yY yQ (OrL.ok (l:=yGH) zHE) ((by kernel_rfl:_=bif (decide (r≤8192)) then (bif decide (0≤r∧r≤8192) then some (.v (.a (ivC (zVK r))),[])
 else none)
 else bif decide (0≤(vJJ .i64 (16384 - r))∧(vJJ .i64 (16384 - r))≤8192) then some (.v (.a (ivC (qWC (vJJ .i64 (16384 - r))))),[])
 else none).trans (by
 by_cases p:r≤8192
 ·simp only [vJQ p,vYV,vJQ (show 0≤r∧r≤8192 by omega)];unfold qYZ;rw [vJQ p]; rfl
 ·have w0:vJJ .i64 (16384 - r)=16384 - r:=qG (by omega);simp only [w0,vYH p,vYG,vJQ (show 0≤16384 - r∧16384 - r≤8192 by omega),vYV];unfold qYZ;rw [vYH p]; rfl))) rfl rfl w
set_option maxRecDepth 100000 in
theorem rQuarter (r:Int) (_:0≤r∧r≤16384) (w:World):Calls Tryz.prog 169 [.int .i64 r].toArray w (Rets (iv (qYZ r)) (w)) :=
 qH (x:=.a (ivC (qYZ r))) (qX (N:=60) (ps:=[.n .i64 r]) yY yQ (OrL.ok (l:=yGH) zHE) ((by kernel_rfl:_=bif (decide (r≤8192)) then (bif decide (0≤r∧r≤8192) then some (.v (.a (ivC (zVK r))),[])
 else none)
 else bif decide (0≤(vJJ .i64 (16384 - r))∧(vJJ .i64 (16384 - r))≤8192) then some (.v (.a (ivC (qWC (vJJ .i64 (16384 - r))))),[])
 else none).trans (by
 by_cases p:r≤8192
 ·simp only [vJQ p,vYV,vJQ (show 0≤r∧r≤8192 by omega)];unfold qYZ;rw [vJQ p]; rfl
 ·have w0:vJJ .i64 (16384 - r)=16384 - r:=qG (by omega);simp only [w0,vYH p,vYG,vJQ (show 0≤16384 - r∧16384 - r≤8192 by omega),vYV];unfold qYZ;rw [vYH p]; rfl))) rfl rfl w
namespace Ta
noncomputable def zGX:List PV→Option (Bool × Ret):=fun ps=>match ps with
 | [.n .i64 r]=>some (decide (0≤r∧r≤16384),.v (.a (ivC (qYZ r))))
 | _=>none
theorem ok_aFirst:zY Tryz.prog 184 zGX:=by
 intro ps r h;unfold zGX at h;split at h
 ·simp only [vQZ,vQY] at h;obtain ⟨hg,rfl⟩:=h
  try simp only [vQJ,decide_eq_true_eq] at hg
  exact qJ (qU Tryz.func184 (by kernel_rfl) (by kernel_rfl)) rfl rfl (fun w=>aFirst _ hg w)
 ·cases h
noncomputable def LTa14:OrL:=(184,zGX) :: yGH
theorem LTa14_ok:AllP (fun x:Nat × (List PV→Option (Bool × Ret))=>zY Tryz.prog x.1 x.2) LTa14:=⟨ok_aFirst,zHE⟩
noncomputable def zYU:List PV→Option (Bool × Ret):=fun ps=>match ps with
 | [.n .i64 r]=>some (decide (0≤r∧r≤16384),.v (.a (ivC (qYZ r))))
 | _=>none
theorem ok_rQuarter:zY Tryz.prog 169 zYU:=by
 intro ps r h;unfold zYU at h;split at h
 ·simp only [vQZ,vQY] at h;obtain ⟨hg,rfl⟩:=h
  try simp only [vQJ,decide_eq_true_eq] at hg
  exact qJ (qU Tryz.func169 (by kernel_rfl) (by kernel_rfl)) rfl rfl (fun w=>rQuarter _ hg w)
 ·cases h
noncomputable def LTa15:OrL:=(169,zYU) :: LTa14
theorem LTa15_ok:AllP (fun x:Nat × (List PV→Option (Bool × Ret))=>zY Tryz.prog x.1 x.2) LTa15:=⟨ok_rQuarter,LTa14_ok⟩
noncomputable def yXA:List PV→Option (Bool × Ret):=fun ps=>match ps with
 | [.n .i64 a]=>some (true,.v (.n .i64 ((a % 65536))))
 | _=>none
theorem ok_aMod:zY Tryz.prog 183 yXA:=by
 intro ps r h;unfold yXA at h;split at h
 ·simp only [vQZ,vQY] at h;obtain ⟨hg,rfl⟩:=h;exact qJ (qU Tryz.func183 (by kernel_rfl) (by kernel_rfl)) rfl rfl (fun w=>aMod _ w)
 ·cases h
noncomputable def LTa16:OrL:=(183,yXA) :: LTa15
theorem LTa16_ok:AllP (fun x:Nat × (List PV→Option (Bool × Ret))=>zY Tryz.prog x.1 x.2) LTa16:=⟨ok_aMod,LTa15_ok⟩
noncomputable def yXJ:List PV→Option (Bool × Ret):=fun ps=>match ps with
 | [.n .i64 a]=>some (true,.v (.n .i64 ((a % 65536))))
 | _=>none
theorem ok_rMod:zY Tryz.prog 168 yXJ:=by
 intro ps r h;unfold yXJ at h;split at h
 ·simp only [vQZ,vQY] at h;obtain ⟨hg,rfl⟩:=h;exact qJ (qU Tryz.func168 (by kernel_rfl) (by kernel_rfl)) rfl rfl (fun w=>rMod _ w)
 ·cases h
noncomputable def LTa17:OrL:=(168,yXJ) :: LTa16
theorem LTa17_ok:AllP (fun x:Nat × (List PV→Option (Bool × Ret))=>zY Tryz.prog x.1 x.2) LTa17:=⟨ok_rMod,LTa16_ok⟩
noncomputable def o_iNeg:List PV→Option (Bool × Ret):=fun ps=>match ps with
 | [.a a']=>(ivD a').bind fun a=>some (true,.v (.a (ivC (Iv.neg a))))
 | _=>none
theorem ok_iNeg:zY Tryz.prog 172 o_iNeg:=by
 intro ps r h;unfold o_iNeg at h;split at h
 ·simp only [vQQ,vQZ,vQY] at h;obtain ⟨a,ha,hg,rfl⟩:=h;rw [uK ha];exact qJ (qU Tryz.func172 (by kernel_rfl) (by kernel_rfl)) rfl rfl (fun w=>iNeg _ _ w)
 ·cases h
noncomputable def LTa18:OrL:=(172,o_iNeg) :: LTa17
theorem LTa18_ok:AllP (fun x:Nat × (List PV→Option (Bool × Ret))=>zY Tryz.prog x.1 x.2) LTa18:=⟨ok_iNeg,LTa17_ok⟩
noncomputable def o_rNeg:List PV→Option (Bool × Ret):=fun ps=>match ps with
 | [.a a']=>(ivD a').bind fun a=>some (true,.v (.a (ivC (Iv.neg a))))
 | _=>none
theorem ok_rNeg:zY Tryz.prog 156 o_rNeg:=by
 intro ps r h;unfold o_rNeg at h;split at h
 ·simp only [vQQ,vQZ,vQY] at h;obtain ⟨a,ha,hg,rfl⟩:=h;rw [uK ha];exact qJ (qU Tryz.func156 (by kernel_rfl) (by kernel_rfl)) rfl rfl (fun w=>rNeg _ _ w)
 ·cases h
noncomputable def yGG:OrL:=(156,o_rNeg) :: LTa18
theorem zHD:AllP (fun x:Nat × (List PV→Option (Bool × Ret))=>zY Tryz.prog x.1 x.2) yGG:=⟨ok_rNeg,LTa18_ok⟩
end Ta
set_option maxRecDepth 100000 in
theorem aSin (a:Int) (w:World):Calls Tryz.prog 177 [.int .i64 a].toArray w (Rets (iv (sinI a)) (w)) :=
 qH (x:=.a (ivC (sinI a))) (qX (N:=60) (ps:=[.n .i64 a]) yY yQ (OrL.ok (l:=yGG) zHD) ((by kernel_rfl:_=bif (decide ((vJJ .i64 ((a % 65536).tdiv 16384))=0)) then (bif decide (0≤((a % 65536).tmod 16384)∧((a % 65536).tmod 16384)≤16384) then some (.v (.a (ivC (qYZ ((a % 65536).tmod 16384)))),[])
 else none)
 else bif (decide ((vJJ .i64 ((a % 65536).tdiv 16384))=1)) then (bif decide (0≤(vJJ .i64 (16384 - ((a % 65536).tmod 16384)))∧(vJJ .i64 (16384 - ((a % 65536).tmod 16384)))≤16384) then some (.v (.a (ivC (qYZ (vJJ .i64 (16384 - ((a % 65536).tmod 16384)))))),[])
 else none)
 else bif (decide ((vJJ .i64 ((a % 65536).tdiv 16384))=2)) then (bif decide (0≤((a % 65536).tmod 16384)∧((a % 65536).tmod 16384)≤16384) then some (.v (.a (ivC (Iv.neg (qYZ ((a % 65536).tmod 16384))))),[])
 else none)
 else bif decide (0≤(vJJ .i64 (16384 - ((a % 65536).tmod 16384)))∧(vJJ .i64 (16384 - ((a % 65536).tmod 16384)))≤16384) then some (.v (.a (ivC (Iv.neg (qYZ (vJJ .i64 (16384 - ((a % 65536).tmod 16384))))))),[])
 else none).trans (by
 have ht:(a % 65536).tdiv 16384=a % 65536 / 16384:=tdnn (by omega);have hm:(a % 65536).tmod 16384=a % 65536 % 16384:=Int.tmod_eq_emod_of_nonneg (by omega);have w1:vJJ .i64 (a % 65536 % 16384)=a % 65536 % 16384:=qG (by omega);have w2:vJJ .i64 (a % 65536 / 16384)=a % 65536 / 16384:=qG (by omega);have w3:vJJ .i64 (16384 - a % 65536 % 16384)=16384 - a % 65536 % 16384:=qG (by omega);simp only [ht,hm,w1,w2,w3,vJQ (show 0≤a % 65536 % 16384∧a % 65536 % 16384≤16384 by omega),vJQ (show 0≤16384 - a % 65536 % 16384∧16384 - a % 65536 % 16384≤16384 by omega),vYV];unfold sinI sinM;cases decide (a % 65536 / 16384=0) <;> cases decide (a % 65536 / 16384=1) <;> cases decide (a % 65536 / 16384=2) <;> rfl))) rfl rfl w
set_option maxRecDepth 100000 in
theorem rSin (a:Int) (w:World):Calls Tryz.prog 163 [.int .i64 a].toArray w (Rets (iv (sinI a)) (w)) :=
 qH (x:=.a (ivC (sinI a))) (qX (N:=60) (ps:=[.n .i64 a]) yY yQ (OrL.ok (l:=yGG) zHD) ((by kernel_rfl:_=bif (decide ((vJJ .i64 ((a % 65536).tdiv 16384))=0)) then (bif decide (0≤((a % 65536).tmod 16384)∧((a % 65536).tmod 16384)≤16384) then some (.v (.a (ivC (qYZ ((a % 65536).tmod 16384)))),[])
 else none)
 else bif (decide ((vJJ .i64 ((a % 65536).tdiv 16384))=1)) then (bif decide (0≤(vJJ .i64 (16384 - ((a % 65536).tmod 16384)))∧(vJJ .i64 (16384 - ((a % 65536).tmod 16384)))≤16384) then some (.v (.a (ivC (qYZ (vJJ .i64 (16384 - ((a % 65536).tmod 16384)))))),[])
 else none)
 else bif (decide ((vJJ .i64 ((a % 65536).tdiv 16384))=2)) then (bif decide (0≤((a % 65536).tmod 16384)∧((a % 65536).tmod 16384)≤16384) then some (.v (.a (ivC (Iv.neg (qYZ ((a % 65536).tmod 16384))))),[])
 else none)
 else bif decide (0≤(vJJ .i64 (16384 - ((a % 65536).tmod 16384)))∧(vJJ .i64 (16384 - ((a % 65536).tmod 16384)))≤16384) then some (.v (.a (ivC (Iv.neg (qYZ (vJJ .i64 (16384 - ((a % 65536).tmod 16384))))))),[])
 else none).trans (by
 have ht:(a % 65536).tdiv 16384=a % 65536 / 16384:=tdnn (by omega);have hm:(a % 65536).tmod 16384=a % 65536 % 16384:=Int.tmod_eq_emod_of_nonneg (by omega);have w1:vJJ .i64 (a % 65536 % 16384)=a % 65536 % 16384:=qG (by omega);have w2:vJJ .i64 (a % 65536 / 16384)=a % 65536 / 16384:=qG (by omega);have w3:vJJ .i64 (16384 - a % 65536 % 16384)=16384 - a % 65536 % 16384:=qG (by omega);simp only [ht,hm,w1,w2,w3,vJQ (show 0≤a % 65536 % 16384∧a % 65536 % 16384≤16384 by omega),vJQ (show 0≤16384 - a % 65536 % 16384∧16384 - a % 65536 % 16384≤16384 by omega),vYV];unfold sinI sinM;cases decide (a % 65536 / 16384=0) <;> cases decide (a % 65536 / 16384=1) <;> cases decide (a % 65536 / 16384=2) <;> rfl))) rfl rfl w
namespace Ta
noncomputable def yXG:List PV→Option (Bool × Ret):=fun ps=>match ps with
 | [.n .i64 a]=>some (true,.v (.a (ivC (sinI a))))
 | _=>none
theorem ok_aSin:zY Tryz.prog 177 yXG:=by
 intro ps r h;unfold yXG at h;split at h
 ·simp only [vQZ,vQY] at h;obtain ⟨hg,rfl⟩:=h;exact qJ (qU Tryz.func177 (by kernel_rfl) (by kernel_rfl)) rfl rfl (fun w=>aSin _ w)
 ·cases h
noncomputable def LTa20:OrL:=(177,yXG) :: yGG
theorem LTa20_ok:AllP (fun x:Nat × (List PV→Option (Bool × Ret))=>zY Tryz.prog x.1 x.2) LTa20:=⟨ok_aSin,zHD⟩
noncomputable def yXQ:List PV→Option (Bool × Ret):=fun ps=>match ps with
 | [.n .i64 a]=>some (true,.v (.a (ivC (sinI a))))
 | _=>none
theorem ok_rSin:zY Tryz.prog 163 yXQ:=by
 intro ps r h;unfold yXQ at h;split at h
 ·simp only [vQZ,vQY] at h;obtain ⟨hg,rfl⟩:=h;exact qJ (qU Tryz.func163 (by kernel_rfl) (by kernel_rfl)) rfl rfl (fun w=>rSin _ w)
 ·cases h
noncomputable def yGV:OrL:=(163,yXQ) :: LTa20
theorem zHC:AllP (fun x:Nat × (List PV→Option (Bool × Ret))=>zY Tryz.prog x.1 x.2) yGV:=⟨ok_rSin,LTa20_ok⟩
end Ta
set_option maxRecDepth 100000 in
theorem aCos (a:Int) (w:World):Calls Tryz.prog 176 [.int .i64 a].toArray w (Rets (iv (cosI a)) (w)) :=
 qH (x:=.a (ivC (cosI a))) (qX (N:=60) (ps:=[.n .i64 a]) yY yQ (OrL.ok (l:=yGV) zHC) ((by kernel_rfl:_=some (.v (.a (ivC (sinI (vJJ .i64 ((a % 65536) + 16384))))),[])).trans (by
 rw [qG (show -9223372036854775808≤a % 65536 + 16384∧a % 65536 + 16384≤9223372036854775807 by omega)]
 rfl))) rfl rfl w
set_option maxRecDepth 100000 in
theorem rCos (a:Int) (w:World):Calls Tryz.prog 162 [.int .i64 a].toArray w (Rets (iv (cosI a)) (w)) :=
 qH (x:=.a (ivC (cosI a))) (qX (N:=60) (ps:=[.n .i64 a]) yY yQ (OrL.ok (l:=yGV) zHC) ((by kernel_rfl:_=some (.v (.a (ivC (sinI (vJJ .i64 ((a % 65536) + 16384))))),[])).trans (by
 rw [qG (show -9223372036854775808≤a % 65536 + 16384∧a % 65536 + 16384≤9223372036854775807 by omega)]
 rfl))) rfl rfl w
namespace Ta
noncomputable def yXC:List PV→Option (Bool × Ret):=fun ps=>match ps with
 | [.n .i64 a]=>some (true,.v (.a (ivC (cosI a))))
 | _=>none
theorem ok_aCos:zY Tryz.prog 176 yXC:=by
 intro ps r h;unfold yXC at h;split at h
 ·simp only [vQZ,vQY] at h;obtain ⟨hg,rfl⟩:=h;exact qJ (qU Tryz.func176 (by kernel_rfl) (by kernel_rfl)) rfl rfl (fun w=>aCos _ w)
 ·cases h
noncomputable def LTa22:OrL:=(176,yXC) :: yGV
theorem LTa22_ok:AllP (fun x:Nat × (List PV→Option (Bool × Ret))=>zY Tryz.prog x.1 x.2) LTa22:=⟨ok_aCos,zHC⟩
noncomputable def yXX:List PV→Option (Bool × Ret):=fun ps=>match ps with
 | [.n .i64 a]=>some (true,.v (.a (ivC (cosI a))))
 | _=>none
theorem ok_rCos:zY Tryz.prog 162 yXX:=by
 intro ps r h;unfold yXX at h;split at h
 ·simp only [vQZ,vQY] at h;obtain ⟨hg,rfl⟩:=h;exact qJ (qU Tryz.func162 (by kernel_rfl) (by kernel_rfl)) rfl rfl (fun w=>rCos _ w)
 ·cases h
noncomputable def LTa23:OrL:=(162,yXX) :: LTa22
theorem LTa23_ok:AllP (fun x:Nat × (List PV→Option (Bool × Ret))=>zY Tryz.prog x.1 x.2) LTa23:=⟨ok_rCos,LTa22_ok⟩
noncomputable def LTa24:OrL:=(113,Tn.o_iValid) :: LTa23
theorem LTa24_ok:AllP (fun x:Nat × (List PV→Option (Bool × Ret))=>zY Tryz.prog x.1 x.2) LTa24:=⟨Tn.ok_iValid,LTa23_ok⟩
noncomputable def yYX:List PV→Option (Bool × Ret):=fun ps=>match ps with
 | [.a a',.a b']=>(ivD a').bind fun a=>(ivD b').bind fun b=>some (true,.v (.a (ivC (Iv.hull a b))))
 | _=>none
theorem ok_iHull:zY Tryz.prog 181 yYX:=by
 intro ps r h;unfold yYX at h;split at h
 ·simp only [vQQ,vQZ,vQY] at h;obtain ⟨a,ha,b,hb,hg,rfl⟩:=h;rw [uK ha];rw [uK hb];exact qJ (qU Tryz.func181 (by kernel_rfl) (by kernel_rfl)) rfl rfl (fun w=>iHull _ _ _ _ w)
 ·cases h
noncomputable def LTa25:OrL:=(181,yYX) :: LTa24
theorem LTa25_ok:AllP (fun x:Nat × (List PV→Option (Bool × Ret))=>zY Tryz.prog x.1 x.2) LTa25:=⟨ok_iHull,LTa24_ok⟩
noncomputable def o_iOf:List PV→Option (Bool × Ret):=fun ps=>match ps with
 | [.n .i64 x]=>some (true,.v (.a (ivC (Iv.of x))))
 | _=>none
theorem ok_iOf:zY Tryz.prog 87 o_iOf:=by
 intro ps r h;unfold o_iOf at h;split at h
 ·simp only [vQZ,vQY] at h;obtain ⟨hg,rfl⟩:=h;exact qJ (qU Tryz.func87 (by kernel_rfl) (by kernel_rfl)) rfl rfl (fun w=>iOf _ w)
 ·cases h
noncomputable def LTa26:OrL:=(87,o_iOf) :: LTa25
theorem LTa26_ok:AllP (fun x:Nat × (List PV→Option (Bool × Ret))=>zY Tryz.prog x.1 x.2) LTa26:=⟨ok_iOf,LTa25_ok⟩
noncomputable def LTa27:OrL:=(124,Tn.o_rValid) :: LTa26
theorem LTa27_ok:AllP (fun x:Nat × (List PV→Option (Bool × Ret))=>zY Tryz.prog x.1 x.2) LTa27:=⟨Tn.ok_rValid,LTa26_ok⟩
noncomputable def yYQ:List PV→Option (Bool × Ret):=fun ps=>match ps with
 | [.a a',.a b']=>(ivD a').bind fun a=>(ivD b').bind fun b=>some (true,.v (.a (ivC (Iv.hull a b))))
 | _=>none
theorem ok_rHull:zY Tryz.prog 166 yYQ:=by
 intro ps r h;unfold yYQ at h;split at h
 ·simp only [vQQ,vQZ,vQY] at h;obtain ⟨a,ha,b,hb,hg,rfl⟩:=h;rw [uK ha];rw [uK hb];exact qJ (qU Tryz.func166 (by kernel_rfl) (by kernel_rfl)) rfl rfl (fun w=>rHull _ _ _ _ w)
 ·cases h
noncomputable def LTa28:OrL:=(166,yYQ) :: LTa27
theorem LTa28_ok:AllP (fun x:Nat × (List PV→Option (Bool × Ret))=>zY Tryz.prog x.1 x.2) LTa28:=⟨ok_rHull,LTa27_ok⟩
noncomputable def o_rOf:List PV→Option (Bool × Ret):=fun ps=>match ps with
 | [.n .i64 x]=>some (true,.v (.a (ivC (Iv.of x))))
 | _=>none
theorem ok_rOf:zY Tryz.prog 102 o_rOf:=by
 intro ps r h;unfold o_rOf at h;split at h
 ·simp only [vQZ,vQY] at h;obtain ⟨hg,rfl⟩:=h;exact qJ (qU Tryz.func102 (by kernel_rfl) (by kernel_rfl)) rfl rfl (fun w=>rOf _ w)
 ·cases h
noncomputable def LTa29:OrL:=(102,o_rOf) :: LTa28
theorem LTa29_ok:AllP (fun x:Nat × (List PV→Option (Bool × Ret))=>zY Tryz.prog x.1 x.2) LTa29:=⟨ok_rOf,LTa28_ok⟩
noncomputable def zGJ:List PV→Option (Bool × Ret):=fun ps=>match ps with
 | [.a a']=>(ivD a').bind fun a=>some (true,.v (.n .i64 (Iv.width a)))
 | _=>none
theorem ok_iWidth:zY Tryz.prog 180 zGJ:=by
 intro ps r h;unfold zGJ at h;split at h
 ·simp only [vQQ,vQZ,vQY] at h;obtain ⟨a,ha,hg,rfl⟩:=h;rw [uK ha];exact qJ (qU Tryz.func180 (by kernel_rfl) (by kernel_rfl)) rfl rfl (fun w=>iWidth _ _ w)
 ·cases h
noncomputable def LTa30:OrL:=(180,zGJ) :: LTa29
theorem LTa30_ok:AllP (fun x:Nat × (List PV→Option (Bool × Ret))=>zY Tryz.prog x.1 x.2) LTa30:=⟨ok_iWidth,LTa29_ok⟩
noncomputable def zGU:List PV→Option (Bool × Ret):=fun ps=>match ps with
 | [.a a',.n .i64 c]=>(ivD a').bind fun a=>some (decide (0≤c∧c < 65536) && Iv.valid a,.v (.b (kU a c)))
 | _=>none
theorem ok_aMeets:zY Tryz.prog 182 zGU:=by
 intro ps r h;unfold zGU at h;split at h
 ·simp only [vQQ,vQZ,vQY] at h;obtain ⟨a,ha,hg,rfl⟩:=h;rw [uK ha]
  try simp only [vQJ,decide_eq_true_eq] at hg
  exact qJ (qU Tryz.func182 (by kernel_rfl) (by kernel_rfl)) rfl rfl (fun w=>aMeets _ _ _ hg.2 hg.1 w)
 ·cases h
noncomputable def LTa31:OrL:=(182,zGU) :: LTa30
theorem LTa31_ok:AllP (fun x:Nat × (List PV→Option (Bool × Ret))=>zY Tryz.prog x.1 x.2) LTa31:=⟨ok_aMeets,LTa30_ok⟩
noncomputable def zVE:List PV→Option (Bool × Ret):=fun ps=>match ps with
 | [.a a',.n .i64 c]=>(ivD a').bind fun a=>some (decide (0≤c∧c < 65536) && Iv.valid a,.v (.b (kU a c)))
 | _=>none
theorem ok_rMeets:zY Tryz.prog 167 zVE:=by
 intro ps r h;unfold zVE at h;split at h
 ·simp only [vQQ,vQZ,vQY] at h;obtain ⟨a,ha,hg,rfl⟩:=h;rw [uK ha]
  try simp only [vQJ,decide_eq_true_eq] at hg
  exact qJ (qU Tryz.func167 (by kernel_rfl) (by kernel_rfl)) rfl rfl (fun w=>rMeets _ _ _ hg.2 hg.1 w)
 ·cases h
noncomputable def yWC:OrL:=(167,zVE) :: LTa31
theorem zKC:AllP (fun x:Nat × (List PV→Option (Bool × Ret))=>zY Tryz.prog x.1 x.2) yWC:=⟨ok_rMeets,LTa31_ok⟩
end Ta
set_option maxRecDepth 100000 in
theorem aSinOver (a0 a1:Int) (w:World):Calls Tryz.prog 171 [.agg #[.int .i64 a0,.int .i64 a1]].toArray w (Rets (iv (kJ (⟨a0,a1⟩:Iv))) (w)) :=
 qH (x:=.a (ivC (kJ ⟨a0,a1⟩))) (qX (N:=60) (ps:=[.a [.n .i64 a0,.n .i64 a1]]) yY yQ (OrL.ok (l:=yWC) zKC) ((by kernel_rfl:_=bif Iv.valid (Iv.mk a0 a1) then (bif (decide (65536≤Iv.width (Iv.mk a0 a1))) then some (.v (.a [.n .i64 (-65536),.n .i64 65536]),[])
 else bif Iv.valid (Iv.mk a0 a1) then (bif kU (Iv.mk a0 a1) 16384 then (bif Iv.valid (Iv.mk a0 a1) then (bif kU (Iv.mk a0 a1) 49152 then some (.v (.a (ivC (Iv.hull (Iv.hull (Iv.hull (sinI a0) (sinI a1)) (Iv.of 65536)) (Iv.of (-65536))))),[])
 else some (.v (.a (ivC (Iv.hull (Iv.hull (sinI a0) (sinI a1)) (Iv.of 65536)))),[]))
 else none)
 else bif Iv.valid (Iv.mk a0 a1) then (bif kU (Iv.mk a0 a1) 49152 then some (.v (.a (ivC (Iv.hull (Iv.hull (sinI a0) (sinI a1)) (Iv.of (-65536))))),[])
 else some (.v (.a (ivC (Iv.hull (sinI a0) (sinI a1)))),[]))
 else none)
 else none)
 else some (.v (.a [.n .i64 0,.n .i64 0]),[])).trans (by
 have e:kJ ⟨a0,a1⟩=bif !Iv.valid (Iv.mk a0 a1) then ⟨0,0⟩ else bif decide (65536≤a1 - a0) then ⟨-65536,65536⟩ else bif kU (Iv.mk a0 a1) 49152 then Iv.hull (bif kU (Iv.mk a0 a1) 16384 then Iv.hull (Iv.hull (sinI a0) (sinI a1)) (Iv.of 65536) else Iv.hull (sinI a0) (sinI a1)) (Iv.of (-65536)) else (bif kU (Iv.mk a0 a1) 16384 then Iv.hull (Iv.hull (sinI a0) (sinI a1)) (Iv.of 65536) else Iv.hull (sinI a0) (sinI a1)):=rfl
 rw [e];cases hv:Iv.valid (Iv.mk a0 a1) with
 | false=>rfl
 | true =>
  have hb:=uJ hv;have hw:Iv.width (Iv.mk a0 a1)=a1 - a0:=by unfold Iv.width; rw [hv]; rfl
  rw [hw];cases decide (65536≤a1 - a0) <;> cases kU (Iv.mk a0 a1) 16384 <;> cases kU (Iv.mk a0 a1) 49152 <;> rfl))) rfl rfl w
set_option maxRecDepth 100000 in
theorem aCosOver (a0 a1:Int) (w:World):Calls Tryz.prog 170 [.agg #[.int .i64 a0,.int .i64 a1]].toArray w (Rets (iv (kK (⟨a0,a1⟩:Iv))) (w)) :=
 qH (x:=.a (ivC (kK ⟨a0,a1⟩))) (qX (N:=60) (ps:=[.a [.n .i64 a0,.n .i64 a1]]) yY yQ (OrL.ok (l:=yWC) zKC) ((by kernel_rfl:_=bif Iv.valid (Iv.mk a0 a1) then (bif (decide (65536≤Iv.width (Iv.mk a0 a1))) then some (.v (.a [.n .i64 (-65536),.n .i64 65536]),[])
 else bif Iv.valid (Iv.mk a0 a1) then (bif kU (Iv.mk a0 a1) 0 then (bif Iv.valid (Iv.mk a0 a1) then (bif kU (Iv.mk a0 a1) 32768 then some (.v (.a (ivC (Iv.hull (Iv.hull (Iv.hull (cosI a0) (cosI a1)) (Iv.of 65536)) (Iv.of (-65536))))),[])
 else some (.v (.a (ivC (Iv.hull (Iv.hull (cosI a0) (cosI a1)) (Iv.of 65536)))),[]))
 else none)
 else bif Iv.valid (Iv.mk a0 a1) then (bif kU (Iv.mk a0 a1) 32768 then some (.v (.a (ivC (Iv.hull (Iv.hull (cosI a0) (cosI a1)) (Iv.of (-65536))))),[])
 else some (.v (.a (ivC (Iv.hull (cosI a0) (cosI a1)))),[]))
 else none)
 else none)
 else some (.v (.a [.n .i64 0,.n .i64 0]),[])).trans (by
 have e:kK ⟨a0,a1⟩=bif !Iv.valid (Iv.mk a0 a1) then ⟨0,0⟩ else bif decide (65536≤a1 - a0) then ⟨-65536,65536⟩ else bif kU (Iv.mk a0 a1) 32768 then Iv.hull (bif kU (Iv.mk a0 a1) 0 then Iv.hull (Iv.hull (cosI a0) (cosI a1)) (Iv.of 65536) else Iv.hull (cosI a0) (cosI a1)) (Iv.of (-65536)) else (bif kU (Iv.mk a0 a1) 0 then Iv.hull (Iv.hull (cosI a0) (cosI a1)) (Iv.of 65536) else Iv.hull (cosI a0) (cosI a1)):=rfl
 rw [e];cases hv:Iv.valid (Iv.mk a0 a1) with
 | false=>rfl
 | true =>
  have hb:=uJ hv;have hw:Iv.width (Iv.mk a0 a1)=a1 - a0:=by unfold Iv.width; rw [hv]; rfl
  rw [hw];cases decide (65536≤a1 - a0) <;> cases kU (Iv.mk a0 a1) 0 <;> cases kU (Iv.mk a0 a1) 32768 <;> rfl))) rfl rfl w
set_option maxRecDepth 100000 in
theorem rSinOver (a0 a1:Int) (w:World):Calls Tryz.prog 155 [.agg #[.int .i64 a0,.int .i64 a1]].toArray w (Rets (iv (kJ (⟨a0,a1⟩:Iv))) (w)) :=
 qH (x:=.a (ivC (kJ ⟨a0,a1⟩))) (qX (N:=60) (ps:=[.a [.n .i64 a0,.n .i64 a1]]) yY yQ (OrL.ok (l:=yWC) zKC) ((by kernel_rfl:_=bif Iv.valid (Iv.mk a0 a1) then (bif (decide (65536≤(vJJ .i64 (a1 - a0)))) then some (.v (.a [.n .i64 (-65536),.n .i64 65536]),[])
 else bif Iv.valid (Iv.mk a0 a1) then (bif kU (Iv.mk a0 a1) 16384 then (bif Iv.valid (Iv.mk a0 a1) then (bif kU (Iv.mk a0 a1) 49152 then some (.v (.a (ivC (Iv.hull (Iv.hull (Iv.hull (sinI a0) (sinI a1)) (Iv.of 65536)) (Iv.of (-65536))))),[])
 else some (.v (.a (ivC (Iv.hull (Iv.hull (sinI a0) (sinI a1)) (Iv.of 65536)))),[]))
 else none)
 else bif Iv.valid (Iv.mk a0 a1) then (bif kU (Iv.mk a0 a1) 49152 then some (.v (.a (ivC (Iv.hull (Iv.hull (sinI a0) (sinI a1)) (Iv.of (-65536))))),[])
 else some (.v (.a (ivC (Iv.hull (sinI a0) (sinI a1)))),[]))
 else none)
 else none)
 else some (.v (.a [.n .i64 0,.n .i64 0]),[])).trans (by
 have e:kJ ⟨a0,a1⟩=bif !Iv.valid (Iv.mk a0 a1) then ⟨0,0⟩ else bif decide (65536≤a1 - a0) then ⟨-65536,65536⟩ else bif kU (Iv.mk a0 a1) 49152 then Iv.hull (bif kU (Iv.mk a0 a1) 16384 then Iv.hull (Iv.hull (sinI a0) (sinI a1)) (Iv.of 65536) else Iv.hull (sinI a0) (sinI a1)) (Iv.of (-65536)) else (bif kU (Iv.mk a0 a1) 16384 then Iv.hull (Iv.hull (sinI a0) (sinI a1)) (Iv.of 65536) else Iv.hull (sinI a0) (sinI a1)):=rfl
 rw [e];cases hv:Iv.valid (Iv.mk a0 a1) with
 | false=>rfl
 | true =>
  have hb:=uJ hv;have hw:vJJ .i64 (a1 - a0)=a1 - a0:=qG (by omega);rw [hw];cases decide (65536≤a1 - a0) <;> cases kU (Iv.mk a0 a1) 16384 <;> cases kU (Iv.mk a0 a1) 49152 <;> rfl))) rfl rfl w
set_option maxRecDepth 100000 in
theorem rCosOver (a0 a1:Int) (w:World):Calls Tryz.prog 154 [.agg #[.int .i64 a0,.int .i64 a1]].toArray w (Rets (iv (kK (⟨a0,a1⟩:Iv))) (w)) :=
 qH (x:=.a (ivC (kK ⟨a0,a1⟩))) (qX (N:=60) (ps:=[.a [.n .i64 a0,.n .i64 a1]]) yY yQ (OrL.ok (l:=yWC) zKC) ((by kernel_rfl:_=bif Iv.valid (Iv.mk a0 a1) then (bif (decide (65536≤(vJJ .i64 (a1 - a0)))) then some (.v (.a [.n .i64 (-65536),.n .i64 65536]),[])
 else bif Iv.valid (Iv.mk a0 a1) then (bif kU (Iv.mk a0 a1) 0 then (bif Iv.valid (Iv.mk a0 a1) then (bif kU (Iv.mk a0 a1) 32768 then some (.v (.a (ivC (Iv.hull (Iv.hull (Iv.hull (cosI a0) (cosI a1)) (Iv.of 65536)) (Iv.of (-65536))))),[])
 else some (.v (.a (ivC (Iv.hull (Iv.hull (cosI a0) (cosI a1)) (Iv.of 65536)))),[]))
 else none)
 else bif Iv.valid (Iv.mk a0 a1) then (bif kU (Iv.mk a0 a1) 32768 then some (.v (.a (ivC (Iv.hull (Iv.hull (cosI a0) (cosI a1)) (Iv.of (-65536))))),[])
 else some (.v (.a (ivC (Iv.hull (cosI a0) (cosI a1)))),[]))
 else none)
 else none)
 else some (.v (.a [.n .i64 0,.n .i64 0]),[])).trans (by
 have e:kK ⟨a0,a1⟩=bif !Iv.valid (Iv.mk a0 a1) then ⟨0,0⟩ else bif decide (65536≤a1 - a0) then ⟨-65536,65536⟩ else bif kU (Iv.mk a0 a1) 32768 then Iv.hull (bif kU (Iv.mk a0 a1) 0 then Iv.hull (Iv.hull (cosI a0) (cosI a1)) (Iv.of 65536) else Iv.hull (cosI a0) (cosI a1)) (Iv.of (-65536)) else (bif kU (Iv.mk a0 a1) 0 then Iv.hull (Iv.hull (cosI a0) (cosI a1)) (Iv.of 65536) else Iv.hull (cosI a0) (cosI a1)):=rfl
 rw [e];cases hv:Iv.valid (Iv.mk a0 a1) with
 | false=>rfl
 | true =>
  have hb:=uJ hv;have hw:vJJ .i64 (a1 - a0)=a1 - a0:=qG (by omega);rw [hw];cases decide (65536≤a1 - a0) <;> cases kU (Iv.mk a0 a1) 0 <;> cases kU (Iv.mk a0 a1) 32768 <;> rfl))) rfl rfl w
end Go.Proofs.YtfcofnclgajfeaaGreat

/- Part 8 of the texts behind the last one: rules and contracts. No condition. -/
import Derived.Test.YtmeldddgjfocdaaGreatGN7
open Option.some renaming injEq → vQZ
open Prod.mk renaming injEq → vQY
open Bool renaming and_eq_true → vQJ, and_self → vZQ, true_and → vZW
open Go.IntKind renaming wrap → vYX
namespace Go.Proofs.YtmeldddgjfocdaaGreat.Nb
open Go.Rx Rt Go.Sx Go.RowKit Od
open Na
def fJ (js:Nat→J):Nat→List PV:=fun v=>jp (js v)
def fM (ms:Nat→Ms):Nat→List PV:=fun v=>mp (ms v)
def fnd (js:Nat→J) (nm:ByteArray):Nat→Nat→Int
 | 0,_ => -1
 | k + 1,p=>bif ((js p).name.toList == nm.toList) then (p:Int) else fnd js nm k (p + 1)
def dup (js:Nat→J) (nm:ByteArray):Nat→Nat→Bool
 | 0,_=>false
 | k + 1,p=>((js p).name.toList == nm.toList) || dup js nm k (p + 1)
def hF (js:Nat→J) (ms:Nat→Ms) (n m:Nat) (nm:ByteArray) (i:Int):St:=⟨[(1,.v (.s nm)),(2,.p 2 0),(8,.v (.n .i64 (n:Int))),(9,.v (.n .i64 i))],[(2,.blk [.v (.lf n (fJ js)),.v (.lf m (fM ms))])]⟩
set_option maxRecDepth 100000 in
theorem rdF (G:St→Option (Ret × Mem)) (K:Cont) (js:Nat→J) (ms:Nat→Ms) (n m:Nat) (nm:ByteArray) (i:Int):qZX 60 (cxF T (OrL.k ([]:OrL)) 60 168 (ntmF T 168)) (ckF T (OrL.k ([]:OrL)) 60) (qQ T 168 [0,1,0,1]) (fun e τ=>match e with
 | .normal=>G (qQD ((cxF T (OrL.k ([]:OrL)) 60 168 (ntmF T 168)).T.hint (cxF T (OrL.k ([]:OrL)) 60 168 (ntmF T 168)).me (qJ (qQ T 168 [0,1,0,1]))) τ)
 | e=>K e (qQZ ((cxF T (OrL.k ([]:OrL)) 60 168 (ntmF T 168)).T.hint (cxF T (OrL.k ([]:OrL)) 60 168 (ntmF T 168)).me (qJ (qQ T 168 [0,1,0,1]))) τ)) (hF js ms n m nm i) =
 (bif (decide (i < (n:Int))) then (bif (inB i n) then (bif ((js (i).toNat).name.toList == nm.toList) then (K .ret ⟨[(4,.v (.n .i64 i))],[]⟩)
 else (G (hF js ms n m nm (vYX .i64 (i + 1)))))
 else none)
 else (K (.exit 0) ⟨[],[]⟩)):=by kernel_rfl
theorem lpF (K:Cont) (js:Nat→J) (ms:Nat→Ms) (n m:Nat) (nm:ByteArray) (hn:n≤1000):∀ (k p q:Nat),p + k=n→k < q→LF 60 (cxF T (OrL.k ([]:OrL)) 60 168 (ntmF T 168)) (ckF T (OrL.k ([]:OrL)) 60) (qQ T 168 [0,1,0,1]) ((cxF T (OrL.k ([]:OrL)) 60 168 (ntmF T 168)).T.hint (cxF T (OrL.k ([]:OrL)) 60 168 (ntmF T 168)).me (qJ (qQ T 168 [0,1,0,1]))) K q (hF js ms n m nm p)=(bif decide (fnd js nm k p = -1) then K (.exit 0) ⟨[],[]⟩ else K .ret ⟨[(4,.v (.n .i64 (fnd js nm k p)))],[]⟩)
 | 0,p,q + 1,hp,hq=>by
  refine (rdF (fun σ=>LF 60 (cxF T (OrL.k ([]:OrL)) 60 168 (ntmF T 168)) (ckF T (OrL.k ([]:OrL)) 60) (qQ T 168 [0,1,0,1]) ((cxF T (OrL.k ([]:OrL)) 60 168 (ntmF T 168)).T.hint (cxF T (OrL.k ([]:OrL)) 60 168 (ntmF T 168)).me (qJ (qQ T 168 [0,1,0,1]))) K q σ) K js ms n m nm p).trans ?_;rw [vYY (show ¬ (p:Int) < (n:Int) by omega)];rfl
 | k + 1,p,q + 1,hp,hq=>by
  refine (rdF (fun σ=>LF 60 (cxF T (OrL.k ([]:OrL)) 60 168 (ntmF T 168)) (ckF T (OrL.k ([]:OrL)) 60) (qQ T 168 [0,1,0,1]) ((cxF T (OrL.k ([]:OrL)) 60 168 (ntmF T 168)).T.hint (cxF T (OrL.k ([]:OrL)) 60 168 (ntmF T 168)).me (qJ (qQ T 168 [0,1,0,1]))) K q σ) K js ms n m nm p).trans ?_;rw [vYJ (show (p:Int) < (n:Int) by omega),zJ (show p < n by omega),jZ (by omega),lpF K js ms n m nm hn k (p + 1) q (by omega) (by omega),toN];by_cases hq:((js p).name.toList == nm.toList)=true
  ·simp only [fnd,hq,vYQ,vYY (show ¬ (p:Int) = -1 by omega),vYZ]
  ·rw [Bool.not_eq_true] at hq;simp only [fnd,hq,vYQ,vYZ]
set_option maxRecDepth 100000 in
theorem pxF (js:Nat→J) (ms:Nat→Ms) (n m:Nat) (nm:ByteArray):qVE T (OrL.k ([]:OrL)) (qZ [([0,1,0,1],kG (hF js ms n m nm 0) (fun K=>(bif decide (fnd js nm n 0 = -1) then K (.exit 0) ⟨[],[]⟩ else K .ret ⟨[(4,.v (.n .i64 (fnd js nm n 0)))],[]⟩)))]) 60 168 [(.a [.lf n (fJ js),.lf m (fM ms)]),.s nm] =
 bif gSt (hF js ms n m nm 0) (hF js ms n m nm 0) then (bif decide (fnd js nm n 0 = -1) then some (.v (.n .i64 (-1)),[]) else some (.v (.n .i64 (fnd js nm n 0)),[])) else none:=by kernel_rfl
theorem yKH (js:Nat→J) (ms:Nat→Ms) (n m:Nat) (nm:ByteArray) (_:n≤50):qH Tryz.prog 168 [(.a [.lf n (fJ js),.lf m (fM ms)]),.s nm] (.v (.n .i64 (fnd js nm n 0))):=by
 refine uW (N:=60) (LO:=qZ [([0,1,0,1],kG (hF js ms n m nm 0) (fun K=>(bif decide (fnd js nm n 0 = -1) then K (.exit 0) ⟨[],[]⟩ else K .ret ⟨[(4,.v (.n .i64 (fnd js nm n 0)))],[]⟩)))]) zV qG (OrL.ok (l:=[]) trivial) (fun p S hp => ?_) ?_
 ·refine qQB (L:=qQ T 168) (l:=[([0,1,0,1],kG (hF js ms n m nm 0) (fun K=>(bif decide (fnd js nm n 0 = -1) then K (.exit 0) ⟨[],[]⟩ else K .ret ⟨[(4,.v (.n .i64 (fnd js nm n 0)))],[]⟩)))]) (show AllP _ [([0,1,0,1],kG (hF js ms n m nm 0) (fun K=>(bif decide (fnd js nm n 0 = -1) then K (.exit 0) ⟨[],[]⟩ else K .ret ⟨[(4,.v (.n .i64 (fnd js nm n 0)))],[]⟩)))] from ⟨qZU fun K r hr => ?_,trivial⟩) p S hp;exact (lpF K js ms n m nm (by omega) n 0 60 (by omega) (by omega)).trans hr
 ·refine (pxF js ms n m nm).trans ?_;rw [zQ,vYQ];by_cases h:fnd js nm n 0 = -1
  ·rw [vYJ h,h]; rfl
  ·rw [vYY h]; rfl
theorem yYC (js:Nat→J) (i:Nat):∀ (k p:Nat),p≤i→i < p + k→(fnd js (js i).name k p=(i:Int) ↔ dup js (js i).name (i - p) p=false)
 | 0,p,h1,h2=>by omega
 | k + 1,p,h1,h2=>by
  by_cases he:p=i
  ·subst he;rw [Nat.sub_self];simp [fnd,dup]
  ·have ih:=yYC js i k (p + 1) (by omega) (by omega);rw [show i - p=(i - (p + 1)) + 1 by omega];simp only [fnd,dup];cases ((js p).name.toList == (js i).name.toList)
   ·simpa using ih
   ·simp; omega
def cpT {α:Type} (f:Int→α) (i:Int) (j:J):α:=(bif (decide (j.kind < 0)) then (f 803) else (bif (decide (6 < j.kind)) then (f 803) else (bif (decide (j.parent < (-1))) then (f 804) else (bif (decide (i≤j.parent)) then (f 804) else (bif (decide (j.off.x < (-4194304))) then (f 805) else (bif (decide (4194304 < j.off.x)) then (f 805) else (bif (decide (j.off.y < (-4194304))) then (f 805) else (bif (decide (4194304 < j.off.y)) then (f 805) else (bif (decide (j.off.z < (-4194304))) then (f 805) else (bif (decide (4194304 < j.off.z)) then (f 805) else (bif (decide (j.kind=1)) then (bif (decide (j.hi < j.lo)) then (f 806) else (bif (decide (j.lo < (-524288))) then (f 806) else (bif (decide (524288 < j.hi)) then (f 806) else (bif (decide (1≤j.weight)) then (bif (decide (j.weight≤1024)) then (bif (decide (1≤j.speed)) then (bif (decide (j.speed≤1048576)) then (bif (decide (1≤j.accel)) then (bif (decide (j.accel≤1048576)) then (bif (decide (1≤j.torque)) then (bif (decide (j.torque≤1099511627776)) then (f 0) else (f 807)) else (f 807)) else (f 807)) else (f 807)) else (f 807)) else (f 807)) else (f 807)) else (f 807))))) else (bif (decide (j.kind=2)) then (bif (decide (j.hi < j.lo)) then (f 806) else (bif (decide (j.lo < (-524288))) then (f 806) else (bif (decide (524288 < j.hi)) then (f 806) else (bif (decide (1≤j.weight)) then (bif (decide (j.weight≤1024)) then (bif (decide (1≤j.speed)) then (bif (decide (j.speed≤1048576)) then (bif (decide (1≤j.accel)) then (bif (decide (j.accel≤1048576)) then (bif (decide (1≤j.torque)) then (bif (decide (j.torque≤1099511627776)) then (f 0) else (f 807)) else (f 807)) else (f 807)) else (f 807)) else (f 807)) else (f 807)) else (f 807)) else (f 807))))) else (bif (decide (j.kind=3)) then (bif (decide (j.hi < j.lo)) then (f 806) else (bif (decide (j.lo < (-524288))) then (f 806) else (bif (decide (524288 < j.hi)) then (f 806) else (bif (decide (1≤j.weight)) then (bif (decide (j.weight≤1024)) then (bif (decide (1≤j.speed)) then (bif (decide (j.speed≤1048576)) then (bif (decide (1≤j.accel)) then (bif (decide (j.accel≤1048576)) then (bif (decide (1≤j.torque)) then (bif (decide (j.torque≤1099511627776)) then (f 0) else (f 807)) else (f 807)) else (f 807)) else (f 807)) else (f 807)) else (f 807)) else (f 807)) else (f 807))))) else (bif (decide (j.kind=4)) then (bif (decide (j.hi < j.lo)) then (f 806) else (bif (decide (j.lo < (-4194304))) then (f 806) else (bif (decide (4194304 < j.hi)) then (f 806) else (bif (decide (1≤j.weight)) then (bif (decide (j.weight≤1024)) then (bif (decide (1≤j.speed)) then (bif (decide (j.speed≤1048576)) then (bif (decide (1≤j.accel)) then (bif (decide (j.accel≤1048576)) then (bif (decide (1≤j.torque)) then (bif (decide (j.torque≤1099511627776)) then (f 0) else (f 807)) else (f 807)) else (f 807)) else (f 807)) else (f 807)) else (f 807)) else (f 807)) else (f 807))))) else (bif (decide (j.kind=5)) then (bif (decide (j.hi < j.lo)) then (f 806) else (bif (decide (j.lo < (-4194304))) then (f 806) else (bif (decide (4194304 < j.hi)) then (f 806) else (bif (decide (1≤j.weight)) then (bif (decide (j.weight≤1024)) then (bif (decide (1≤j.speed)) then (bif (decide (j.speed≤1048576)) then (bif (decide (1≤j.accel)) then (bif (decide (j.accel≤1048576)) then (bif (decide (1≤j.torque)) then (bif (decide (j.torque≤1099511627776)) then (f 0) else (f 807)) else (f 807)) else (f 807)) else (f 807)) else (f 807)) else (f 807)) else (f 807)) else (f 807))))) else (bif (decide (j.kind=6)) then (bif (decide (j.hi < j.lo)) then (f 806) else (bif (decide (j.lo < (-4194304))) then (f 806) else (bif (decide (4194304 < j.hi)) then (f 806) else (bif (decide (1≤j.weight)) then (bif (decide (j.weight≤1024)) then (bif (decide (1≤j.speed)) then (bif (decide (j.speed≤1048576)) then (bif (decide (1≤j.accel)) then (bif (decide (j.accel≤1048576)) then (bif (decide (1≤j.torque)) then (bif (decide (j.torque≤1099511627776)) then (f 0) else (f 807)) else (f 807)) else (f 807)) else (f 807)) else (f 807)) else (f 807)) else (f 807)) else (f 807))))) else (bif (decide (j.hi < j.lo)) then (f 806) else (bif (decide (j.lo < 0)) then (f 806) else (bif (decide (0 < j.hi)) then (f 806) else (bif (decide (1≤j.weight)) then (bif (decide (j.weight≤1024)) then (bif (decide (1≤j.speed)) then (bif (decide (j.speed≤1048576)) then (bif (decide (1≤j.accel)) then (bif (decide (j.accel≤1048576)) then (bif (decide (1≤j.torque)) then (bif (decide (j.torque≤1099511627776)) then (f 0) else (f 807)) else (f 807)) else (f 807)) else (f 807)) else (f 807)) else (f 807)) else (f 807)) else (f 807)))))))))))))))))))))
theorem kKK {α:Type} (f:Int→α) (i:Int) (j:J):cpT f i j=cjT f i j:=by
 unfold cpT cjT;by_cases h0:j.kind < 0
 ·simp only [vYJ h0,vYQ]
 by_cases h6:6 < j.kind
 ·simp only [vYJ h6,vYQ]
 rcases (by omega:j.kind=0 ∨ j.kind=1 ∨ j.kind=2 ∨ j.kind=3 ∨ j.kind=4 ∨ j.kind=5 ∨ j.kind=6) with h | h | h | h | h | h | h
 ·simp only [vYJ (show j.kind=0 by omega),vYY (show ¬ j.kind=1 by omega),vYY (show ¬ j.kind=2 by omega),vYY (show ¬ j.kind=3 by omega),vYY (show ¬ j.kind=4 by omega),vYY (show ¬ j.kind=5 by omega),vYY (show ¬ j.kind=6 by omega),vYQ,vYZ]
 ·simp only [vYY (show ¬ j.kind=0 by omega),vYJ (show j.kind=1 by omega),vYY (show ¬ j.kind=2 by omega),vYY (show ¬ j.kind=3 by omega),vYY (show ¬ j.kind=4 by omega),vYY (show ¬ j.kind=5 by omega),vYY (show ¬ j.kind=6 by omega),vYQ,vYZ]
 ·simp only [vYY (show ¬ j.kind=0 by omega),vYY (show ¬ j.kind=1 by omega),vYJ (show j.kind=2 by omega),vYY (show ¬ j.kind=3 by omega),vYY (show ¬ j.kind=4 by omega),vYY (show ¬ j.kind=5 by omega),vYY (show ¬ j.kind=6 by omega),vYQ,vYZ]
 ·simp only [vYY (show ¬ j.kind=0 by omega),vYY (show ¬ j.kind=1 by omega),vYY (show ¬ j.kind=2 by omega),vYJ (show j.kind=3 by omega),vYY (show ¬ j.kind=4 by omega),vYY (show ¬ j.kind=5 by omega),vYY (show ¬ j.kind=6 by omega),vYQ,vYZ]
 ·simp only [vYY (show ¬ j.kind=0 by omega),vYY (show ¬ j.kind=1 by omega),vYY (show ¬ j.kind=2 by omega),vYY (show ¬ j.kind=3 by omega),vYJ (show j.kind=4 by omega),vYY (show ¬ j.kind=5 by omega),vYY (show ¬ j.kind=6 by omega),vYQ,vYZ]
 ·simp only [vYY (show ¬ j.kind=0 by omega),vYY (show ¬ j.kind=1 by omega),vYY (show ¬ j.kind=2 by omega),vYY (show ¬ j.kind=3 by omega),vYY (show ¬ j.kind=4 by omega),vYJ (show j.kind=5 by omega),vYY (show ¬ j.kind=6 by omega),vYQ,vYZ]
 ·simp only [vYY (show ¬ j.kind=0 by omega),vYY (show ¬ j.kind=1 by omega),vYY (show ¬ j.kind=2 by omega),vYY (show ¬ j.kind=3 by omega),vYY (show ¬ j.kind=4 by omega),vYY (show ¬ j.kind=5 by omega),vYJ (show j.kind=6 by omega),vYQ,vYZ]
def jErr (js:Nat→J) (n i:Nat):Int:=bif nmB (js i).name then (bif dup js (js i).name i 0 then 802 else cjT (fun e=>e) i (js i)) else 802
noncomputable def o_nm:List PV→Option (Bool × Ret):=fun ps=>match ps with
 | [.s s]=>some (true,.v (.b (nmB s)))
 | _=>none
theorem jXA:jG Tryz.prog 61 o_nm:=by
 intro ps r hh;unfold o_nm at hh;split at hh
 ·simp only [vQZ,vQY] at hh;obtain ⟨_,rfl⟩:=hh;exact jUX _
 ·cases hh
theorem jJY:jG Tryz.prog 116 o_nm:=by
 intro ps r hh;unfold o_nm at hh;split at hh
 ·simp only [vQZ,vQY] at hh;obtain ⟨_,rfl⟩:=hh;exact jUW _
 ·cases hh
noncomputable def o_fd (js:Nat→J) (ms:Nat→Ms) (n m:Nat):List PV→Option (Bool × Ret):=fun ps=>match ps with
 | [r,.s s]=>some (gEq r (.a [.lf n (fJ js),.lf m (fM ms)]),.v (.n .i64 (fnd js s n 0)))
 | _=>none
theorem yXC (js:Nat→J) (ms:Nat→Ms) (n m:Nat) (hn:n≤50):jG Tryz.prog 168 (o_fd js ms n m):=by
 intro ps r hh;unfold o_fd at hh;split at hh
 ·simp only [vQZ,vQY] at hh;obtain ⟨hg,rfl⟩:=hh;obtain rfl:=qVG hg;exact yKH _ _ _ _ _ hn
 ·cases hh
set_option maxRecDepth 100000 in
theorem jKI (js:Nat→J) (ms:Nat→Ms) (n m:Nat) (i:Int):runK T (OrL.k [(61,o_nm),(168,o_fd js ms n m)]) 60 146 [(.a [.lf n (fJ js),.lf m (fM ms)]),.n .i64 i] =
 bif inB i n then (bif nmB (js i.toNat).name then (bif gEq (.a [.lf n (fJ js),.lf m (fM ms)]) (.a [.lf n (fJ js),.lf m (fM ms)]) then (bif !decide (fnd js (js i.toNat).name n 0=i) then some (.v (.n .i64 802),[]) else cpT F_n i (js i.toNat)) else none) else some (.v (.n .i64 802),[])) else none:=by kernel_rfl
theorem F_cj (i:Int) (j:J):cjT F_n i j=F_n (cjT (fun e=>e) i j):=by
 unfold cjT;simp only [Bool.apply_cond F_n]
theorem jZY (js:Nat→J) (ms:Nat→Ms) (n m:Nat) (hn:n≤50) (i:Nat) (hi:i < n):qH Tryz.prog 146 [(.a [.lf n (fJ js),.lf m (fM ms)]),.n .i64 i] (.v (.n .i64 (jErr js n i))):=by
 refine qYI (N:=60) zV qG (OrL.ok (l:=[(61,o_nm),(168,o_fd js ms n m)]) ⟨jXA,yXC js ms n m hn,trivial⟩) ?_;rw [jKI,zJ hi,vYQ,toN,qKE,vYQ,kKK,F_cj];have hd:=yYC js i n 0 (by omega) (by omega);rw [Nat.sub_zero] at hd;unfold jErr;cases nmB (js i).name with
 | false=>rfl
 | true =>
  cases hq:dup js (js i).name i 0 with
  | false=>rw [vYJ (hd.2 hq)]; rfl
  | true=>rw [vYY (fun h=>by rw [hd.1 h] at hq; cases hq)]; rfl
def hC (js:Nat→J) (n:Nat) (i:Int) (k:Int):St:=⟨[(0,.v (.lf n (fJ js))),(1,.v (.n .i64 i)),(5,.p 5 0),(6,.v (.n .i64 k))],[(5,.blk [.v (.s (js (i).toNat).name),.v (.n .i64 (js (i).toNat).kind),.v (.n .i64 (js (i).toNat).parent),.v (.n .i64 (js (i).toNat).off.x),.v (.n .i64 (js (i).toNat).off.y),.v (.n .i64 (js (i).toNat).off.z),.v (.n .i64 (js (i).toNat).lo),.v (.n .i64 (js (i).toNat).hi),.v (.n .i64 (js (i).toNat).weight),.v (.n .i64 (js (i).toNat).speed),.v (.n .i64 (js (i).toNat).accel),.v (.n .i64 (js (i).toNat).torque)])]⟩
set_option maxRecDepth 100000 in
theorem rdC (G:St→Option (Ret × Mem)) (K:Cont) (js:Nat→J) (n:Nat) (i:Int) (k:Int):qZX 60 (cxF T (OrL.k [(116,o_nm)]) 60 119 (ntmF T 119)) (ckF T (OrL.k [(116,o_nm)]) 60) (qQ T 119 [0,1,0,1,1,1]) (fun e τ=>match e with
 | .normal=>G (qQD ((cxF T (OrL.k [(116,o_nm)]) 60 119 (ntmF T 119)).T.hint (cxF T (OrL.k [(116,o_nm)]) 60 119 (ntmF T 119)).me (qJ (qQ T 119 [0,1,0,1,1,1]))) τ)
 | e=>K e (qQZ ((cxF T (OrL.k [(116,o_nm)]) 60 119 (ntmF T 119)).T.hint (cxF T (OrL.k [(116,o_nm)]) 60 119 (ntmF T 119)).me (qJ (qQ T 119 [0,1,0,1,1,1]))) τ)) (hC js n i k) =
 (bif (decide (k < i)) then (bif (inB k n) then (bif ((js (k).toNat).name.toList == (js (i).toNat).name.toList) then (K .ret ⟨[(1,.v (.n .i64 i)),(4,.v (.n .i64 802)),(5,.p 5 0)],[(5,.blk [.v (.s (js (i).toNat).name),.v (.n .i64 (js (i).toNat).kind),.v (.n .i64 (js (i).toNat).parent),.v (.n .i64 (js (i).toNat).off.x),.v (.n .i64 (js (i).toNat).off.y),.v (.n .i64 (js (i).toNat).off.z),.v (.n .i64 (js (i).toNat).lo),.v (.n .i64 (js (i).toNat).hi),.v (.n .i64 (js (i).toNat).weight),.v (.n .i64 (js (i).toNat).speed),.v (.n .i64 (js (i).toNat).accel),.v (.n .i64 (js (i).toNat).torque)])]⟩)
 else (G (hC js n i (vYX .i64 (k + 1)))))
 else none)
 else (K (.exit 0) ⟨[(1,.v (.n .i64 i)),(5,.p 5 0)],[(5,.blk [.v (.s (js (i).toNat).name),.v (.n .i64 (js (i).toNat).kind),.v (.n .i64 (js (i).toNat).parent),.v (.n .i64 (js (i).toNat).off.x),.v (.n .i64 (js (i).toNat).off.y),.v (.n .i64 (js (i).toNat).off.z),.v (.n .i64 (js (i).toNat).lo),.v (.n .i64 (js (i).toNat).hi),.v (.n .i64 (js (i).toNat).weight),.v (.n .i64 (js (i).toNat).speed),.v (.n .i64 (js (i).toNat).accel),.v (.n .i64 (js (i).toNat).torque)])]⟩)):=by kernel_rfl
def rC (js:Nat→J) (i:Int):St:=⟨[(1,.v (.n .i64 i)),(4,.v (.n .i64 802)),(5,.p 5 0)],[(5,.blk [.v (.s (js (i).toNat).name),.v (.n .i64 (js (i).toNat).kind),.v (.n .i64 (js (i).toNat).parent),.v (.n .i64 (js (i).toNat).off.x),.v (.n .i64 (js (i).toNat).off.y),.v (.n .i64 (js (i).toNat).off.z),.v (.n .i64 (js (i).toNat).lo),.v (.n .i64 (js (i).toNat).hi),.v (.n .i64 (js (i).toNat).weight),.v (.n .i64 (js (i).toNat).speed),.v (.n .i64 (js (i).toNat).accel),.v (.n .i64 (js (i).toNat).torque)])]⟩
def oC (js:Nat→J) (i:Int):St:=⟨[(1,.v (.n .i64 i)),(5,.p 5 0)],[(5,.blk [.v (.s (js (i).toNat).name),.v (.n .i64 (js (i).toNat).kind),.v (.n .i64 (js (i).toNat).parent),.v (.n .i64 (js (i).toNat).off.x),.v (.n .i64 (js (i).toNat).off.y),.v (.n .i64 (js (i).toNat).off.z),.v (.n .i64 (js (i).toNat).lo),.v (.n .i64 (js (i).toNat).hi),.v (.n .i64 (js (i).toNat).weight),.v (.n .i64 (js (i).toNat).speed),.v (.n .i64 (js (i).toNat).accel),.v (.n .i64 (js (i).toNat).torque)])]⟩
theorem lpC (K:Cont) (js:Nat→J) (n i:Nat) (hn:n≤1000) (hi:i < n):∀ (k p q:Nat),p + k=i→k < q→LF 60 (cxF T (OrL.k [(116,o_nm)]) 60 119 (ntmF T 119)) (ckF T (OrL.k [(116,o_nm)]) 60) (qQ T 119 [0,1,0,1,1,1]) ((cxF T (OrL.k [(116,o_nm)]) 60 119 (ntmF T 119)).T.hint (cxF T (OrL.k [(116,o_nm)]) 60 119 (ntmF T 119)).me (qJ (qQ T 119 [0,1,0,1,1,1]))) K q (hC js n i p)=bif dup js (js i).name k p then (K .ret (rC js i)) else (K (.exit 0) (oC js i))
 | 0,p,q + 1,hp,hq=>by
  refine (rdC (fun σ=>LF 60 (cxF T (OrL.k [(116,o_nm)]) 60 119 (ntmF T 119)) (ckF T (OrL.k [(116,o_nm)]) 60) (qQ T 119 [0,1,0,1,1,1]) ((cxF T (OrL.k [(116,o_nm)]) 60 119 (ntmF T 119)).T.hint (cxF T (OrL.k [(116,o_nm)]) 60 119 (ntmF T 119)).me (qJ (qQ T 119 [0,1,0,1,1,1]))) K q σ) K js n i p).trans ?_;rw [vYY (show ¬ (p:Int) < (i:Int) by omega)];rfl
 | k + 1,p,q + 1,hp,hq=>by
  refine (rdC (fun σ=>LF 60 (cxF T (OrL.k [(116,o_nm)]) 60 119 (ntmF T 119)) (ckF T (OrL.k [(116,o_nm)]) 60) (qQ T 119 [0,1,0,1,1,1]) ((cxF T (OrL.k [(116,o_nm)]) 60 119 (ntmF T 119)).T.hint (cxF T (OrL.k [(116,o_nm)]) 60 119 (ntmF T 119)).me (qJ (qQ T 119 [0,1,0,1,1,1]))) K q σ) K js n i p).trans ?_;rw [vYJ (show (p:Int) < (i:Int) by omega),zJ (show p < n by omega),jZ (by omega),lpC K js n i hn hi k (p + 1) q (by omega) (by omega),toN,toN];simp only [vYQ,dup];cases ((js p).name.toList == (js i).name.toList) <;> rfl
set_option maxRecDepth 100000 in
theorem pxC (js:Nat→J) (n:Nat) (i:Int):qVE T (OrL.k [(116,o_nm)]) (qZ [([0,1,0,1,1,1],kG (hC js n i 0) (fun K=>bif dup js (js i.toNat).name i.toNat 0 then (K .ret (rC js i)) else (K (.exit 0) (oC js i))))]) 60 119 [.lf n (fJ js),.n .i64 i] =
 bif inB i n then (bif nmB (js i.toNat).name then (bif gSt (hC js n i 0) (hC js n i 0) then (bif dup js (js i.toNat).name i.toNat 0 then some (.v (.n .i64 802),[]) else cjT F_n i (js i.toNat)) else none) else some (.v (.n .i64 802),[])) else none:=by kernel_rfl
theorem jZZ (js:Nat→J) (n:Nat) (_:n≤50) (i:Nat) (hi:i < n):qH Tryz.prog 119 [.lf n (fJ js),.n .i64 i] (.v (.n .i64 (jErr js n i))):=by
 refine uW (N:=60) (LO:=qZ [([0,1,0,1,1,1],kG (hC js n (i:Int) 0) (fun K=>bif dup js (js (i:Int).toNat).name (i:Int).toNat 0 then (K .ret (rC js i)) else (K (.exit 0) (oC js i))))]) zV qG (OrL.ok (l:=[(116,o_nm)]) ⟨jJY,trivial⟩) (fun p S hp => ?_) ?_
 ·refine qQB (L:=qQ T 119) (l:=[([0,1,0,1,1,1],kG (hC js n (i:Int) 0) (fun K=>bif dup js (js (i:Int).toNat).name (i:Int).toNat 0 then (K .ret (rC js i)) else (K (.exit 0) (oC js i))))]) (show AllP _ [([0,1,0,1,1,1],kG (hC js n (i:Int) 0) (fun K=>bif dup js (js (i:Int).toNat).name (i:Int).toNat 0 then (K .ret (rC js i)) else (K (.exit 0) (oC js i))))] from ⟨qZU fun K r hr => ?_,trivial⟩) p S hp
  have:=lpC K js n i (by omega) hi i 0 60 (by omega) (by omega)
  rw [toN] at hr;exact this.trans hr
 ·refine (pxC js n i).trans ?_;rw [zJ hi,vYQ,toN,zQ,vYQ,F_cj];unfold jErr;cases nmB (js i).name <;> cases dup js (js i).name i 0 <;> rfl
end Go.Proofs.YtmeldddgjfocdaaGreat.Nb
namespace Go.Proofs.YtmeldddgjfocdaaGreat.Nc
open Go.Rx Rt Go.Sx Go.RowKit Od
open Na Nb
def MOK (n:Nat) (q:Ms):Prop:=(0≤q.link∧q.link < n)∧(1≤q.mass∧q.mass≤65536)∧(-4194304≤q.p.x∧q.p.x≤4194304)∧(-4194304≤q.p.y∧q.p.y≤4194304)∧(-4194304≤q.p.z∧q.p.z≤4194304)
instance (n:Nat) (q:Ms):Decidable (MOK n q):=by unfold MOK; exact inferInstance
def mokB (n:Nat) (q:Ms):Bool:=decide (MOK n q)
def mAll (ms:Nat→Ms) (n:Nat):Nat→Nat→Bool
 | 0,_=>true
 | k + 1,p=>mokB n (ms p) && mAll ms n k (p + 1)
def fbad (ms:Nat→Ms) (n:Nat):Nat→Nat→Int
 | 0,_ => -1
 | k + 1,p=>bif mokB n (ms p) then fbad ms n k (p + 1) else (p:Int)
theorem zWH (ms:Nat→Ms) (n:Nat):∀ k p,decide (0≤fbad ms n k p) = !mAll ms n k p
 | 0,p=>rfl
 | k + 1,p=>by
  have ih:=zWH ms n k (p + 1);by_cases hq:mokB n (ms p)=true
  ·simp only [fbad,mAll,hq,vYQ,vZW];exact ih
  ·rw [Bool.not_eq_true] at hq;simp only [fbad,mAll,hq,vYZ,Bool.false_and,Bool.not_false];exact vYJ (by omega)
def jE (js:Nat→J) (n:Nat):Nat→Nat→Int
 | 0,_=>0
 | k + 1,p=>bif decide (jErr js n p=0) then jE js n k (p + 1) else jErr js n p
def rErr (js:Nat→J) (ms:Nat→Ms) (n m:Nat):Int:=bif decide ((n:Int)=0) then 801 else bif decide (10 < (n:Int)) then 801 else bif decide (jE js n n 0=0) then (bif decide (32 < (m:Int)) then 808 else bif mAll ms n m 0 then 0 else 808) else jE js n n 0
def mTp {α:Type} (n:Nat) (q:Ms) (a b:α):α:=(bif (decide (0≤q.link)) then (bif (decide (q.link < (n:Int))) then (bif (decide (1≤q.mass)) then (bif (decide (q.mass≤65536)) then (bif (decide (q.p.x < (-4194304))) then b else (bif (decide (4194304 < q.p.x)) then b else (bif (decide (q.p.y < (-4194304))) then b else (bif (decide (4194304 < q.p.y)) then b else (bif (decide (q.p.z < (-4194304))) then b else (bif (decide (4194304 < q.p.z)) then b else a)))))) else b) else b) else b) else b)
theorem jVU {α:Type} (n:Nat) (q:Ms) (a b:α):mTp n q a b=bif mokB n q then a else b:=by
 unfold mTp mokB;by_cases h:MOK n q
 ·have h':=h;obtain ⟨⟨h1,h2⟩,⟨h3,h4⟩,⟨h5,h6⟩,⟨h7,h8⟩,h9,h10⟩:=h';rw [vYJ h];simp only [vYQ];simp only [Bool.cond_eq_ite,decide_eq_true_eq]
  repeat' split
  all_goals first | rfl | (exfalso; omega)
 ·rw [vYY h];unfold MOK at h;simp only [vYZ];simp only [Bool.cond_eq_ite,decide_eq_true_eq]
  repeat' split
  all_goals first | rfl | (exfalso; omega) | contradiction
set_option maxRecDepth 100000 in
theorem jGF (js:Nat→J) (ms:Nat→Ms) (n m:Nat) (q:Ms):runK T (OrL.k []) 60 148 [.a (mp q),.c [.lf n (fJ js),.lf m (fM ms)] 0]=mTp n q (F_b false) (F_b true):=by kernel_rfl
theorem jUJ (js:Nat→J) (ms:Nat→Ms) (n m:Nat) (q:Ms):qH Tryz.prog 148 [.a (mp q),.c [.lf n (fJ js),.lf m (fM ms)] 0] (.v (.b (!mokB n q))):=by
 refine qYI (N:=60) zV qG (OrL.ok (l:=[]) trivial) ?_;rw [jGF,jVU];cases mokB n q <;> rfl
noncomputable def o_cl (js:Nat→J) (ms:Nat→Ms) (n m:Nat):List PV→Option (Bool × Ret):=fun ps=>match ps with
 | [.a [.n .i64 a0,.n .i64 a1,.n .i64 a2,.n .i64 a3,.n .i64 a4],c]=>some (gEq c (.c [.lf n (fJ js),.lf m (fM ms)] 0),.v (.b (!mokB n ⟨a0,a1,⟨a2,a3,a4⟩⟩)))
 | _=>none
theorem kYZ (js:Nat→J) (ms:Nat→Ms) (n m:Nat):jG Tryz.prog 148 (o_cl js ms n m):=by
 intro ps r hh;unfold o_cl at hh;split at hh
 ·simp only [vQZ,vQY] at hh;obtain ⟨hg,rfl⟩:=hh;obtain rfl:=qVG hg;exact jUJ js ms n m ⟨_,_,⟨_,_,_⟩⟩
 ·cases hh
def hI (js:Nat→J) (ms:Nat→Ms) (n m:Nat) (i:Int):St:=⟨[(0,.v (.lf m (fM ms))),(1,.v (.f 148 [] [.c [.lf n (fJ js),.lf m (fM ms)] 0])),(7,.v (.n .i64 (m:Int))),(8,.v (.n .i64 i))],[]⟩
set_option maxRecDepth 100000 in
theorem rdI (G:St→Option (Ret × Mem)) (K:Cont) (js:Nat→J) (ms:Nat→Ms) (n m:Nat) (i:Int):qZX 60 (cxF T (OrL.k [(148,o_cl js ms n m)]) 60 172 (ntmF T 172)) (ckF T (OrL.k [(148,o_cl js ms n m)]) 60) (qQ T 172 [0,1,0,1]) (fun e τ=>match e with
 | .normal=>G (qQD ((cxF T (OrL.k [(148,o_cl js ms n m)]) 60 172 (ntmF T 172)).T.hint (cxF T (OrL.k [(148,o_cl js ms n m)]) 60 172 (ntmF T 172)).me (qJ (qQ T 172 [0,1,0,1]))) τ)
 | e=>K e (qQZ ((cxF T (OrL.k [(148,o_cl js ms n m)]) 60 172 (ntmF T 172)).T.hint (cxF T (OrL.k [(148,o_cl js ms n m)]) 60 172 (ntmF T 172)).me (qJ (qQ T 172 [0,1,0,1]))) τ)) (hI js ms n m i) =
 (bif (decide (i < (m:Int))) then (bif (inB i m) then (bif (gEq (.c [.lf n (fJ js),.lf m (fM ms)] 0) (.c [.lf n (fJ js),.lf m (fM ms)] 0)) then (bif (!mokB n (ms (i).toNat)) then (K .ret ⟨[(4,.v (.n .i64 i))],[]⟩)
 else (G (hI js ms n m (vYX .i64 (i + 1)))))
 else none)
 else none)
 else (K (.exit 0) ⟨[],[]⟩)):=by kernel_rfl
theorem lpI (K:Cont) (js:Nat→J) (ms:Nat→Ms) (n m:Nat) (hm:m≤1000):∀ (k p q:Nat),p + k=m→k < q→LF 60 (cxF T (OrL.k [(148,o_cl js ms n m)]) 60 172 (ntmF T 172)) (ckF T (OrL.k [(148,o_cl js ms n m)]) 60) (qQ T 172 [0,1,0,1]) ((cxF T (OrL.k [(148,o_cl js ms n m)]) 60 172 (ntmF T 172)).T.hint (cxF T (OrL.k [(148,o_cl js ms n m)]) 60 172 (ntmF T 172)).me (qJ (qQ T 172 [0,1,0,1]))) K q (hI js ms n m p)=(bif decide (fbad ms n k p = -1) then K (.exit 0) ⟨[],[]⟩ else K .ret ⟨[(4,.v (.n .i64 (fbad ms n k p)))],[]⟩)
 | 0,p,q + 1,hp,hq=>by
  refine (rdI (fun σ=>LF 60 (cxF T (OrL.k [(148,o_cl js ms n m)]) 60 172 (ntmF T 172)) (ckF T (OrL.k [(148,o_cl js ms n m)]) 60) (qQ T 172 [0,1,0,1]) ((cxF T (OrL.k [(148,o_cl js ms n m)]) 60 172 (ntmF T 172)).T.hint (cxF T (OrL.k [(148,o_cl js ms n m)]) 60 172 (ntmF T 172)).me (qJ (qQ T 172 [0,1,0,1]))) K q σ) K js ms n m p).trans ?_;rw [vYY (show ¬ (p:Int) < (m:Int) by omega)];rfl
 | k + 1,p,q + 1,hp,hq=>by
  refine (rdI (fun σ=>LF 60 (cxF T (OrL.k [(148,o_cl js ms n m)]) 60 172 (ntmF T 172)) (ckF T (OrL.k [(148,o_cl js ms n m)]) 60) (qQ T 172 [0,1,0,1]) ((cxF T (OrL.k [(148,o_cl js ms n m)]) 60 172 (ntmF T 172)).T.hint (cxF T (OrL.k [(148,o_cl js ms n m)]) 60 172 (ntmF T 172)).me (qJ (qQ T 172 [0,1,0,1]))) K q σ) K js ms n m p).trans ?_;rw [vYJ (show (p:Int) < (m:Int) by omega),zJ (show p < m by omega),jZ (by omega),lpI K js ms n m hm k (p + 1) q (by omega) (by omega),toN,qKE];by_cases hq:mokB n (ms p)=true
  ·simp only [fbad,hq,vYQ,vYZ,Bool.not_true]
  ·rw [Bool.not_eq_true] at hq;simp only [fbad,hq,vYQ,vYZ,Bool.not_false,vYY (show ¬ (p:Int) = -1 by omega)]
set_option maxRecDepth 100000 in
theorem pxI (js:Nat→J) (ms:Nat→Ms) (n m:Nat):qVE T (OrL.k [(148,o_cl js ms n m)]) (qZ [([0,1,0,1],kG (hI js ms n m 0) (fun K=>(bif decide (fbad ms n m 0 = -1) then K (.exit 0) ⟨[],[]⟩ else K .ret ⟨[(4,.v (.n .i64 (fbad ms n m 0)))],[]⟩)))]) 60 172 [.lf m (fM ms),.f 148 [] [.c [.lf n (fJ js),.lf m (fM ms)] 0]] =
 bif gSt (hI js ms n m 0) (hI js ms n m 0) then (bif decide (fbad ms n m 0 = -1) then some (.v (.n .i64 (-1)),[]) else some (.v (.n .i64 (fbad ms n m 0)),[])) else none:=by kernel_rfl
theorem jUY (js:Nat→J) (ms:Nat→Ms) (n m:Nat) (_:m≤50):qH Tryz.prog 172 [.lf m (fM ms),.f 148 [] [.c [.lf n (fJ js),.lf m (fM ms)] 0]] (.v (.n .i64 (fbad ms n m 0))):=by
 refine uW (N:=60) (LO:=qZ [([0,1,0,1],kG (hI js ms n m 0) (fun K=>(bif decide (fbad ms n m 0 = -1) then K (.exit 0) ⟨[],[]⟩ else K .ret ⟨[(4,.v (.n .i64 (fbad ms n m 0)))],[]⟩)))]) zV qG (OrL.ok (l:=[(148,o_cl js ms n m)]) ⟨kYZ js ms n m,trivial⟩) (fun p S hp => ?_) ?_
 ·refine qQB (L:=qQ T 172) (l:=[([0,1,0,1],kG (hI js ms n m 0) (fun K=>(bif decide (fbad ms n m 0 = -1) then K (.exit 0) ⟨[],[]⟩ else K .ret ⟨[(4,.v (.n .i64 (fbad ms n m 0)))],[]⟩)))]) (show AllP _ [([0,1,0,1],kG (hI js ms n m 0) (fun K=>(bif decide (fbad ms n m 0 = -1) then K (.exit 0) ⟨[],[]⟩ else K .ret ⟨[(4,.v (.n .i64 (fbad ms n m 0)))],[]⟩)))] from ⟨qZU fun K r hr => ?_,trivial⟩) p S hp;exact (lpI K js ms n m (by omega) m 0 60 (by omega) (by omega)).trans hr
 ·refine (pxI js ms n m).trans ?_;rw [zQ,vYQ];by_cases h:fbad ms n m 0 = -1
  ·rw [vYJ h,h]; rfl
  ·rw [vYY h]; rfl
theorem jUK (js:Nat→J) (ms:Nat→Ms) (n m:Nat) (hm:m≤50):qH Tryz.prog 147 [.lf m (fM ms),.f 148 [] [.c [.lf n (fJ js),.lf m (fM ms)] 0]] (.v (.b (!mAll ms n m 0))):=by
 refine qYI (N:=60) zV qG (OrL.ok (l:=[(172,o_cr [.lf m (fM ms),.f 148 [] [.c [.lf n (fJ js),.lf m (fM ms)] 0]] (.v (.n .i64 (fbad ms n m 0))))]) ⟨qVJ (jUY js ms n m hm),trivial⟩) ?_;refine (by kernel_rfl:_=bif (g1 [.lf m (fM ms),.f 148 [] [.c [.lf n (fJ js),.lf m (fM ms)] 0]]) then (bif (decide (0≤(fbad ms n m 0))) then some (.v (.b true),[])
 else some (.v (.b false),[]))
 else none).trans ?_
 rw [g1_t,vYQ,← zWH];cases decide (0≤fbad ms n m 0) <;> rfl
noncomputable def qZC (js:Nat→J) (ms:Nat→Ms) (n m:Nat):List PV→Option (Bool × Ret):=fun ps=>match ps with
 | [r,.n .i64 i]=>some (gEq r (.a [.lf n (fJ js),.lf m (fM ms)]) && (inB i n && decide (n≤50)),.v (.n .i64 (jErr js n i.toNat)))
 | _=>none
theorem yXH (js:Nat→J) (ms:Nat→Ms) (n m:Nat):jG Tryz.prog 146 (qZC js ms n m):=by
 intro ps r hh;unfold qZC at hh;split at hh
 ·simp only [vQZ,vQY,vQJ] at hh;obtain ⟨⟨hg,hi,hd⟩,rfl⟩:=hh;obtain rfl:=qVG hg;have hn:=vYK hd;obtain ⟨i0,i1⟩:=qZI hi;rename_i i
  have:=jZY js ms n m hn i.toNat (by omega)
  rw [show ((i.toNat:Nat):Int)=i by omega] at this;exact this
 ·cases hh
noncomputable def kJ (js:Nat→J) (_:Nat→Ms) (n m:Nat):List PV→Option (Bool × Ret):=fun ps=>match ps with
 | [r,.n .i64 i]=>some (gEq r (.lf n (fJ js)) && (inB i n && decide (n≤50)),.v (.n .i64 (jErr js n i.toNat)))
 | _=>none
theorem yXG (js:Nat→J) (ms:Nat→Ms) (n m:Nat):jG Tryz.prog 119 (kJ js ms n m):=by
 intro ps r hh;unfold kJ at hh;split at hh
 ·simp only [vQZ,vQY,vQJ] at hh;obtain ⟨⟨hg,hi,hd⟩,rfl⟩:=hh;obtain rfl:=qVG hg;have hn:=vYK hd;obtain ⟨i0,i1⟩:=qZI hi;rename_i i
  have:=jZZ js n hn i.toNat (by omega)
  rw [show ((i.toNat:Nat):Int)=i by omega] at this;exact this
 ·cases hh
noncomputable def qZD (js:Nat→J) (ms:Nat→Ms) (n m:Nat):List PV→Option (Bool × Ret):=fun ps=>some (gEq (.t ps) (.t [.lf m (fM ms),.f 148 [] [.c [.lf n (fJ js),.lf m (fM ms)] 0]]) && decide (m≤50),.v (.b (!mAll ms n m 0)))
theorem jWC (js:Nat→J) (ms:Nat→Ms) (n m:Nat):jG Tryz.prog 147 (qZD js ms n m):=by
 intro ps q hh;unfold qZD at hh;simp only [vQZ,vQY,vQJ] at hh;obtain ⟨⟨hg,hm⟩,rfl⟩:=hh
 have:=qVG hg
 simp only [PV.t.injEq] at this;rw [this];exact jUK js ms n m (vYK hm)
def hK (js:Nat→J) (ms:Nat→Ms) (n m:Nat) (i:Int):St:=⟨[(1,.p 1 0),(17,.v (.n .i64 (n:Int))),(18,.v (.n .i64 i))],[(1,.blk [.v (.lf n (fJ js)),.v (.lf m (fM ms))])]⟩
set_option maxRecDepth 100000 in
theorem rdK (G:St→Option (Ret × Mem)) (K:Cont) (js:Nat→J) (ms:Nat→Ms) (n m:Nat) (i:Int):qZX 60 (cxF T (OrL.k [(146,qZC js ms n m),(147,qZD js ms n m)]) 60 104 (ntmF T 104)) (ckF T (OrL.k [(146,qZC js ms n m),(147,qZD js ms n m)]) 60) (qQ T 104 [0,1,0,1,1]) (fun e τ=>match e with
 | .normal=>G (qQD ((cxF T (OrL.k [(146,qZC js ms n m),(147,qZD js ms n m)]) 60 104 (ntmF T 104)).T.hint (cxF T (OrL.k [(146,qZC js ms n m),(147,qZD js ms n m)]) 60 104 (ntmF T 104)).me (qJ (qQ T 104 [0,1,0,1,1]))) τ)
 | e=>K e (qQZ ((cxF T (OrL.k [(146,qZC js ms n m),(147,qZD js ms n m)]) 60 104 (ntmF T 104)).T.hint (cxF T (OrL.k [(146,qZC js ms n m),(147,qZD js ms n m)]) 60 104 (ntmF T 104)).me (qJ (qQ T 104 [0,1,0,1,1]))) τ)) (hK js ms n m i) =
 (bif (decide (i < (n:Int))) then (bif (gEq (.a [.lf n (fJ js),.lf m (fM ms)]) (.a [.lf n (fJ js),.lf m (fM ms)]) && (inB i n && decide (n≤50))) then (bif (!decide ((jErr js n (i).toNat)=0)) then (K .ret ⟨[(1,.p 1 0),(2,.v (.n .i64 (jErr js n (i).toNat)))],[(1,.blk [.v (.lf n (fJ js)),.v (.lf m (fM ms))])]⟩)
 else (G (hK js ms n m (vYX .i64 (i + 1)))))
 else none)
 else (K (.exit 0) ⟨[(1,.p 1 0)],[(1,.blk [.v (.lf n (fJ js)),.v (.lf m (fM ms))])]⟩)):=by kernel_rfl
def rK (js:Nat→J) (ms:Nat→Ms) (n m:Nat) (e:Int):St:=⟨[(1,.p 1 0),(2,.v (.n .i64 e))],[(1,.blk [.v (.lf n (fJ js)),.v (.lf m (fM ms))])]⟩
def oK (js:Nat→J) (ms:Nat→Ms) (n m:Nat):St:=⟨[(1,.p 1 0)],[(1,.blk [.v (.lf n (fJ js)),.v (.lf m (fM ms))])]⟩
theorem lpK (K:Cont) (js:Nat→J) (ms:Nat→Ms) (n m:Nat) (hn:n≤10):∀ (k p q:Nat),p + k=n→k < q→LF 60 (cxF T (OrL.k [(146,qZC js ms n m),(147,qZD js ms n m)]) 60 104 (ntmF T 104)) (ckF T (OrL.k [(146,qZC js ms n m),(147,qZD js ms n m)]) 60) (qQ T 104 [0,1,0,1,1]) ((cxF T (OrL.k [(146,qZC js ms n m),(147,qZD js ms n m)]) 60 104 (ntmF T 104)).T.hint (cxF T (OrL.k [(146,qZC js ms n m),(147,qZD js ms n m)]) 60 104 (ntmF T 104)).me (qJ (qQ T 104 [0,1,0,1,1]))) K q (hK js ms n m p)=(bif decide (jE js n k p=0) then (K (.exit 0) (oK js ms n m)) else (K .ret (rK js ms n m (jE js n k p))))
 | 0,p,q + 1,hp,hq=>by
  refine (rdK (fun σ=>LF 60 (cxF T (OrL.k [(146,qZC js ms n m),(147,qZD js ms n m)]) 60 104 (ntmF T 104)) (ckF T (OrL.k [(146,qZC js ms n m),(147,qZD js ms n m)]) 60) (qQ T 104 [0,1,0,1,1]) ((cxF T (OrL.k [(146,qZC js ms n m),(147,qZD js ms n m)]) 60 104 (ntmF T 104)).T.hint (cxF T (OrL.k [(146,qZC js ms n m),(147,qZD js ms n m)]) 60 104 (ntmF T 104)).me (qJ (qQ T 104 [0,1,0,1,1]))) K q σ) K js ms n m p).trans ?_;rw [vYY (show ¬ (p:Int) < (n:Int) by omega)];rfl
 | k + 1,p,q + 1,hp,hq=>by
  refine (rdK (fun σ=>LF 60 (cxF T (OrL.k [(146,qZC js ms n m),(147,qZD js ms n m)]) 60 104 (ntmF T 104)) (ckF T (OrL.k [(146,qZC js ms n m),(147,qZD js ms n m)]) 60) (qQ T 104 [0,1,0,1,1]) ((cxF T (OrL.k [(146,qZC js ms n m),(147,qZD js ms n m)]) 60 104 (ntmF T 104)).T.hint (cxF T (OrL.k [(146,qZC js ms n m),(147,qZD js ms n m)]) 60 104 (ntmF T 104)).me (qJ (qQ T 104 [0,1,0,1,1]))) K q σ) K js ms n m p).trans ?_;rw [vYJ (show (p:Int) < (n:Int) by omega),zJ (show p < n by omega),jZ (by omega),lpK K js ms n m hn k (p + 1) q (by omega) (by omega),toN,qKE,vYJ (show n≤50 by omega)];by_cases hq:jErr js n p=0
  ·simp only [jE,vYJ hq,vYQ,vYZ,Bool.not_true,vZQ]
  ·simp only [jE,vYY hq,vYQ,vYZ,Bool.not_false,vZQ];rfl
set_option maxRecDepth 100000 in
theorem pxK (js:Nat→J) (ms:Nat→Ms) (n m:Nat):qVE T (OrL.k [(146,qZC js ms n m),(147,qZD js ms n m)]) (qZ [([0,1,0,1,1],kG (hK js ms n m 0) (fun K=>bif decide (10 < (n:Int)) then none else (bif decide (jE js n n 0=0) then (K (.exit 0) (oK js ms n m)) else (K .ret (rK js ms n m (jE js n n 0))))))]) 60 104 [(.a [.lf n (fJ js),.lf m (fM ms)])] =
 bif decide ((n:Int)=0) then some (.v (.n .i64 801),[]) else (bif decide (10 < (n:Int)) then some (.v (.n .i64 801),[]) else (bif gSt (hK js ms n m 0) (hK js ms n m 0) then (bif decide (10 < (n:Int)) then none else (bif decide (jE js n n 0=0) then bif (decide (32 < (m:Int))) then some (.v (.n .i64 808),[])
 else bif (g1 [.lf m (fM ms),.f 148 [] [.c [.lf n (fJ js),.lf m (fM ms)] 0]] && decide (m≤50)) then (bif (!mAll ms n m 0) then some (.v (.n .i64 808),[])
 else some (.v (.n .i64 0),[]))
 else none else some (.v (.n .i64 (jE js n n 0)),[]))) else none)):=by kernel_rfl
theorem yQQ (js:Nat→J) (ms:Nat→Ms) (n m:Nat):qH Tryz.prog 104 [(.a [.lf n (fJ js),.lf m (fM ms)])] (.v (.n .i64 (rErr js ms n m))):=by
 refine uW (N:=60) (LO:=qZ [([0,1,0,1,1],kG (hK js ms n m 0) (fun K=>bif decide (10 < (n:Int)) then none else (bif decide (jE js n n 0=0) then (K (.exit 0) (oK js ms n m)) else (K .ret (rK js ms n m (jE js n n 0))))))]) zV qG (OrL.ok (l:=[(146,qZC js ms n m),(147,qZD js ms n m)]) ⟨yXH js ms n m,jWC js ms n m,trivial⟩) (fun p S hp => ?_) ?_
 ·refine qQB (L:=qQ T 104) (l:=[([0,1,0,1,1],kG (hK js ms n m 0) (fun K=>bif decide (10 < (n:Int)) then none else (bif decide (jE js n n 0=0) then (K (.exit 0) (oK js ms n m)) else (K .ret (rK js ms n m (jE js n n 0))))))]) (show AllP _ [([0,1,0,1,1],kG (hK js ms n m 0) (fun K=>bif decide (10 < (n:Int)) then none else (bif decide (jE js n n 0=0) then (K (.exit 0) (oK js ms n m)) else (K .ret (rK js ms n m (jE js n n 0))))))] from ⟨qZU fun K r hr => ?_,trivial⟩) p S hp;cases hq:decide (10 < (n:Int)) with
  | true=>rw [hq] at hr; cases hr
  | false =>
   rw [hq] at hr;have h10:=vYU hq;exact (lpK K js ms n m (by omega) n 0 60 (by omega) (by omega)).trans hr
 ·refine (pxK js ms n m).trans ?_;unfold rErr;rw [zQ,g1_t];by_cases h0:(n:Int)=0
  ·rw [vYJ h0]; rfl
  rw [vYY h0];by_cases h10:10 < (n:Int)
  ·rw [vYJ h10]; rfl
  rw [vYY h10];by_cases hj:jE js n n 0=0
  ·rw [vYJ hj];by_cases h32:32 < (m:Int)
   ·rw [vYJ h32]; rfl
   rw [vYY h32,vYJ (show m≤50 by omega)];cases mAll ms n m 0 <;> rfl
  ·rw [vYY hj]; rfl
def hQ (js:Nat→J) (ms:Nat→Ms) (n m:Nat) (i:Int):St:=⟨[(1,.p 1 0),(3,.v (.n .i64 i))],[(1,.blk [.v (.lf n (fJ js)),.v (.lf m (fM ms))])]⟩
set_option maxRecDepth 100000 in
theorem rdQ (G:St→Option (Ret × Mem)) (K:Cont) (js:Nat→J) (ms:Nat→Ms) (n m:Nat) (i:Int):qZX 60 (cxF T (OrL.k [(119,kJ js ms n m)]) 60 70 (ntmF T 70)) (ckF T (OrL.k [(119,kJ js ms n m)]) 60) (qQ T 70 [0,1,0,1,1]) (fun e τ=>match e with
 | .normal=>G (qQD ((cxF T (OrL.k [(119,kJ js ms n m)]) 60 70 (ntmF T 70)).T.hint (cxF T (OrL.k [(119,kJ js ms n m)]) 60 70 (ntmF T 70)).me (qJ (qQ T 70 [0,1,0,1,1]))) τ)
 | e=>K e (qQZ ((cxF T (OrL.k [(119,kJ js ms n m)]) 60 70 (ntmF T 70)).T.hint (cxF T (OrL.k [(119,kJ js ms n m)]) 60 70 (ntmF T 70)).me (qJ (qQ T 70 [0,1,0,1,1]))) τ)) (hQ js ms n m i) =
 (bif (decide (i < (n:Int))) then (bif (gEq (.lf n (fJ js)) (.lf n (fJ js)) && (inB i n && decide (n≤50))) then (bif (!decide ((jErr js n (i).toNat)=0)) then (K .ret ⟨[(1,.p 1 0),(2,.v (.n .i64 (jErr js n (i).toNat)))],[(1,.blk [.v (.lf n (fJ js)),.v (.lf m (fM ms))])]⟩)
 else (G (hQ js ms n m (vYX .i64 (i + 1)))))
 else none)
 else (K (.exit 0) ⟨[(1,.p 1 0)],[(1,.blk [.v (.lf n (fJ js)),.v (.lf m (fM ms))])]⟩)):=by kernel_rfl
def rQ (js:Nat→J) (ms:Nat→Ms) (n m:Nat) (e:Int):St:=⟨[(1,.p 1 0),(2,.v (.n .i64 e))],[(1,.blk [.v (.lf n (fJ js)),.v (.lf m (fM ms))])]⟩
def oQ (js:Nat→J) (ms:Nat→Ms) (n m:Nat):St:=⟨[(1,.p 1 0)],[(1,.blk [.v (.lf n (fJ js)),.v (.lf m (fM ms))])]⟩
theorem lpQ (K:Cont) (js:Nat→J) (ms:Nat→Ms) (n m:Nat) (hn:n≤10):∀ (k p q:Nat),p + k=n→k < q→LF 60 (cxF T (OrL.k [(119,kJ js ms n m)]) 60 70 (ntmF T 70)) (ckF T (OrL.k [(119,kJ js ms n m)]) 60) (qQ T 70 [0,1,0,1,1]) ((cxF T (OrL.k [(119,kJ js ms n m)]) 60 70 (ntmF T 70)).T.hint (cxF T (OrL.k [(119,kJ js ms n m)]) 60 70 (ntmF T 70)).me (qJ (qQ T 70 [0,1,0,1,1]))) K q (hQ js ms n m p)=(bif decide (jE js n k p=0) then (K (.exit 0) (oQ js ms n m)) else (K .ret (rQ js ms n m (jE js n k p))))
 | 0,p,q + 1,hp,hq=>by
  refine (rdQ (fun σ=>LF 60 (cxF T (OrL.k [(119,kJ js ms n m)]) 60 70 (ntmF T 70)) (ckF T (OrL.k [(119,kJ js ms n m)]) 60) (qQ T 70 [0,1,0,1,1]) ((cxF T (OrL.k [(119,kJ js ms n m)]) 60 70 (ntmF T 70)).T.hint (cxF T (OrL.k [(119,kJ js ms n m)]) 60 70 (ntmF T 70)).me (qJ (qQ T 70 [0,1,0,1,1]))) K q σ) K js ms n m p).trans ?_;rw [vYY (show ¬ (p:Int) < (n:Int) by omega)];rfl
 | k + 1,p,q + 1,hp,hq=>by
  refine (rdQ (fun σ=>LF 60 (cxF T (OrL.k [(119,kJ js ms n m)]) 60 70 (ntmF T 70)) (ckF T (OrL.k [(119,kJ js ms n m)]) 60) (qQ T 70 [0,1,0,1,1]) ((cxF T (OrL.k [(119,kJ js ms n m)]) 60 70 (ntmF T 70)).T.hint (cxF T (OrL.k [(119,kJ js ms n m)]) 60 70 (ntmF T 70)).me (qJ (qQ T 70 [0,1,0,1,1]))) K q σ) K js ms n m p).trans ?_;rw [vYJ (show (p:Int) < (n:Int) by omega),zJ (show p < n by omega),jZ (by omega),lpQ K js ms n m hn k (p + 1) q (by omega) (by omega),toN,qKE,vYJ (show n≤50 by omega)];by_cases hq:jErr js n p=0
  ·simp only [jE,vYJ hq,vYQ,vYZ,Bool.not_true,vZQ]
  ·simp only [jE,vYY hq,vYQ,vYZ,Bool.not_false,vZQ];rfl
def hM (js:Nat→J) (ms:Nat→Ms) (n m:Nat) (i:Int):St:=⟨[(1,.p 1 0),(5,.v (.n .i64 i))],[(1,.blk [.v (.lf n (fJ js)),.v (.lf m (fM ms))])]⟩
def rM (_:Nat→J) (_:Nat→Ms) (n m:Nat) (i:Int):St:=⟨[(2,.v (.n .i64 808))],[]⟩
def oM (_:Nat→J) (_:Nat→Ms) (n m:Nat):St:=⟨[],[]⟩
def mTr {α:Type} (n:Nat) (q:Ms) (a b:α):α:=(bif (decide (q.link < 0)) then b else (bif (decide ((n:Int)≤q.link)) then b else (bif (decide (1≤q.mass)) then (bif (decide (q.mass≤65536)) then (bif (decide (q.p.x < (-4194304))) then b else (bif (decide (4194304 < q.p.x)) then b else (bif (decide (q.p.y < (-4194304))) then b else (bif (decide (4194304 < q.p.y)) then b else (bif (decide (q.p.z < (-4194304))) then b else (bif (decide (4194304 < q.p.z)) then b else a)))))) else b) else b)))
theorem jVK {α:Type} (n:Nat) (q:Ms) (a b:α):mTr n q a b=bif mokB n q then a else b:=by
 unfold mTr mokB;by_cases h:MOK n q
 ·have h':=h;obtain ⟨⟨h1,h2⟩,⟨h3,h4⟩,⟨h5,h6⟩,⟨h7,h8⟩,h9,h10⟩:=h';rw [vYJ h];simp only [vYQ];simp only [Bool.cond_eq_ite,decide_eq_true_eq]
  repeat' split
  all_goals first | rfl | (exfalso; omega)
 ·rw [vYY h];unfold MOK at h;simp only [vYZ];simp only [Bool.cond_eq_ite,decide_eq_true_eq]
  repeat' split
  all_goals first | rfl | (exfalso; omega) | contradiction
set_option maxRecDepth 100000 in
theorem rdM (G:St→Option (Ret × Mem)) (K:Cont) (js:Nat→J) (ms:Nat→Ms) (n m:Nat) (i:Int):qZX 60 (cxF T (OrL.k [(119,kJ js ms n m)]) 60 70 (ntmF T 70)) (ckF T (OrL.k [(119,kJ js ms n m)]) 60) (qQ T 70 [0,1,0,1,1,1,1]) (fun e τ=>match e with
 | .normal=>G (qQD ((cxF T (OrL.k [(119,kJ js ms n m)]) 60 70 (ntmF T 70)).T.hint (cxF T (OrL.k [(119,kJ js ms n m)]) 60 70 (ntmF T 70)).me (qJ (qQ T 70 [0,1,0,1,1,1,1]))) τ)
 | e=>K e (qQZ ((cxF T (OrL.k [(119,kJ js ms n m)]) 60 70 (ntmF T 70)).T.hint (cxF T (OrL.k [(119,kJ js ms n m)]) 60 70 (ntmF T 70)).me (qJ (qQ T 70 [0,1,0,1,1,1,1]))) τ)) (hM js ms n m i) =
 bif decide (i < (m:Int)) then (bif inB i m then mTr n (ms i.toNat) (G (hM js ms n m (vYX .i64 (i + 1)))) (K .ret (rM js ms n m 0)) else none) else (K (.exit 2) (oM js ms n m)):=by kernel_rfl
theorem lpM (K:Cont) (js:Nat→J) (ms:Nat→Ms) (n m:Nat) (hm:m≤1000):∀ (k p q:Nat),p + k=m→k < q→LF 60 (cxF T (OrL.k [(119,kJ js ms n m)]) 60 70 (ntmF T 70)) (ckF T (OrL.k [(119,kJ js ms n m)]) 60) (qQ T 70 [0,1,0,1,1,1,1]) ((cxF T (OrL.k [(119,kJ js ms n m)]) 60 70 (ntmF T 70)).T.hint (cxF T (OrL.k [(119,kJ js ms n m)]) 60 70 (ntmF T 70)).me (qJ (qQ T 70 [0,1,0,1,1,1,1]))) K q (hM js ms n m p)=bif mAll ms n k p then (K (.exit 2) (oM js ms n m)) else (K .ret (rM js ms n m 0))
 | 0,p,q + 1,hp,hq=>by
  refine (rdM (fun σ=>LF 60 (cxF T (OrL.k [(119,kJ js ms n m)]) 60 70 (ntmF T 70)) (ckF T (OrL.k [(119,kJ js ms n m)]) 60) (qQ T 70 [0,1,0,1,1,1,1]) ((cxF T (OrL.k [(119,kJ js ms n m)]) 60 70 (ntmF T 70)).T.hint (cxF T (OrL.k [(119,kJ js ms n m)]) 60 70 (ntmF T 70)).me (qJ (qQ T 70 [0,1,0,1,1,1,1]))) K q σ) K js ms n m p).trans ?_;rw [vYY (show ¬ (p:Int) < (m:Int) by omega)];rfl
 | k + 1,p,q + 1,hp,hq=>by
  refine (rdM (fun σ=>LF 60 (cxF T (OrL.k [(119,kJ js ms n m)]) 60 70 (ntmF T 70)) (ckF T (OrL.k [(119,kJ js ms n m)]) 60) (qQ T 70 [0,1,0,1,1,1,1]) ((cxF T (OrL.k [(119,kJ js ms n m)]) 60 70 (ntmF T 70)).T.hint (cxF T (OrL.k [(119,kJ js ms n m)]) 60 70 (ntmF T 70)).me (qJ (qQ T 70 [0,1,0,1,1,1,1]))) K q σ) K js ms n m p).trans ?_;rw [vYJ (show (p:Int) < (m:Int) by omega),zJ (show p < m by omega),jZ (by omega),lpM K js ms n m hm k (p + 1) q (by omega) (by omega),toN,jVK];by_cases hq:mokB n (ms p)=true
  ·simp only [mAll,hq,vYQ,vZW]
  ·rw [Bool.not_eq_true] at hq;simp only [mAll,hq,vYQ,vYZ,Bool.false_and]
set_option maxRecDepth 100000 in
theorem pxQ (js:Nat→J) (ms:Nat→Ms) (n m:Nat):qVE T (OrL.k [(119,kJ js ms n m)]) (qZ [([0,1,0,1,1],kG (hQ js ms n m 0) (fun K=>bif decide (10 < (n:Int)) then none else (bif decide (jE js n n 0=0) then (K (.exit 0) (oQ js ms n m)) else (K .ret (rQ js ms n m (jE js n n 0)))))),([0,1,0,1,1,1,1],kG (hM js ms n m 0) (fun K=>bif decide (32 < (m:Int)) then none else (bif mAll ms n m 0 then (K (.exit 2) (oM js ms n m)) else (K .ret (rM js ms n m 0)))))]) 60 70 [(.a [.lf n (fJ js),.lf m (fM ms)])] =
 bif decide ((n:Int) < 1) then some (.v (.n .i64 801),[]) else (bif decide (10 < (n:Int)) then some (.v (.n .i64 801),[]) else (bif gSt (hQ js ms n m 0) (hQ js ms n m 0) then (bif decide (10 < (n:Int)) then none else (bif decide (jE js n n 0=0) then (bif decide (32 < (m:Int)) then some (.v (.n .i64 808),[]) else (bif gSt (hM js ms n m 0) (hM js ms n m 0) then (bif decide (32 < (m:Int)) then none else (bif mAll ms n m 0 then some (.v (.n .i64 0),[]) else some (.v (.n .i64 808),[]))) else none)) else some (.v (.n .i64 (jE js n n 0)),[]))) else none)):=by kernel_rfl
theorem jQL (js:Nat→J) (ms:Nat→Ms) (n m:Nat):qH Tryz.prog 70 [(.a [.lf n (fJ js),.lf m (fM ms)])] (.v (.n .i64 (rErr js ms n m))):=by
 refine uW (N:=60) (LO:=qZ [([0,1,0,1,1],kG (hQ js ms n m 0) (fun K=>bif decide (10 < (n:Int)) then none else (bif decide (jE js n n 0=0) then (K (.exit 0) (oQ js ms n m)) else (K .ret (rQ js ms n m (jE js n n 0)))))),([0,1,0,1,1,1,1],kG (hM js ms n m 0) (fun K=>bif decide (32 < (m:Int)) then none else (bif mAll ms n m 0 then (K (.exit 2) (oM js ms n m)) else (K .ret (rM js ms n m 0)))))]) zV qG (OrL.ok (l:=[(119,kJ js ms n m)]) ⟨yXG js ms n m,trivial⟩) (fun p S hp => ?_) ?_
 ·refine qQB (L:=qQ T 70) (l:=[([0,1,0,1,1],kG (hQ js ms n m 0) (fun K=>bif decide (10 < (n:Int)) then none else (bif decide (jE js n n 0=0) then (K (.exit 0) (oQ js ms n m)) else (K .ret (rQ js ms n m (jE js n n 0)))))),([0,1,0,1,1,1,1],kG (hM js ms n m 0) (fun K=>bif decide (32 < (m:Int)) then none else (bif mAll ms n m 0 then (K (.exit 2) (oM js ms n m)) else (K .ret (rM js ms n m 0)))))]) (show AllP _ [([0,1,0,1,1],kG (hQ js ms n m 0) (fun K=>bif decide (10 < (n:Int)) then none else (bif decide (jE js n n 0=0) then (K (.exit 0) (oQ js ms n m)) else (K .ret (rQ js ms n m (jE js n n 0)))))),([0,1,0,1,1,1,1],kG (hM js ms n m 0) (fun K=>bif decide (32 < (m:Int)) then none else (bif mAll ms n m 0 then (K (.exit 2) (oM js ms n m)) else (K .ret (rM js ms n m 0)))))] from ⟨qZU fun K r hr => ?_,qZU fun K r hr => ?_,trivial⟩) p S hp
  ·cases hq:decide (10 < (n:Int)) with
   | true=>rw [hq] at hr; cases hr
   | false =>
    rw [hq] at hr;have h10:=vYU hq;exact (lpQ K js ms n m (by omega) n 0 60 (by omega) (by omega)).trans hr
  ·cases hq:decide (32 < (m:Int)) with
   | true=>rw [hq] at hr; cases hr
   | false =>
    rw [hq] at hr;have h32:=vYU hq;exact (lpM K js ms n m (by omega) m 0 60 (by omega) (by omega)).trans hr
 ·refine (pxQ js ms n m).trans ?_;unfold rErr;rw [zQ,zQ,show decide ((n:Int) < 1)=decide ((n:Int)=0) from decide_eq_decide.2 (by omega)];by_cases h0:(n:Int)=0
  ·rw [vYJ h0]; rfl
  rw [vYY h0];by_cases h10:10 < (n:Int)
  ·rw [vYJ h10]; rfl
  rw [vYY h10];by_cases hj:jE js n n 0=0
  ·rw [vYJ hj];by_cases h32:32 < (m:Int)
   ·rw [vYJ h32]; rfl
   rw [vYY h32];cases mAll ms n m 0 <;> rfl
  ·rw [vYY hj]; rfl
end Go.Proofs.YtmeldddgjfocdaaGreat.Nc
namespace Go.Proofs.YtmeldddgjfocdaaGreat.Nx
open Go.Rx Rt Go.Sx Go.RowKit Od Na Nb Nc
noncomputable def zXG:List PV→Option (Bool × Ret):=fun ps=>match ps with
 | [.a a']=>(ivD a').bind fun a=>some (true,.v (.b (Iv.valid a)))
 | _=>none
noncomputable def L6:OrL:=(145,zXG) :: L5
noncomputable def zXU:List PV→Option (Bool × Ret):=fun ps=>match ps with
 | [.a a']=>(ivD a').bind fun a=>some (true,.v (.b (Iv.valid a)))
 | _=>none
noncomputable def L7:OrL:=(152,zXU) :: L6
def fB (bx:Nat→Iv):Nat→List PV:=fun v=>[.n .i64 (bx v).lo,.n .i64 (bx v).hi]
theorem yZQ {js:Nat→J} {ms:Nat→Ms} {n m:Nat} (h:rErr js ms n m=0):1≤n∧n≤10:=by
 unfold rErr at h;by_cases h0:(n:Int)=0
 ·rw [vYJ h0] at h; cases h
 by_cases h1:10 < (n:Int)
 ·rw [vYY h0,vYJ h1] at h; cases h
 omega
def hA (bx:Nat→Iv) (k:Nat) (i:Int):St:=⟨[(0,.v (.lf k (fB bx))),(3,.v (.n .i64 i))],[]⟩
noncomputable def kJI:List PV→Option (Bool × Ret):=fun ps=>match ps with
 | [.a a']=>(ivD a').bind fun a=>some (true,.v (.b (!Iv.valid a)))
 | _=>none
noncomputable def L8:OrL:=(144,kJI) :: L7
theorem zHX {p:Nat} (_:p < 9223372036854775807):vYX .i64 ((p:Int) + 1)=((p + 1:Nat):Int):=by rw [zU (by omega)]; omega
def hI (bx:Nat→Iv) (k:Nat) (i:Int):St:=⟨[(0,.v (.lf k (fB bx))),(1,.v (.f 144 [] [])),(7,.v (.n .i64 (k:Int))),(8,.v (.n .i64 i))],[]⟩
set_option maxRecDepth 100000 in
theorem rdI (G:St→Option (Ret × Mem)) (K:Cont) (bx:Nat→Iv) (k:Nat) (i:Int):zVW (k + 60) (cxF T (OrL.k L8) (k + 60) 167 (ntmF T 167)) (ckF T (OrL.k L8) (k + 60)) (qQ T 167 [0,1,0,1]) ((cxF T (OrL.k L8) (k + 60) 167 (ntmF T 167)).T.hint (cxF T (OrL.k L8) (k + 60) 167 (ntmF T 167)).me (qJ (qQ T 167 [0,1,0,1]))) K G (hI bx k i) =
 (bif (decide (i < (k:Int))) then (bif (inB i k) then (bif !Iv.valid (bx (i).toNat) then (K .ret ⟨[(4,.v (.n .i64 i))],[]⟩)
 else (G (hI bx k (vYX .i64 (i + 1)))))
 else none)
 else (K (.exit 0) ⟨[],[]⟩)):=by kernel_rfl
theorem lpI (K:Cont) (bx:Nat→Iv) (k:Nat) (_:k≤9223372036854775807):LF (k + 60) (cxF T (OrL.k L8) (k + 60) 167 (ntmF T 167)) (ckF T (OrL.k L8) (k + 60)) (qQ T 167 [0,1,0,1]) ((cxF T (OrL.k L8) (k + 60) 167 (ntmF T 167)).T.hint (cxF T (OrL.k L8) (k + 60) 167 (ntmF T 167)).me (qJ (qQ T 167 [0,1,0,1]))) K (k + 60) (hI bx k 0)=bif (allN (fun i:Nat=>Iv.valid (bx i)) k 0) then (K (.exit 0) ⟨[],[]⟩) else (K .ret ⟨[(4,.v (.n .i64 ((Rx.firstK (fun i:Nat=>Iv.valid (bx i)) k 0:Nat):Int)))],[]⟩):=by
 refine (zWZ (c:=k) (hI bx k) (fun i:Nat=>Iv.valid (bx i)) (K (.exit 0) ⟨[],[]⟩) (fun i:Nat=>(K .ret ⟨[(4,.v (.n .i64 (i:Int)))],[]⟩)) (fun G i hi => ?_) (fun G => ?_) k 0 (k + 60) (by omega) (by omega)).trans (kK _ _ _ _ _)
 ·refine (rdI G K bx k i).trans ?_;rw [vYJ (show (i:Int) < (k:Int) by omega),zHX (by omega),zJ (show i < k by omega),toN];cases Iv.valid (bx i) <;> rfl
 ·refine (rdI G K bx k k).trans ?_;rw [vYY (show ¬ (k:Int) < (k:Int) by omega)];rfl
end Go.Proofs.YtmeldddgjfocdaaGreat.Nx
namespace Go.Proofs.YtmeldddgjfocdaaGreat
open Go.Sx Go.Rx Rt Go.RowKit
namespace Tk
end Tk
open Tk
namespace Tk
noncomputable def zXW:List PV→Option (Bool × Ret):=fun ps=>match ps with
 | [.a z']=>(z3D z').bind fun z=>some (true,.v (.a (v3C (V3.of z))))
 | _=>none
noncomputable def qVK:List PV→Option (Bool × Ret):=fun ps=>match ps with
 | []=>some (true,.v (.a (poC (Po.rest))))
 | _=>none
end Tk
end Go.Proofs.YtmeldddgjfocdaaGreat
namespace Go.Proofs.YtmeldddgjfocdaaGreat
open Go.Sx Go.Rx Rt Go.RowKit
namespace Tr
end Tr
open Tr
namespace Tr
noncomputable def zXX:List PV→Option (Bool × Ret):=fun ps=>match ps with
 | [.a z']=>(z3D z').bind fun z=>some (true,.v (.a (v3C (V3.of z))))
 | _=>none
end Tr
end Go.Proofs.YtmeldddgjfocdaaGreat
namespace Go.Proofs.YtmeldddgjfocdaaGreat
end Go.Proofs.YtmeldddgjfocdaaGreat
namespace Go.Proofs.YtmeldddgjfocdaaGreat
end Go.Proofs.YtmeldddgjfocdaaGreat
namespace Go.Proofs.YtmeldddgjfocdaaGreat
end Go.Proofs.YtmeldddgjfocdaaGreat
namespace Go.Proofs.YtmeldddgjfocdaaGreat.Nf
open Go.Rx Rt Go.Sx Go.RowKit Od Na Nb Nc Nx
def bl (bx:Nat→Iv) (k:Nat):List Iv:=(List.range k).map bx
def fP (P:Nat→Po):Nat→List PV:=fun v=>Rx.poC (P v)
end Go.Proofs.YtmeldddgjfocdaaGreat.Nf
namespace Go.Proofs.YtmeldddgjfocdaaGreat.Ga
open Go.Rx Rt Go.Sx Go.RowKit Od Na Nb Nc Nx Nf
structure Shp where
 link:Int
 rad:Int
 np:Nat
 pts:Nat→Z3
structure Skp where
 a:Int
 b:Int
def zP (p:Z3):List PV:=[.n .i64 p.x,.n .i64 p.y,.n .i64 p.z]
def fZ (p:Nat→Z3):Nat→List PV:=fun w=>zP (p w)
def sP (s:Shp):List PV:=[.n .i64 s.link,.n .i64 s.rad,.lf s.np (fZ s.pts)]
def fS (sh:Nat→Shp):Nat→List PV:=fun v=>sP (sh v)
def fK (sk:Nat→Skp):Nat→List PV:=fun v=>[.n .i64 (sk v).a,.n .i64 (sk v).b]
def unZ (r:List PV):Z3:=match r with
 | [.n _ x,.n _ y,.n _ z]=>⟨x,y,z⟩
 | _=>⟨0,0,0⟩
def unFZ (f:Nat→List PV):Nat→Z3:=fun w=>unZ (f w)
def unS (r:List PV):Shp:=match r with
 | [.n _ l,.n _ q,.lf k f]=>⟨l,q,k,unFZ f⟩
 | _=>⟨0,0,0,fun _=>⟨0,0,0⟩⟩
def unFS (f:Nat→List PV):Nat→Shp:=fun v=>unS (f v)
def unFK (f:Nat→List PV):Nat→Skp:=fun v=>match f v with
 | [.n _ a,.n _ b]=>⟨a,b⟩
 | _=>⟨0,0⟩
def unFJ (f:Nat→List PV):Nat→J:=fun v=>match f v with
 | [.s a0,.n _ a1,.n _ a2,.n _ a3,.n _ a4,.n _ a5,.n _ a6,.n _ a7,.n _ a8,.n _ a9,.n _ a10,.n _ a11]=>⟨a0,a1,a2,⟨a3,a4,a5⟩,a6,a7,a8,a9,a10,a11⟩
 | _=>⟨ByteArray.empty,0,0,⟨0,0,0⟩,0,0,0,0,0,0⟩
def unFM (f:Nat→List PV):Nat→Ms:=fun v=>match f v with
 | [.n _ a0,.n _ a1,.n _ a2,.n _ a3,.n _ a4]=>⟨a0,a1,⟨a2,a3,a4⟩⟩
 | _=>⟨0,0,⟨0,0,0⟩⟩
def isLk (n:Nat) (l:Int):Bool:=decide (-1≤l) && decide (l < (n:Int))
def zOk (k:Int) (p:Z3):Bool:=(!decide (p.x < -k) && !decide (k < p.x)) && ((!decide (p.y < -k) && !decide (k < p.y)) && (!decide (p.z < -k) && !decide (k < p.z)))
noncomputable def kQE (_:Nat→J) (_:Nat→Ms) (_:Nat→Shp) (_:Nat→Skp) (n m c d:Nat) (l:Int):OrS:=orS [] []
noncomputable def yVX (_:Nat→J) (_:Nat→Ms) (_:Nat→Shp) (_:Nat→Skp) (n m c d:Nat) (l:Int):List (List Nat × yU):=[]
set_option maxRecDepth 100000 in
theorem kQJ (js:Nat→J) (ms:Nat→Ms) (sh:Nat→Shp) (sk:Nat→Skp) (n m c d:Nat) (l:Int):kH Tf (kQE js ms sh sk n m c d l) (qZ (yVX js ms sh sk n m c d l)) 60 110 [.a [.lf n (fJ js),.lf m (fM ms),.lf c (fS sh),.lf d (fK sk)],.n .i64 l] =
 (bif (decide ((-1)≤l)) then (bif (decide (l < (n:Int))) then some (.v (.b true),[])
 else some (.v (.b false),[]))
 else some (.v (.b false),[])):=by kernel_rfl
theorem jQC (js:Nat→J) (ms:Nat→Ms) (sh:Nat→Shp) (sk:Nat→Skp) (n m c d:Nat) (l:Int):qH Tryz.prog 110 [.a [.lf n (fJ js),.lf m (fM ms),.lf c (fS sh),.lf d (fK sk)],.n .i64 l] (.v (.b (isLk n l))):=by
 refine qX (N:=60) (LO:=qZ (yVX js ms sh sk n m c d l)) yG qG (yH (l:=[]) (m:=[]) trivial trivial) (fun p S hp => ?_) ?_
 ·refine qK (L:=qQ Tf 110) (l:=(yVX js ms sh sk n m c d l)) (show AllP _ (yVX js ms sh sk n m c d l) from trivial) p S hp
 ·refine (kQJ js ms sh sk n m c d l).trans ?_;unfold isLk;cases decide (-1≤l) <;> cases decide (l < (n:Int)) <;> rfl
def cil:(Nat→J) × (Nat→Ms) × (Nat→Shp) × (Nat→Skp) × Nat × Nat × Nat × Nat × Int→Prop:=fun t=>match t with | (_,_,_,_,_,_,_,_,_)=>True
def eil:(Nat→J) × (Nat→Ms) × (Nat→Shp) × (Nat→Skp) × Nat × Nat × Nat × Nat × Int→List PV:=fun t=>match t with | (js,ms,sh,sk,n,m,c,d,l)=>[.a [.lf n (fJ js),.lf m (fM ms),.lf c (fS sh),.lf d (fK sk)],.n .i64 l]
noncomputable def ril:(Nat→J) × (Nat→Ms) × (Nat→Shp) × (Nat→Skp) × Nat × Nat × Nat × Nat × Int→Ret:=fun t=>match t with | (_,_,_,_,n,_,_,_,l)=>.v (.b (isLk n l))
def dil:List PV→(Nat→J) × (Nat→Ms) × (Nat→Shp) × (Nat→Skp) × Nat × Nat × Nat × Nat × Int:=fun ps=>match ps with
 | [.a [.lf n js,.lf m ms,.lf c sh,.lf d sk],.n _ l]=>(unFJ js,unFM ms,unFS sh,unFK sk,n,m,c,d,l)
 | _=>(fun _=>⟨ByteArray.empty,0,0,⟨0,0,0⟩,0,0,0,0,0,0⟩,fun _=>⟨0,0,⟨0,0,0⟩⟩,fun _=>⟨0,0,0,fun _=>⟨0,0,0⟩⟩,fun _=>⟨0,0⟩,0,0,0,0,0)
noncomputable def o_il:List PV→Option (Bool × Ret):=o_fm dil cil eil ril
theorem jWU:jG Tryz.prog 110 o_il:=qQU fun t h=>by
 obtain ⟨js,ms,sh,sk,n,m,c,d,l⟩:=t;exact jQC js ms sh sk n m c d l
noncomputable def kQD (_:Nat→J) (_:Nat→Ms) (n m:Nat) (l:Int):OrS:=orS [] []
noncomputable def yVU (_:Nat→J) (_:Nat→Ms) (n m:Nat) (l:Int):List (List Nat × yU):=[]
set_option maxRecDepth 100000 in
theorem kQY (js:Nat→J) (ms:Nat→Ms) (n m:Nat) (l:Int):kH Tf (kQD js ms n m l) (qZ (yVU js ms n m l)) 60 88 [.a [.lf n (fJ js),.lf m (fM ms)],.n .i64 l] =
 (bif (decide ((-1)≤l)) then (bif (decide (l < (n:Int))) then some (.v (.b true),[])
 else some (.v (.b false),[]))
 else some (.v (.b false),[])):=by kernel_rfl
theorem jQB (js:Nat→J) (ms:Nat→Ms) (n m:Nat) (l:Int):qH Tryz.prog 88 [.a [.lf n (fJ js),.lf m (fM ms)],.n .i64 l] (.v (.b (isLk n l))):=by
 refine qX (N:=60) (LO:=qZ (yVU js ms n m l)) yG qG (yH (l:=[]) (m:=[]) trivial trivial) (fun p S hp => ?_) ?_
 ·refine qK (L:=qQ Tf 88) (l:=(yVU js ms n m l)) (show AllP _ (yVU js ms n m l) from trivial) p S hp
 ·refine (kQY js ms n m l).trans ?_;unfold isLk;cases decide (-1≤l) <;> cases decide (l < (n:Int)) <;> rfl
def cir:(Nat→J) × (Nat→Ms) × Nat × Nat × Int→Prop:=fun t=>match t with | (_,_,_,_,_)=>True
def eir:(Nat→J) × (Nat→Ms) × Nat × Nat × Int→List PV:=fun t=>match t with | (js,ms,n,m,l)=>[.a [.lf n (fJ js),.lf m (fM ms)],.n .i64 l]
noncomputable def rir:(Nat→J) × (Nat→Ms) × Nat × Nat × Int→Ret:=fun t=>match t with | (_,_,n,_,l)=>.v (.b (isLk n l))
def dir:List PV→(Nat→J) × (Nat→Ms) × Nat × Nat × Int:=fun ps=>match ps with
 | [.a [.lf n js,.lf m ms],.n _ l]=>(unFJ js,unFM ms,n,m,l)
 | _=>(fun _=>⟨ByteArray.empty,0,0,⟨0,0,0⟩,0,0,0,0,0,0⟩,fun _=>⟨0,0,⟨0,0,0⟩⟩,0,0,0)
noncomputable def o_ir:List PV→Option (Bool × Ret):=o_fm dir cir eir rir
theorem kZC:jG Tryz.prog 88 o_ir:=qQU fun t h=>by
 obtain ⟨js,ms,n,m,l⟩:=t;exact jQB js ms n m l
noncomputable def orbt (x _ _:Int):OrS:=orS [] []
noncomputable def lsbt (x _ _:Int):List (List Nat × yU):=[]
set_option maxRecDepth 100000 in
theorem pxbt (x lo hi:Int):kH Tf (orbt x lo hi) (qZ (lsbt x lo hi)) 60 89 [.n .i64 x,.n .i64 lo,.n .i64 hi] =
 (bif (decide (lo≤x)) then (bif (decide (x≤hi)) then some (.v (.b true),[])
 else some (.v (.b false),[]))
 else some (.v (.b false),[])):=by kernel_rfl
theorem jUU (x lo hi:Int):qH Tryz.prog 89 [.n .i64 x,.n .i64 lo,.n .i64 hi] (.v (.b (decide (lo≤x) && decide (x≤hi)))):=by
 refine qX (N:=60) (LO:=qZ (lsbt x lo hi)) yG qG (yH (l:=[]) (m:=[]) trivial trivial) (fun p S hp => ?_) ?_
 ·refine qK (L:=qQ Tf 89) (l:=(lsbt x lo hi)) (show AllP _ (lsbt x lo hi) from trivial) p S hp
 ·refine (pxbt x lo hi).trans ?_;cases decide (lo≤x) <;> cases decide (x≤hi) <;> rfl
def cbt:Int × Int × Int→Prop:=fun t=>match t with | (_,_,_)=>True
def ebt:Int × Int × Int→List PV:=fun t=>match t with | (x,lo,hi)=>[.n .i64 x,.n .i64 lo,.n .i64 hi]
noncomputable def rbt:Int × Int × Int→Ret:=fun t=>match t with | (x,lo,hi)=>.v (.b (decide (lo≤x) && decide (x≤hi)))
def dbt:List PV→Int × Int × Int:=fun ps=>match ps with
 | [.n _ x,.n _ lo,.n _ hi]=>(x,lo,hi)
 | _=>(0,0,0)
noncomputable def o_bt:List PV→Option (Bool × Ret):=o_fm dbt cbt ebt rbt
theorem kYK:jG Tryz.prog 89 o_bt:=qQU fun t h=>by
 obtain ⟨x,lo,hi⟩:=t;exact jUU x lo hi
noncomputable def ornr (_:Z3):OrS:=orS [] []
noncomputable def lsnr (_:Z3):List (List Nat × yU):=[]
set_option maxRecDepth 100000 in
theorem pxnr (z:Z3):kH Tf (ornr z) (qZ (lsnr z)) 60 64 [.a [.n .i64 z.x,.n .i64 z.y,.n .i64 z.z],.n .i64 4194304] =
 (bif (decide (z.x < (-4194304))) then some (.v (.b false),[])
 else (bif (decide (4194304 < z.x)) then some (.v (.b false),[])
 else (bif (decide (z.y < (-4194304))) then some (.v (.b false),[])
 else (bif (decide (4194304 < z.y)) then some (.v (.b false),[])
 else (bif (decide (z.z < (-4194304))) then some (.v (.b false),[])
 else (bif (decide (4194304 < z.z)) then some (.v (.b false),[])
 else some (.v (.b true),[]))))))):=by kernel_rfl
theorem jUZ (z:Z3):qH Tryz.prog 64 [.a [.n .i64 z.x,.n .i64 z.y,.n .i64 z.z],.n .i64 4194304] (.v (.b (zOk 4194304 z))):=by
 refine qX (N:=60) (LO:=qZ (lsnr z)) yG qG (yH (l:=[]) (m:=[]) trivial trivial) (fun p S hp => ?_) ?_
 ·refine qK (L:=qQ Tf 64) (l:=(lsnr z)) (show AllP _ (lsnr z) from trivial) p S hp
 ·refine (pxnr z).trans ?_;unfold zOk;cases decide (z.x < -4194304) <;> cases decide (4194304 < z.x) <;> cases decide (z.y < -4194304) <;> cases decide (4194304 < z.y) <;> cases decide (z.z < -4194304) <;> cases decide (4194304 < z.z) <;> rfl
def cnr:Z3→Prop:=fun t=>match t with | _=>True
def enr:Z3→List PV:=fun t=>match t with | z=>[.a (zP z),.n .i64 4194304]
noncomputable def rnr:Z3→Ret:=fun t=>match t with | z=>.v (.b (zOk 4194304 z))
def dnr:List PV→Z3:=fun ps=>match ps with
 | [.a r,.n _ _]=>(unZ r)
 | _=>⟨0,0,0⟩
noncomputable def o_nr:List PV→Option (Bool × Ret):=o_fm dnr cnr enr rnr
theorem kZG:jG Tryz.prog 64 o_nr:=qQU fun t h=>by
 revert h; revert t; intro z h
 exact jUZ z
end Go.Proofs.YtmeldddgjfocdaaGreat.Ga
namespace Go.Proofs.YtmeldddgjfocdaaGreat.Gb
open Go.Rx Rt Go.Sx Go.RowKit Od Na Nb Nc Nx Nf Ga
def qVL (s:Shp):Bool:=allN (fun i:Nat=>zOk 4194304 (s.pts i)) s.np 0
def shE (n:Nat) (s:Shp):Int:=bif !isLk n s.link || (decide (s.rad < 1) || (decide (1048576 < s.rad) || (decide ((s.np:Int) < 1) || decide (8 < (s.np:Int))))) then 902 else bif qVL s then 0 else 805
noncomputable def orCs (_:Nat→J) (_:Nat→Ms) (_:Nat→Shp) (_:Nat→Skp) (n m c d:Nat) (s:Shp):OrS:=orS [(110,o_il)] []
noncomputable def hCs (_:Nat→J) (_:Nat→Ms) (_:Nat→Shp) (_:Nat→Skp) (n m c d:Nat) (s:Shp) (i:Int):St:=⟨[(37,.v (.lf s.np (fZ s.pts))),(38,.v (.n .i64 (s.np:Int))),(39,.v (.n .i64 i))],[]⟩
set_option maxRecDepth 100000 in
theorem rdCs (G:St→Option (Ret × Mem)) (K:Cont) (js:Nat→J) (ms:Nat→Ms) (sh:Nat→Shp) (sk:Nat→Skp) (n m c d:Nat) (s:Shp) (i:Int):yJ 60 (cxS Tf (orCs js ms sh sk n m c d s) 60 109 (ntmF Tf 109)) (evX Tf (orCs js ms sh sk n m c d s) 60 109 (ntmF Tf 109)) (qZ []) (qQ Tf 109 [0,1,0,1,1,1]) [0,1,0,1,1,1] (Tf.hint 109 (qJ (qQ Tf 109 [0,1,0,1,1,1]))) K G (hCs js ms sh sk n m c d s i) =
 (bif (decide (i < (s.np:Int))) then (bif (inB i s.np) then (bif (decide ((s.pts (i).toNat).x < (-4194304))) then (K .ret ⟨[(4,.v (.n .i64 805))],[]⟩)
 else (bif (decide (4194304 < (s.pts (i).toNat).x)) then (K .ret ⟨[(4,.v (.n .i64 805))],[]⟩)
 else (bif (decide ((s.pts (i).toNat).y < (-4194304))) then (K .ret ⟨[(4,.v (.n .i64 805))],[]⟩)
 else (bif (decide (4194304 < (s.pts (i).toNat).y)) then (K .ret ⟨[(4,.v (.n .i64 805))],[]⟩)
 else (bif (decide ((s.pts (i).toNat).z < (-4194304))) then (K .ret ⟨[(4,.v (.n .i64 805))],[]⟩)
 else (bif (decide (4194304 < (s.pts (i).toNat).z)) then (K .ret ⟨[(4,.v (.n .i64 805))],[]⟩)
 else (G (hCs js ms sh sk n m c d s (vYX .i64 (i + 1))))))))))
 else none)
 else (K (.exit 0) ⟨[],[]⟩)):=by kernel_rfl
theorem lpCs (K:Cont) (js:Nat→J) (ms:Nat→Ms) (sh:Nat→Shp) (sk:Nat→Skp) (n m c d:Nat) (s:Shp) (_:s.np≤50):LFX 60 (cxS Tf (orCs js ms sh sk n m c d s) 60 109 (ntmF Tf 109)) (evX Tf (orCs js ms sh sk n m c d s) 60 109 (ntmF Tf 109)) (qZ []) (qQ Tf 109 [0,1,0,1,1,1]) [0,1,0,1,1,1] (Tf.hint 109 (qJ (qQ Tf 109 [0,1,0,1,1,1]))) K 60 (hCs js ms sh sk n m c d s 0)=bif (allN (fun i:Nat=>zOk 4194304 (s.pts i)) s.np 0) then (K (.exit 0) ⟨[],[]⟩) else (K .ret ⟨[(4,.v (.n .i64 805))],[]⟩):=by
 refine (jJ (L:=LFX 60 (cxS Tf (orCs js ms sh sk n m c d s) 60 109 (ntmF Tf 109)) (evX Tf (orCs js ms sh sk n m c d s) 60 109 (ntmF Tf 109)) (qZ []) (qQ Tf 109 [0,1,0,1,1,1]) [0,1,0,1,1,1] (Tf.hint 109 (qJ (qQ Tf 109 [0,1,0,1,1,1]))) K) (stp:=yJ 60 (cxS Tf (orCs js ms sh sk n m c d s) 60 109 (ntmF Tf 109)) (evX Tf (orCs js ms sh sk n m c d s) 60 109 (ntmF Tf 109)) (qZ []) (qQ Tf 109 [0,1,0,1,1,1]) [0,1,0,1,1,1] (Tf.hint 109 (qJ (qQ Tf 109 [0,1,0,1,1,1]))) K) (fun _ _=>rfl) (fun (i:Nat) (_:Unit)=>hCs js ms sh sk n m c d s (i:Int)) (fun _ _=>True) (fun (i:Nat) _=>zOk 4194304 (s.pts i)) (fun _ _=>()) (c:=s.np) (fun _=>(K (.exit 0) ⟨[],[]⟩)) (fun i _=>(K .ret ⟨[(4,.v (.n .i64 805))],[]⟩)) (fun G i f hi _ => ?_) (fun _ _ _ _ _=>trivial) (fun G f _ => ?_) s.np 0 60 () (by omega) (by omega) trivial).trans ((zG _ _ _ _ _).trans (yZ _ _ _ _ _))
 ·refine (rdCs G K js ms sh sk n m c d s i).trans ?_;rw [vYJ (show (i:Int) < (s.np:Int) by omega),jZ (by omega),zJ (show i < s.np by omega),toN];unfold zOk;cases decide ((s.pts i).x < -4194304) <;> cases decide (4194304 < (s.pts i).x) <;> cases decide ((s.pts i).y < -4194304) <;> cases decide (4194304 < (s.pts i).y) <;> cases decide ((s.pts i).z < -4194304) <;> cases decide (4194304 < (s.pts i).z) <;> rfl
 ·refine (rdCs G K js ms sh sk n m c d s s.np).trans ?_;rw [vYY (show ¬ (s.np:Int) < (s.np:Int) by omega)];rfl
noncomputable def yVH (js:Nat→J) (ms:Nat→Ms) (sh:Nat→Shp) (sk:Nat→Skp) (n m c d:Nat) (s:Shp):List (List Nat × yU):=[([0,1,0,1,1,1],sumF (fun _:Unit=>(hCs js ms sh sk n m c d s 0)) (fun _=>()) (fun _ K=>(bif (decide (s.np≤50)) then (bif (allN (fun i:Nat=>zOk 4194304 (s.pts i)) s.np 0) then (K (.exit 0) ⟨[],[]⟩) else (K .ret ⟨[(4,.v (.n .i64 805))],[]⟩)) else none)))]
set_option maxRecDepth 100000 in
theorem kQW (js:Nat→J) (ms:Nat→Ms) (sh:Nat→Shp) (sk:Nat→Skp) (n m c d:Nat) (s:Shp):kH Tf (orCs js ms sh sk n m c d s) (qZ (yVH js ms sh sk n m c d s)) 60 109 [.a [.lf n (fJ js),.lf m (fM ms),.lf c (fS sh),.lf d (fK sk)],.a (sP s)] =
 (bif (gF1 cil eil (js,ms,sh,sk,n,m,c,d,s.link)) then (bif (isLk n s.link) then (bif (decide (s.rad < 1)) then some (.v (.n .i64 902),[])
 else (bif (decide (1048576 < s.rad)) then some (.v (.n .i64 902),[])
 else (bif (decide ((s.np:Int) < 1)) then some (.v (.n .i64 902),[])
 else (bif (decide (8 < (s.np:Int))) then some (.v (.n .i64 902),[])
 else (bif (gSt (hCs js ms sh sk n m c d s 0) (hCs js ms sh sk n m c d s 0)) then (bif (decide (s.np≤50)) then (bif (allN (fun i:Nat=>zOk 4194304 (s.pts i)) s.np 0) then some (.v (.n .i64 0),[])
 else some (.v (.n .i64 805),[]))
 else none)
 else none)))))
 else some (.v (.n .i64 902),[]))
 else none):=by kernel_rfl
theorem jQI (js:Nat→J) (ms:Nat→Ms) (sh:Nat→Shp) (sk:Nat→Skp) (n m c d:Nat) (s:Shp):qH Tryz.prog 109 [.a [.lf n (fJ js),.lf m (fM ms),.lf c (fS sh),.lf d (fK sk)],.a (sP s)] (.v (.n .i64 (shE n s))):=by
 refine qX (N:=60) (LO:=qZ (yVH js ms sh sk n m c d s)) yG qG (yH (l:=[(110,o_il)]) (m:=[]) ⟨jWU,trivial⟩ trivial) (fun p S hp => ?_) ?_
 ·refine qK (L:=qQ Tf 109) (l:=(yVH js ms sh sk n m c d s)) (show AllP _ (yVH js ms sh sk n m c d s) from ⟨?_,trivial⟩) p S hp
  ·dsimp only;refine yQ (T:=Tf) (o:=(orCs js ms sh sk n m c d s)) (f:=109) (LO:=qZ []) (p:=[0,1,0,1,1,1]) yV ?_;intro t K r hr;obtain ⟨hg,hr⟩:=qY hr;have hk:=vYK hg;exact (lpCs K js ms sh sk n m c d s hk).trans hr
 ·refine (kQW js ms sh sk n m c d s).trans ?_;unfold shE qVL;rw [jH (C:=cil) (t:=(js,ms,sh,sk,n,m,c,d,s.link)) trivial,zQ];by_cases h:8 < (s.np:Int)
  ·rw [vYJ h];cases isLk n s.link <;> cases decide (s.rad < 1) <;> cases decide (1048576 < s.rad) <;> cases decide ((s.np:Int) < 1) <;> rfl
  ·rw [vYY h,vYJ (show s.np≤50 by omega)];cases isLk n s.link <;> cases decide (s.rad < 1) <;> cases decide (1048576 < s.rad) <;> cases decide ((s.np:Int) < 1) <;> cases allN (fun i:Nat=>zOk 4194304 (s.pts i)) s.np 0 <;> rfl
def ccs:(Nat→J) × (Nat→Ms) × (Nat→Shp) × (Nat→Skp) × Nat × Nat × Nat × Nat × Shp→Prop:=fun t=>match t with | (_,_,_,_,_,_,_,_,_)=>True
def ecs:(Nat→J) × (Nat→Ms) × (Nat→Shp) × (Nat→Skp) × Nat × Nat × Nat × Nat × Shp→List PV:=fun t=>match t with | (js,ms,sh,sk,n,m,c,d,s)=>[.a [.lf n (fJ js),.lf m (fM ms),.lf c (fS sh),.lf d (fK sk)],.a (sP s)]
noncomputable def rcs:(Nat→J) × (Nat→Ms) × (Nat→Shp) × (Nat→Skp) × Nat × Nat × Nat × Nat × Shp→Ret:=fun t=>match t with | (_,_,_,_,n,_,_,_,s)=>.v (.n .i64 (shE n s))
def dcs:List PV→(Nat→J) × (Nat→Ms) × (Nat→Shp) × (Nat→Skp) × Nat × Nat × Nat × Nat × Shp:=fun ps=>match ps with
 | [.a [.lf n js,.lf m ms,.lf c sh,.lf d sk],.a r]=>(unFJ js,unFM ms,unFS sh,unFK sk,n,m,c,d,unS r)
 | _=>(fun _=>⟨ByteArray.empty,0,0,⟨0,0,0⟩,0,0,0,0,0,0⟩,fun _=>⟨0,0,⟨0,0,0⟩⟩,fun _=>⟨0,0,0,fun _=>⟨0,0,0⟩⟩,fun _=>⟨0,0⟩,0,0,0,0,⟨0,0,0,fun _=>⟨0,0,0⟩⟩)
noncomputable def o_cs:List PV→Option (Bool × Ret):=o_fm dcs ccs ecs rcs
theorem kYQ:jG Tryz.prog 109 o_cs:=qQU fun t h=>by
 obtain ⟨js,ms,sh,sk,n,m,c,d,s⟩:=t;exact jQI js ms sh sk n m c d s
def shOk (s:Shp):Bool:=!(decide (s.rad < 1) || (decide (1048576 < s.rad) || (decide ((s.np:Int) < 1) || decide (8 < (s.np:Int))))) && qVL s
noncomputable def orPc (s:Shp):OrS:=orS [] []
noncomputable def hPc (s:Shp) (i:Int):St:=⟨[(28,.v (.lf s.np (fZ s.pts))),(29,.v (.n .i64 (s.np:Int))),(30,.v (.n .i64 i))],[]⟩
set_option maxRecDepth 100000 in
theorem rdPc (G:St→Option (Ret × Mem)) (K:Cont) (s:Shp) (i:Int):yJ 60 (cxS Tf (orPc s) 60 115 (ntmF Tf 115)) (evX Tf (orPc s) 60 115 (ntmF Tf 115)) (qZ []) (qQ Tf 115 [0,1,0,1,1]) [0,1,0,1,1] (Tf.hint 115 (qJ (qQ Tf 115 [0,1,0,1,1]))) K G (hPc s i) =
 (bif (decide (i < (s.np:Int))) then (bif (inB i s.np) then (bif (decide ((s.pts (i).toNat).x < (-4194304))) then (K .ret ⟨[(2,.v (.b false))],[]⟩)
 else (bif (decide (4194304 < (s.pts (i).toNat).x)) then (K .ret ⟨[(2,.v (.b false))],[]⟩)
 else (bif (decide ((s.pts (i).toNat).y < (-4194304))) then (K .ret ⟨[(2,.v (.b false))],[]⟩)
 else (bif (decide (4194304 < (s.pts (i).toNat).y)) then (K .ret ⟨[(2,.v (.b false))],[]⟩)
 else (bif (decide ((s.pts (i).toNat).z < (-4194304))) then (K .ret ⟨[(2,.v (.b false))],[]⟩)
 else (bif (decide (4194304 < (s.pts (i).toNat).z)) then (K .ret ⟨[(2,.v (.b false))],[]⟩)
 else (G (hPc s (vYX .i64 (i + 1))))))))))
 else none)
 else (K (.exit 0) ⟨[],[]⟩)):=by kernel_rfl
theorem lpPc (K:Cont) (s:Shp) (_:s.np≤50):LFX 60 (cxS Tf (orPc s) 60 115 (ntmF Tf 115)) (evX Tf (orPc s) 60 115 (ntmF Tf 115)) (qZ []) (qQ Tf 115 [0,1,0,1,1]) [0,1,0,1,1] (Tf.hint 115 (qJ (qQ Tf 115 [0,1,0,1,1]))) K 60 (hPc s 0)=bif (allN (fun i:Nat=>zOk 4194304 (s.pts i)) s.np 0) then (K (.exit 0) ⟨[],[]⟩) else (K .ret ⟨[(2,.v (.b false))],[]⟩):=by
 refine (jJ (L:=LFX 60 (cxS Tf (orPc s) 60 115 (ntmF Tf 115)) (evX Tf (orPc s) 60 115 (ntmF Tf 115)) (qZ []) (qQ Tf 115 [0,1,0,1,1]) [0,1,0,1,1] (Tf.hint 115 (qJ (qQ Tf 115 [0,1,0,1,1]))) K) (stp:=yJ 60 (cxS Tf (orPc s) 60 115 (ntmF Tf 115)) (evX Tf (orPc s) 60 115 (ntmF Tf 115)) (qZ []) (qQ Tf 115 [0,1,0,1,1]) [0,1,0,1,1] (Tf.hint 115 (qJ (qQ Tf 115 [0,1,0,1,1]))) K) (fun _ _=>rfl) (fun (i:Nat) (_:Unit)=>hPc s (i:Int)) (fun _ _=>True) (fun (i:Nat) _=>zOk 4194304 (s.pts i)) (fun _ _=>()) (c:=s.np) (fun _=>(K (.exit 0) ⟨[],[]⟩)) (fun i _=>(K .ret ⟨[(2,.v (.b false))],[]⟩)) (fun G i f hi _ => ?_) (fun _ _ _ _ _=>trivial) (fun G f _ => ?_) s.np 0 60 () (by omega) (by omega) trivial).trans ((zG _ _ _ _ _).trans (yZ _ _ _ _ _))
 ·refine (rdPc G K s i).trans ?_;rw [vYJ (show (i:Int) < (s.np:Int) by omega),jZ (by omega),zJ (show i < s.np by omega),toN];unfold zOk;cases decide ((s.pts i).x < -4194304) <;> cases decide (4194304 < (s.pts i).x) <;> cases decide ((s.pts i).y < -4194304) <;> cases decide (4194304 < (s.pts i).y) <;> cases decide ((s.pts i).z < -4194304) <;> cases decide (4194304 < (s.pts i).z) <;> rfl
 ·refine (rdPc G K s s.np).trans ?_;rw [vYY (show ¬ (s.np:Int) < (s.np:Int) by omega)];rfl
noncomputable def yWL (s:Shp):List (List Nat × yU):=[([0,1,0,1,1],sumF (fun _:Unit=>(hPc s 0)) (fun _=>()) (fun _ K=>(bif (decide (s.np≤50)) then (bif (allN (fun i:Nat=>zOk 4194304 (s.pts i)) s.np 0) then (K (.exit 0) ⟨[],[]⟩) else (K .ret ⟨[(2,.v (.b false))],[]⟩)) else none)))]
set_option maxRecDepth 100000 in
theorem jHE (s:Shp):kH Tf (orPc s) (qZ (yWL s)) 60 115 [.a (sP s)] =
 (bif (decide (s.rad < 1)) then some (.v (.b false),[])
 else (bif (decide (1048576 < s.rad)) then some (.v (.b false),[])
 else (bif (decide ((s.np:Int) < 1)) then some (.v (.b false),[])
 else (bif (decide (8 < (s.np:Int))) then some (.v (.b false),[])
 else (bif (gSt (hPc s 0) (hPc s 0)) then (bif (decide (s.np≤50)) then (bif (allN (fun i:Nat=>zOk 4194304 (s.pts i)) s.np 0) then some (.v (.b true),[])
 else some (.v (.b false),[]))
 else none)
 else none))))):=by kernel_rfl
theorem jQX (s:Shp):qH Tryz.prog 115 [.a (sP s)] (.v (.b (shOk s))):=by
 refine qX (N:=60) (LO:=qZ (yWL s)) yG qG (yH (l:=[]) (m:=[]) trivial trivial) (fun p S hp => ?_) ?_
 ·refine qK (L:=qQ Tf 115) (l:=(yWL s)) (show AllP _ (yWL s) from ⟨?_,trivial⟩) p S hp
  ·dsimp only;refine yQ (T:=Tf) (o:=(orPc s)) (f:=115) (LO:=qZ []) (p:=[0,1,0,1,1]) yV ?_;intro t K r hr;obtain ⟨hg,hr⟩:=qY hr;have hk:=vYK hg;exact (lpPc K s hk).trans hr
 ·refine (jHE s).trans ?_;unfold shOk qVL;rw [zQ];by_cases h:8 < (s.np:Int)
  ·rw [vYJ h];cases decide (s.rad < 1) <;> cases decide (1048576 < s.rad) <;> cases decide ((s.np:Int) < 1) <;> rfl
  ·rw [vYY h,vYJ (show s.np≤50 by omega)];cases decide (s.rad < 1) <;> cases decide (1048576 < s.rad) <;> cases decide ((s.np:Int) < 1) <;> cases allN (fun i:Nat=>zOk 4194304 (s.pts i)) s.np 0 <;> rfl
def cpk:Shp→Prop:=fun t=>match t with | _=>True
def epk:Shp→List PV:=fun t=>match t with | s=>[.a (sP s)]
noncomputable def rpk:Shp→Ret:=fun t=>match t with | s=>.v (.b (shOk s))
def dpk:List PV→Shp:=fun ps=>match ps with
 | [.a r]=>unS r
 | _=>⟨0,0,0,fun _=>⟨0,0,0⟩⟩
noncomputable def o_pk:List PV→Option (Bool × Ret):=o_fm dpk cpk epk rpk
theorem kZV:jG Tryz.prog 115 o_pk:=qQU fun t h=>by
 revert h; revert t; intro s h
 exact jQX s
end Go.Proofs.YtmeldddgjfocdaaGreat.Gb

/- Part 20 of the texts behind the last one: rules and contracts. No condition. -/
import Derived.Test.YtklmegnpfhiibaaGreatBK19
open Option.some renaming injEq → vQZ
open Prod.mk renaming injEq → vQY
open Bool renaming and_eq_true → vQJ, and_self → vZQ, true_and → vZW
open Go.IntKind renaming wrap → vYW
namespace Go.Proofs.YtklmegnpfhiibaaGreat.Nb
open Go.Rx Rt Go.Sx Go.RowKit Od
open Na
def fJ (js:Nat→J):Nat→List PV:=fun v=>jp (js v)
def fM (ms:Nat→Ms):Nat→List PV:=fun v=>mp (ms v)
def fnd (js:Nat→J) (nm:ByteArray):Nat→Nat→Int
 | 0,_ => -1
 | k + 1,p=>bif ((js p).name.toList == nm.toList) then (p:Int) else fnd js nm k (p + 1)
def dup (js:Nat→J) (nm:ByteArray):Nat→Nat→Bool
 | 0,_=>false
 | k + 1,p=>((js p).name.toList == nm.toList) || dup js nm k (p + 1)
def hF (js:Nat→J) (ms:Nat→Ms) (n m:Nat) (nm:ByteArray) (i:Int):St:=⟨[(1,.v (.s nm)),(2,.p 2 0),(8,.v (.n .i64 (n:Int))),(9,.v (.n .i64 i))],[(2,.blk [.v (.lf n (fJ js)),.v (.lf m (fM ms))])]⟩
set_option maxRecDepth 100000 in
theorem rdF (G:St→Option (Ret × Mem)) (K:Cont) (js:Nat→J) (ms:Nat→Ms) (n m:Nat) (nm:ByteArray) (i:Int):qJD 60 (cxF T (OrL.k ([]:OrL)) 60 89 (ntmF T 89)) (ckF T (OrL.k ([]:OrL)) 60) (qZ T 89 [0,1,0,1]) (fun e τ=>match e with
 | .normal=>G (qZB ((cxF T (OrL.k ([]:OrL)) 60 89 (ntmF T 89)).T.hint (cxF T (OrL.k ([]:OrL)) 60 89 (ntmF T 89)).me (zZ (qZ T 89 [0,1,0,1]))) τ)
 | e=>K e (qQE ((cxF T (OrL.k ([]:OrL)) 60 89 (ntmF T 89)).T.hint (cxF T (OrL.k ([]:OrL)) 60 89 (ntmF T 89)).me (zZ (qZ T 89 [0,1,0,1]))) τ)) (hF js ms n m nm i) =
 (bif (decide (i < (n:Int))) then (bif (inB i n) then (bif ((js (i).toNat).name.toList == nm.toList) then (K .ret ⟨[(4,.v (.n .i64 i))],[]⟩)
 else (G (hF js ms n m nm (vYW .i64 (i + 1)))))
 else none)
 else (K (.exit 0) ⟨[],[]⟩)):=by kernel_rfl
theorem lpF (K:Cont) (js:Nat→J) (ms:Nat→Ms) (n m:Nat) (nm:ByteArray) (hn:n≤1000):∀ (k p q:Nat),p + k=n→k < q→LF 60 (cxF T (OrL.k ([]:OrL)) 60 89 (ntmF T 89)) (ckF T (OrL.k ([]:OrL)) 60) (qZ T 89 [0,1,0,1]) ((cxF T (OrL.k ([]:OrL)) 60 89 (ntmF T 89)).T.hint (cxF T (OrL.k ([]:OrL)) 60 89 (ntmF T 89)).me (zZ (qZ T 89 [0,1,0,1]))) K q (hF js ms n m nm p)=(bif decide (fnd js nm k p = -1) then K (.exit 0) ⟨[],[]⟩ else K .ret ⟨[(4,.v (.n .i64 (fnd js nm k p)))],[]⟩)
 | 0,p,q + 1,hp,hq=>by
  refine (rdF (fun σ=>LF 60 (cxF T (OrL.k ([]:OrL)) 60 89 (ntmF T 89)) (ckF T (OrL.k ([]:OrL)) 60) (qZ T 89 [0,1,0,1]) ((cxF T (OrL.k ([]:OrL)) 60 89 (ntmF T 89)).T.hint (cxF T (OrL.k ([]:OrL)) 60 89 (ntmF T 89)).me (zZ (qZ T 89 [0,1,0,1]))) K q σ) K js ms n m nm p).trans ?_;rw [vYJ (show ¬ (p:Int) < (n:Int) by omega)];rfl
 | k + 1,p,q + 1,hp,hq=>by
  refine (rdF (fun σ=>LF 60 (cxF T (OrL.k ([]:OrL)) 60 89 (ntmF T 89)) (ckF T (OrL.k ([]:OrL)) 60) (qZ T 89 [0,1,0,1]) ((cxF T (OrL.k ([]:OrL)) 60 89 (ntmF T 89)).T.hint (cxF T (OrL.k ([]:OrL)) 60 89 (ntmF T 89)).me (zZ (qZ T 89 [0,1,0,1]))) K q σ) K js ms n m nm p).trans ?_;rw [vYK (show (p:Int) < (n:Int) by omega),zU (show p < n by omega),jG (by omega),lpF K js ms n m nm hn k (p + 1) q (by omega) (by omega),toN];by_cases hq:((js p).name.toList == nm.toList)=true
  ·simp only [fnd,hq,vYZ,vYJ (show ¬ (p:Int) = -1 by omega),vYY]
  ·rw [Bool.not_eq_true] at hq;simp only [fnd,hq,vYZ,vYY]
set_option maxRecDepth 100000 in
theorem pxF (js:Nat→J) (ms:Nat→Ms) (n m:Nat) (nm:ByteArray):qWK T (OrL.k ([]:OrL)) (qY [([0,1,0,1],kW (hF js ms n m nm 0) (fun K=>(bif decide (fnd js nm n 0 = -1) then K (.exit 0) ⟨[],[]⟩ else K .ret ⟨[(4,.v (.n .i64 (fnd js nm n 0)))],[]⟩)))]) 60 89 [(.a [.lf n (fJ js),.lf m (fM ms)]),.s nm] =
 bif gSt (hF js ms n m nm 0) (hF js ms n m nm 0) then (bif decide (fnd js nm n 0 = -1) then some (.v (.n .i64 (-1)),[]) else some (.v (.n .i64 (fnd js nm n 0)),[])) else none:=by kernel_rfl
theorem snd_find (js:Nat→J) (ms:Nat→Ms) (n m:Nat) (nm:ByteArray) (_:n≤50):zY Tryz.prog 89 [(.a [.lf n (fJ js),.lf m (fM ms)]),.s nm] (.v (.n .i64 (fnd js nm n 0))):=by
 refine uY (N:=60) (LO:=qY [([0,1,0,1],kW (hF js ms n m nm 0) (fun K=>(bif decide (fnd js nm n 0 = -1) then K (.exit 0) ⟨[],[]⟩ else K .ret ⟨[(4,.v (.n .i64 (fnd js nm n 0)))],[]⟩)))]) qZF yH (OrL.ok (l:=[]) trivial) (fun p S hp => ?_) ?_
 ·refine qQV (L:=qZ T 89) (l:=[([0,1,0,1],kW (hF js ms n m nm 0) (fun K=>(bif decide (fnd js nm n 0 = -1) then K (.exit 0) ⟨[],[]⟩ else K .ret ⟨[(4,.v (.n .i64 (fnd js nm n 0)))],[]⟩)))]) (show AllP _ [([0,1,0,1],kW (hF js ms n m nm 0) (fun K=>(bif decide (fnd js nm n 0 = -1) then K (.exit 0) ⟨[],[]⟩ else K .ret ⟨[(4,.v (.n .i64 (fnd js nm n 0)))],[]⟩)))] from ⟨qYZ fun K r hr => ?_,trivial⟩) p S hp;exact (lpF K js ms n m nm (by omega) n 0 60 (by omega) (by omega)).trans hr
 ·refine (pxF js ms n m nm).trans ?_;rw [zW,vYZ];by_cases h:fnd js nm n 0 = -1
  ·rw [vYK h,h]; rfl
  ·rw [vYJ h]; rfl
theorem fnd_dup (js:Nat→J) (i:Nat):∀ (k p:Nat),p≤i→i < p + k→(fnd js (js i).name k p=(i:Int) ↔ dup js (js i).name (i - p) p=false)
 | 0,p,h1,h2=>by omega
 | k + 1,p,h1,h2=>by
  by_cases he:p=i
  ·subst he;rw [Nat.sub_self];simp [fnd,dup]
  ·have ih:=fnd_dup js i k (p + 1) (by omega) (by omega);rw [show i - p=(i - (p + 1)) + 1 by omega];simp only [fnd,dup];cases ((js p).name.toList == (js i).name.toList)
   ·simpa using ih
   ·simp; omega
def cpT {α:Type} (f:Int→α) (i:Int) (j:J):α:=(bif (decide (j.kind < 0)) then (f 803) else (bif (decide (6 < j.kind)) then (f 803) else (bif (decide (j.parent < (-1))) then (f 804) else (bif (decide (i≤j.parent)) then (f 804) else (bif (decide (j.off.x < (-4194304))) then (f 805) else (bif (decide (4194304 < j.off.x)) then (f 805) else (bif (decide (j.off.y < (-4194304))) then (f 805) else (bif (decide (4194304 < j.off.y)) then (f 805) else (bif (decide (j.off.z < (-4194304))) then (f 805) else (bif (decide (4194304 < j.off.z)) then (f 805) else (bif (decide (j.kind=1)) then (bif (decide (j.hi < j.lo)) then (f 806) else (bif (decide (j.lo < (-524288))) then (f 806) else (bif (decide (524288 < j.hi)) then (f 806) else (bif (decide (1≤j.weight)) then (bif (decide (j.weight≤1024)) then (bif (decide (1≤j.speed)) then (bif (decide (j.speed≤1048576)) then (bif (decide (1≤j.accel)) then (bif (decide (j.accel≤1048576)) then (bif (decide (1≤j.torque)) then (bif (decide (j.torque≤1099511627776)) then (f 0) else (f 807)) else (f 807)) else (f 807)) else (f 807)) else (f 807)) else (f 807)) else (f 807)) else (f 807))))) else (bif (decide (j.kind=2)) then (bif (decide (j.hi < j.lo)) then (f 806) else (bif (decide (j.lo < (-524288))) then (f 806) else (bif (decide (524288 < j.hi)) then (f 806) else (bif (decide (1≤j.weight)) then (bif (decide (j.weight≤1024)) then (bif (decide (1≤j.speed)) then (bif (decide (j.speed≤1048576)) then (bif (decide (1≤j.accel)) then (bif (decide (j.accel≤1048576)) then (bif (decide (1≤j.torque)) then (bif (decide (j.torque≤1099511627776)) then (f 0) else (f 807)) else (f 807)) else (f 807)) else (f 807)) else (f 807)) else (f 807)) else (f 807)) else (f 807))))) else (bif (decide (j.kind=3)) then (bif (decide (j.hi < j.lo)) then (f 806) else (bif (decide (j.lo < (-524288))) then (f 806) else (bif (decide (524288 < j.hi)) then (f 806) else (bif (decide (1≤j.weight)) then (bif (decide (j.weight≤1024)) then (bif (decide (1≤j.speed)) then (bif (decide (j.speed≤1048576)) then (bif (decide (1≤j.accel)) then (bif (decide (j.accel≤1048576)) then (bif (decide (1≤j.torque)) then (bif (decide (j.torque≤1099511627776)) then (f 0) else (f 807)) else (f 807)) else (f 807)) else (f 807)) else (f 807)) else (f 807)) else (f 807)) else (f 807))))) else (bif (decide (j.kind=4)) then (bif (decide (j.hi < j.lo)) then (f 806) else (bif (decide (j.lo < (-4194304))) then (f 806) else (bif (decide (4194304 < j.hi)) then (f 806) else (bif (decide (1≤j.weight)) then (bif (decide (j.weight≤1024)) then (bif (decide (1≤j.speed)) then (bif (decide (j.speed≤1048576)) then (bif (decide (1≤j.accel)) then (bif (decide (j.accel≤1048576)) then (bif (decide (1≤j.torque)) then (bif (decide (j.torque≤1099511627776)) then (f 0) else (f 807)) else (f 807)) else (f 807)) else (f 807)) else (f 807)) else (f 807)) else (f 807)) else (f 807))))) else (bif (decide (j.kind=5)) then (bif (decide (j.hi < j.lo)) then (f 806) else (bif (decide (j.lo < (-4194304))) then (f 806) else (bif (decide (4194304 < j.hi)) then (f 806) else (bif (decide (1≤j.weight)) then (bif (decide (j.weight≤1024)) then (bif (decide (1≤j.speed)) then (bif (decide (j.speed≤1048576)) then (bif (decide (1≤j.accel)) then (bif (decide (j.accel≤1048576)) then (bif (decide (1≤j.torque)) then (bif (decide (j.torque≤1099511627776)) then (f 0) else (f 807)) else (f 807)) else (f 807)) else (f 807)) else (f 807)) else (f 807)) else (f 807)) else (f 807))))) else (bif (decide (j.kind=6)) then (bif (decide (j.hi < j.lo)) then (f 806) else (bif (decide (j.lo < (-4194304))) then (f 806) else (bif (decide (4194304 < j.hi)) then (f 806) else (bif (decide (1≤j.weight)) then (bif (decide (j.weight≤1024)) then (bif (decide (1≤j.speed)) then (bif (decide (j.speed≤1048576)) then (bif (decide (1≤j.accel)) then (bif (decide (j.accel≤1048576)) then (bif (decide (1≤j.torque)) then (bif (decide (j.torque≤1099511627776)) then (f 0) else (f 807)) else (f 807)) else (f 807)) else (f 807)) else (f 807)) else (f 807)) else (f 807)) else (f 807))))) else (bif (decide (j.hi < j.lo)) then (f 806) else (bif (decide (j.lo < 0)) then (f 806) else (bif (decide (0 < j.hi)) then (f 806) else (bif (decide (1≤j.weight)) then (bif (decide (j.weight≤1024)) then (bif (decide (1≤j.speed)) then (bif (decide (j.speed≤1048576)) then (bif (decide (1≤j.accel)) then (bif (decide (j.accel≤1048576)) then (bif (decide (1≤j.torque)) then (bif (decide (j.torque≤1099511627776)) then (f 0) else (f 807)) else (f 807)) else (f 807)) else (f 807)) else (f 807)) else (f 807)) else (f 807)) else (f 807)))))))))))))))))))))
theorem cp_cj {α:Type} (f:Int→α) (i:Int) (j:J):cpT f i j=cjT f i j:=by
 unfold cpT cjT;by_cases h0:j.kind < 0
 ·simp only [vYK h0,vYZ]
 by_cases h6:6 < j.kind
 ·simp only [vYK h6,vYZ]
 rcases (by omega:j.kind=0 ∨ j.kind=1 ∨ j.kind=2 ∨ j.kind=3 ∨ j.kind=4 ∨ j.kind=5 ∨ j.kind=6) with h | h | h | h | h | h | h
 ·simp only [vYK (show j.kind=0 by omega),vYJ (show ¬ j.kind=1 by omega),vYJ (show ¬ j.kind=2 by omega),vYJ (show ¬ j.kind=3 by omega),vYJ (show ¬ j.kind=4 by omega),vYJ (show ¬ j.kind=5 by omega),vYJ (show ¬ j.kind=6 by omega),vYZ,vYY]
 ·simp only [vYJ (show ¬ j.kind=0 by omega),vYK (show j.kind=1 by omega),vYJ (show ¬ j.kind=2 by omega),vYJ (show ¬ j.kind=3 by omega),vYJ (show ¬ j.kind=4 by omega),vYJ (show ¬ j.kind=5 by omega),vYJ (show ¬ j.kind=6 by omega),vYZ,vYY]
 ·simp only [vYJ (show ¬ j.kind=0 by omega),vYJ (show ¬ j.kind=1 by omega),vYK (show j.kind=2 by omega),vYJ (show ¬ j.kind=3 by omega),vYJ (show ¬ j.kind=4 by omega),vYJ (show ¬ j.kind=5 by omega),vYJ (show ¬ j.kind=6 by omega),vYZ,vYY]
 ·simp only [vYJ (show ¬ j.kind=0 by omega),vYJ (show ¬ j.kind=1 by omega),vYJ (show ¬ j.kind=2 by omega),vYK (show j.kind=3 by omega),vYJ (show ¬ j.kind=4 by omega),vYJ (show ¬ j.kind=5 by omega),vYJ (show ¬ j.kind=6 by omega),vYZ,vYY]
 ·simp only [vYJ (show ¬ j.kind=0 by omega),vYJ (show ¬ j.kind=1 by omega),vYJ (show ¬ j.kind=2 by omega),vYJ (show ¬ j.kind=3 by omega),vYK (show j.kind=4 by omega),vYJ (show ¬ j.kind=5 by omega),vYJ (show ¬ j.kind=6 by omega),vYZ,vYY]
 ·simp only [vYJ (show ¬ j.kind=0 by omega),vYJ (show ¬ j.kind=1 by omega),vYJ (show ¬ j.kind=2 by omega),vYJ (show ¬ j.kind=3 by omega),vYJ (show ¬ j.kind=4 by omega),vYK (show j.kind=5 by omega),vYJ (show ¬ j.kind=6 by omega),vYZ,vYY]
 ·simp only [vYJ (show ¬ j.kind=0 by omega),vYJ (show ¬ j.kind=1 by omega),vYJ (show ¬ j.kind=2 by omega),vYJ (show ¬ j.kind=3 by omega),vYJ (show ¬ j.kind=4 by omega),vYJ (show ¬ j.kind=5 by omega),vYK (show j.kind=6 by omega),vYZ,vYY]
def jErr (js:Nat→J) (n i:Nat):Int:=bif nmB (js i).name then (bif dup js (js i).name i 0 then 802 else cjT (fun e=>e) i (js i)) else 802
noncomputable def o_nm:List PV→Option (Bool × Ret):=fun ps=>match ps with
 | [.s s]=>some (true,.v (.b (nmB s)))
 | _=>none
theorem ok_tn:jH Tryz.prog 88 o_nm:=by
 intro ps r hh;unfold o_nm at hh;split at hh
 ·simp only [vQZ,vQY] at hh;obtain ⟨_,rfl⟩:=hh;exact snd_Tn _
 ·cases hh
theorem ok_rn:jH Tryz.prog 86 o_nm:=by
 intro ps r hh;unfold o_nm at hh;split at hh
 ·simp only [vQZ,vQY] at hh;obtain ⟨_,rfl⟩:=hh;exact snd_Rn _
 ·cases hh
noncomputable def o_fd (js:Nat→J) (ms:Nat→Ms) (n m:Nat):List PV→Option (Bool × Ret):=fun ps=>match ps with
 | [r,.s s]=>some (gEq r (.a [.lf n (fJ js),.lf m (fM ms)]),.v (.n .i64 (fnd js s n 0)))
 | _=>none
theorem yZU (js:Nat→J) (ms:Nat→Ms) (n m:Nat) (hn:n≤50):jH Tryz.prog 89 (o_fd js ms n m):=by
 intro ps r hh;unfold o_fd at hh;split at hh
 ·simp only [vQZ,vQY] at hh;obtain ⟨hg,rfl⟩:=hh;obtain rfl:=zYU hg;exact snd_find _ _ _ _ _ hn
 ·cases hh
set_option maxRecDepth 100000 in
theorem tr_cjp (js:Nat→J) (ms:Nat→Ms) (n m:Nat) (i:Int):runK T (OrL.k [(88,o_nm),(89,o_fd js ms n m)]) 60 59 [(.a [.lf n (fJ js),.lf m (fM ms)]),.n .i64 i] =
 bif inB i n then (bif nmB (js i.toNat).name then (bif gEq (.a [.lf n (fJ js),.lf m (fM ms)]) (.a [.lf n (fJ js),.lf m (fM ms)]) then (bif !decide (fnd js (js i.toNat).name n 0=i) then some (.v (.n .i64 802),[]) else cpT F_n i (js i.toNat)) else none) else some (.v (.n .i64 802),[])) else none:=by kernel_rfl
theorem F_cj (i:Int) (j:J):cjT F_n i j=F_n (cjT (fun e=>e) i j):=by
 unfold cjT;simp only [Bool.apply_cond F_n]
theorem snd_cjp (js:Nat→J) (ms:Nat→Ms) (n m:Nat) (hn:n≤50) (i:Nat) (hi:i < n):zY Tryz.prog 59 [(.a [.lf n (fJ js),.lf m (fM ms)]),.n .i64 i] (.v (.n .i64 (jErr js n i))):=by
 refine jJ (N:=60) qZF yH (OrL.ok (l:=[(88,o_nm),(89,o_fd js ms n m)]) ⟨ok_tn,yZU js ms n m hn,trivial⟩) ?_;rw [tr_cjp,zU hi,vYZ,toN,qGA,vYZ,cp_cj,F_cj];have hd:=fnd_dup js i n 0 (by omega) (by omega);rw [Nat.sub_zero] at hd;unfold jErr;cases nmB (js i).name with
 | false=>rfl
 | true =>
  cases hq:dup js (js i).name i 0 with
  | false=>rw [vYK (hd.2 hq)]; rfl
  | true=>rw [vYJ (fun h=>by rw [hd.1 h] at hq; cases hq)]; rfl
def hC (js:Nat→J) (n:Nat) (i:Int) (k:Int):St:=⟨[(0,.v (.lf n (fJ js))),(1,.v (.n .i64 i)),(5,.p 5 0),(6,.v (.n .i64 k))],[(5,.blk [.v (.s (js (i).toNat).name),.v (.n .i64 (js (i).toNat).kind),.v (.n .i64 (js (i).toNat).parent),.v (.n .i64 (js (i).toNat).off.x),.v (.n .i64 (js (i).toNat).off.y),.v (.n .i64 (js (i).toNat).off.z),.v (.n .i64 (js (i).toNat).lo),.v (.n .i64 (js (i).toNat).hi),.v (.n .i64 (js (i).toNat).weight),.v (.n .i64 (js (i).toNat).speed),.v (.n .i64 (js (i).toNat).accel),.v (.n .i64 (js (i).toNat).torque)])]⟩
set_option maxRecDepth 100000 in
theorem rdC (G:St→Option (Ret × Mem)) (K:Cont) (js:Nat→J) (n:Nat) (i:Int) (k:Int):qJD 60 (cxF T (OrL.k [(86,o_nm)]) 60 56 (ntmF T 56)) (ckF T (OrL.k [(86,o_nm)]) 60) (qZ T 56 [0,1,0,1,1,1]) (fun e τ=>match e with
 | .normal=>G (qZB ((cxF T (OrL.k [(86,o_nm)]) 60 56 (ntmF T 56)).T.hint (cxF T (OrL.k [(86,o_nm)]) 60 56 (ntmF T 56)).me (zZ (qZ T 56 [0,1,0,1,1,1]))) τ)
 | e=>K e (qQE ((cxF T (OrL.k [(86,o_nm)]) 60 56 (ntmF T 56)).T.hint (cxF T (OrL.k [(86,o_nm)]) 60 56 (ntmF T 56)).me (zZ (qZ T 56 [0,1,0,1,1,1]))) τ)) (hC js n i k) =
 (bif (decide (k < i)) then (bif (inB k n) then (bif ((js (k).toNat).name.toList == (js (i).toNat).name.toList) then (K .ret ⟨[(1,.v (.n .i64 i)),(4,.v (.n .i64 802)),(5,.p 5 0)],[(5,.blk [.v (.s (js (i).toNat).name),.v (.n .i64 (js (i).toNat).kind),.v (.n .i64 (js (i).toNat).parent),.v (.n .i64 (js (i).toNat).off.x),.v (.n .i64 (js (i).toNat).off.y),.v (.n .i64 (js (i).toNat).off.z),.v (.n .i64 (js (i).toNat).lo),.v (.n .i64 (js (i).toNat).hi),.v (.n .i64 (js (i).toNat).weight),.v (.n .i64 (js (i).toNat).speed),.v (.n .i64 (js (i).toNat).accel),.v (.n .i64 (js (i).toNat).torque)])]⟩)
 else (G (hC js n i (vYW .i64 (k + 1)))))
 else none)
 else (K (.exit 0) ⟨[(1,.v (.n .i64 i)),(5,.p 5 0)],[(5,.blk [.v (.s (js (i).toNat).name),.v (.n .i64 (js (i).toNat).kind),.v (.n .i64 (js (i).toNat).parent),.v (.n .i64 (js (i).toNat).off.x),.v (.n .i64 (js (i).toNat).off.y),.v (.n .i64 (js (i).toNat).off.z),.v (.n .i64 (js (i).toNat).lo),.v (.n .i64 (js (i).toNat).hi),.v (.n .i64 (js (i).toNat).weight),.v (.n .i64 (js (i).toNat).speed),.v (.n .i64 (js (i).toNat).accel),.v (.n .i64 (js (i).toNat).torque)])]⟩)):=by kernel_rfl
def rC (js:Nat→J) (i:Int):St:=⟨[(1,.v (.n .i64 i)),(4,.v (.n .i64 802)),(5,.p 5 0)],[(5,.blk [.v (.s (js (i).toNat).name),.v (.n .i64 (js (i).toNat).kind),.v (.n .i64 (js (i).toNat).parent),.v (.n .i64 (js (i).toNat).off.x),.v (.n .i64 (js (i).toNat).off.y),.v (.n .i64 (js (i).toNat).off.z),.v (.n .i64 (js (i).toNat).lo),.v (.n .i64 (js (i).toNat).hi),.v (.n .i64 (js (i).toNat).weight),.v (.n .i64 (js (i).toNat).speed),.v (.n .i64 (js (i).toNat).accel),.v (.n .i64 (js (i).toNat).torque)])]⟩
def oC (js:Nat→J) (i:Int):St:=⟨[(1,.v (.n .i64 i)),(5,.p 5 0)],[(5,.blk [.v (.s (js (i).toNat).name),.v (.n .i64 (js (i).toNat).kind),.v (.n .i64 (js (i).toNat).parent),.v (.n .i64 (js (i).toNat).off.x),.v (.n .i64 (js (i).toNat).off.y),.v (.n .i64 (js (i).toNat).off.z),.v (.n .i64 (js (i).toNat).lo),.v (.n .i64 (js (i).toNat).hi),.v (.n .i64 (js (i).toNat).weight),.v (.n .i64 (js (i).toNat).speed),.v (.n .i64 (js (i).toNat).accel),.v (.n .i64 (js (i).toNat).torque)])]⟩
theorem lpC (K:Cont) (js:Nat→J) (n i:Nat) (hn:n≤1000) (hi:i < n):∀ (k p q:Nat),p + k=i→k < q→LF 60 (cxF T (OrL.k [(86,o_nm)]) 60 56 (ntmF T 56)) (ckF T (OrL.k [(86,o_nm)]) 60) (qZ T 56 [0,1,0,1,1,1]) ((cxF T (OrL.k [(86,o_nm)]) 60 56 (ntmF T 56)).T.hint (cxF T (OrL.k [(86,o_nm)]) 60 56 (ntmF T 56)).me (zZ (qZ T 56 [0,1,0,1,1,1]))) K q (hC js n i p)=bif dup js (js i).name k p then (K .ret (rC js i)) else (K (.exit 0) (oC js i))
 | 0,p,q + 1,hp,hq=>by
  refine (rdC (fun σ=>LF 60 (cxF T (OrL.k [(86,o_nm)]) 60 56 (ntmF T 56)) (ckF T (OrL.k [(86,o_nm)]) 60) (qZ T 56 [0,1,0,1,1,1]) ((cxF T (OrL.k [(86,o_nm)]) 60 56 (ntmF T 56)).T.hint (cxF T (OrL.k [(86,o_nm)]) 60 56 (ntmF T 56)).me (zZ (qZ T 56 [0,1,0,1,1,1]))) K q σ) K js n i p).trans ?_;rw [vYJ (show ¬ (p:Int) < (i:Int) by omega)];rfl
 | k + 1,p,q + 1,hp,hq=>by
  refine (rdC (fun σ=>LF 60 (cxF T (OrL.k [(86,o_nm)]) 60 56 (ntmF T 56)) (ckF T (OrL.k [(86,o_nm)]) 60) (qZ T 56 [0,1,0,1,1,1]) ((cxF T (OrL.k [(86,o_nm)]) 60 56 (ntmF T 56)).T.hint (cxF T (OrL.k [(86,o_nm)]) 60 56 (ntmF T 56)).me (zZ (qZ T 56 [0,1,0,1,1,1]))) K q σ) K js n i p).trans ?_;rw [vYK (show (p:Int) < (i:Int) by omega),zU (show p < n by omega),jG (by omega),lpC K js n i hn hi k (p + 1) q (by omega) (by omega),toN,toN];simp only [vYZ,dup];cases ((js p).name.toList == (js i).name.toList) <;> rfl
set_option maxRecDepth 100000 in
theorem pxC (js:Nat→J) (n:Nat) (i:Int):qWK T (OrL.k [(86,o_nm)]) (qY [([0,1,0,1,1,1],kW (hC js n i 0) (fun K=>bif dup js (js i.toNat).name i.toNat 0 then (K .ret (rC js i)) else (K (.exit 0) (oC js i))))]) 60 56 [.lf n (fJ js),.n .i64 i] =
 bif inB i n then (bif nmB (js i.toNat).name then (bif gSt (hC js n i 0) (hC js n i 0) then (bif dup js (js i.toNat).name i.toNat 0 then some (.v (.n .i64 802),[]) else cjT F_n i (js i.toNat)) else none) else some (.v (.n .i64 802),[])) else none:=by kernel_rfl
theorem snd_cjr (js:Nat→J) (n:Nat) (_:n≤50) (i:Nat) (hi:i < n):zY Tryz.prog 56 [.lf n (fJ js),.n .i64 i] (.v (.n .i64 (jErr js n i))):=by
 refine uY (N:=60) (LO:=qY [([0,1,0,1,1,1],kW (hC js n (i:Int) 0) (fun K=>bif dup js (js (i:Int).toNat).name (i:Int).toNat 0 then (K .ret (rC js i)) else (K (.exit 0) (oC js i))))]) qZF yH (OrL.ok (l:=[(86,o_nm)]) ⟨ok_rn,trivial⟩) (fun p S hp => ?_) ?_
 ·refine qQV (L:=qZ T 56) (l:=[([0,1,0,1,1,1],kW (hC js n (i:Int) 0) (fun K=>bif dup js (js (i:Int).toNat).name (i:Int).toNat 0 then (K .ret (rC js i)) else (K (.exit 0) (oC js i))))]) (show AllP _ [([0,1,0,1,1,1],kW (hC js n (i:Int) 0) (fun K=>bif dup js (js (i:Int).toNat).name (i:Int).toNat 0 then (K .ret (rC js i)) else (K (.exit 0) (oC js i))))] from ⟨qYZ fun K r hr => ?_,trivial⟩) p S hp
  have:=lpC K js n i (by omega) hi i 0 60 (by omega) (by omega)
  rw [toN] at hr;exact this.trans hr
 ·refine (pxC js n i).trans ?_;rw [zU hi,vYZ,toN,zW,vYZ,F_cj];unfold jErr;cases nmB (js i).name <;> cases dup js (js i).name i 0 <;> rfl
end Go.Proofs.YtklmegnpfhiibaaGreat.Nb
namespace Go.Proofs.YtklmegnpfhiibaaGreat.Nc
open Go.Rx Rt Go.Sx Go.RowKit Od
open Na Nb
def MOK (n:Nat) (q:Ms):Prop:=(0≤q.link∧q.link < n)∧(1≤q.mass∧q.mass≤65536)∧(-4194304≤q.p.x∧q.p.x≤4194304)∧(-4194304≤q.p.y∧q.p.y≤4194304)∧(-4194304≤q.p.z∧q.p.z≤4194304)
instance (n:Nat) (q:Ms):Decidable (MOK n q):=by unfold MOK; exact inferInstance
def mokB (n:Nat) (q:Ms):Bool:=decide (MOK n q)
def mAll (ms:Nat→Ms) (n:Nat):Nat→Nat→Bool
 | 0,_=>true
 | k + 1,p=>mokB n (ms p) && mAll ms n k (p + 1)
def fbad (ms:Nat→Ms) (n:Nat):Nat→Nat→Int
 | 0,_ => -1
 | k + 1,p=>bif mokB n (ms p) then fbad ms n k (p + 1) else (p:Int)
theorem fbad_all (ms:Nat→Ms) (n:Nat):∀ k p,decide (0≤fbad ms n k p) = !mAll ms n k p
 | 0,p=>rfl
 | k + 1,p=>by
  have ih:=fbad_all ms n k (p + 1);by_cases hq:mokB n (ms p)=true
  ·simp only [fbad,mAll,hq,vYZ,vZW];exact ih
  ·rw [Bool.not_eq_true] at hq;simp only [fbad,mAll,hq,vYY,Bool.false_and,Bool.not_false];exact vYK (by omega)
def jE (js:Nat→J) (n:Nat):Nat→Nat→Int
 | 0,_=>0
 | k + 1,p=>bif decide (jErr js n p=0) then jE js n k (p + 1) else jErr js n p
def rErr (js:Nat→J) (ms:Nat→Ms) (n m:Nat):Int:=bif decide ((n:Int)=0) then 801 else bif decide (10 < (n:Int)) then 801 else bif decide (jE js n n 0=0) then (bif decide (32 < (m:Int)) then 808 else bif mAll ms n m 0 then 0 else 808) else jE js n n 0
def mTp {α:Type} (n:Nat) (q:Ms) (a b:α):α:=(bif (decide (0≤q.link)) then (bif (decide (q.link < (n:Int))) then (bif (decide (1≤q.mass)) then (bif (decide (q.mass≤65536)) then (bif (decide (q.p.x < (-4194304))) then b else (bif (decide (4194304 < q.p.x)) then b else (bif (decide (q.p.y < (-4194304))) then b else (bif (decide (4194304 < q.p.y)) then b else (bif (decide (q.p.z < (-4194304))) then b else (bif (decide (4194304 < q.p.z)) then b else a)))))) else b) else b) else b) else b)
theorem mTp_eq {α:Type} (n:Nat) (q:Ms) (a b:α):mTp n q a b=bif mokB n q then a else b:=by
 unfold mTp mokB;by_cases h:MOK n q
 ·have h':=h;obtain ⟨⟨h1,h2⟩,⟨h3,h4⟩,⟨h5,h6⟩,⟨h7,h8⟩,h9,h10⟩:=h';rw [vYK h];simp only [vYZ];simp only [Bool.cond_eq_ite,decide_eq_true_eq]
  repeat' split
  all_goals first | rfl | (exfalso; omega)
 ·rw [vYJ h];unfold MOK at h;simp only [vYY];simp only [Bool.cond_eq_ite,decide_eq_true_eq]
  repeat' split
  all_goals first | rfl | (exfalso; omega) | contradiction
set_option maxRecDepth 100000 in
theorem tr_cl (js:Nat→J) (ms:Nat→Ms) (n m:Nat) (q:Ms):runK T (OrL.k []) 60 61 [.a (mp q),.c [.lf n (fJ js),.lf m (fM ms)] 0]=mTp n q (F_b false) (F_b true):=by kernel_rfl
theorem yQQ (js:Nat→J) (ms:Nat→Ms) (n m:Nat) (q:Ms):zY Tryz.prog 61 [.a (mp q),.c [.lf n (fJ js),.lf m (fM ms)] 0] (.v (.b (!mokB n q))):=by
 refine jJ (N:=60) qZF yH (OrL.ok (l:=[]) trivial) ?_;rw [tr_cl,mTp_eq];cases mokB n q <;> rfl
noncomputable def o_cl (js:Nat→J) (ms:Nat→Ms) (n m:Nat):List PV→Option (Bool × Ret):=fun ps=>match ps with
 | [.a [.n .i64 a0,.n .i64 a1,.n .i64 a2,.n .i64 a3,.n .i64 a4],c]=>some (gEq c (.c [.lf n (fJ js),.lf m (fM ms)] 0),.v (.b (!mokB n ⟨a0,a1,⟨a2,a3,a4⟩⟩)))
 | _=>none
theorem yJG (js:Nat→J) (ms:Nat→Ms) (n m:Nat):jH Tryz.prog 61 (o_cl js ms n m):=by
 intro ps r hh;unfold o_cl at hh;split at hh
 ·simp only [vQZ,vQY] at hh;obtain ⟨hg,rfl⟩:=hh;obtain rfl:=zYU hg;exact yQQ js ms n m ⟨_,_,⟨_,_,_⟩⟩
 ·cases hh
def hI (js:Nat→J) (ms:Nat→Ms) (n m:Nat) (i:Int):St:=⟨[(0,.v (.lf m (fM ms))),(1,.v (.f 61 [] [.c [.lf n (fJ js),.lf m (fM ms)] 0])),(7,.v (.n .i64 (m:Int))),(8,.v (.n .i64 i))],[]⟩
set_option maxRecDepth 100000 in
theorem rdI (G:St→Option (Ret × Mem)) (K:Cont) (js:Nat→J) (ms:Nat→Ms) (n m:Nat) (i:Int):qJD 60 (cxF T (OrL.k [(61,o_cl js ms n m)]) 60 93 (ntmF T 93)) (ckF T (OrL.k [(61,o_cl js ms n m)]) 60) (qZ T 93 [0,1,0,1]) (fun e τ=>match e with
 | .normal=>G (qZB ((cxF T (OrL.k [(61,o_cl js ms n m)]) 60 93 (ntmF T 93)).T.hint (cxF T (OrL.k [(61,o_cl js ms n m)]) 60 93 (ntmF T 93)).me (zZ (qZ T 93 [0,1,0,1]))) τ)
 | e=>K e (qQE ((cxF T (OrL.k [(61,o_cl js ms n m)]) 60 93 (ntmF T 93)).T.hint (cxF T (OrL.k [(61,o_cl js ms n m)]) 60 93 (ntmF T 93)).me (zZ (qZ T 93 [0,1,0,1]))) τ)) (hI js ms n m i) =
 (bif (decide (i < (m:Int))) then (bif (inB i m) then (bif (gEq (.c [.lf n (fJ js),.lf m (fM ms)] 0) (.c [.lf n (fJ js),.lf m (fM ms)] 0)) then (bif (!mokB n (ms (i).toNat)) then (K .ret ⟨[(4,.v (.n .i64 i))],[]⟩)
 else (G (hI js ms n m (vYW .i64 (i + 1)))))
 else none)
 else none)
 else (K (.exit 0) ⟨[],[]⟩)):=by kernel_rfl
theorem lpI (K:Cont) (js:Nat→J) (ms:Nat→Ms) (n m:Nat) (hm:m≤1000):∀ (k p q:Nat),p + k=m→k < q→LF 60 (cxF T (OrL.k [(61,o_cl js ms n m)]) 60 93 (ntmF T 93)) (ckF T (OrL.k [(61,o_cl js ms n m)]) 60) (qZ T 93 [0,1,0,1]) ((cxF T (OrL.k [(61,o_cl js ms n m)]) 60 93 (ntmF T 93)).T.hint (cxF T (OrL.k [(61,o_cl js ms n m)]) 60 93 (ntmF T 93)).me (zZ (qZ T 93 [0,1,0,1]))) K q (hI js ms n m p)=(bif decide (fbad ms n k p = -1) then K (.exit 0) ⟨[],[]⟩ else K .ret ⟨[(4,.v (.n .i64 (fbad ms n k p)))],[]⟩)
 | 0,p,q + 1,hp,hq=>by
  refine (rdI (fun σ=>LF 60 (cxF T (OrL.k [(61,o_cl js ms n m)]) 60 93 (ntmF T 93)) (ckF T (OrL.k [(61,o_cl js ms n m)]) 60) (qZ T 93 [0,1,0,1]) ((cxF T (OrL.k [(61,o_cl js ms n m)]) 60 93 (ntmF T 93)).T.hint (cxF T (OrL.k [(61,o_cl js ms n m)]) 60 93 (ntmF T 93)).me (zZ (qZ T 93 [0,1,0,1]))) K q σ) K js ms n m p).trans ?_;rw [vYJ (show ¬ (p:Int) < (m:Int) by omega)];rfl
 | k + 1,p,q + 1,hp,hq=>by
  refine (rdI (fun σ=>LF 60 (cxF T (OrL.k [(61,o_cl js ms n m)]) 60 93 (ntmF T 93)) (ckF T (OrL.k [(61,o_cl js ms n m)]) 60) (qZ T 93 [0,1,0,1]) ((cxF T (OrL.k [(61,o_cl js ms n m)]) 60 93 (ntmF T 93)).T.hint (cxF T (OrL.k [(61,o_cl js ms n m)]) 60 93 (ntmF T 93)).me (zZ (qZ T 93 [0,1,0,1]))) K q σ) K js ms n m p).trans ?_;rw [vYK (show (p:Int) < (m:Int) by omega),zU (show p < m by omega),jG (by omega),lpI K js ms n m hm k (p + 1) q (by omega) (by omega),toN,qGA];by_cases hq:mokB n (ms p)=true
  ·simp only [fbad,hq,vYZ,vYY,Bool.not_true]
  ·rw [Bool.not_eq_true] at hq;simp only [fbad,hq,vYZ,vYY,Bool.not_false,vYJ (show ¬ (p:Int) = -1 by omega)]
set_option maxRecDepth 100000 in
theorem pxI (js:Nat→J) (ms:Nat→Ms) (n m:Nat):qWK T (OrL.k [(61,o_cl js ms n m)]) (qY [([0,1,0,1],kW (hI js ms n m 0) (fun K=>(bif decide (fbad ms n m 0 = -1) then K (.exit 0) ⟨[],[]⟩ else K .ret ⟨[(4,.v (.n .i64 (fbad ms n m 0)))],[]⟩)))]) 60 93 [.lf m (fM ms),.f 61 [] [.c [.lf n (fJ js),.lf m (fM ms)] 0]] =
 bif gSt (hI js ms n m 0) (hI js ms n m 0) then (bif decide (fbad ms n m 0 = -1) then some (.v (.n .i64 (-1)),[]) else some (.v (.n .i64 (fbad ms n m 0)),[])) else none:=by kernel_rfl
theorem snd_if (js:Nat→J) (ms:Nat→Ms) (n m:Nat) (_:m≤50):zY Tryz.prog 93 [.lf m (fM ms),.f 61 [] [.c [.lf n (fJ js),.lf m (fM ms)] 0]] (.v (.n .i64 (fbad ms n m 0))):=by
 refine uY (N:=60) (LO:=qY [([0,1,0,1],kW (hI js ms n m 0) (fun K=>(bif decide (fbad ms n m 0 = -1) then K (.exit 0) ⟨[],[]⟩ else K .ret ⟨[(4,.v (.n .i64 (fbad ms n m 0)))],[]⟩)))]) qZF yH (OrL.ok (l:=[(61,o_cl js ms n m)]) ⟨yJG js ms n m,trivial⟩) (fun p S hp => ?_) ?_
 ·refine qQV (L:=qZ T 93) (l:=[([0,1,0,1],kW (hI js ms n m 0) (fun K=>(bif decide (fbad ms n m 0 = -1) then K (.exit 0) ⟨[],[]⟩ else K .ret ⟨[(4,.v (.n .i64 (fbad ms n m 0)))],[]⟩)))]) (show AllP _ [([0,1,0,1],kW (hI js ms n m 0) (fun K=>(bif decide (fbad ms n m 0 = -1) then K (.exit 0) ⟨[],[]⟩ else K .ret ⟨[(4,.v (.n .i64 (fbad ms n m 0)))],[]⟩)))] from ⟨qYZ fun K r hr => ?_,trivial⟩) p S hp;exact (lpI K js ms n m (by omega) m 0 60 (by omega) (by omega)).trans hr
 ·refine (pxI js ms n m).trans ?_;rw [zW,vYZ];by_cases h:fbad ms n m 0 = -1
  ·rw [vYK h,h]; rfl
  ·rw [vYJ h]; rfl
theorem snd_cf (js:Nat→J) (ms:Nat→Ms) (n m:Nat) (hm:m≤50):zY Tryz.prog 60 [.lf m (fM ms),.f 61 [] [.c [.lf n (fJ js),.lf m (fM ms)] 0]] (.v (.b (!mAll ms n m 0))):=by
 refine jJ (N:=60) qZF yH (OrL.ok (l:=[(93,o_cr [.lf m (fM ms),.f 61 [] [.c [.lf n (fJ js),.lf m (fM ms)] 0]] (.v (.n .i64 (fbad ms n m 0))))]) ⟨qWW (snd_if js ms n m hm),trivial⟩) ?_;refine (by kernel_rfl:_=bif (g1 [.lf m (fM ms),.f 61 [] [.c [.lf n (fJ js),.lf m (fM ms)] 0]]) then (bif (decide (0≤(fbad ms n m 0))) then some (.v (.b true),[])
 else some (.v (.b false),[]))
 else none).trans ?_
 rw [g1_t,vYZ,← fbad_all];cases decide (0≤fbad ms n m 0) <;> rfl
noncomputable def qUJ (js:Nat→J) (ms:Nat→Ms) (n m:Nat):List PV→Option (Bool × Ret):=fun ps=>match ps with
 | [r,.n .i64 i]=>some (gEq r (.a [.lf n (fJ js),.lf m (fM ms)]) && (inB i n && decide (n≤50)),.v (.n .i64 (jErr js n i.toNat)))
 | _=>none
theorem ok_o_cjp (js:Nat→J) (ms:Nat→Ms) (n m:Nat):jH Tryz.prog 59 (qUJ js ms n m):=by
 intro ps r hh;unfold qUJ at hh;split at hh
 ·simp only [vQZ,vQY,vQJ] at hh;obtain ⟨⟨hg,hi,hd⟩,rfl⟩:=hh;obtain rfl:=zYU hg;have hn:=vYU hd;obtain ⟨i0,i1⟩:=qJL hi;rename_i i
  have:=snd_cjp js ms n m hn i.toNat (by omega)
  rw [show ((i.toNat:Nat):Int)=i by omega] at this;exact this
 ·cases hh
noncomputable def qQJ (js:Nat→J) (ms:Nat→Ms) (n m:Nat):List PV→Option (Bool × Ret):=fun ps=>match ps with
 | [r,.n .i64 i]=>some (gEq r (.lf n (fJ js)) && (inB i n && decide (n≤50)),.v (.n .i64 (jErr js n i.toNat)))
 | _=>none
theorem ok_o_cjr (js:Nat→J) (ms:Nat→Ms) (n m:Nat):jH Tryz.prog 56 (qQJ js ms n m):=by
 intro ps r hh;unfold qQJ at hh;split at hh
 ·simp only [vQZ,vQY,vQJ] at hh;obtain ⟨⟨hg,hi,hd⟩,rfl⟩:=hh;obtain rfl:=zYU hg;have hn:=vYU hd;obtain ⟨i0,i1⟩:=qJL hi;rename_i i
  have:=snd_cjr js n hn i.toNat (by omega)
  rw [show ((i.toNat:Nat):Int)=i by omega] at this;exact this
 ·cases hh
noncomputable def qUK (js:Nat→J) (ms:Nat→Ms) (n m:Nat):List PV→Option (Bool × Ret):=fun ps=>some (gEq (.t ps) (.t [.lf m (fM ms),.f 61 [] [.c [.lf n (fJ js),.lf m (fM ms)] 0]]) && decide (m≤50),.v (.b (!mAll ms n m 0)))
theorem ok_cfm (js:Nat→J) (ms:Nat→Ms) (n m:Nat):jH Tryz.prog 60 (qUK js ms n m):=by
 intro ps q hh;unfold qUK at hh;simp only [vQZ,vQY,vQJ] at hh;obtain ⟨⟨hg,hm⟩,rfl⟩:=hh
 have:=zYU hg
 simp only [PV.t.injEq] at this;rw [this];exact snd_cf js ms n m (vYU hm)
def hK (js:Nat→J) (ms:Nat→Ms) (n m:Nat) (i:Int):St:=⟨[(1,.p 1 0),(17,.v (.n .i64 (n:Int))),(18,.v (.n .i64 i))],[(1,.blk [.v (.lf n (fJ js)),.v (.lf m (fM ms))])]⟩
set_option maxRecDepth 100000 in
theorem rdK (G:St→Option (Ret × Mem)) (K:Cont) (js:Nat→J) (ms:Nat→Ms) (n m:Nat) (i:Int):qJD 60 (cxF T (OrL.k [(59,qUJ js ms n m),(60,qUK js ms n m)]) 60 31 (ntmF T 31)) (ckF T (OrL.k [(59,qUJ js ms n m),(60,qUK js ms n m)]) 60) (qZ T 31 [0,1,0,1,1]) (fun e τ=>match e with
 | .normal=>G (qZB ((cxF T (OrL.k [(59,qUJ js ms n m),(60,qUK js ms n m)]) 60 31 (ntmF T 31)).T.hint (cxF T (OrL.k [(59,qUJ js ms n m),(60,qUK js ms n m)]) 60 31 (ntmF T 31)).me (zZ (qZ T 31 [0,1,0,1,1]))) τ)
 | e=>K e (qQE ((cxF T (OrL.k [(59,qUJ js ms n m),(60,qUK js ms n m)]) 60 31 (ntmF T 31)).T.hint (cxF T (OrL.k [(59,qUJ js ms n m),(60,qUK js ms n m)]) 60 31 (ntmF T 31)).me (zZ (qZ T 31 [0,1,0,1,1]))) τ)) (hK js ms n m i) =
 (bif (decide (i < (n:Int))) then (bif (gEq (.a [.lf n (fJ js),.lf m (fM ms)]) (.a [.lf n (fJ js),.lf m (fM ms)]) && (inB i n && decide (n≤50))) then (bif (!decide ((jErr js n (i).toNat)=0)) then (K .ret ⟨[(1,.p 1 0),(2,.v (.n .i64 (jErr js n (i).toNat)))],[(1,.blk [.v (.lf n (fJ js)),.v (.lf m (fM ms))])]⟩)
 else (G (hK js ms n m (vYW .i64 (i + 1)))))
 else none)
 else (K (.exit 0) ⟨[(1,.p 1 0)],[(1,.blk [.v (.lf n (fJ js)),.v (.lf m (fM ms))])]⟩)):=by kernel_rfl
def rK (js:Nat→J) (ms:Nat→Ms) (n m:Nat) (e:Int):St:=⟨[(1,.p 1 0),(2,.v (.n .i64 e))],[(1,.blk [.v (.lf n (fJ js)),.v (.lf m (fM ms))])]⟩
def oK (js:Nat→J) (ms:Nat→Ms) (n m:Nat):St:=⟨[(1,.p 1 0)],[(1,.blk [.v (.lf n (fJ js)),.v (.lf m (fM ms))])]⟩
theorem lpK (K:Cont) (js:Nat→J) (ms:Nat→Ms) (n m:Nat) (hn:n≤10):∀ (k p q:Nat),p + k=n→k < q→LF 60 (cxF T (OrL.k [(59,qUJ js ms n m),(60,qUK js ms n m)]) 60 31 (ntmF T 31)) (ckF T (OrL.k [(59,qUJ js ms n m),(60,qUK js ms n m)]) 60) (qZ T 31 [0,1,0,1,1]) ((cxF T (OrL.k [(59,qUJ js ms n m),(60,qUK js ms n m)]) 60 31 (ntmF T 31)).T.hint (cxF T (OrL.k [(59,qUJ js ms n m),(60,qUK js ms n m)]) 60 31 (ntmF T 31)).me (zZ (qZ T 31 [0,1,0,1,1]))) K q (hK js ms n m p)=(bif decide (jE js n k p=0) then (K (.exit 0) (oK js ms n m)) else (K .ret (rK js ms n m (jE js n k p))))
 | 0,p,q + 1,hp,hq=>by
  refine (rdK (fun σ=>LF 60 (cxF T (OrL.k [(59,qUJ js ms n m),(60,qUK js ms n m)]) 60 31 (ntmF T 31)) (ckF T (OrL.k [(59,qUJ js ms n m),(60,qUK js ms n m)]) 60) (qZ T 31 [0,1,0,1,1]) ((cxF T (OrL.k [(59,qUJ js ms n m),(60,qUK js ms n m)]) 60 31 (ntmF T 31)).T.hint (cxF T (OrL.k [(59,qUJ js ms n m),(60,qUK js ms n m)]) 60 31 (ntmF T 31)).me (zZ (qZ T 31 [0,1,0,1,1]))) K q σ) K js ms n m p).trans ?_;rw [vYJ (show ¬ (p:Int) < (n:Int) by omega)];rfl
 | k + 1,p,q + 1,hp,hq=>by
  refine (rdK (fun σ=>LF 60 (cxF T (OrL.k [(59,qUJ js ms n m),(60,qUK js ms n m)]) 60 31 (ntmF T 31)) (ckF T (OrL.k [(59,qUJ js ms n m),(60,qUK js ms n m)]) 60) (qZ T 31 [0,1,0,1,1]) ((cxF T (OrL.k [(59,qUJ js ms n m),(60,qUK js ms n m)]) 60 31 (ntmF T 31)).T.hint (cxF T (OrL.k [(59,qUJ js ms n m),(60,qUK js ms n m)]) 60 31 (ntmF T 31)).me (zZ (qZ T 31 [0,1,0,1,1]))) K q σ) K js ms n m p).trans ?_;rw [vYK (show (p:Int) < (n:Int) by omega),zU (show p < n by omega),jG (by omega),lpK K js ms n m hn k (p + 1) q (by omega) (by omega),toN,qGA,vYK (show n≤50 by omega)];by_cases hq:jErr js n p=0
  ·simp only [jE,vYK hq,vYZ,vYY,Bool.not_true,vZQ]
  ·simp only [jE,vYJ hq,vYZ,vYY,Bool.not_false,vZQ];rfl
set_option maxRecDepth 100000 in
theorem pxK (js:Nat→J) (ms:Nat→Ms) (n m:Nat):qWK T (OrL.k [(59,qUJ js ms n m),(60,qUK js ms n m)]) (qY [([0,1,0,1,1],kW (hK js ms n m 0) (fun K=>bif decide (10 < (n:Int)) then none else (bif decide (jE js n n 0=0) then (K (.exit 0) (oK js ms n m)) else (K .ret (rK js ms n m (jE js n n 0))))))]) 60 31 [(.a [.lf n (fJ js),.lf m (fM ms)])] =
 bif decide ((n:Int)=0) then some (.v (.n .i64 801),[]) else (bif decide (10 < (n:Int)) then some (.v (.n .i64 801),[]) else (bif gSt (hK js ms n m 0) (hK js ms n m 0) then (bif decide (10 < (n:Int)) then none else (bif decide (jE js n n 0=0) then bif (decide (32 < (m:Int))) then some (.v (.n .i64 808),[])
 else bif (g1 [.lf m (fM ms),.f 61 [] [.c [.lf n (fJ js),.lf m (fM ms)] 0]] && decide (m≤50)) then (bif (!mAll ms n m 0) then some (.v (.n .i64 808),[])
 else some (.v (.n .i64 0),[]))
 else none else some (.v (.n .i64 (jE js n n 0)),[]))) else none)):=by kernel_rfl
theorem zJE (js:Nat→J) (ms:Nat→Ms) (n m:Nat):zY Tryz.prog 31 [(.a [.lf n (fJ js),.lf m (fM ms)])] (.v (.n .i64 (rErr js ms n m))):=by
 refine uY (N:=60) (LO:=qY [([0,1,0,1,1],kW (hK js ms n m 0) (fun K=>bif decide (10 < (n:Int)) then none else (bif decide (jE js n n 0=0) then (K (.exit 0) (oK js ms n m)) else (K .ret (rK js ms n m (jE js n n 0))))))]) qZF yH (OrL.ok (l:=[(59,qUJ js ms n m),(60,qUK js ms n m)]) ⟨ok_o_cjp js ms n m,ok_cfm js ms n m,trivial⟩) (fun p S hp => ?_) ?_
 ·refine qQV (L:=qZ T 31) (l:=[([0,1,0,1,1],kW (hK js ms n m 0) (fun K=>bif decide (10 < (n:Int)) then none else (bif decide (jE js n n 0=0) then (K (.exit 0) (oK js ms n m)) else (K .ret (rK js ms n m (jE js n n 0))))))]) (show AllP _ [([0,1,0,1,1],kW (hK js ms n m 0) (fun K=>bif decide (10 < (n:Int)) then none else (bif decide (jE js n n 0=0) then (K (.exit 0) (oK js ms n m)) else (K .ret (rK js ms n m (jE js n n 0))))))] from ⟨qYZ fun K r hr => ?_,trivial⟩) p S hp;cases hq:decide (10 < (n:Int)) with
  | true=>rw [hq] at hr; cases hr
  | false =>
   rw [hq] at hr;have h10:=vYX hq;exact (lpK K js ms n m (by omega) n 0 60 (by omega) (by omega)).trans hr
 ·refine (pxK js ms n m).trans ?_;unfold rErr;rw [zW,g1_t];by_cases h0:(n:Int)=0
  ·rw [vYK h0]; rfl
  rw [vYJ h0];by_cases h10:10 < (n:Int)
  ·rw [vYK h10]; rfl
  rw [vYJ h10];by_cases hj:jE js n n 0=0
  ·rw [vYK hj];by_cases h32:32 < (m:Int)
   ·rw [vYK h32]; rfl
   rw [vYJ h32,vYK (show m≤50 by omega)];cases mAll ms n m 0 <;> rfl
  ·rw [vYJ hj]; rfl
def hQ (js:Nat→J) (ms:Nat→Ms) (n m:Nat) (i:Int):St:=⟨[(1,.p 1 0),(3,.v (.n .i64 i))],[(1,.blk [.v (.lf n (fJ js)),.v (.lf m (fM ms))])]⟩
set_option maxRecDepth 100000 in
theorem rdQ (G:St→Option (Ret × Mem)) (K:Cont) (js:Nat→J) (ms:Nat→Ms) (n m:Nat) (i:Int):qJD 60 (cxF T (OrL.k [(56,qQJ js ms n m)]) 60 28 (ntmF T 28)) (ckF T (OrL.k [(56,qQJ js ms n m)]) 60) (qZ T 28 [0,1,0,1,1]) (fun e τ=>match e with
 | .normal=>G (qZB ((cxF T (OrL.k [(56,qQJ js ms n m)]) 60 28 (ntmF T 28)).T.hint (cxF T (OrL.k [(56,qQJ js ms n m)]) 60 28 (ntmF T 28)).me (zZ (qZ T 28 [0,1,0,1,1]))) τ)
 | e=>K e (qQE ((cxF T (OrL.k [(56,qQJ js ms n m)]) 60 28 (ntmF T 28)).T.hint (cxF T (OrL.k [(56,qQJ js ms n m)]) 60 28 (ntmF T 28)).me (zZ (qZ T 28 [0,1,0,1,1]))) τ)) (hQ js ms n m i) =
 (bif (decide (i < (n:Int))) then (bif (gEq (.lf n (fJ js)) (.lf n (fJ js)) && (inB i n && decide (n≤50))) then (bif (!decide ((jErr js n (i).toNat)=0)) then (K .ret ⟨[(1,.p 1 0),(2,.v (.n .i64 (jErr js n (i).toNat)))],[(1,.blk [.v (.lf n (fJ js)),.v (.lf m (fM ms))])]⟩)
 else (G (hQ js ms n m (vYW .i64 (i + 1)))))
 else none)
 else (K (.exit 0) ⟨[(1,.p 1 0)],[(1,.blk [.v (.lf n (fJ js)),.v (.lf m (fM ms))])]⟩)):=by kernel_rfl
def rQ (js:Nat→J) (ms:Nat→Ms) (n m:Nat) (e:Int):St:=⟨[(1,.p 1 0),(2,.v (.n .i64 e))],[(1,.blk [.v (.lf n (fJ js)),.v (.lf m (fM ms))])]⟩
def oQ (js:Nat→J) (ms:Nat→Ms) (n m:Nat):St:=⟨[(1,.p 1 0)],[(1,.blk [.v (.lf n (fJ js)),.v (.lf m (fM ms))])]⟩
theorem lpQ (K:Cont) (js:Nat→J) (ms:Nat→Ms) (n m:Nat) (hn:n≤10):∀ (k p q:Nat),p + k=n→k < q→LF 60 (cxF T (OrL.k [(56,qQJ js ms n m)]) 60 28 (ntmF T 28)) (ckF T (OrL.k [(56,qQJ js ms n m)]) 60) (qZ T 28 [0,1,0,1,1]) ((cxF T (OrL.k [(56,qQJ js ms n m)]) 60 28 (ntmF T 28)).T.hint (cxF T (OrL.k [(56,qQJ js ms n m)]) 60 28 (ntmF T 28)).me (zZ (qZ T 28 [0,1,0,1,1]))) K q (hQ js ms n m p)=(bif decide (jE js n k p=0) then (K (.exit 0) (oQ js ms n m)) else (K .ret (rQ js ms n m (jE js n k p))))
 | 0,p,q + 1,hp,hq=>by
  refine (rdQ (fun σ=>LF 60 (cxF T (OrL.k [(56,qQJ js ms n m)]) 60 28 (ntmF T 28)) (ckF T (OrL.k [(56,qQJ js ms n m)]) 60) (qZ T 28 [0,1,0,1,1]) ((cxF T (OrL.k [(56,qQJ js ms n m)]) 60 28 (ntmF T 28)).T.hint (cxF T (OrL.k [(56,qQJ js ms n m)]) 60 28 (ntmF T 28)).me (zZ (qZ T 28 [0,1,0,1,1]))) K q σ) K js ms n m p).trans ?_;rw [vYJ (show ¬ (p:Int) < (n:Int) by omega)];rfl
 | k + 1,p,q + 1,hp,hq=>by
  refine (rdQ (fun σ=>LF 60 (cxF T (OrL.k [(56,qQJ js ms n m)]) 60 28 (ntmF T 28)) (ckF T (OrL.k [(56,qQJ js ms n m)]) 60) (qZ T 28 [0,1,0,1,1]) ((cxF T (OrL.k [(56,qQJ js ms n m)]) 60 28 (ntmF T 28)).T.hint (cxF T (OrL.k [(56,qQJ js ms n m)]) 60 28 (ntmF T 28)).me (zZ (qZ T 28 [0,1,0,1,1]))) K q σ) K js ms n m p).trans ?_;rw [vYK (show (p:Int) < (n:Int) by omega),zU (show p < n by omega),jG (by omega),lpQ K js ms n m hn k (p + 1) q (by omega) (by omega),toN,qGA,vYK (show n≤50 by omega)];by_cases hq:jErr js n p=0
  ·simp only [jE,vYK hq,vYZ,vYY,Bool.not_true,vZQ]
  ·simp only [jE,vYJ hq,vYZ,vYY,Bool.not_false,vZQ];rfl
def hM (js:Nat→J) (ms:Nat→Ms) (n m:Nat) (i:Int):St:=⟨[(1,.p 1 0),(5,.v (.n .i64 i))],[(1,.blk [.v (.lf n (fJ js)),.v (.lf m (fM ms))])]⟩
def rM (js:Nat→J) (ms:Nat→Ms) (n m:Nat) (i:Int):St:=⟨[(2,.v (.n .i64 808))],[]⟩
def oM (js:Nat→J) (ms:Nat→Ms) (n m:Nat):St:=⟨[],[]⟩
def mTr {α:Type} (n:Nat) (q:Ms) (a b:α):α:=(bif (decide (q.link < 0)) then b else (bif (decide ((n:Int)≤q.link)) then b else (bif (decide (1≤q.mass)) then (bif (decide (q.mass≤65536)) then (bif (decide (q.p.x < (-4194304))) then b else (bif (decide (4194304 < q.p.x)) then b else (bif (decide (q.p.y < (-4194304))) then b else (bif (decide (4194304 < q.p.y)) then b else (bif (decide (q.p.z < (-4194304))) then b else (bif (decide (4194304 < q.p.z)) then b else a)))))) else b) else b)))
theorem mTr_eq {α:Type} (n:Nat) (q:Ms) (a b:α):mTr n q a b=bif mokB n q then a else b:=by
 unfold mTr mokB;by_cases h:MOK n q
 ·have h':=h;obtain ⟨⟨h1,h2⟩,⟨h3,h4⟩,⟨h5,h6⟩,⟨h7,h8⟩,h9,h10⟩:=h';rw [vYK h];simp only [vYZ];simp only [Bool.cond_eq_ite,decide_eq_true_eq]
  repeat' split
  all_goals first | rfl | (exfalso; omega)
 ·rw [vYJ h];unfold MOK at h;simp only [vYY];simp only [Bool.cond_eq_ite,decide_eq_true_eq]
  repeat' split
  all_goals first | rfl | (exfalso; omega) | contradiction
set_option maxRecDepth 100000 in
theorem rdM (G:St→Option (Ret × Mem)) (K:Cont) (js:Nat→J) (ms:Nat→Ms) (n m:Nat) (i:Int):qJD 60 (cxF T (OrL.k [(56,qQJ js ms n m)]) 60 28 (ntmF T 28)) (ckF T (OrL.k [(56,qQJ js ms n m)]) 60) (qZ T 28 [0,1,0,1,1,1,1]) (fun e τ=>match e with
 | .normal=>G (qZB ((cxF T (OrL.k [(56,qQJ js ms n m)]) 60 28 (ntmF T 28)).T.hint (cxF T (OrL.k [(56,qQJ js ms n m)]) 60 28 (ntmF T 28)).me (zZ (qZ T 28 [0,1,0,1,1,1,1]))) τ)
 | e=>K e (qQE ((cxF T (OrL.k [(56,qQJ js ms n m)]) 60 28 (ntmF T 28)).T.hint (cxF T (OrL.k [(56,qQJ js ms n m)]) 60 28 (ntmF T 28)).me (zZ (qZ T 28 [0,1,0,1,1,1,1]))) τ)) (hM js ms n m i) =
 bif decide (i < (m:Int)) then (bif inB i m then mTr n (ms i.toNat) (G (hM js ms n m (vYW .i64 (i + 1)))) (K .ret (rM js ms n m 0)) else none) else (K (.exit 2) (oM js ms n m)):=by kernel_rfl
theorem lpM (K:Cont) (js:Nat→J) (ms:Nat→Ms) (n m:Nat) (hm:m≤1000):∀ (k p q:Nat),p + k=m→k < q→LF 60 (cxF T (OrL.k [(56,qQJ js ms n m)]) 60 28 (ntmF T 28)) (ckF T (OrL.k [(56,qQJ js ms n m)]) 60) (qZ T 28 [0,1,0,1,1,1,1]) ((cxF T (OrL.k [(56,qQJ js ms n m)]) 60 28 (ntmF T 28)).T.hint (cxF T (OrL.k [(56,qQJ js ms n m)]) 60 28 (ntmF T 28)).me (zZ (qZ T 28 [0,1,0,1,1,1,1]))) K q (hM js ms n m p)=bif mAll ms n k p then (K (.exit 2) (oM js ms n m)) else (K .ret (rM js ms n m 0))
 | 0,p,q + 1,hp,hq=>by
  refine (rdM (fun σ=>LF 60 (cxF T (OrL.k [(56,qQJ js ms n m)]) 60 28 (ntmF T 28)) (ckF T (OrL.k [(56,qQJ js ms n m)]) 60) (qZ T 28 [0,1,0,1,1,1,1]) ((cxF T (OrL.k [(56,qQJ js ms n m)]) 60 28 (ntmF T 28)).T.hint (cxF T (OrL.k [(56,qQJ js ms n m)]) 60 28 (ntmF T 28)).me (zZ (qZ T 28 [0,1,0,1,1,1,1]))) K q σ) K js ms n m p).trans ?_;rw [vYJ (show ¬ (p:Int) < (m:Int) by omega)];rfl
 | k + 1,p,q + 1,hp,hq=>by
  refine (rdM (fun σ=>LF 60 (cxF T (OrL.k [(56,qQJ js ms n m)]) 60 28 (ntmF T 28)) (ckF T (OrL.k [(56,qQJ js ms n m)]) 60) (qZ T 28 [0,1,0,1,1,1,1]) ((cxF T (OrL.k [(56,qQJ js ms n m)]) 60 28 (ntmF T 28)).T.hint (cxF T (OrL.k [(56,qQJ js ms n m)]) 60 28 (ntmF T 28)).me (zZ (qZ T 28 [0,1,0,1,1,1,1]))) K q σ) K js ms n m p).trans ?_;rw [vYK (show (p:Int) < (m:Int) by omega),zU (show p < m by omega),jG (by omega),lpM K js ms n m hm k (p + 1) q (by omega) (by omega),toN,mTr_eq];by_cases hq:mokB n (ms p)=true
  ·simp only [mAll,hq,vYZ,vZW]
  ·rw [Bool.not_eq_true] at hq;simp only [mAll,hq,vYZ,vYY,Bool.false_and]
set_option maxRecDepth 100000 in
theorem pxQ (js:Nat→J) (ms:Nat→Ms) (n m:Nat):qWK T (OrL.k [(56,qQJ js ms n m)]) (qY [([0,1,0,1,1],kW (hQ js ms n m 0) (fun K=>bif decide (10 < (n:Int)) then none else (bif decide (jE js n n 0=0) then (K (.exit 0) (oQ js ms n m)) else (K .ret (rQ js ms n m (jE js n n 0)))))),([0,1,0,1,1,1,1],kW (hM js ms n m 0) (fun K=>bif decide (32 < (m:Int)) then none else (bif mAll ms n m 0 then (K (.exit 2) (oM js ms n m)) else (K .ret (rM js ms n m 0)))))]) 60 28 [(.a [.lf n (fJ js),.lf m (fM ms)])] =
 bif decide ((n:Int) < 1) then some (.v (.n .i64 801),[]) else (bif decide (10 < (n:Int)) then some (.v (.n .i64 801),[]) else (bif gSt (hQ js ms n m 0) (hQ js ms n m 0) then (bif decide (10 < (n:Int)) then none else (bif decide (jE js n n 0=0) then (bif decide (32 < (m:Int)) then some (.v (.n .i64 808),[]) else (bif gSt (hM js ms n m 0) (hM js ms n m 0) then (bif decide (32 < (m:Int)) then none else (bif mAll ms n m 0 then some (.v (.n .i64 0),[]) else some (.v (.n .i64 808),[]))) else none)) else some (.v (.n .i64 (jE js n n 0)),[]))) else none)):=by kernel_rfl
theorem zWK (js:Nat→J) (ms:Nat→Ms) (n m:Nat):zY Tryz.prog 28 [(.a [.lf n (fJ js),.lf m (fM ms)])] (.v (.n .i64 (rErr js ms n m))):=by
 refine uY (N:=60) (LO:=qY [([0,1,0,1,1],kW (hQ js ms n m 0) (fun K=>bif decide (10 < (n:Int)) then none else (bif decide (jE js n n 0=0) then (K (.exit 0) (oQ js ms n m)) else (K .ret (rQ js ms n m (jE js n n 0)))))),([0,1,0,1,1,1,1],kW (hM js ms n m 0) (fun K=>bif decide (32 < (m:Int)) then none else (bif mAll ms n m 0 then (K (.exit 2) (oM js ms n m)) else (K .ret (rM js ms n m 0)))))]) qZF yH (OrL.ok (l:=[(56,qQJ js ms n m)]) ⟨ok_o_cjr js ms n m,trivial⟩) (fun p S hp => ?_) ?_
 ·refine qQV (L:=qZ T 28) (l:=[([0,1,0,1,1],kW (hQ js ms n m 0) (fun K=>bif decide (10 < (n:Int)) then none else (bif decide (jE js n n 0=0) then (K (.exit 0) (oQ js ms n m)) else (K .ret (rQ js ms n m (jE js n n 0)))))),([0,1,0,1,1,1,1],kW (hM js ms n m 0) (fun K=>bif decide (32 < (m:Int)) then none else (bif mAll ms n m 0 then (K (.exit 2) (oM js ms n m)) else (K .ret (rM js ms n m 0)))))]) (show AllP _ [([0,1,0,1,1],kW (hQ js ms n m 0) (fun K=>bif decide (10 < (n:Int)) then none else (bif decide (jE js n n 0=0) then (K (.exit 0) (oQ js ms n m)) else (K .ret (rQ js ms n m (jE js n n 0)))))),([0,1,0,1,1,1,1],kW (hM js ms n m 0) (fun K=>bif decide (32 < (m:Int)) then none else (bif mAll ms n m 0 then (K (.exit 2) (oM js ms n m)) else (K .ret (rM js ms n m 0)))))] from ⟨qYZ fun K r hr => ?_,qYZ fun K r hr => ?_,trivial⟩) p S hp
  ·cases hq:decide (10 < (n:Int)) with
   | true=>rw [hq] at hr; cases hr
   | false =>
    rw [hq] at hr;have h10:=vYX hq;exact (lpQ K js ms n m (by omega) n 0 60 (by omega) (by omega)).trans hr
  ·cases hq:decide (32 < (m:Int)) with
   | true=>rw [hq] at hr; cases hr
   | false =>
    rw [hq] at hr;have h32:=vYX hq;exact (lpM K js ms n m (by omega) m 0 60 (by omega) (by omega)).trans hr
 ·refine (pxQ js ms n m).trans ?_;unfold rErr;rw [zW,zW,show decide ((n:Int) < 1)=decide ((n:Int)=0) from decide_eq_decide.2 (by omega)];by_cases h0:(n:Int)=0
  ·rw [vYK h0]; rfl
  rw [vYJ h0];by_cases h10:10 < (n:Int)
  ·rw [vYK h10]; rfl
  rw [vYJ h10];by_cases hj:jE js n n 0=0
  ·rw [vYK hj];by_cases h32:32 < (m:Int)
   ·rw [vYK h32]; rfl
   rw [vYJ h32];cases mAll ms n m 0 <;> rfl
  ·rw [vYJ hj]; rfl
end Go.Proofs.YtklmegnpfhiibaaGreat.Nc

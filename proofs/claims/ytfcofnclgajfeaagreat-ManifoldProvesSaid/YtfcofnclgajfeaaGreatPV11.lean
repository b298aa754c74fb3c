/- Part 11 of the texts behind the last one: rules and contracts. No condition. -/
import Derived.Test.YtfcofnclgajfeaaGreatPV10
open Option renaming bind_eq_some_iff → vQQ
open Option.some renaming injEq → vQZ
open Prod.mk renaming injEq → vQY
open Bool renaming and_eq_true → vQJ, and_self → vZJ, true_and → vZH
open List renaming getElem?_eq_getElem → vQK, mem_cons_self → vZQ, getElem?_map → vZY, getD_eq_getElem?_getD → vZG, take_succ_cons → vYK, drop_succ_cons → vYU, take_zero → vYX, drop_zero → vYW
open Classical renaming propDecidable → vYJ
open Go.IntKind renaming wrap → vJJ
namespace Go.Proofs.YtfcofnclgajfeaaGreat.Nb
open Go.Rx Rt Go.Sx Go.RowKit Od
open Na
def fJ (js:Nat→J):Nat→List PV:=fun v=>jp (js v)
def fM (ms:Nat→Ms):Nat→List PV:=fun v=>mp (ms v)
def fnd (js:Nat→J) (nm:ByteArray):Nat→Nat→Int
 | 0,_ => -1
 | k + 1,p=>bif ((js p).name.toList == nm.toList) then (p:Int) else fnd js nm k (p + 1)
def dup (js:Nat→J) (nm:ByteArray):Nat→Nat→Bool
 | 0,_=>false
 | k + 1,p=>((js p).name.toList == nm.toList) || dup js nm k (p + 1)
def hF (js:Nat→J) (ms:Nat→Ms) (n m:Nat) (nm:ByteArray) (i:Int):St:=⟨[(1,.v (.s nm)),(2,.p 2 0),(8,.v (.n .i64 (n:Int))),(9,.v (.n .i64 i))],[(2,.blk [.v (.lf n (fJ js)),.v (.lf m (fM ms))])]⟩
set_option maxRecDepth 100000 in
theorem rdF (G:St→Option (Ret × Mem)) (K:Cont) (js:Nat→J) (ms:Nat→Ms) (n m:Nat) (nm:ByteArray) (i:Int):qJI 60 (cxF T (OrL.k ([]:OrL)) 60 108 (ntmF T 108)) (ckF T (OrL.k ([]:OrL)) 60) (qK T 108 [0,1,0,1]) (fun e τ=>match e with
 | .normal=>G (qYV ((cxF T (OrL.k ([]:OrL)) 60 108 (ntmF T 108)).T.hint (cxF T (OrL.k ([]:OrL)) 60 108 (ntmF T 108)).me (zV (qK T 108 [0,1,0,1]))) τ)
 | e=>K e (qZG ((cxF T (OrL.k ([]:OrL)) 60 108 (ntmF T 108)).T.hint (cxF T (OrL.k ([]:OrL)) 60 108 (ntmF T 108)).me (zV (qK T 108 [0,1,0,1]))) τ)) (hF js ms n m nm i) =
 (bif (decide (i < (n:Int))) then (bif (inB i n) then (bif ((js (i).toNat).name.toList == nm.toList) then (K .ret ⟨[(4,.v (.n .i64 i))],[]⟩)
 else (G (hF js ms n m nm (vJJ .i64 (i + 1)))))
 else none)
 else (K (.exit 0) ⟨[],[]⟩)):=by kernel_rfl
theorem lpF (K:Cont) (js:Nat→J) (ms:Nat→Ms) (n m:Nat) (nm:ByteArray) (hn:n≤1000):∀ (k p q:Nat),p + k=n→k < q→LF 60 (cxF T (OrL.k ([]:OrL)) 60 108 (ntmF T 108)) (ckF T (OrL.k ([]:OrL)) 60) (qK T 108 [0,1,0,1]) ((cxF T (OrL.k ([]:OrL)) 60 108 (ntmF T 108)).T.hint (cxF T (OrL.k ([]:OrL)) 60 108 (ntmF T 108)).me (zV (qK T 108 [0,1,0,1]))) K q (hF js ms n m nm p)=(bif decide (fnd js nm k p = -1) then K (.exit 0) ⟨[],[]⟩ else K .ret ⟨[(4,.v (.n .i64 (fnd js nm k p)))],[]⟩)
 | 0,p,q + 1,hp,hq=>by
  refine (rdF (fun σ=>LF 60 (cxF T (OrL.k ([]:OrL)) 60 108 (ntmF T 108)) (ckF T (OrL.k ([]:OrL)) 60) (qK T 108 [0,1,0,1]) ((cxF T (OrL.k ([]:OrL)) 60 108 (ntmF T 108)).T.hint (cxF T (OrL.k ([]:OrL)) 60 108 (ntmF T 108)).me (zV (qK T 108 [0,1,0,1]))) K q σ) K js ms n m nm p).trans ?_;rw [vYH (show ¬ (p:Int) < (n:Int) by omega)];rfl
 | k + 1,p,q + 1,hp,hq=>by
  refine (rdF (fun σ=>LF 60 (cxF T (OrL.k ([]:OrL)) 60 108 (ntmF T 108)) (ckF T (OrL.k ([]:OrL)) 60) (qK T 108 [0,1,0,1]) ((cxF T (OrL.k ([]:OrL)) 60 108 (ntmF T 108)).T.hint (cxF T (OrL.k ([]:OrL)) 60 108 (ntmF T 108)).me (zV (qK T 108 [0,1,0,1]))) K q σ) K js ms n m nm p).trans ?_;rw [vJQ (show (p:Int) < (n:Int) by omega),kZ (show p < n by omega),qZQ (by omega),lpF K js ms n m nm hn k (p + 1) q (by omega) (by omega),toN];by_cases hq:((js p).name.toList == nm.toList)=true
  ·simp only [fnd,hq,vYV,vYH (show ¬ (p:Int) = -1 by omega),vYG]
  ·rw [Bool.not_eq_true] at hq;simp only [fnd,hq,vYV,vYG]
set_option maxRecDepth 100000 in
theorem pxF (js:Nat→J) (ms:Nat→Ms) (n m:Nat) (nm:ByteArray):qKH T (OrL.k ([]:OrL)) (zW [([0,1,0,1],yW (hF js ms n m nm 0) (fun K=>(bif decide (fnd js nm n 0 = -1) then K (.exit 0) ⟨[],[]⟩ else K .ret ⟨[(4,.v (.n .i64 (fnd js nm n 0)))],[]⟩)))]) 60 108 [(.a [.lf n (fJ js),.lf m (fM ms)]),.s nm] =
 bif gSt (hF js ms n m nm 0) (hF js ms n m nm 0) then (bif decide (fnd js nm n 0 = -1) then some (.v (.n .i64 (-1)),[]) else some (.v (.n .i64 (fnd js nm n 0)),[])) else none:=by kernel_rfl
theorem snd_find (js:Nat→J) (ms:Nat→Ms) (n m:Nat) (nm:ByteArray) (_:n≤50):yZ Tryz.prog 108 [(.a [.lf n (fJ js),.lf m (fM ms)]),.s nm] (.v (.n .i64 (fnd js nm n 0))):=by
 refine yH (N:=60) (LO:=zW [([0,1,0,1],yW (hF js ms n m nm 0) (fun K=>(bif decide (fnd js nm n 0 = -1) then K (.exit 0) ⟨[],[]⟩ else K .ret ⟨[(4,.v (.n .i64 (fnd js nm n 0)))],[]⟩)))]) yY yQ (OrL.ok (l:=[]) trivial) (fun p S hp => ?_) ?_
 ·refine kQ (L:=qK T 108) (l:=[([0,1,0,1],yW (hF js ms n m nm 0) (fun K=>(bif decide (fnd js nm n 0 = -1) then K (.exit 0) ⟨[],[]⟩ else K .ret ⟨[(4,.v (.n .i64 (fnd js nm n 0)))],[]⟩)))]) (show AllP _ [([0,1,0,1],yW (hF js ms n m nm 0) (fun K=>(bif decide (fnd js nm n 0 = -1) then K (.exit 0) ⟨[],[]⟩ else K .ret ⟨[(4,.v (.n .i64 (fnd js nm n 0)))],[]⟩)))] from ⟨kW fun K r hr => ?_,trivial⟩) p S hp;exact (lpF K js ms n m nm (by omega) n 0 60 (by omega) (by omega)).trans hr
 ·refine (pxF js ms n m nm).trans ?_;rw [jG,vYV];by_cases h:fnd js nm n 0 = -1
  ·rw [vJQ h,h]; rfl
  ·rw [vYH h]; rfl
theorem fnd_dup (js:Nat→J) (i:Nat):∀ (k p:Nat),p≤i→i < p + k→(fnd js (js i).name k p=(i:Int) ↔ dup js (js i).name (i - p) p=false)
 | 0,p,h1,h2=>by omega
 | k + 1,p,h1,h2=>by
  by_cases he:p=i
  ·subst he;rw [Nat.sub_self];simp [fnd,dup]
  ·have ih:=fnd_dup js i k (p + 1) (by omega) (by omega);rw [show i - p=(i - (p + 1)) + 1 by omega];simp only [fnd,dup];cases ((js p).name.toList == (js i).name.toList)
   ·simpa using ih
   ·simp; omega
def cpT {α:Type} (f:Int→α) (i:Int) (j:J):α:=(bif (decide (j.kind < 0)) then (f 803) else (bif (decide (6 < j.kind)) then (f 803) else (bif (decide (j.parent < (-1))) then (f 804) else (bif (decide (i≤j.parent)) then (f 804) else (bif (decide (j.off.x < (-4194304))) then (f 805) else (bif (decide (4194304 < j.off.x)) then (f 805) else (bif (decide (j.off.y < (-4194304))) then (f 805) else (bif (decide (4194304 < j.off.y)) then (f 805) else (bif (decide (j.off.z < (-4194304))) then (f 805) else (bif (decide (4194304 < j.off.z)) then (f 805) else (bif (decide (j.kind=1)) then (bif (decide (j.hi < j.lo)) then (f 806) else (bif (decide (j.lo < (-524288))) then (f 806) else (bif (decide (524288 < j.hi)) then (f 806) else (bif (decide (1≤j.weight)) then (bif (decide (j.weight≤1024)) then (bif (decide (1≤j.speed)) then (bif (decide (j.speed≤1048576)) then (bif (decide (1≤j.accel)) then (bif (decide (j.accel≤1048576)) then (bif (decide (1≤j.torque)) then (bif (decide (j.torque≤1099511627776)) then (f 0) else (f 807)) else (f 807)) else (f 807)) else (f 807)) else (f 807)) else (f 807)) else (f 807)) else (f 807))))) else (bif (decide (j.kind=2)) then (bif (decide (j.hi < j.lo)) then (f 806) else (bif (decide (j.lo < (-524288))) then (f 806) else (bif (decide (524288 < j.hi)) then (f 806) else (bif (decide (1≤j.weight)) then (bif (decide (j.weight≤1024)) then (bif (decide (1≤j.speed)) then (bif (decide (j.speed≤1048576)) then (bif (decide (1≤j.accel)) then (bif (decide (j.accel≤1048576)) then (bif (decide (1≤j.torque)) then (bif (decide (j.torque≤1099511627776)) then (f 0) else (f 807)) else (f 807)) else (f 807)) else (f 807)) else (f 807)) else (f 807)) else (f 807)) else (f 807))))) else (bif (decide (j.kind=3)) then (bif (decide (j.hi < j.lo)) then (f 806) else (bif (decide (j.lo < (-524288))) then (f 806) else (bif (decide (524288 < j.hi)) then (f 806) else (bif (decide (1≤j.weight)) then (bif (decide (j.weight≤1024)) then (bif (decide (1≤j.speed)) then (bif (decide (j.speed≤1048576)) then (bif (decide (1≤j.accel)) then (bif (decide (j.accel≤1048576)) then (bif (decide (1≤j.torque)) then (bif (decide (j.torque≤1099511627776)) then (f 0) else (f 807)) else (f 807)) else (f 807)) else (f 807)) else (f 807)) else (f 807)) else (f 807)) else (f 807))))) else (bif (decide (j.kind=4)) then (bif (decide (j.hi < j.lo)) then (f 806) else (bif (decide (j.lo < (-4194304))) then (f 806) else (bif (decide (4194304 < j.hi)) then (f 806) else (bif (decide (1≤j.weight)) then (bif (decide (j.weight≤1024)) then (bif (decide (1≤j.speed)) then (bif (decide (j.speed≤1048576)) then (bif (decide (1≤j.accel)) then (bif (decide (j.accel≤1048576)) then (bif (decide (1≤j.torque)) then (bif (decide (j.torque≤1099511627776)) then (f 0) else (f 807)) else (f 807)) else (f 807)) else (f 807)) else (f 807)) else (f 807)) else (f 807)) else (f 807))))) else (bif (decide (j.kind=5)) then (bif (decide (j.hi < j.lo)) then (f 806) else (bif (decide (j.lo < (-4194304))) then (f 806) else (bif (decide (4194304 < j.hi)) then (f 806) else (bif (decide (1≤j.weight)) then (bif (decide (j.weight≤1024)) then (bif (decide (1≤j.speed)) then (bif (decide (j.speed≤1048576)) then (bif (decide (1≤j.accel)) then (bif (decide (j.accel≤1048576)) then (bif (decide (1≤j.torque)) then (bif (decide (j.torque≤1099511627776)) then (f 0) else (f 807)) else (f 807)) else (f 807)) else (f 807)) else (f 807)) else (f 807)) else (f 807)) else (f 807))))) else (bif (decide (j.kind=6)) then (bif (decide (j.hi < j.lo)) then (f 806) else (bif (decide (j.lo < (-4194304))) then (f 806) else (bif (decide (4194304 < j.hi)) then (f 806) else (bif (decide (1≤j.weight)) then (bif (decide (j.weight≤1024)) then (bif (decide (1≤j.speed)) then (bif (decide (j.speed≤1048576)) then (bif (decide (1≤j.accel)) then (bif (decide (j.accel≤1048576)) then (bif (decide (1≤j.torque)) then (bif (decide (j.torque≤1099511627776)) then (f 0) else (f 807)) else (f 807)) else (f 807)) else (f 807)) else (f 807)) else (f 807)) else (f 807)) else (f 807))))) else (bif (decide (j.hi < j.lo)) then (f 806) else (bif (decide (j.lo < 0)) then (f 806) else (bif (decide (0 < j.hi)) then (f 806) else (bif (decide (1≤j.weight)) then (bif (decide (j.weight≤1024)) then (bif (decide (1≤j.speed)) then (bif (decide (j.speed≤1048576)) then (bif (decide (1≤j.accel)) then (bif (decide (j.accel≤1048576)) then (bif (decide (1≤j.torque)) then (bif (decide (j.torque≤1099511627776)) then (f 0) else (f 807)) else (f 807)) else (f 807)) else (f 807)) else (f 807)) else (f 807)) else (f 807)) else (f 807)))))))))))))))))))))
theorem cp_cj {α:Type} (f:Int→α) (i:Int) (j:J):cpT f i j=cjT f i j:=by
 unfold cpT cjT;by_cases h0:j.kind < 0
 ·simp only [vJQ h0,vYV]
 by_cases h6:6 < j.kind
 ·simp only [vJQ h6,vYV]
 rcases (by omega:j.kind=0 ∨ j.kind=1 ∨ j.kind=2 ∨ j.kind=3 ∨ j.kind=4 ∨ j.kind=5 ∨ j.kind=6) with h | h | h | h | h | h | h
 ·simp only [vJQ (show j.kind=0 by omega),vYH (show ¬ j.kind=1 by omega),vYH (show ¬ j.kind=2 by omega),vYH (show ¬ j.kind=3 by omega),vYH (show ¬ j.kind=4 by omega),vYH (show ¬ j.kind=5 by omega),vYH (show ¬ j.kind=6 by omega),vYV,vYG]
 ·simp only [vYH (show ¬ j.kind=0 by omega),vJQ (show j.kind=1 by omega),vYH (show ¬ j.kind=2 by omega),vYH (show ¬ j.kind=3 by omega),vYH (show ¬ j.kind=4 by omega),vYH (show ¬ j.kind=5 by omega),vYH (show ¬ j.kind=6 by omega),vYV,vYG]
 ·simp only [vYH (show ¬ j.kind=0 by omega),vYH (show ¬ j.kind=1 by omega),vJQ (show j.kind=2 by omega),vYH (show ¬ j.kind=3 by omega),vYH (show ¬ j.kind=4 by omega),vYH (show ¬ j.kind=5 by omega),vYH (show ¬ j.kind=6 by omega),vYV,vYG]
 ·simp only [vYH (show ¬ j.kind=0 by omega),vYH (show ¬ j.kind=1 by omega),vYH (show ¬ j.kind=2 by omega),vJQ (show j.kind=3 by omega),vYH (show ¬ j.kind=4 by omega),vYH (show ¬ j.kind=5 by omega),vYH (show ¬ j.kind=6 by omega),vYV,vYG]
 ·simp only [vYH (show ¬ j.kind=0 by omega),vYH (show ¬ j.kind=1 by omega),vYH (show ¬ j.kind=2 by omega),vYH (show ¬ j.kind=3 by omega),vJQ (show j.kind=4 by omega),vYH (show ¬ j.kind=5 by omega),vYH (show ¬ j.kind=6 by omega),vYV,vYG]
 ·simp only [vYH (show ¬ j.kind=0 by omega),vYH (show ¬ j.kind=1 by omega),vYH (show ¬ j.kind=2 by omega),vYH (show ¬ j.kind=3 by omega),vYH (show ¬ j.kind=4 by omega),vJQ (show j.kind=5 by omega),vYH (show ¬ j.kind=6 by omega),vYV,vYG]
 ·simp only [vYH (show ¬ j.kind=0 by omega),vYH (show ¬ j.kind=1 by omega),vYH (show ¬ j.kind=2 by omega),vYH (show ¬ j.kind=3 by omega),vYH (show ¬ j.kind=4 by omega),vYH (show ¬ j.kind=5 by omega),vJQ (show j.kind=6 by omega),vYV,vYG]
def jErr (js:Nat→J) (n i:Nat):Int:=bif nmB (js i).name then (bif dup js (js i).name i 0 then 802 else cjT (fun e=>e) i (js i)) else 802
noncomputable def o_nm:List PV→Option (Bool × Ret):=fun ps=>match ps with
 | [.s s]=>some (true,.v (.b (nmB s)))
 | _=>none
theorem ok_tn:zY Tryz.prog 107 o_nm:=by
 intro ps r hh;unfold o_nm at hh;split at hh
 ·simp only [vQZ,vQY] at hh;obtain ⟨_,rfl⟩:=hh;exact snd_Tn _
 ·cases hh
theorem ok_rn:zY Tryz.prog 122 o_nm:=by
 intro ps r hh;unfold o_nm at hh;split at hh
 ·simp only [vQZ,vQY] at hh;obtain ⟨_,rfl⟩:=hh;exact snd_Rn _
 ·cases hh
noncomputable def o_fd (js:Nat→J) (ms:Nat→Ms) (n m:Nat):List PV→Option (Bool × Ret):=fun ps=>match ps with
 | [r,.s s]=>some (gEq r (.a [.lf n (fJ js),.lf m (fM ms)]),.v (.n .i64 (fnd js s n 0)))
 | _=>none
theorem yVU (js:Nat→J) (ms:Nat→Ms) (n m:Nat) (hn:n≤50):zY Tryz.prog 108 (o_fd js ms n m):=by
 intro ps r hh;unfold o_fd at hh;split at hh
 ·simp only [vQZ,vQY] at hh;obtain ⟨hg,rfl⟩:=hh;obtain rfl:=qXG hg;exact snd_find _ _ _ _ _ hn
 ·cases hh
set_option maxRecDepth 100000 in
theorem tr_cjp (js:Nat→J) (ms:Nat→Ms) (n m:Nat) (i:Int):runK T (OrL.k [(107,o_nm),(108,o_fd js ms n m)]) 60 77 [(.a [.lf n (fJ js),.lf m (fM ms)]),.n .i64 i] =
 bif inB i n then (bif nmB (js i.toNat).name then (bif gEq (.a [.lf n (fJ js),.lf m (fM ms)]) (.a [.lf n (fJ js),.lf m (fM ms)]) then (bif !decide (fnd js (js i.toNat).name n 0=i) then some (.v (.n .i64 802),[]) else cpT F_n i (js i.toNat)) else none) else some (.v (.n .i64 802),[])) else none:=by kernel_rfl
theorem F_cj (i:Int) (j:J):cjT F_n i j=F_n (cjT (fun e=>e) i j):=by
 unfold cjT;simp only [Bool.apply_cond F_n]
theorem snd_cjp (js:Nat→J) (ms:Nat→Ms) (n m:Nat) (hn:n≤50) (i:Nat) (hi:i < n):yZ Tryz.prog 77 [(.a [.lf n (fJ js),.lf m (fM ms)]),.n .i64 i] (.v (.n .i64 (jErr js n i))):=by
 refine qX (N:=60) yY yQ (OrL.ok (l:=[(107,o_nm),(108,o_fd js ms n m)]) ⟨ok_tn,yVU js ms n m hn,trivial⟩) ?_;rw [tr_cjp,kZ hi,vYV,toN,qWB,vYV,cp_cj,F_cj];have hd:=fnd_dup js i n 0 (by omega) (by omega);rw [Nat.sub_zero] at hd;unfold jErr;cases nmB (js i).name with
 | false=>rfl
 | true =>
  cases hq:dup js (js i).name i 0 with
  | false=>rw [vJQ (hd.2 hq)]; rfl
  | true=>rw [vYH (fun h=>by rw [hd.1 h] at hq; cases hq)]; rfl
def hC (js:Nat→J) (n:Nat) (i:Int) (k:Int):St:=⟨[(0,.v (.lf n (fJ js))),(1,.v (.n .i64 i)),(5,.p 5 0),(6,.v (.n .i64 k))],[(5,.blk [.v (.s (js (i).toNat).name),.v (.n .i64 (js (i).toNat).kind),.v (.n .i64 (js (i).toNat).parent),.v (.n .i64 (js (i).toNat).off.x),.v (.n .i64 (js (i).toNat).off.y),.v (.n .i64 (js (i).toNat).off.z),.v (.n .i64 (js (i).toNat).lo),.v (.n .i64 (js (i).toNat).hi),.v (.n .i64 (js (i).toNat).weight),.v (.n .i64 (js (i).toNat).speed),.v (.n .i64 (js (i).toNat).accel),.v (.n .i64 (js (i).toNat).torque)])]⟩
set_option maxRecDepth 100000 in
theorem rdC (G:St→Option (Ret × Mem)) (K:Cont) (js:Nat→J) (n:Nat) (i:Int) (k:Int):qJI 60 (cxF T (OrL.k [(122,o_nm)]) 60 95 (ntmF T 95)) (ckF T (OrL.k [(122,o_nm)]) 60) (qK T 95 [0,1,0,1,1,1]) (fun e τ=>match e with
 | .normal=>G (qYV ((cxF T (OrL.k [(122,o_nm)]) 60 95 (ntmF T 95)).T.hint (cxF T (OrL.k [(122,o_nm)]) 60 95 (ntmF T 95)).me (zV (qK T 95 [0,1,0,1,1,1]))) τ)
 | e=>K e (qZG ((cxF T (OrL.k [(122,o_nm)]) 60 95 (ntmF T 95)).T.hint (cxF T (OrL.k [(122,o_nm)]) 60 95 (ntmF T 95)).me (zV (qK T 95 [0,1,0,1,1,1]))) τ)) (hC js n i k) =
 (bif (decide (k < i)) then (bif (inB k n) then (bif ((js (k).toNat).name.toList == (js (i).toNat).name.toList) then (K .ret ⟨[(1,.v (.n .i64 i)),(4,.v (.n .i64 802)),(5,.p 5 0)],[(5,.blk [.v (.s (js (i).toNat).name),.v (.n .i64 (js (i).toNat).kind),.v (.n .i64 (js (i).toNat).parent),.v (.n .i64 (js (i).toNat).off.x),.v (.n .i64 (js (i).toNat).off.y),.v (.n .i64 (js (i).toNat).off.z),.v (.n .i64 (js (i).toNat).lo),.v (.n .i64 (js (i).toNat).hi),.v (.n .i64 (js (i).toNat).weight),.v (.n .i64 (js (i).toNat).speed),.v (.n .i64 (js (i).toNat).accel),.v (.n .i64 (js (i).toNat).torque)])]⟩)
 else (G (hC js n i (vJJ .i64 (k + 1)))))
 else none)
 else (K (.exit 0) ⟨[(1,.v (.n .i64 i)),(5,.p 5 0)],[(5,.blk [.v (.s (js (i).toNat).name),.v (.n .i64 (js (i).toNat).kind),.v (.n .i64 (js (i).toNat).parent),.v (.n .i64 (js (i).toNat).off.x),.v (.n .i64 (js (i).toNat).off.y),.v (.n .i64 (js (i).toNat).off.z),.v (.n .i64 (js (i).toNat).lo),.v (.n .i64 (js (i).toNat).hi),.v (.n .i64 (js (i).toNat).weight),.v (.n .i64 (js (i).toNat).speed),.v (.n .i64 (js (i).toNat).accel),.v (.n .i64 (js (i).toNat).torque)])]⟩)):=by kernel_rfl
def rC (js:Nat→J) (i:Int):St:=⟨[(1,.v (.n .i64 i)),(4,.v (.n .i64 802)),(5,.p 5 0)],[(5,.blk [.v (.s (js (i).toNat).name),.v (.n .i64 (js (i).toNat).kind),.v (.n .i64 (js (i).toNat).parent),.v (.n .i64 (js (i).toNat).off.x),.v (.n .i64 (js (i).toNat).off.y),.v (.n .i64 (js (i).toNat).off.z),.v (.n .i64 (js (i).toNat).lo),.v (.n .i64 (js (i).toNat).hi),.v (.n .i64 (js (i).toNat).weight),.v (.n .i64 (js (i).toNat).speed),.v (.n .i64 (js (i).toNat).accel),.v (.n .i64 (js (i).toNat).torque)])]⟩
def oC (js:Nat→J) (i:Int):St:=⟨[(1,.v (.n .i64 i)),(5,.p 5 0)],[(5,.blk [.v (.s (js (i).toNat).name),.v (.n .i64 (js (i).toNat).kind),.v (.n .i64 (js (i).toNat).parent),.v (.n .i64 (js (i).toNat).off.x),.v (.n .i64 (js (i).toNat).off.y),.v (.n .i64 (js (i).toNat).off.z),.v (.n .i64 (js (i).toNat).lo),.v (.n .i64 (js (i).toNat).hi),.v (.n .i64 (js (i).toNat).weight),.v (.n .i64 (js (i).toNat).speed),.v (.n .i64 (js (i).toNat).accel),.v (.n .i64 (js (i).toNat).torque)])]⟩
theorem lpC (K:Cont) (js:Nat→J) (n i:Nat) (hn:n≤1000) (hi:i < n):∀ (k p q:Nat),p + k=i→k < q→LF 60 (cxF T (OrL.k [(122,o_nm)]) 60 95 (ntmF T 95)) (ckF T (OrL.k [(122,o_nm)]) 60) (qK T 95 [0,1,0,1,1,1]) ((cxF T (OrL.k [(122,o_nm)]) 60 95 (ntmF T 95)).T.hint (cxF T (OrL.k [(122,o_nm)]) 60 95 (ntmF T 95)).me (zV (qK T 95 [0,1,0,1,1,1]))) K q (hC js n i p)=bif dup js (js i).name k p then (K .ret (rC js i)) else (K (.exit 0) (oC js i))
 | 0,p,q + 1,hp,hq=>by
  refine (rdC (fun σ=>LF 60 (cxF T (OrL.k [(122,o_nm)]) 60 95 (ntmF T 95)) (ckF T (OrL.k [(122,o_nm)]) 60) (qK T 95 [0,1,0,1,1,1]) ((cxF T (OrL.k [(122,o_nm)]) 60 95 (ntmF T 95)).T.hint (cxF T (OrL.k [(122,o_nm)]) 60 95 (ntmF T 95)).me (zV (qK T 95 [0,1,0,1,1,1]))) K q σ) K js n i p).trans ?_;rw [vYH (show ¬ (p:Int) < (i:Int) by omega)];rfl
 | k + 1,p,q + 1,hp,hq=>by
  refine (rdC (fun σ=>LF 60 (cxF T (OrL.k [(122,o_nm)]) 60 95 (ntmF T 95)) (ckF T (OrL.k [(122,o_nm)]) 60) (qK T 95 [0,1,0,1,1,1]) ((cxF T (OrL.k [(122,o_nm)]) 60 95 (ntmF T 95)).T.hint (cxF T (OrL.k [(122,o_nm)]) 60 95 (ntmF T 95)).me (zV (qK T 95 [0,1,0,1,1,1]))) K q σ) K js n i p).trans ?_;rw [vJQ (show (p:Int) < (i:Int) by omega),kZ (show p < n by omega),qZQ (by omega),lpC K js n i hn hi k (p + 1) q (by omega) (by omega),toN,toN];simp only [vYV,dup];cases ((js p).name.toList == (js i).name.toList) <;> rfl
set_option maxRecDepth 100000 in
theorem pxC (js:Nat→J) (n:Nat) (i:Int):qKH T (OrL.k [(122,o_nm)]) (zW [([0,1,0,1,1,1],yW (hC js n i 0) (fun K=>bif dup js (js i.toNat).name i.toNat 0 then (K .ret (rC js i)) else (K (.exit 0) (oC js i))))]) 60 95 [.lf n (fJ js),.n .i64 i] =
 bif inB i n then (bif nmB (js i.toNat).name then (bif gSt (hC js n i 0) (hC js n i 0) then (bif dup js (js i.toNat).name i.toNat 0 then some (.v (.n .i64 802),[]) else cjT F_n i (js i.toNat)) else none) else some (.v (.n .i64 802),[])) else none:=by kernel_rfl
theorem snd_cjr (js:Nat→J) (n:Nat) (_:n≤50) (i:Nat) (hi:i < n):yZ Tryz.prog 95 [.lf n (fJ js),.n .i64 i] (.v (.n .i64 (jErr js n i))):=by
 refine yH (N:=60) (LO:=zW [([0,1,0,1,1,1],yW (hC js n (i:Int) 0) (fun K=>bif dup js (js (i:Int).toNat).name (i:Int).toNat 0 then (K .ret (rC js i)) else (K (.exit 0) (oC js i))))]) yY yQ (OrL.ok (l:=[(122,o_nm)]) ⟨ok_rn,trivial⟩) (fun p S hp => ?_) ?_
 ·refine kQ (L:=qK T 95) (l:=[([0,1,0,1,1,1],yW (hC js n (i:Int) 0) (fun K=>bif dup js (js (i:Int).toNat).name (i:Int).toNat 0 then (K .ret (rC js i)) else (K (.exit 0) (oC js i))))]) (show AllP _ [([0,1,0,1,1,1],yW (hC js n (i:Int) 0) (fun K=>bif dup js (js (i:Int).toNat).name (i:Int).toNat 0 then (K .ret (rC js i)) else (K (.exit 0) (oC js i))))] from ⟨kW fun K r hr => ?_,trivial⟩) p S hp
  have:=lpC K js n i (by omega) hi i 0 60 (by omega) (by omega)
  rw [toN] at hr;exact this.trans hr
 ·refine (pxC js n i).trans ?_;rw [kZ hi,vYV,toN,jG,vYV,F_cj];unfold jErr;cases nmB (js i).name <;> cases dup js (js i).name i 0 <;> rfl
end Go.Proofs.YtfcofnclgajfeaaGreat.Nb
namespace Go.Proofs.YtfcofnclgajfeaaGreat.Nc
open Go.Rx Rt Go.Sx Go.RowKit Od
open Na Nb
def MOK (n:Nat) (q:Ms):Prop:=(0≤q.link∧q.link < n)∧(1≤q.mass∧q.mass≤65536)∧(-4194304≤q.p.x∧q.p.x≤4194304)∧(-4194304≤q.p.y∧q.p.y≤4194304)∧(-4194304≤q.p.z∧q.p.z≤4194304)
instance (n:Nat) (q:Ms):Decidable (MOK n q):=by unfold MOK; exact inferInstance
def mokB (n:Nat) (q:Ms):Bool:=decide (MOK n q)
def mAll (ms:Nat→Ms) (n:Nat):Nat→Nat→Bool
 | 0,_=>true
 | k + 1,p=>mokB n (ms p) && mAll ms n k (p + 1)
def fbad (ms:Nat→Ms) (n:Nat):Nat→Nat→Int
 | 0,_ => -1
 | k + 1,p=>bif mokB n (ms p) then fbad ms n k (p + 1) else (p:Int)
theorem fbad_all (ms:Nat→Ms) (n:Nat):∀ k p,decide (0≤fbad ms n k p) = !mAll ms n k p
 | 0,p=>rfl
 | k + 1,p=>by
  have ih:=fbad_all ms n k (p + 1);by_cases hq:mokB n (ms p)=true
  ·simp only [fbad,mAll,hq,vYV,vZH];exact ih
  ·rw [Bool.not_eq_true] at hq;simp only [fbad,mAll,hq,vYG,Bool.false_and,Bool.not_false];exact vJQ (by omega)
def jE (js:Nat→J) (n:Nat):Nat→Nat→Int
 | 0,_=>0
 | k + 1,p=>bif decide (jErr js n p=0) then jE js n k (p + 1) else jErr js n p
def rErr (js:Nat→J) (ms:Nat→Ms) (n m:Nat):Int:=bif decide ((n:Int)=0) then 801 else bif decide (10 < (n:Int)) then 801 else bif decide (jE js n n 0=0) then (bif decide (32 < (m:Int)) then 808 else bif mAll ms n m 0 then 0 else 808) else jE js n n 0
def mTp {α:Type} (n:Nat) (q:Ms) (a b:α):α:=(bif (decide (0≤q.link)) then (bif (decide (q.link < (n:Int))) then (bif (decide (1≤q.mass)) then (bif (decide (q.mass≤65536)) then (bif (decide (q.p.x < (-4194304))) then b else (bif (decide (4194304 < q.p.x)) then b else (bif (decide (q.p.y < (-4194304))) then b else (bif (decide (4194304 < q.p.y)) then b else (bif (decide (q.p.z < (-4194304))) then b else (bif (decide (4194304 < q.p.z)) then b else a)))))) else b) else b) else b) else b)
theorem mTp_eq {α:Type} (n:Nat) (q:Ms) (a b:α):mTp n q a b=bif mokB n q then a else b:=by
 unfold mTp mokB;by_cases h:MOK n q
 ·have h':=h;obtain ⟨⟨h1,h2⟩,⟨h3,h4⟩,⟨h5,h6⟩,⟨h7,h8⟩,h9,h10⟩:=h';rw [vJQ h];simp only [vYV];simp only [Bool.cond_eq_ite,decide_eq_true_eq]
  repeat' split
  all_goals first | rfl | (exfalso; omega)
 ·rw [vYH h];unfold MOK at h;simp only [vYG];simp only [Bool.cond_eq_ite,decide_eq_true_eq]
  repeat' split
  all_goals first | rfl | (exfalso; omega) | contradiction
set_option maxRecDepth 100000 in
theorem tr_cl (js:Nat→J) (ms:Nat→Ms) (n m:Nat) (q:Ms):runK T (OrL.k []) 60 79 [.a (mp q),.c [.lf n (fJ js),.lf m (fM ms)] 0]=mTp n q (F_b false) (F_b true):=by kernel_rfl
theorem snd_cl (js:Nat→J) (ms:Nat→Ms) (n m:Nat) (q:Ms):yZ Tryz.prog 79 [.a (mp q),.c [.lf n (fJ js),.lf m (fM ms)] 0] (.v (.b (!mokB n q))):=by
 refine qX (N:=60) yY yQ (OrL.ok (l:=[]) trivial) ?_;rw [tr_cl,mTp_eq];cases mokB n q <;> rfl
noncomputable def o_cl (js:Nat→J) (ms:Nat→Ms) (n m:Nat):List PV→Option (Bool × Ret):=fun ps=>match ps with
 | [.a [.n .i64 a0,.n .i64 a1,.n .i64 a2,.n .i64 a3,.n .i64 a4],c]=>some (gEq c (.c [.lf n (fJ js),.lf m (fM ms)] 0),.v (.b (!mokB n ⟨a0,a1,⟨a2,a3,a4⟩⟩)))
 | _=>none
theorem ok_cl (js:Nat→J) (ms:Nat→Ms) (n m:Nat):zY Tryz.prog 79 (o_cl js ms n m):=by
 intro ps r hh;unfold o_cl at hh;split at hh
 ·simp only [vQZ,vQY] at hh;obtain ⟨hg,rfl⟩:=hh;obtain rfl:=qXG hg;exact snd_cl js ms n m ⟨_,_,⟨_,_,_⟩⟩
 ·cases hh
def hI (js:Nat→J) (ms:Nat→Ms) (n m:Nat) (i:Int):St:=⟨[(0,.v (.lf m (fM ms))),(1,.v (.f 79 [] [.c [.lf n (fJ js),.lf m (fM ms)] 0])),(7,.v (.n .i64 (m:Int))),(8,.v (.n .i64 i))],[]⟩
set_option maxRecDepth 100000 in
theorem rdI (G:St→Option (Ret × Mem)) (K:Cont) (js:Nat→J) (ms:Nat→Ms) (n m:Nat) (i:Int):qJI 60 (cxF T (OrL.k [(79,o_cl js ms n m)]) 60 112 (ntmF T 112)) (ckF T (OrL.k [(79,o_cl js ms n m)]) 60) (qK T 112 [0,1,0,1]) (fun e τ=>match e with
 | .normal=>G (qYV ((cxF T (OrL.k [(79,o_cl js ms n m)]) 60 112 (ntmF T 112)).T.hint (cxF T (OrL.k [(79,o_cl js ms n m)]) 60 112 (ntmF T 112)).me (zV (qK T 112 [0,1,0,1]))) τ)
 | e=>K e (qZG ((cxF T (OrL.k [(79,o_cl js ms n m)]) 60 112 (ntmF T 112)).T.hint (cxF T (OrL.k [(79,o_cl js ms n m)]) 60 112 (ntmF T 112)).me (zV (qK T 112 [0,1,0,1]))) τ)) (hI js ms n m i) =
 (bif (decide (i < (m:Int))) then (bif (inB i m) then (bif (gEq (.c [.lf n (fJ js),.lf m (fM ms)] 0) (.c [.lf n (fJ js),.lf m (fM ms)] 0)) then (bif (!mokB n (ms (i).toNat)) then (K .ret ⟨[(4,.v (.n .i64 i))],[]⟩)
 else (G (hI js ms n m (vJJ .i64 (i + 1)))))
 else none)
 else none)
 else (K (.exit 0) ⟨[],[]⟩)):=by kernel_rfl
theorem lpI (K:Cont) (js:Nat→J) (ms:Nat→Ms) (n m:Nat) (hm:m≤1000):∀ (k p q:Nat),p + k=m→k < q→LF 60 (cxF T (OrL.k [(79,o_cl js ms n m)]) 60 112 (ntmF T 112)) (ckF T (OrL.k [(79,o_cl js ms n m)]) 60) (qK T 112 [0,1,0,1]) ((cxF T (OrL.k [(79,o_cl js ms n m)]) 60 112 (ntmF T 112)).T.hint (cxF T (OrL.k [(79,o_cl js ms n m)]) 60 112 (ntmF T 112)).me (zV (qK T 112 [0,1,0,1]))) K q (hI js ms n m p)=(bif decide (fbad ms n k p = -1) then K (.exit 0) ⟨[],[]⟩ else K .ret ⟨[(4,.v (.n .i64 (fbad ms n k p)))],[]⟩)
 | 0,p,q + 1,hp,hq=>by
  refine (rdI (fun σ=>LF 60 (cxF T (OrL.k [(79,o_cl js ms n m)]) 60 112 (ntmF T 112)) (ckF T (OrL.k [(79,o_cl js ms n m)]) 60) (qK T 112 [0,1,0,1]) ((cxF T (OrL.k [(79,o_cl js ms n m)]) 60 112 (ntmF T 112)).T.hint (cxF T (OrL.k [(79,o_cl js ms n m)]) 60 112 (ntmF T 112)).me (zV (qK T 112 [0,1,0,1]))) K q σ) K js ms n m p).trans ?_;rw [vYH (show ¬ (p:Int) < (m:Int) by omega)];rfl
 | k + 1,p,q + 1,hp,hq=>by
  refine (rdI (fun σ=>LF 60 (cxF T (OrL.k [(79,o_cl js ms n m)]) 60 112 (ntmF T 112)) (ckF T (OrL.k [(79,o_cl js ms n m)]) 60) (qK T 112 [0,1,0,1]) ((cxF T (OrL.k [(79,o_cl js ms n m)]) 60 112 (ntmF T 112)).T.hint (cxF T (OrL.k [(79,o_cl js ms n m)]) 60 112 (ntmF T 112)).me (zV (qK T 112 [0,1,0,1]))) K q σ) K js ms n m p).trans ?_;rw [vJQ (show (p:Int) < (m:Int) by omega),kZ (show p < m by omega),qZQ (by omega),lpI K js ms n m hm k (p + 1) q (by omega) (by omega),toN,qWB];by_cases hq:mokB n (ms p)=true
  ·simp only [fbad,hq,vYV,vYG,Bool.not_true]
  ·rw [Bool.not_eq_true] at hq;simp only [fbad,hq,vYV,vYG,Bool.not_false,vYH (show ¬ (p:Int) = -1 by omega)]
set_option maxRecDepth 100000 in
theorem pxI (js:Nat→J) (ms:Nat→Ms) (n m:Nat):qKH T (OrL.k [(79,o_cl js ms n m)]) (zW [([0,1,0,1],yW (hI js ms n m 0) (fun K=>(bif decide (fbad ms n m 0 = -1) then K (.exit 0) ⟨[],[]⟩ else K .ret ⟨[(4,.v (.n .i64 (fbad ms n m 0)))],[]⟩)))]) 60 112 [.lf m (fM ms),.f 79 [] [.c [.lf n (fJ js),.lf m (fM ms)] 0]] =
 bif gSt (hI js ms n m 0) (hI js ms n m 0) then (bif decide (fbad ms n m 0 = -1) then some (.v (.n .i64 (-1)),[]) else some (.v (.n .i64 (fbad ms n m 0)),[])) else none:=by kernel_rfl
theorem snd_if (js:Nat→J) (ms:Nat→Ms) (n m:Nat) (_:m≤50):yZ Tryz.prog 112 [.lf m (fM ms),.f 79 [] [.c [.lf n (fJ js),.lf m (fM ms)] 0]] (.v (.n .i64 (fbad ms n m 0))):=by
 refine yH (N:=60) (LO:=zW [([0,1,0,1],yW (hI js ms n m 0) (fun K=>(bif decide (fbad ms n m 0 = -1) then K (.exit 0) ⟨[],[]⟩ else K .ret ⟨[(4,.v (.n .i64 (fbad ms n m 0)))],[]⟩)))]) yY yQ (OrL.ok (l:=[(79,o_cl js ms n m)]) ⟨ok_cl js ms n m,trivial⟩) (fun p S hp => ?_) ?_
 ·refine kQ (L:=qK T 112) (l:=[([0,1,0,1],yW (hI js ms n m 0) (fun K=>(bif decide (fbad ms n m 0 = -1) then K (.exit 0) ⟨[],[]⟩ else K .ret ⟨[(4,.v (.n .i64 (fbad ms n m 0)))],[]⟩)))]) (show AllP _ [([0,1,0,1],yW (hI js ms n m 0) (fun K=>(bif decide (fbad ms n m 0 = -1) then K (.exit 0) ⟨[],[]⟩ else K .ret ⟨[(4,.v (.n .i64 (fbad ms n m 0)))],[]⟩)))] from ⟨kW fun K r hr => ?_,trivial⟩) p S hp;exact (lpI K js ms n m (by omega) m 0 60 (by omega) (by omega)).trans hr
 ·refine (pxI js ms n m).trans ?_;rw [jG,vYV];by_cases h:fbad ms n m 0 = -1
  ·rw [vJQ h,h]; rfl
  ·rw [vYH h]; rfl
theorem snd_cf (js:Nat→J) (ms:Nat→Ms) (n m:Nat) (hm:m≤50):yZ Tryz.prog 78 [.lf m (fM ms),.f 79 [] [.c [.lf n (fJ js),.lf m (fM ms)] 0]] (.v (.b (!mAll ms n m 0))):=by
 refine qX (N:=60) yY yQ (OrL.ok (l:=[(112,o_cr [.lf m (fM ms),.f 79 [] [.c [.lf n (fJ js),.lf m (fM ms)] 0]] (.v (.n .i64 (fbad ms n m 0))))]) ⟨qJZ (snd_if js ms n m hm),trivial⟩) ?_;refine (by kernel_rfl:_=bif (g1 [.lf m (fM ms),.f 79 [] [.c [.lf n (fJ js),.lf m (fM ms)] 0]]) then (bif (decide (0≤(fbad ms n m 0))) then some (.v (.b true),[])
 else some (.v (.b false),[]))
 else none).trans ?_
 rw [g1_t,vYV,← fbad_all];cases decide (0≤fbad ms n m 0) <;> rfl
noncomputable def qUE (js:Nat→J) (ms:Nat→Ms) (n m:Nat):List PV→Option (Bool × Ret):=fun ps=>match ps with
 | [r,.n .i64 i]=>some (gEq r (.a [.lf n (fJ js),.lf m (fM ms)]) && (inB i n && decide (n≤50)),.v (.n .i64 (jErr js n i.toNat)))
 | _=>none
theorem ok_o_cjp (js:Nat→J) (ms:Nat→Ms) (n m:Nat):zY Tryz.prog 77 (qUE js ms n m):=by
 intro ps r hh;unfold qUE at hh;split at hh
 ·simp only [vQZ,vQY,vQJ] at hh;obtain ⟨⟨hg,hi,hd⟩,rfl⟩:=hh;obtain rfl:=qXG hg;have hn:=vJZ hd;obtain ⟨i0,i1⟩:=qKD hi;rename_i i
  have:=snd_cjp js ms n m hn i.toNat (by omega)
  rw [show ((i.toNat:Nat):Int)=i by omega] at this;exact this
 ·cases hh
noncomputable def qQL (js:Nat→J) (_:Nat→Ms) (n m:Nat):List PV→Option (Bool × Ret):=fun ps=>match ps with
 | [r,.n .i64 i]=>some (gEq r (.lf n (fJ js)) && (inB i n && decide (n≤50)),.v (.n .i64 (jErr js n i.toNat)))
 | _=>none
theorem ok_o_cjr (js:Nat→J) (ms:Nat→Ms) (n m:Nat):zY Tryz.prog 95 (qQL js ms n m):=by
 intro ps r hh;unfold qQL at hh;split at hh
 ·simp only [vQZ,vQY,vQJ] at hh;obtain ⟨⟨hg,hi,hd⟩,rfl⟩:=hh;obtain rfl:=qXG hg;have hn:=vJZ hd;obtain ⟨i0,i1⟩:=qKD hi;rename_i i
  have:=snd_cjr js n hn i.toNat (by omega)
  rw [show ((i.toNat:Nat):Int)=i by omega] at this;exact this
 ·cases hh
noncomputable def qUF (js:Nat→J) (ms:Nat→Ms) (n m:Nat):List PV→Option (Bool × Ret):=fun ps=>some (gEq (.t ps) (.t [.lf m (fM ms),.f 79 [] [.c [.lf n (fJ js),.lf m (fM ms)] 0]]) && decide (m≤50),.v (.b (!mAll ms n m 0)))
theorem ok_cfm (js:Nat→J) (ms:Nat→Ms) (n m:Nat):zY Tryz.prog 78 (qUF js ms n m):=by
 intro ps q hh;unfold qUF at hh;simp only [vQZ,vQY,vQJ] at hh;obtain ⟨⟨hg,hm⟩,rfl⟩:=hh
 have:=qXG hg
 simp only [PV.t.injEq] at this;rw [this];exact snd_cf js ms n m (vJZ hm)
def hK (js:Nat→J) (ms:Nat→Ms) (n m:Nat) (i:Int):St:=⟨[(1,.p 1 0),(17,.v (.n .i64 (n:Int))),(18,.v (.n .i64 i))],[(1,.blk [.v (.lf n (fJ js)),.v (.lf m (fM ms))])]⟩
set_option maxRecDepth 100000 in
theorem rdK (G:St→Option (Ret × Mem)) (K:Cont) (js:Nat→J) (ms:Nat→Ms) (n m:Nat) (i:Int):qJI 60 (cxF T (OrL.k [(77,qUE js ms n m),(78,qUF js ms n m)]) 60 48 (ntmF T 48)) (ckF T (OrL.k [(77,qUE js ms n m),(78,qUF js ms n m)]) 60) (qK T 48 [0,1,0,1,1]) (fun e τ=>match e with
 | .normal=>G (qYV ((cxF T (OrL.k [(77,qUE js ms n m),(78,qUF js ms n m)]) 60 48 (ntmF T 48)).T.hint (cxF T (OrL.k [(77,qUE js ms n m),(78,qUF js ms n m)]) 60 48 (ntmF T 48)).me (zV (qK T 48 [0,1,0,1,1]))) τ)
 | e=>K e (qZG ((cxF T (OrL.k [(77,qUE js ms n m),(78,qUF js ms n m)]) 60 48 (ntmF T 48)).T.hint (cxF T (OrL.k [(77,qUE js ms n m),(78,qUF js ms n m)]) 60 48 (ntmF T 48)).me (zV (qK T 48 [0,1,0,1,1]))) τ)) (hK js ms n m i) =
 (bif (decide (i < (n:Int))) then (bif (gEq (.a [.lf n (fJ js),.lf m (fM ms)]) (.a [.lf n (fJ js),.lf m (fM ms)]) && (inB i n && decide (n≤50))) then (bif (!decide ((jErr js n (i).toNat)=0)) then (K .ret ⟨[(1,.p 1 0),(2,.v (.n .i64 (jErr js n (i).toNat)))],[(1,.blk [.v (.lf n (fJ js)),.v (.lf m (fM ms))])]⟩)
 else (G (hK js ms n m (vJJ .i64 (i + 1)))))
 else none)
 else (K (.exit 0) ⟨[(1,.p 1 0)],[(1,.blk [.v (.lf n (fJ js)),.v (.lf m (fM ms))])]⟩)):=by kernel_rfl
def rK (js:Nat→J) (ms:Nat→Ms) (n m:Nat) (e:Int):St:=⟨[(1,.p 1 0),(2,.v (.n .i64 e))],[(1,.blk [.v (.lf n (fJ js)),.v (.lf m (fM ms))])]⟩
def oK (js:Nat→J) (ms:Nat→Ms) (n m:Nat):St:=⟨[(1,.p 1 0)],[(1,.blk [.v (.lf n (fJ js)),.v (.lf m (fM ms))])]⟩
theorem lpK (K:Cont) (js:Nat→J) (ms:Nat→Ms) (n m:Nat) (hn:n≤10):∀ (k p q:Nat),p + k=n→k < q→LF 60 (cxF T (OrL.k [(77,qUE js ms n m),(78,qUF js ms n m)]) 60 48 (ntmF T 48)) (ckF T (OrL.k [(77,qUE js ms n m),(78,qUF js ms n m)]) 60) (qK T 48 [0,1,0,1,1]) ((cxF T (OrL.k [(77,qUE js ms n m),(78,qUF js ms n m)]) 60 48 (ntmF T 48)).T.hint (cxF T (OrL.k [(77,qUE js ms n m),(78,qUF js ms n m)]) 60 48 (ntmF T 48)).me (zV (qK T 48 [0,1,0,1,1]))) K q (hK js ms n m p)=(bif decide (jE js n k p=0) then (K (.exit 0) (oK js ms n m)) else (K .ret (rK js ms n m (jE js n k p))))
 | 0,p,q + 1,hp,hq=>by
  refine (rdK (fun σ=>LF 60 (cxF T (OrL.k [(77,qUE js ms n m),(78,qUF js ms n m)]) 60 48 (ntmF T 48)) (ckF T (OrL.k [(77,qUE js ms n m),(78,qUF js ms n m)]) 60) (qK T 48 [0,1,0,1,1]) ((cxF T (OrL.k [(77,qUE js ms n m),(78,qUF js ms n m)]) 60 48 (ntmF T 48)).T.hint (cxF T (OrL.k [(77,qUE js ms n m),(78,qUF js ms n m)]) 60 48 (ntmF T 48)).me (zV (qK T 48 [0,1,0,1,1]))) K q σ) K js ms n m p).trans ?_;rw [vYH (show ¬ (p:Int) < (n:Int) by omega)];rfl
 | k + 1,p,q + 1,hp,hq=>by
  refine (rdK (fun σ=>LF 60 (cxF T (OrL.k [(77,qUE js ms n m),(78,qUF js ms n m)]) 60 48 (ntmF T 48)) (ckF T (OrL.k [(77,qUE js ms n m),(78,qUF js ms n m)]) 60) (qK T 48 [0,1,0,1,1]) ((cxF T (OrL.k [(77,qUE js ms n m),(78,qUF js ms n m)]) 60 48 (ntmF T 48)).T.hint (cxF T (OrL.k [(77,qUE js ms n m),(78,qUF js ms n m)]) 60 48 (ntmF T 48)).me (zV (qK T 48 [0,1,0,1,1]))) K q σ) K js ms n m p).trans ?_;rw [vJQ (show (p:Int) < (n:Int) by omega),kZ (show p < n by omega),qZQ (by omega),lpK K js ms n m hn k (p + 1) q (by omega) (by omega),toN,qWB,vJQ (show n≤50 by omega)];by_cases hq:jErr js n p=0
  ·simp only [jE,vJQ hq,vYV,vYG,Bool.not_true,vZJ]
  ·simp only [jE,vYH hq,vYV,vYG,Bool.not_false,vZJ];rfl
set_option maxRecDepth 100000 in
theorem pxK (js:Nat→J) (ms:Nat→Ms) (n m:Nat):qKH T (OrL.k [(77,qUE js ms n m),(78,qUF js ms n m)]) (zW [([0,1,0,1,1],yW (hK js ms n m 0) (fun K=>bif decide (10 < (n:Int)) then none else (bif decide (jE js n n 0=0) then (K (.exit 0) (oK js ms n m)) else (K .ret (rK js ms n m (jE js n n 0))))))]) 60 48 [(.a [.lf n (fJ js),.lf m (fM ms)])] =
 bif decide ((n:Int)=0) then some (.v (.n .i64 801),[]) else (bif decide (10 < (n:Int)) then some (.v (.n .i64 801),[]) else (bif gSt (hK js ms n m 0) (hK js ms n m 0) then (bif decide (10 < (n:Int)) then none else (bif decide (jE js n n 0=0) then bif (decide (32 < (m:Int))) then some (.v (.n .i64 808),[])
 else bif (g1 [.lf m (fM ms),.f 79 [] [.c [.lf n (fJ js),.lf m (fM ms)] 0]] && decide (m≤50)) then (bif (!mAll ms n m 0) then some (.v (.n .i64 808),[])
 else some (.v (.n .i64 0),[]))
 else none else some (.v (.n .i64 (jE js n n 0)),[]))) else none)):=by kernel_rfl
theorem yZG (js:Nat→J) (ms:Nat→Ms) (n m:Nat):yZ Tryz.prog 48 [(.a [.lf n (fJ js),.lf m (fM ms)])] (.v (.n .i64 (rErr js ms n m))):=by
 refine yH (N:=60) (LO:=zW [([0,1,0,1,1],yW (hK js ms n m 0) (fun K=>bif decide (10 < (n:Int)) then none else (bif decide (jE js n n 0=0) then (K (.exit 0) (oK js ms n m)) else (K .ret (rK js ms n m (jE js n n 0))))))]) yY yQ (OrL.ok (l:=[(77,qUE js ms n m),(78,qUF js ms n m)]) ⟨ok_o_cjp js ms n m,ok_cfm js ms n m,trivial⟩) (fun p S hp => ?_) ?_
 ·refine kQ (L:=qK T 48) (l:=[([0,1,0,1,1],yW (hK js ms n m 0) (fun K=>bif decide (10 < (n:Int)) then none else (bif decide (jE js n n 0=0) then (K (.exit 0) (oK js ms n m)) else (K .ret (rK js ms n m (jE js n n 0))))))]) (show AllP _ [([0,1,0,1,1],yW (hK js ms n m 0) (fun K=>bif decide (10 < (n:Int)) then none else (bif decide (jE js n n 0=0) then (K (.exit 0) (oK js ms n m)) else (K .ret (rK js ms n m (jE js n n 0))))))] from ⟨kW fun K r hr => ?_,trivial⟩) p S hp;cases hq:decide (10 < (n:Int)) with
  | true=>rw [hq] at hr; cases hr
  | false =>
   rw [hq] at hr;have h10:=vJY hq;exact (lpK K js ms n m (by omega) n 0 60 (by omega) (by omega)).trans hr
 ·refine (pxK js ms n m).trans ?_;unfold rErr;rw [jG,g1_t];by_cases h0:(n:Int)=0
  ·rw [vJQ h0]; rfl
  rw [vYH h0];by_cases h10:10 < (n:Int)
  ·rw [vJQ h10]; rfl
  rw [vYH h10];by_cases hj:jE js n n 0=0
  ·rw [vJQ hj];by_cases h32:32 < (m:Int)
   ·rw [vJQ h32]; rfl
   rw [vYH h32,vJQ (show m≤50 by omega)];cases mAll ms n m 0 <;> rfl
  ·rw [vYH hj]; rfl
def hQ (js:Nat→J) (ms:Nat→Ms) (n m:Nat) (i:Int):St:=⟨[(1,.p 1 0),(3,.v (.n .i64 i))],[(1,.blk [.v (.lf n (fJ js)),.v (.lf m (fM ms))])]⟩
set_option maxRecDepth 100000 in
theorem rdQ (G:St→Option (Ret × Mem)) (K:Cont) (js:Nat→J) (ms:Nat→Ms) (n m:Nat) (i:Int):qJI 60 (cxF T (OrL.k [(95,qQL js ms n m)]) 60 69 (ntmF T 69)) (ckF T (OrL.k [(95,qQL js ms n m)]) 60) (qK T 69 [0,1,0,1,1]) (fun e τ=>match e with
 | .normal=>G (qYV ((cxF T (OrL.k [(95,qQL js ms n m)]) 60 69 (ntmF T 69)).T.hint (cxF T (OrL.k [(95,qQL js ms n m)]) 60 69 (ntmF T 69)).me (zV (qK T 69 [0,1,0,1,1]))) τ)
 | e=>K e (qZG ((cxF T (OrL.k [(95,qQL js ms n m)]) 60 69 (ntmF T 69)).T.hint (cxF T (OrL.k [(95,qQL js ms n m)]) 60 69 (ntmF T 69)).me (zV (qK T 69 [0,1,0,1,1]))) τ)) (hQ js ms n m i) =
 (bif (decide (i < (n:Int))) then (bif (gEq (.lf n (fJ js)) (.lf n (fJ js)) && (inB i n && decide (n≤50))) then (bif (!decide ((jErr js n (i).toNat)=0)) then (K .ret ⟨[(1,.p 1 0),(2,.v (.n .i64 (jErr js n (i).toNat)))],[(1,.blk [.v (.lf n (fJ js)),.v (.lf m (fM ms))])]⟩)
 else (G (hQ js ms n m (vJJ .i64 (i + 1)))))
 else none)
 else (K (.exit 0) ⟨[(1,.p 1 0)],[(1,.blk [.v (.lf n (fJ js)),.v (.lf m (fM ms))])]⟩)):=by kernel_rfl
def rQ (js:Nat→J) (ms:Nat→Ms) (n m:Nat) (e:Int):St:=⟨[(1,.p 1 0),(2,.v (.n .i64 e))],[(1,.blk [.v (.lf n (fJ js)),.v (.lf m (fM ms))])]⟩
def oQ (js:Nat→J) (ms:Nat→Ms) (n m:Nat):St:=⟨[(1,.p 1 0)],[(1,.blk [.v (.lf n (fJ js)),.v (.lf m (fM ms))])]⟩
theorem lpQ (K:Cont) (js:Nat→J) (ms:Nat→Ms) (n m:Nat) (hn:n≤10):∀ (k p q:Nat),p + k=n→k < q→LF 60 (cxF T (OrL.k [(95,qQL js ms n m)]) 60 69 (ntmF T 69)) (ckF T (OrL.k [(95,qQL js ms n m)]) 60) (qK T 69 [0,1,0,1,1]) ((cxF T (OrL.k [(95,qQL js ms n m)]) 60 69 (ntmF T 69)).T.hint (cxF T (OrL.k [(95,qQL js ms n m)]) 60 69 (ntmF T 69)).me (zV (qK T 69 [0,1,0,1,1]))) K q (hQ js ms n m p)=(bif decide (jE js n k p=0) then (K (.exit 0) (oQ js ms n m)) else (K .ret (rQ js ms n m (jE js n k p))))
 | 0,p,q + 1,hp,hq=>by
  refine (rdQ (fun σ=>LF 60 (cxF T (OrL.k [(95,qQL js ms n m)]) 60 69 (ntmF T 69)) (ckF T (OrL.k [(95,qQL js ms n m)]) 60) (qK T 69 [0,1,0,1,1]) ((cxF T (OrL.k [(95,qQL js ms n m)]) 60 69 (ntmF T 69)).T.hint (cxF T (OrL.k [(95,qQL js ms n m)]) 60 69 (ntmF T 69)).me (zV (qK T 69 [0,1,0,1,1]))) K q σ) K js ms n m p).trans ?_;rw [vYH (show ¬ (p:Int) < (n:Int) by omega)];rfl
 | k + 1,p,q + 1,hp,hq=>by
  refine (rdQ (fun σ=>LF 60 (cxF T (OrL.k [(95,qQL js ms n m)]) 60 69 (ntmF T 69)) (ckF T (OrL.k [(95,qQL js ms n m)]) 60) (qK T 69 [0,1,0,1,1]) ((cxF T (OrL.k [(95,qQL js ms n m)]) 60 69 (ntmF T 69)).T.hint (cxF T (OrL.k [(95,qQL js ms n m)]) 60 69 (ntmF T 69)).me (zV (qK T 69 [0,1,0,1,1]))) K q σ) K js ms n m p).trans ?_;rw [vJQ (show (p:Int) < (n:Int) by omega),kZ (show p < n by omega),qZQ (by omega),lpQ K js ms n m hn k (p + 1) q (by omega) (by omega),toN,qWB,vJQ (show n≤50 by omega)];by_cases hq:jErr js n p=0
  ·simp only [jE,vJQ hq,vYV,vYG,Bool.not_true,vZJ]
  ·simp only [jE,vYH hq,vYV,vYG,Bool.not_false,vZJ];rfl
def hM (js:Nat→J) (ms:Nat→Ms) (n m:Nat) (i:Int):St:=⟨[(1,.p 1 0),(5,.v (.n .i64 i))],[(1,.blk [.v (.lf n (fJ js)),.v (.lf m (fM ms))])]⟩
def rM (_:Nat→J) (_:Nat→Ms) (n m:Nat) (i:Int):St:=⟨[(2,.v (.n .i64 808))],[]⟩
def oM (_:Nat→J) (_:Nat→Ms) (n m:Nat):St:=⟨[],[]⟩
def mTr {α:Type} (n:Nat) (q:Ms) (a b:α):α:=(bif (decide (q.link < 0)) then b else (bif (decide ((n:Int)≤q.link)) then b else (bif (decide (1≤q.mass)) then (bif (decide (q.mass≤65536)) then (bif (decide (q.p.x < (-4194304))) then b else (bif (decide (4194304 < q.p.x)) then b else (bif (decide (q.p.y < (-4194304))) then b else (bif (decide (4194304 < q.p.y)) then b else (bif (decide (q.p.z < (-4194304))) then b else (bif (decide (4194304 < q.p.z)) then b else a)))))) else b) else b)))
theorem mTr_eq {α:Type} (n:Nat) (q:Ms) (a b:α):mTr n q a b=bif mokB n q then a else b:=by
 unfold mTr mokB;by_cases h:MOK n q
 ·have h':=h;obtain ⟨⟨h1,h2⟩,⟨h3,h4⟩,⟨h5,h6⟩,⟨h7,h8⟩,h9,h10⟩:=h';rw [vJQ h];simp only [vYV];simp only [Bool.cond_eq_ite,decide_eq_true_eq]
  repeat' split
  all_goals first | rfl | (exfalso; omega)
 ·rw [vYH h];unfold MOK at h;simp only [vYG];simp only [Bool.cond_eq_ite,decide_eq_true_eq]
  repeat' split
  all_goals first | rfl | (exfalso; omega) | contradiction
set_option maxRecDepth 100000 in
theorem rdM (G:St→Option (Ret × Mem)) (K:Cont) (js:Nat→J) (ms:Nat→Ms) (n m:Nat) (i:Int):qJI 60 (cxF T (OrL.k [(95,qQL js ms n m)]) 60 69 (ntmF T 69)) (ckF T (OrL.k [(95,qQL js ms n m)]) 60) (qK T 69 [0,1,0,1,1,1,1]) (fun e τ=>match e with
 | .normal=>G (qYV ((cxF T (OrL.k [(95,qQL js ms n m)]) 60 69 (ntmF T 69)).T.hint (cxF T (OrL.k [(95,qQL js ms n m)]) 60 69 (ntmF T 69)).me (zV (qK T 69 [0,1,0,1,1,1,1]))) τ)
 | e=>K e (qZG ((cxF T (OrL.k [(95,qQL js ms n m)]) 60 69 (ntmF T 69)).T.hint (cxF T (OrL.k [(95,qQL js ms n m)]) 60 69 (ntmF T 69)).me (zV (qK T 69 [0,1,0,1,1,1,1]))) τ)) (hM js ms n m i) =
 bif decide (i < (m:Int)) then (bif inB i m then mTr n (ms i.toNat) (G (hM js ms n m (vJJ .i64 (i + 1)))) (K .ret (rM js ms n m 0)) else none) else (K (.exit 2) (oM js ms n m)):=by kernel_rfl
theorem lpM (K:Cont) (js:Nat→J) (ms:Nat→Ms) (n m:Nat) (hm:m≤1000):∀ (k p q:Nat),p + k=m→k < q→LF 60 (cxF T (OrL.k [(95,qQL js ms n m)]) 60 69 (ntmF T 69)) (ckF T (OrL.k [(95,qQL js ms n m)]) 60) (qK T 69 [0,1,0,1,1,1,1]) ((cxF T (OrL.k [(95,qQL js ms n m)]) 60 69 (ntmF T 69)).T.hint (cxF T (OrL.k [(95,qQL js ms n m)]) 60 69 (ntmF T 69)).me (zV (qK T 69 [0,1,0,1,1,1,1]))) K q (hM js ms n m p)=bif mAll ms n k p then (K (.exit 2) (oM js ms n m)) else (K .ret (rM js ms n m 0))
 | 0,p,q + 1,hp,hq=>by
  refine (rdM (fun σ=>LF 60 (cxF T (OrL.k [(95,qQL js ms n m)]) 60 69 (ntmF T 69)) (ckF T (OrL.k [(95,qQL js ms n m)]) 60) (qK T 69 [0,1,0,1,1,1,1]) ((cxF T (OrL.k [(95,qQL js ms n m)]) 60 69 (ntmF T 69)).T.hint (cxF T (OrL.k [(95,qQL js ms n m)]) 60 69 (ntmF T 69)).me (zV (qK T 69 [0,1,0,1,1,1,1]))) K q σ) K js ms n m p).trans ?_;rw [vYH (show ¬ (p:Int) < (m:Int) by omega)];rfl
 | k + 1,p,q + 1,hp,hq=>by
  refine (rdM (fun σ=>LF 60 (cxF T (OrL.k [(95,qQL js ms n m)]) 60 69 (ntmF T 69)) (ckF T (OrL.k [(95,qQL js ms n m)]) 60) (qK T 69 [0,1,0,1,1,1,1]) ((cxF T (OrL.k [(95,qQL js ms n m)]) 60 69 (ntmF T 69)).T.hint (cxF T (OrL.k [(95,qQL js ms n m)]) 60 69 (ntmF T 69)).me (zV (qK T 69 [0,1,0,1,1,1,1]))) K q σ) K js ms n m p).trans ?_;rw [vJQ (show (p:Int) < (m:Int) by omega),kZ (show p < m by omega),qZQ (by omega),lpM K js ms n m hm k (p + 1) q (by omega) (by omega),toN,mTr_eq];by_cases hq:mokB n (ms p)=true
  ·simp only [mAll,hq,vYV,vZH]
  ·rw [Bool.not_eq_true] at hq;simp only [mAll,hq,vYV,vYG,Bool.false_and]
set_option maxRecDepth 100000 in
theorem pxQ (js:Nat→J) (ms:Nat→Ms) (n m:Nat):qKH T (OrL.k [(95,qQL js ms n m)]) (zW [([0,1,0,1,1],yW (hQ js ms n m 0) (fun K=>bif decide (10 < (n:Int)) then none else (bif decide (jE js n n 0=0) then (K (.exit 0) (oQ js ms n m)) else (K .ret (rQ js ms n m (jE js n n 0)))))),([0,1,0,1,1,1,1],yW (hM js ms n m 0) (fun K=>bif decide (32 < (m:Int)) then none else (bif mAll ms n m 0 then (K (.exit 2) (oM js ms n m)) else (K .ret (rM js ms n m 0)))))]) 60 69 [(.a [.lf n (fJ js),.lf m (fM ms)])] =
 bif decide ((n:Int) < 1) then some (.v (.n .i64 801),[]) else (bif decide (10 < (n:Int)) then some (.v (.n .i64 801),[]) else (bif gSt (hQ js ms n m 0) (hQ js ms n m 0) then (bif decide (10 < (n:Int)) then none else (bif decide (jE js n n 0=0) then (bif decide (32 < (m:Int)) then some (.v (.n .i64 808),[]) else (bif gSt (hM js ms n m 0) (hM js ms n m 0) then (bif decide (32 < (m:Int)) then none else (bif mAll ms n m 0 then some (.v (.n .i64 0),[]) else some (.v (.n .i64 808),[]))) else none)) else some (.v (.n .i64 (jE js n n 0)),[]))) else none)):=by kernel_rfl
theorem zVY (js:Nat→J) (ms:Nat→Ms) (n m:Nat):yZ Tryz.prog 69 [(.a [.lf n (fJ js),.lf m (fM ms)])] (.v (.n .i64 (rErr js ms n m))):=by
 refine yH (N:=60) (LO:=zW [([0,1,0,1,1],yW (hQ js ms n m 0) (fun K=>bif decide (10 < (n:Int)) then none else (bif decide (jE js n n 0=0) then (K (.exit 0) (oQ js ms n m)) else (K .ret (rQ js ms n m (jE js n n 0)))))),([0,1,0,1,1,1,1],yW (hM js ms n m 0) (fun K=>bif decide (32 < (m:Int)) then none else (bif mAll ms n m 0 then (K (.exit 2) (oM js ms n m)) else (K .ret (rM js ms n m 0)))))]) yY yQ (OrL.ok (l:=[(95,qQL js ms n m)]) ⟨ok_o_cjr js ms n m,trivial⟩) (fun p S hp => ?_) ?_
 ·refine kQ (L:=qK T 69) (l:=[([0,1,0,1,1],yW (hQ js ms n m 0) (fun K=>bif decide (10 < (n:Int)) then none else (bif decide (jE js n n 0=0) then (K (.exit 0) (oQ js ms n m)) else (K .ret (rQ js ms n m (jE js n n 0)))))),([0,1,0,1,1,1,1],yW (hM js ms n m 0) (fun K=>bif decide (32 < (m:Int)) then none else (bif mAll ms n m 0 then (K (.exit 2) (oM js ms n m)) else (K .ret (rM js ms n m 0)))))]) (show AllP _ [([0,1,0,1,1],yW (hQ js ms n m 0) (fun K=>bif decide (10 < (n:Int)) then none else (bif decide (jE js n n 0=0) then (K (.exit 0) (oQ js ms n m)) else (K .ret (rQ js ms n m (jE js n n 0)))))),([0,1,0,1,1,1,1],yW (hM js ms n m 0) (fun K=>bif decide (32 < (m:Int)) then none else (bif mAll ms n m 0 then (K (.exit 2) (oM js ms n m)) else (K .ret (rM js ms n m 0)))))] from ⟨kW fun K r hr => ?_,kW fun K r hr => ?_,trivial⟩) p S hp
  ·cases hq:decide (10 < (n:Int)) with
   | true=>rw [hq] at hr; cases hr
   | false =>
    rw [hq] at hr;have h10:=vJY hq;exact (lpQ K js ms n m (by omega) n 0 60 (by omega) (by omega)).trans hr
  ·cases hq:decide (32 < (m:Int)) with
   | true=>rw [hq] at hr; cases hr
   | false =>
    rw [hq] at hr;have h32:=vJY hq;exact (lpM K js ms n m (by omega) m 0 60 (by omega) (by omega)).trans hr
 ·refine (pxQ js ms n m).trans ?_;unfold rErr;rw [jG,jG,show decide ((n:Int) < 1)=decide ((n:Int)=0) from decide_eq_decide.2 (by omega)];by_cases h0:(n:Int)=0
  ·rw [vJQ h0]; rfl
  rw [vYH h0];by_cases h10:10 < (n:Int)
  ·rw [vJQ h10]; rfl
  rw [vYH h10];by_cases hj:jE js n n 0=0
  ·rw [vJQ hj];by_cases h32:32 < (m:Int)
   ·rw [vJQ h32]; rfl
   rw [vYH h32];cases mAll ms n m 0 <;> rfl
  ·rw [vYH hj]; rfl
end Go.Proofs.YtfcofnclgajfeaaGreat.Nc
namespace Go.Proofs.YtfcofnclgajfeaaGreat.Nx
open Go.Rx Rt Go.Sx Go.RowKit Od Oe Na Nb Nc
noncomputable def zXY:List PV→Option (Bool × Ret):=fun ps=>match ps with
 | [.a a',.a b']=>(ivD a').bind fun a=>(ivD b').bind fun b=>some (true,.v (.b (Iv.within a b)))
 | _=>none
theorem ok_iWithin:zY Tryz.prog 52 zXY:=by
 intro ps r h;unfold zXY at h;split at h
 ·simp only [vQQ,vQZ,vQY] at h;obtain ⟨a,ha,b,hb,hg,rfl⟩:=h;rw [uK ha];rw [uK hb];exact qJ (qU Tryz.func52 (by kernel_rfl) (by kernel_rfl)) rfl rfl (fun w=>iWithin _ _ _ _ w)
 ·cases h
noncomputable def L7:OrL:=(52,zXY) :: L6
theorem L7_ok:AllP (fun x:Nat × (List PV→Option (Bool × Ret))=>zY Tryz.prog x.1 x.2) L7:=⟨ok_iWithin,L6_ok⟩
noncomputable def o_iValid:List PV→Option (Bool × Ret):=fun ps=>match ps with
 | [.a a']=>(ivD a').bind fun a=>some (true,.v (.b (Iv.valid a)))
 | _=>none
theorem ok_iValid:zY Tryz.prog 113 o_iValid:=by
 intro ps r h;unfold o_iValid at h;split at h
 ·simp only [vQQ,vQZ,vQY] at h;obtain ⟨a,ha,hg,rfl⟩:=h;rw [uK ha];exact qJ (qU Tryz.func113 (by kernel_rfl) (by kernel_rfl)) rfl rfl (fun w=>iValid _ _ w)
 ·cases h
noncomputable def L8:OrL:=(113,o_iValid) :: L7
theorem L8_ok:AllP (fun x:Nat × (List PV→Option (Bool × Ret))=>zY Tryz.prog x.1 x.2) L8:=⟨ok_iValid,L7_ok⟩
noncomputable def zUF:List PV→Option (Bool × Ret):=fun ps=>match ps with
 | [.a a',.a b']=>(ivD a').bind fun a=>(ivD b').bind fun b=>some (true,.v (.b (Iv.within a b)))
 | _=>none
theorem ok_rWithin:zY Tryz.prog 98 zUF:=by
 intro ps r h;unfold zUF at h;split at h
 ·simp only [vQQ,vQZ,vQY] at h;obtain ⟨a,ha,b,hb,hg,rfl⟩:=h;rw [uK ha];rw [uK hb];exact qJ (qU Tryz.func98 (by kernel_rfl) (by kernel_rfl)) rfl rfl (fun w=>rWithin _ _ _ _ w)
 ·cases h
noncomputable def L9:OrL:=(98,zUF) :: L8
theorem L9_ok:AllP (fun x:Nat × (List PV→Option (Bool × Ret))=>zY Tryz.prog x.1 x.2) L9:=⟨ok_rWithin,L8_ok⟩
noncomputable def o_rValid:List PV→Option (Bool × Ret):=fun ps=>match ps with
 | [.a a']=>(ivD a').bind fun a=>some (true,.v (.b (Iv.valid a)))
 | _=>none
theorem ok_rValid:zY Tryz.prog 124 o_rValid:=by
 intro ps r h;unfold o_rValid at h;split at h
 ·simp only [vQQ,vQZ,vQY] at h;obtain ⟨a,ha,hg,rfl⟩:=h;rw [uK ha];exact qJ (qU Tryz.func124 (by kernel_rfl) (by kernel_rfl)) rfl rfl (fun w=>yJI _ _ w)
 ·cases h
noncomputable def L10:OrL:=(124,o_rValid) :: L9
theorem L10_ok:AllP (fun x:Nat × (List PV→Option (Bool × Ret))=>zY Tryz.prog x.1 x.2) L10:=⟨ok_rValid,L9_ok⟩
def fB (bx:Nat→Iv):Nat→List PV:=fun v=>[.n .i64 (bx v).lo,.n .i64 (bx v).hi]
set_option maxRecDepth 100000 in
theorem tr_cIn (nm:ByteArray) (kind par ox oy oz jlo jhi we spd acc tq a0 a1:Int):runK T (OrL.k L10) 60 51 [.a [.s nm,.n .i64 kind,.n .i64 par,.n .i64 ox,.n .i64 oy,.n .i64 oz,.n .i64 jlo,.n .i64 jhi,.n .i64 we,.n .i64 spd,.n .i64 acc,.n .i64 tq],.a [.n .i64 a0,.n .i64 a1]] =
 some (.v (.b (Iv.within ⟨a0,a1⟩ ⟨jlo,jhi⟩)),[]):=by
 refine (by kernel_rfl:_=bif Iv.within ⟨a0,a1⟩ ⟨jlo,jhi⟩ then some (.v (.b true),[]) else some (.v (.b false),[])).trans ?_;cases Iv.within ⟨a0,a1⟩ ⟨jlo,jhi⟩ <;> rfl
noncomputable def yHK:List PV→Option (Bool × Ret):=fun ps=>match ps with
 | [.a [.s nm,.n .i64 kind,.n .i64 par,.n .i64 ox,.n .i64 oy,.n .i64 oz,.n .i64 jlo,.n .i64 jhi,.n .i64 we,.n .i64 spd,.n .i64 acc,.n .i64 tq],.a a']=>(ivD a').bind fun a=>some (true,.v (.b (Iv.within a ⟨jlo,jhi⟩)))
 | _=>none
theorem ok_cIn:zY Tryz.prog 51 yHK:=by
 intro ps r h;unfold yHK at h;split at h
 ·simp only [vQQ,vQZ,vQY] at h;obtain ⟨a,ha,hg,rfl⟩:=h;rw [uK ha];exact qX (N:=60) yY yQ (OrL.ok L10_ok) (tr_cIn _ _ _ _ _ _ _ _ _ _ _ _ _ _)
 ·cases h
noncomputable def L11:OrL:=(51,yHK) :: L10
theorem yKD:AllP (fun x:Nat × (List PV→Option (Bool × Ret))=>zY Tryz.prog x.1 x.2) L11:=⟨ok_cIn,L10_ok⟩
def hE (js:Nat→J) (bx:Nat→Iv) (n k:Nat) (i:Int):St:=⟨[(1,.v (.lf k (fB bx))),(2,.v (.f 51 [] [])),(14,.v (.lf n (fJ js))),(15,.v (.n .i64 (n:Int))),(16,.v (.n .i64 i))],[]⟩
def insB (js:Nat→J) (bx:Nat→Iv) (n k:Nat):Bool:=decide ((n:Int)=(k:Int)) && (allN (fun i:Nat=>Iv.within (bx i) ⟨(js i).lo,(js i).hi⟩) n 0)
theorem qGC {js:Nat→J} {ms:Nat→Ms} {n m:Nat} (h:rErr js ms n m=0):1≤n∧n≤10:=by
 unfold rErr at h;by_cases h0:(n:Int)=0
 ·rw [vJQ h0] at h; cases h
 by_cases h1:10 < (n:Int)
 ·rw [vYH h0,vJQ h1] at h; cases h
 omega
def pIn (js:Nat→J) (ms:Nat→Ms) (bx:Nat→Iv) (n m k:Nat):Bool:=decide (rErr js ms n m=0) && insB js bx n k
def hA (bx:Nat→Iv) (k:Nat) (i:Int):St:=⟨[(0,.v (.lf k (fB bx))),(3,.v (.n .i64 i))],[]⟩
set_option maxRecDepth 100000 in
theorem rdA (G:St→Option (Ret × Mem)) (K:Cont) (bx:Nat→Iv) (k:Nat) (i:Int):qWL 60 (cxF T (OrL.k L11) 60 97 (ntmF T 97)) (ckF T (OrL.k L11) 60) (qK T 97 [0,1,0,1]) ((cxF T (OrL.k L11) 60 97 (ntmF T 97)).T.hint (cxF T (OrL.k L11) 60 97 (ntmF T 97)).me (zV (qK T 97 [0,1,0,1]))) K G (hA bx k i) =
 (bif (decide (i < (k:Int))) then (bif (inB i k) then (bif Iv.valid (bx (i).toNat) then (G (hA bx k (vJJ .i64 (i + 1))))
 else (K .ret ⟨[(2,.v (.b false))],[]⟩))
 else none)
 else (K (.exit 0) ⟨[],[]⟩)):=by kernel_rfl
theorem lpA (K:Cont) (bx:Nat→Iv) (k:Nat) (_:k≤50):LF 60 (cxF T (OrL.k L11) 60 97 (ntmF T 97)) (ckF T (OrL.k L11) 60) (qK T 97 [0,1,0,1]) ((cxF T (OrL.k L11) 60 97 (ntmF T 97)).T.hint (cxF T (OrL.k L11) 60 97 (ntmF T 97)).me (zV (qK T 97 [0,1,0,1]))) K 60 (hA bx k 0)=bif (allN (fun i:Nat=>Iv.valid (bx i)) k 0) then (K (.exit 0) ⟨[],[]⟩) else (K .ret ⟨[(2,.v (.b false))],[]⟩):=by
 refine (qWF (c:=k) (hA bx k) (fun i:Nat=>Iv.valid (bx i)) (K (.exit 0) ⟨[],[]⟩) (fun i:Nat=>(K .ret ⟨[(2,.v (.b false))],[]⟩)) (fun G i hi => ?_) (fun G => ?_) k 0 60 (by omega) (by omega)).trans (qZF _ _ _ _ _)
 ·refine (rdA G K bx k i).trans ?_;rw [vJQ (show (i:Int) < (k:Int) by omega),qZQ (by omega),kZ (show i < k by omega),toN];cases Iv.valid (bx i) <;> rfl
 ·refine (rdA G K bx k k).trans ?_;rw [vYH (show ¬ (k:Int) < (k:Int) by omega)];rfl
def allV (bx:Nat→Iv) (k:Nat):Bool:=(allN (fun i:Nat=>Iv.valid (bx i)) k 0)
set_option maxRecDepth 100000 in
theorem pxallv (bx:Nat→Iv) (k:Nat):qKH T (OrL.k L11) (zW [([0,1,0,1],yW (hA bx k 0) (fun K=>(bif (decide (k≤50)) then (bif (allN (fun i:Nat=>Iv.valid (bx i)) k 0) then (K (.exit 0) ⟨[],[]⟩) else (K .ret ⟨[(2,.v (.b false))],[]⟩)) else none)))]) 60 97 [.lf k (fB bx)] =
 (bif (gSt (hA bx k 0) (hA bx k 0)) then (bif (decide (k≤50)) then (bif (allN (fun i:Nat=>Iv.valid (bx i)) k 0) then some (.v (.b true),[])
 else some (.v (.b false),[]))
 else none)
 else none):=by kernel_rfl
theorem snd_allv (bx:Nat→Iv) (k:Nat) (hk:k≤50):yZ Tryz.prog 97 [.lf k (fB bx)] (.v (.b (allV bx k))):=by
 refine yH (N:=60) (LO:=zW [([0,1,0,1],yW (hA bx k 0) (fun K=>(bif (decide (k≤50)) then (bif (allN (fun i:Nat=>Iv.valid (bx i)) k 0) then (K (.exit 0) ⟨[],[]⟩) else (K .ret ⟨[(2,.v (.b false))],[]⟩)) else none)))]) yY yQ (OrL.ok (l:=L11) yKD) (fun p S hp => ?_) ?_
 ·refine kQ (L:=qK T 97) (l:=[([0,1,0,1],yW (hA bx k 0) (fun K=>(bif (decide (k≤50)) then (bif (allN (fun i:Nat=>Iv.valid (bx i)) k 0) then (K (.exit 0) ⟨[],[]⟩) else (K .ret ⟨[(2,.v (.b false))],[]⟩)) else none)))]) (show AllP _ [([0,1,0,1],yW (hA bx k 0) (fun K=>(bif (decide (k≤50)) then (bif (allN (fun i:Nat=>Iv.valid (bx i)) k 0) then (K (.exit 0) ⟨[],[]⟩) else (K .ret ⟨[(2,.v (.b false))],[]⟩)) else none)))] from ⟨kW fun K r hr => ?_,trivial⟩) p S hp
  ·obtain ⟨hg,hr⟩:=qQ hr;have hk:=vJZ hg;exact (lpA K bx k hk).trans hr
 ·refine (pxallv bx k).trans ?_;unfold allV;rw [jG,vJQ hk];cases (allN (fun i:Nat=>Iv.valid (bx i)) k 0) <;> rfl
def limB (js:Nat→J):Nat→Iv:=fun i=>⟨(js i).lo,(js i).hi⟩
def hL (js:Nat→J) (ms:Nat→Ms) (n m:Nat) (i:Int) (rows:List (List PV)):St:=⟨[(1,.p 1 0),(3,.o 30),(4,.v (.n .i64 i))],[(1,.blk [.v (.lf n (fJ js)),.v (.lf m (fM ms))]),(30,.reg 50 2 (.l rows))]⟩
set_option maxRecDepth 100000 in
theorem rdL (G:St→Option (Ret × Mem)) (K:Cont) (js:Nat→J) (ms:Nat→Ms) (n m:Nat) (i:Int) (rows:List (List PV)):qWL 60 (cxF T (OrL.k [(69,o_cr [.a [.lf n (fJ js),.lf m (fM ms)]] (.v (.n .i64 (rErr js ms n m))))]) 60 71 (ntmF T 71)) (ckF T (OrL.k [(69,o_cr [.a [.lf n (fJ js),.lf m (fM ms)]] (.v (.n .i64 (rErr js ms n m))))]) 60) (qK T 71 [0,1,0,1,1,1]) ((cxF T (OrL.k [(69,o_cr [.a [.lf n (fJ js),.lf m (fM ms)]] (.v (.n .i64 (rErr js ms n m))))]) 60 71 (ntmF T 71)).T.hint (cxF T (OrL.k [(69,o_cr [.a [.lf n (fJ js),.lf m (fM ms)]] (.v (.n .i64 (rErr js ms n m))))]) 60 71 (ntmF T 71)).me (zV (qK T 71 [0,1,0,1,1,1]))) K G (hL js ms n m i rows) =
 (bif (decide (i < (n:Int))) then (bif (inB i n) then (bif (inB i n) then (bif (decide (rows.length + 1≤1000000)) then (G (hL js ms n m (vJJ .i64 (i + 1)) ((rows ++ [[.n .i64 (js (i).toNat).lo,.n .i64 (js (i).toNat).hi]]))))
 else none)
 else none)
 else none)
 else (K (.exit 0) ⟨[(3,.o 30)],[(30,.reg 50 2 (.l rows))]⟩)):=by kernel_rfl
theorem lpL (K:Cont) (js:Nat→J) (ms:Nat→Ms) (n m:Nat) (_:n≤50):LF 60 (cxF T (OrL.k [(69,o_cr [.a [.lf n (fJ js),.lf m (fM ms)]] (.v (.n .i64 (rErr js ms n m))))]) 60 71 (ntmF T 71)) (ckF T (OrL.k [(69,o_cr [.a [.lf n (fJ js),.lf m (fM ms)]] (.v (.n .i64 (rErr js ms n m))))]) 60) (qK T 71 [0,1,0,1,1,1]) ((cxF T (OrL.k [(69,o_cr [.a [.lf n (fJ js),.lf m (fM ms)]] (.v (.n .i64 (rErr js ms n m))))]) 60 71 (ntmF T 71)).T.hint (cxF T (OrL.k [(69,o_cr [.a [.lf n (fJ js),.lf m (fM ms)]] (.v (.n .i64 (rErr js ms n m))))]) 60 71 (ntmF T 71)).me (zV (qK T 71 [0,1,0,1,1,1]))) K 60 (hL js ms n m 0 [])=(K (.exit 0) ⟨[(3,.o 30)],[(30,.reg 50 2 (.l ((List.range n).map (fun i:Nat=>[.n .i64 (js i).lo,.n .i64 (js i).hi]))))]⟩):=by
 refine (yXF (c:=n) (hL js ms n m) (fun i:Nat=>[.n .i64 (js i).lo,.n .i64 (js i).hi]) (fun rows=>(K (.exit 0) ⟨[(3,.o 30)],[(30,.reg 50 2 (.l rows))]⟩)) (fun G i rows hi hl => ?_) (fun G rows hl => ?_) n 0 60 [] rfl (by omega) (by omega)).trans (congrArg (fun rows=>(K (.exit 0) ⟨[(3,.o 30)],[(30,.reg 50 2 (.l rows))]⟩)) (rng0 n _))
 ·refine (rdL G K js ms n m i rows).trans ?_;rw [vJQ (show (i:Int) < (n:Int) by omega),qZQ (by omega),kZ (show i < n by omega),vJQ (show rows.length + 1≤1000000 by omega),toN];rfl
 ·refine (rdL G K js ms n m n rows).trans ?_;rw [vYH (show ¬ (n:Int) < (n:Int) by omega)];rfl
set_option maxRecDepth 100000 in
theorem pxlimO (js:Nat→J) (ms:Nat→Ms) (n m:Nat):qKH T (OrL.k [(69,o_cr [.a [.lf n (fJ js),.lf m (fM ms)]] (.v (.n .i64 (rErr js ms n m))))]) (zW [([0,1,0,1,1,1],yW (hL js ms n m 0 []) (fun K=>(bif (decide (n≤50)) then (K (.exit 0) ⟨[(3,.o 30)],[(30,.reg 50 2 (.l ((List.range n).map (fun i:Nat=>[.n .i64 (js i).lo,.n .i64 (js i).hi]))))]⟩) else none)))]) 60 71 [.a [.lf n (fJ js),.lf m (fM ms)]] =
 (bif (g1 [.a [.lf n (fJ js),.lf m (fM ms)]]) then (bif (!decide ((rErr js ms n m)=0)) then some (.v (.l []),[])
 else (bif (gSt (hL js ms n m 0 []) (hL js ms n m 0 [])) then (bif (decide (n≤50)) then some (.ow 50 2 (.l ((List.range n).map (fun i:Nat=>[.n .i64 (js i).lo,.n .i64 (js i).hi]))),[])
 else none)
 else none))
 else none):=by kernel_rfl
theorem snd_limO (js:Nat→J) (ms:Nat→Ms) (n m:Nat):yZ Tryz.prog 71 [.a [.lf n (fJ js),.lf m (fM ms)]] (bif decide (rErr js ms n m=0) then .ow 50 2 (.l ((List.range n).map (fun i:Nat=>[.n .i64 (js i).lo,.n .i64 (js i).hi]))) else .v (.l [])):=by
 refine yH (N:=60) (LO:=zW [([0,1,0,1,1,1],yW (hL js ms n m 0 []) (fun K=>(bif (decide (n≤50)) then (K (.exit 0) ⟨[(3,.o 30)],[(30,.reg 50 2 (.l ((List.range n).map (fun i:Nat=>[.n .i64 (js i).lo,.n .i64 (js i).hi]))))]⟩) else none)))]) yY yQ (OrL.ok (l:=[(69,o_cr [.a [.lf n (fJ js),.lf m (fM ms)]] (.v (.n .i64 (rErr js ms n m))))]) ⟨qJZ (zVY js ms n m),trivial⟩) (fun p S hp => ?_) ?_
 ·refine kQ (L:=qK T 71) (l:=[([0,1,0,1,1,1],yW (hL js ms n m 0 []) (fun K=>(bif (decide (n≤50)) then (K (.exit 0) ⟨[(3,.o 30)],[(30,.reg 50 2 (.l ((List.range n).map (fun i:Nat=>[.n .i64 (js i).lo,.n .i64 (js i).hi]))))]⟩) else none)))]) (show AllP _ [([0,1,0,1,1,1],yW (hL js ms n m 0 []) (fun K=>(bif (decide (n≤50)) then (K (.exit 0) ⟨[(3,.o 30)],[(30,.reg 50 2 (.l ((List.range n).map (fun i:Nat=>[.n .i64 (js i).lo,.n .i64 (js i).hi]))))]⟩) else none)))] from ⟨kW fun K r hr => ?_,trivial⟩) p S hp
  ·obtain ⟨hg,hr⟩:=qQ hr;have hn:=vJZ hg;exact (lpL K js ms n m hn).trans hr
 ·refine (pxlimO js ms n m).trans ?_;rw [g1_t,jG];by_cases h:rErr js ms n m=0
  ·have:=qGC h
   rw [vJQ h,vJQ (show n≤50 by omega)];rfl
  ·rw [vYH h];rfl
theorem snd_lim (js:Nat→J) (ms:Nat→Ms) (n m:Nat):yZ Tryz.prog 71 [.a [.lf n (fJ js),.lf m (fM ms)]] (.v (.lf (bif decide (rErr js ms n m=0) then n else 0) (fB (limB js)))):=by
 have h0:=snd_limO js ms n m;by_cases h:rErr js ms n m=0
 ·rw [vJQ h] at h0 ⊢;exact qYD (Same.lf rfl) (zZB h0)
 ·rw [vYH h] at h0 ⊢;exact qYD (Same.lf rfl) h0
def unFB (f:Nat→List PV):Nat→Iv:=fun i=>match f i with
 | [.n _ lo,.n _ hi]=>⟨lo,hi⟩
 | _=>⟨0,0⟩
theorem yZW (bx:Nat→Iv):unFB (fB bx)=bx:=rfl
noncomputable def gFB (f:Nat→List PV):Bool:=@decide (f=fB (unFB f)) (vYJ _)
theorem yWK (bx:Nat→Iv):gFB (fB bx)=true:=@vJQ _ (vYJ _) rfl
noncomputable def o_av:List PV→Option (Bool × Ret):=fun ps=>match ps with
 | [.lf k f]=>some (decide (k≤50) && gFB f,.v (.b (allV (unFB f) k)))
 | _=>none
theorem ok_av:zY Tryz.prog 97 o_av:=by
 intro ps r hh;unfold o_av at hh;split at hh
 ·simp only [vQZ,vQY,vQJ] at hh;obtain ⟨⟨hk,hf⟩,rfl⟩:=hh;rename_i k f;have e:f=fB (unFB f):=@vJZ _ (vYJ _) hf
  have:=snd_allv (unFB f) k (vJZ hk)
  rw [← e] at this;exact this
 ·cases hh
def hW (bx bz:Nat→Iv) (k l:Nat) (i:Int):St:=⟨[(0,.v (.lf k (fB bx))),(1,.v (.lf l (fB bz))),(5,.v (.n .i64 i))],[]⟩
set_option maxRecDepth 100000 in
theorem rdW (G:St→Option (Ret × Mem)) (K:Cont) (bx bz:Nat→Iv) (k l:Nat) (i:Int):qWL 60 (cxF T (OrL.k ((97,o_av) :: L11)) 60 70 (ntmF T 70)) (ckF T (OrL.k ((97,o_av) :: L11)) 60) (qK T 70 [0,1,0,1,1]) ((cxF T (OrL.k ((97,o_av) :: L11)) 60 70 (ntmF T 70)).T.hint (cxF T (OrL.k ((97,o_av) :: L11)) 60 70 (ntmF T 70)).me (zV (qK T 70 [0,1,0,1,1]))) K G (hW bx bz k l i) =
 (bif (decide (i < (k:Int))) then (bif (inB i k) then (bif (inB i l) then (bif Iv.within (bx (i).toNat) (bz (i).toNat) then (G (hW bx bz k l (vJJ .i64 (i + 1))))
 else (K .ret ⟨[(4,.v (.b false))],[]⟩))
 else none)
 else none)
 else (K (.exit 0) ⟨[],[]⟩)):=by kernel_rfl
theorem lpW (K:Cont) (bx bz:Nat→Iv) (k l:Nat) (_:k≤50) (_:k=l):LF 60 (cxF T (OrL.k ((97,o_av) :: L11)) 60 70 (ntmF T 70)) (ckF T (OrL.k ((97,o_av) :: L11)) 60) (qK T 70 [0,1,0,1,1]) ((cxF T (OrL.k ((97,o_av) :: L11)) 60 70 (ntmF T 70)).T.hint (cxF T (OrL.k ((97,o_av) :: L11)) 60 70 (ntmF T 70)).me (zV (qK T 70 [0,1,0,1,1]))) K 60 (hW bx bz k l 0)=bif (allN (fun i:Nat=>Iv.within (bx i) (bz i)) k 0) then (K (.exit 0) ⟨[],[]⟩) else (K .ret ⟨[(4,.v (.b false))],[]⟩):=by
 refine (qWF (c:=k) (hW bx bz k l) (fun i:Nat=>Iv.within (bx i) (bz i)) (K (.exit 0) ⟨[],[]⟩) (fun i:Nat=>(K .ret ⟨[(4,.v (.b false))],[]⟩)) (fun G i hi => ?_) (fun G => ?_) k 0 60 (by omega) (by omega)).trans (qZF _ _ _ _ _)
 ·refine (rdW G K bx bz k l i).trans ?_;rw [vJQ (show (i:Int) < (k:Int) by omega),qZQ (by omega),kZ (show i < k by omega),kZ (show i < l by omega),toN];cases Iv.within (bx i) (bz i) <;> rfl
 ·refine (rdW G K bx bz k l k).trans ?_;rw [vYH (show ¬ (k:Int) < (k:Int) by omega)];rfl
def wIn (bx bz:Nat→Iv) (k l:Nat):Bool:=allV bx k && (allV bz l && (decide ((k:Int)=(l:Int)) && (allN (fun i:Nat=>Iv.within (bx i) (bz i)) k 0)))
set_option maxRecDepth 100000 in
theorem pxwIn (bx bz:Nat→Iv) (k l:Nat):qKH T (OrL.k ((97,o_av) :: L11)) (zW [([0,1,0,1,1],yW (hW bx bz k l 0) (fun K=>(bif (decide ((k:Int)=(l:Int)) && decide (k≤50)) then (bif (allN (fun i:Nat=>Iv.within (bx i) (bz i)) k 0) then (K (.exit 0) ⟨[],[]⟩) else (K .ret ⟨[(4,.v (.b false))],[]⟩)) else none)))]) 60 70 [.lf k (fB bx),.lf l (fB bz)] =
 (bif (decide (k≤50) && gFB (fB bx)) then (bif (allV (unFB (fB bx)) k) then (bif (decide (l≤50) && gFB (fB bz)) then (bif (allV (unFB (fB bz)) l) then (bif (!decide ((k:Int)=(l:Int))) then some (.v (.b false),[])
 else (bif (gSt (hW bx bz k l 0) (hW bx bz k l 0)) then (bif (decide ((k:Int)=(l:Int)) && decide (k≤50)) then (bif (allN (fun i:Nat=>Iv.within (bx i) (bz i)) k 0) then some (.v (.b true),[])
 else some (.v (.b false),[]))
 else none)
 else none))
 else some (.v (.b false),[]))
 else none)
 else some (.v (.b false),[]))
 else none):=by kernel_rfl
theorem snd_wIn (bx bz:Nat→Iv) (k l:Nat) (hk:k≤50) (hl:l≤50):yZ Tryz.prog 70 [.lf k (fB bx),.lf l (fB bz)] (.v (.b (wIn bx bz k l))):=by
 refine yH (N:=60) (LO:=zW [([0,1,0,1,1],yW (hW bx bz k l 0) (fun K=>(bif (decide ((k:Int)=(l:Int)) && decide (k≤50)) then (bif (allN (fun i:Nat=>Iv.within (bx i) (bz i)) k 0) then (K (.exit 0) ⟨[],[]⟩) else (K .ret ⟨[(4,.v (.b false))],[]⟩)) else none)))]) yY yQ (OrL.ok (l:=((97,o_av) :: L11)) ⟨ok_av,yKD⟩) (fun p S hp => ?_) ?_
 ·refine kQ (L:=qK T 70) (l:=[([0,1,0,1,1],yW (hW bx bz k l 0) (fun K=>(bif (decide ((k:Int)=(l:Int)) && decide (k≤50)) then (bif (allN (fun i:Nat=>Iv.within (bx i) (bz i)) k 0) then (K (.exit 0) ⟨[],[]⟩) else (K .ret ⟨[(4,.v (.b false))],[]⟩)) else none)))]) (show AllP _ [([0,1,0,1,1],yW (hW bx bz k l 0) (fun K=>(bif (decide ((k:Int)=(l:Int)) && decide (k≤50)) then (bif (allN (fun i:Nat=>Iv.within (bx i) (bz i)) k 0) then (K (.exit 0) ⟨[],[]⟩) else (K .ret ⟨[(4,.v (.b false))],[]⟩)) else none)))] from ⟨kW fun K r hr => ?_,trivial⟩) p S hp
  ·obtain ⟨hg,hr⟩:=qQ hr;rw [vQJ] at hg;have hk:=vJZ hg.2;have hl:k=l:=by have:=vJZ hg.1; omega
   exact (lpW K bx bz k l hk hl).trans hr
 ·refine (pxwIn bx bz k l).trans ?_;unfold wIn;rw [jG,vJQ hk,vJQ hl,yWK,yWK,yZW,yZW];cases allV bx k <;> cases allV bz l <;> cases decide ((k:Int)=(l:Int)) <;> cases (allN (fun i:Nat=>Iv.within (bx i) (bz i)) k 0) <;> rfl
def rIn (js:Nat→J) (ms:Nat→Ms) (bx:Nat→Iv) (n m k:Nat):Bool:=wIn bx (limB js) k (bif decide (rErr js ms n m=0) then n else 0) && decide (0 < (k:Int))
theorem snd_rIn (js:Nat→J) (ms:Nat→Ms) (bx:Nat→Iv) (n m k:Nat) (hk:k≤50):yZ Tryz.prog 46 [.a [.lf n (fJ js),.lf m (fM ms)],.lf k (fB bx)] (.v (.b (rIn js ms bx n m k))):=by
 have hl:(bif decide (rErr js ms n m=0) then n else 0)≤50:=by
  by_cases h:rErr js ms n m=0
  ·have:=qGC h
   rw [vJQ h,vYV];omega
  ·rw [vYH h,vYG];omega
 refine qX (N:=60) yY yQ (OrL.ok (l:=[(71,o_cr [.a [.lf n (fJ js),.lf m (fM ms)]] (.v (.lf (bif decide (rErr js ms n m=0) then n else 0) (fB (limB js))))),(70,o_cr [.lf k (fB bx),.lf (bif decide (rErr js ms n m=0) then n else 0) (fB (limB js))] (.v (.b (wIn bx (limB js) k (bif decide (rErr js ms n m=0) then n else 0)))))]) ⟨qJZ (snd_lim js ms n m),qJZ (snd_wIn bx (limB js) k (bif decide (rErr js ms n m=0) then n else 0) hk hl),trivial⟩) ?_;refine (by kernel_rfl:_=bif (g1 [.a [.lf n (fJ js),.lf m (fM ms)]]) then (bif (g1 [.lf k (fB bx),.lf (bif decide (rErr js ms n m=0) then n else 0) (fB (limB js))]) then (bif (wIn bx (limB js) k (bif decide (rErr js ms n m=0) then n else 0)) then (bif (decide (0 < (k:Int))) then some (.v (.b true),[])
 else some (.v (.b false),[]))
 else some (.v (.b false),[]))
 else none)
 else none).trans ?_
 unfold rIn;rw [g1_t,g1_t];cases wIn bx (limB js) k (bif decide (rErr js ms n m=0) then n else 0) <;> cases decide (0 < (k:Int)) <;> rfl
theorem qVK {a b:Iv} (h:Iv.within a b=true):Iv.valid a=true∧Iv.valid b=true:=by
 unfold Iv.within at h;simp only [vQJ] at h;exact ⟨h.1.1.1,h.1.1.2⟩
theorem in_eq (js:Nat→J) (ms:Nat→Ms) (bx:Nat→Iv) (n m k:Nat):rIn js ms bx n m k=pIn js ms bx n m k:=by
 unfold rIn pIn;by_cases h:rErr js ms n m=0
 ·have hn:=qGC h;rw [vJQ h,vYV,vZH];unfold wIn insB;by_cases e:n=k
  ·subst e;rw [vJQ (show (n:Int)=n from rfl),vJQ (show 0 < (n:Int) by omega),Bool.and_true,vZH];cases ha:allN (fun i:Nat=>Iv.within (bx i) ⟨(js i).lo,(js i).hi⟩) n 0 with
   | true =>
    have h1:allV bx n=true:=allN_iff.2 fun j h1 h2=>(qVK (allN_iff.1 ha j h1 h2)).1
    have h2:allV (limB js) n=true:=allN_iff.2 fun j h1 h2=>(qVK (allN_iff.1 ha j h1 h2)).2
    rw [h1,h2];exact ha
   | false =>
    have ha':allN (fun i:Nat=>Iv.within (bx i) (limB js i)) n 0=false:=ha;rw [ha'];simp only [Bool.and_false]
  ·rw [vYH (show ¬ (n:Int)=(k:Int) by omega),vYH (show ¬ (k:Int)=(n:Int) by omega)];simp only [Bool.and_false,Bool.false_and]
 ·rw [vYH h,vYG,Bool.false_and];unfold wIn;by_cases e:k=0
  ·rw [vYH (show ¬ 0 < (k:Int) by omega),Bool.and_false]
  ·rw [vYH (show ¬ (k:Int)=((0:Nat):Int) by omega)];simp only [Bool.and_false,Bool.false_and]
theorem pIn_n {js:Nat→J} {ms:Nat→Ms} {bx:Nat→Iv} {n m k:Nat} (h:pIn js ms bx n m k=true):rErr js ms n m=0∧n=k∧∀ i,i < n→Iv.valid (bx i)=true:=by
 unfold pIn insB at h;simp only [vQJ,decide_eq_true_eq] at h;exact ⟨h.1,by omega,fun i hi=>(qVK (allN_iff.1 h.2.2 i (Nat.zero_le _) (by omega))).1⟩
def isB (bx:Nat→Iv) (n k:Nat):Bool:=decide ((k:Int)=(n:Int)) && allV bx k
theorem snd_isR (js:Nat→J) (ms:Nat→Ms) (bx:Nat→Iv) (n m k:Nat) (hk:k≤50):yZ Tryz.prog 99 [.a [.lf n (fJ js),.lf m (fM ms)],.lf k (fB bx)] (.v (.b (isB bx n k))):=by
 refine qX (N:=60) yY yQ (OrL.ok (l:=[(97,o_av)]) ⟨ok_av,trivial⟩) ?_;refine (by kernel_rfl:_=bif (decide ((k:Int)=(n:Int))) then (bif (decide (k≤50) && gFB (fB bx)) then (bif (allV (unFB (fB bx)) k) then some (.v (.b true),[])
 else some (.v (.b false),[]))
 else none)
 else some (.v (.b false),[])).trans ?_
 unfold isB;rw [vJQ hk,yWK,yZW];cases decide ((k:Int)=(n:Int)) <;> cases allV bx k <;> rfl
set_option maxRecDepth 100000 in
theorem tr_cNv (a0 a1:Int):runK T (OrL.k L11) 60 115 [.a [.n .i64 a0,.n .i64 a1]] =
 some (.v (.b (!Iv.valid ⟨a0,a1⟩)),[]):=by
 refine (by kernel_rfl:_=bif Iv.valid ⟨a0,a1⟩ then some (.v (.b false),[]) else some (.v (.b true),[])).trans ?_;cases Iv.valid ⟨a0,a1⟩ <;> rfl
noncomputable def yHJ:List PV→Option (Bool × Ret):=fun ps=>match ps with
 | [.a a']=>(ivD a').bind fun a=>some (true,.v (.b (!Iv.valid a)))
 | _=>none
theorem ok_cNv:zY Tryz.prog 115 yHJ:=by
 intro ps r h;unfold yHJ at h;split at h
 ·simp only [vQQ,vQZ,vQY] at h;obtain ⟨a,ha,hg,rfl⟩:=h;rw [uK ha];exact qX (N:=60) yY yQ (OrL.ok yKD) (tr_cNv _ _)
 ·cases h
noncomputable def L12:OrL:=(115,yHJ) :: L11
theorem L12_ok:AllP (fun x:Nat × (List PV→Option (Bool × Ret))=>zY Tryz.prog x.1 x.2) L12:=⟨ok_cNv,yKD⟩
def hI (bx:Nat→Iv) (k:Nat) (i:Int):St:=⟨[(0,.v (.lf k (fB bx))),(1,.v (.f 115 [] [])),(7,.v (.n .i64 (k:Int))),(8,.v (.n .i64 i))],[]⟩
set_option maxRecDepth 100000 in
theorem rdI (G:St→Option (Ret × Mem)) (K:Cont) (bx:Nat→Iv) (k:Nat) (i:Int):qWL 60 (cxF T (OrL.k L12) 60 133 (ntmF T 133)) (ckF T (OrL.k L12) 60) (qK T 133 [0,1,0,1]) ((cxF T (OrL.k L12) 60 133 (ntmF T 133)).T.hint (cxF T (OrL.k L12) 60 133 (ntmF T 133)).me (zV (qK T 133 [0,1,0,1]))) K G (hI bx k i) =
 (bif (decide (i < (k:Int))) then (bif (inB i k) then (bif !Iv.valid (bx (i).toNat) then (K .ret ⟨[(4,.v (.n .i64 i))],[]⟩)
 else (G (hI bx k (vJJ .i64 (i + 1)))))
 else none)
 else (K (.exit 0) ⟨[],[]⟩)):=by kernel_rfl
theorem lpI (K:Cont) (bx:Nat→Iv) (k:Nat) (_:k≤50):LF 60 (cxF T (OrL.k L12) 60 133 (ntmF T 133)) (ckF T (OrL.k L12) 60) (qK T 133 [0,1,0,1]) ((cxF T (OrL.k L12) 60 133 (ntmF T 133)).T.hint (cxF T (OrL.k L12) 60 133 (ntmF T 133)).me (zV (qK T 133 [0,1,0,1]))) K 60 (hI bx k 0)=bif (allN (fun i:Nat=>Iv.valid (bx i)) k 0) then (K (.exit 0) ⟨[],[]⟩) else (K .ret ⟨[(4,.v (.n .i64 ((Rx.firstK (fun i:Nat=>Iv.valid (bx i)) k 0:Nat):Int)))],[]⟩):=by
 refine (qWF (c:=k) (hI bx k) (fun i:Nat=>Iv.valid (bx i)) (K (.exit 0) ⟨[],[]⟩) (fun i:Nat=>(K .ret ⟨[(4,.v (.n .i64 (i:Int)))],[]⟩)) (fun G i hi => ?_) (fun G => ?_) k 0 60 (by omega) (by omega)).trans (qJL _ _ _ _ _)
 ·refine (rdI G K bx k i).trans ?_;rw [vJQ (show (i:Int) < (k:Int) by omega),qZQ (by omega),kZ (show i < k by omega),toN];cases Iv.valid (bx i) <;> rfl
 ·refine (rdI G K bx k k).trans ?_;rw [vYH (show ¬ (k:Int) < (k:Int) by omega)];rfl
set_option maxRecDepth 100000 in
theorem pxidx (bx:Nat→Iv) (k:Nat):qKH T (OrL.k L12) (zW [([0,1,0,1],yW (hI bx k 0) (fun K=>(bif (decide (k≤50)) then (bif (allN (fun i:Nat=>Iv.valid (bx i)) k 0) then (K (.exit 0) ⟨[],[]⟩) else (K .ret ⟨[(4,.v (.n .i64 ((Rx.firstK (fun i:Nat=>Iv.valid (bx i)) k 0:Nat):Int)))],[]⟩)) else none)))]) 60 133 [.lf k (fB bx),.f 115 [] []] =
 (bif (gSt (hI bx k 0) (hI bx k 0)) then (bif (decide (k≤50)) then (bif (allN (fun i:Nat=>Iv.valid (bx i)) k 0) then some (.v (.n .i64 (-1)),[])
 else some (.v (.n .i64 ((Rx.firstK (fun i:Nat=>Iv.valid (bx i)) k 0:Nat):Int)),[]))
 else none)
 else none):=by kernel_rfl
theorem snd_idx (bx:Nat→Iv) (k:Nat) (hk:k≤50):yZ Tryz.prog 133 [.lf k (fB bx),.f 115 [] []] (.v (.n .i64 (bif allV bx k then -1 else ((Rx.firstK (fun i:Nat=>Iv.valid (bx i)) k 0:Nat):Int)))):=by
 refine yH (N:=60) (LO:=zW [([0,1,0,1],yW (hI bx k 0) (fun K=>(bif (decide (k≤50)) then (bif (allN (fun i:Nat=>Iv.valid (bx i)) k 0) then (K (.exit 0) ⟨[],[]⟩) else (K .ret ⟨[(4,.v (.n .i64 ((Rx.firstK (fun i:Nat=>Iv.valid (bx i)) k 0:Nat):Int)))],[]⟩)) else none)))]) yY yQ (OrL.ok (l:=L12) L12_ok) (fun p S hp => ?_) ?_
 ·refine kQ (L:=qK T 133) (l:=[([0,1,0,1],yW (hI bx k 0) (fun K=>(bif (decide (k≤50)) then (bif (allN (fun i:Nat=>Iv.valid (bx i)) k 0) then (K (.exit 0) ⟨[],[]⟩) else (K .ret ⟨[(4,.v (.n .i64 ((Rx.firstK (fun i:Nat=>Iv.valid (bx i)) k 0:Nat):Int)))],[]⟩)) else none)))]) (show AllP _ [([0,1,0,1],yW (hI bx k 0) (fun K=>(bif (decide (k≤50)) then (bif (allN (fun i:Nat=>Iv.valid (bx i)) k 0) then (K (.exit 0) ⟨[],[]⟩) else (K .ret ⟨[(4,.v (.n .i64 ((Rx.firstK (fun i:Nat=>Iv.valid (bx i)) k 0:Nat):Int)))],[]⟩)) else none)))] from ⟨kW fun K r hr => ?_,trivial⟩) p S hp
  ·obtain ⟨hg,hr⟩:=qQ hr;have hk:=vJZ hg;exact (lpI K bx k hk).trans hr
 ·refine (pxidx bx k).trans ?_;unfold allV;rw [jG,vJQ hk];cases (allN (fun i:Nat=>Iv.valid (bx i)) k 0) <;> rfl
theorem snd_conB (bx:Nat→Iv) (k:Nat) (hk:k≤50):yZ Tryz.prog 114 [.lf k (fB bx),.f 115 [] []] (.v (.b (!allV bx k))):=by
 refine qX (N:=60) yY yQ (OrL.ok (l:=[(133,o_cr [.lf k (fB bx),.f 115 [] []] (.v (.n .i64 (bif allV bx k then -1 else ((Rx.firstK (fun i:Nat=>Iv.valid (bx i)) k 0:Nat):Int)))))]) ⟨qJZ (snd_idx bx k hk),trivial⟩) ?_;refine (by kernel_rfl:_=bif (g1 [.lf k (fB bx),.f 115 [] []]) then (bif (decide (0≤(bif allV bx k then -1 else ((Rx.firstK (fun i:Nat=>Iv.valid (bx i)) k 0:Nat):Int)))) then some (.v (.b true),[])
 else some (.v (.b false),[]))
 else none).trans ?_
 rw [g1_t];cases allV bx k with
 | true=>rfl
 | false =>
  rw [vYG,vJQ (show 0≤((Rx.firstK (fun i:Nat=>Iv.valid (bx i)) k 0:Nat):Int) by omega)];rfl
theorem snd_isP (js:Nat→J) (ms:Nat→Ms) (bx:Nat→Iv) (n m k:Nat) (hk:k≤50):yZ Tryz.prog 83 [.a [.lf n (fJ js),.lf m (fM ms)],.lf k (fB bx)] (.v (.b (isB bx n k))):=by
 refine qX (N:=60) yY yQ (OrL.ok (l:=[(114,o_cr [.lf k (fB bx),.f 115 [] []] (.v (.b (!allV bx k))))]) ⟨qJZ (snd_conB bx k hk),trivial⟩) ?_;refine (by kernel_rfl:_=bif (decide ((k:Int)=(n:Int))) then (bif (g1 [.lf k (fB bx),.f 115 [] []]) then (bif (!allV bx k) then some (.v (.b false),[])
 else some (.v (.b true),[]))
 else none)
 else some (.v (.b false),[])).trans ?_
 unfold isB;rw [g1_t];cases decide ((k:Int)=(n:Int)) <;> cases allV bx k <;> rfl
end Go.Proofs.YtfcofnclgajfeaaGreat.Nx
namespace Go.Proofs.YtfcofnclgajfeaaGreat
open Go.Sx Go.Rx Rt Go.RowKit
namespace Tk
end Tk
open Tk
theorem en117:kH Tryz.prog 117:=qU Tryz.func117 (by kernel_rfl) (by kernel_rfl)
namespace Tk
noncomputable def qWV:List PV→Option (Bool × Ret):=fun ps=>match ps with
 | [.a z']=>(z3D z').bind fun z=>some (true,.v (.a (v3C (V3.of z))))
 | _=>none
theorem zUC:zY Tryz.prog 56 qWV:=by
 intro ps r h;unfold qWV at h;split at h
 ·simp only [vQQ,vQZ,vQY] at h;obtain ⟨z,hz,hg,rfl⟩:=h;rw [zKD hz];exact qJ (qU Tryz.func56 (by kernel_rfl) (by kernel_rfl)) rfl rfl (fun w=>mPoint _ _ _ w)
 ·cases h
noncomputable def LTk1:OrL:=(56,qWV) :: ([]:OrL)
theorem LTk1_ok:AllP (fun x:Nat × (List PV→Option (Bool × Ret))=>zY Tryz.prog x.1 x.2) LTk1:=⟨zUC,trivial⟩
noncomputable def zGZ:List PV→Option (Bool × Ret):=fun ps=>match ps with
 | [.a v']=>(v3D v').bind fun v=>some (true,.v (.a (poC (Po.shift v))))
 | _=>none
theorem ok_pShift:zY Tryz.prog 134 zGZ:=by
 intro ps r h;unfold zGZ at h;split at h
 ·simp only [vQQ,vQZ,vQY] at h;obtain ⟨v,hv,hg,rfl⟩:=h;rw [qUI hv];exact qJ (qU Tryz.func134 (by kernel_rfl) (by kernel_rfl)) rfl rfl (fun w=>pShift _ _ _ _ _ _ w)
 ·cases h
noncomputable def LTk2:OrL:=(134,zGZ) :: LTk1
theorem LTk2_ok:AllP (fun x:Nat × (List PV→Option (Bool × Ret))=>zY Tryz.prog x.1 x.2) LTk2:=⟨ok_pShift,LTk1_ok⟩
noncomputable def yYK:List PV→Option (Bool × Ret):=fun ps=>match ps with
 | [.n .i64 k,.a a']=>(ivD a').bind fun a=>some (true,.v (.a (poC (Po.turn k a))))
 | _=>none
theorem ok_pTurn:zY Tryz.prog 157 yYK:=by
 intro ps r h;unfold yYK at h;split at h
 ·simp only [vQQ,vQZ,vQY] at h;obtain ⟨a,ha,hg,rfl⟩:=h;rw [uK ha];exact qJ (qU Tryz.func157 (by kernel_rfl) (by kernel_rfl)) rfl rfl (fun w=>pTurn _ _ _ w)
 ·cases h
noncomputable def LTk3:OrL:=(157,yYK) :: LTk2
theorem LTk3_ok:AllP (fun x:Nat × (List PV→Option (Bool × Ret))=>zY Tryz.prog x.1 x.2) LTk3:=⟨ok_pTurn,LTk2_ok⟩
noncomputable def qHY:List PV→Option (Bool × Ret):=fun ps=>match ps with
 | []=>some (true,.v (.a (poC (Po.rest))))
 | _=>none
theorem ok_pIdentity:zY Tryz.prog 158 qHY:=by
 intro ps r h;unfold qHY at h;split at h
 ·simp only [vQZ,vQY] at h;obtain ⟨hg,rfl⟩:=h;exact qJ (qU Tryz.func158 (by kernel_rfl) (by kernel_rfl)) rfl rfl (fun w=>pIdentity  w)
 ·cases h
noncomputable def LTk4:OrL:=(158,qHY) :: LTk3
theorem LTk4_ok:AllP (fun x:Nat × (List PV→Option (Bool × Ret))=>zY Tryz.prog x.1 x.2) LTk4:=⟨ok_pIdentity,LTk3_ok⟩
noncomputable def zYH:List PV→Option (Bool × Ret):=fun ps=>match ps with
 | [.a p',.a q']=>(poD p').bind fun p=>(poD q').bind fun q=>some (true,.v (.a (poC (Po.mul p q))))
 | _=>none
theorem ok_pCompose:zY Tryz.prog 117 zYH:=by
 intro ps r h;unfold zYH at h;split at h
 ·simp only [vQQ,vQZ,vQY] at h;obtain ⟨p,hp,q,hq,hg,rfl⟩:=h;rw [zWA hp];rw [zWA hq];exact qJ (qU Tryz.func117 (by kernel_rfl) (by kernel_rfl)) rfl rfl (fun w=>pCompose _ _ _ _ _ _ _ _ _ _ _ _ _ _ _ _ _ _ _ _ _ _ _ _ _ _ _ _ _ _ _ _ _ _ _ _ _ _ _ _ _ _ _ _ _ _ _ _ w)
 ·cases h
noncomputable def LTk5:OrL:=(117,zYH) :: LTk4
theorem LTk5_ok:AllP (fun x:Nat × (List PV→Option (Bool × Ret))=>zY Tryz.prog x.1 x.2) LTk5:=⟨ok_pCompose,LTk4_ok⟩
end Tk
set_option maxRecDepth 100000 in
theorem kJoint (a0 a1:Int) (nm:ByteArray) (kind par ox oy oz jlo jhi we spd acc tq:Int) (w:World):Calls Tryz.prog 116 [.agg #[.string nm,.int .i64 kind,.int .i64 par,.int .i64 ox,.int .i64 oy,.int .i64 oz,.int .i64 jlo,.int .i64 jhi,.int .i64 we,.int .i64 spd,.int .i64 acc,.int .i64 tq],.agg #[.int .i64 a0,.int .i64 a1]].toArray w (Rets (po (yUX kind ⟨ox,oy,oz⟩ (⟨a0,a1⟩:Iv))) (w)) :=
 qH (x:=.a (poC (yUX kind ⟨ox,oy,oz⟩ ⟨a0,a1⟩))) (qX (N:=60) (ps:=[.a [.s nm,.n .i64 kind,.n .i64 par,.n .i64 ox,.n .i64 oy,.n .i64 oz,.n .i64 jlo,.n .i64 jhi,.n .i64 we,.n .i64 spd,.n .i64 acc,.n .i64 tq],.a [.n .i64 a0,.n .i64 a1]]) yY yQ (OrL.ok (l:=LTk5) LTk5_ok) (by
 rcases kind with a | a
 ·rcases a with _ | _ | _ | _ | _ | _ | _ | a <;> kernel_rfl
 ·kernel_rfl)) rfl rfl w
end Go.Proofs.YtfcofnclgajfeaaGreat
namespace Go.Proofs.YtfcofnclgajfeaaGreat
open Go.Sx Go.Rx Rt Go.RowKit
namespace Tr
end Tr
open Tr
theorem en101:kH Tryz.prog 101:=qU Tryz.func101 (by kernel_rfl) (by kernel_rfl)
theorem k4 {k:Int} (h:k=4):vJJ .i64 (k - 4)=0:=by rw [h]; rfl
namespace Tr
noncomputable def qWU:List PV→Option (Bool × Ret):=fun ps=>match ps with
 | [.a z']=>(z3D z').bind fun z=>some (true,.v (.a (v3C (V3.of z))))
 | _=>none
theorem zUH:zY Tryz.prog 73 qWU:=by
 intro ps r h;unfold qWU at h;split at h
 ·simp only [vQQ,vQZ,vQY] at h;obtain ⟨z,hz,hg,rfl⟩:=h;rw [zKD hz];exact qJ (qU Tryz.func73 (by kernel_rfl) (by kernel_rfl)) rfl rfl (fun w=>rPoint _ _ _ w)
 ·cases h
noncomputable def LTr1:OrL:=(73,qWU) :: ([]:OrL)
theorem LTr1_ok:AllP (fun x:Nat × (List PV→Option (Bool × Ret))=>zY Tryz.prog x.1 x.2) LTr1:=⟨zUH,trivial⟩
noncomputable def zVL:List PV→Option (Bool × Ret):=fun ps=>match ps with
 | [.a v']=>(v3D v').bind fun v=>some (true,.v (.a (poC (Po.shift v))))
 | _=>none
theorem ok_qShift:zY Tryz.prog 127 zVL:=by
 intro ps r h;unfold zVL at h;split at h
 ·simp only [vQQ,vQZ,vQY] at h;obtain ⟨v,hv,hg,rfl⟩:=h;rw [qUI hv];exact qJ (qU Tryz.func127 (by kernel_rfl) (by kernel_rfl)) rfl rfl (fun w=>qShift _ _ _ _ _ _ w)
 ·cases h
noncomputable def LTr2:OrL:=(127,zVL) :: LTr1
theorem LTr2_ok:AllP (fun x:Nat × (List PV→Option (Bool × Ret))=>zY Tryz.prog x.1 x.2) LTr2:=⟨ok_qShift,LTr1_ok⟩
noncomputable def yYY:List PV→Option (Bool × Ret):=fun ps=>match ps with
 | [.n .i64 k,.a a']=>(ivD a').bind fun a=>some (true,.v (.a (poC (Po.turn k a))))
 | _=>none
theorem ok_qTurn:zY Tryz.prog 126 yYY:=by
 intro ps r h;unfold yYY at h;split at h
 ·simp only [vQQ,vQZ,vQY] at h;obtain ⟨a,ha,hg,rfl⟩:=h;rw [uK ha];exact qJ (qU Tryz.func126 (by kernel_rfl) (by kernel_rfl)) rfl rfl (fun w=>qTurn _ _ _ w)
 ·cases h
noncomputable def LTr3:OrL:=(126,yYY) :: LTr2
theorem LTr3_ok:AllP (fun x:Nat × (List PV→Option (Bool × Ret))=>zY Tryz.prog x.1 x.2) LTr3:=⟨ok_qTurn,LTr2_ok⟩
noncomputable def yYJ:List PV→Option (Bool × Ret):=fun ps=>match ps with
 | []=>some (true,.v (.a (poC (Po.rest))))
 | _=>none
theorem ok_qRest:zY Tryz.prog 125 yYJ:=by
 intro ps r h;unfold yYJ at h;split at h
 ·simp only [vQZ,vQY] at h;obtain ⟨hg,rfl⟩:=h;exact qJ (qU Tryz.func125 (by kernel_rfl) (by kernel_rfl)) rfl rfl (fun w=>qRest  w)
 ·cases h
noncomputable def LTr4:OrL:=(125,yYJ) :: LTr3
theorem LTr4_ok:AllP (fun x:Nat × (List PV→Option (Bool × Ret))=>zY Tryz.prog x.1 x.2) LTr4:=⟨ok_qRest,LTr3_ok⟩
noncomputable def zYG:List PV→Option (Bool × Ret):=fun ps=>match ps with
 | [.a p',.a q']=>(poD p').bind fun p=>(poD q').bind fun q=>some (true,.v (.a (poC (Po.mul p q))))
 | _=>none
theorem ok_qCompose:zY Tryz.prog 101 zYG:=by
 intro ps r h;unfold zYG at h;split at h
 ·simp only [vQQ,vQZ,vQY] at h;obtain ⟨p,hp,q,hq,hg,rfl⟩:=h;rw [zWA hp];rw [zWA hq];exact qJ (qU Tryz.func101 (by kernel_rfl) (by kernel_rfl)) rfl rfl (fun w=>qCompose _ _ _ _ _ _ _ _ _ _ _ _ _ _ _ _ _ _ _ _ _ _ _ _ _ _ _ _ _ _ _ _ _ _ _ _ _ _ _ _ _ _ _ _ _ _ _ _ w)
 ·cases h
noncomputable def LTr5:OrL:=(101,zYG) :: LTr4
theorem LTr5_ok:AllP (fun x:Nat × (List PV→Option (Bool × Ret))=>zY Tryz.prog x.1 x.2) LTr5:=⟨ok_qCompose,LTr4_ok⟩
end Tr
set_option maxRecDepth 100000 in
theorem rJoint (a0 a1:Int) (nm:ByteArray) (kind par ox oy oz jlo jhi we spd acc tq:Int) (w:World):Calls Tryz.prog 100 [.agg #[.string nm,.int .i64 kind,.int .i64 par,.int .i64 ox,.int .i64 oy,.int .i64 oz,.int .i64 jlo,.int .i64 jhi,.int .i64 we,.int .i64 spd,.int .i64 acc,.int .i64 tq],.agg #[.int .i64 a0,.int .i64 a1]].toArray w (Rets (po (yUX kind ⟨ox,oy,oz⟩ (⟨a0,a1⟩:Iv))) (w)) :=
 qH (x:=.a (poC (yUX kind ⟨ox,oy,oz⟩ ⟨a0,a1⟩))) (qX (N:=60) (ps:=[.a [.s nm,.n .i64 kind,.n .i64 par,.n .i64 ox,.n .i64 oy,.n .i64 oz,.n .i64 jlo,.n .i64 jhi,.n .i64 we,.n .i64 spd,.n .i64 acc,.n .i64 tq],.a [.n .i64 a0,.n .i64 a1]]) yY yQ (OrL.ok (l:=LTr5) LTr5_ok) (by
 rcases kind with a | a
 ·rcases a with _ | _ | _ | _ | _ | _ | _ | a <;> kernel_rfl
 ·kernel_rfl)) rfl rfl w
end Go.Proofs.YtfcofnclgajfeaaGreat
namespace Go.Proofs.YtfcofnclgajfeaaGreat
open Go.Sx
theorem yQC:qGE Tryz.prog 25 0 0=true:=by kernel_rfl
theorem ty22:tyB Tryz.prog 22 false 1=true:=by kernel_rfl
theorem sl22:slcB Tryz.prog 22 64 12=true:=by kernel_rfl
theorem ty25:tyB Tryz.prog 25 true 2=true:=by kernel_rfl
theorem zGH {k:Nat} (_:k≤1000000):vJJ .i64 ((k:Int) + 1)=((k + 1:Nat):Int):=by
 refine (qG ?_).trans ?_ <;> omega
end Go.Proofs.YtfcofnclgajfeaaGreat
namespace Go.Proofs.YtfcofnclgajfeaaGreat
open Go.Sx
theorem yWG:appB Tryz.prog 103 115 24 192=true:=by kernel_rfl
theorem en116:kH Tryz.prog 116:=qU Tryz.func116 (by kernel_rfl) (by kernel_rfl)
theorem kLinks  (aj am ab:Option Addr) (cj nm cm cb n:Nat) (js:List J) (bx:List Iv) (hn:n≤1000) (hjn:js.length=n) (hbn:bx.length=n) (hpar:∀ (k:Nat) (j:J),js[k]? = some j → -1≤j.parent∧j.parent < k) (w:World) (hS:qYG 12 aj (js.map jc) w) (hT:qYG 2 ab (bx.map ivc) w):Calls Tryz.prog 84 [.agg #[.slice aj n cj,.slice am nm cm],.slice ab n cb].toArray w (yGW (X:=Nat) (fun _=>True) (fun b=>.slice (some ⟨b,0,none⟩) n n) (fun b=>qYG 24 (some ⟨b,0,none⟩) ((lks js bx n).map pc)) w):=by
 refine jU (n:=47) Tryz.func84 rfl rfl rfl ?_;refine zZ ?_;refine qY ?_;refine qVL 2 rfl rfl rfl rfl ?_; intro b2;refine qV (zQ rfl) rfl rfl rfl ?_;refine zJ ?_;refine qZ ?_;refine zZ ?_;refine qY ?_;refine qV (zU yQC rfl) rfl rfl rfl ?_;refine qV (yG 2 ty22 rfl rfl rfl) rfl rfl rfl ?_;refine qV (qWJ sl22 rfl) rfl rfl rfl ?_;refine doL_make 11 (zQX yWG yWL) rfl (by omega) (by omega) rfl rfl ?_; intro b11;refine qV (zQ rfl) rfl rfl rfl ?_;refine zJ ?_;refine qZ ?_;refine zZ ?_;refine zZ ?_;refine qY ?_;refine qV (zU yQC rfl) rfl rfl rfl ?_;refine qV (yG 2 ty22 rfl rfl rfl) rfl rfl rfl ?_;refine qV (qWJ sl22 rfl) rfl rfl rfl ?_;refine qV (qW rfl) rfl rfl rfl ?_;refine zJ ?_;refine qZ ?_;refine qJK ?_;refine doC_loopK [1,2,5,13,14] [2] (α:=Nat × List Po) (fun x=>n - x.1) (fun x=>x.1≤n∧lks js bx x.1=x.2∧x.2.length=x.1) (fun x=>⟨w,[(11,(· = b11),zHB b11 24 115 (lkR x.2 (n - x.1)))]⟩) (fun x=>[(15,.int .i64 (x.1:Int))]) (fun _=>[]) (0,[]) rfl rfl ?_ ?_ ?_ ?_ rfl ?_
 ·
  exact ⟨Nat.zero_le _,rfl,rfl⟩
 ·
  exact rfl
 ·
  repeat' first | exact trivial | exact True.intro | refine ⟨rfl,?_⟩
 ·
  repeat' first | exact trivial | exact True.intro | refine ⟨rfl,?_⟩
 rintro ⟨k,ps⟩ ⟨hk,hps,hlen⟩
 dsimp only at hk hps hlen ⊢;subst hlen;refine zZ ?_;refine qY ?_;refine qV (qKU rfl rfl) rfl rfl rfl ?_;refine zJ ?_;refine qZ ?_;refine zZ ?_;refine qYA rfl (fun hc16 => ?_) (fun hc16 => ?_)
 ·
  have h2:ps.length < n:=by have:=vJZ hc16; omega
  obtain ⟨j,hjk⟩:∃ j,js[ps.length]? = some j:=⟨_,vQK (by omega)⟩
  obtain ⟨a,hak⟩:∃ a,bx[ps.length]? = some a:=⟨_,vQK (by omega)⟩
  have hj:(js.map jc)[ps.length]? = some (jc j):=by rw [vZY,hjk]; rfl
  have ha:(bx.map ivc)[ps.length]? = some (ivc a):=by rw [vZY,hak]; rfl
  have hpj:=hpar _ j hjk;obtain ⟨m,hm⟩:∃ m,n - ps.length=m + 1:=⟨n - ps.length - 1,by omega⟩
  rw [hm];have hz:(lkR ps (m + 1))[ps.length]? = some zRow:=by unfold lkR; rw [List.getElem?_append_right (by simp)]; simp
  refine qQG ?_;refine qZ ?_;refine zZ ?_;refine qJK ?_;refine zZ ?_;refine qY ?_;refine qV (qW rfl) rfl rfl rfl ?_;refine qV (qQF (e:=64) (uX hS) (by kernel_rfl) rfl rfl rfl hj h2) rfl rfl rfl ?_;refine qV (qJA (vs:=[.string j.name,.int .i64 j.kind,.int .i64 j.parent,.int .i64 j.off.x,.int .i64 j.off.y,.int .i64 j.off.z,.int .i64 j.lo,.int .i64 j.hi,.int .i64 j.weight,.int .i64 j.speed,.int .i64 j.accel,.int .i64 j.torque]) ps.length 0 (uX hS) hj ty64 rfl rfl) rfl rfl rfl ?_;refine qUV 7 ze64 rfl rfl rfl ?_; intro b7;refine qV (zQ rfl) rfl rfl rfl ?_;refine qZU 7 ty64 rfl rfl rfl rfl rfl rfl rfl rfl ?_;refine zJ ?_;refine qZ ?_;refine zZ ?_;refine qKZ 8 mo (by kernel_rfl) ?_;simp only [vYK,vYX,vYU,vYW];refine jJ (qW rfl) rfl rfl rfl ?_;refine jJ (qW rfl) rfl rfl rfl ?_;refine jJ (qZK 7 ty64 rfl rfl rfl) rfl rfl rfl ?_;refine jJ (qW rfl) rfl rfl rfl ?_;refine jJ (qW rfl) rfl rfl rfl ?_;refine jJ (qQF (e:=50) (uX hT) (by kernel_rfl) rfl rfl rfl ha h2) rfl rfl rfl ?_;refine jJ (qJA (vs:=[.int .i64 a.lo,.int .i64 a.hi]) ps.length 0 (uX hT) ha ty50 rfl rfl) rfl rfl rfl ?_;refine zXC (F:=po) (kV en116 rfl (fun w _=>kJoint _ _ _ _ _ _ _ _ _ _ _ _ _ _ w)) rfl rfl rfl ?_; intro r27 hr27;refine qGQ ?_;refine qUL ?_;refine qV (qQF (e:=115) ((qWA (id:=11) rfl).imp qUJ) (by kernel_rfl) rfl rfl rfl hz h2) rfl rfl rfl ?_;refine doL_storeRow (vs:=pc r27) (j:=ps.length) 11 zWZ rfl rfl rfl (by simp [lkR]) rfl rfl rfl rfl ?_; intro R28 hR28;obtain rfl:=Option.some.inj hR28;rw [lkR_set];refine zJ ?_;refine qZ ?_;refine zZ ?_;refine qY ?_;refine qV (zU yKX rfl) rfl rfl rfl ?_;refine qV (yG 7 ty3 rfl rfl rfl) rfl rfl rfl ?_;refine qV (zUG rfl rfl) rfl rfl rfl ?_;refine zJ ?_;refine qZ ?_;refine qYA rfl (fun hc31 => ?_) (fun hc31 => ?_)
  ·
   have hp:¬ j.parent = -1:=by simpa using hc31
   have hpl:j.parent.toNat < ps.length:=by omega
   have hpn:j.parent=((j.parent.toNat:Nat):Int):=by omega
   refine qKZ 12 mo (by kernel_rfl) ?_;simp only [vYK,vYX,vYU,vYW];refine jJ (qW rfl) rfl rfl rfl ?_;refine jJ (qW rfl) rfl rfl rfl ?_;refine jJ (qW rfl) rfl rfl rfl ?_;refine jJ (zU yKX rfl) rfl rfl rfl ?_;refine jJ (yG 7 ty3 rfl rfl rfl) rfl rfl rfl ?_;refine jJ (qQF (e:=115) ((qWA (id:=11) rfl).imp qUJ) (by kernel_rfl) rfl rfl hpn (lkR_at hpl) (by omega)) rfl rfl rfl ?_;refine jJ (qJA (vs:=pc (ps.getD j.parent.toNat Po.rest)) j.parent.toNat 0 ((qWA (id:=11) rfl).imp qUJ) (lkR_at hpl) zWZ rfl rfl) rfl rfl rfl ?_;refine jJ (qW rfl) rfl rfl rfl ?_;refine jJ (qW rfl) rfl rfl rfl ?_;refine jJ (qQF (e:=115) ((qWA (id:=11) rfl).imp qUJ) (by kernel_rfl) rfl rfl rfl yXI h2) rfl rfl rfl ?_;refine jJ (qJA (vs:=pc r27) ps.length 0 ((qWA (id:=11) rfl).imp qUJ) yXI zWZ rfl rfl) rfl rfl rfl ?_;refine zXC (F:=po) (kV en117 rfl (fun w _=>pCompose _ _ _ _ _ _ _ _ _ _ _ _ _ _ _ _ _ _ _ _ _ _ _ _ _ _ _ _ _ _ _ _ _ _ _ _ _ _ _ _ _ _ _ _ _ _ _ _  w)) rfl rfl rfl ?_; intro r43 hr43;refine qGQ ?_;refine qUL ?_;refine qV (qQF (e:=115) ((qWA (id:=11) rfl).imp qUJ) (by kernel_rfl) rfl rfl rfl yXI h2) rfl rfl rfl ?_;refine doL_storeRow (vs:=pc r43) (j:=ps.length) 11 zWZ rfl rfl rfl (by simp [lkR]) rfl rfl rfl rfl ?_; intro R44 hR44;obtain rfl:=Option.some.inj hR44;rw [lkR_set2];refine zJ ?_;refine kX ?_;refine qZ ?_;refine qY ?_;refine qV (qYK rfl rfl (zGH (by omega))) rfl rfl rfl ?_;refine qV (qW rfl) rfl rfl rfl ?_;refine zJ ?_;refine qGK (ps.length + 1,ps ++ [r43]) (by refine ⟨?_,?_,?_⟩ <;> dsimp only; omega; rw [zKV hjk hak,hps]; exact congrArg (fun x=>ps ++ [x]) ((if_neg hp).trans (by rw [show r43=Po.mul (ps.getD j.parent.toNat Po.rest) r27 from hr43,hr27]; try rfl)); simp) (by show n - (ps.length + 1) < n - ps.length; omega) (by dsimp only; rw [show n - (ps.length + 1)=m by omega,← lkR_done]; try rfl) ?_ ?_ rfl
   repeat' first | exact trivial | exact True.intro | refine ⟨rfl,?_⟩
  ·
   have hp:j.parent = -1:=by simpa using hc31
   refine qQG ?_;refine kX ?_;refine qZ ?_;refine qY ?_;refine qV (qYK rfl rfl (zGH (by omega))) rfl rfl rfl ?_;refine qV (qW rfl) rfl rfl rfl ?_;refine zJ ?_;refine qGK (ps.length + 1,ps ++ [r27]) (by refine ⟨?_,?_,?_⟩ <;> dsimp only; omega; rw [zKV hjk hak,hps]; exact congrArg (fun x=>ps ++ [x]) ((if_pos hp).trans hr27.symm); simp) (by show n - (ps.length + 1) < n - ps.length; omega) (by dsimp only; rw [show n - (ps.length + 1)=m by omega,← lkR_done]; try rfl) ?_ ?_ rfl
   repeat' first | exact trivial | exact True.intro | refine ⟨rfl,?_⟩
 ·
  have h2:ps.length=n:=by have:=vJY hc16; omega
  refine zHV ?_;refine qZW ?_;refine qZW ?_;refine qUU ?_;refine qZ ?_;refine zZ ?_;refine qY ?_;refine qV (qW rfl) rfl rfl rfl ?_;refine qV (zQ rfl) rfl rfl rfl ?_;refine zJ ?_;refine qZ ?_;refine uG ?_;refine zVV (rs:=[.tmp 4]) rfl (resC (uW rfl) (resN)) rfl ?_;intro w2 k2;obtain ⟨_,q2,q3⟩:=k2.facts _ vZQ;refine ⟨b11,trivial,rfl,k2.grow,ownD _,slc_dep _ _ _,fun z hz => ?_,?_⟩
  ·obtain ⟨ad,h1,h2⟩:=hz;cases h1;subst h2;exact ⟨(q2 _ rfl).1,(q2 _ rfl).2.1⟩
  ·have q4:=qUJ _ q3;rw [← h2,hps]
   simpa [lkR,h2] using q4
end Go.Proofs.YtfcofnclgajfeaaGreat
namespace Go.Proofs.YtfcofnclgajfeaaGreat
open Go.Sx
theorem en69:kH Tryz.prog 69:=qU Tryz.func69 (by kernel_rfl) (by kernel_rfl)
theorem en99:kH Tryz.prog 99:=qU Tryz.func99 (by kernel_rfl) (by kernel_rfl)
theorem sl37:slcB Tryz.prog 37 50 2=true:=by kernel_rfl
theorem en100:kH Tryz.prog 100:=qU Tryz.func100 (by kernel_rfl) (by kernel_rfl)
theorem sl103:slcB Tryz.prog 103 115 24=true:=by kernel_rfl
def plC (ps:List Po):List Value:=(ps.map pc).flatten
theorem plC_snoc (ps:List Po) (p:Po):plC (ps ++ [p])=plC ps ++ pc p:=by simp [plC]
theorem pl_slc {m e cap k:Nat} {a:Option Addr} {ps:List Po} {w:World} (hl:ps.length=k) (h:OwnF m e 24 a cap k (plC ps) w):qYG 24 a (ps.map pc) w :=
 zUX (rows:=ps.map pc) (fun r hr=>by obtain ⟨p,_,rfl⟩:=List.mem_map.1 hr; rfl) (by rw [List.length_map,hl]; exact h)
theorem pl_at {ps:List Po} {i:Nat} (h:i < ps.length):(ps.map pc)[i]? = some (pc (ps.getD i Po.rest)):=by
 rw [vZY];simp [vZG,h]
theorem rLinks  (aj am ab:Option Addr) (cj nm cm cb n:Nat) (js:List J) (bx:List Iv) (hn:n≤1000) (hjn:js.length=n) (hbn:bx.length=n) (hpar:∀ (k:Nat) (j:J),js[k]? = some j → -1≤j.parent∧j.parent < k) (w:World) (hS:qYG 12 aj (js.map jc) w) (hT:qYG 2 ab (bx.map ivc) w) (hC:∀ w':World,Grow w w'→Calls Tryz.prog 69 [.agg #[.slice aj n cj,.slice am nm cm]].toArray w' (Rets (vI (0:Int)) w')) (hB:∀ w':World,Grow w w'→Calls Tryz.prog 99 [.agg #[.slice aj n cj,.slice am nm cm],.slice ab n cb].toArray w' (Rets (vB true) w')):Calls Tryz.prog 72 [.agg #[.slice aj n cj,.slice am nm cm],.slice ab n cb].toArray w (yGW (X:=Option Addr × Nat) (fun _=>True) (fun x=>.slice x.1 n x.2) (fun x=>OwnF 0 115 24 x.1 x.2 n (plC (lks js bx n))) w):=by
 refine jU (n:=56) Tryz.func72 rfl rfl rfl ?_;refine zZ ?_;refine qY ?_;refine qVL 2 rfl rfl rfl rfl ?_; intro b2;refine qV (zQ rfl) rfl rfl rfl ?_;refine zJ ?_;refine qZ ?_;refine zZ ?_;refine zZ ?_;refine qY ?_;refine qV (qZK 2 ty25 rfl rfl rfl) rfl rfl rfl ?_;refine qKG (F:=vI) (kV en69 rfl (fun w' k=>hC w' k.grow)) rfl rfl rfl ?_; intro r9 hr9;refine qV (zUG rfl rfl) rfl rfl rfl ?_;refine qV (qW rfl) rfl rfl rfl ?_;refine doL_false 11 rfl (by rw [hr9]; rfl) ?_;refine qV (qZK 2 ty25 rfl rfl rfl) rfl rfl rfl ?_;refine qV (qW rfl) rfl rfl rfl ?_;refine qKG (F:=vB) (kV en99 rfl (fun w' k=>hB w' k.grow)) rfl rfl rfl ?_; intro r14 hr14;refine qV (zUV rfl) rfl rfl rfl ?_;refine qV (zYY rfl rfl rfl rfl) rfl rfl rfl ?_;refine zJ ?_;refine qZ ?_;refine qGG rfl (by rw [hr14]; rfl) ?_;refine qQG ?_;refine qZ ?_;refine zZ ?_;refine qY ?_;refine qV (zQ rfl) rfl rfl rfl ?_;refine zJ ?_;refine qZ ?_;refine zZ ?_;refine zZ ?_;refine doC_own 100 115 24 ?_;refine qY ?_;refine qV (zQ rfl) rfl rfl rfl ?_;refine zJ ?_;refine qZ ?_;refine qJK ?_;refine doC_loopK [1,2] [2] (α:=Nat × Option Addr × Nat × List Po) (fun x=>n - x.1) (fun x=>x.1≤n∧lks js bx x.1=x.2.2.2∧x.2.2.2.length=x.1) (fun x=>⟨w,[(100,ownD x.2.1,OwnF 0 115 24 x.2.1 x.2.2.1 x.1 (plC x.2.2.2))]⟩) (fun x=>[(5,.slice x.2.1 x.1 x.2.2.1),(6,.int .i64 (x.1:Int))]) (fun _=>[]) (0,none,0,[]) rfl rfl ?_ ?_ ?_ ?_ rfl ?_
 ·
  exact ⟨Nat.zero_le _,rfl,rfl⟩
 ·
  exact rfl
 ·
  repeat' first | exact trivial | exact True.intro | refine ⟨rfl,?_⟩
 ·
  repeat' first | exact trivial | exact True.intro | refine ⟨rfl,?_⟩
 rintro ⟨k,a,cap,ps⟩ ⟨hk,hps,hlen⟩
 dsimp only at hk hps hlen ⊢;refine zZ ?_;refine zZ ?_;refine qY ?_;refine qV (qW rfl) rfl rfl rfl ?_;refine qV (qW rfl) rfl rfl rfl ?_;refine qV (qWJ sl37 rfl) rfl rfl rfl ?_;refine qV (qKU rfl rfl) rfl rfl rfl ?_;refine zJ ?_;refine qZ ?_;refine qYA rfl (fun hc20 => ?_) (fun hc20 => ?_)
 ·
  have h2:k < n:=by have:=vJZ hc20; omega
  obtain ⟨j,hjk⟩:∃ j,js[k]? = some j:=⟨_,vQK (by omega)⟩
  obtain ⟨b,hak⟩:∃ b,bx[k]? = some b:=⟨_,vQK (by omega)⟩
  have hj:(js.map jc)[k]? = some (jc j):=by rw [vZY,hjk]; rfl
  have hbk:(bx.map ivc)[k]? = some (ivc b):=by rw [vZY,hak]; rfl
  have hpj:=hpar _ j hjk;refine qQG ?_;refine qZ ?_;refine zZ ?_;refine qJK ?_;refine zZ ?_;refine qKZ 11 mo (by kernel_rfl) ?_;simp only [vYK,vYX,vYU,vYW];refine jJ (zU yQC rfl) rfl rfl rfl ?_;refine jJ (yG 2 ty22 rfl rfl rfl) rfl rfl rfl ?_;refine jJ (qW rfl) rfl rfl rfl ?_;refine jJ (qQF (e:=64) (uX hS) (by kernel_rfl) rfl rfl rfl hj h2) rfl rfl rfl ?_;refine jJ (qJA (vs:=[.string j.name,.int .i64 j.kind,.int .i64 j.parent,.int .i64 j.off.x,.int .i64 j.off.y,.int .i64 j.off.z,.int .i64 j.lo,.int .i64 j.hi,.int .i64 j.weight,.int .i64 j.speed,.int .i64 j.accel,.int .i64 j.torque]) k 0 (uX hS) hj ty64 rfl rfl) rfl rfl rfl ?_;refine jJ (qW rfl) rfl rfl rfl ?_;refine jJ (qW rfl) rfl rfl rfl ?_;refine jJ (qQF (e:=50) (uX hT) (by kernel_rfl) rfl rfl rfl hbk h2) rfl rfl rfl ?_;refine jJ (qJA (vs:=[.int .i64 b.lo,.int .i64 b.hi]) k 0 (uX hT) hbk ty50 rfl rfl) rfl rfl rfl ?_;refine zXC (F:=po) (kV en100 rfl (fun w _=>rJoint _ _ _ _ _ _ _ _ _ _ _ _ _ _ w)) rfl rfl rfl ?_; intro r32 hr32;refine doG_alloc yWL rfl rfl rfl rfl ?_;refine qGQ ?_;refine tail_alloc 7 rfl ?_; intro b7_2;refine qUL ?_;refine qZU 7 zWZ rfl rfl rfl rfl rfl rfl rfl rfl ?_;refine zJ ?_;refine qZ ?_;refine zZ ?_;refine zZ ?_;refine qY ?_;refine qV (zU yQC rfl) rfl rfl rfl ?_;refine qV (yG 2 ty22 rfl rfl rfl) rfl rfl rfl ?_;refine qV (qW rfl) rfl rfl rfl ?_;refine qV (qQF (e:=64) (uX hS) (by kernel_rfl) rfl rfl rfl hj h2) rfl rfl rfl ?_;refine qV (opV_fieldS (uX hS) hj yKX rfl) rfl rfl rfl ?_;refine qV (opV_loadS1 k 2 (uX hS) hj ty3 rfl rfl) rfl rfl rfl ?_;refine qV (zUG rfl rfl) rfl rfl rfl ?_;refine zJ ?_;refine qZ ?_;refine qYA rfl (fun hc39 => ?_) (fun hc39 => ?_)
  ·
   have hp:¬ j.parent = -1:=by simpa using hc39
   have hpl:j.parent.toNat < ps.length:=by omega
   have hpn:j.parent=((j.parent.toNat:Nat):Int):=by omega
   refine qKZ 11 mo (by kernel_rfl) ?_;simp only [vYK,vYX,vYU,vYW];refine jJ (qW rfl) rfl rfl rfl ?_;refine jJ (zU yQC rfl) rfl rfl rfl ?_;refine jJ (yG 2 ty22 rfl rfl rfl) rfl rfl rfl ?_;refine jJ (qW rfl) rfl rfl rfl ?_;refine jJ (qQF (e:=64) (uX hS) (by kernel_rfl) rfl rfl rfl hj h2) rfl rfl rfl ?_;refine jJ (opV_fieldS (uX hS) hj yKX rfl) rfl rfl rfl ?_;refine jJ (opV_loadS1 k 2 (uX hS) hj ty3 rfl rfl) rfl rfl rfl ?_;refine jJ (qQF (e:=115) ((qWA (id:=100) rfl).imp (fun _ h=>pl_slc hlen h)) (by kernel_rfl) rfl rfl hpn (pl_at hpl) (by omega)) rfl rfl rfl ?_;refine jJ (qJA (vs:=pc (ps.getD j.parent.toNat Po.rest)) j.parent.toNat 0 ((qWA (id:=100) rfl).imp (fun _ h=>pl_slc hlen h)) (pl_at hpl) zWZ rfl rfl) rfl rfl rfl ?_;refine jJ (qZK 7 zWZ rfl rfl rfl) rfl rfl rfl ?_;refine zXC (F:=po) (kV en101 rfl (fun w _=>qCompose _ _ _ _ _ _ _ _ _ _ _ _ _ _ _ _ _ _ _ _ _ _ _ _ _ _ _ _ _ _ _ _ _ _ _ _ _ _ _ _ _ _ _ _ _ _ _ _  w)) rfl rfl rfl ?_; intro r50 hr50;refine qGQ ?_;refine qUL ?_;refine qZU 7 zWZ rfl rfl rfl rfl rfl rfl rfl rfl ?_;refine zJ ?_;refine qZ ?_;refine qY ?_;refine qV (qW rfl) rfl rfl rfl ?_;refine qV (qZK 7 zWZ rfl rfl rfl) rfl rfl rfl ?_;refine doL_bslice 53 sl103 yWL rfl rfl rfl rfl rfl rfl rfl rfl ?_; intro b53;refine doL_append (id2:=53) 100 yWG rfl rfl rfl rfl rfl rfl rfl (by omega) (by omega) rfl rfl ?_; intro a54 c54 R54 hR54;obtain rfl:=Option.some.inj hR54;refine qV (zQ rfl) rfl rfl rfl ?_;refine zJ ?_;refine kX ?_;refine qZ ?_;refine qY ?_;refine qV (qW rfl) rfl rfl rfl ?_;refine qV (qYK rfl rfl (zGH (by omega))) rfl rfl rfl ?_;refine qV (zQ rfl) rfl rfl rfl ?_;refine zJ ?_;refine qGK (k + 1,a54,c54,ps ++ [r50]) (by refine ⟨?_,?_,?_⟩ <;> dsimp only; omega; rw [zKV hjk hak,hps]; exact congrArg (fun x=>ps ++ [x]) ((if_neg hp).trans (by rw [show r50=Po.mul (ps.getD j.parent.toNat Po.rest) r32 from hr50,hr32]; try rfl)); simp [hlen]) (by show n - (k + 1) < n - k; omega) (by dsimp only; rw [plC_snoc]; rfl) ?_ ?_ rfl
   repeat' first | exact trivial | exact True.intro | refine ⟨rfl,?_⟩
  ·
   have hp:j.parent = -1:=by simpa using hc39
   refine qQG ?_;refine qZ ?_;refine qY ?_;refine qV (qW rfl) rfl rfl rfl ?_;refine qV (qZK 7 zWZ rfl rfl rfl) rfl rfl rfl ?_;refine doL_bslice 53 sl103 yWL rfl rfl rfl rfl rfl rfl rfl rfl ?_; intro b53;refine doL_append (id2:=53) 100 yWG rfl rfl rfl rfl rfl rfl rfl (by omega) (by omega) rfl rfl ?_; intro a54 c54 R54 hR54;obtain rfl:=Option.some.inj hR54;refine qV (zQ rfl) rfl rfl rfl ?_;refine zJ ?_;refine kX ?_;refine qZ ?_;refine qY ?_;refine qV (qW rfl) rfl rfl rfl ?_;refine qV (qYK rfl rfl (zGH (by omega))) rfl rfl rfl ?_;refine qV (zQ rfl) rfl rfl rfl ?_;refine zJ ?_;refine qGK (k + 1,a54,c54,ps ++ [r32]) (by refine ⟨?_,?_,?_⟩ <;> dsimp only; omega; rw [zKV hjk hak,hps]; exact congrArg (fun x=>ps ++ [x]) ((if_pos hp).trans hr32.symm); simp [hlen]) (by show n - (k + 1) < n - k; omega) (by dsimp only; rw [plC_snoc]; rfl) ?_ ?_ rfl
   repeat' first | exact trivial | exact True.intro | refine ⟨rfl,?_⟩
 ·
  obtain rfl:k=n:=by have:=vJY hc20; omega
  refine zHV ?_;refine qZW ?_;refine qZW ?_;refine qUU ?_;refine qZ ?_;refine zZ ?_;refine qY ?_;refine qV (qW rfl) rfl rfl rfl ?_;refine qV (zQ rfl) rfl rfl rfl ?_;refine zJ ?_;refine qZ ?_;refine uG ?_;refine zVV (rs:=[.tmp 4]) rfl (resC (uW rfl) (resN)) rfl ?_;intro w2 k2;obtain ⟨_,q2,q3⟩:=k2.facts _ vZQ;exact ⟨(a,cap),trivial,rfl,k2.grow,ownD a,yZD _ _ _ _ _ _ _,fun z hz=>⟨(q2 z hz).1,(q2 z hz).2.1⟩,by dsimp only; rw [hps]; exact q3⟩
end Go.Proofs.YtfcofnclgajfeaaGreat

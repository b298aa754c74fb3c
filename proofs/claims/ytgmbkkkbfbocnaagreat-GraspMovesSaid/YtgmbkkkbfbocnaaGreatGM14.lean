/- Part 14 of the texts behind the last one: rules and contracts. No condition. -/
import Derived.Test.YtgmbkkkbfbocnaaGreatGM13
open Option renaming bind_eq_some_iff → vQQ
open Option.some renaming injEq → vQZ
open Prod.mk renaming injEq → vQY
open Bool renaming and_eq_true → vQJ, and_self → vZJ, true_and → vZH
open List renaming getElem?_eq_getElem → vQK, mem_cons_self → vZQ, getElem?_map → vZY, take_succ_cons → vYK, drop_succ_cons → vYU, take_zero → vYX, drop_zero → vYW
open Classical renaming propDecidable → vYJ
open Go.IntKind renaming wrap → vJJ
namespace Go.Proofs.YtgmbkkkbfbocnaaGreat.Nb
open Go.Rx Rt Go.Sx Go.RowKit Od
open Na
def fJ (js:Nat→J):Nat→List PV:=fun v=>jp (js v)
def fM (ms:Nat→Ms):Nat→List PV:=fun v=>mp (ms v)
def fnd (js:Nat→J) (nm:ByteArray):Nat→Nat→Int
 | 0,_ => -1
 | k + 1,p=>bif ((js p).name.toList == nm.toList) then (p:Int) else fnd js nm k (p + 1)
def dup (js:Nat→J) (nm:ByteArray):Nat→Nat→Bool
 | 0,_=>false
 | k + 1,p=>((js p).name.toList == nm.toList) || dup js nm k (p + 1)
def hF (js:Nat→J) (ms:Nat→Ms) (n m:Nat) (nm:ByteArray) (i:Int):St:=⟨[(1,.v (.s nm)),(2,.p 2 0),(8,.v (.n .i64 (n:Int))),(9,.v (.n .i64 i))],[(2,.blk [.v (.lf n (fJ js)),.v (.lf m (fM ms))])]⟩
set_option maxRecDepth 100000 in
theorem rdF (G:St→Option (Ret × Mem)) (K:Cont) (js:Nat→J) (ms:Nat→Ms) (n m:Nat) (nm:ByteArray) (i:Int):qVQ 60 (cxF T (OrL.k ([]:OrL)) 60 164 (ntmF T 164)) (ckF T (OrL.k ([]:OrL)) 60) (qQ T 164 [0,1,0,1]) (fun e τ=>match e with
 | .normal=>G (qUX ((cxF T (OrL.k ([]:OrL)) 60 164 (ntmF T 164)).T.hint (cxF T (OrL.k ([]:OrL)) 60 164 (ntmF T 164)).me (qJ (qQ T 164 [0,1,0,1]))) τ)
 | e=>K e (qKZ ((cxF T (OrL.k ([]:OrL)) 60 164 (ntmF T 164)).T.hint (cxF T (OrL.k ([]:OrL)) 60 164 (ntmF T 164)).me (qJ (qQ T 164 [0,1,0,1]))) τ)) (hF js ms n m nm i) =
 (bif (decide (i < (n:Int))) then (bif (inB i n) then (bif ((js (i).toNat).name.toList == nm.toList) then (K .ret ⟨[(4,.v (.n .i64 i))],[]⟩)
 else (G (hF js ms n m nm (vJJ .i64 (i + 1)))))
 else none)
 else (K (.exit 0) ⟨[],[]⟩)):=by kernel_rfl
theorem lpF (K:Cont) (js:Nat→J) (ms:Nat→Ms) (n m:Nat) (nm:ByteArray) (hn:n≤1000):∀ (k p q:Nat),p + k=n→k < q→LF 60 (cxF T (OrL.k ([]:OrL)) 60 164 (ntmF T 164)) (ckF T (OrL.k ([]:OrL)) 60) (qQ T 164 [0,1,0,1]) ((cxF T (OrL.k ([]:OrL)) 60 164 (ntmF T 164)).T.hint (cxF T (OrL.k ([]:OrL)) 60 164 (ntmF T 164)).me (qJ (qQ T 164 [0,1,0,1]))) K q (hF js ms n m nm p)=(bif decide (fnd js nm k p = -1) then K (.exit 0) ⟨[],[]⟩ else K .ret ⟨[(4,.v (.n .i64 (fnd js nm k p)))],[]⟩)
 | 0,p,q + 1,hp,hq=>by
  refine (rdF (fun σ=>LF 60 (cxF T (OrL.k ([]:OrL)) 60 164 (ntmF T 164)) (ckF T (OrL.k ([]:OrL)) 60) (qQ T 164 [0,1,0,1]) ((cxF T (OrL.k ([]:OrL)) 60 164 (ntmF T 164)).T.hint (cxF T (OrL.k ([]:OrL)) 60 164 (ntmF T 164)).me (qJ (qQ T 164 [0,1,0,1]))) K q σ) K js ms n m nm p).trans ?_;rw [vYH (show ¬ (p:Int) < (n:Int) by omega)];rfl
 | k + 1,p,q + 1,hp,hq=>by
  refine (rdF (fun σ=>LF 60 (cxF T (OrL.k ([]:OrL)) 60 164 (ntmF T 164)) (ckF T (OrL.k ([]:OrL)) 60) (qQ T 164 [0,1,0,1]) ((cxF T (OrL.k ([]:OrL)) 60 164 (ntmF T 164)).T.hint (cxF T (OrL.k ([]:OrL)) 60 164 (ntmF T 164)).me (qJ (qQ T 164 [0,1,0,1]))) K q σ) K js ms n m nm p).trans ?_;rw [vJQ (show (p:Int) < (n:Int) by omega),yX (show p < n by omega),kW (by omega),lpF K js ms n m nm hn k (p + 1) q (by omega) (by omega),toN];by_cases hq:((js p).name.toList == nm.toList)=true
  ·simp only [fnd,hq,vYV,vYH (show ¬ (p:Int) = -1 by omega),vYG]
  ·rw [Bool.not_eq_true] at hq;simp only [fnd,hq,vYV,vYG]
set_option maxRecDepth 100000 in
theorem pxF (js:Nat→J) (ms:Nat→Ms) (n m:Nat) (nm:ByteArray):qHV T (OrL.k ([]:OrL)) (qZ [([0,1,0,1],uU (hF js ms n m nm 0) (fun K=>(bif decide (fnd js nm n 0 = -1) then K (.exit 0) ⟨[],[]⟩ else K .ret ⟨[(4,.v (.n .i64 (fnd js nm n 0)))],[]⟩)))]) 60 164 [(.a [.lf n (fJ js),.lf m (fM ms)]),.s nm] =
 bif gSt (hF js ms n m nm 0) (hF js ms n m nm 0) then (bif decide (fnd js nm n 0 = -1) then some (.v (.n .i64 (-1)),[]) else some (.v (.n .i64 (fnd js nm n 0)),[])) else none:=by kernel_rfl
theorem snd_find (js:Nat→J) (ms:Nat→Ms) (n m:Nat) (nm:ByteArray) (_:n≤50):yK Tryz.prog 164 [(.a [.lf n (fJ js),.lf m (fM ms)]),.s nm] (.v (.n .i64 (fnd js nm n 0))):=by
 refine uX (N:=60) (LO:=qZ [([0,1,0,1],uU (hF js ms n m nm 0) (fun K=>(bif decide (fnd js nm n 0 = -1) then K (.exit 0) ⟨[],[]⟩ else K .ret ⟨[(4,.v (.n .i64 (fnd js nm n 0)))],[]⟩)))]) yJ zG (OrL.ok (l:=[]) trivial) (fun p S hp => ?_) ?_
 ·refine qZK (L:=qQ T 164) (l:=[([0,1,0,1],uU (hF js ms n m nm 0) (fun K=>(bif decide (fnd js nm n 0 = -1) then K (.exit 0) ⟨[],[]⟩ else K .ret ⟨[(4,.v (.n .i64 (fnd js nm n 0)))],[]⟩)))]) (show AllP _ [([0,1,0,1],uU (hF js ms n m nm 0) (fun K=>(bif decide (fnd js nm n 0 = -1) then K (.exit 0) ⟨[],[]⟩ else K .ret ⟨[(4,.v (.n .i64 (fnd js nm n 0)))],[]⟩)))] from ⟨qJH fun K r hr => ?_,trivial⟩) p S hp;exact (lpF K js ms n m nm (by omega) n 0 60 (by omega) (by omega)).trans hr
 ·refine (pxF js ms n m nm).trans ?_;rw [yU,vYV];by_cases h:fnd js nm n 0 = -1
  ·rw [vJQ h,h]; rfl
  ·rw [vYH h]; rfl
theorem fnd_dup (js:Nat→J) (i:Nat):∀ (k p:Nat),p≤i→i < p + k→(fnd js (js i).name k p=(i:Int) ↔ dup js (js i).name (i - p) p=false)
 | 0,p,h1,h2=>by omega
 | k + 1,p,h1,h2=>by
  by_cases he:p=i
  ·subst he;rw [Nat.sub_self];simp [fnd,dup]
  ·have ih:=fnd_dup js i k (p + 1) (by omega) (by omega);rw [show i - p=(i - (p + 1)) + 1 by omega];simp only [fnd,dup];cases ((js p).name.toList == (js i).name.toList)
   ·simpa using ih
   ·simp; omega
def cpT {α:Type} (f:Int→α) (i:Int) (j:J):α:=(bif (decide (j.kind < 0)) then (f 803) else (bif (decide (6 < j.kind)) then (f 803) else (bif (decide (j.parent < (-1))) then (f 804) else (bif (decide (i≤j.parent)) then (f 804) else (bif (decide (j.off.x < (-4194304))) then (f 805) else (bif (decide (4194304 < j.off.x)) then (f 805) else (bif (decide (j.off.y < (-4194304))) then (f 805) else (bif (decide (4194304 < j.off.y)) then (f 805) else (bif (decide (j.off.z < (-4194304))) then (f 805) else (bif (decide (4194304 < j.off.z)) then (f 805) else (bif (decide (j.kind=1)) then (bif (decide (j.hi < j.lo)) then (f 806) else (bif (decide (j.lo < (-524288))) then (f 806) else (bif (decide (524288 < j.hi)) then (f 806) else (bif (decide (1≤j.weight)) then (bif (decide (j.weight≤1024)) then (bif (decide (1≤j.speed)) then (bif (decide (j.speed≤1048576)) then (bif (decide (1≤j.accel)) then (bif (decide (j.accel≤1048576)) then (bif (decide (1≤j.torque)) then (bif (decide (j.torque≤1099511627776)) then (f 0) else (f 807)) else (f 807)) else (f 807)) else (f 807)) else (f 807)) else (f 807)) else (f 807)) else (f 807))))) else (bif (decide (j.kind=2)) then (bif (decide (j.hi < j.lo)) then (f 806) else (bif (decide (j.lo < (-524288))) then (f 806) else (bif (decide (524288 < j.hi)) then (f 806) else (bif (decide (1≤j.weight)) then (bif (decide (j.weight≤1024)) then (bif (decide (1≤j.speed)) then (bif (decide (j.speed≤1048576)) then (bif (decide (1≤j.accel)) then (bif (decide (j.accel≤1048576)) then (bif (decide (1≤j.torque)) then (bif (decide (j.torque≤1099511627776)) then (f 0) else (f 807)) else (f 807)) else (f 807)) else (f 807)) else (f 807)) else (f 807)) else (f 807)) else (f 807))))) else (bif (decide (j.kind=3)) then (bif (decide (j.hi < j.lo)) then (f 806) else (bif (decide (j.lo < (-524288))) then (f 806) else (bif (decide (524288 < j.hi)) then (f 806) else (bif (decide (1≤j.weight)) then (bif (decide (j.weight≤1024)) then (bif (decide (1≤j.speed)) then (bif (decide (j.speed≤1048576)) then (bif (decide (1≤j.accel)) then (bif (decide (j.accel≤1048576)) then (bif (decide (1≤j.torque)) then (bif (decide (j.torque≤1099511627776)) then (f 0) else (f 807)) else (f 807)) else (f 807)) else (f 807)) else (f 807)) else (f 807)) else (f 807)) else (f 807))))) else (bif (decide (j.kind=4)) then (bif (decide (j.hi < j.lo)) then (f 806) else (bif (decide (j.lo < (-4194304))) then (f 806) else (bif (decide (4194304 < j.hi)) then (f 806) else (bif (decide (1≤j.weight)) then (bif (decide (j.weight≤1024)) then (bif (decide (1≤j.speed)) then (bif (decide (j.speed≤1048576)) then (bif (decide (1≤j.accel)) then (bif (decide (j.accel≤1048576)) then (bif (decide (1≤j.torque)) then (bif (decide (j.torque≤1099511627776)) then (f 0) else (f 807)) else (f 807)) else (f 807)) else (f 807)) else (f 807)) else (f 807)) else (f 807)) else (f 807))))) else (bif (decide (j.kind=5)) then (bif (decide (j.hi < j.lo)) then (f 806) else (bif (decide (j.lo < (-4194304))) then (f 806) else (bif (decide (4194304 < j.hi)) then (f 806) else (bif (decide (1≤j.weight)) then (bif (decide (j.weight≤1024)) then (bif (decide (1≤j.speed)) then (bif (decide (j.speed≤1048576)) then (bif (decide (1≤j.accel)) then (bif (decide (j.accel≤1048576)) then (bif (decide (1≤j.torque)) then (bif (decide (j.torque≤1099511627776)) then (f 0) else (f 807)) else (f 807)) else (f 807)) else (f 807)) else (f 807)) else (f 807)) else (f 807)) else (f 807))))) else (bif (decide (j.kind=6)) then (bif (decide (j.hi < j.lo)) then (f 806) else (bif (decide (j.lo < (-4194304))) then (f 806) else (bif (decide (4194304 < j.hi)) then (f 806) else (bif (decide (1≤j.weight)) then (bif (decide (j.weight≤1024)) then (bif (decide (1≤j.speed)) then (bif (decide (j.speed≤1048576)) then (bif (decide (1≤j.accel)) then (bif (decide (j.accel≤1048576)) then (bif (decide (1≤j.torque)) then (bif (decide (j.torque≤1099511627776)) then (f 0) else (f 807)) else (f 807)) else (f 807)) else (f 807)) else (f 807)) else (f 807)) else (f 807)) else (f 807))))) else (bif (decide (j.hi < j.lo)) then (f 806) else (bif (decide (j.lo < 0)) then (f 806) else (bif (decide (0 < j.hi)) then (f 806) else (bif (decide (1≤j.weight)) then (bif (decide (j.weight≤1024)) then (bif (decide (1≤j.speed)) then (bif (decide (j.speed≤1048576)) then (bif (decide (1≤j.accel)) then (bif (decide (j.accel≤1048576)) then (bif (decide (1≤j.torque)) then (bif (decide (j.torque≤1099511627776)) then (f 0) else (f 807)) else (f 807)) else (f 807)) else (f 807)) else (f 807)) else (f 807)) else (f 807)) else (f 807)))))))))))))))))))))
theorem cp_cj {α:Type} (f:Int→α) (i:Int) (j:J):cpT f i j=cjT f i j:=by
 unfold cpT cjT;by_cases h0:j.kind < 0
 ·simp only [vJQ h0,vYV]
 by_cases h6:6 < j.kind
 ·simp only [vJQ h6,vYV]
 rcases (by omega:j.kind=0 ∨ j.kind=1 ∨ j.kind=2 ∨ j.kind=3 ∨ j.kind=4 ∨ j.kind=5 ∨ j.kind=6) with h | h | h | h | h | h | h
 ·simp only [vJQ (show j.kind=0 by omega),vYH (show ¬ j.kind=1 by omega),vYH (show ¬ j.kind=2 by omega),vYH (show ¬ j.kind=3 by omega),vYH (show ¬ j.kind=4 by omega),vYH (show ¬ j.kind=5 by omega),vYH (show ¬ j.kind=6 by omega),vYV,vYG]
 ·simp only [vYH (show ¬ j.kind=0 by omega),vJQ (show j.kind=1 by omega),vYH (show ¬ j.kind=2 by omega),vYH (show ¬ j.kind=3 by omega),vYH (show ¬ j.kind=4 by omega),vYH (show ¬ j.kind=5 by omega),vYH (show ¬ j.kind=6 by omega),vYV,vYG]
 ·simp only [vYH (show ¬ j.kind=0 by omega),vYH (show ¬ j.kind=1 by omega),vJQ (show j.kind=2 by omega),vYH (show ¬ j.kind=3 by omega),vYH (show ¬ j.kind=4 by omega),vYH (show ¬ j.kind=5 by omega),vYH (show ¬ j.kind=6 by omega),vYV,vYG]
 ·simp only [vYH (show ¬ j.kind=0 by omega),vYH (show ¬ j.kind=1 by omega),vYH (show ¬ j.kind=2 by omega),vJQ (show j.kind=3 by omega),vYH (show ¬ j.kind=4 by omega),vYH (show ¬ j.kind=5 by omega),vYH (show ¬ j.kind=6 by omega),vYV,vYG]
 ·simp only [vYH (show ¬ j.kind=0 by omega),vYH (show ¬ j.kind=1 by omega),vYH (show ¬ j.kind=2 by omega),vYH (show ¬ j.kind=3 by omega),vJQ (show j.kind=4 by omega),vYH (show ¬ j.kind=5 by omega),vYH (show ¬ j.kind=6 by omega),vYV,vYG]
 ·simp only [vYH (show ¬ j.kind=0 by omega),vYH (show ¬ j.kind=1 by omega),vYH (show ¬ j.kind=2 by omega),vYH (show ¬ j.kind=3 by omega),vYH (show ¬ j.kind=4 by omega),vJQ (show j.kind=5 by omega),vYH (show ¬ j.kind=6 by omega),vYV,vYG]
 ·simp only [vYH (show ¬ j.kind=0 by omega),vYH (show ¬ j.kind=1 by omega),vYH (show ¬ j.kind=2 by omega),vYH (show ¬ j.kind=3 by omega),vYH (show ¬ j.kind=4 by omega),vYH (show ¬ j.kind=5 by omega),vJQ (show j.kind=6 by omega),vYV,vYG]
def jErr (js:Nat→J) (n i:Nat):Int:=bif nmB (js i).name then (bif dup js (js i).name i 0 then 802 else cjT (fun e=>e) i (js i)) else 802
noncomputable def o_nm:List PV→Option (Bool × Ret):=fun ps=>match ps with
 | [.s s]=>some (true,.v (.b (nmB s)))
 | _=>none
theorem ok_tn:zJ Tryz.prog 53 o_nm:=by
 intro ps r hh;unfold o_nm at hh;split at hh
 ·simp only [vQZ,vQY] at hh;obtain ⟨_,rfl⟩:=hh;exact snd_Tn _
 ·cases hh
theorem ok_rn:zJ Tryz.prog 106 o_nm:=by
 intro ps r hh;unfold o_nm at hh;split at hh
 ·simp only [vQZ,vQY] at hh;obtain ⟨_,rfl⟩:=hh;exact snd_Rn _
 ·cases hh
noncomputable def o_fd (js:Nat→J) (ms:Nat→Ms) (n m:Nat):List PV→Option (Bool × Ret):=fun ps=>match ps with
 | [r,.s s]=>some (gEq r (.a [.lf n (fJ js),.lf m (fM ms)]),.v (.n .i64 (fnd js s n 0)))
 | _=>none
theorem kJH (js:Nat→J) (ms:Nat→Ms) (n m:Nat) (hn:n≤50):zJ Tryz.prog 164 (o_fd js ms n m):=by
 intro ps r hh;unfold o_fd at hh;split at hh
 ·simp only [vQZ,vQY] at hh;obtain ⟨hg,rfl⟩:=hh;obtain rfl:=yKW hg;exact snd_find _ _ _ _ _ hn
 ·cases hh
set_option maxRecDepth 100000 in
theorem tr_cjp (js:Nat→J) (ms:Nat→Ms) (n m:Nat) (i:Int):runK T (OrL.k [(53,o_nm),(164,o_fd js ms n m)]) 60 136 [(.a [.lf n (fJ js),.lf m (fM ms)]),.n .i64 i] =
 bif inB i n then (bif nmB (js i.toNat).name then (bif gEq (.a [.lf n (fJ js),.lf m (fM ms)]) (.a [.lf n (fJ js),.lf m (fM ms)]) then (bif !decide (fnd js (js i.toNat).name n 0=i) then some (.v (.n .i64 802),[]) else cpT F_n i (js i.toNat)) else none) else some (.v (.n .i64 802),[])) else none:=by kernel_rfl
theorem F_cj (i:Int) (j:J):cjT F_n i j=F_n (cjT (fun e=>e) i j):=by
 unfold cjT;simp only [Bool.apply_cond F_n]
theorem snd_cjp (js:Nat→J) (ms:Nat→Ms) (n m:Nat) (hn:n≤50) (i:Nat) (hi:i < n):yK Tryz.prog 136 [(.a [.lf n (fJ js),.lf m (fM ms)]),.n .i64 i] (.v (.n .i64 (jErr js n i))):=by
 refine qH (N:=60) yJ zG (OrL.ok (l:=[(53,o_nm),(164,o_fd js ms n m)]) ⟨ok_tn,kJH js ms n m hn,trivial⟩) ?_;rw [tr_cjp,yX hi,vYV,toN,zXW,vYV,cp_cj,F_cj];have hd:=fnd_dup js i n 0 (by omega) (by omega);rw [Nat.sub_zero] at hd;unfold jErr;cases nmB (js i).name with
 | false=>rfl
 | true =>
  cases hq:dup js (js i).name i 0 with
  | false=>rw [vJQ (hd.2 hq)]; rfl
  | true=>rw [vYH (fun h=>by rw [hd.1 h] at hq; cases hq)]; rfl
def hC (js:Nat→J) (n:Nat) (i:Int) (k:Int):St:=⟨[(0,.v (.lf n (fJ js))),(1,.v (.n .i64 i)),(5,.p 5 0),(6,.v (.n .i64 k))],[(5,.blk [.v (.s (js (i).toNat).name),.v (.n .i64 (js (i).toNat).kind),.v (.n .i64 (js (i).toNat).parent),.v (.n .i64 (js (i).toNat).off.x),.v (.n .i64 (js (i).toNat).off.y),.v (.n .i64 (js (i).toNat).off.z),.v (.n .i64 (js (i).toNat).lo),.v (.n .i64 (js (i).toNat).hi),.v (.n .i64 (js (i).toNat).weight),.v (.n .i64 (js (i).toNat).speed),.v (.n .i64 (js (i).toNat).accel),.v (.n .i64 (js (i).toNat).torque)])]⟩
set_option maxRecDepth 100000 in
theorem rdC (G:St→Option (Ret × Mem)) (K:Cont) (js:Nat→J) (n:Nat) (i:Int) (k:Int):qVQ 60 (cxF T (OrL.k [(106,o_nm)]) 60 113 (ntmF T 113)) (ckF T (OrL.k [(106,o_nm)]) 60) (qQ T 113 [0,1,0,1,1,1]) (fun e τ=>match e with
 | .normal=>G (qUX ((cxF T (OrL.k [(106,o_nm)]) 60 113 (ntmF T 113)).T.hint (cxF T (OrL.k [(106,o_nm)]) 60 113 (ntmF T 113)).me (qJ (qQ T 113 [0,1,0,1,1,1]))) τ)
 | e=>K e (qKZ ((cxF T (OrL.k [(106,o_nm)]) 60 113 (ntmF T 113)).T.hint (cxF T (OrL.k [(106,o_nm)]) 60 113 (ntmF T 113)).me (qJ (qQ T 113 [0,1,0,1,1,1]))) τ)) (hC js n i k) =
 (bif (decide (k < i)) then (bif (inB k n) then (bif ((js (k).toNat).name.toList == (js (i).toNat).name.toList) then (K .ret ⟨[(1,.v (.n .i64 i)),(4,.v (.n .i64 802)),(5,.p 5 0)],[(5,.blk [.v (.s (js (i).toNat).name),.v (.n .i64 (js (i).toNat).kind),.v (.n .i64 (js (i).toNat).parent),.v (.n .i64 (js (i).toNat).off.x),.v (.n .i64 (js (i).toNat).off.y),.v (.n .i64 (js (i).toNat).off.z),.v (.n .i64 (js (i).toNat).lo),.v (.n .i64 (js (i).toNat).hi),.v (.n .i64 (js (i).toNat).weight),.v (.n .i64 (js (i).toNat).speed),.v (.n .i64 (js (i).toNat).accel),.v (.n .i64 (js (i).toNat).torque)])]⟩)
 else (G (hC js n i (vJJ .i64 (k + 1)))))
 else none)
 else (K (.exit 0) ⟨[(1,.v (.n .i64 i)),(5,.p 5 0)],[(5,.blk [.v (.s (js (i).toNat).name),.v (.n .i64 (js (i).toNat).kind),.v (.n .i64 (js (i).toNat).parent),.v (.n .i64 (js (i).toNat).off.x),.v (.n .i64 (js (i).toNat).off.y),.v (.n .i64 (js (i).toNat).off.z),.v (.n .i64 (js (i).toNat).lo),.v (.n .i64 (js (i).toNat).hi),.v (.n .i64 (js (i).toNat).weight),.v (.n .i64 (js (i).toNat).speed),.v (.n .i64 (js (i).toNat).accel),.v (.n .i64 (js (i).toNat).torque)])]⟩)):=by kernel_rfl
def rC (js:Nat→J) (i:Int):St:=⟨[(1,.v (.n .i64 i)),(4,.v (.n .i64 802)),(5,.p 5 0)],[(5,.blk [.v (.s (js (i).toNat).name),.v (.n .i64 (js (i).toNat).kind),.v (.n .i64 (js (i).toNat).parent),.v (.n .i64 (js (i).toNat).off.x),.v (.n .i64 (js (i).toNat).off.y),.v (.n .i64 (js (i).toNat).off.z),.v (.n .i64 (js (i).toNat).lo),.v (.n .i64 (js (i).toNat).hi),.v (.n .i64 (js (i).toNat).weight),.v (.n .i64 (js (i).toNat).speed),.v (.n .i64 (js (i).toNat).accel),.v (.n .i64 (js (i).toNat).torque)])]⟩
def oC (js:Nat→J) (i:Int):St:=⟨[(1,.v (.n .i64 i)),(5,.p 5 0)],[(5,.blk [.v (.s (js (i).toNat).name),.v (.n .i64 (js (i).toNat).kind),.v (.n .i64 (js (i).toNat).parent),.v (.n .i64 (js (i).toNat).off.x),.v (.n .i64 (js (i).toNat).off.y),.v (.n .i64 (js (i).toNat).off.z),.v (.n .i64 (js (i).toNat).lo),.v (.n .i64 (js (i).toNat).hi),.v (.n .i64 (js (i).toNat).weight),.v (.n .i64 (js (i).toNat).speed),.v (.n .i64 (js (i).toNat).accel),.v (.n .i64 (js (i).toNat).torque)])]⟩
theorem lpC (K:Cont) (js:Nat→J) (n i:Nat) (hn:n≤1000) (hi:i < n):∀ (k p q:Nat),p + k=i→k < q→LF 60 (cxF T (OrL.k [(106,o_nm)]) 60 113 (ntmF T 113)) (ckF T (OrL.k [(106,o_nm)]) 60) (qQ T 113 [0,1,0,1,1,1]) ((cxF T (OrL.k [(106,o_nm)]) 60 113 (ntmF T 113)).T.hint (cxF T (OrL.k [(106,o_nm)]) 60 113 (ntmF T 113)).me (qJ (qQ T 113 [0,1,0,1,1,1]))) K q (hC js n i p)=bif dup js (js i).name k p then (K .ret (rC js i)) else (K (.exit 0) (oC js i))
 | 0,p,q + 1,hp,hq=>by
  refine (rdC (fun σ=>LF 60 (cxF T (OrL.k [(106,o_nm)]) 60 113 (ntmF T 113)) (ckF T (OrL.k [(106,o_nm)]) 60) (qQ T 113 [0,1,0,1,1,1]) ((cxF T (OrL.k [(106,o_nm)]) 60 113 (ntmF T 113)).T.hint (cxF T (OrL.k [(106,o_nm)]) 60 113 (ntmF T 113)).me (qJ (qQ T 113 [0,1,0,1,1,1]))) K q σ) K js n i p).trans ?_;rw [vYH (show ¬ (p:Int) < (i:Int) by omega)];rfl
 | k + 1,p,q + 1,hp,hq=>by
  refine (rdC (fun σ=>LF 60 (cxF T (OrL.k [(106,o_nm)]) 60 113 (ntmF T 113)) (ckF T (OrL.k [(106,o_nm)]) 60) (qQ T 113 [0,1,0,1,1,1]) ((cxF T (OrL.k [(106,o_nm)]) 60 113 (ntmF T 113)).T.hint (cxF T (OrL.k [(106,o_nm)]) 60 113 (ntmF T 113)).me (qJ (qQ T 113 [0,1,0,1,1,1]))) K q σ) K js n i p).trans ?_;rw [vJQ (show (p:Int) < (i:Int) by omega),yX (show p < n by omega),kW (by omega),lpC K js n i hn hi k (p + 1) q (by omega) (by omega),toN,toN];simp only [vYV,dup];cases ((js p).name.toList == (js i).name.toList) <;> rfl
set_option maxRecDepth 100000 in
theorem pxC (js:Nat→J) (n:Nat) (i:Int):qHV T (OrL.k [(106,o_nm)]) (qZ [([0,1,0,1,1,1],uU (hC js n i 0) (fun K=>bif dup js (js i.toNat).name i.toNat 0 then (K .ret (rC js i)) else (K (.exit 0) (oC js i))))]) 60 113 [.lf n (fJ js),.n .i64 i] =
 bif inB i n then (bif nmB (js i.toNat).name then (bif gSt (hC js n i 0) (hC js n i 0) then (bif dup js (js i.toNat).name i.toNat 0 then some (.v (.n .i64 802),[]) else cjT F_n i (js i.toNat)) else none) else some (.v (.n .i64 802),[])) else none:=by kernel_rfl
theorem snd_cjr (js:Nat→J) (n:Nat) (_:n≤50) (i:Nat) (hi:i < n):yK Tryz.prog 113 [.lf n (fJ js),.n .i64 i] (.v (.n .i64 (jErr js n i))):=by
 refine uX (N:=60) (LO:=qZ [([0,1,0,1,1,1],uU (hC js n (i:Int) 0) (fun K=>bif dup js (js (i:Int).toNat).name (i:Int).toNat 0 then (K .ret (rC js i)) else (K (.exit 0) (oC js i))))]) yJ zG (OrL.ok (l:=[(106,o_nm)]) ⟨ok_rn,trivial⟩) (fun p S hp => ?_) ?_
 ·refine qZK (L:=qQ T 113) (l:=[([0,1,0,1,1,1],uU (hC js n (i:Int) 0) (fun K=>bif dup js (js (i:Int).toNat).name (i:Int).toNat 0 then (K .ret (rC js i)) else (K (.exit 0) (oC js i))))]) (show AllP _ [([0,1,0,1,1,1],uU (hC js n (i:Int) 0) (fun K=>bif dup js (js (i:Int).toNat).name (i:Int).toNat 0 then (K .ret (rC js i)) else (K (.exit 0) (oC js i))))] from ⟨qJH fun K r hr => ?_,trivial⟩) p S hp
  have:=lpC K js n i (by omega) hi i 0 60 (by omega) (by omega)
  rw [toN] at hr;exact this.trans hr
 ·refine (pxC js n i).trans ?_;rw [yX hi,vYV,toN,yU,vYV,F_cj];unfold jErr;cases nmB (js i).name <;> cases dup js (js i).name i 0 <;> rfl
end Go.Proofs.YtgmbkkkbfbocnaaGreat.Nb
namespace Go.Proofs.YtgmbkkkbfbocnaaGreat.Nc
open Go.Rx Rt Go.Sx Go.RowKit Od
open Na Nb
def MOK (n:Nat) (q:Ms):Prop:=(0≤q.link∧q.link < n)∧(1≤q.mass∧q.mass≤65536)∧(-4194304≤q.p.x∧q.p.x≤4194304)∧(-4194304≤q.p.y∧q.p.y≤4194304)∧(-4194304≤q.p.z∧q.p.z≤4194304)
instance (n:Nat) (q:Ms):Decidable (MOK n q):=by unfold MOK; exact inferInstance
def mokB (n:Nat) (q:Ms):Bool:=decide (MOK n q)
def mAll (ms:Nat→Ms) (n:Nat):Nat→Nat→Bool
 | 0,_=>true
 | k + 1,p=>mokB n (ms p) && mAll ms n k (p + 1)
def fbad (ms:Nat→Ms) (n:Nat):Nat→Nat→Int
 | 0,_ => -1
 | k + 1,p=>bif mokB n (ms p) then fbad ms n k (p + 1) else (p:Int)
theorem fbad_all (ms:Nat→Ms) (n:Nat):∀ k p,decide (0≤fbad ms n k p) = !mAll ms n k p
 | 0,p=>rfl
 | k + 1,p=>by
  have ih:=fbad_all ms n k (p + 1);by_cases hq:mokB n (ms p)=true
  ·simp only [fbad,mAll,hq,vYV,vZH];exact ih
  ·rw [Bool.not_eq_true] at hq;simp only [fbad,mAll,hq,vYG,Bool.false_and,Bool.not_false];exact vJQ (by omega)
def jE (js:Nat→J) (n:Nat):Nat→Nat→Int
 | 0,_=>0
 | k + 1,p=>bif decide (jErr js n p=0) then jE js n k (p + 1) else jErr js n p
def rErr (js:Nat→J) (ms:Nat→Ms) (n m:Nat):Int:=bif decide ((n:Int)=0) then 801 else bif decide (10 < (n:Int)) then 801 else bif decide (jE js n n 0=0) then (bif decide (32 < (m:Int)) then 808 else bif mAll ms n m 0 then 0 else 808) else jE js n n 0
def mTp {α:Type} (n:Nat) (q:Ms) (a b:α):α:=(bif (decide (0≤q.link)) then (bif (decide (q.link < (n:Int))) then (bif (decide (1≤q.mass)) then (bif (decide (q.mass≤65536)) then (bif (decide (q.p.x < (-4194304))) then b else (bif (decide (4194304 < q.p.x)) then b else (bif (decide (q.p.y < (-4194304))) then b else (bif (decide (4194304 < q.p.y)) then b else (bif (decide (q.p.z < (-4194304))) then b else (bif (decide (4194304 < q.p.z)) then b else a)))))) else b) else b) else b) else b)
theorem mTp_eq {α:Type} (n:Nat) (q:Ms) (a b:α):mTp n q a b=bif mokB n q then a else b:=by
 unfold mTp mokB;by_cases h:MOK n q
 ·have h':=h;obtain ⟨⟨h1,h2⟩,⟨h3,h4⟩,⟨h5,h6⟩,⟨h7,h8⟩,h9,h10⟩:=h';rw [vJQ h];simp only [vYV];simp only [Bool.cond_eq_ite,decide_eq_true_eq]
  repeat' split
  all_goals first | rfl | (exfalso; omega)
 ·rw [vYH h];unfold MOK at h;simp only [vYG];simp only [Bool.cond_eq_ite,decide_eq_true_eq]
  repeat' split
  all_goals first | rfl | (exfalso; omega) | contradiction
set_option maxRecDepth 100000 in
theorem tr_cl (js:Nat→J) (ms:Nat→Ms) (n m:Nat) (q:Ms):runK T (OrL.k []) 60 138 [.a (mp q),.c [.lf n (fJ js),.lf m (fM ms)] 0]=mTp n q (F_b false) (F_b true):=by kernel_rfl
theorem snd_cl (js:Nat→J) (ms:Nat→Ms) (n m:Nat) (q:Ms):yK Tryz.prog 138 [.a (mp q),.c [.lf n (fJ js),.lf m (fM ms)] 0] (.v (.b (!mokB n q))):=by
 refine qH (N:=60) yJ zG (OrL.ok (l:=[]) trivial) ?_;rw [tr_cl,mTp_eq];cases mokB n q <;> rfl
noncomputable def o_cl (js:Nat→J) (ms:Nat→Ms) (n m:Nat):List PV→Option (Bool × Ret):=fun ps=>match ps with
 | [.a [.n .i64 a0,.n .i64 a1,.n .i64 a2,.n .i64 a3,.n .i64 a4],c]=>some (gEq c (.c [.lf n (fJ js),.lf m (fM ms)] 0),.v (.b (!mokB n ⟨a0,a1,⟨a2,a3,a4⟩⟩)))
 | _=>none
theorem ok_cl (js:Nat→J) (ms:Nat→Ms) (n m:Nat):zJ Tryz.prog 138 (o_cl js ms n m):=by
 intro ps r hh;unfold o_cl at hh;split at hh
 ·simp only [vQZ,vQY] at hh;obtain ⟨hg,rfl⟩:=hh;obtain rfl:=yKW hg;exact snd_cl js ms n m ⟨_,_,⟨_,_,_⟩⟩
 ·cases hh
def hI (js:Nat→J) (ms:Nat→Ms) (n m:Nat) (i:Int):St:=⟨[(0,.v (.lf m (fM ms))),(1,.v (.f 138 [] [.c [.lf n (fJ js),.lf m (fM ms)] 0])),(7,.v (.n .i64 (m:Int))),(8,.v (.n .i64 i))],[]⟩
set_option maxRecDepth 100000 in
theorem rdI (G:St→Option (Ret × Mem)) (K:Cont) (js:Nat→J) (ms:Nat→Ms) (n m:Nat) (i:Int):qVQ 60 (cxF T (OrL.k [(138,o_cl js ms n m)]) 60 168 (ntmF T 168)) (ckF T (OrL.k [(138,o_cl js ms n m)]) 60) (qQ T 168 [0,1,0,1]) (fun e τ=>match e with
 | .normal=>G (qUX ((cxF T (OrL.k [(138,o_cl js ms n m)]) 60 168 (ntmF T 168)).T.hint (cxF T (OrL.k [(138,o_cl js ms n m)]) 60 168 (ntmF T 168)).me (qJ (qQ T 168 [0,1,0,1]))) τ)
 | e=>K e (qKZ ((cxF T (OrL.k [(138,o_cl js ms n m)]) 60 168 (ntmF T 168)).T.hint (cxF T (OrL.k [(138,o_cl js ms n m)]) 60 168 (ntmF T 168)).me (qJ (qQ T 168 [0,1,0,1]))) τ)) (hI js ms n m i) =
 (bif (decide (i < (m:Int))) then (bif (inB i m) then (bif (gEq (.c [.lf n (fJ js),.lf m (fM ms)] 0) (.c [.lf n (fJ js),.lf m (fM ms)] 0)) then (bif (!mokB n (ms (i).toNat)) then (K .ret ⟨[(4,.v (.n .i64 i))],[]⟩)
 else (G (hI js ms n m (vJJ .i64 (i + 1)))))
 else none)
 else none)
 else (K (.exit 0) ⟨[],[]⟩)):=by kernel_rfl
theorem lpI (K:Cont) (js:Nat→J) (ms:Nat→Ms) (n m:Nat) (hm:m≤1000):∀ (k p q:Nat),p + k=m→k < q→LF 60 (cxF T (OrL.k [(138,o_cl js ms n m)]) 60 168 (ntmF T 168)) (ckF T (OrL.k [(138,o_cl js ms n m)]) 60) (qQ T 168 [0,1,0,1]) ((cxF T (OrL.k [(138,o_cl js ms n m)]) 60 168 (ntmF T 168)).T.hint (cxF T (OrL.k [(138,o_cl js ms n m)]) 60 168 (ntmF T 168)).me (qJ (qQ T 168 [0,1,0,1]))) K q (hI js ms n m p)=(bif decide (fbad ms n k p = -1) then K (.exit 0) ⟨[],[]⟩ else K .ret ⟨[(4,.v (.n .i64 (fbad ms n k p)))],[]⟩)
 | 0,p,q + 1,hp,hq=>by
  refine (rdI (fun σ=>LF 60 (cxF T (OrL.k [(138,o_cl js ms n m)]) 60 168 (ntmF T 168)) (ckF T (OrL.k [(138,o_cl js ms n m)]) 60) (qQ T 168 [0,1,0,1]) ((cxF T (OrL.k [(138,o_cl js ms n m)]) 60 168 (ntmF T 168)).T.hint (cxF T (OrL.k [(138,o_cl js ms n m)]) 60 168 (ntmF T 168)).me (qJ (qQ T 168 [0,1,0,1]))) K q σ) K js ms n m p).trans ?_;rw [vYH (show ¬ (p:Int) < (m:Int) by omega)];rfl
 | k + 1,p,q + 1,hp,hq=>by
  refine (rdI (fun σ=>LF 60 (cxF T (OrL.k [(138,o_cl js ms n m)]) 60 168 (ntmF T 168)) (ckF T (OrL.k [(138,o_cl js ms n m)]) 60) (qQ T 168 [0,1,0,1]) ((cxF T (OrL.k [(138,o_cl js ms n m)]) 60 168 (ntmF T 168)).T.hint (cxF T (OrL.k [(138,o_cl js ms n m)]) 60 168 (ntmF T 168)).me (qJ (qQ T 168 [0,1,0,1]))) K q σ) K js ms n m p).trans ?_;rw [vJQ (show (p:Int) < (m:Int) by omega),yX (show p < m by omega),kW (by omega),lpI K js ms n m hm k (p + 1) q (by omega) (by omega),toN,zXW];by_cases hq:mokB n (ms p)=true
  ·simp only [fbad,hq,vYV,vYG,Bool.not_true]
  ·rw [Bool.not_eq_true] at hq;simp only [fbad,hq,vYV,vYG,Bool.not_false,vYH (show ¬ (p:Int) = -1 by omega)]
set_option maxRecDepth 100000 in
theorem pxI (js:Nat→J) (ms:Nat→Ms) (n m:Nat):qHV T (OrL.k [(138,o_cl js ms n m)]) (qZ [([0,1,0,1],uU (hI js ms n m 0) (fun K=>(bif decide (fbad ms n m 0 = -1) then K (.exit 0) ⟨[],[]⟩ else K .ret ⟨[(4,.v (.n .i64 (fbad ms n m 0)))],[]⟩)))]) 60 168 [.lf m (fM ms),.f 138 [] [.c [.lf n (fJ js),.lf m (fM ms)] 0]] =
 bif gSt (hI js ms n m 0) (hI js ms n m 0) then (bif decide (fbad ms n m 0 = -1) then some (.v (.n .i64 (-1)),[]) else some (.v (.n .i64 (fbad ms n m 0)),[])) else none:=by kernel_rfl
theorem snd_if (js:Nat→J) (ms:Nat→Ms) (n m:Nat) (_:m≤50):yK Tryz.prog 168 [.lf m (fM ms),.f 138 [] [.c [.lf n (fJ js),.lf m (fM ms)] 0]] (.v (.n .i64 (fbad ms n m 0))):=by
 refine uX (N:=60) (LO:=qZ [([0,1,0,1],uU (hI js ms n m 0) (fun K=>(bif decide (fbad ms n m 0 = -1) then K (.exit 0) ⟨[],[]⟩ else K .ret ⟨[(4,.v (.n .i64 (fbad ms n m 0)))],[]⟩)))]) yJ zG (OrL.ok (l:=[(138,o_cl js ms n m)]) ⟨ok_cl js ms n m,trivial⟩) (fun p S hp => ?_) ?_
 ·refine qZK (L:=qQ T 168) (l:=[([0,1,0,1],uU (hI js ms n m 0) (fun K=>(bif decide (fbad ms n m 0 = -1) then K (.exit 0) ⟨[],[]⟩ else K .ret ⟨[(4,.v (.n .i64 (fbad ms n m 0)))],[]⟩)))]) (show AllP _ [([0,1,0,1],uU (hI js ms n m 0) (fun K=>(bif decide (fbad ms n m 0 = -1) then K (.exit 0) ⟨[],[]⟩ else K .ret ⟨[(4,.v (.n .i64 (fbad ms n m 0)))],[]⟩)))] from ⟨qJH fun K r hr => ?_,trivial⟩) p S hp;exact (lpI K js ms n m (by omega) m 0 60 (by omega) (by omega)).trans hr
 ·refine (pxI js ms n m).trans ?_;rw [yU,vYV];by_cases h:fbad ms n m 0 = -1
  ·rw [vJQ h,h]; rfl
  ·rw [vYH h]; rfl
theorem snd_cf (js:Nat→J) (ms:Nat→Ms) (n m:Nat) (hm:m≤50):yK Tryz.prog 137 [.lf m (fM ms),.f 138 [] [.c [.lf n (fJ js),.lf m (fM ms)] 0]] (.v (.b (!mAll ms n m 0))):=by
 refine qH (N:=60) yJ zG (OrL.ok (l:=[(168,o_cr [.lf m (fM ms),.f 138 [] [.c [.lf n (fJ js),.lf m (fM ms)] 0]] (.v (.n .i64 (fbad ms n m 0))))]) ⟨zJX (snd_if js ms n m hm),trivial⟩) ?_;refine (by kernel_rfl:_=bif (g1 [.lf m (fM ms),.f 138 [] [.c [.lf n (fJ js),.lf m (fM ms)] 0]]) then (bif (decide (0≤(fbad ms n m 0))) then some (.v (.b true),[])
 else some (.v (.b false),[]))
 else none).trans ?_
 rw [g1_t,vYV,← fbad_all];cases decide (0≤fbad ms n m 0) <;> rfl
noncomputable def qGY (js:Nat→J) (ms:Nat→Ms) (n m:Nat):List PV→Option (Bool × Ret):=fun ps=>match ps with
 | [r,.n .i64 i]=>some (gEq r (.a [.lf n (fJ js),.lf m (fM ms)]) && (inB i n && decide (n≤50)),.v (.n .i64 (jErr js n i.toNat)))
 | _=>none
theorem ok_o_cjp (js:Nat→J) (ms:Nat→Ms) (n m:Nat):zJ Tryz.prog 136 (qGY js ms n m):=by
 intro ps r hh;unfold qGY at hh;split at hh
 ·simp only [vQZ,vQY,vQJ] at hh;obtain ⟨⟨hg,hi,hd⟩,rfl⟩:=hh;obtain rfl:=yKW hg;have hn:=vJZ hd;obtain ⟨i0,i1⟩:=qGV hi;rename_i i
  have:=snd_cjp js ms n m hn i.toNat (by omega)
  rw [show ((i.toNat:Nat):Int)=i by omega] at this;exact this
 ·cases hh
noncomputable def qYV (js:Nat→J) (_:Nat→Ms) (n m:Nat):List PV→Option (Bool × Ret):=fun ps=>match ps with
 | [r,.n .i64 i]=>some (gEq r (.lf n (fJ js)) && (inB i n && decide (n≤50)),.v (.n .i64 (jErr js n i.toNat)))
 | _=>none
theorem ok_o_cjr (js:Nat→J) (ms:Nat→Ms) (n m:Nat):zJ Tryz.prog 113 (qYV js ms n m):=by
 intro ps r hh;unfold qYV at hh;split at hh
 ·simp only [vQZ,vQY,vQJ] at hh;obtain ⟨⟨hg,hi,hd⟩,rfl⟩:=hh;obtain rfl:=yKW hg;have hn:=vJZ hd;obtain ⟨i0,i1⟩:=qGV hi;rename_i i
  have:=snd_cjr js n hn i.toNat (by omega)
  rw [show ((i.toNat:Nat):Int)=i by omega] at this;exact this
 ·cases hh
noncomputable def qGJ (js:Nat→J) (ms:Nat→Ms) (n m:Nat):List PV→Option (Bool × Ret):=fun ps=>some (gEq (.t ps) (.t [.lf m (fM ms),.f 138 [] [.c [.lf n (fJ js),.lf m (fM ms)] 0]]) && decide (m≤50),.v (.b (!mAll ms n m 0)))
theorem ok_cfm (js:Nat→J) (ms:Nat→Ms) (n m:Nat):zJ Tryz.prog 137 (qGJ js ms n m):=by
 intro ps q hh;unfold qGJ at hh;simp only [vQZ,vQY,vQJ] at hh;obtain ⟨⟨hg,hm⟩,rfl⟩:=hh
 have:=yKW hg
 simp only [PV.t.injEq] at this;rw [this];exact snd_cf js ms n m (vJZ hm)
def hK (js:Nat→J) (ms:Nat→Ms) (n m:Nat) (i:Int):St:=⟨[(1,.p 1 0),(17,.v (.n .i64 (n:Int))),(18,.v (.n .i64 i))],[(1,.blk [.v (.lf n (fJ js)),.v (.lf m (fM ms))])]⟩
set_option maxRecDepth 100000 in
theorem rdK (G:St→Option (Ret × Mem)) (K:Cont) (js:Nat→J) (ms:Nat→Ms) (n m:Nat) (i:Int):qVQ 60 (cxF T (OrL.k [(136,qGY js ms n m),(137,qGJ js ms n m)]) 60 85 (ntmF T 85)) (ckF T (OrL.k [(136,qGY js ms n m),(137,qGJ js ms n m)]) 60) (qQ T 85 [0,1,0,1,1]) (fun e τ=>match e with
 | .normal=>G (qUX ((cxF T (OrL.k [(136,qGY js ms n m),(137,qGJ js ms n m)]) 60 85 (ntmF T 85)).T.hint (cxF T (OrL.k [(136,qGY js ms n m),(137,qGJ js ms n m)]) 60 85 (ntmF T 85)).me (qJ (qQ T 85 [0,1,0,1,1]))) τ)
 | e=>K e (qKZ ((cxF T (OrL.k [(136,qGY js ms n m),(137,qGJ js ms n m)]) 60 85 (ntmF T 85)).T.hint (cxF T (OrL.k [(136,qGY js ms n m),(137,qGJ js ms n m)]) 60 85 (ntmF T 85)).me (qJ (qQ T 85 [0,1,0,1,1]))) τ)) (hK js ms n m i) =
 (bif (decide (i < (n:Int))) then (bif (gEq (.a [.lf n (fJ js),.lf m (fM ms)]) (.a [.lf n (fJ js),.lf m (fM ms)]) && (inB i n && decide (n≤50))) then (bif (!decide ((jErr js n (i).toNat)=0)) then (K .ret ⟨[(1,.p 1 0),(2,.v (.n .i64 (jErr js n (i).toNat)))],[(1,.blk [.v (.lf n (fJ js)),.v (.lf m (fM ms))])]⟩)
 else (G (hK js ms n m (vJJ .i64 (i + 1)))))
 else none)
 else (K (.exit 0) ⟨[(1,.p 1 0)],[(1,.blk [.v (.lf n (fJ js)),.v (.lf m (fM ms))])]⟩)):=by kernel_rfl
def rK (js:Nat→J) (ms:Nat→Ms) (n m:Nat) (e:Int):St:=⟨[(1,.p 1 0),(2,.v (.n .i64 e))],[(1,.blk [.v (.lf n (fJ js)),.v (.lf m (fM ms))])]⟩
def oK (js:Nat→J) (ms:Nat→Ms) (n m:Nat):St:=⟨[(1,.p 1 0)],[(1,.blk [.v (.lf n (fJ js)),.v (.lf m (fM ms))])]⟩
theorem lpK (K:Cont) (js:Nat→J) (ms:Nat→Ms) (n m:Nat) (hn:n≤10):∀ (k p q:Nat),p + k=n→k < q→LF 60 (cxF T (OrL.k [(136,qGY js ms n m),(137,qGJ js ms n m)]) 60 85 (ntmF T 85)) (ckF T (OrL.k [(136,qGY js ms n m),(137,qGJ js ms n m)]) 60) (qQ T 85 [0,1,0,1,1]) ((cxF T (OrL.k [(136,qGY js ms n m),(137,qGJ js ms n m)]) 60 85 (ntmF T 85)).T.hint (cxF T (OrL.k [(136,qGY js ms n m),(137,qGJ js ms n m)]) 60 85 (ntmF T 85)).me (qJ (qQ T 85 [0,1,0,1,1]))) K q (hK js ms n m p)=(bif decide (jE js n k p=0) then (K (.exit 0) (oK js ms n m)) else (K .ret (rK js ms n m (jE js n k p))))
 | 0,p,q + 1,hp,hq=>by
  refine (rdK (fun σ=>LF 60 (cxF T (OrL.k [(136,qGY js ms n m),(137,qGJ js ms n m)]) 60 85 (ntmF T 85)) (ckF T (OrL.k [(136,qGY js ms n m),(137,qGJ js ms n m)]) 60) (qQ T 85 [0,1,0,1,1]) ((cxF T (OrL.k [(136,qGY js ms n m),(137,qGJ js ms n m)]) 60 85 (ntmF T 85)).T.hint (cxF T (OrL.k [(136,qGY js ms n m),(137,qGJ js ms n m)]) 60 85 (ntmF T 85)).me (qJ (qQ T 85 [0,1,0,1,1]))) K q σ) K js ms n m p).trans ?_;rw [vYH (show ¬ (p:Int) < (n:Int) by omega)];rfl
 | k + 1,p,q + 1,hp,hq=>by
  refine (rdK (fun σ=>LF 60 (cxF T (OrL.k [(136,qGY js ms n m),(137,qGJ js ms n m)]) 60 85 (ntmF T 85)) (ckF T (OrL.k [(136,qGY js ms n m),(137,qGJ js ms n m)]) 60) (qQ T 85 [0,1,0,1,1]) ((cxF T (OrL.k [(136,qGY js ms n m),(137,qGJ js ms n m)]) 60 85 (ntmF T 85)).T.hint (cxF T (OrL.k [(136,qGY js ms n m),(137,qGJ js ms n m)]) 60 85 (ntmF T 85)).me (qJ (qQ T 85 [0,1,0,1,1]))) K q σ) K js ms n m p).trans ?_;rw [vJQ (show (p:Int) < (n:Int) by omega),yX (show p < n by omega),kW (by omega),lpK K js ms n m hn k (p + 1) q (by omega) (by omega),toN,zXW,vJQ (show n≤50 by omega)];by_cases hq:jErr js n p=0
  ·simp only [jE,vJQ hq,vYV,vYG,Bool.not_true,vZJ]
  ·simp only [jE,vYH hq,vYV,vYG,Bool.not_false,vZJ];rfl
set_option maxRecDepth 100000 in
theorem pxK (js:Nat→J) (ms:Nat→Ms) (n m:Nat):qHV T (OrL.k [(136,qGY js ms n m),(137,qGJ js ms n m)]) (qZ [([0,1,0,1,1],uU (hK js ms n m 0) (fun K=>bif decide (10 < (n:Int)) then none else (bif decide (jE js n n 0=0) then (K (.exit 0) (oK js ms n m)) else (K .ret (rK js ms n m (jE js n n 0))))))]) 60 85 [(.a [.lf n (fJ js),.lf m (fM ms)])] =
 bif decide ((n:Int)=0) then some (.v (.n .i64 801),[]) else (bif decide (10 < (n:Int)) then some (.v (.n .i64 801),[]) else (bif gSt (hK js ms n m 0) (hK js ms n m 0) then (bif decide (10 < (n:Int)) then none else (bif decide (jE js n n 0=0) then bif (decide (32 < (m:Int))) then some (.v (.n .i64 808),[])
 else bif (g1 [.lf m (fM ms),.f 138 [] [.c [.lf n (fJ js),.lf m (fM ms)] 0]] && decide (m≤50)) then (bif (!mAll ms n m 0) then some (.v (.n .i64 808),[])
 else some (.v (.n .i64 0),[]))
 else none else some (.v (.n .i64 (jE js n n 0)),[]))) else none)):=by kernel_rfl
theorem jJK (js:Nat→J) (ms:Nat→Ms) (n m:Nat):yK Tryz.prog 85 [(.a [.lf n (fJ js),.lf m (fM ms)])] (.v (.n .i64 (rErr js ms n m))):=by
 refine uX (N:=60) (LO:=qZ [([0,1,0,1,1],uU (hK js ms n m 0) (fun K=>bif decide (10 < (n:Int)) then none else (bif decide (jE js n n 0=0) then (K (.exit 0) (oK js ms n m)) else (K .ret (rK js ms n m (jE js n n 0))))))]) yJ zG (OrL.ok (l:=[(136,qGY js ms n m),(137,qGJ js ms n m)]) ⟨ok_o_cjp js ms n m,ok_cfm js ms n m,trivial⟩) (fun p S hp => ?_) ?_
 ·refine qZK (L:=qQ T 85) (l:=[([0,1,0,1,1],uU (hK js ms n m 0) (fun K=>bif decide (10 < (n:Int)) then none else (bif decide (jE js n n 0=0) then (K (.exit 0) (oK js ms n m)) else (K .ret (rK js ms n m (jE js n n 0))))))]) (show AllP _ [([0,1,0,1,1],uU (hK js ms n m 0) (fun K=>bif decide (10 < (n:Int)) then none else (bif decide (jE js n n 0=0) then (K (.exit 0) (oK js ms n m)) else (K .ret (rK js ms n m (jE js n n 0))))))] from ⟨qJH fun K r hr => ?_,trivial⟩) p S hp;cases hq:decide (10 < (n:Int)) with
  | true=>rw [hq] at hr; cases hr
  | false =>
   rw [hq] at hr;have h10:=vJY hq;exact (lpK K js ms n m (by omega) n 0 60 (by omega) (by omega)).trans hr
 ·refine (pxK js ms n m).trans ?_;unfold rErr;rw [yU,g1_t];by_cases h0:(n:Int)=0
  ·rw [vJQ h0]; rfl
  rw [vYH h0];by_cases h10:10 < (n:Int)
  ·rw [vJQ h10]; rfl
  rw [vYH h10];by_cases hj:jE js n n 0=0
  ·rw [vJQ hj];by_cases h32:32 < (m:Int)
   ·rw [vJQ h32]; rfl
   rw [vYH h32,vJQ (show m≤50 by omega)];cases mAll ms n m 0 <;> rfl
  ·rw [vYH hj]; rfl
def hQ (js:Nat→J) (ms:Nat→Ms) (n m:Nat) (i:Int):St:=⟨[(1,.p 1 0),(3,.v (.n .i64 i))],[(1,.blk [.v (.lf n (fJ js)),.v (.lf m (fM ms))])]⟩
set_option maxRecDepth 100000 in
theorem rdQ (G:St→Option (Ret × Mem)) (K:Cont) (js:Nat→J) (ms:Nat→Ms) (n m:Nat) (i:Int):qVQ 60 (cxF T (OrL.k [(113,qYV js ms n m)]) 60 65 (ntmF T 65)) (ckF T (OrL.k [(113,qYV js ms n m)]) 60) (qQ T 65 [0,1,0,1,1]) (fun e τ=>match e with
 | .normal=>G (qUX ((cxF T (OrL.k [(113,qYV js ms n m)]) 60 65 (ntmF T 65)).T.hint (cxF T (OrL.k [(113,qYV js ms n m)]) 60 65 (ntmF T 65)).me (qJ (qQ T 65 [0,1,0,1,1]))) τ)
 | e=>K e (qKZ ((cxF T (OrL.k [(113,qYV js ms n m)]) 60 65 (ntmF T 65)).T.hint (cxF T (OrL.k [(113,qYV js ms n m)]) 60 65 (ntmF T 65)).me (qJ (qQ T 65 [0,1,0,1,1]))) τ)) (hQ js ms n m i) =
 (bif (decide (i < (n:Int))) then (bif (gEq (.lf n (fJ js)) (.lf n (fJ js)) && (inB i n && decide (n≤50))) then (bif (!decide ((jErr js n (i).toNat)=0)) then (K .ret ⟨[(1,.p 1 0),(2,.v (.n .i64 (jErr js n (i).toNat)))],[(1,.blk [.v (.lf n (fJ js)),.v (.lf m (fM ms))])]⟩)
 else (G (hQ js ms n m (vJJ .i64 (i + 1)))))
 else none)
 else (K (.exit 0) ⟨[(1,.p 1 0)],[(1,.blk [.v (.lf n (fJ js)),.v (.lf m (fM ms))])]⟩)):=by kernel_rfl
def rQ (js:Nat→J) (ms:Nat→Ms) (n m:Nat) (e:Int):St:=⟨[(1,.p 1 0),(2,.v (.n .i64 e))],[(1,.blk [.v (.lf n (fJ js)),.v (.lf m (fM ms))])]⟩
def oQ (js:Nat→J) (ms:Nat→Ms) (n m:Nat):St:=⟨[(1,.p 1 0)],[(1,.blk [.v (.lf n (fJ js)),.v (.lf m (fM ms))])]⟩
theorem lpQ (K:Cont) (js:Nat→J) (ms:Nat→Ms) (n m:Nat) (hn:n≤10):∀ (k p q:Nat),p + k=n→k < q→LF 60 (cxF T (OrL.k [(113,qYV js ms n m)]) 60 65 (ntmF T 65)) (ckF T (OrL.k [(113,qYV js ms n m)]) 60) (qQ T 65 [0,1,0,1,1]) ((cxF T (OrL.k [(113,qYV js ms n m)]) 60 65 (ntmF T 65)).T.hint (cxF T (OrL.k [(113,qYV js ms n m)]) 60 65 (ntmF T 65)).me (qJ (qQ T 65 [0,1,0,1,1]))) K q (hQ js ms n m p)=(bif decide (jE js n k p=0) then (K (.exit 0) (oQ js ms n m)) else (K .ret (rQ js ms n m (jE js n k p))))
 | 0,p,q + 1,hp,hq=>by
  refine (rdQ (fun σ=>LF 60 (cxF T (OrL.k [(113,qYV js ms n m)]) 60 65 (ntmF T 65)) (ckF T (OrL.k [(113,qYV js ms n m)]) 60) (qQ T 65 [0,1,0,1,1]) ((cxF T (OrL.k [(113,qYV js ms n m)]) 60 65 (ntmF T 65)).T.hint (cxF T (OrL.k [(113,qYV js ms n m)]) 60 65 (ntmF T 65)).me (qJ (qQ T 65 [0,1,0,1,1]))) K q σ) K js ms n m p).trans ?_;rw [vYH (show ¬ (p:Int) < (n:Int) by omega)];rfl
 | k + 1,p,q + 1,hp,hq=>by
  refine (rdQ (fun σ=>LF 60 (cxF T (OrL.k [(113,qYV js ms n m)]) 60 65 (ntmF T 65)) (ckF T (OrL.k [(113,qYV js ms n m)]) 60) (qQ T 65 [0,1,0,1,1]) ((cxF T (OrL.k [(113,qYV js ms n m)]) 60 65 (ntmF T 65)).T.hint (cxF T (OrL.k [(113,qYV js ms n m)]) 60 65 (ntmF T 65)).me (qJ (qQ T 65 [0,1,0,1,1]))) K q σ) K js ms n m p).trans ?_;rw [vJQ (show (p:Int) < (n:Int) by omega),yX (show p < n by omega),kW (by omega),lpQ K js ms n m hn k (p + 1) q (by omega) (by omega),toN,zXW,vJQ (show n≤50 by omega)];by_cases hq:jErr js n p=0
  ·simp only [jE,vJQ hq,vYV,vYG,Bool.not_true,vZJ]
  ·simp only [jE,vYH hq,vYV,vYG,Bool.not_false,vZJ];rfl
def hM (js:Nat→J) (ms:Nat→Ms) (n m:Nat) (i:Int):St:=⟨[(1,.p 1 0),(5,.v (.n .i64 i))],[(1,.blk [.v (.lf n (fJ js)),.v (.lf m (fM ms))])]⟩
def rM (_:Nat→J) (_:Nat→Ms) (n m:Nat) (i:Int):St:=⟨[(2,.v (.n .i64 808))],[]⟩
def oM (_:Nat→J) (_:Nat→Ms) (n m:Nat):St:=⟨[],[]⟩
def mTr {α:Type} (n:Nat) (q:Ms) (a b:α):α:=(bif (decide (q.link < 0)) then b else (bif (decide ((n:Int)≤q.link)) then b else (bif (decide (1≤q.mass)) then (bif (decide (q.mass≤65536)) then (bif (decide (q.p.x < (-4194304))) then b else (bif (decide (4194304 < q.p.x)) then b else (bif (decide (q.p.y < (-4194304))) then b else (bif (decide (4194304 < q.p.y)) then b else (bif (decide (q.p.z < (-4194304))) then b else (bif (decide (4194304 < q.p.z)) then b else a)))))) else b) else b)))
theorem mTr_eq {α:Type} (n:Nat) (q:Ms) (a b:α):mTr n q a b=bif mokB n q then a else b:=by
 unfold mTr mokB;by_cases h:MOK n q
 ·have h':=h;obtain ⟨⟨h1,h2⟩,⟨h3,h4⟩,⟨h5,h6⟩,⟨h7,h8⟩,h9,h10⟩:=h';rw [vJQ h];simp only [vYV];simp only [Bool.cond_eq_ite,decide_eq_true_eq]
  repeat' split
  all_goals first | rfl | (exfalso; omega)
 ·rw [vYH h];unfold MOK at h;simp only [vYG];simp only [Bool.cond_eq_ite,decide_eq_true_eq]
  repeat' split
  all_goals first | rfl | (exfalso; omega) | contradiction
set_option maxRecDepth 100000 in
theorem rdM (G:St→Option (Ret × Mem)) (K:Cont) (js:Nat→J) (ms:Nat→Ms) (n m:Nat) (i:Int):qVQ 60 (cxF T (OrL.k [(113,qYV js ms n m)]) 60 65 (ntmF T 65)) (ckF T (OrL.k [(113,qYV js ms n m)]) 60) (qQ T 65 [0,1,0,1,1,1,1]) (fun e τ=>match e with
 | .normal=>G (qUX ((cxF T (OrL.k [(113,qYV js ms n m)]) 60 65 (ntmF T 65)).T.hint (cxF T (OrL.k [(113,qYV js ms n m)]) 60 65 (ntmF T 65)).me (qJ (qQ T 65 [0,1,0,1,1,1,1]))) τ)
 | e=>K e (qKZ ((cxF T (OrL.k [(113,qYV js ms n m)]) 60 65 (ntmF T 65)).T.hint (cxF T (OrL.k [(113,qYV js ms n m)]) 60 65 (ntmF T 65)).me (qJ (qQ T 65 [0,1,0,1,1,1,1]))) τ)) (hM js ms n m i) =
 bif decide (i < (m:Int)) then (bif inB i m then mTr n (ms i.toNat) (G (hM js ms n m (vJJ .i64 (i + 1)))) (K .ret (rM js ms n m 0)) else none) else (K (.exit 2) (oM js ms n m)):=by kernel_rfl
theorem lpM (K:Cont) (js:Nat→J) (ms:Nat→Ms) (n m:Nat) (hm:m≤1000):∀ (k p q:Nat),p + k=m→k < q→LF 60 (cxF T (OrL.k [(113,qYV js ms n m)]) 60 65 (ntmF T 65)) (ckF T (OrL.k [(113,qYV js ms n m)]) 60) (qQ T 65 [0,1,0,1,1,1,1]) ((cxF T (OrL.k [(113,qYV js ms n m)]) 60 65 (ntmF T 65)).T.hint (cxF T (OrL.k [(113,qYV js ms n m)]) 60 65 (ntmF T 65)).me (qJ (qQ T 65 [0,1,0,1,1,1,1]))) K q (hM js ms n m p)=bif mAll ms n k p then (K (.exit 2) (oM js ms n m)) else (K .ret (rM js ms n m 0))
 | 0,p,q + 1,hp,hq=>by
  refine (rdM (fun σ=>LF 60 (cxF T (OrL.k [(113,qYV js ms n m)]) 60 65 (ntmF T 65)) (ckF T (OrL.k [(113,qYV js ms n m)]) 60) (qQ T 65 [0,1,0,1,1,1,1]) ((cxF T (OrL.k [(113,qYV js ms n m)]) 60 65 (ntmF T 65)).T.hint (cxF T (OrL.k [(113,qYV js ms n m)]) 60 65 (ntmF T 65)).me (qJ (qQ T 65 [0,1,0,1,1,1,1]))) K q σ) K js ms n m p).trans ?_;rw [vYH (show ¬ (p:Int) < (m:Int) by omega)];rfl
 | k + 1,p,q + 1,hp,hq=>by
  refine (rdM (fun σ=>LF 60 (cxF T (OrL.k [(113,qYV js ms n m)]) 60 65 (ntmF T 65)) (ckF T (OrL.k [(113,qYV js ms n m)]) 60) (qQ T 65 [0,1,0,1,1,1,1]) ((cxF T (OrL.k [(113,qYV js ms n m)]) 60 65 (ntmF T 65)).T.hint (cxF T (OrL.k [(113,qYV js ms n m)]) 60 65 (ntmF T 65)).me (qJ (qQ T 65 [0,1,0,1,1,1,1]))) K q σ) K js ms n m p).trans ?_;rw [vJQ (show (p:Int) < (m:Int) by omega),yX (show p < m by omega),kW (by omega),lpM K js ms n m hm k (p + 1) q (by omega) (by omega),toN,mTr_eq];by_cases hq:mokB n (ms p)=true
  ·simp only [mAll,hq,vYV,vZH]
  ·rw [Bool.not_eq_true] at hq;simp only [mAll,hq,vYV,vYG,Bool.false_and]
set_option maxRecDepth 100000 in
theorem pxQ (js:Nat→J) (ms:Nat→Ms) (n m:Nat):qHV T (OrL.k [(113,qYV js ms n m)]) (qZ [([0,1,0,1,1],uU (hQ js ms n m 0) (fun K=>bif decide (10 < (n:Int)) then none else (bif decide (jE js n n 0=0) then (K (.exit 0) (oQ js ms n m)) else (K .ret (rQ js ms n m (jE js n n 0)))))),([0,1,0,1,1,1,1],uU (hM js ms n m 0) (fun K=>bif decide (32 < (m:Int)) then none else (bif mAll ms n m 0 then (K (.exit 2) (oM js ms n m)) else (K .ret (rM js ms n m 0)))))]) 60 65 [(.a [.lf n (fJ js),.lf m (fM ms)])] =
 bif decide ((n:Int) < 1) then some (.v (.n .i64 801),[]) else (bif decide (10 < (n:Int)) then some (.v (.n .i64 801),[]) else (bif gSt (hQ js ms n m 0) (hQ js ms n m 0) then (bif decide (10 < (n:Int)) then none else (bif decide (jE js n n 0=0) then (bif decide (32 < (m:Int)) then some (.v (.n .i64 808),[]) else (bif gSt (hM js ms n m 0) (hM js ms n m 0) then (bif decide (32 < (m:Int)) then none else (bif mAll ms n m 0 then some (.v (.n .i64 0),[]) else some (.v (.n .i64 808),[]))) else none)) else some (.v (.n .i64 (jE js n n 0)),[]))) else none)):=by kernel_rfl
theorem yWX (js:Nat→J) (ms:Nat→Ms) (n m:Nat):yK Tryz.prog 65 [(.a [.lf n (fJ js),.lf m (fM ms)])] (.v (.n .i64 (rErr js ms n m))):=by
 refine uX (N:=60) (LO:=qZ [([0,1,0,1,1],uU (hQ js ms n m 0) (fun K=>bif decide (10 < (n:Int)) then none else (bif decide (jE js n n 0=0) then (K (.exit 0) (oQ js ms n m)) else (K .ret (rQ js ms n m (jE js n n 0)))))),([0,1,0,1,1,1,1],uU (hM js ms n m 0) (fun K=>bif decide (32 < (m:Int)) then none else (bif mAll ms n m 0 then (K (.exit 2) (oM js ms n m)) else (K .ret (rM js ms n m 0)))))]) yJ zG (OrL.ok (l:=[(113,qYV js ms n m)]) ⟨ok_o_cjr js ms n m,trivial⟩) (fun p S hp => ?_) ?_
 ·refine qZK (L:=qQ T 65) (l:=[([0,1,0,1,1],uU (hQ js ms n m 0) (fun K=>bif decide (10 < (n:Int)) then none else (bif decide (jE js n n 0=0) then (K (.exit 0) (oQ js ms n m)) else (K .ret (rQ js ms n m (jE js n n 0)))))),([0,1,0,1,1,1,1],uU (hM js ms n m 0) (fun K=>bif decide (32 < (m:Int)) then none else (bif mAll ms n m 0 then (K (.exit 2) (oM js ms n m)) else (K .ret (rM js ms n m 0)))))]) (show AllP _ [([0,1,0,1,1],uU (hQ js ms n m 0) (fun K=>bif decide (10 < (n:Int)) then none else (bif decide (jE js n n 0=0) then (K (.exit 0) (oQ js ms n m)) else (K .ret (rQ js ms n m (jE js n n 0)))))),([0,1,0,1,1,1,1],uU (hM js ms n m 0) (fun K=>bif decide (32 < (m:Int)) then none else (bif mAll ms n m 0 then (K (.exit 2) (oM js ms n m)) else (K .ret (rM js ms n m 0)))))] from ⟨qJH fun K r hr => ?_,qJH fun K r hr => ?_,trivial⟩) p S hp
  ·cases hq:decide (10 < (n:Int)) with
   | true=>rw [hq] at hr; cases hr
   | false =>
    rw [hq] at hr;have h10:=vJY hq;exact (lpQ K js ms n m (by omega) n 0 60 (by omega) (by omega)).trans hr
  ·cases hq:decide (32 < (m:Int)) with
   | true=>rw [hq] at hr; cases hr
   | false =>
    rw [hq] at hr;have h32:=vJY hq;exact (lpM K js ms n m (by omega) m 0 60 (by omega) (by omega)).trans hr
 ·refine (pxQ js ms n m).trans ?_;unfold rErr;rw [yU,yU,show decide ((n:Int) < 1)=decide ((n:Int)=0) from decide_eq_decide.2 (by omega)];by_cases h0:(n:Int)=0
  ·rw [vJQ h0]; rfl
  rw [vYH h0];by_cases h10:10 < (n:Int)
  ·rw [vJQ h10]; rfl
  rw [vYH h10];by_cases hj:jE js n n 0=0
  ·rw [vJQ hj];by_cases h32:32 < (m:Int)
   ·rw [vJQ h32]; rfl
   rw [vYH h32];cases mAll ms n m 0 <;> rfl
  ·rw [vYH hj]; rfl
end Go.Proofs.YtgmbkkkbfbocnaaGreat.Nc
namespace Go.Proofs.YtgmbkkkbfbocnaaGreat.Nx
open Go.Rx Rt Go.Sx Go.RowKit Od Na Nb Nc
noncomputable def o_iValid:List PV→Option (Bool × Ret):=fun ps=>match ps with
 | [.a a']=>(ivD a').bind fun a=>some (true,.v (.b (Iv.valid a)))
 | _=>none
theorem ok_iValid:zJ Tryz.prog 135 o_iValid:=by
 intro ps r h;unfold o_iValid at h;split at h
 ·simp only [vQQ,vQZ,vQY] at h;obtain ⟨a,ha,hg,rfl⟩:=h;rw [qQH ha];exact qX (qW Tryz.func135 (by kernel_rfl) (by kernel_rfl)) rfl rfl (fun w=>iValid _ _ w)
 ·cases h
noncomputable def L6:OrL:=(135,o_iValid) :: L5
theorem kHQ:AllP (fun x:Nat × (List PV→Option (Bool × Ret))=>zJ Tryz.prog x.1 x.2) L6:=⟨ok_iValid,L5_ok⟩
noncomputable def o_rValid:List PV→Option (Bool × Ret):=fun ps=>match ps with
 | [.a a']=>(ivD a').bind fun a=>some (true,.v (.b (Iv.valid a)))
 | _=>none
theorem ok_rValid:zJ Tryz.prog 148 o_rValid:=by
 intro ps r h;unfold o_rValid at h;split at h
 ·simp only [vQQ,vQZ,vQY] at h;obtain ⟨a,ha,hg,rfl⟩:=h;rw [qQH ha];exact qX (qW Tryz.func148 (by kernel_rfl) (by kernel_rfl)) rfl rfl (fun w=>jWK _ _ w)
 ·cases h
noncomputable def L7:OrL:=(148,o_rValid) :: L6
theorem kJY:AllP (fun x:Nat × (List PV→Option (Bool × Ret))=>zJ Tryz.prog x.1 x.2) L7:=⟨ok_rValid,kHQ⟩
def fB (bx:Nat→Iv):Nat→List PV:=fun v=>[.n .i64 (bx v).lo,.n .i64 (bx v).hi]
theorem zHX {js:Nat→J} {ms:Nat→Ms} {n m:Nat} (h:rErr js ms n m=0):1≤n∧n≤10:=by
 unfold rErr at h;by_cases h0:(n:Int)=0
 ·rw [vJQ h0] at h; cases h
 by_cases h1:10 < (n:Int)
 ·rw [vYH h0,vJQ h1] at h; cases h
 omega
def hA (bx:Nat→Iv) (k:Nat) (i:Int):St:=⟨[(0,.v (.lf k (fB bx))),(3,.v (.n .i64 i))],[]⟩
set_option maxRecDepth 100000 in
theorem rdA (G:St→Option (Ret × Mem)) (K:Cont) (bx:Nat→Iv) (k:Nat) (i:Int):yWK 60 (cxF T (OrL.k L7) 60 114 (ntmF T 114)) (ckF T (OrL.k L7) 60) (qQ T 114 [0,1,0,1]) ((cxF T (OrL.k L7) 60 114 (ntmF T 114)).T.hint (cxF T (OrL.k L7) 60 114 (ntmF T 114)).me (qJ (qQ T 114 [0,1,0,1]))) K G (hA bx k i) =
 (bif (decide (i < (k:Int))) then (bif (inB i k) then (bif Iv.valid (bx (i).toNat) then (G (hA bx k (vJJ .i64 (i + 1))))
 else (K .ret ⟨[(2,.v (.b false))],[]⟩))
 else none)
 else (K (.exit 0) ⟨[],[]⟩)):=by kernel_rfl
theorem lpA (K:Cont) (bx:Nat→Iv) (k:Nat) (_:k≤50):LF 60 (cxF T (OrL.k L7) 60 114 (ntmF T 114)) (ckF T (OrL.k L7) 60) (qQ T 114 [0,1,0,1]) ((cxF T (OrL.k L7) 60 114 (ntmF T 114)).T.hint (cxF T (OrL.k L7) 60 114 (ntmF T 114)).me (qJ (qQ T 114 [0,1,0,1]))) K 60 (hA bx k 0)=bif (allN (fun i:Nat=>Iv.valid (bx i)) k 0) then (K (.exit 0) ⟨[],[]⟩) else (K .ret ⟨[(2,.v (.b false))],[]⟩):=by
 refine (yKY (c:=k) (hA bx k) (fun i:Nat=>Iv.valid (bx i)) (K (.exit 0) ⟨[],[]⟩) (fun i:Nat=>(K .ret ⟨[(2,.v (.b false))],[]⟩)) (fun G i hi => ?_) (fun G => ?_) k 0 60 (by omega) (by omega)).trans (yH _ _ _ _ _)
 ·refine (rdA G K bx k i).trans ?_;rw [vJQ (show (i:Int) < (k:Int) by omega),kW (by omega),yX (show i < k by omega),toN];cases Iv.valid (bx i) <;> rfl
 ·refine (rdA G K bx k k).trans ?_;rw [vYH (show ¬ (k:Int) < (k:Int) by omega)];rfl
def allV (bx:Nat→Iv) (k:Nat):Bool:=(allN (fun i:Nat=>Iv.valid (bx i)) k 0)
set_option maxRecDepth 100000 in
theorem pxallv (bx:Nat→Iv) (k:Nat):qHV T (OrL.k L7) (qZ [([0,1,0,1],uU (hA bx k 0) (fun K=>(bif (decide (k≤50)) then (bif (allN (fun i:Nat=>Iv.valid (bx i)) k 0) then (K (.exit 0) ⟨[],[]⟩) else (K .ret ⟨[(2,.v (.b false))],[]⟩)) else none)))]) 60 114 [.lf k (fB bx)] =
 (bif (gSt (hA bx k 0) (hA bx k 0)) then (bif (decide (k≤50)) then (bif (allN (fun i:Nat=>Iv.valid (bx i)) k 0) then some (.v (.b true),[])
 else some (.v (.b false),[]))
 else none)
 else none):=by kernel_rfl
theorem snd_allv (bx:Nat→Iv) (k:Nat) (hk:k≤50):yK Tryz.prog 114 [.lf k (fB bx)] (.v (.b (allV bx k))):=by
 refine uX (N:=60) (LO:=qZ [([0,1,0,1],uU (hA bx k 0) (fun K=>(bif (decide (k≤50)) then (bif (allN (fun i:Nat=>Iv.valid (bx i)) k 0) then (K (.exit 0) ⟨[],[]⟩) else (K .ret ⟨[(2,.v (.b false))],[]⟩)) else none)))]) yJ zG (OrL.ok (l:=L7) kJY) (fun p S hp => ?_) ?_
 ·refine qZK (L:=qQ T 114) (l:=[([0,1,0,1],uU (hA bx k 0) (fun K=>(bif (decide (k≤50)) then (bif (allN (fun i:Nat=>Iv.valid (bx i)) k 0) then (K (.exit 0) ⟨[],[]⟩) else (K .ret ⟨[(2,.v (.b false))],[]⟩)) else none)))]) (show AllP _ [([0,1,0,1],uU (hA bx k 0) (fun K=>(bif (decide (k≤50)) then (bif (allN (fun i:Nat=>Iv.valid (bx i)) k 0) then (K (.exit 0) ⟨[],[]⟩) else (K .ret ⟨[(2,.v (.b false))],[]⟩)) else none)))] from ⟨qJH fun K r hr => ?_,trivial⟩) p S hp
  ·obtain ⟨hg,hr⟩:=qY hr;have hk:=vJZ hg;exact (lpA K bx k hk).trans hr
 ·refine (pxallv bx k).trans ?_;unfold allV;rw [yU,vJQ hk];cases (allN (fun i:Nat=>Iv.valid (bx i)) k 0) <;> rfl
def unFB (f:Nat→List PV):Nat→Iv:=fun i=>match f i with
 | [.n _ lo,.n _ hi]=>⟨lo,hi⟩
 | _=>⟨0,0⟩
theorem unFB_fB (bx:Nat→Iv):unFB (fB bx)=bx:=rfl
noncomputable def gFB (f:Nat→List PV):Bool:=@decide (f=fB (unFB f)) (vYJ _)
theorem gFB_fB (bx:Nat→Iv):gFB (fB bx)=true:=@vJQ _ (vYJ _) rfl
noncomputable def o_av:List PV→Option (Bool × Ret):=fun ps=>match ps with
 | [.lf k f]=>some (decide (k≤50) && gFB f,.v (.b (allV (unFB f) k)))
 | _=>none
theorem ok_av:zJ Tryz.prog 114 o_av:=by
 intro ps r hh;unfold o_av at hh;split at hh
 ·simp only [vQZ,vQY,vQJ] at hh;obtain ⟨⟨hk,hf⟩,rfl⟩:=hh;rename_i k f;have e:f=fB (unFB f):=@vJZ _ (vYJ _) hf
  have:=snd_allv (unFB f) k (vJZ hk)
  rw [← e] at this;exact this
 ·cases hh
def isB (bx:Nat→Iv) (n k:Nat):Bool:=decide ((k:Int)=(n:Int)) && allV bx k
theorem jJJ (js:Nat→J) (ms:Nat→Ms) (bx:Nat→Iv) (n m k:Nat) (_:n≤50):yK Tryz.prog 66 [.a [.lf n (fJ js),.lf m (fM ms)],.lf k (fB bx)] (.v (.b (isB bx n k))):=by
 refine qH (N:=60) yJ zG (OrL.ok (l:=[(114,o_av)]) ⟨ok_av,trivial⟩) ?_;refine (by kernel_rfl:_=bif (decide ((k:Int)=(n:Int))) then (bif (decide (k≤50) && gFB (fB bx)) then (bif (allV (unFB (fB bx)) k) then some (.v (.b true),[])
 else some (.v (.b false),[]))
 else none)
 else some (.v (.b false),[])).trans ?_
 unfold isB;by_cases e:(k:Int)=(n:Int)
 ·rw [vJQ e,vJQ (show k≤50 by omega),gFB_fB,unFB_fB];cases allV bx k <;> rfl
 ·rw [vYH e]; rfl
set_option maxRecDepth 100000 in
theorem tr_cNv (a0 a1:Int):runK T (OrL.k L7) 60 134 [.a [.n .i64 a0,.n .i64 a1]] =
 some (.v (.b (!Iv.valid ⟨a0,a1⟩)),[]):=by
 refine (by kernel_rfl:_=bif Iv.valid ⟨a0,a1⟩ then some (.v (.b false),[]) else some (.v (.b true),[])).trans ?_;cases Iv.valid ⟨a0,a1⟩ <;> rfl
noncomputable def kGU:List PV→Option (Bool × Ret):=fun ps=>match ps with
 | [.a a']=>(ivD a').bind fun a=>some (true,.v (.b (!Iv.valid a)))
 | _=>none
theorem ok_cNv:zJ Tryz.prog 134 kGU:=by
 intro ps r h;unfold kGU at h;split at h
 ·simp only [vQQ,vQZ,vQY] at h;obtain ⟨a,ha,hg,rfl⟩:=h;rw [qQH ha];exact qH (N:=60) yJ zG (OrL.ok kJY) (tr_cNv _ _)
 ·cases h
noncomputable def L8:OrL:=(134,kGU) :: L7
theorem kGH:AllP (fun x:Nat × (List PV→Option (Bool × Ret))=>zJ Tryz.prog x.1 x.2) L8:=⟨ok_cNv,kJY⟩
theorem jYG {p:Nat} (_:p < 9223372036854775807):vJJ .i64 ((p:Int) + 1)=((p + 1:Nat):Int):=by rw [zQ (by omega)]; omega
def hI (bx:Nat→Iv) (k:Nat) (i:Int):St:=⟨[(0,.v (.lf k (fB bx))),(1,.v (.f 134 [] [])),(7,.v (.n .i64 (k:Int))),(8,.v (.n .i64 i))],[]⟩
set_option maxRecDepth 100000 in
theorem rdI (G:St→Option (Ret × Mem)) (K:Cont) (bx:Nat→Iv) (k:Nat) (i:Int):yWK (k + 60) (cxF T (OrL.k L8) (k + 60) 163 (ntmF T 163)) (ckF T (OrL.k L8) (k + 60)) (qQ T 163 [0,1,0,1]) ((cxF T (OrL.k L8) (k + 60) 163 (ntmF T 163)).T.hint (cxF T (OrL.k L8) (k + 60) 163 (ntmF T 163)).me (qJ (qQ T 163 [0,1,0,1]))) K G (hI bx k i) =
 (bif (decide (i < (k:Int))) then (bif (inB i k) then (bif !Iv.valid (bx (i).toNat) then (K .ret ⟨[(4,.v (.n .i64 i))],[]⟩)
 else (G (hI bx k (vJJ .i64 (i + 1)))))
 else none)
 else (K (.exit 0) ⟨[],[]⟩)):=by kernel_rfl
theorem lpI (K:Cont) (bx:Nat→Iv) (k:Nat) (_:k≤9223372036854775807):LF (k + 60) (cxF T (OrL.k L8) (k + 60) 163 (ntmF T 163)) (ckF T (OrL.k L8) (k + 60)) (qQ T 163 [0,1,0,1]) ((cxF T (OrL.k L8) (k + 60) 163 (ntmF T 163)).T.hint (cxF T (OrL.k L8) (k + 60) 163 (ntmF T 163)).me (qJ (qQ T 163 [0,1,0,1]))) K (k + 60) (hI bx k 0)=bif (allN (fun i:Nat=>Iv.valid (bx i)) k 0) then (K (.exit 0) ⟨[],[]⟩) else (K .ret ⟨[(4,.v (.n .i64 ((Rx.firstK (fun i:Nat=>Iv.valid (bx i)) k 0:Nat):Int)))],[]⟩):=by
 refine (yKY (c:=k) (hI bx k) (fun i:Nat=>Iv.valid (bx i)) (K (.exit 0) ⟨[],[]⟩) (fun i:Nat=>(K .ret ⟨[(4,.v (.n .i64 (i:Int)))],[]⟩)) (fun G i hi => ?_) (fun G => ?_) k 0 (k + 60) (by omega) (by omega)).trans (uG _ _ _ _ _)
 ·refine (rdI G K bx k i).trans ?_;rw [vJQ (show (i:Int) < (k:Int) by omega),jYG (by omega),yX (show i < k by omega),toN];cases Iv.valid (bx i) <;> rfl
 ·refine (rdI G K bx k k).trans ?_;rw [vYH (show ¬ (k:Int) < (k:Int) by omega)];rfl
set_option maxRecDepth 100000 in
theorem pxidx (bx:Nat→Iv) (k:Nat):qHV T (OrL.k L8) (qZ [([0,1,0,1],uU (hI bx k 0) (fun K=>(bif (decide (k≤9223372036854775807)) then (bif (allN (fun i:Nat=>Iv.valid (bx i)) k 0) then (K (.exit 0) ⟨[],[]⟩) else (K .ret ⟨[(4,.v (.n .i64 ((Rx.firstK (fun i:Nat=>Iv.valid (bx i)) k 0:Nat):Int)))],[]⟩)) else none)))]) (k + 60) 163 [.lf k (fB bx),.f 134 [] []] =
 (bif (gSt (hI bx k 0) (hI bx k 0)) then (bif (decide (k≤9223372036854775807)) then (bif (allN (fun i:Nat=>Iv.valid (bx i)) k 0) then some (.v (.n .i64 (-1)),[])
 else some (.v (.n .i64 ((Rx.firstK (fun i:Nat=>Iv.valid (bx i)) k 0:Nat):Int)),[]))
 else none)
 else none):=by kernel_rfl
theorem snd_idx (bx:Nat→Iv) (k:Nat) (hk:k≤9223372036854775807):yK Tryz.prog 163 [.lf k (fB bx),.f 134 [] []] (.v (.n .i64 (bif allV bx k then -1 else ((Rx.firstK (fun i:Nat=>Iv.valid (bx i)) k 0:Nat):Int)))):=by
 refine uX (N:=(k + 60)) (LO:=qZ [([0,1,0,1],uU (hI bx k 0) (fun K=>(bif (decide (k≤9223372036854775807)) then (bif (allN (fun i:Nat=>Iv.valid (bx i)) k 0) then (K (.exit 0) ⟨[],[]⟩) else (K .ret ⟨[(4,.v (.n .i64 ((Rx.firstK (fun i:Nat=>Iv.valid (bx i)) k 0:Nat):Int)))],[]⟩)) else none)))]) yJ zG (OrL.ok (l:=L8) kGH) (fun p S hp => ?_) ?_
 ·refine qZK (L:=qQ T 163) (l:=[([0,1,0,1],uU (hI bx k 0) (fun K=>(bif (decide (k≤9223372036854775807)) then (bif (allN (fun i:Nat=>Iv.valid (bx i)) k 0) then (K (.exit 0) ⟨[],[]⟩) else (K .ret ⟨[(4,.v (.n .i64 ((Rx.firstK (fun i:Nat=>Iv.valid (bx i)) k 0:Nat):Int)))],[]⟩)) else none)))]) (show AllP _ [([0,1,0,1],uU (hI bx k 0) (fun K=>(bif (decide (k≤9223372036854775807)) then (bif (allN (fun i:Nat=>Iv.valid (bx i)) k 0) then (K (.exit 0) ⟨[],[]⟩) else (K .ret ⟨[(4,.v (.n .i64 ((Rx.firstK (fun i:Nat=>Iv.valid (bx i)) k 0:Nat):Int)))],[]⟩)) else none)))] from ⟨qJH fun K r hr => ?_,trivial⟩) p S hp
  ·obtain ⟨hg,hr⟩:=qY hr;have hk:=vJZ hg;exact (lpI K bx k hk).trans hr
 ·refine (pxidx bx k).trans ?_;unfold allV;rw [yU,vJQ hk];cases (allN (fun i:Nat=>Iv.valid (bx i)) k 0) <;> rfl
theorem snd_conB (bx:Nat→Iv) (k:Nat) (hk:k≤9223372036854775807):yK Tryz.prog 133 [.lf k (fB bx),.f 134 [] []] (.v (.b (!allV bx k))):=by
 refine qH (N:=60) yJ zG (OrL.ok (l:=[(163,o_cr [.lf k (fB bx),.f 134 [] []] (.v (.n .i64 (bif allV bx k then -1 else ((Rx.firstK (fun i:Nat=>Iv.valid (bx i)) k 0:Nat):Int)))))]) ⟨zJX (snd_idx bx k hk),trivial⟩) ?_;refine (by kernel_rfl:_=bif (g1 [.lf k (fB bx),.f 134 [] []]) then (bif (decide (0≤(bif allV bx k then -1 else ((Rx.firstK (fun i:Nat=>Iv.valid (bx i)) k 0:Nat):Int)))) then some (.v (.b true),[])
 else some (.v (.b false),[]))
 else none).trans ?_
 rw [g1_t];cases allV bx k with
 | true=>rfl
 | false =>
  rw [vYG,vJQ (show 0≤((Rx.firstK (fun i:Nat=>Iv.valid (bx i)) k 0:Nat):Int) by omega)];rfl
theorem snd_isP (js:Nat→J) (ms:Nat→Ms) (bx:Nat→Iv) (n m k:Nat) (hk:k≤9223372036854775807):yK Tryz.prog 84 [.a [.lf n (fJ js),.lf m (fM ms)],.lf k (fB bx)] (.v (.b (isB bx n k))):=by
 refine qH (N:=60) yJ zG (OrL.ok (l:=[(133,o_cr [.lf k (fB bx),.f 134 [] []] (.v (.b (!allV bx k))))]) ⟨zJX (snd_conB bx k hk),trivial⟩) ?_;refine (by kernel_rfl:_=bif (decide ((k:Int)=(n:Int))) then (bif (g1 [.lf k (fB bx),.f 134 [] []]) then (bif (!allV bx k) then some (.v (.b false),[])
 else some (.v (.b true),[]))
 else none)
 else some (.v (.b false),[])).trans ?_
 unfold isB;rw [g1_t];cases decide ((k:Int)=(n:Int)) <;> cases allV bx k <;> rfl
end Go.Proofs.YtgmbkkkbfbocnaaGreat.Nx
namespace Go.Proofs.YtgmbkkkbfbocnaaGreat
open Go.Sx Go.Rx Rt Go.RowKit
namespace Tk
end Tk
open Tk
theorem en78:uW Tryz.prog 78:=qW Tryz.func78 (by kernel_rfl) (by kernel_rfl)
namespace Tk
noncomputable def zQX:List PV→Option (Bool × Ret):=fun ps=>match ps with
 | [.a z']=>(z3D z').bind fun z=>some (true,.v (.a (v3C (V3.of z))))
 | _=>none
theorem yJX:zJ Tryz.prog 74 zQX:=by
 intro ps r h;unfold zQX at h;split at h
 ·simp only [vQQ,vQZ,vQY] at h;obtain ⟨z,hz,hg,rfl⟩:=h;rw [jXH hz];exact qX (qW Tryz.func74 (by kernel_rfl) (by kernel_rfl)) rfl rfl (fun w=>mPoint _ _ _ w)
 ·cases h
noncomputable def LTk1:OrL:=(74,zQX) :: ([]:OrL)
theorem LTk1_ok:AllP (fun x:Nat × (List PV→Option (Bool × Ret))=>zJ Tryz.prog x.1 x.2) LTk1:=⟨yJX,trivial⟩
noncomputable def yGZ:List PV→Option (Bool × Ret):=fun ps=>match ps with
 | [.a v']=>(v3D v').bind fun v=>some (true,.v (.a (poC (Po.shift v))))
 | _=>none
theorem ok_pShift:zJ Tryz.prog 79 yGZ:=by
 intro ps r h;unfold yGZ at h;split at h
 ·simp only [vQQ,vQZ,vQY] at h;obtain ⟨v,hv,hg,rfl⟩:=h;rw [zZX hv];exact qX (qW Tryz.func79 (by kernel_rfl) (by kernel_rfl)) rfl rfl (fun w=>pShift _ _ _ _ _ _ w)
 ·cases h
noncomputable def LTk2:OrL:=(79,yGZ) :: LTk1
theorem LTk2_ok:AllP (fun x:Nat × (List PV→Option (Bool × Ret))=>zJ Tryz.prog x.1 x.2) LTk2:=⟨ok_pShift,LTk1_ok⟩
noncomputable def jKG:List PV→Option (Bool × Ret):=fun ps=>match ps with
 | [.n .i64 k,.a a']=>(ivD a').bind fun a=>some (true,.v (.a (poC (Po.turn k a))))
 | _=>none
theorem ok_pTurn:zJ Tryz.prog 159 jKG:=by
 intro ps r h;unfold jKG at h;split at h
 ·simp only [vQQ,vQZ,vQY] at h;obtain ⟨a,ha,hg,rfl⟩:=h;rw [qQH ha];exact qX (qW Tryz.func159 (by kernel_rfl) (by kernel_rfl)) rfl rfl (fun w=>pTurn _ _ _ w)
 ·cases h
noncomputable def LTk3:OrL:=(159,jKG) :: LTk2
theorem LTk3_ok:AllP (fun x:Nat × (List PV→Option (Bool × Ret))=>zJ Tryz.prog x.1 x.2) LTk3:=⟨ok_pTurn,LTk2_ok⟩
noncomputable def qUW:List PV→Option (Bool × Ret):=fun ps=>match ps with
 | []=>some (true,.v (.a (poC (Po.rest))))
 | _=>none
theorem zYQ:zJ Tryz.prog 88 qUW:=by
 intro ps r h;unfold qUW at h;split at h
 ·simp only [vQZ,vQY] at h;obtain ⟨hg,rfl⟩:=h;exact qX (qW Tryz.func88 (by kernel_rfl) (by kernel_rfl)) rfl rfl (fun w=>pIdentity  w)
 ·cases h
noncomputable def LTk4:OrL:=(88,qUW) :: LTk3
theorem LTk4_ok:AllP (fun x:Nat × (List PV→Option (Bool × Ret))=>zJ Tryz.prog x.1 x.2) LTk4:=⟨zYQ,LTk3_ok⟩
noncomputable def zGY:List PV→Option (Bool × Ret):=fun ps=>match ps with
 | [.a p',.a q']=>(poD p').bind fun p=>(poD q').bind fun q=>some (true,.v (.a (poC (Po.mul p q))))
 | _=>none
theorem ok_pCompose:zJ Tryz.prog 78 zGY:=by
 intro ps r h;unfold zGY at h;split at h
 ·simp only [vQQ,vQZ,vQY] at h;obtain ⟨p,hp,q,hq,hg,rfl⟩:=h;rw [yXY hp];rw [yXY hq];exact qX (qW Tryz.func78 (by kernel_rfl) (by kernel_rfl)) rfl rfl (fun w=>pCompose _ _ _ _ _ _ _ _ _ _ _ _ _ _ _ _ _ _ _ _ _ _ _ _ _ _ _ _ _ _ _ _ _ _ _ _ _ _ _ _ _ _ _ _ _ _ _ _ w)
 ·cases h
noncomputable def LTk5:OrL:=(78,zGY) :: LTk4
theorem LTk5_ok:AllP (fun x:Nat × (List PV→Option (Bool × Ret))=>zJ Tryz.prog x.1 x.2) LTk5:=⟨ok_pCompose,LTk4_ok⟩
end Tk
set_option maxRecDepth 100000 in
theorem kJoint (a0 a1:Int) (nm:ByteArray) (kind par ox oy oz jlo jhi we spd acc tq:Int) (w:World):Calls Tryz.prog 33 [.agg #[.string nm,.int .i64 kind,.int .i64 par,.int .i64 ox,.int .i64 oy,.int .i64 oz,.int .i64 jlo,.int .i64 jhi,.int .i64 we,.int .i64 spd,.int .i64 acc,.int .i64 tq],.agg #[.int .i64 a0,.int .i64 a1]].toArray w (Rets (po (jGG kind ⟨ox,oy,oz⟩ (⟨a0,a1⟩:Iv))) (w)) :=
 zZ (x:=.a (poC (jGG kind ⟨ox,oy,oz⟩ ⟨a0,a1⟩))) (qH (N:=60) (ps:=[.a [.s nm,.n .i64 kind,.n .i64 par,.n .i64 ox,.n .i64 oy,.n .i64 oz,.n .i64 jlo,.n .i64 jhi,.n .i64 we,.n .i64 spd,.n .i64 acc,.n .i64 tq],.a [.n .i64 a0,.n .i64 a1]]) yJ zG (OrL.ok (l:=LTk5) LTk5_ok) (by
 rcases kind with a | a
 ·rcases a with _ | _ | _ | _ | _ | _ | _ | a <;> kernel_rfl
 ·kernel_rfl)) rfl rfl w
end Go.Proofs.YtgmbkkkbfbocnaaGreat
namespace Go.Proofs.YtgmbkkkbfbocnaaGreat
open Go.Sx Go.Rx Rt Go.RowKit
namespace Tr
end Tr
open Tr
theorem en68:uW Tryz.prog 68:=qW Tryz.func68 (by kernel_rfl) (by kernel_rfl)
theorem en33:uW Tryz.prog 33:=qW Tryz.func33 (by kernel_rfl) (by kernel_rfl)
namespace Tr
noncomputable def zQU:List PV→Option (Bool × Ret):=fun ps=>match ps with
 | [.a z']=>(z3D z').bind fun z=>some (true,.v (.a (v3C (V3.of z))))
 | _=>none
theorem yJU:zJ Tryz.prog 36 zQU:=by
 intro ps r h;unfold zQU at h;split at h
 ·simp only [vQQ,vQZ,vQY] at h;obtain ⟨z,hz,hg,rfl⟩:=h;rw [jXH hz];exact qX (qW Tryz.func36 (by kernel_rfl) (by kernel_rfl)) rfl rfl (fun w=>rPoint _ _ _ w)
 ·cases h
noncomputable def LTr1:OrL:=(36,zQU) :: ([]:OrL)
theorem LTr1_ok:AllP (fun x:Nat × (List PV→Option (Bool × Ret))=>zJ Tryz.prog x.1 x.2) LTr1:=⟨yJU,trivial⟩
noncomputable def yVH:List PV→Option (Bool × Ret):=fun ps=>match ps with
 | [.a v']=>(v3D v').bind fun v=>some (true,.v (.a (poC (Po.shift v))))
 | _=>none
theorem ok_qShift:zJ Tryz.prog 116 yVH:=by
 intro ps r h;unfold yVH at h;split at h
 ·simp only [vQQ,vQZ,vQY] at h;obtain ⟨v,hv,hg,rfl⟩:=h;rw [zZX hv];exact qX (qW Tryz.func116 (by kernel_rfl) (by kernel_rfl)) rfl rfl (fun w=>qShift _ _ _ _ _ _ w)
 ·cases h
noncomputable def LTr2:OrL:=(116,yVH) :: LTr1
theorem LTr2_ok:AllP (fun x:Nat × (List PV→Option (Bool × Ret))=>zJ Tryz.prog x.1 x.2) LTr2:=⟨ok_qShift,LTr1_ok⟩
noncomputable def jKV:List PV→Option (Bool × Ret):=fun ps=>match ps with
 | [.n .i64 k,.a a']=>(ivD a').bind fun a=>some (true,.v (.a (poC (Po.turn k a))))
 | _=>none
theorem ok_qTurn:zJ Tryz.prog 115 jKV:=by
 intro ps r h;unfold jKV at h;split at h
 ·simp only [vQQ,vQZ,vQY] at h;obtain ⟨a,ha,hg,rfl⟩:=h;rw [qQH ha];exact qX (qW Tryz.func115 (by kernel_rfl) (by kernel_rfl)) rfl rfl (fun w=>qTurn _ _ _ w)
 ·cases h
noncomputable def LTr3:OrL:=(115,jKV) :: LTr2
theorem LTr3_ok:AllP (fun x:Nat × (List PV→Option (Bool × Ret))=>zJ Tryz.prog x.1 x.2) LTr3:=⟨ok_qTurn,LTr2_ok⟩
noncomputable def zKV:List PV→Option (Bool × Ret):=fun ps=>match ps with
 | []=>some (true,.v (.a (poC (Po.rest))))
 | _=>none
theorem yVK:zJ Tryz.prog 90 zKV:=by
 intro ps r h;unfold zKV at h;split at h
 ·simp only [vQZ,vQY] at h;obtain ⟨hg,rfl⟩:=h;exact qX (qW Tryz.func90 (by kernel_rfl) (by kernel_rfl)) rfl rfl (fun w=>qRest  w)
 ·cases h
noncomputable def LTr4:OrL:=(90,zKV) :: LTr3
theorem LTr4_ok:AllP (fun x:Nat × (List PV→Option (Bool × Ret))=>zJ Tryz.prog x.1 x.2) LTr4:=⟨yVK,LTr3_ok⟩
noncomputable def zGZ:List PV→Option (Bool × Ret):=fun ps=>match ps with
 | [.a p',.a q']=>(poD p').bind fun p=>(poD q').bind fun q=>some (true,.v (.a (poC (Po.mul p q))))
 | _=>none
theorem ok_qCompose:zJ Tryz.prog 68 zGZ:=by
 intro ps r h;unfold zGZ at h;split at h
 ·simp only [vQQ,vQZ,vQY] at h;obtain ⟨p,hp,q,hq,hg,rfl⟩:=h;rw [yXY hp];rw [yXY hq];exact qX (qW Tryz.func68 (by kernel_rfl) (by kernel_rfl)) rfl rfl (fun w=>qCompose _ _ _ _ _ _ _ _ _ _ _ _ _ _ _ _ _ _ _ _ _ _ _ _ _ _ _ _ _ _ _ _ _ _ _ _ _ _ _ _ _ _ _ _ _ _ _ _ w)
 ·cases h
noncomputable def LTr5:OrL:=(68,zGZ) :: LTr4
theorem LTr5_ok:AllP (fun x:Nat × (List PV→Option (Bool × Ret))=>zJ Tryz.prog x.1 x.2) LTr5:=⟨ok_qCompose,LTr4_ok⟩
end Tr
set_option maxRecDepth 100000 in
theorem rJoint (a0 a1:Int) (nm:ByteArray) (kind par ox oy oz jlo jhi we spd acc tq:Int) (w:World):Calls Tryz.prog 67 [.agg #[.string nm,.int .i64 kind,.int .i64 par,.int .i64 ox,.int .i64 oy,.int .i64 oz,.int .i64 jlo,.int .i64 jhi,.int .i64 we,.int .i64 spd,.int .i64 acc,.int .i64 tq],.agg #[.int .i64 a0,.int .i64 a1]].toArray w (Rets (po (jGG kind ⟨ox,oy,oz⟩ (⟨a0,a1⟩:Iv))) (w)) :=
 zZ (x:=.a (poC (jGG kind ⟨ox,oy,oz⟩ ⟨a0,a1⟩))) (qH (N:=60) (ps:=[.a [.s nm,.n .i64 kind,.n .i64 par,.n .i64 ox,.n .i64 oy,.n .i64 oz,.n .i64 jlo,.n .i64 jhi,.n .i64 we,.n .i64 spd,.n .i64 acc,.n .i64 tq],.a [.n .i64 a0,.n .i64 a1]]) yJ zG (OrL.ok (l:=LTr5) LTr5_ok) (by
 rcases kind with a | a
 ·rcases a with _ | _ | _ | _ | _ | _ | _ | a <;> kernel_rfl
 ·kernel_rfl)) rfl rfl w
end Go.Proofs.YtgmbkkkbfbocnaaGreat
namespace Go.Proofs.YtgmbkkkbfbocnaaGreat
open Go.Sx
theorem jYZ:zKZ Tryz.prog 25 0 0=true:=by kernel_rfl
theorem ty22:tyB Tryz.prog 22 false 1=true:=by kernel_rfl
theorem sl22:slcB Tryz.prog 22 88 12=true:=by kernel_rfl
theorem ty25:tyB Tryz.prog 25 true 2=true:=by kernel_rfl
theorem yGH {k:Nat} (_:k≤1000000):vJJ .i64 ((k:Int) + 1)=((k + 1:Nat):Int):=by
 refine (zQ ?_).trans ?_ <;> omega
end Go.Proofs.YtgmbkkkbfbocnaaGreat
namespace Go.Proofs.YtgmbkkkbfbocnaaGreat
open Go.Sx
theorem kGX:appB Tryz.prog 69 68 24 192=true:=by kernel_rfl
theorem kLinks  (aj am ab:Option Addr) (cj nm cm cb n:Nat) (js:List J) (bx:List Iv) (hn:n≤1000) (hjn:js.length=n) (hbn:bx.length=n) (hpar:∀ (k:Nat) (j:J),js[k]? = some j → -1≤j.parent∧j.parent < k) (w:World) (hS:qUH 12 aj (js.map jc) w) (hT:qUH 2 ab (bx.map ivc) w):Calls Tryz.prog 86 [.agg #[.slice aj n cj,.slice am nm cm],.slice ab n cb].toArray w (kWW (X:=Nat) (fun _=>True) (fun b=>.slice (some ⟨b,0,none⟩) n n) (fun b=>qUH 24 (some ⟨b,0,none⟩) ((lks js bx n).map pc)) w):=by
 refine jV (n:=47) Tryz.func86 rfl rfl rfl ?_;refine zK ?_;refine qU ?_;refine zYK 2 rfl rfl rfl rfl ?_; intro b2;refine qG (zY rfl) rfl rfl rfl ?_;refine zX ?_;refine qK ?_;refine zK ?_;refine qU ?_;refine qG (zH jYZ rfl) rfl rfl rfl ?_;refine qG (jZ 2 ty22 rfl rfl rfl) rfl rfl rfl ?_;refine qG (zQJ sl22 rfl) rfl rfl rfl ?_;refine doL_make 11 (yZK kGX ze68) rfl (by omega) (by omega) rfl rfl ?_; intro b11;refine qG (zY rfl) rfl rfl rfl ?_;refine zX ?_;refine qK ?_;refine zK ?_;refine zK ?_;refine qU ?_;refine qG (zH jYZ rfl) rfl rfl rfl ?_;refine qG (jZ 2 ty22 rfl rfl rfl) rfl rfl rfl ?_;refine qG (zQJ sl22 rfl) rfl rfl rfl ?_;refine qG (qV rfl) rfl rfl rfl ?_;refine zX ?_;refine qK ?_;refine qXJ ?_;refine doC_loopK [1,2,5,13,14] [2] (α:=Nat × List Po) (fun x=>n - x.1) (fun x=>x.1≤n∧lks js bx x.1=x.2∧x.2.length=x.1) (fun x=>⟨w,[(11,(· = b11),jQU b11 24 68 (lkR x.2 (n - x.1)))]⟩) (fun x=>[(15,.int .i64 (x.1:Int))]) (fun _=>[]) (0,[]) rfl rfl ?_ ?_ ?_ ?_ rfl ?_
 ·
  exact ⟨Nat.zero_le _,rfl,rfl⟩
 ·
  exact rfl
 ·
  repeat' first | exact trivial | exact True.intro | refine ⟨rfl,?_⟩
 ·
  repeat' first | exact trivial | exact True.intro | refine ⟨rfl,?_⟩
 rintro ⟨k,ps⟩ ⟨hk,hps,hlen⟩
 dsimp only at hk hps hlen ⊢;subst hlen;refine zK ?_;refine qU ?_;refine qG (qWX rfl rfl) rfl rfl rfl ?_;refine zX ?_;refine qK ?_;refine zK ?_;refine qUJ rfl (fun hc16 => ?_) (fun hc16 => ?_)
 ·
  have h2:ps.length < n:=by have:=vJZ hc16; omega
  obtain ⟨j,hjk⟩:∃ j,js[ps.length]? = some j:=⟨_,vQK (by omega)⟩
  obtain ⟨a,hak⟩:∃ a,bx[ps.length]? = some a:=⟨_,vQK (by omega)⟩
  have hj:(js.map jc)[ps.length]? = some (jc j):=by rw [vZY,hjk]; rfl
  have ha:(bx.map ivc)[ps.length]? = some (ivc a):=by rw [vZY,hak]; rfl
  have hpj:=hpar _ j hjk;obtain ⟨m,hm⟩:∃ m,n - ps.length=m + 1:=⟨n - ps.length - 1,by omega⟩
  rw [hm];have hz:(lkR ps (m + 1))[ps.length]? = some zRow:=by unfold lkR; rw [List.getElem?_append_right (by simp)]; simp
  refine qZV ?_;refine qK ?_;refine zK ?_;refine qXJ ?_;refine zK ?_;refine qU ?_;refine qG (qV rfl) rfl rfl rfl ?_;refine qG (qYU (e:=88) (qQQ hS) (by kernel_rfl) rfl rfl rfl hj h2) rfl rfl rfl ?_;refine qG (qXX (vs:=[.string j.name,.int .i64 j.kind,.int .i64 j.parent,.int .i64 j.off.x,.int .i64 j.off.y,.int .i64 j.off.z,.int .i64 j.lo,.int .i64 j.hi,.int .i64 j.weight,.int .i64 j.speed,.int .i64 j.accel,.int .i64 j.torque]) ps.length 0 (qQQ hS) hj ty88 rfl rfl) rfl rfl rfl ?_;refine qGQ 7 ze88 rfl rfl rfl ?_; intro b7;refine qG (zY rfl) rfl rfl rfl ?_;refine qJK 7 ty88 rfl rfl rfl rfl rfl rfl rfl rfl ?_;refine zX ?_;refine qK ?_;refine zK ?_;refine qWZ 8 mo (by kernel_rfl) ?_;simp only [vYK,vYX,vYU,vYW];refine jX (qV rfl) rfl rfl rfl ?_;refine jX (qV rfl) rfl rfl rfl ?_;refine jX (qJJ 7 ty88 rfl rfl rfl) rfl rfl rfl ?_;refine jX (qV rfl) rfl rfl rfl ?_;refine jX (qV rfl) rfl rfl rfl ?_;refine jX (qYU (e:=62) (qQQ hT) (by kernel_rfl) rfl rfl rfl ha h2) rfl rfl rfl ?_;refine jX (qXX (vs:=[.int .i64 a.lo,.int .i64 a.hi]) ps.length 0 (qQQ hT) ha ty62 rfl rfl) rfl rfl rfl ?_;refine yKH (F:=po) (uJ en33 rfl (fun w _=>kJoint _ _ _ _ _ _ _ _ _ _ _ _ _ _ w)) rfl rfl rfl ?_; intro r27 hr27;refine zYU ?_;refine qGU ?_;refine qG (qYU (e:=68) ((zQG (id:=11) rfl).imp qVW) (by kernel_rfl) rfl rfl rfl hz h2) rfl rfl rfl ?_;refine doL_storeRow (vs:=pc r27) (j:=ps.length) 11 ty68 rfl rfl rfl (by simp [lkR]) rfl rfl rfl rfl ?_; intro R28 hR28;obtain rfl:=Option.some.inj hR28;rw [lkR_set];refine zX ?_;refine qK ?_;refine zK ?_;refine qU ?_;refine qG (zH jVK rfl) rfl rfl rfl ?_;refine qG (jZ 7 ty3 rfl rfl rfl) rfl rfl rfl ?_;refine qG (yJK rfl rfl) rfl rfl rfl ?_;refine zX ?_;refine qK ?_;refine qUJ rfl (fun hc31 => ?_) (fun hc31 => ?_)
  ·
   have hp:¬ j.parent = -1:=by simpa using hc31
   have hpl:j.parent.toNat < ps.length:=by omega
   have hpn:j.parent=((j.parent.toNat:Nat):Int):=by omega
   refine qWZ 12 mo (by kernel_rfl) ?_;simp only [vYK,vYX,vYU,vYW];refine jX (qV rfl) rfl rfl rfl ?_;refine jX (qV rfl) rfl rfl rfl ?_;refine jX (qV rfl) rfl rfl rfl ?_;refine jX (zH jVK rfl) rfl rfl rfl ?_;refine jX (jZ 7 ty3 rfl rfl rfl) rfl rfl rfl ?_;refine jX (qYU (e:=68) ((zQG (id:=11) rfl).imp qVW) (by kernel_rfl) rfl rfl hpn (lkR_at hpl) (by omega)) rfl rfl rfl ?_;refine jX (qXX (vs:=pc (ps.getD j.parent.toNat Po.rest)) j.parent.toNat 0 ((zQG (id:=11) rfl).imp qVW) (lkR_at hpl) ty68 rfl rfl) rfl rfl rfl ?_;refine jX (qV rfl) rfl rfl rfl ?_;refine jX (qV rfl) rfl rfl rfl ?_;refine jX (qYU (e:=68) ((zQG (id:=11) rfl).imp qVW) (by kernel_rfl) rfl rfl rfl kZU h2) rfl rfl rfl ?_;refine jX (qXX (vs:=pc r27) ps.length 0 ((zQG (id:=11) rfl).imp qVW) kZU ty68 rfl rfl) rfl rfl rfl ?_;refine yKH (F:=po) (uJ en78 rfl (fun w _=>pCompose _ _ _ _ _ _ _ _ _ _ _ _ _ _ _ _ _ _ _ _ _ _ _ _ _ _ _ _ _ _ _ _ _ _ _ _ _ _ _ _ _ _ _ _ _ _ _ _  w)) rfl rfl rfl ?_; intro r43 hr43;refine zYU ?_;refine qGU ?_;refine qG (qYU (e:=68) ((zQG (id:=11) rfl).imp qVW) (by kernel_rfl) rfl rfl rfl kZU h2) rfl rfl rfl ?_;refine doL_storeRow (vs:=pc r43) (j:=ps.length) 11 ty68 rfl rfl rfl (by simp [lkR]) rfl rfl rfl rfl ?_; intro R44 hR44;obtain rfl:=Option.some.inj hR44;rw [lkR_set2];refine zX ?_;refine uZ ?_;refine qK ?_;refine qU ?_;refine qG (qKG rfl rfl (yGH (by omega))) rfl rfl rfl ?_;refine qG (qV rfl) rfl rfl rfl ?_;refine zX ?_;refine zYG (ps.length + 1,ps ++ [r43]) (by refine ⟨?_,?_,?_⟩ <;> dsimp only; omega; rw [yZU hjk hak,hps]; exact congrArg (fun x=>ps ++ [x]) ((if_neg hp).trans (by rw [show r43=Po.mul (ps.getD j.parent.toNat Po.rest) r27 from hr43,hr27]; try rfl)); simp) (by show n - (ps.length + 1) < n - ps.length; omega) (by dsimp only; rw [show n - (ps.length + 1)=m by omega,← lkR_done]; try rfl) ?_ ?_ rfl
   repeat' first | exact trivial | exact True.intro | refine ⟨rfl,?_⟩
  ·
   have hp:j.parent = -1:=by simpa using hc31
   refine qZV ?_;refine uZ ?_;refine qK ?_;refine qU ?_;refine qG (qKG rfl rfl (yGH (by omega))) rfl rfl rfl ?_;refine qG (qV rfl) rfl rfl rfl ?_;refine zX ?_;refine zYG (ps.length + 1,ps ++ [r27]) (by refine ⟨?_,?_,?_⟩ <;> dsimp only; omega; rw [yZU hjk hak,hps]; exact congrArg (fun x=>ps ++ [x]) ((if_pos hp).trans hr27.symm); simp) (by show n - (ps.length + 1) < n - ps.length; omega) (by dsimp only; rw [show n - (ps.length + 1)=m by omega,← lkR_done]; try rfl) ?_ ?_ rfl
   repeat' first | exact trivial | exact True.intro | refine ⟨rfl,?_⟩
 ·
  have h2:ps.length=n:=by have:=vJY hc16; omega
  refine jQY ?_;refine qJW ?_;refine qJW ?_;refine qVV ?_;refine qK ?_;refine zK ?_;refine qU ?_;refine qG (qV rfl) rfl rfl rfl ?_;refine qG (zY rfl) rfl rfl rfl ?_;refine zX ?_;refine qK ?_;refine qQJ ?_;refine yVQ (rs:=[.tmp 4]) rfl (resC (qQY rfl) (resN)) rfl ?_;intro w2 k2;obtain ⟨_,q2,q3⟩:=k2.facts _ vZQ;refine ⟨b11,trivial,rfl,k2.grow,ownD _,slc_dep _ _ _,fun z hz => ?_,?_⟩
  ·obtain ⟨ad,h1,h2⟩:=hz;cases h1;subst h2;exact ⟨(q2 _ rfl).1,(q2 _ rfl).2.1⟩
  ·have q4:=qVW _ q3;rw [← h2,hps]
   simpa [lkR,h2] using q4
end Go.Proofs.YtgmbkkkbfbocnaaGreat

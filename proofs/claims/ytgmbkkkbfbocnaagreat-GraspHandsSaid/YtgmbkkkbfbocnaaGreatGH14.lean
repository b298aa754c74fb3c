/- Part 14 of the texts behind the last one: rules and contracts. No condition. -/
import Derived.Test.YtgmbkkkbfbocnaaGreatGH13
open Bool renaming and_eq_true → vQJ, and_self → vZJ
open Go.IntKind renaming wrap → vJJ
namespace Go.Proofs.YtgmbkkkbfbocnaaGreat.Nl
open Go.Rx Rt Go.Sx Go.RowKit Od Na Nb Nc Nx
def hEq (js:Nat→J) (q:Nat→Int) (n k:Nat) (i:Int):St:=⟨[(1,.v (.lf k (fQ q))),(2,.v (.f 119 [] [])),(14,.v (.lf n (fJ js))),(15,.v (.n .i64 (n:Int))),(16,.v (.n .i64 i))],[]⟩
set_option maxRecDepth 100000 in
theorem rdEq (G:St→Option (Ret × Mem)) (K:Cont) (js:Nat→J) (q:Nat→Int) (n k:Nat) (i:Int):zVD 60 (cxF T (OrL.k ([]:OrL)) 60 118 (ntmF T 118)) (ckF T (OrL.k ([]:OrL)) 60) (qQ T 118 [0,1,0,1,1]) ((cxF T (OrL.k ([]:OrL)) 60 118 (ntmF T 118)).T.hint (cxF T (OrL.k ([]:OrL)) 60 118 (ntmF T 118)).me (qJ (qQ T 118 [0,1,0,1,1]))) K G (hEq js q n k i) =
 (bif (decide (i < (n:Int))) then (bif (inB i n) then (bif (inB i k) then (bif (decide ((js (i).toNat).lo≤(q (i).toNat))) then (bif (decide ((q (i).toNat)≤(js (i).toNat).hi)) then (G (hEq js q n k (vJJ .i64 (i + 1))))
 else (K .ret ⟨[(6,.v (.b false))],[]⟩))
 else (K .ret ⟨[(6,.v (.b false))],[]⟩))
 else none)
 else none)
 else (K (.exit 0) ⟨[],[]⟩)):=by kernel_rfl
theorem lpEq (K:Cont) (js:Nat→J) (q:Nat→Int) (n k:Nat) (_:n≤50) (_:n=k):LF 60 (cxF T (OrL.k ([]:OrL)) 60 118 (ntmF T 118)) (ckF T (OrL.k ([]:OrL)) 60) (qQ T 118 [0,1,0,1,1]) ((cxF T (OrL.k ([]:OrL)) 60 118 (ntmF T 118)).T.hint (cxF T (OrL.k ([]:OrL)) 60 118 (ntmF T 118)).me (qJ (qQ T 118 [0,1,0,1,1]))) K 60 (hEq js q n k 0)=bif (allN (fun i:Nat=>decide ((js i).lo≤q i) && decide (q i≤(js i).hi)) n 0) then (K (.exit 0) ⟨[],[]⟩) else (K .ret ⟨[(6,.v (.b false))],[]⟩):=by
 refine (zUW (c:=n) (hEq js q n k) (fun i:Nat=>decide ((js i).lo≤q i) && decide (q i≤(js i).hi)) (K (.exit 0) ⟨[],[]⟩) (fun i:Nat=>(K .ret ⟨[(6,.v (.b false))],[]⟩)) (fun G i hi => ?_) (fun G => ?_) n 0 60 (by omega) (by omega)).trans (jK _ _ _ _ _)
 ·refine (rdEq G K js q n k i).trans ?_;rw [vJQ (show (i:Int) < (n:Int) by omega),uJ (by omega),yV (show i < n by omega),yV (show i < k by omega),toN];cases decide ((js i).lo≤q i) <;> cases decide (q i≤(js i).hi) <;> rfl
 ·refine (rdEq G K js q n k n).trans ?_;rw [vYH (show ¬ (n:Int) < (n:Int) by omega)];rfl
def insQ (js:Nat→J) (q:Nat→Int) (n k:Nat):Bool:=decide ((n:Int)=(k:Int)) && (allN (fun i:Nat=>decide ((js i).lo≤q i) && decide (q i≤(js i).hi)) n 0)
set_option maxRecDepth 100000 in
theorem kZF (js:Nat→J) (q:Nat→Int) (n k:Nat):qXX T (OrL.k ([]:OrL)) (qZ [([0,1,0,1,1],uG (hEq js q n k 0) (fun K=>(bif (decide ((n:Int)=(k:Int)) && decide (n≤50)) then (bif (allN (fun i:Nat=>decide ((js i).lo≤q i) && decide (q i≤(js i).hi)) n 0) then (K (.exit 0) ⟨[],[]⟩) else (K .ret ⟨[(6,.v (.b false))],[]⟩)) else none)))]) 60 118 [.lf n (fJ js),.lf k (fQ q),.f 119 [] []] =
 (bif (!decide ((n:Int)=(k:Int))) then some (.v (.b false),[])
 else (bif (gSt (hEq js q n k 0) (hEq js q n k 0)) then (bif (decide ((n:Int)=(k:Int)) && decide (n≤50)) then (bif (allN (fun i:Nat=>decide ((js i).lo≤q i) && decide (q i≤(js i).hi)) n 0) then some (.v (.b true),[])
 else some (.v (.b false),[]))
 else none)
 else none)):=by kernel_rfl
theorem jQL (js:Nat→J) (q:Nat→Int) (n k:Nat) (hn:n≤50):yK Tryz.prog 118 [.lf n (fJ js),.lf k (fQ q),.f 119 [] []] (.v (.b (insQ js q n k))):=by
 refine qQQ (N:=60) (LO:=qZ [([0,1,0,1,1],uG (hEq js q n k 0) (fun K=>(bif (decide ((n:Int)=(k:Int)) && decide (n≤50)) then (bif (allN (fun i:Nat=>decide ((js i).lo≤q i) && decide (q i≤(js i).hi)) n 0) then (K (.exit 0) ⟨[],[]⟩) else (K .ret ⟨[(6,.v (.b false))],[]⟩)) else none)))]) yJ zW (OrL.ok (l:=([]:OrL)) trivial) (fun p S hp => ?_) ?_
 ·refine qZQ (L:=qQ T 118) (l:=[([0,1,0,1,1],uG (hEq js q n k 0) (fun K=>(bif (decide ((n:Int)=(k:Int)) && decide (n≤50)) then (bif (allN (fun i:Nat=>decide ((js i).lo≤q i) && decide (q i≤(js i).hi)) n 0) then (K (.exit 0) ⟨[],[]⟩) else (K .ret ⟨[(6,.v (.b false))],[]⟩)) else none)))]) (show AllP _ [([0,1,0,1,1],uG (hEq js q n k 0) (fun K=>(bif (decide ((n:Int)=(k:Int)) && decide (n≤50)) then (bif (allN (fun i:Nat=>decide ((js i).lo≤q i) && decide (q i≤(js i).hi)) n 0) then (K (.exit 0) ⟨[],[]⟩) else (K .ret ⟨[(6,.v (.b false))],[]⟩)) else none)))] from ⟨qYG fun K r hr => ?_,trivial⟩) p S hp
  ·obtain ⟨hg,hr⟩:=qY hr;rw [vQJ] at hg;have hn:=vJZ hg.2;have hk:n=k:=by have:=vJZ hg.1; omega
   exact (lpEq K js q n k hn hk).trans hr
 ·refine (kZF js q n k).trans ?_;unfold insQ;rw [yU,vJQ hn];cases decide ((n:Int)=(k:Int)) <;> cases (allN (fun i:Nat=>decide ((js i).lo≤q i) && decide (q i≤(js i).hi)) n 0) <;> rfl
def qIn (js:Nat→J) (ms:Nat→Ms) (q:Nat→Int) (n m k:Nat):Bool:=decide (rErr js ms n m=0) && insQ js q n k
theorem uQQ (js:Nat→J) (ms:Nat→Ms) (q:Nat→Int) (n m k:Nat):yK Tryz.prog 71 [.a [.lf n (fJ js),.lf m (fM ms)],.lf k (fQ q)] (.v (.b (qIn js ms q n m k))):=by
 refine zQ (N:=60) yJ zW (OrL.ok (l:=[(85,o_cr [.a [.lf n (fJ js),.lf m (fM ms)]] (.v (.n .i64 (rErr js ms n m)))),(118,o_lk [.lf n (fJ js),.lf k (fQ q),.f 119 [] []] (decide (n≤50)) (.v (.b (insQ js q n k))))]) ⟨qWU (yUQ js ms n m),yXW (fun h=>jQL js q n k (vJZ h)),trivial⟩) ?_;refine (by kernel_rfl:_=bif (g1 [.a [.lf n (fJ js),.lf m (fM ms)]]) then (bif (decide ((rErr js ms n m)=0)) then (bif (g1 [.lf n (fJ js),.lf k (fQ q),.f 119 [] []] && decide (n≤50)) then (bif (insQ js q n k) then some (.v (.b true),[])
 else some (.v (.b false),[]))
 else none)
 else some (.v (.b false),[]))
 else none).trans ?_
 unfold qIn;rw [g1_t,g1_t];by_cases h:rErr js ms n m=0
 ·have:=zKH h
  rw [vJQ h,vJQ (show n≤50 by omega)];cases insQ js q n k <;> rfl
 ·rw [vYH h]; rfl
def hRi (js:Nat→J) (ms:Nat→Ms) (q:Nat→Int) (n m k:Nat) (i:Int):St:=⟨[(1,.v (.lf k (fQ q))),(2,.p 2 0),(5,.v (.n .i64 i))],[(2,.blk [.v (.lf n (fJ js)),.v (.lf m (fM ms))])]⟩
set_option maxRecDepth 100000 in
theorem rdRi (G:St→Option (Ret × Mem)) (K:Cont) (js:Nat→J) (ms:Nat→Ms) (q:Nat→Int) (n m k:Nat) (i:Int):zVD 60 (cxF T (OrL.k [(65,o_cr [.a [.lf n (fJ js),.lf m (fM ms)]] (.v (.n .i64 (rErr js ms n m))))]) 60 58 (ntmF T 58)) (ckF T (OrL.k [(65,o_cr [.a [.lf n (fJ js),.lf m (fM ms)]] (.v (.n .i64 (rErr js ms n m))))]) 60) (qQ T 58 [0,1,0,1,1]) ((cxF T (OrL.k [(65,o_cr [.a [.lf n (fJ js),.lf m (fM ms)]] (.v (.n .i64 (rErr js ms n m))))]) 60 58 (ntmF T 58)).T.hint (cxF T (OrL.k [(65,o_cr [.a [.lf n (fJ js),.lf m (fM ms)]] (.v (.n .i64 (rErr js ms n m))))]) 60 58 (ntmF T 58)).me (qJ (qQ T 58 [0,1,0,1,1]))) K G (hRi js ms q n m k i) =
 (bif (decide (i < (k:Int))) then (bif (inB i k) then (bif (inB i n) then (bif (decide ((q (i).toNat) < (js (i).toNat).lo)) then (K .ret ⟨[(4,.v (.b false))],[]⟩)
 else (bif (inB i k) then (bif (inB i n) then (bif (decide ((js (i).toNat).hi < (q (i).toNat))) then (K .ret ⟨[(4,.v (.b false))],[]⟩)
 else (G (hRi js ms q n m k (vJJ .i64 (i + 1)))))
 else none)
 else none))
 else none)
 else none)
 else (K (.exit 0) ⟨[],[]⟩)):=by kernel_rfl
theorem lpRi (K:Cont) (js:Nat→J) (ms:Nat→Ms) (q:Nat→Int) (n m k:Nat) (_:k≤50) (_:n=k):LF 60 (cxF T (OrL.k [(65,o_cr [.a [.lf n (fJ js),.lf m (fM ms)]] (.v (.n .i64 (rErr js ms n m))))]) 60 58 (ntmF T 58)) (ckF T (OrL.k [(65,o_cr [.a [.lf n (fJ js),.lf m (fM ms)]] (.v (.n .i64 (rErr js ms n m))))]) 60) (qQ T 58 [0,1,0,1,1]) ((cxF T (OrL.k [(65,o_cr [.a [.lf n (fJ js),.lf m (fM ms)]] (.v (.n .i64 (rErr js ms n m))))]) 60 58 (ntmF T 58)).T.hint (cxF T (OrL.k [(65,o_cr [.a [.lf n (fJ js),.lf m (fM ms)]] (.v (.n .i64 (rErr js ms n m))))]) 60 58 (ntmF T 58)).me (qJ (qQ T 58 [0,1,0,1,1]))) K 60 (hRi js ms q n m k 0)=bif (allN (fun i:Nat => !decide (q i < (js i).lo) && !decide ((js i).hi < q i)) k 0) then (K (.exit 0) ⟨[],[]⟩) else (K .ret ⟨[(4,.v (.b false))],[]⟩):=by
 refine (zUW (c:=k) (hRi js ms q n m k) (fun i:Nat => !decide (q i < (js i).lo) && !decide ((js i).hi < q i)) (K (.exit 0) ⟨[],[]⟩) (fun i:Nat=>(K .ret ⟨[(4,.v (.b false))],[]⟩)) (fun G i hi => ?_) (fun G => ?_) k 0 60 (by omega) (by omega)).trans (jK _ _ _ _ _)
 ·refine (rdRi G K js ms q n m k i).trans ?_;rw [vJQ (show (i:Int) < (k:Int) by omega),uJ (by omega),yV (show i < k by omega),yV (show i < n by omega),toN];cases decide (q i < (js i).lo) <;> cases decide ((js i).hi < q i) <;> rfl
 ·refine (rdRi G K js ms q n m k k).trans ?_;rw [vYH (show ¬ (k:Int) < (k:Int) by omega)];rfl
def rqIn (js:Nat→J) (ms:Nat→Ms) (q:Nat→Int) (n m k:Nat):Bool:=decide (rErr js ms n m=0) && (decide ((k:Int)=(n:Int)) && (allN (fun i:Nat => !decide (q i < (js i).lo) && !decide ((js i).hi < q i)) k 0))
set_option maxRecDepth 100000 in
theorem uYV (js:Nat→J) (ms:Nat→Ms) (q:Nat→Int) (n m k:Nat):qXX T (OrL.k [(65,o_cr [.a [.lf n (fJ js),.lf m (fM ms)]] (.v (.n .i64 (rErr js ms n m))))]) (qZ [([0,1,0,1,1],uG (hRi js ms q n m k 0) (fun K=>(bif (decide (k≤50) && decide (n=k)) then (bif (allN (fun i:Nat => !decide (q i < (js i).lo) && !decide ((js i).hi < q i)) k 0) then (K (.exit 0) ⟨[],[]⟩) else (K .ret ⟨[(4,.v (.b false))],[]⟩)) else none)))]) 60 58 [.a [.lf n (fJ js),.lf m (fM ms)],.lf k (fQ q)] =
 (bif (g1 [.a [.lf n (fJ js),.lf m (fM ms)]]) then (bif (!decide ((rErr js ms n m)=0)) then some (.v (.b false),[])
 else (bif (!decide ((k:Int)=(n:Int))) then some (.v (.b false),[])
 else (bif (gSt (hRi js ms q n m k 0) (hRi js ms q n m k 0)) then (bif (decide (k≤50) && decide (n=k)) then (bif (allN (fun i:Nat => !decide (q i < (js i).lo) && !decide ((js i).hi < q i)) k 0) then some (.v (.b true),[])
 else some (.v (.b false),[]))
 else none)
 else none)))
 else none):=by kernel_rfl
theorem jJE (js:Nat→J) (ms:Nat→Ms) (q:Nat→Int) (n m k:Nat):yK Tryz.prog 58 [.a [.lf n (fJ js),.lf m (fM ms)],.lf k (fQ q)] (.v (.b (rqIn js ms q n m k))):=by
 refine qQQ (N:=60) (LO:=qZ [([0,1,0,1,1],uG (hRi js ms q n m k 0) (fun K=>(bif (decide (k≤50) && decide (n=k)) then (bif (allN (fun i:Nat => !decide (q i < (js i).lo) && !decide ((js i).hi < q i)) k 0) then (K (.exit 0) ⟨[],[]⟩) else (K .ret ⟨[(4,.v (.b false))],[]⟩)) else none)))]) yJ zW (OrL.ok (l:=[(65,o_cr [.a [.lf n (fJ js),.lf m (fM ms)]] (.v (.n .i64 (rErr js ms n m))))]) ⟨qWU (zVL js ms n m),trivial⟩) (fun p S hp => ?_) ?_
 ·refine qZQ (L:=qQ T 58) (l:=[([0,1,0,1,1],uG (hRi js ms q n m k 0) (fun K=>(bif (decide (k≤50) && decide (n=k)) then (bif (allN (fun i:Nat => !decide (q i < (js i).lo) && !decide ((js i).hi < q i)) k 0) then (K (.exit 0) ⟨[],[]⟩) else (K .ret ⟨[(4,.v (.b false))],[]⟩)) else none)))]) (show AllP _ [([0,1,0,1,1],uG (hRi js ms q n m k 0) (fun K=>(bif (decide (k≤50) && decide (n=k)) then (bif (allN (fun i:Nat => !decide (q i < (js i).lo) && !decide ((js i).hi < q i)) k 0) then (K (.exit 0) ⟨[],[]⟩) else (K .ret ⟨[(4,.v (.b false))],[]⟩)) else none)))] from ⟨qYG fun K r hr => ?_,trivial⟩) p S hp
  ·obtain ⟨hg,hr⟩:=qY hr;rw [vQJ] at hg;have hk:=vJZ hg.1;have hn:=vJZ hg.2;exact (lpRi K js ms q n m k hk hn).trans hr
 ·refine (uYV js ms q n m k).trans ?_;unfold rqIn;rw [g1_t];by_cases h:rErr js ms n m=0
  ·have:=zKH h
   rw [vJQ h];by_cases e:k=n
   ·subst e;rw [yU,vJQ (show k≤50 by omega),vJQ (show k=k from rfl),vJQ (show (k:Int)=(k:Int) from rfl)];cases (allN (fun i:Nat => !decide (q i < (js i).lo) && !decide ((js i).hi < q i)) k 0) <;> rfl
   ·rw [vYH (show ¬ (k:Int)=(n:Int) by omega)];rfl
  ·rw [vYH h]; rfl
theorem nlt (a b:Int):(!decide (a < b))=decide (b≤a):=by by_cases h:a < b <;> simp [h] <;> omega
theorem uZC (js:Nat→J) (ms:Nat→Ms) (q:Nat→Int) (n m k:Nat):rqIn js ms q n m k=qIn js ms q n m k:=by
 unfold rqIn qIn insQ;by_cases e:n=k
 ·subst e;simp only [nlt]
 ·rw [vYH (show ¬ (n:Int)=(k:Int) by omega),vYH (show ¬ (k:Int)=(n:Int) by omega)]; rfl
theorem kQH (js:Nat→J) (ms:Nat→Ms) (q:Nat→Int) (n m k:Nat):yK Tryz.prog 58 [.a [.lf n (fJ js),.lf m (fM ms)],.lf k (fQ q)] (.v (.b (qIn js ms q n m k))):=by
 have h:=jJE js ms q n m k;rw [uZC] at h;exact h
theorem kZE {js:Nat→J} {ms:Nat→Ms} {q:Nat→Int} {n m k:Nat} (h:qIn js ms q n m k=true):rErr js ms n m=0∧n=k∧∀ i,i < n→(js i).lo≤q i∧q i≤(js i).hi:=by
 unfold qIn insQ at h;simp only [vQJ,decide_eq_true_eq] at h;refine ⟨h.1,by omega,fun i hi => ?_⟩
 have:=allN_iff.1 h.2.2 i (Nat.zero_le _) (by omega)
 simpa [vQJ,decide_eq_true_eq] using this
end Go.Proofs.YtgmbkkkbfbocnaaGreat.Nl
namespace Go.Proofs.YtgmbkkkbfbocnaaGreat.Nm
open Go.Rx Rt Go.Sx Go.RowKit Od Na Nb Nc Nx Nl
def hSx (q:Nat→Int) (k:Nat) (i:Int):St:=⟨[(0,.v (.lf k (fQ q))),(1,.v (.f 151 [] [])),(7,.v (.n .i64 (k:Int))),(8,.v (.n .i64 i))],[]⟩
set_option maxRecDepth 100000 in
theorem rdSx (G:St→Option (Ret × Mem)) (K:Cont) (q:Nat→Int) (k:Nat) (i:Int):zVD 60 (cxF T (OrL.k ([]:OrL)) 60 172 (ntmF T 172)) (ckF T (OrL.k ([]:OrL)) 60) (qQ T 172 [0,1,0,1]) ((cxF T (OrL.k ([]:OrL)) 60 172 (ntmF T 172)).T.hint (cxF T (OrL.k ([]:OrL)) 60 172 (ntmF T 172)).me (qJ (qQ T 172 [0,1,0,1]))) K G (hSx q k i) =
 (bif (decide (i < (k:Int))) then (bif (inB i k) then (bif (decide ((q (i).toNat) < (-2147483648))) then (K .ret ⟨[(4,.v (.n .i64 i))],[]⟩)
 else (bif (decide (2147483648 < (q (i).toNat))) then (K .ret ⟨[(4,.v (.n .i64 i))],[]⟩)
 else (G (hSx q k (vJJ .i64 (i + 1))))))
 else none)
 else (K (.exit 0) ⟨[],[]⟩)):=by kernel_rfl
theorem lpSx (K:Cont) (q:Nat→Int) (k:Nat) (_:k≤50):LF 60 (cxF T (OrL.k ([]:OrL)) 60 172 (ntmF T 172)) (ckF T (OrL.k ([]:OrL)) 60) (qQ T 172 [0,1,0,1]) ((cxF T (OrL.k ([]:OrL)) 60 172 (ntmF T 172)).T.hint (cxF T (OrL.k ([]:OrL)) 60 172 (ntmF T 172)).me (qJ (qQ T 172 [0,1,0,1]))) K 60 (hSx q k 0)=bif (allN (fun i:Nat => !decide (q i < -2147483648) && !decide (2147483648 < q i)) k 0) then (K (.exit 0) ⟨[],[]⟩) else (K .ret ⟨[(4,.v (.n .i64 ((Rx.firstK (fun i:Nat => !decide (q i < -2147483648) && !decide (2147483648 < q i)) k 0:Nat):Int)))],[]⟩):=by
 refine (zUW (c:=k) (hSx q k) (fun i:Nat => !decide (q i < -2147483648) && !decide (2147483648 < q i)) (K (.exit 0) ⟨[],[]⟩) (fun i:Nat=>(K .ret ⟨[(4,.v (.n .i64 (i:Int)))],[]⟩)) (fun G i hi => ?_) (fun G => ?_) k 0 60 (by omega) (by omega)).trans (qQL _ _ _ _ _)
 ·refine (rdSx G K q k i).trans ?_;rw [vJQ (show (i:Int) < (k:Int) by omega),uJ (by omega),yV (show i < k by omega),toN];cases decide (q i < -2147483648) <;> cases decide (2147483648 < q i) <;> rfl
 ·refine (rdSx G K q k k).trans ?_;rw [vYH (show ¬ (k:Int) < (k:Int) by omega)];rfl
def smQ (q:Nat→Int) (k:Nat):Bool:=(allN (fun i:Nat => !decide (q i < -2147483648) && !decide (2147483648 < q i)) k 0)
set_option maxRecDepth 100000 in
theorem uGG (q:Nat→Int) (k:Nat):qXX T (OrL.k ([]:OrL)) (qZ [([0,1,0,1],uG (hSx q k 0) (fun K=>(bif (decide (k≤50)) then (bif (allN (fun i:Nat => !decide (q i < -2147483648) && !decide (2147483648 < q i)) k 0) then (K (.exit 0) ⟨[],[]⟩) else (K .ret ⟨[(4,.v (.n .i64 ((Rx.firstK (fun i:Nat => !decide (q i < -2147483648) && !decide (2147483648 < q i)) k 0:Nat):Int)))],[]⟩)) else none)))]) 60 172 [.lf k (fQ q),.f 151 [] []] =
 (bif (gSt (hSx q k 0) (hSx q k 0)) then (bif (decide (k≤50)) then (bif (allN (fun i:Nat => !decide (q i < -2147483648) && !decide (2147483648 < q i)) k 0) then some (.v (.n .i64 (-1)),[])
 else some (.v (.n .i64 ((Rx.firstK (fun i:Nat => !decide (q i < -2147483648) && !decide (2147483648 < q i)) k 0:Nat):Int)),[]))
 else none)
 else none):=by kernel_rfl
theorem kQW (q:Nat→Int) (k:Nat) (hk:k≤50):yK Tryz.prog 172 [.lf k (fQ q),.f 151 [] []] (.v (.n .i64 (bif smQ q k then -1 else ((Rx.firstK (fun i:Nat => !decide (q i < -2147483648) && !decide (2147483648 < q i)) k 0:Nat):Int)))):=by
 refine qQQ (N:=60) (LO:=qZ [([0,1,0,1],uG (hSx q k 0) (fun K=>(bif (decide (k≤50)) then (bif (allN (fun i:Nat => !decide (q i < -2147483648) && !decide (2147483648 < q i)) k 0) then (K (.exit 0) ⟨[],[]⟩) else (K .ret ⟨[(4,.v (.n .i64 ((Rx.firstK (fun i:Nat => !decide (q i < -2147483648) && !decide (2147483648 < q i)) k 0:Nat):Int)))],[]⟩)) else none)))]) yJ zW (OrL.ok (l:=([]:OrL)) trivial) (fun p S hp => ?_) ?_
 ·refine qZQ (L:=qQ T 172) (l:=[([0,1,0,1],uG (hSx q k 0) (fun K=>(bif (decide (k≤50)) then (bif (allN (fun i:Nat => !decide (q i < -2147483648) && !decide (2147483648 < q i)) k 0) then (K (.exit 0) ⟨[],[]⟩) else (K .ret ⟨[(4,.v (.n .i64 ((Rx.firstK (fun i:Nat => !decide (q i < -2147483648) && !decide (2147483648 < q i)) k 0:Nat):Int)))],[]⟩)) else none)))]) (show AllP _ [([0,1,0,1],uG (hSx q k 0) (fun K=>(bif (decide (k≤50)) then (bif (allN (fun i:Nat => !decide (q i < -2147483648) && !decide (2147483648 < q i)) k 0) then (K (.exit 0) ⟨[],[]⟩) else (K .ret ⟨[(4,.v (.n .i64 ((Rx.firstK (fun i:Nat => !decide (q i < -2147483648) && !decide (2147483648 < q i)) k 0:Nat):Int)))],[]⟩)) else none)))] from ⟨qYG fun K r hr => ?_,trivial⟩) p S hp
  ·obtain ⟨hg,hr⟩:=qY hr;have hk:=vJZ hg;exact (lpSx K q k hk).trans hr
 ·refine (uGG q k).trans ?_;unfold smQ;rw [yU,vJQ hk];cases (allN (fun i:Nat => !decide (q i < -2147483648) && !decide (2147483648 < q i)) k 0) <;> rfl
theorem kQV (q:Nat→Int) (k:Nat) (hk:k≤50):yK Tryz.prog 150 [.lf k (fQ q),.f 151 [] []] (.v (.b (!smQ q k))):=by
 refine zQ (N:=60) yJ zW (OrL.ok (l:=[(172,o_cr [.lf k (fQ q),.f 151 [] []] (.v (.n .i64 (bif smQ q k then -1 else ((Rx.firstK (fun i:Nat => !decide (q i < -2147483648) && !decide (2147483648 < q i)) k 0:Nat):Int)))))]) ⟨qWU (kQW q k hk),trivial⟩) ?_;refine (by kernel_rfl:_=bif (g1 [.lf k (fQ q),.f 151 [] []]) then (bif (decide (0≤(bif smQ q k then -1 else ((Rx.firstK (fun i:Nat => !decide (q i < -2147483648) && !decide (2147483648 < q i)) k 0:Nat):Int)))) then some (.v (.b true),[])
 else some (.v (.b false),[]))
 else none).trans ?_
 rw [g1_t];cases smQ q k with
 | true=>rfl
 | false =>
  rw [vYG,vJQ (show 0≤((Rx.firstK (fun i:Nat => !decide (q i < -2147483648) && !decide (2147483648 < q i)) k 0:Nat):Int) by omega)];rfl
theorem uWD (q:Nat→Int) (k:Nat) (hk:k≤50):yK Tryz.prog 120 [.lf k (fQ q)] (.v (.b (smQ q k))):=by
 refine zQ (N:=60) yJ zW (OrL.ok (l:=[(150,o_cr [.lf k (fQ q),.f 151 [] []] (.v (.b (!smQ q k))))]) ⟨qWU (kQV q k hk),trivial⟩) ?_;refine (by kernel_rfl:_=bif (g1 [.lf k (fQ q),.f 151 [] []]) then (bif (!smQ q k) then some (.v (.b false),[])
 else some (.v (.b true),[]))
 else none).trans ?_
 rw [g1_t];cases smQ q k <;> rfl
def hSr (q:Nat→Int) (k:Nat) (i:Int):St:=⟨[(0,.v (.lf k (fQ q))),(3,.v (.n .i64 i))],[]⟩
set_option maxRecDepth 100000 in
theorem rdSr (G:St→Option (Ret × Mem)) (K:Cont) (q:Nat→Int) (k:Nat) (i:Int):zVD 60 (cxF T (OrL.k ([]:OrL)) 60 69 (ntmF T 69)) (ckF T (OrL.k ([]:OrL)) 60) (qQ T 69 [0,1,0,1]) ((cxF T (OrL.k ([]:OrL)) 60 69 (ntmF T 69)).T.hint (cxF T (OrL.k ([]:OrL)) 60 69 (ntmF T 69)).me (qJ (qQ T 69 [0,1,0,1]))) K G (hSr q k i) =
 (bif (decide (i < (k:Int))) then (bif (inB i k) then (bif (decide ((q (i).toNat) < (-2147483648))) then (K .ret ⟨[(2,.v (.b false))],[]⟩)
 else (bif (inB i k) then (bif (decide (2147483648 < (q (i).toNat))) then (K .ret ⟨[(2,.v (.b false))],[]⟩)
 else (G (hSr q k (vJJ .i64 (i + 1)))))
 else none))
 else none)
 else (K (.exit 0) ⟨[],[]⟩)):=by kernel_rfl
theorem lpSr (K:Cont) (q:Nat→Int) (k:Nat) (_:k≤50):LF 60 (cxF T (OrL.k ([]:OrL)) 60 69 (ntmF T 69)) (ckF T (OrL.k ([]:OrL)) 60) (qQ T 69 [0,1,0,1]) ((cxF T (OrL.k ([]:OrL)) 60 69 (ntmF T 69)).T.hint (cxF T (OrL.k ([]:OrL)) 60 69 (ntmF T 69)).me (qJ (qQ T 69 [0,1,0,1]))) K 60 (hSr q k 0)=bif (allN (fun i:Nat => !decide (q i < -2147483648) && !decide (2147483648 < q i)) k 0) then (K (.exit 0) ⟨[],[]⟩) else (K .ret ⟨[(2,.v (.b false))],[]⟩):=by
 refine (zUW (c:=k) (hSr q k) (fun i:Nat => !decide (q i < -2147483648) && !decide (2147483648 < q i)) (K (.exit 0) ⟨[],[]⟩) (fun i:Nat=>(K .ret ⟨[(2,.v (.b false))],[]⟩)) (fun G i hi => ?_) (fun G => ?_) k 0 60 (by omega) (by omega)).trans (jK _ _ _ _ _)
 ·refine (rdSr G K q k i).trans ?_;rw [vJQ (show (i:Int) < (k:Int) by omega),uJ (by omega),yV (show i < k by omega),toN];cases decide (q i < -2147483648) <;> cases decide (2147483648 < q i) <;> rfl
 ·refine (rdSr G K q k k).trans ?_;rw [vYH (show ¬ (k:Int) < (k:Int) by omega)];rfl
set_option maxRecDepth 100000 in
theorem xXW (q:Nat→Int) (k:Nat):qXX T (OrL.k ([]:OrL)) (qZ [([0,1,0,1],uG (hSr q k 0) (fun K=>(bif (decide (k≤50)) then (bif (allN (fun i:Nat => !decide (q i < -2147483648) && !decide (2147483648 < q i)) k 0) then (K (.exit 0) ⟨[],[]⟩) else (K .ret ⟨[(2,.v (.b false))],[]⟩)) else none)))]) 60 69 [.lf k (fQ q)] =
 (bif (gSt (hSr q k 0) (hSr q k 0)) then (bif (decide (k≤50)) then (bif (allN (fun i:Nat => !decide (q i < -2147483648) && !decide (2147483648 < q i)) k 0) then some (.v (.b true),[])
 else some (.v (.b false),[]))
 else none)
 else none):=by kernel_rfl
theorem kHE (q:Nat→Int) (k:Nat) (hk:k≤50):yK Tryz.prog 69 [.lf k (fQ q)] (.v (.b (smQ q k))):=by
 refine qQQ (N:=60) (LO:=qZ [([0,1,0,1],uG (hSr q k 0) (fun K=>(bif (decide (k≤50)) then (bif (allN (fun i:Nat => !decide (q i < -2147483648) && !decide (2147483648 < q i)) k 0) then (K (.exit 0) ⟨[],[]⟩) else (K .ret ⟨[(2,.v (.b false))],[]⟩)) else none)))]) yJ zW (OrL.ok (l:=([]:OrL)) trivial) (fun p S hp => ?_) ?_
 ·refine qZQ (L:=qQ T 69) (l:=[([0,1,0,1],uG (hSr q k 0) (fun K=>(bif (decide (k≤50)) then (bif (allN (fun i:Nat => !decide (q i < -2147483648) && !decide (2147483648 < q i)) k 0) then (K (.exit 0) ⟨[],[]⟩) else (K .ret ⟨[(2,.v (.b false))],[]⟩)) else none)))]) (show AllP _ [([0,1,0,1],uG (hSr q k 0) (fun K=>(bif (decide (k≤50)) then (bif (allN (fun i:Nat => !decide (q i < -2147483648) && !decide (2147483648 < q i)) k 0) then (K (.exit 0) ⟨[],[]⟩) else (K .ret ⟨[(2,.v (.b false))],[]⟩)) else none)))] from ⟨qYG fun K r hr => ?_,trivial⟩) p S hp
  ·obtain ⟨hg,hr⟩:=qY hr;have hk:=vJZ hg;exact (lpSr K q k hk).trans hr
 ·refine (xXW q k).trans ?_;unfold smQ;rw [yU,vJQ hk];cases (allN (fun i:Nat => !decide (q i < -2147483648) && !decide (2147483648 < q i)) k 0) <;> rfl
theorem zWY {β:Type} {g h:Nat→Int} {KX:(Nat→Int) × (Nat→Int)→β} {KR:Nat→(Nat→Int) × (Nat→Int)→β}:∀ k p t,runS (fun _ _=>true) (fun (i:Nat) (t:(Nat→Int) × (Nat→Int))=>((fun v=>bif Nat.beq v i then g i else t.1 v),(fun v=>bif Nat.beq v i then h i else t.2 v))) KX KR k p t=KX (qUX g k p t.1,qUX h k p t.2)
 | 0,_,_=>rfl
 | k + 1,p,t=>by
  simp only [runS,vYV];exact zWY k (p + 1) _
noncomputable def orMp (_:Nat→Int) (k:Nat):OrL:=([]:OrL)
noncomputable def hMp (q:Nat→Int) (k:Nat) (i:Int) (a:Nat→Int) (b:Nat→Int):St:=⟨[(1,.v (.f 122 [] [])),(5,.o 10),(11,.v (.lf k (fQ q))),(12,.v (.n .i64 (k:Int))),(13,.v (.n .i64 i))],[(10,.reg 62 2 (.fo (k:Int).toNat (fun v=>[.n .i64 (a v),.n .i64 (b v)])))]⟩
set_option maxRecDepth 100000 in
theorem rdMp (G:St→Option (Ret × Mem)) (K:Cont) (q:Nat→Int) (k:Nat) (i:Int) (a:Nat→Int) (b:Nat→Int):jQE 60 (cxF Tf (OrL.k (orMp q k)) 60 121 (ntmF Tf 121)) (ckF Tf (OrL.k (orMp q k)) 60) (qZ []) (qQ Tf 121 [0,1,0,1,1]) [0,1,0,1,1] (Tf.hint 121 (qJ (qQ Tf 121 [0,1,0,1,1]))) K G (hMp q k i a b) =
 (bif (decide (i < (k:Int))) then (bif (inB i k) then (bif (inB i (k:Int).toNat) then (G (hMp q k (vJJ .i64 (i + 1)) (fun v=>(bif (Nat.beq v (i).toNat) then (min (max (q (i).toNat) (-2147483648)) 2147483648) else (a v))) (fun v=>(bif (Nat.beq v (i).toNat) then (min (max (q (i).toNat) (-2147483648)) 2147483648) else (b v)))))
 else none)
 else none)
 else (K (.exit 0) ⟨[(5,.o 10)],[(10,.reg 62 2 (.fo (k:Int).toNat (fun v=>[.n .i64 (a v),.n .i64 (b v)])))]⟩)):=by kernel_rfl
theorem lpMp (K:Cont) (q:Nat→Int) (k:Nat) (_:k≤50):LFL 60 (cxF Tf (OrL.k (orMp q k)) 60 121 (ntmF Tf 121)) (ckF Tf (OrL.k (orMp q k)) 60) (qZ []) (qQ Tf 121 [0,1,0,1,1]) [0,1,0,1,1] (Tf.hint 121 (qJ (qQ Tf 121 [0,1,0,1,1]))) K 60 (hMp q k 0 (fun _=>0) (fun _=>0))=(K (.exit 0) ⟨[(5,.o 10)],[(10,.reg 62 2 (.fo (k:Int).toNat (fun v=>[.n .i64 ((qUX (fun i:Nat=>min (max (q i) (-2147483648)) 2147483648) k 0 (fun _=>0)) v),.n .i64 ((qUX (fun i:Nat=>min (max (q i) (-2147483648)) 2147483648) k 0 (fun _=>0)) v)])))]⟩):=by
 refine (uH (L:=LFL 60 (cxF Tf (OrL.k (orMp q k)) 60 121 (ntmF Tf 121)) (ckF Tf (OrL.k (orMp q k)) 60) (qZ []) (qQ Tf 121 [0,1,0,1,1]) [0,1,0,1,1] (Tf.hint 121 (qJ (qQ Tf 121 [0,1,0,1,1]))) K) (stp:=jQE 60 (cxF Tf (OrL.k (orMp q k)) 60 121 (ntmF Tf 121)) (ckF Tf (OrL.k (orMp q k)) 60) (qZ []) (qQ Tf 121 [0,1,0,1,1]) [0,1,0,1,1] (Tf.hint 121 (qJ (qQ Tf 121 [0,1,0,1,1]))) K) (fun _ _=>rfl) (fun (i:Nat) (t:((Nat→Int) × (Nat→Int)))=>hMp q k (i:Int) t.1 t.2) (fun _ _=>True) (fun _ _=>true) (fun (i:Nat) t=>((fun v=>bif Nat.beq v i then min (max (q i) (-2147483648)) 2147483648 else t.1 v),(fun v=>bif Nat.beq v i then min (max (q i) (-2147483648)) 2147483648 else t.2 v))) (c:=k) (fun t=>(K (.exit 0) ⟨[(5,.o 10)],[(10,.reg 62 2 (.fo (k:Int).toNat (fun v=>[.n .i64 (t.1 v),.n .i64 (t.2 v)])))]⟩)) (fun _ _=>none) (fun G i t hi _ => ?_) (fun _ _ _ _ _=>trivial) (fun G t _ => ?_) k 0 60 ((fun _=>0),(fun _=>0)) (by omega) (by omega) trivial).trans (zWY k 0 _)
 ·refine (rdMp G K q k i t.1 t.2).trans ?_;simp only [vJQ (show (i:Int) < (k:Int) by omega),uJ (show i < 1000000 by omega),yV (show i < k by omega),toN,vYV]
  all_goals rfl
 ·refine (rdMp G K q k k t.1 t.2).trans ?_;rw [vYH (show ¬ (k:Int) < (k:Int) by omega)];rfl
noncomputable def kKE (q:Nat→Int) (k:Nat):List (List Nat × jG):=[([0,1,0,1,1],sumF (fun _:Unit=>(hMp q k 0 (fun _=>0) (fun _=>0))) (fun _=>()) (fun _ K=>(bif (decide (k≤50)) then (K (.exit 0) ⟨[(5,.o 10)],[(10,.reg 62 2 (.fo (k:Int).toNat (fun v=>[.n .i64 ((qUX (fun i:Nat=>min (max (q i) (-2147483648)) 2147483648) k 0 (fun _=>0)) v),.n .i64 ((qUX (fun i:Nat=>min (max (q i) (-2147483648)) 2147483648) k 0 (fun _=>0)) v)])))]⟩) else none)))]
set_option maxRecDepth 100000 in
theorem xXL (q:Nat→Int) (k:Nat):qXX Tf (OrL.k (orMp q k)) (qZ (kKE q k)) 60 121 [.lf k (fQ q),.f 122 [] []] =
 (bif (decide (0≤(k:Int))) then (bif (decide ((k:Int)≤(k:Int))) then (bif (decide ((k:Int)≤1000000)) then (bif (gSt (hMp q k 0 (fun _=>0) (fun _=>0)) (hMp q k 0 (fun _=>0) (fun _=>0))) then (bif (decide (k≤50)) then some (.ow 62 2 (.fo (k:Int).toNat (fun v=>[.n .i64 ((qUX (fun i:Nat=>min (max (q i) (-2147483648)) 2147483648) k 0 (fun _=>0)) v),.n .i64 ((qUX (fun i:Nat=>min (max (q i) (-2147483648)) 2147483648) k 0 (fun _=>0)) v)])),[])
 else none)
 else none)
 else none)
 else none)
 else none):=by kernel_rfl
theorem uQW (q:Nat→Int) (k:Nat) (hk:k≤50):yK Tryz.prog 121 [.lf k (fQ q),.f 122 [] []] (.ow 62 2 (.fo k (fun v=>[.n .i64 ((qUX (fun i:Nat=>min (max (q i) (-2147483648)) 2147483648) k 0 (fun _=>0)) v),.n .i64 ((qUX (fun i:Nat=>min (max (q i) (-2147483648)) 2147483648) k 0 (fun _=>0)) v)]))):=by
 refine zYK (N:=60) (LO:=qZ (kKE q k)) kX zW (OrL.ok (l:=(orMp q k)) trivial) (fun p S hp => ?_) ?_
 ·refine zG (L:=qQ Tf 121) (l:=(kKE q k)) (show AllP _ (kKE q k) from ⟨?_,trivial⟩) p S hp
  ·dsimp only;refine jJG (T:=Tf) (ok:=(OrL.k (orMp q k))) (f:=121) (LO:=qZ []) (p:=[0,1,0,1,1]) kW ?_;intro _ K r hr;obtain ⟨hg,hr⟩:=qY hr;have hk:=vJZ hg;exact (lpMp K q k hk).trans hr
 ·refine (xXL q k).trans ?_;simp only [yU,vJQ hk,vJQ (show (0:Int)≤(k:Int) by omega),vJQ (show (k:Int)≤(k:Int) by omega),vJQ (show (k:Int)≤1000000 by omega),toN,vYV]
noncomputable def orRb (q:Nat→Int) (k:Nat):OrL:=[(69,o_lk [.lf k (fQ q)] (decide (k≤50)) (.v (.b (smQ q k))))]
noncomputable def hRb (q:Nat→Int) (k:Nat) (i:Int) (r:Nat) (f:Nat→List PV):St:=⟨[(0,.v (.lf k (fQ q))),(3,.o 25),(4,.v (.n .i64 i))],[(25,.reg 62 2 (.fo r f))]⟩
set_option maxRecDepth 100000 in
theorem rdRb (G:St→Option (Ret × Mem)) (K:Cont) (q:Nat→Int) (k:Nat) (i:Int) (r:Nat) (f:Nat→List PV):jQE 60 (cxF Tf (OrL.k (orRb q k)) 60 23 (ntmF Tf 23)) (ckF Tf (OrL.k (orRb q k)) 60) (qZ []) (qQ Tf 23 [0,1,0,1,1,1]) [0,1,0,1,1,1] (Tf.hint 23 (qJ (qQ Tf 23 [0,1,0,1,1,1]))) K G (hRb q k i r f) =
 (bif (decide (i < (k:Int))) then (bif (inB i k) then (bif (inB i k) then (bif (decide (r + 1≤8796093022208)) then (G (hRb q k (vJJ .i64 (i + 1)) (r + 1) (fun v=>uV (Nat.beq v r) [.n .i64 (q (i).toNat),.n .i64 (q (i).toNat)] (f v))))
 else none)
 else none)
 else none)
 else (K (.exit 0) ⟨[(3,.o 25)],[(25,.reg 62 2 (.fo r f))]⟩)):=by kernel_rfl
theorem lpRb (K:Cont) (q:Nat→Int) (k:Nat) (_:k≤50):LFL 60 (cxF Tf (OrL.k (orRb q k)) 60 23 (ntmF Tf 23)) (ckF Tf (OrL.k (orRb q k)) 60) (qZ []) (qQ Tf 23 [0,1,0,1,1,1]) [0,1,0,1,1,1] (Tf.hint 23 (qJ (qQ Tf 23 [0,1,0,1,1,1]))) K 60 (hRb q k 0 0 (fun _=>[.n .i64 0,.n .i64 0]))=(K (.exit 0) ⟨[(3,.o 25)],[(25,.reg 62 2 (.fo k (zXB (fun i:Nat=>[.n .i64 (q i),.n .i64 (q i)]) k 0 (fun _=>[.n .i64 0,.n .i64 0]))))]⟩):=by
 refine (uH (L:=LFL 60 (cxF Tf (OrL.k (orRb q k)) 60 23 (ntmF Tf 23)) (ckF Tf (OrL.k (orRb q k)) 60) (qZ []) (qQ Tf 23 [0,1,0,1,1,1]) [0,1,0,1,1,1] (Tf.hint 23 (qJ (qQ Tf 23 [0,1,0,1,1,1]))) K) (stp:=jQE 60 (cxF Tf (OrL.k (orRb q k)) 60 23 (ntmF Tf 23)) (ckF Tf (OrL.k (orRb q k)) 60) (qZ []) (qQ Tf 23 [0,1,0,1,1,1]) [0,1,0,1,1,1] (Tf.hint 23 (qJ (qQ Tf 23 [0,1,0,1,1,1]))) K) (fun _ _=>rfl) (fun (i:Nat) (f:Nat→List PV)=>hRb q k (i:Int) i f) (fun _ _=>True) (fun _ _=>true) (fun (i:Nat) f v=>uV (Nat.beq v i) ([.n .i64 (q i),.n .i64 (q i)]) (f v)) (c:=k) (fun f=>(K (.exit 0) ⟨[(3,.o 25)],[(25,.reg 62 2 (.fo k f))]⟩)) (fun _ _=>none) (fun G i f hi _ => ?_) (fun _ _ _ _ _=>trivial) (fun G f _ => ?_) k 0 60 (fun _=>[.n .i64 0,.n .i64 0]) (by omega) (by omega) trivial).trans (yZK k 0 (fun _=>[.n .i64 0,.n .i64 0]))
 ·refine (rdRb G K q k (i:Int) i f).trans ?_;simp only [vJQ (show (i:Int) < (k:Int) by omega),uJ (show i < 1000000 by omega),yV (show i < k by omega),toN,vJQ (show i + 1≤8796093022208 by omega),vYV]
  all_goals rfl
 ·refine (rdRb G K q k (k:Int) k f).trans ?_;rw [vYH (show ¬ (k:Int) < (k:Int) by omega)];rfl
noncomputable def yGC (q:Nat→Int) (k:Nat):List (List Nat × jG):=[([0,1,0,1,1,1],sumF (fun _:Unit=>(hRb q k 0 0 (fun _=>[.n .i64 0,.n .i64 0]))) (fun _=>()) (fun _ K=>(bif (decide (k≤50)) then (K (.exit 0) ⟨[(3,.o 25)],[(25,.reg 62 2 (.fo k (zXB (fun i:Nat=>[.n .i64 (q i),.n .i64 (q i)]) k 0 (fun _=>[.n .i64 0,.n .i64 0]))))]⟩) else none)))]
set_option maxRecDepth 100000 in
theorem uGA (q:Nat→Int) (k:Nat):qXX Tf (OrL.k (orRb q k)) (qZ (yGC q k)) 60 23 [.lf k (fQ q)] =
 (bif (g1 [.lf k (fQ q)] && decide (k≤50)) then (bif (smQ q k) then (bif (gSt (hRb q k 0 0 (fun _=>[.n .i64 0,.n .i64 0])) (hRb q k 0 0 (fun _=>[.n .i64 0,.n .i64 0]))) then (bif (decide (k≤50)) then some (.ow 62 2 (.fo k (zXB (fun i:Nat=>[.n .i64 (q i),.n .i64 (q i)]) k 0 (fun _=>[.n .i64 0,.n .i64 0]))),[])
 else none)
 else none)
 else some (.v (.l []),[]))
 else none):=by kernel_rfl
theorem kQA (q:Nat→Int) (k:Nat) (hk:k≤50):yK Tryz.prog 23 [.lf k (fQ q)] (bif smQ q k then .ow 62 2 (.fo k (zXB (fun i:Nat=>[.n .i64 (q i),.n .i64 (q i)]) k 0 (fun _=>[.n .i64 0,.n .i64 0]))) else .v (.l [])):=by
 refine zYK (N:=60) (LO:=qZ (yGC q k)) kX zW (OrL.ok (l:=(orRb q k)) ⟨yXW (fun h=>kHE q k (vJZ h)),trivial⟩) (fun p S hp => ?_) ?_
 ·refine zG (L:=qQ Tf 23) (l:=(yGC q k)) (show AllP _ (yGC q k) from ⟨?_,trivial⟩) p S hp
  ·dsimp only;refine jJG (T:=Tf) (ok:=(OrL.k (orRb q k))) (f:=23) (LO:=qZ []) (p:=[0,1,0,1,1,1]) kW ?_;intro _ K r hr;obtain ⟨hg,hr⟩:=qY hr;have hk:=vJZ hg;exact (lpRb K q k hk).trans hr
 ·refine (uGA q k).trans ?_;rw [g1_t,yU,vJQ hk];cases smQ q k <;> rfl
def ptB (q:Nat→Int):Nat→Iv:=fun i=>⟨q i,q i⟩
theorem jJL (q:Nat→Int) (k:Nat) (hk:k≤50):yK Tryz.prog 23 [.lf k (fQ q)] (.v (.lf (bif smQ q k then k else 0) (fB (ptB q)))):=by
 have h0:=kQA q k hk;cases h:smQ q k with
 | true =>
  rw [h] at h0;exact qJZ jKC (zVF h0)
 | false =>
  rw [h] at h0;exact qJZ (Same.lf rfl) h0
theorem uVG {q:Nat→Int} {k i:Nat} (h:smQ q k=true) (_:i < k) : -2147483648≤q i∧q i≤2147483648:=by
 have:=allN_iff.1 h i (Nat.zero_le _) (by omega)
 simp only [vQJ,Bool.not_eq_true',decide_eq_false_iff_not] at this;omega
theorem uVU (q:Nat→Int) (k:Nat) (hk:k≤50):yK Tryz.prog 72 [.lf k (fQ q)] (.v (.lf (bif smQ q k then k else 0) (fB (ptB q)))):=by
 have h0:yK Tryz.prog 72 [.lf k (fQ q)] (bif smQ q k then .v (.lf k (fun v=>[.n .i64 ((qUX (fun i:Nat=>min (max (q i) (-2147483648)) 2147483648) k 0 (fun _=>0)) v),.n .i64 ((qUX (fun i:Nat=>min (max (q i) (-2147483648)) 2147483648) k 0 (fun _=>0)) v)])) else .v (.l [])):=by
  refine zQ (T:=Tf) (N:=60) kX zW (OrL.ok (l:=[(120,o_lk [.lf k (fQ q)] (decide (k≤50)) (.v (.b (smQ q k)))),(121,o_lk [.lf k (fQ q),.f 122 [] []] (decide (k≤50)) (.ow 62 2 (.fo k (fun v=>[.n .i64 ((qUX (fun i:Nat=>min (max (q i) (-2147483648)) 2147483648) k 0 (fun _=>0)) v),.n .i64 ((qUX (fun i:Nat=>min (max (q i) (-2147483648)) 2147483648) k 0 (fun _=>0)) v)]))))]) ⟨yXW (fun h=>uWD q k (vJZ h)),yXW (fun h=>uQW q k (vJZ h)),trivial⟩) ?_;refine (by kernel_rfl:_=bif (g1 [.lf k (fQ q)] && decide (k≤50)) then (bif (smQ q k) then (bif (g1 [.lf k (fQ q),.f 122 [] []] && decide (k≤50)) then some (.v (.lf k (fun v=>[.n .i64 ((qUX (fun i:Nat=>min (max (q i) (-2147483648)) 2147483648) k 0 (fun _=>0)) v),.n .i64 ((qUX (fun i:Nat=>min (max (q i) (-2147483648)) 2147483648) k 0 (fun _=>0)) v)])),[])
 else none)
 else some (.v (.l []),[]))
 else none).trans ?_
  simp only [g1_t,vJQ hk,vZJ,vYV];cases smQ q k <;> rfl
 cases h:smQ q k with
 | true =>
  rw [h] at h0;refine qJZ (qYW fun j (hj:j < k) => ?_) h0
  have:=uVG h hj
  show [PV.n .i64 (qUX _ k 0 _ j),PV.n .i64 (qUX _ k 0 _ j)]=[PV.n .i64 (q j),PV.n .i64 (q j)];rw [jGV hj,show min (max (q j) (-2147483648)) 2147483648=q j by omega]
 | false =>
  rw [h] at h0;exact qJZ (Same.lf rfl) h0
end Go.Proofs.YtgmbkkkbfbocnaaGreat.Nm
namespace Go.Proofs.YtgmbkkkbfbocnaaGreat.Hb
open Go.Rx Rt Go.Sx Go.RowKit Od Na Nb Nc Nx Nf Nl Nm Ga Gb Gc Gd Ge Gf Gg Ha
def knB (ws:Wsp) (h q:Int):Bool:=decide (0≤h) && (decide (h < (ws.nh:Int)) && (decide (0≤q) && decide (q < (ws.np:Int))))
noncomputable def xVU (_:Wsp) (_ _:Int):OrS:=orS [] []
noncomputable def kKI (_:Wsp) (_ _:Int):List (List Nat × jG):=[]
set_option maxRecDepth 100000 in
theorem xWZ (ws:Wsp) (h q:Int):qYU Tf (xVU ws h q) (qZ (kKI ws h q)) 60 70 [.a (wP ws),.n .i64 h,.n .i64 q] =
 (bif (decide (0≤h)) then (bif (decide (h < (ws.nh:Int))) then (bif (decide (0≤q)) then (bif (decide (q < (ws.np:Int))) then some (.v (.b true),[])
 else some (.v (.b false),[]))
 else some (.v (.b false),[]))
 else some (.v (.b false),[]))
 else some (.v (.b false),[])):=by kernel_rfl
theorem uQG (ws:Wsp) (h q:Int):yK Tryz.prog 70 [.a (wP ws),.n .i64 h,.n .i64 q] (.v (.b (knB ws h q))):=by
 refine yQ (N:=60) (LO:=qZ (kKI ws h q)) kX zW (uK (l:=[]) (m:=[]) trivial trivial) (fun p S hp => ?_) ?_
 ·refine zG (L:=qQ Tf 70) (l:=(kKI ws h q)) (show AllP _ (kKI ws h q) from trivial) p S hp
 ·refine (xWZ ws h q).trans ?_;unfold knB;cases decide (0≤h) <;> cases decide (h < (ws.nh:Int)) <;> cases decide (0≤q) <;> cases decide (q < (ws.np:Int)) <;> rfl
def ckn:Wsp × Int × Int→Prop:=fun t=>match t with | (_,_,_)=>True
def ekn:Wsp × Int × Int→List PV:=fun t=>match t with | (ws,a,b)=>[.a (wP ws),.n .i64 a,.n .i64 b]
noncomputable def rkn:Wsp × Int × Int→Ret:=fun t=>match t with | (ws,a,b)=>.v (.b (knB ws a b))
def dkn:List PV→Wsp × Int × Int:=fun ps=>match ps with
 | [.a r,.n _ h,.n _ q]=>(unW r,h,q)
 | _=>(unW [],0,0)
noncomputable def o_kn:List PV→Option (Bool × Ret):=o_fm dkn ckn ekn rkn
theorem xQJ:zJ Tryz.prog 70 o_kn:=qYX fun t h=>by
 obtain ⟨ws,a,b⟩:=t;exact uQG ws a b
def cin:(Nat→J) × (Nat→Ms) × Nat × Nat × Nat × (Nat→Int)→Prop:=fun t=>match t with | (_,_,_,_,_,_)=>True
def ein:(Nat→J) × (Nat→Ms) × Nat × Nat × Nat × (Nat→Int)→List PV:=fun t=>match t with | (js,ms,n,m,k,q)=>[.a [.lf n (fJ js),.lf m (fM ms)],.lf k (fQ q)]
noncomputable def rin:(Nat→J) × (Nat→Ms) × Nat × Nat × Nat × (Nat→Int)→Ret:=fun t=>match t with | (js,ms,n,m,k,q)=>.v (.b (qIn js ms q n m k))
def din:List PV→(Nat→J) × (Nat→Ms) × Nat × Nat × Nat × (Nat→Int):=fun ps=>match ps with
 | [.a [.lf n js,.lf m ms],.lf k f]=>(unFJ js,unFM ms,n,m,k,unFQ f)
 | _=>(fun _=>⟨ByteArray.empty,0,0,⟨0,0,0⟩,0,0,0,0,0,0⟩,fun _=>⟨0,0,⟨0,0,0⟩⟩,0,0,0,fun _=>0)
noncomputable def o_in:List PV→Option (Bool × Ret):=o_fm din cin ein rin
theorem xQU:zJ Tryz.prog 71 o_in:=qYX fun t h=>by
 obtain ⟨js,ms,n,m,k,q⟩:=t;exact uQQ js ms q n m k
def cri:(Nat→J) × (Nat→Ms) × Nat × Nat × Nat × (Nat→Int)→Prop:=fun t=>match t with | (_,_,_,_,_,_)=>True
def eri:(Nat→J) × (Nat→Ms) × Nat × Nat × Nat × (Nat→Int)→List PV:=fun t=>match t with | (js,ms,n,m,k,q)=>[.a [.lf n (fJ js),.lf m (fM ms)],.lf k (fQ q)]
noncomputable def rri:(Nat→J) × (Nat→Ms) × Nat × Nat × Nat × (Nat→Int)→Ret:=fun t=>match t with | (js,ms,n,m,k,q)=>.v (.b (qIn js ms q n m k))
def dri:List PV→(Nat→J) × (Nat→Ms) × Nat × Nat × Nat × (Nat→Int):=fun ps=>match ps with
 | [.a [.lf n js,.lf m ms],.lf k f]=>(unFJ js,unFM ms,n,m,k,unFQ f)
 | _=>(fun _=>⟨ByteArray.empty,0,0,⟨0,0,0⟩,0,0,0,0,0,0⟩,fun _=>⟨0,0,⟨0,0,0⟩⟩,0,0,0,fun _=>0)
noncomputable def o_ri:List PV→Option (Bool × Ret):=o_fm dri cri eri rri
theorem uHG:zJ Tryz.prog 58 o_ri:=qYX fun t h=>by
 obtain ⟨js,ms,n,m,k,q⟩:=t;exact kQH js ms q n m k
noncomputable def orFp (_:Wsp):OrS:=orS [(99,o_ne),(70,o_kn),(71,o_in)] []
noncomputable def hFp (ws:Wsp) (i:Int):St:=⟨[(1,.p 1 0),(40,.v (.lf ws.np (fZ ws.pl))),(41,.v (.n .i64 (ws.np:Int))),(42,.v (.n .i64 i))],[(1,.blk ((wP ws).map .v))]⟩
set_option maxRecDepth 100000 in
theorem rdFp (G:St→Option (Ret × Mem)) (K:Cont) (ws:Wsp) (i:Int):kQ 60 (cxS Tf (orFp ws) 60 51 (ntmF Tf 51)) (evX Tf (orFp ws) 60 51 (ntmF Tf 51)) (qZ []) (qQ Tf 51 [0,1,0,1,1,1]) [0,1,0,1,1,1] (Tf.hint 51 (qJ (qQ Tf 51 [0,1,0,1,1,1]))) K G (hFp ws i) =
 (bif (decide (i < (ws.np:Int))) then (bif (inB i ws.np) then (bif (gF1 cne ene (ws.pl (i).toNat)) then (bif (zOk 2097152 (ws.pl (i).toNat)) then (G (hFp ws (vJJ .i64 (i + 1))))
 else (K .ret ⟨[(1,.p 1 0),(2,.v (.b false))],[(1,.blk ((wP ws).map .v))]⟩))
 else none)
 else none)
 else (K (.exit 0) ⟨[(1,.p 1 0)],[(1,.blk ((wP ws).map .v))]⟩)):=by kernel_rfl
def hdOk (n:Nat) (h:Hnd):Bool:=!decide (h.link < 0) && (!decide ((n:Int)≤h.link) && zOk 2097152 h.off)
def grOk (ws:Wsp) (g:Grp):Bool:=knB ws g.hand g.place && qIn ws.js ws.ms g.cf ws.n ws.m g.na
def plG (ws:Wsp):Bool:=allN (fun i:Nat=>zOk 2097152 (ws.pl i)) ws.np 0
def hdG (ws:Wsp):Bool:=allN (fun i:Nat=>hdOk ws.n (ws.hd i)) ws.nh 0
def grG (ws:Wsp):Bool:=allN (fun i:Nat=>grOk ws (ws.gr i)) ws.ng 0
def szG (ws:Wsp):Bool:=!decide (6 < (ws.no:Int)) && (!decide (8 < (ws.np:Int)) && (!decide (3 < (ws.nh:Int)) && (!decide (32 < (ws.ng:Int)) && (!decide (ws.slack < 0) && !decide (65536 < ws.slack)))))
def fiB (ws:Wsp):Bool:=szG ws && (plG ws && (hdG ws && grG ws))
theorem lpFp (K:Cont) (ws:Wsp) (_:ws.np≤50):LFX 60 (cxS Tf (orFp ws) 60 51 (ntmF Tf 51)) (evX Tf (orFp ws) 60 51 (ntmF Tf 51)) (qZ []) (qQ Tf 51 [0,1,0,1,1,1]) [0,1,0,1,1,1] (Tf.hint 51 (qJ (qQ Tf 51 [0,1,0,1,1,1]))) K 60 (hFp ws 0)=bif (allN (fun i:Nat=>zOk 2097152 (ws.pl i)) ws.np 0) then (K (.exit 0) ⟨[(1,.p 1 0)],[(1,.blk ((wP ws).map .v))]⟩) else (K .ret ⟨[(1,.p 1 0),(2,.v (.b false))],[(1,.blk ((wP ws).map .v))]⟩):=by
 refine (uH (L:=LFX 60 (cxS Tf (orFp ws) 60 51 (ntmF Tf 51)) (evX Tf (orFp ws) 60 51 (ntmF Tf 51)) (qZ []) (qQ Tf 51 [0,1,0,1,1,1]) [0,1,0,1,1,1] (Tf.hint 51 (qJ (qQ Tf 51 [0,1,0,1,1,1]))) K) (stp:=kQ 60 (cxS Tf (orFp ws) 60 51 (ntmF Tf 51)) (evX Tf (orFp ws) 60 51 (ntmF Tf 51)) (qZ []) (qQ Tf 51 [0,1,0,1,1,1]) [0,1,0,1,1,1] (Tf.hint 51 (qJ (qQ Tf 51 [0,1,0,1,1,1]))) K) (fun _ _=>rfl) (fun (i:Nat) (_:Unit)=>hFp ws (i:Int)) (fun _ _=>True) (fun (i:Nat) _=>zOk 2097152 (ws.pl i)) (fun _ _=>()) (c:=ws.np) (fun _=>(K (.exit 0) ⟨[(1,.p 1 0)],[(1,.blk ((wP ws).map .v))]⟩)) (fun i _=>(K .ret ⟨[(1,.p 1 0),(2,.v (.b false))],[(1,.blk ((wP ws).map .v))]⟩)) (fun G i f hi _ => ?_) (fun _ _ _ _ _=>trivial) (fun G f _ => ?_) ws.np 0 60 () (by omega) (by omega) trivial).trans ((jV _ _ _ _ _).trans (jK _ _ _ _ _))
 ·refine (rdFp G K ws i).trans ?_;rw [vJQ (show (i:Int) < (ws.np:Int) by omega),uJ (by omega),yV (show i < ws.np by omega),toN,kV (C:=cne) (t:=ws.pl i) trivial];cases zOk 2097152 (ws.pl i) <;> rfl
 ·refine (rdFp G K ws ws.np).trans ?_;rw [vYH (show ¬ (ws.np:Int) < (ws.np:Int) by omega)];rfl
noncomputable def hFq (ws:Wsp) (i:Int):St:=⟨[(1,.p 1 0),(51,.v (.lf ws.nh (fH ws.hd))),(52,.v (.n .i64 (ws.nh:Int))),(53,.v (.n .i64 i))],[(1,.blk ((wP ws).map .v))]⟩
set_option maxRecDepth 100000 in
theorem rdFq (G:St→Option (Ret × Mem)) (K:Cont) (ws:Wsp) (i:Int):kQ 60 (cxS Tf (orFp ws) 60 51 (ntmF Tf 51)) (evX Tf (orFp ws) 60 51 (ntmF Tf 51)) (qZ []) (qQ Tf 51 [0,1,0,1,1,1,1]) [0,1,0,1,1,1,1] (Tf.hint 51 (qJ (qQ Tf 51 [0,1,0,1,1,1,1]))) K G (hFq ws i) =
 (bif (decide (i < (ws.nh:Int))) then (bif (inB i ws.nh) then (bif (decide ((ws.hd (i).toNat).link < 0)) then (K .ret ⟨[(1,.p 1 0),(2,.v (.b false))],[(1,.blk ((wP ws).map .v))]⟩)
 else (bif (decide ((ws.n:Int)≤(ws.hd (i).toNat).link)) then (K .ret ⟨[(1,.p 1 0),(2,.v (.b false))],[(1,.blk ((wP ws).map .v))]⟩)
 else (bif (gF1 cne ene ((ws.hd (i).toNat).off)) then (bif (zOk 2097152 ((ws.hd (i).toNat).off)) then (G (hFq ws (vJJ .i64 (i + 1))))
 else (K .ret ⟨[(1,.p 1 0),(2,.v (.b false))],[(1,.blk ((wP ws).map .v))]⟩))
 else none)))
 else none)
 else (K (.exit 2) ⟨[(1,.p 1 0)],[(1,.blk ((wP ws).map .v))]⟩)):=by kernel_rfl
theorem lpFq (K:Cont) (ws:Wsp) (_:ws.nh≤50):LFX 60 (cxS Tf (orFp ws) 60 51 (ntmF Tf 51)) (evX Tf (orFp ws) 60 51 (ntmF Tf 51)) (qZ []) (qQ Tf 51 [0,1,0,1,1,1,1]) [0,1,0,1,1,1,1] (Tf.hint 51 (qJ (qQ Tf 51 [0,1,0,1,1,1,1]))) K 60 (hFq ws 0)=bif (allN (fun i:Nat=>hdOk ws.n (ws.hd i)) ws.nh 0) then (K (.exit 2) ⟨[(1,.p 1 0)],[(1,.blk ((wP ws).map .v))]⟩) else (K .ret ⟨[(1,.p 1 0),(2,.v (.b false))],[(1,.blk ((wP ws).map .v))]⟩):=by
 refine (uH (L:=LFX 60 (cxS Tf (orFp ws) 60 51 (ntmF Tf 51)) (evX Tf (orFp ws) 60 51 (ntmF Tf 51)) (qZ []) (qQ Tf 51 [0,1,0,1,1,1,1]) [0,1,0,1,1,1,1] (Tf.hint 51 (qJ (qQ Tf 51 [0,1,0,1,1,1,1]))) K) (stp:=kQ 60 (cxS Tf (orFp ws) 60 51 (ntmF Tf 51)) (evX Tf (orFp ws) 60 51 (ntmF Tf 51)) (qZ []) (qQ Tf 51 [0,1,0,1,1,1,1]) [0,1,0,1,1,1,1] (Tf.hint 51 (qJ (qQ Tf 51 [0,1,0,1,1,1,1]))) K) (fun _ _=>rfl) (fun (i:Nat) (_:Unit)=>hFq ws (i:Int)) (fun _ _=>True) (fun (i:Nat) _=>hdOk ws.n (ws.hd i)) (fun _ _=>()) (c:=ws.nh) (fun _=>(K (.exit 2) ⟨[(1,.p 1 0)],[(1,.blk ((wP ws).map .v))]⟩)) (fun i _=>(K .ret ⟨[(1,.p 1 0),(2,.v (.b false))],[(1,.blk ((wP ws).map .v))]⟩)) (fun G i f hi _ => ?_) (fun _ _ _ _ _=>trivial) (fun G f _ => ?_) ws.nh 0 60 () (by omega) (by omega) trivial).trans ((jV _ _ _ _ _).trans (jK _ _ _ _ _))
 ·refine (rdFq G K ws i).trans ?_;rw [vJQ (show (i:Int) < (ws.nh:Int) by omega),uJ (by omega),yV (show i < ws.nh by omega),toN,kV (C:=cne) (t:=(ws.hd i).off) trivial];unfold hdOk;cases decide ((ws.hd i).link < 0) <;> cases decide ((ws.n:Int)≤(ws.hd i).link) <;> cases zOk 2097152 (ws.hd i).off <;> rfl
 ·refine (rdFq G K ws ws.nh).trans ?_;rw [vYH (show ¬ (ws.nh:Int) < (ws.nh:Int) by omega)];rfl
noncomputable def hFr (ws:Wsp) (i:Int):St:=⟨[(1,.p 1 0),(78,.v (.lf ws.ng (fG ws.gr))),(79,.v (.n .i64 (ws.ng:Int))),(80,.v (.n .i64 i))],[(1,.blk ((wP ws).map .v))]⟩
set_option maxRecDepth 100000 in
theorem rdFr (G:St→Option (Ret × Mem)) (K:Cont) (ws:Wsp) (i:Int):kQ 60 (cxS Tf (orFp ws) 60 51 (ntmF Tf 51)) (evX Tf (orFp ws) 60 51 (ntmF Tf 51)) (qZ []) (qQ Tf 51 [0,1,0,1,1,1,1,1]) [0,1,0,1,1,1,1,1] (Tf.hint 51 (qJ (qQ Tf 51 [0,1,0,1,1,1,1,1]))) K G (hFr ws i) =
 (bif (decide (i < (ws.ng:Int))) then (bif (inB i ws.ng) then (bif (gF1 ckn ekn (ws,((ws.gr (i).toNat).hand),((ws.gr (i).toNat).place))) then (bif (knB ws ((ws.gr (i).toNat).hand) ((ws.gr (i).toNat).place)) then (bif (gF1 cin ein (ws.js,ws.ms,ws.n,ws.m,((ws.gr (i).toNat).na),((ws.gr (i).toNat).cf))) then (bif (qIn ws.js ws.ms ((ws.gr (i).toNat).cf) ws.n ws.m ((ws.gr (i).toNat).na)) then (G (hFr ws (vJJ .i64 (i + 1))))
 else (K .ret ⟨[(2,.v (.b false))],[]⟩))
 else none)
 else (K .ret ⟨[(2,.v (.b false))],[]⟩))
 else none)
 else none)
 else (K (.exit 4) ⟨[],[]⟩)):=by kernel_rfl
theorem lpFr (K:Cont) (ws:Wsp) (_:ws.ng≤50):LFX 60 (cxS Tf (orFp ws) 60 51 (ntmF Tf 51)) (evX Tf (orFp ws) 60 51 (ntmF Tf 51)) (qZ []) (qQ Tf 51 [0,1,0,1,1,1,1,1]) [0,1,0,1,1,1,1,1] (Tf.hint 51 (qJ (qQ Tf 51 [0,1,0,1,1,1,1,1]))) K 60 (hFr ws 0)=bif (allN (fun i:Nat=>grOk ws (ws.gr i)) ws.ng 0) then (K (.exit 4) ⟨[],[]⟩) else (K .ret ⟨[(2,.v (.b false))],[]⟩):=by
 refine (uH (L:=LFX 60 (cxS Tf (orFp ws) 60 51 (ntmF Tf 51)) (evX Tf (orFp ws) 60 51 (ntmF Tf 51)) (qZ []) (qQ Tf 51 [0,1,0,1,1,1,1,1]) [0,1,0,1,1,1,1,1] (Tf.hint 51 (qJ (qQ Tf 51 [0,1,0,1,1,1,1,1]))) K) (stp:=kQ 60 (cxS Tf (orFp ws) 60 51 (ntmF Tf 51)) (evX Tf (orFp ws) 60 51 (ntmF Tf 51)) (qZ []) (qQ Tf 51 [0,1,0,1,1,1,1,1]) [0,1,0,1,1,1,1,1] (Tf.hint 51 (qJ (qQ Tf 51 [0,1,0,1,1,1,1,1]))) K) (fun _ _=>rfl) (fun (i:Nat) (_:Unit)=>hFr ws (i:Int)) (fun _ _=>True) (fun (i:Nat) _=>grOk ws (ws.gr i)) (fun _ _=>()) (c:=ws.ng) (fun _=>(K (.exit 4) ⟨[],[]⟩)) (fun i _=>(K .ret ⟨[(2,.v (.b false))],[]⟩)) (fun G i f hi _ => ?_) (fun _ _ _ _ _=>trivial) (fun G f _ => ?_) ws.ng 0 60 () (by omega) (by omega) trivial).trans ((jV _ _ _ _ _).trans (jK _ _ _ _ _))
 ·refine (rdFr G K ws i).trans ?_;rw [vJQ (show (i:Int) < (ws.ng:Int) by omega),uJ (by omega),yV (show i < ws.ng by omega),toN,kV (C:=ckn) (t:=(ws,(ws.gr i).hand,(ws.gr i).place)) trivial,kV (C:=cin) (t:=(ws.js,ws.ms,ws.n,ws.m,(ws.gr i).na,(ws.gr i).cf)) trivial];unfold grOk;cases knB ws (ws.gr i).hand (ws.gr i).place <;> cases qIn ws.js ws.ms (ws.gr i).cf ws.n ws.m (ws.gr i).na <;> rfl
 ·refine (rdFr G K ws ws.ng).trans ?_;rw [vYH (show ¬ (ws.ng:Int) < (ws.ng:Int) by omega)];rfl
noncomputable def kUW (ws:Wsp):List (List Nat × jG):=[([0,1,0,1,1,1],sumF (fun _:Unit=>(hFp ws 0)) (fun _=>()) (fun _ K=>(bif (decide (ws.np≤50)) then (bif (allN (fun i:Nat=>zOk 2097152 (ws.pl i)) ws.np 0) then (K (.exit 0) ⟨[(1,.p 1 0)],[(1,.blk ((wP ws).map .v))]⟩) else (K .ret ⟨[(1,.p 1 0),(2,.v (.b false))],[(1,.blk ((wP ws).map .v))]⟩)) else none))),([0,1,0,1,1,1,1],sumF (fun _:Unit=>(hFq ws 0)) (fun _=>()) (fun _ K=>(bif (decide (ws.nh≤50)) then (bif (allN (fun i:Nat=>hdOk ws.n (ws.hd i)) ws.nh 0) then (K (.exit 2) ⟨[(1,.p 1 0)],[(1,.blk ((wP ws).map .v))]⟩) else (K .ret ⟨[(1,.p 1 0),(2,.v (.b false))],[(1,.blk ((wP ws).map .v))]⟩)) else none))),([0,1,0,1,1,1,1,1],sumF (fun _:Unit=>(hFr ws 0)) (fun _=>()) (fun _ K=>(bif (decide (ws.ng≤50)) then (bif (allN (fun i:Nat=>grOk ws (ws.gr i)) ws.ng 0) then (K (.exit 4) ⟨[],[]⟩) else (K .ret ⟨[(2,.v (.b false))],[]⟩)) else none)))]
set_option maxRecDepth 100000 in
theorem xWA (ws:Wsp):qYU Tf (orFp ws) (qZ (kUW ws)) 60 51 [.a (wP ws)] =
 (bif (decide (6 < (ws.no:Int))) then some (.v (.b false),[])
 else (bif (decide (8 < (ws.np:Int))) then some (.v (.b false),[])
 else (bif (decide (3 < (ws.nh:Int))) then some (.v (.b false),[])
 else (bif (decide (32 < (ws.ng:Int))) then some (.v (.b false),[])
 else (bif (decide (ws.slack < 0)) then some (.v (.b false),[])
 else (bif (decide (65536 < ws.slack)) then some (.v (.b false),[])
 else (bif (gSt (hFp ws 0) (hFp ws 0)) then (bif (decide (ws.np≤50)) then (bif (allN (fun i:Nat=>zOk 2097152 (ws.pl i)) ws.np 0) then (bif (gSt (hFq ws 0) (hFq ws 0)) then (bif (decide (ws.nh≤50)) then (bif (allN (fun i:Nat=>hdOk ws.n (ws.hd i)) ws.nh 0) then (bif (gSt (hFr ws 0) (hFr ws 0)) then (bif (decide (ws.ng≤50)) then (bif (allN (fun i:Nat=>grOk ws (ws.gr i)) ws.ng 0) then some (.v (.b true),[])
 else some (.v (.b false),[]))
 else none)
 else none)
 else some (.v (.b false),[]))
 else none)
 else none)
 else some (.v (.b false),[]))
 else none)
 else none))))))):=by kernel_rfl
theorem uZZ (ws:Wsp):yK Tryz.prog 51 [.a (wP ws)] (.v (.b (fiB ws))):=by
 refine yQ (N:=60) (LO:=qZ (kUW ws)) kX zW (uK (l:=[(99,o_ne),(70,o_kn),(71,o_in)]) (m:=[]) ⟨uHI,xQJ,xQU,trivial⟩ trivial) (fun p S hp => ?_) ?_
 ·refine zG (L:=qQ Tf 51) (l:=(kUW ws)) (show AllP _ (kUW ws) from ⟨?_,?_,?_,trivial⟩) p S hp
  ·dsimp only;refine kZ (T:=Tf) (o:=(orFp ws)) (f:=51) (LO:=qZ []) (p:=[0,1,0,1,1,1]) kW ?_;intro t K r hr;obtain ⟨hg,hr⟩:=qY hr;have hk:=vJZ hg;exact (lpFp K ws hk).trans hr
  ·dsimp only;refine kZ (T:=Tf) (o:=(orFp ws)) (f:=51) (LO:=qZ []) (p:=[0,1,0,1,1,1,1]) kW ?_;intro t K r hr;obtain ⟨hg,hr⟩:=qY hr;have hk:=vJZ hg;exact (lpFq K ws hk).trans hr
  ·dsimp only;refine kZ (T:=Tf) (o:=(orFp ws)) (f:=51) (LO:=qZ []) (p:=[0,1,0,1,1,1,1,1]) kW ?_;intro t K r hr;obtain ⟨hg,hr⟩:=qY hr;have hk:=vJZ hg;exact (lpFr K ws hk).trans hr
 ·refine (xWA ws).trans ?_;unfold fiB szG plG hdG grG;by_cases h1:6 < (ws.no:Int)
  ·rw [vJQ h1]; rfl
  by_cases h2:8 < (ws.np:Int)
  ·rw [vYH h1,vJQ h2]; rfl
  by_cases h3:3 < (ws.nh:Int)
  ·rw [vYH h1,vYH h2,vJQ h3]; rfl
  by_cases h4:32 < (ws.ng:Int)
  ·rw [vYH h1,vYH h2,vYH h3,vJQ h4]; rfl
  rw [vYH h1,vYH h2,vYH h3,vYH h4];simp only [yU,vJQ (show ws.np≤50 by omega),vJQ (show ws.nh≤50 by omega),vJQ (show ws.ng≤50 by omega)];cases decide (ws.slack < 0) <;> cases decide (65536 < ws.slack) <;> cases allN (fun i:Nat=>zOk 2097152 (ws.pl i)) ws.np 0 <;> cases allN (fun i:Nat=>hdOk ws.n (ws.hd i)) ws.nh 0 <;> cases allN (fun i:Nat=>grOk ws (ws.gr i)) ws.ng 0 <;> rfl
def cfi:Wsp→Prop:=fun t=>match t with | _=>True
def efi:Wsp→List PV:=fun t=>match t with | ws=>[.a (wP ws)]
noncomputable def rfi:Wsp→Ret:=fun t=>match t with | ws=>.v (.b (fiB ws))
def dfi:List PV→Wsp:=fun ps=>match ps with
 | [.a r]=>unW r
 | _=>(unW [])
noncomputable def o_fi:List PV→Option (Bool × Ret):=o_fm dfi cfi efi rfi
theorem xGH:zJ Tryz.prog 51 o_fi:=qYX fun t h=>by
 revert h; revert t; intro ws h
 exact uZZ ws
end Go.Proofs.YtgmbkkkbfbocnaaGreat.Hb
namespace Go.Proofs.YtgmbkkkbfbocnaaGreat.Hc
open Go.Rx Rt Go.Sx Go.RowKit Od Na Nb Nc Nx Nf Nl Nm Ga Gb Gc Gd Ge Gf Gg Ha Hb
def unOf (f:Nat→List PV):Nat→ObT:=fun v=>unO (f v)
def dupO (ob:Nat→ObT) (o:ObT) (k:Nat):Bool:=!allN (fun i:Nat => !((ob i).name.toList == o.name.toList)) k 0
noncomputable def xVB (e o:ObT):OrS:=orS [] []
noncomputable def kUH (e o:ObT):List (List Nat × jG):=[]
set_option maxRecDepth 100000 in
theorem xWD (e o:ObT):qYU Tf (xVB e o) (qZ (kUH e o)) 60 52 [.a (oP e),.c (oP o) 0] =
 (bif (e.name.toList == o.name.toList) then some (.v (.b true),[])
 else some (.v (.b false),[])):=by kernel_rfl
theorem uZK (e o:ObT):yK Tryz.prog 52 [.a (oP e),.c (oP o) 0] (.v (.b (e.name.toList == o.name.toList))):=by
 refine yQ (N:=60) (LO:=qZ (kUH e o)) kX zW (uK (l:=[]) (m:=[]) trivial trivial) (fun p S hp => ?_) ?_
 ·refine zG (L:=qQ Tf 52) (l:=(kUH e o)) (show AllP _ (kUH e o) from trivial) p S hp
 ·refine (xWD e o).trans ?_;cases (e.name.toList == o.name.toList) <;> rfl
def cc1:ObT × ObT→Prop:=fun t=>match t with | (_,_)=>True
def ec1:ObT × ObT→List PV:=fun t=>match t with | (e,o)=>[.a (oP e),.c (oP o) 0]
noncomputable def rc1:ObT × ObT→Ret:=fun t=>match t with | (e,o)=>.v (.b (e.name.toList == o.name.toList))
def dc1:List PV→ObT × ObT:=fun ps=>match ps with
 | [.a r,.c q _]=>(unO r,unO q)
 | _=>(⟨ByteArray.empty,0,fun _=>⟨0,0,0,fun _=>⟨0,0,0⟩⟩⟩,⟨ByteArray.empty,0,fun _=>⟨0,0,0,fun _=>⟨0,0,0⟩⟩⟩)
noncomputable def o_c1:List PV→Option (Bool × Ret):=o_fm dc1 cc1 ec1 rc1
theorem xGD:zJ Tryz.prog 52 o_c1:=qYX fun t h=>by
 obtain ⟨e,o⟩:=t;exact uZK e o
noncomputable def orIx (k:Nat) (_:Nat→ObT) (o:ObT):OrS:=orS [(52,o_c1)] []
noncomputable def hIx (k:Nat) (ob:Nat→ObT) (o:ObT) (i:Int):St:=⟨[(0,.v (.lf k (fO ob))),(1,.v (.f 52 [] [.c (oP o) 0])),(7,.v (.n .i64 (k:Int))),(8,.v (.n .i64 i))],[]⟩
set_option maxRecDepth 100000 in
theorem rdIx (G:St→Option (Ret × Mem)) (K:Cont) (k:Nat) (ob:Nat→ObT) (o:ObT) (i:Int):kQ 60 (cxS Tf (orIx k ob o) 60 102 (ntmF Tf 102)) (evX Tf (orIx k ob o) 60 102 (ntmF Tf 102)) (qZ []) (qQ Tf 102 [0,1,0,1]) [0,1,0,1] (Tf.hint 102 (qJ (qQ Tf 102 [0,1,0,1]))) K G (hIx k ob o i) =
 (bif (decide (i < (k:Int))) then (bif (inB i k) then (bif (gF1 cc1 ec1 ((ob (i).toNat),o)) then (bif ((ob (i).toNat).name.toList == o.name.toList) then (K .ret ⟨[(4,.v (.n .i64 i))],[]⟩)
 else (G (hIx k ob o (vJJ .i64 (i + 1)))))
 else none)
 else none)
 else (K (.exit 0) ⟨[],[]⟩)):=by kernel_rfl
theorem lpIx (K:Cont) (k:Nat) (ob:Nat→ObT) (o:ObT) (_:k≤50):LFX 60 (cxS Tf (orIx k ob o) 60 102 (ntmF Tf 102)) (evX Tf (orIx k ob o) 60 102 (ntmF Tf 102)) (qZ []) (qQ Tf 102 [0,1,0,1]) [0,1,0,1] (Tf.hint 102 (qJ (qQ Tf 102 [0,1,0,1]))) K 60 (hIx k ob o 0)=bif (allN (fun i:Nat => !((ob i).name.toList == o.name.toList)) k 0) then (K (.exit 0) ⟨[],[]⟩) else (K .ret ⟨[(4,.v (.n .i64 ((Rx.firstK (fun i:Nat => !((ob i).name.toList == o.name.toList)) k 0:Nat):Int)))],[]⟩):=by
 refine (uH (L:=LFX 60 (cxS Tf (orIx k ob o) 60 102 (ntmF Tf 102)) (evX Tf (orIx k ob o) 60 102 (ntmF Tf 102)) (qZ []) (qQ Tf 102 [0,1,0,1]) [0,1,0,1] (Tf.hint 102 (qJ (qQ Tf 102 [0,1,0,1]))) K) (stp:=kQ 60 (cxS Tf (orIx k ob o) 60 102 (ntmF Tf 102)) (evX Tf (orIx k ob o) 60 102 (ntmF Tf 102)) (qZ []) (qQ Tf 102 [0,1,0,1]) [0,1,0,1] (Tf.hint 102 (qJ (qQ Tf 102 [0,1,0,1]))) K) (fun _ _=>rfl) (fun (i:Nat) (_:Unit)=>hIx k ob o (i:Int)) (fun _ _=>True) (fun (i:Nat) _ => !((ob i).name.toList == o.name.toList)) (fun _ _=>()) (c:=k) (fun _=>(K (.exit 0) ⟨[],[]⟩)) (fun i _=>(K .ret ⟨[(4,.v (.n .i64 (i:Int)))],[]⟩)) (fun G i f hi _ => ?_) (fun _ _ _ _ _=>trivial) (fun G f _ => ?_) k 0 60 () (by omega) (by omega) trivial).trans ((jV _ _ _ _ _).trans (qQL _ _ _ _ _))
 ·refine (rdIx G K k ob o i).trans ?_;rw [vJQ (show (i:Int) < (k:Int) by omega),uJ (by omega),yV (show i < k by omega),toN,kV (C:=cc1) (t:=(ob i,o)) trivial];cases ((ob i).name.toList == o.name.toList) <;> rfl
 ·refine (rdIx G K k ob o k).trans ?_;rw [vYH (show ¬ (k:Int) < (k:Int) by omega)];rfl
noncomputable def kUQ (k:Nat) (ob:Nat→ObT) (o:ObT):List (List Nat × jG):=[([0,1,0,1],sumF (fun _:Unit=>(hIx k ob o 0)) (fun _=>()) (fun _ K=>(bif (decide (k≤50)) then (bif (allN (fun i:Nat => !((ob i).name.toList == o.name.toList)) k 0) then (K (.exit 0) ⟨[],[]⟩) else (K .ret ⟨[(4,.v (.n .i64 ((Rx.firstK (fun i:Nat => !((ob i).name.toList == o.name.toList)) k 0:Nat):Int)))],[]⟩)) else none)))]
set_option maxRecDepth 100000 in
theorem xWJ (k:Nat) (ob:Nat→ObT) (o:ObT):qYU Tf (orIx k ob o) (qZ (kUQ k ob o)) 60 102 [.lf k (fO ob),.f 52 [] [.c (oP o) 0]] =
 (bif (gSt (hIx k ob o 0) (hIx k ob o 0)) then (bif (decide (k≤50)) then (bif (allN (fun i:Nat => !((ob i).name.toList == o.name.toList)) k 0) then some (.v (.n .i64 (-1)),[])
 else some (.v (.n .i64 ((Rx.firstK (fun i:Nat => !((ob i).name.toList == o.name.toList)) k 0:Nat):Int)),[]))
 else none)
 else none):=by kernel_rfl
theorem uQB (k:Nat) (ob:Nat→ObT) (o:ObT) (hk:k≤50):yK Tryz.prog 102 [.lf k (fO ob),.f 52 [] [.c (oP o) 0]] (.v (.n .i64 (bif dupO ob o k then ((Rx.firstK (fun i:Nat => !((ob i).name.toList == o.name.toList)) k 0:Nat):Int) else -1))):=by
 refine yQ (N:=60) (LO:=qZ (kUQ k ob o)) kX zW (uK (l:=[(52,o_c1)]) (m:=[]) ⟨xGD,trivial⟩ trivial) (fun p S hp => ?_) ?_
 ·refine zG (L:=qQ Tf 102) (l:=(kUQ k ob o)) (show AllP _ (kUQ k ob o) from ⟨?_,trivial⟩) p S hp
  ·dsimp only;refine kZ (T:=Tf) (o:=(orIx k ob o)) (f:=102) (LO:=qZ []) (p:=[0,1,0,1]) kW ?_;intro t K r hr;obtain ⟨hg,hr⟩:=qY hr;have hk:=vJZ hg;exact (lpIx K k ob o hk).trans hr
 ·refine (xWJ k ob o).trans ?_;unfold dupO;rw [yU,vJQ hk];cases allN (fun i:Nat => !((ob i).name.toList == o.name.toList)) k 0 <;> rfl
def cix:Nat × (Nat→ObT) × ObT→Prop:=fun t=>match t with | (k,_,_)=>k≤50
def eix:Nat × (Nat→ObT) × ObT→List PV:=fun t=>match t with | (k,ob,o)=>[.lf k (fO ob),.f 52 [] [.c (oP o) 0]]
noncomputable def rix:Nat × (Nat→ObT) × ObT→Ret:=fun t=>match t with | (k,ob,o)=>.v (.n .i64 (bif dupO ob o k then ((Rx.firstK (fun i:Nat => !((ob i).name.toList == o.name.toList)) k 0:Nat):Int) else -1))
def dix:List PV→Nat × (Nat→ObT) × ObT:=fun ps=>match ps with
 | [.lf k f,.f _ _ [.c q _]]=>(k,unOf f,unO q)
 | _=>(0,fun _=>⟨ByteArray.empty,0,fun _=>⟨0,0,0,fun _=>⟨0,0,0⟩⟩⟩,⟨ByteArray.empty,0,fun _=>⟨0,0,0,fun _=>⟨0,0,0⟩⟩⟩)
noncomputable def o_ix:List PV→Option (Bool × Ret):=o_fm dix cix eix rix
theorem xGV:zJ Tryz.prog 102 o_ix:=qYX fun t h=>by
 obtain ⟨k,ob,o⟩:=t;exact uQB k ob o h
noncomputable def xVC (k:Nat) (_:Nat→ObT) (o:ObT):OrS:=orS [(102,o_ix)] []
noncomputable def kUA (k:Nat) (_:Nat→ObT) (o:ObT):List (List Nat × jG):=[]
set_option maxRecDepth 100000 in
theorem xWE (k:Nat) (ob:Nat→ObT) (o:ObT):qYU Tf (xVC k ob o) (qZ (kUA k ob o)) 60 54 [.lf k (fO ob),.f 52 [] [.c (oP o) 0]] =
 (bif (gF1 cix eix (k,ob,o)) then (bif (decide (0≤(bif dupO ob o k then ((Rx.firstK (fun i:Nat => !((ob i).name.toList == o.name.toList)) k 0:Nat):Int) else -1))) then some (.v (.b true),[])
 else some (.v (.b false),[]))
 else none):=by kernel_rfl
theorem uZW (k:Nat) (ob:Nat→ObT) (o:ObT) (hk:k≤50):yK Tryz.prog 54 [.lf k (fO ob),.f 52 [] [.c (oP o) 0]] (.v (.b (dupO ob o k))):=by
 refine yQ (N:=60) (LO:=qZ (kUA k ob o)) kX zW (uK (l:=[(102,o_ix)]) (m:=[]) ⟨xGV,trivial⟩ trivial) (fun p S hp => ?_) ?_
 ·refine zG (L:=qQ Tf 54) (l:=(kUA k ob o)) (show AllP _ (kUA k ob o) from trivial) p S hp
 ·refine (xWE k ob o).trans ?_;rw [kV (C:=cix) (t:=(k,ob,o)) hk];cases dupO ob o k with
  | false=>rfl
  | true =>
   rw [vYV,vYV,vJQ (show 0≤((Rx.firstK (fun i:Nat => !((ob i).name.toList == o.name.toList)) k 0:Nat):Int) by omega)];rfl
def ccf:Nat × (Nat→ObT) × ObT→Prop:=fun t=>match t with | (k,_,_)=>k≤50
def ecf:Nat × (Nat→ObT) × ObT→List PV:=fun t=>match t with | (k,ob,o)=>[.lf k (fO ob),.f 52 [] [.c (oP o) 0]]
noncomputable def rcf:Nat × (Nat→ObT) × ObT→Ret:=fun t=>match t with | (k,ob,o)=>.v (.b (dupO ob o k))
def dcf:List PV→Nat × (Nat→ObT) × ObT:=fun ps=>match ps with
 | [.lf k f,.f _ _ [.c q _]]=>(k,unOf f,unO q)
 | _=>(0,fun _=>⟨ByteArray.empty,0,fun _=>⟨0,0,0,fun _=>⟨0,0,0⟩⟩⟩,⟨ByteArray.empty,0,fun _=>⟨0,0,0,fun _=>⟨0,0,0⟩⟩⟩)
noncomputable def o_cf:List PV→Option (Bool × Ret):=o_fm dcf ccf ecf rcf
theorem xGC:zJ Tryz.prog 54 o_cf:=qYX fun t h=>by
 obtain ⟨k,ob,o⟩:=t;exact uZW k ob o h
def csk_:(Nat→J) × (Nat→Ms) × (Nat→Shp) × (Nat→Skp) × Nat × Nat × Nat × Nat→Prop:=fun t=>match t with | (_,_,_,_,_,_,_,_)=>True
def esk_:(Nat→J) × (Nat→Ms) × (Nat→Shp) × (Nat→Skp) × Nat × Nat × Nat × Nat→List PV:=fun t=>match t with | (js,ms,sh,sk,n,m,c,d)=>[.a [.lf n (fJ js),.lf m (fM ms),.lf c (fS sh),.lf d (fK sk)]]
noncomputable def rsk_:(Nat→J) × (Nat→Ms) × (Nat→Shp) × (Nat→Skp) × Nat × Nat × Nat × Nat→Ret:=fun t=>match t with | (js,ms,sh,sk,n,m,c,d)=>.v (.n .i64 (sErr js ms sh sk n m c d))
def dsk_:List PV→(Nat→J) × (Nat→Ms) × (Nat→Shp) × (Nat→Skp) × Nat × Nat × Nat × Nat:=fun ps=>match ps with
 | [.a [.lf n js,.lf m ms,.lf c sh,.lf d sk]]=>(unFJ js,unFM ms,unFS sh,unFK sk,n,m,c,d)
 | _=>(fun _=>⟨ByteArray.empty,0,0,⟨0,0,0⟩,0,0,0,0,0,0⟩,fun _=>⟨0,0,⟨0,0,0⟩⟩,fun _=>⟨0,0,0,fun _=>⟨0,0,0⟩⟩,fun _=>⟨0,0⟩,0,0,0,0)
noncomputable def uJF:List PV→Option (Bool × Ret):=o_fm dsk_ csk_ esk_ rsk_
theorem uHV:zJ Tryz.prog 50 uJF:=qYX fun t h=>by
 obtain ⟨js,ms,sh,sk,n,m,c,d⟩:=t;exact kHD js ms sh sk n m c d
def crc_:(Nat→J) × (Nat→Ms) × (Nat→Shp) × (Nat→Skp) × Nat × Nat × Nat × Nat→Prop:=fun t=>match t with | (_,_,_,_,_,_,_,_)=>True
def erc_:(Nat→J) × (Nat→Ms) × (Nat→Shp) × (Nat→Skp) × Nat × Nat × Nat × Nat→List PV:=fun t=>match t with | (js,ms,sh,sk,n,m,c,d)=>[.a [.lf n (fJ js),.lf m (fM ms),.lf c (fS sh),.lf d (fK sk)]]
noncomputable def rrc_:(Nat→J) × (Nat→Ms) × (Nat→Shp) × (Nat→Skp) × Nat × Nat × Nat × Nat→Ret:=fun t=>match t with | (js,ms,sh,sk,n,m,c,d)=>.v (.n .i64 (sErr js ms sh sk n m c d))
def drc_:List PV→(Nat→J) × (Nat→Ms) × (Nat→Shp) × (Nat→Skp) × Nat × Nat × Nat × Nat:=fun ps=>match ps with
 | [.a [.lf n js,.lf m ms,.lf c sh,.lf d sk]]=>(unFJ js,unFM ms,unFS sh,unFK sk,n,m,c,d)
 | _=>(fun _=>⟨ByteArray.empty,0,0,⟨0,0,0⟩,0,0,0,0,0,0⟩,fun _=>⟨0,0,⟨0,0,0⟩⟩,fun _=>⟨0,0,0,fun _=>⟨0,0,0⟩⟩,fun _=>⟨0,0⟩,0,0,0,0)
noncomputable def uJI:List PV→Option (Bool × Ret):=o_fm drc_ crc_ erc_ rrc_
theorem uHH:zJ Tryz.prog 56 uJI:=qYX fun t h=>by
 obtain ⟨js,ms,sh,sk,n,m,c,d⟩:=t;exact kHI js ms sh sk n m c d
noncomputable def orGw (_:Wsp):OrS:=orS [(50,uJF),(51,o_fi),(53,o_nm),(54,o_cf),(55,o_so)] []
noncomputable def hGw (ws:Wsp) (i:Int) (s:Int):St:=⟨[(1,.p 1 0),(4,.v (.n .i64 s)),(22,.v (.lf ws.no (fO ws.ob))),(23,.v (.n .i64 (ws.no:Int))),(24,.v (.n .i64 i))],[(1,.blk ((wP ws).map .v))]⟩
set_option maxRecDepth 100000 in
theorem rdGw (G:St→Option (Ret × Mem)) (K:Cont) (ws:Wsp) (i:Int) (s:Int):kQ 60 (cxS Tf (orGw ws) 60 16 (ntmF Tf 16)) (evX Tf (orGw ws) 60 16 (ntmF Tf 16)) (qZ []) (qQ Tf 16 [0,1,0,1,1,1,1]) [0,1,0,1,1,1,1] (Tf.hint 16 (qJ (qQ Tf 16 [0,1,0,1,1,1,1]))) K G (hGw ws i s) =
 (bif (decide (i < (ws.no:Int))) then (bif (inB i ws.no) then (bif (nmB (ws.ob (i).toNat).name) then (bif (inS none (some i) ws.no) then (bif (gF1 ccf ecf (((i).toNat - 0),(fun v=>(ws.ob (v + 0))),(ws.ob (i).toNat))) then (bif (dupO (fun v=>(ws.ob (v + 0))) (ws.ob (i).toNat) ((i).toNat - 0)) then (K .ret ⟨[(2,.v (.n .i64 3402)),(4,.v (.n .i64 s))],[]⟩)
 else (bif (gF1 cso eso (ws.ob (i).toNat)) then (bif (soOk (ws.ob (i).toNat)) then (G (hGw ws (vJJ .i64 (i + 1)) (vJJ .i64 (s + ((ws.ob (i).toNat).ns:Int)))))
 else (K .ret ⟨[(2,.v (.n .i64 3402)),(4,.v (.n .i64 s))],[]⟩))
 else none))
 else none)
 else none)
 else (K .ret ⟨[(2,.v (.n .i64 3402)),(4,.v (.n .i64 s))],[]⟩))
 else none)
 else (K (.exit 0) ⟨[(4,.v (.n .i64 s))],[]⟩)):=by kernel_rfl
def obG (ws:Wsp) (i:Nat):Bool:=nmB (ws.ob i).name && (!dupO ws.ob (ws.ob i) i && soOk (ws.ob i))
def cntF (ws:Wsp):Nat→Int
 | 0=>(ws.c:Int)
 | i + 1=>vJJ .i64 (cntF ws i + ((ws.ob i).ns:Int))
def obA (ws:Wsp):Bool:=allN (fun i:Nat=>obG ws i) ws.no 0
def sEW (ws:Wsp):Int:=sErr ws.js ws.ms ws.sh ws.sk ws.n ws.m ws.c ws.d
def wErr (ws:Wsp):Int:=bif decide (sEW ws=0) then (bif fiB ws then (bif obA ws then (bif decide (24 < cntF ws ws.no) then 3401 else 0) else 3402) else 3401) else sEW ws
def okW (ws:Wsp):Prop:=∀ i,i < ws.no→(ws.ob i).ns≤8796093021952
theorem xYQ {ws:Wsp} (h:fiB ws=true):ws.no≤6∧ws.np≤8∧ws.nh≤3∧ws.ng≤32:=by
 unfold fiB szG at h;simp only [vQJ,Bool.not_eq_true',decide_eq_false_iff_not] at h;omega
theorem jVB {i n:Nat} (_:i < n):inS none (some (i:Int)) n=true:=by
 simp [inS,loOf,hiOf];exact vJQ (by omega)
theorem lpGw (K:Cont) (ws:Wsp) (_:ws.no≤50) (ho:okW ws):LFX 60 (cxS Tf (orGw ws) 60 16 (ntmF Tf 16)) (evX Tf (orGw ws) 60 16 (ntmF Tf 16)) (qZ []) (qQ Tf 16 [0,1,0,1,1,1,1]) [0,1,0,1,1,1,1] (Tf.hint 16 (qJ (qQ Tf 16 [0,1,0,1,1,1,1]))) K 60 (hGw ws 0 (ws.c:Int))=bif obA ws then (K (.exit 0) ⟨[(4,.v (.n .i64 (cntF ws ws.no)))],[]⟩) else (K .ret ⟨[(2,.v (.n .i64 3402)),(4,.v (.n .i64 (cntF ws (Rx.firstK (fun j:Nat=>obG ws j) ws.no 0))))],[]⟩):=by
 refine (uH (L:=LFX 60 (cxS Tf (orGw ws) 60 16 (ntmF Tf 16)) (evX Tf (orGw ws) 60 16 (ntmF Tf 16)) (qZ []) (qQ Tf 16 [0,1,0,1,1,1,1]) [0,1,0,1,1,1,1] (Tf.hint 16 (qJ (qQ Tf 16 [0,1,0,1,1,1,1]))) K) (stp:=kQ 60 (cxS Tf (orGw ws) 60 16 (ntmF Tf 16)) (evX Tf (orGw ws) 60 16 (ntmF Tf 16)) (qZ []) (qQ Tf 16 [0,1,0,1,1,1,1]) [0,1,0,1,1,1,1] (Tf.hint 16 (qJ (qQ Tf 16 [0,1,0,1,1,1,1]))) K) (fun _ _=>rfl) (fun (i:Nat) (_:Unit)=>hGw ws (i:Int) (cntF ws i)) (fun _ _=>True) (fun (i:Nat) _=>obG ws i) (fun _ _=>()) (c:=ws.no) (fun _=>(K (.exit 0) ⟨[(4,.v (.n .i64 (cntF ws ws.no)))],[]⟩)) (fun i _=>(K .ret ⟨[(2,.v (.n .i64 3402)),(4,.v (.n .i64 (cntF ws i)))],[]⟩)) (fun G i f hi _ => ?_) (fun _ _ _ _ _=>trivial) (fun G f _ => ?_) ws.no 0 60 () (by omega) (by omega) trivial).trans ((jV _ _ _ _ _).trans (qQL _ _ _ _ _))
 ·have h1:(ws.ob i).ns≤9223372036854775807:=Nat.le_trans (ho i hi) (by decide);refine (rdGw G K ws i (cntF ws i)).trans ?_;rw [vJQ (show (i:Int) < (ws.no:Int) by omega),uJ (by omega),yV hi,toN,jVB hi,kV (C:=ccf) (t:=(i - 0,(fun v=>ws.ob (v + 0)),ws.ob i)) (show i - 0≤50 by omega),kV (C:=cso) (t:=ws.ob i) h1];unfold obG;show _=bif nmB (ws.ob i).name && (!dupO (fun v=>ws.ob (v + 0)) (ws.ob i) (i - 0) && soOk (ws.ob i)) then _ else _
  cases nmB (ws.ob i).name <;> cases dupO (fun v=>ws.ob (v + 0)) (ws.ob i) (i - 0) <;> cases soOk (ws.ob i) <;> rfl
 ·refine (rdGw G K ws (ws.no:Int) (cntF ws ws.no)).trans ?_;rw [vYH (show ¬ (ws.no:Int) < (ws.no:Int) by omega)];rfl
noncomputable def kUX (ws:Wsp):List (List Nat × jG):=[([0,1,0,1,1,1,1],sumF (fun _:Unit=>(hGw ws 0 (ws.c:Int))) (fun _=>()) (fun _ K=>(bif gP (ws.no≤50∧okW ws) then (bif obA ws then (K (.exit 0) ⟨[(4,.v (.n .i64 (cntF ws ws.no)))],[]⟩) else (K .ret ⟨[(2,.v (.n .i64 3402)),(4,.v (.n .i64 (cntF ws (Rx.firstK (fun j:Nat=>obG ws j) ws.no 0))))],[]⟩)) else none)))]
set_option maxRecDepth 100000 in
theorem xWH (ws:Wsp):qYU Tf (orGw ws) (qZ (kUX ws)) 60 16 [.a (wP ws)] =
 (bif (gF1 csk_ esk_ (ws.js,ws.ms,ws.sh,ws.sk,ws.n,ws.m,ws.c,ws.d)) then (bif (!decide ((sErr ws.js ws.ms ws.sh ws.sk ws.n ws.m ws.c ws.d)=0)) then some (.v (.n .i64 (sErr ws.js ws.ms ws.sh ws.sk ws.n ws.m ws.c ws.d)),[])
 else (bif (gF1 cfi efi ws) then (bif (fiB ws) then (bif (gSt (hGw ws 0 (ws.c:Int)) (hGw ws 0 (ws.c:Int))) then (bif gP (ws.no≤50∧okW ws) then (bif (obA ws) then (bif (decide (24 < (cntF ws ws.no))) then some (.v (.n .i64 3401),[])
 else some (.v (.n .i64 0),[]))
 else some (.v (.n .i64 3402),[]))
 else none)
 else none)
 else some (.v (.n .i64 3401),[]))
 else none))
 else none):=by kernel_rfl
theorem uZQ (ws:Wsp) (ho:okW ws):yK Tryz.prog 16 [.a (wP ws)] (.v (.n .i64 (wErr ws))):=by
 refine yQ (N:=60) (LO:=qZ (kUX ws)) kX zW (uK (l:=[(50,uJF),(51,o_fi),(53,o_nm),(54,o_cf),(55,o_so)]) (m:=[]) ⟨uHV,xGH,uHK,xGC,xVF,trivial⟩ trivial) (fun p S hp => ?_) ?_
 ·refine zG (L:=qQ Tf 16) (l:=(kUX ws)) (show AllP _ (kUX ws) from ⟨?_,trivial⟩) p S hp
  ·dsimp only;refine kZ (T:=Tf) (o:=(orGw ws)) (f:=16) (LO:=qZ []) (p:=[0,1,0,1,1,1,1]) kW ?_;intro t K r hr;obtain ⟨hg,hr⟩:=qY hr
   skip
   exact (lpGw K ws (jH hg).1 (jH hg).2).trans hr
 ·refine (xWH ws).trans ?_;unfold wErr;rw [kV (C:=csk_) (t:=(ws.js,ws.ms,ws.sh,ws.sk,ws.n,ws.m,ws.c,ws.d)) trivial];show (bif true then (bif !decide (sEW ws=0) then some (Ret.v (.n .i64 (sEW ws)),([]:Mem)) else _) else none)=_;by_cases h:sEW ws=0
  ·rw [vJQ h,kV (C:=cfi) (t:=ws) trivial];cases hf:fiB ws with
   | false=>rfl
   | true =>
    have hn:=(xYQ hf).1;simp only [yU,qVD (show ws.no≤50∧okW ws from ⟨by omega,ho⟩),vYV,Bool.not_true,vYG];cases obA ws with
    | false=>rfl
    | true=>cases decide (24 < cntF ws ws.no) <;> rfl
  ·rw [vYH h]; rfl
def cgk:Wsp→Prop:=fun t=>match t with | ws=>okW ws
def egk:Wsp→List PV:=fun t=>match t with | ws=>[.a (wP ws)]
noncomputable def rgk:Wsp→Ret:=fun t=>match t with | ws=>.v (.n .i64 (wErr ws))
def dgk:List PV→Wsp:=fun ps=>match ps with
 | [.a r]=>unW r
 | _=>(unW [])
noncomputable def o_gk:List PV→Option (Bool × Ret):=o_fm dgk cgk egk rgk
theorem xQV:zJ Tryz.prog 16 o_gk:=qYX fun t h=>by
 revert h; revert t; intro ws h
 exact uZQ ws h
end Go.Proofs.YtgmbkkkbfbocnaaGreat.Hc
namespace Go.Proofs.YtgmbkkkbfbocnaaGreat.Hd
open Go.Rx Rt Go.Sx Go.RowKit Od Na Nb Nc Nx Nf Nl Nm Ga Gb Gc Gd Ge Gf Gg Ha Hb Hc
noncomputable def orWp (_:Wsp):OrS:=orS [(56,uJI),(57,o_nq),(58,o_ri),(59,o_ob)] []
noncomputable def hWp (ws:Wsp) (i:Int):St:=⟨[(1,.p 1 0),(4,.v (.n .i64 i))],[(1,.blk ((wP ws).map .v))]⟩
set_option maxRecDepth 100000 in
theorem rdWp (G:St→Option (Ret × Mem)) (K:Cont) (ws:Wsp) (i:Int):kQ 60 (cxS Tf (orWp ws) 60 17 (ntmF Tf 17)) (evX Tf (orWp ws) 60 17 (ntmF Tf 17)) (qZ []) (qQ Tf 17 [0,1,0,1,1,1]) [0,1,0,1,1,1] (Tf.hint 17 (qJ (qQ Tf 17 [0,1,0,1,1,1]))) K G (hWp ws i) =
 (bif (decide (i < (ws.np:Int))) then (bif (inB i ws.np) then (bif (gF1 cnq enq (ws.pl (i).toNat)) then (bif (zOk 2097152 (ws.pl (i).toNat)) then (G (hWp ws (vJJ .i64 (i + 1))))
 else (K .ret ⟨[(1,.p 1 0),(2,.v (.n .i64 3401))],[(1,.blk ((wP ws).map .v))]⟩))
 else none)
 else none)
 else (K (.exit 0) ⟨[(1,.p 1 0)],[(1,.blk ((wP ws).map .v))]⟩)):=by kernel_rfl
theorem lpWp (K:Cont) (ws:Wsp) (_:ws.np≤50):LFX 60 (cxS Tf (orWp ws) 60 17 (ntmF Tf 17)) (evX Tf (orWp ws) 60 17 (ntmF Tf 17)) (qZ []) (qQ Tf 17 [0,1,0,1,1,1]) [0,1,0,1,1,1] (Tf.hint 17 (qJ (qQ Tf 17 [0,1,0,1,1,1]))) K 60 (hWp ws 0)=bif (allN (fun i:Nat=>zOk 2097152 (ws.pl i)) ws.np 0) then (K (.exit 0) ⟨[(1,.p 1 0)],[(1,.blk ((wP ws).map .v))]⟩) else (K .ret ⟨[(1,.p 1 0),(2,.v (.n .i64 3401))],[(1,.blk ((wP ws).map .v))]⟩):=by
 refine (uH (L:=LFX 60 (cxS Tf (orWp ws) 60 17 (ntmF Tf 17)) (evX Tf (orWp ws) 60 17 (ntmF Tf 17)) (qZ []) (qQ Tf 17 [0,1,0,1,1,1]) [0,1,0,1,1,1] (Tf.hint 17 (qJ (qQ Tf 17 [0,1,0,1,1,1]))) K) (stp:=kQ 60 (cxS Tf (orWp ws) 60 17 (ntmF Tf 17)) (evX Tf (orWp ws) 60 17 (ntmF Tf 17)) (qZ []) (qQ Tf 17 [0,1,0,1,1,1]) [0,1,0,1,1,1] (Tf.hint 17 (qJ (qQ Tf 17 [0,1,0,1,1,1]))) K) (fun _ _=>rfl) (fun (i:Nat) (_:Unit)=>hWp ws (i:Int)) (fun _ _=>True) (fun (i:Nat) _=>zOk 2097152 (ws.pl i)) (fun _ _=>()) (c:=ws.np) (fun _=>(K (.exit 0) ⟨[(1,.p 1 0)],[(1,.blk ((wP ws).map .v))]⟩)) (fun i _=>(K .ret ⟨[(1,.p 1 0),(2,.v (.n .i64 3401))],[(1,.blk ((wP ws).map .v))]⟩)) (fun G i f hi _ => ?_) (fun _ _ _ _ _=>trivial) (fun G f _ => ?_) ws.np 0 60 () (by omega) (by omega) trivial).trans ((jV _ _ _ _ _).trans (jK _ _ _ _ _))
 ·refine (rdWp G K ws i).trans ?_;rw [vJQ (show (i:Int) < (ws.np:Int) by omega),uJ (by omega),yV (show i < ws.np by omega),toN,kV (C:=cnq) (t:=ws.pl i) trivial];cases zOk 2097152 (ws.pl i) <;> rfl
 ·refine (rdWp G K ws ws.np).trans ?_;rw [vYH (show ¬ (ws.np:Int) < (ws.np:Int) by omega)];rfl
noncomputable def hWq (ws:Wsp) (i:Int):St:=⟨[(1,.p 1 0),(5,.v (.n .i64 i))],[(1,.blk ((wP ws).map .v))]⟩
set_option maxRecDepth 100000 in
theorem rdWq (G:St→Option (Ret × Mem)) (K:Cont) (ws:Wsp) (i:Int):kQ 60 (cxS Tf (orWp ws) 60 17 (ntmF Tf 17)) (evX Tf (orWp ws) 60 17 (ntmF Tf 17)) (qZ []) (qQ Tf 17 [0,1,0,1,1,1,1]) [0,1,0,1,1,1,1] (Tf.hint 17 (qJ (qQ Tf 17 [0,1,0,1,1,1,1]))) K G (hWq ws i) =
 (bif (decide (i < (ws.nh:Int))) then (bif (inB i ws.nh) then (bif (decide ((ws.hd (i).toNat).link < 0)) then (K .ret ⟨[(1,.p 1 0),(2,.v (.n .i64 3401))],[(1,.blk ((wP ws).map .v))]⟩)
 else (bif (decide ((ws.n:Int)≤(ws.hd (i).toNat).link)) then (K .ret ⟨[(1,.p 1 0),(2,.v (.n .i64 3401))],[(1,.blk ((wP ws).map .v))]⟩)
 else (bif (gF1 cnq enq ((ws.hd (i).toNat).off)) then (bif (zOk 2097152 ((ws.hd (i).toNat).off)) then (G (hWq ws (vJJ .i64 (i + 1))))
 else (K .ret ⟨[(1,.p 1 0),(2,.v (.n .i64 3401))],[(1,.blk ((wP ws).map .v))]⟩))
 else none)))
 else none)
 else (K (.exit 2) ⟨[(1,.p 1 0)],[(1,.blk ((wP ws).map .v))]⟩)):=by kernel_rfl
theorem lpWq (K:Cont) (ws:Wsp) (_:ws.nh≤50):LFX 60 (cxS Tf (orWp ws) 60 17 (ntmF Tf 17)) (evX Tf (orWp ws) 60 17 (ntmF Tf 17)) (qZ []) (qQ Tf 17 [0,1,0,1,1,1,1]) [0,1,0,1,1,1,1] (Tf.hint 17 (qJ (qQ Tf 17 [0,1,0,1,1,1,1]))) K 60 (hWq ws 0)=bif (allN (fun i:Nat=>hdOk ws.n (ws.hd i)) ws.nh 0) then (K (.exit 2) ⟨[(1,.p 1 0)],[(1,.blk ((wP ws).map .v))]⟩) else (K .ret ⟨[(1,.p 1 0),(2,.v (.n .i64 3401))],[(1,.blk ((wP ws).map .v))]⟩):=by
 refine (uH (L:=LFX 60 (cxS Tf (orWp ws) 60 17 (ntmF Tf 17)) (evX Tf (orWp ws) 60 17 (ntmF Tf 17)) (qZ []) (qQ Tf 17 [0,1,0,1,1,1,1]) [0,1,0,1,1,1,1] (Tf.hint 17 (qJ (qQ Tf 17 [0,1,0,1,1,1,1]))) K) (stp:=kQ 60 (cxS Tf (orWp ws) 60 17 (ntmF Tf 17)) (evX Tf (orWp ws) 60 17 (ntmF Tf 17)) (qZ []) (qQ Tf 17 [0,1,0,1,1,1,1]) [0,1,0,1,1,1,1] (Tf.hint 17 (qJ (qQ Tf 17 [0,1,0,1,1,1,1]))) K) (fun _ _=>rfl) (fun (i:Nat) (_:Unit)=>hWq ws (i:Int)) (fun _ _=>True) (fun (i:Nat) _=>hdOk ws.n (ws.hd i)) (fun _ _=>()) (c:=ws.nh) (fun _=>(K (.exit 2) ⟨[(1,.p 1 0)],[(1,.blk ((wP ws).map .v))]⟩)) (fun i _=>(K .ret ⟨[(1,.p 1 0),(2,.v (.n .i64 3401))],[(1,.blk ((wP ws).map .v))]⟩)) (fun G i f hi _ => ?_) (fun _ _ _ _ _=>trivial) (fun G f _ => ?_) ws.nh 0 60 () (by omega) (by omega) trivial).trans ((jV _ _ _ _ _).trans (jK _ _ _ _ _))
 ·refine (rdWq G K ws i).trans ?_;rw [vJQ (show (i:Int) < (ws.nh:Int) by omega),uJ (by omega),yV (show i < ws.nh by omega),toN,kV (C:=cnq) (t:=(ws.hd i).off) trivial];unfold hdOk;cases decide ((ws.hd i).link < 0) <;> cases decide ((ws.n:Int)≤(ws.hd i).link) <;> cases zOk 2097152 (ws.hd i).off <;> rfl
 ·refine (rdWq G K ws ws.nh).trans ?_;rw [vYH (show ¬ (ws.nh:Int) < (ws.nh:Int) by omega)];rfl
noncomputable def hWr (ws:Wsp) (i:Int):St:=⟨[(1,.p 1 0),(7,.v (.n .i64 i))],[(1,.blk ((wP ws).map .v))]⟩
set_option maxRecDepth 100000 in
theorem rdWr (G:St→Option (Ret × Mem)) (K:Cont) (ws:Wsp) (i:Int):kQ 60 (cxS Tf (orWp ws) 60 17 (ntmF Tf 17)) (evX Tf (orWp ws) 60 17 (ntmF Tf 17)) (qZ []) (qQ Tf 17 [0,1,0,1,1,1,1,1]) [0,1,0,1,1,1,1,1] (Tf.hint 17 (qJ (qQ Tf 17 [0,1,0,1,1,1,1,1]))) K G (hWr ws i) =
 (bif (decide (i < (ws.ng:Int))) then (bif (inB i ws.ng) then (bif (decide ((ws.gr (i).toNat).hand < 0)) then (K .ret ⟨[(1,.p 1 0),(2,.v (.n .i64 3401))],[(1,.blk ((wP ws).map .v))]⟩)
 else (bif (decide ((ws.nh:Int)≤(ws.gr (i).toNat).hand)) then (K .ret ⟨[(1,.p 1 0),(2,.v (.n .i64 3401))],[(1,.blk ((wP ws).map .v))]⟩)
 else (bif (decide ((ws.gr (i).toNat).place < 0)) then (K .ret ⟨[(1,.p 1 0),(2,.v (.n .i64 3401))],[(1,.blk ((wP ws).map .v))]⟩)
 else (bif (decide ((ws.np:Int)≤(ws.gr (i).toNat).place)) then (K .ret ⟨[(1,.p 1 0),(2,.v (.n .i64 3401))],[(1,.blk ((wP ws).map .v))]⟩)
 else (bif (gF1 cri eri (ws.js,ws.ms,ws.n,ws.m,((ws.gr (i).toNat).na),((ws.gr (i).toNat).cf))) then (bif (qIn ws.js ws.ms ((ws.gr (i).toNat).cf) ws.n ws.m ((ws.gr (i).toNat).na)) then (G (hWr ws (vJJ .i64 (i + 1))))
 else (K .ret ⟨[(1,.p 1 0),(2,.v (.n .i64 3401))],[(1,.blk ((wP ws).map .v))]⟩))
 else none)))))
 else none)
 else (K (.exit 4) ⟨[(1,.p 1 0)],[(1,.blk ((wP ws).map .v))]⟩)):=by kernel_rfl
theorem nlt0 (a b:Int):(!decide (b≤a))=decide (a < b):=by by_cases h:b≤a <;> simp [h] <;> omega
theorem lpWr (K:Cont) (ws:Wsp) (_:ws.ng≤50):LFX 60 (cxS Tf (orWp ws) 60 17 (ntmF Tf 17)) (evX Tf (orWp ws) 60 17 (ntmF Tf 17)) (qZ []) (qQ Tf 17 [0,1,0,1,1,1,1,1]) [0,1,0,1,1,1,1,1] (Tf.hint 17 (qJ (qQ Tf 17 [0,1,0,1,1,1,1,1]))) K 60 (hWr ws 0)=bif (allN (fun i:Nat=>grOk ws (ws.gr i)) ws.ng 0) then (K (.exit 4) ⟨[(1,.p 1 0)],[(1,.blk ((wP ws).map .v))]⟩) else (K .ret ⟨[(1,.p 1 0),(2,.v (.n .i64 3401))],[(1,.blk ((wP ws).map .v))]⟩):=by
 refine (uH (L:=LFX 60 (cxS Tf (orWp ws) 60 17 (ntmF Tf 17)) (evX Tf (orWp ws) 60 17 (ntmF Tf 17)) (qZ []) (qQ Tf 17 [0,1,0,1,1,1,1,1]) [0,1,0,1,1,1,1,1] (Tf.hint 17 (qJ (qQ Tf 17 [0,1,0,1,1,1,1,1]))) K) (stp:=kQ 60 (cxS Tf (orWp ws) 60 17 (ntmF Tf 17)) (evX Tf (orWp ws) 60 17 (ntmF Tf 17)) (qZ []) (qQ Tf 17 [0,1,0,1,1,1,1,1]) [0,1,0,1,1,1,1,1] (Tf.hint 17 (qJ (qQ Tf 17 [0,1,0,1,1,1,1,1]))) K) (fun _ _=>rfl) (fun (i:Nat) (_:Unit)=>hWr ws (i:Int)) (fun _ _=>True) (fun (i:Nat) _=>grOk ws (ws.gr i)) (fun _ _=>()) (c:=ws.ng) (fun _=>(K (.exit 4) ⟨[(1,.p 1 0)],[(1,.blk ((wP ws).map .v))]⟩)) (fun i _=>(K .ret ⟨[(1,.p 1 0),(2,.v (.n .i64 3401))],[(1,.blk ((wP ws).map .v))]⟩)) (fun G i f hi _ => ?_) (fun _ _ _ _ _=>trivial) (fun G f _ => ?_) ws.ng 0 60 () (by omega) (by omega) trivial).trans ((jV _ _ _ _ _).trans (jK _ _ _ _ _))
 ·refine (rdWr G K ws i).trans ?_;rw [vJQ (show (i:Int) < (ws.ng:Int) by omega),uJ (by omega),yV (show i < ws.ng by omega),toN,kV (C:=cri) (t:=(ws.js,ws.ms,ws.n,ws.m,(ws.gr i).na,(ws.gr i).cf)) trivial];unfold grOk knB;rw [nle 0 (ws.gr i).hand,nle 0 (ws.gr i).place,← nlt0 (ws.gr i).hand (ws.nh:Int),← nlt0 (ws.gr i).place (ws.np:Int)];cases decide ((ws.gr i).hand < 0) <;> cases decide ((ws.nh:Int)≤(ws.gr i).hand) <;> cases decide ((ws.gr i).place < 0) <;> cases decide ((ws.np:Int)≤(ws.gr i).place) <;> cases qIn ws.js ws.ms (ws.gr i).cf ws.n ws.m (ws.gr i).na <;> rfl
 ·refine (rdWr G K ws ws.ng).trans ?_;rw [vYH (show ¬ (ws.ng:Int) < (ws.ng:Int) by omega)];rfl
noncomputable def hWi (ws:Wsp) (s:Int) (i:Int) (k:Int):St:=⟨[(1,.p 1 0),(9,.v (.n .i64 s)),(10,.v (.n .i64 i)),(11,.v (.n .i64 k))],[(1,.blk ((wP ws).map .v))]⟩
set_option maxRecDepth 100000 in
theorem rdWi (G:St→Option (Ret × Mem)) (K:Cont) (ws:Wsp) (s:Int) (i:Int) (k:Int):kQ 60 (cxS Tf (orWp ws) 60 17 (ntmF Tf 17)) (evX Tf (orWp ws) 60 17 (ntmF Tf 17)) (qZ []) (qQ Tf 17 [0,1,0,1,0,0,1,0,0,1,0,1,1,1,1,1,1,1]) [0,1,0,1,0,0,1,0,0,1,0,1,1,1,1,1,1,1] (Tf.hint 17 (qJ (qQ Tf 17 [0,1,0,1,0,0,1,0,0,1,0,1,1,1,1,1,1,1]))) K G (hWi ws s i k) =
 (bif (decide (k < i)) then (bif (inB k ws.no) then (bif (inB i ws.no) then (bif ((ws.ob (k).toNat).name.toList == (ws.ob (i).toNat).name.toList) then (K .ret ⟨[(1,.p 1 0),(2,.v (.n .i64 3402)),(9,.v (.n .i64 s)),(10,.v (.n .i64 i))],[(1,.blk ((wP ws).map .v))]⟩)
 else (G (hWi ws s i (vJJ .i64 (k + 1)))))
 else none)
 else none)
 else (K (.exit 8) ⟨[(1,.p 1 0),(9,.v (.n .i64 s)),(10,.v (.n .i64 i))],[(1,.blk ((wP ws).map .v))]⟩)):=by kernel_rfl
theorem lpWi (K:Cont) (ws:Wsp) (s:Int) (i:Nat) (hI:i < ws.no) (hN:ws.no≤50):LFX 60 (cxS Tf (orWp ws) 60 17 (ntmF Tf 17)) (evX Tf (orWp ws) 60 17 (ntmF Tf 17)) (qZ []) (qQ Tf 17 [0,1,0,1,0,0,1,0,0,1,0,1,1,1,1,1,1,1]) [0,1,0,1,0,0,1,0,0,1,0,1,1,1,1,1,1,1] (Tf.hint 17 (qJ (qQ Tf 17 [0,1,0,1,0,0,1,0,0,1,0,1,1,1,1,1,1,1]))) K 60 (hWi ws s i 0)=bif (allN (fun k:Nat => !((ws.ob k).name.toList == (ws.ob i).name.toList)) i 0) then (K (.exit 8) ⟨[(1,.p 1 0),(9,.v (.n .i64 s)),(10,.v (.n .i64 i))],[(1,.blk ((wP ws).map .v))]⟩) else (K .ret ⟨[(1,.p 1 0),(2,.v (.n .i64 3402)),(9,.v (.n .i64 s)),(10,.v (.n .i64 i))],[(1,.blk ((wP ws).map .v))]⟩):=by
 refine (uH (L:=LFX 60 (cxS Tf (orWp ws) 60 17 (ntmF Tf 17)) (evX Tf (orWp ws) 60 17 (ntmF Tf 17)) (qZ []) (qQ Tf 17 [0,1,0,1,0,0,1,0,0,1,0,1,1,1,1,1,1,1]) [0,1,0,1,0,0,1,0,0,1,0,1,1,1,1,1,1,1] (Tf.hint 17 (qJ (qQ Tf 17 [0,1,0,1,0,0,1,0,0,1,0,1,1,1,1,1,1,1]))) K) (stp:=kQ 60 (cxS Tf (orWp ws) 60 17 (ntmF Tf 17)) (evX Tf (orWp ws) 60 17 (ntmF Tf 17)) (qZ []) (qQ Tf 17 [0,1,0,1,0,0,1,0,0,1,0,1,1,1,1,1,1,1]) [0,1,0,1,0,0,1,0,0,1,0,1,1,1,1,1,1,1] (Tf.hint 17 (qJ (qQ Tf 17 [0,1,0,1,0,0,1,0,0,1,0,1,1,1,1,1,1,1]))) K) (fun _ _=>rfl) (fun (k:Nat) (_:Unit)=>hWi ws s i (k:Int)) (fun _ _=>True) (fun (k:Nat) _ => !((ws.ob k).name.toList == (ws.ob i).name.toList)) (fun _ _=>()) (c:=i) (fun _=>(K (.exit 8) ⟨[(1,.p 1 0),(9,.v (.n .i64 s)),(10,.v (.n .i64 i))],[(1,.blk ((wP ws).map .v))]⟩)) (fun k _=>(K .ret ⟨[(1,.p 1 0),(2,.v (.n .i64 3402)),(9,.v (.n .i64 s)),(10,.v (.n .i64 i))],[(1,.blk ((wP ws).map .v))]⟩)) (fun G k f hi _ => ?_) (fun _ _ _ _ _=>trivial) (fun G f _ => ?_) (i) 0 60 () (by omega) (by omega) trivial).trans ((jV _ _ _ _ _).trans (jK _ _ _ _ _))
 ·refine (rdWi G K ws s i k).trans ?_;rw [vJQ (show (k:Int) < (i:Int) by omega),uJ (by omega),yV (show k < ws.no by omega),yV hI,toN,toN];cases ((ws.ob k).name.toList == (ws.ob i).name.toList) <;> rfl
 ·refine (rdWi G K ws s i (i:Int)).trans ?_;rw [vYH (show ¬ (i:Int) < (i:Int) by omega)];rfl
theorem okWi (ws:Wsp):∀ p S,qZ [([0,1,0,1,0,0,1,0,0,1,0,1,1,1,1,1,1,1],sumF (fun t:Int × Nat=>(hWi ws t.1 ((t.2:Nat):Int) 0)) (fun σ=>(slI σ 9,(slI σ 10).toNat)) (fun t K=>(bif (decide (t.2 < ws.no∧ws.no≤50)) then (bif (allN (fun k:Nat => !((ws.ob k).name.toList == (ws.ob t.2).name.toList)) t.2 0) then (K (.exit 8) ⟨[(1,.p 1 0),(9,.v (.n .i64 t.1)),(10,.v (.n .i64 t.2))],[(1,.blk ((wP ws).map .v))]⟩) else (K .ret ⟨[(1,.p 1 0),(2,.v (.n .i64 3402)),(9,.v (.n .i64 t.1)),(10,.v (.n .i64 t.2))],[(1,.blk ((wP ws).map .v))]⟩)) else none)))] p=some S→qQH 60 (cxS Tf (orWp ws) 60 17 (ntmF Tf 17)) (qQ Tf 17 p) S:=fun p S hp=>by
 refine zG (L:=qQ Tf 17) (l:=[([0,1,0,1,0,0,1,0,0,1,0,1,1,1,1,1,1,1],sumF (fun t:Int × Nat=>(hWi ws t.1 ((t.2:Nat):Int) 0)) (fun σ=>(slI σ 9,(slI σ 10).toNat)) (fun t K=>(bif (decide (t.2 < ws.no∧ws.no≤50)) then (bif (allN (fun k:Nat => !((ws.ob k).name.toList == (ws.ob t.2).name.toList)) t.2 0) then (K (.exit 8) ⟨[(1,.p 1 0),(9,.v (.n .i64 t.1)),(10,.v (.n .i64 t.2))],[(1,.blk ((wP ws).map .v))]⟩) else (K .ret ⟨[(1,.p 1 0),(2,.v (.n .i64 3402)),(9,.v (.n .i64 t.1)),(10,.v (.n .i64 t.2))],[(1,.blk ((wP ws).map .v))]⟩)) else none)))]) ⟨?_,trivial⟩ p S hp;dsimp only;refine kZ (T:=Tf) (o:=(orWp ws)) (f:=17) (LO:=qZ []) (p:=[0,1,0,1,0,0,1,0,0,1,0,1,1,1,1,1,1,1]) kW ?_;intro t K r hr;obtain ⟨hg,hr⟩:=qY hr
 skip
 exact (lpWi K ws t.1 t.2 (vJZ hg).1 (vJZ hg).2).trans hr
noncomputable def hWo (ws:Wsp) (i:Int) (s:Int):St:=⟨[(1,.p 1 0),(9,.v (.n .i64 s)),(10,.v (.n .i64 i))],[(1,.blk ((wP ws).map .v))]⟩
set_option maxRecDepth 100000 in
theorem rdWo (G:St→Option (Ret × Mem)) (K:Cont) (ws:Wsp) (i:Int) (s:Int):kQ 60 (cxS Tf (orWp ws) 60 17 (ntmF Tf 17)) (evX Tf (orWp ws) 60 17 (ntmF Tf 17)) (qZ [([0,1,0,1,0,0,1,0,0,1,0,1,1,1,1,1,1,1],sumF (fun t:Int × Nat=>(hWi ws t.1 ((t.2:Nat):Int) 0)) (fun σ=>(slI σ 9,(slI σ 10).toNat)) (fun t K=>(bif (decide (t.2 < ws.no∧ws.no≤50)) then (bif (allN (fun k:Nat => !((ws.ob k).name.toList == (ws.ob t.2).name.toList)) t.2 0) then (K (.exit 8) ⟨[(1,.p 1 0),(9,.v (.n .i64 t.1)),(10,.v (.n .i64 t.2))],[(1,.blk ((wP ws).map .v))]⟩) else (K .ret ⟨[(1,.p 1 0),(2,.v (.n .i64 3402)),(9,.v (.n .i64 t.1)),(10,.v (.n .i64 t.2))],[(1,.blk ((wP ws).map .v))]⟩)) else none)))]) (qQ Tf 17 [0,1,0,1,1,1,1,1,1,1]) [0,1,0,1,1,1,1,1,1,1] (Tf.hint 17 (qJ (qQ Tf 17 [0,1,0,1,1,1,1,1,1,1]))) K G (hWo ws i s) =
 (bif (decide (i < (ws.no:Int))) then (bif (inB i ws.no) then (bif (gF1 cob eob (ws.ob (i).toNat)) then (bif (obOk (ws.ob (i).toNat)) then (bif (gSt (hWi ws s i 0) (hWi ws s (((i).toNat:Nat):Int) 0)) then (bif (decide ((i).toNat < ws.no∧ws.no≤50)) then (bif (allN (fun k:Nat => !((ws.ob k).name.toList == (ws.ob (i).toNat).name.toList)) (i).toNat 0) then (bif (inB (((i).toNat:Nat):Int) ws.no) then (G (hWo ws (vJJ .i64 ((((i).toNat:Nat):Int) + 1)) (vJJ .i64 (s + ((ws.ob ((((i).toNat:Nat):Int)).toNat).ns:Int)))))
 else none)
 else (K .ret ⟨[(2,.v (.n .i64 3402)),(9,.v (.n .i64 s))],[]⟩))
 else none)
 else none)
 else (K .ret ⟨[(2,.v (.n .i64 3402)),(9,.v (.n .i64 s))],[]⟩))
 else none)
 else none)
 else (K (.exit 6) ⟨[(9,.v (.n .i64 s))],[]⟩)):=by kernel_rfl
theorem lpWo (K:Cont) (ws:Wsp) (hn:ws.no≤50) (ho:okW ws):LFX 60 (cxS Tf (orWp ws) 60 17 (ntmF Tf 17)) (evX Tf (orWp ws) 60 17 (ntmF Tf 17)) (qZ [([0,1,0,1,0,0,1,0,0,1,0,1,1,1,1,1,1,1],sumF (fun t:Int × Nat=>(hWi ws t.1 ((t.2:Nat):Int) 0)) (fun σ=>(slI σ 9,(slI σ 10).toNat)) (fun t K=>(bif (decide (t.2 < ws.no∧ws.no≤50)) then (bif (allN (fun k:Nat => !((ws.ob k).name.toList == (ws.ob t.2).name.toList)) t.2 0) then (K (.exit 8) ⟨[(1,.p 1 0),(9,.v (.n .i64 t.1)),(10,.v (.n .i64 t.2))],[(1,.blk ((wP ws).map .v))]⟩) else (K .ret ⟨[(1,.p 1 0),(2,.v (.n .i64 3402)),(9,.v (.n .i64 t.1)),(10,.v (.n .i64 t.2))],[(1,.blk ((wP ws).map .v))]⟩)) else none)))]) (qQ Tf 17 [0,1,0,1,1,1,1,1,1,1]) [0,1,0,1,1,1,1,1,1,1] (Tf.hint 17 (qJ (qQ Tf 17 [0,1,0,1,1,1,1,1,1,1]))) K 60 (hWo ws 0 (ws.c:Int))=bif obA ws then (K (.exit 6) ⟨[(9,.v (.n .i64 (cntF ws ws.no)))],[]⟩) else (K .ret ⟨[(2,.v (.n .i64 3402)),(9,.v (.n .i64 (cntF ws (Rx.firstK (fun j:Nat=>obG ws j) ws.no 0))))],[]⟩):=by
 refine (uH (L:=LFX 60 (cxS Tf (orWp ws) 60 17 (ntmF Tf 17)) (evX Tf (orWp ws) 60 17 (ntmF Tf 17)) (qZ [([0,1,0,1,0,0,1,0,0,1,0,1,1,1,1,1,1,1],sumF (fun t:Int × Nat=>(hWi ws t.1 ((t.2:Nat):Int) 0)) (fun σ=>(slI σ 9,(slI σ 10).toNat)) (fun t K=>(bif (decide (t.2 < ws.no∧ws.no≤50)) then (bif (allN (fun k:Nat => !((ws.ob k).name.toList == (ws.ob t.2).name.toList)) t.2 0) then (K (.exit 8) ⟨[(1,.p 1 0),(9,.v (.n .i64 t.1)),(10,.v (.n .i64 t.2))],[(1,.blk ((wP ws).map .v))]⟩) else (K .ret ⟨[(1,.p 1 0),(2,.v (.n .i64 3402)),(9,.v (.n .i64 t.1)),(10,.v (.n .i64 t.2))],[(1,.blk ((wP ws).map .v))]⟩)) else none)))]) (qQ Tf 17 [0,1,0,1,1,1,1,1,1,1]) [0,1,0,1,1,1,1,1,1,1] (Tf.hint 17 (qJ (qQ Tf 17 [0,1,0,1,1,1,1,1,1,1]))) K) (stp:=kQ 60 (cxS Tf (orWp ws) 60 17 (ntmF Tf 17)) (evX Tf (orWp ws) 60 17 (ntmF Tf 17)) (qZ [([0,1,0,1,0,0,1,0,0,1,0,1,1,1,1,1,1,1],sumF (fun t:Int × Nat=>(hWi ws t.1 ((t.2:Nat):Int) 0)) (fun σ=>(slI σ 9,(slI σ 10).toNat)) (fun t K=>(bif (decide (t.2 < ws.no∧ws.no≤50)) then (bif (allN (fun k:Nat => !((ws.ob k).name.toList == (ws.ob t.2).name.toList)) t.2 0) then (K (.exit 8) ⟨[(1,.p 1 0),(9,.v (.n .i64 t.1)),(10,.v (.n .i64 t.2))],[(1,.blk ((wP ws).map .v))]⟩) else (K .ret ⟨[(1,.p 1 0),(2,.v (.n .i64 3402)),(9,.v (.n .i64 t.1)),(10,.v (.n .i64 t.2))],[(1,.blk ((wP ws).map .v))]⟩)) else none)))]) (qQ Tf 17 [0,1,0,1,1,1,1,1,1,1]) [0,1,0,1,1,1,1,1,1,1] (Tf.hint 17 (qJ (qQ Tf 17 [0,1,0,1,1,1,1,1,1,1]))) K) (fun _ _=>rfl) (fun (i:Nat) (_:Unit)=>hWo ws (i:Int) (cntF ws i)) (fun _ _=>True) (fun (i:Nat) _=>obG ws i) (fun _ _=>()) (c:=ws.no) (fun _=>(K (.exit 6) ⟨[(9,.v (.n .i64 (cntF ws ws.no)))],[]⟩)) (fun i _=>(K .ret ⟨[(2,.v (.n .i64 3402)),(9,.v (.n .i64 (cntF ws i)))],[]⟩)) (fun G i f hi _ => ?_) (fun _ _ _ _ _=>trivial) (fun G f _ => ?_) ws.no 0 60 () (by omega) (by omega) trivial).trans ((jV _ _ _ _ _).trans (qQL _ _ _ _ _))
 ·have h1:(ws.ob i).ns≤9223372036854775807:=Nat.le_trans (ho i hi) (by decide);refine (rdWo G K ws i (cntF ws i)).trans ?_;rw [vJQ (show (i:Int) < (ws.no:Int) by omega),uJ (by omega),yV hi,toN,kV (C:=cob) (t:=ws.ob i) h1,yU,vJQ (show i < ws.no∧ws.no≤50 from ⟨hi,hn⟩)];unfold obG obOk;rw [yV hi,show allN (fun k:Nat => !((ws.ob k).name.toList == (ws.ob i).name.toList)) i 0 = !dupO ws.ob (ws.ob i) i from by unfold dupO; rw [Bool.not_not]];cases nmB (ws.ob i).name <;> cases dupO ws.ob (ws.ob i) i <;> cases soOk (ws.ob i) <;> rfl
 ·refine (rdWo G K ws (ws.no:Int) (cntF ws ws.no)).trans ?_;rw [vYH (show ¬ (ws.no:Int) < (ws.no:Int) by omega)];rfl
noncomputable def kKW (ws:Wsp):List (List Nat × jG):=[([0,1,0,1,1,1],sumF (fun _:Unit=>(hWp ws 0)) (fun _=>()) (fun _ K=>(bif (decide (ws.np≤50)) then (bif (allN (fun i:Nat=>zOk 2097152 (ws.pl i)) ws.np 0) then (K (.exit 0) ⟨[(1,.p 1 0)],[(1,.blk ((wP ws).map .v))]⟩) else (K .ret ⟨[(1,.p 1 0),(2,.v (.n .i64 3401))],[(1,.blk ((wP ws).map .v))]⟩)) else none))),([0,1,0,1,1,1,1],sumF (fun _:Unit=>(hWq ws 0)) (fun _=>()) (fun _ K=>(bif (decide (ws.nh≤50)) then (bif (allN (fun i:Nat=>hdOk ws.n (ws.hd i)) ws.nh 0) then (K (.exit 2) ⟨[(1,.p 1 0)],[(1,.blk ((wP ws).map .v))]⟩) else (K .ret ⟨[(1,.p 1 0),(2,.v (.n .i64 3401))],[(1,.blk ((wP ws).map .v))]⟩)) else none))),([0,1,0,1,1,1,1,1],sumF (fun _:Unit=>(hWr ws 0)) (fun _=>()) (fun _ K=>(bif (decide (ws.ng≤50)) then (bif (allN (fun i:Nat=>grOk ws (ws.gr i)) ws.ng 0) then (K (.exit 4) ⟨[(1,.p 1 0)],[(1,.blk ((wP ws).map .v))]⟩) else (K .ret ⟨[(1,.p 1 0),(2,.v (.n .i64 3401))],[(1,.blk ((wP ws).map .v))]⟩)) else none))),([0,1,0,1,1,1,1,1,1,1],sumF (fun _:Unit=>(hWo ws 0 (ws.c:Int))) (fun _=>()) (fun _ K=>(bif gP (ws.no≤50∧okW ws) then (bif obA ws then (K (.exit 6) ⟨[(9,.v (.n .i64 (cntF ws ws.no)))],[]⟩) else (K .ret ⟨[(2,.v (.n .i64 3402)),(9,.v (.n .i64 (cntF ws (Rx.firstK (fun j:Nat=>obG ws j) ws.no 0))))],[]⟩)) else none)))]
set_option maxRecDepth 100000 in
theorem xXH (ws:Wsp):qYU Tf (orWp ws) (qZ (kKW ws)) 60 17 [.a (wP ws)] =
 (bif (gF1 crc_ erc_ (ws.js,ws.ms,ws.sh,ws.sk,ws.n,ws.m,ws.c,ws.d)) then (bif (!decide ((sErr ws.js ws.ms ws.sh ws.sk ws.n ws.m ws.c ws.d)=0)) then some (.v (.n .i64 (sErr ws.js ws.ms ws.sh ws.sk ws.n ws.m ws.c ws.d)),[])
 else (bif (decide (6 < (ws.no:Int))) then some (.v (.n .i64 3401),[])
 else (bif (decide (8 < (ws.np:Int))) then some (.v (.n .i64 3401),[])
 else (bif (decide (3 < (ws.nh:Int))) then some (.v (.n .i64 3401),[])
 else (bif (decide (32 < (ws.ng:Int))) then some (.v (.n .i64 3401),[])
 else (bif (decide (ws.slack < 0)) then some (.v (.n .i64 3401),[])
 else (bif (decide (65536 < ws.slack)) then some (.v (.n .i64 3401),[])
 else (bif (gSt (hWp ws 0) (hWp ws 0)) then (bif (decide (ws.np≤50)) then (bif (allN (fun i:Nat=>zOk 2097152 (ws.pl i)) ws.np 0) then (bif (gSt (hWq ws 0) (hWq ws 0)) then (bif (decide (ws.nh≤50)) then (bif (allN (fun i:Nat=>hdOk ws.n (ws.hd i)) ws.nh 0) then (bif (gSt (hWr ws 0) (hWr ws 0)) then (bif (decide (ws.ng≤50)) then (bif (allN (fun i:Nat=>grOk ws (ws.gr i)) ws.ng 0) then (bif (gSt (hWo ws 0 (ws.c:Int)) (hWo ws 0 (ws.c:Int))) then (bif gP (ws.no≤50∧okW ws) then (bif (obA ws) then (bif (decide (24 < (cntF ws ws.no))) then some (.v (.n .i64 3401),[])
 else some (.v (.n .i64 0),[]))
 else some (.v (.n .i64 3402),[]))
 else none)
 else none)
 else some (.v (.n .i64 3401),[]))
 else none)
 else none)
 else some (.v (.n .i64 3401),[]))
 else none)
 else none)
 else some (.v (.n .i64 3401),[]))
 else none)
 else none))))))))
 else none):=by kernel_rfl
theorem kHF (ws:Wsp) (ho:okW ws):yK Tryz.prog 17 [.a (wP ws)] (.v (.n .i64 (wErr ws))):=by
 refine yQ (N:=60) (LO:=qZ (kKW ws)) kX zW (uK (l:=[(56,uJI),(57,o_nq),(58,o_ri),(59,o_ob)]) (m:=[]) ⟨uHH,uHC,uHG,xGK,trivial⟩ trivial) (fun p S hp => ?_) ?_
 ·refine zG (L:=qQ Tf 17) (l:=(kKW ws)) (show AllP _ (kKW ws) from ⟨?_,?_,?_,?_,trivial⟩) p S hp
  ·dsimp only;refine kZ (T:=Tf) (o:=(orWp ws)) (f:=17) (LO:=qZ []) (p:=[0,1,0,1,1,1]) kW ?_;intro t K r hr;obtain ⟨hg,hr⟩:=qY hr;have hk:=vJZ hg;exact (lpWp K ws hk).trans hr
  ·dsimp only;refine kZ (T:=Tf) (o:=(orWp ws)) (f:=17) (LO:=qZ []) (p:=[0,1,0,1,1,1,1]) kW ?_;intro t K r hr;obtain ⟨hg,hr⟩:=qY hr;have hk:=vJZ hg;exact (lpWq K ws hk).trans hr
  ·dsimp only;refine kZ (T:=Tf) (o:=(orWp ws)) (f:=17) (LO:=qZ []) (p:=[0,1,0,1,1,1,1,1]) kW ?_;intro t K r hr;obtain ⟨hg,hr⟩:=qY hr;have hk:=vJZ hg;exact (lpWr K ws hk).trans hr
  ·dsimp only;refine kZ (T:=Tf) (o:=(orWp ws)) (f:=17) (LO:=(qZ [([0,1,0,1,0,0,1,0,0,1,0,1,1,1,1,1,1,1],sumF (fun t:Int × Nat=>(hWi ws t.1 ((t.2:Nat):Int) 0)) (fun σ=>(slI σ 9,(slI σ 10).toNat)) (fun t K=>(bif (decide (t.2 < ws.no∧ws.no≤50)) then (bif (allN (fun k:Nat => !((ws.ob k).name.toList == (ws.ob t.2).name.toList)) t.2 0) then (K (.exit 8) ⟨[(1,.p 1 0),(9,.v (.n .i64 t.1)),(10,.v (.n .i64 t.2))],[(1,.blk ((wP ws).map .v))]⟩) else (K .ret ⟨[(1,.p 1 0),(2,.v (.n .i64 3402)),(9,.v (.n .i64 t.1)),(10,.v (.n .i64 t.2))],[(1,.blk ((wP ws).map .v))]⟩)) else none)))])) (p:=[0,1,0,1,1,1,1,1,1,1]) (okWi ws) ?_;intro t K r hr;obtain ⟨hg,hr⟩:=qY hr
   skip
   exact (lpWo K ws (jH hg).1 (jH hg).2).trans hr
 ·refine (xXH ws).trans ?_;unfold wErr;rw [kV (C:=crc_) (t:=(ws.js,ws.ms,ws.sh,ws.sk,ws.n,ws.m,ws.c,ws.d)) trivial];show (bif true then (bif !decide (sEW ws=0) then some (Ret.v (.n .i64 (sEW ws)),([]:Mem)) else _) else none)=_;by_cases h:sEW ws=0
  ·rw [vJQ h];unfold fiB szG plG hdG grG;by_cases h1:6 < (ws.no:Int)
   ·rw [vJQ h1]; rfl
   by_cases h2:8 < (ws.np:Int)
   ·rw [vYH h1,vJQ h2]; rfl
   by_cases h3:3 < (ws.nh:Int)
   ·rw [vYH h1,vYH h2,vJQ h3]; rfl
   by_cases h4:32 < (ws.ng:Int)
   ·rw [vYH h1,vYH h2,vYH h3,vJQ h4]; rfl
   rw [vYH h1,vYH h2,vYH h3,vYH h4];simp only [yU,vJQ (show ws.np≤50 by omega),vJQ (show ws.nh≤50 by omega),vJQ (show ws.ng≤50 by omega),qVD (show ws.no≤50∧okW ws from ⟨by omega,ho⟩),vYV];cases decide (ws.slack < 0) with
   | true=>rfl
   | false =>
    cases decide (65536 < ws.slack) with
    | true=>rfl
    | false =>
     cases allN (fun i:Nat=>zOk 2097152 (ws.pl i)) ws.np 0 with
     | false=>rfl
     | true =>
      cases allN (fun i:Nat=>hdOk ws.n (ws.hd i)) ws.nh 0 with
      | false=>rfl
      | true =>
       cases allN (fun i:Nat=>grOk ws (ws.gr i)) ws.ng 0 with
       | false=>rfl
       | true =>
        cases obA ws with
        | false=>rfl
        | true =>
         cases decide (24 < cntF ws ws.no) <;> rfl
  ·rw [vYH h]; rfl
def crw:Wsp→Prop:=fun t=>match t with | ws=>okW ws
def erw:Wsp→List PV:=fun t=>match t with | ws=>[.a (wP ws)]
noncomputable def rrw:Wsp→Ret:=fun t=>match t with | ws=>.v (.n .i64 (wErr ws))
def drw:List PV→Wsp:=fun ps=>match ps with
 | [.a r]=>unW r
 | _=>(unW [])
noncomputable def o_rw:List PV→Option (Bool × Ret):=o_fm drw crw erw rrw
theorem xVL:zJ Tryz.prog 17 o_rw:=qYX fun t h=>by
 revert h; revert t; intro ws h
 exact kHF ws h
end Go.Proofs.YtgmbkkkbfbocnaaGreat.Hd
namespace Go.Rx
open Go.RowKit Go.Sx
theorem jJD {P:Program} {f:Nat} {r:Ret} (h1:yK P f [.nz] r) (h2:yK P f [.ne] r):yK P f [.l []] r:=by
 refine ⟨h1.1,fun w F vals hF hal => ?_⟩;obtain ⟨v,vs,rfl,hv,ha⟩:=qKV hal;obtain rfl:=zJC ha;cases hv with
 | l0 ad c =>
  cases ad with
  | none=>exact h1.2 w F _ hF (qZF (.nz c) qGQ)
  | some a=>exact h2.2 w F _ hF (qZF (.ne a c) qGQ)
 | l _ b off n c sz g hn => 
  subst hn;exact h2.2 w F _ hF (qZF (.ne _ c) qGQ)
end Go.Rx

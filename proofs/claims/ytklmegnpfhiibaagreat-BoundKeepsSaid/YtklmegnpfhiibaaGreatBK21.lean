/- Part 21 of the texts behind the last one: rules and contracts. No condition. -/
import Derived.Test.YtklmegnpfhiibaaGreatBK20
open Option.some renaming injEq → vQZ
open Prod.mk renaming injEq → vQY
open Bool renaming and_eq_true → vQJ, and_self → vZQ, true_and → vZW
open Go.IntKind renaming wrap → vYW
namespace Go.Proofs.YtklmegnpfhiibaaGreat.Xb
open Go.Rx Rt Go.Sx Go.RowKit Od Na Nb Nc
theorem zYL {js:Nat→J} {ms:Nat→Ms} {n m:Nat} (h:rErr js ms n m=0):1≤n∧n≤10:=by
 unfold rErr at h;by_cases h0:(n:Int)=0
 ·rw [vYK h0] at h; cases h
 by_cases h1:10 < (n:Int)
 ·rw [vYJ h0,vYK h1] at h; cases h
 omega
def hEq (js:Nat→J) (q:Nat→Int) (n k:Nat) (i:Int):St:=⟨[(1,.v (.lf k (fQ q))),(2,.v (.f 64 [] [])),(14,.v (.lf n (fJ js))),(15,.v (.n .i64 (n:Int))),(16,.v (.n .i64 i))],[]⟩
set_option maxRecDepth 100000 in
theorem rdEq (G:St→Option (Ret × Mem)) (K:Cont) (js:Nat→J) (q:Nat→Int) (n k:Nat) (i:Int):zWJ 60 (cxF T (OrL.k ([]:OrL)) 60 63 (ntmF T 63)) (ckF T (OrL.k ([]:OrL)) 60) (qZ T 63 [0,1,0,1,1]) ((cxF T (OrL.k ([]:OrL)) 60 63 (ntmF T 63)).T.hint (cxF T (OrL.k ([]:OrL)) 60 63 (ntmF T 63)).me (zZ (qZ T 63 [0,1,0,1,1]))) K G (hEq js q n k i) =
 (bif (decide (i < (n:Int))) then (bif (inB i n) then (bif (inB i k) then (bif (decide ((js (i).toNat).lo≤(q (i).toNat))) then (bif (decide ((q (i).toNat)≤(js (i).toNat).hi)) then (G (hEq js q n k (vYW .i64 (i + 1))))
 else (K .ret ⟨[(6,.v (.b false))],[]⟩))
 else (K .ret ⟨[(6,.v (.b false))],[]⟩))
 else none)
 else none)
 else (K (.exit 0) ⟨[],[]⟩)):=by kernel_rfl
theorem lpEq (K:Cont) (js:Nat→J) (q:Nat→Int) (n k:Nat) (_:n≤50) (_:n=k):LF 60 (cxF T (OrL.k ([]:OrL)) 60 63 (ntmF T 63)) (ckF T (OrL.k ([]:OrL)) 60) (qZ T 63 [0,1,0,1,1]) ((cxF T (OrL.k ([]:OrL)) 60 63 (ntmF T 63)).T.hint (cxF T (OrL.k ([]:OrL)) 60 63 (ntmF T 63)).me (zZ (qZ T 63 [0,1,0,1,1]))) K 60 (hEq js q n k 0)=bif (allN (fun i:Nat=>decide ((js i).lo≤q i) && decide (q i≤(js i).hi)) n 0) then (K (.exit 0) ⟨[],[]⟩) else (K .ret ⟨[(6,.v (.b false))],[]⟩):=by
 refine (zXG (c:=n) (hEq js q n k) (fun i:Nat=>decide ((js i).lo≤q i) && decide (q i≤(js i).hi)) (K (.exit 0) ⟨[],[]⟩) (fun i:Nat=>(K .ret ⟨[(6,.v (.b false))],[]⟩)) (fun G i hi => ?_) (fun G => ?_) n 0 60 (by omega) (by omega)).trans (qQA _ _ _ _ _)
 ·refine (rdEq G K js q n k i).trans ?_;rw [vYK (show (i:Int) < (n:Int) by omega),jG (by omega),zU (show i < n by omega),zU (show i < k by omega),toN];cases decide ((js i).lo≤q i) <;> cases decide (q i≤(js i).hi) <;> rfl
 ·refine (rdEq G K js q n k n).trans ?_;rw [vYJ (show ¬ (n:Int) < (n:Int) by omega)];rfl
def insQ (js:Nat→J) (q:Nat→Int) (n k:Nat):Bool:=decide ((n:Int)=(k:Int)) && (allN (fun i:Nat=>decide ((js i).lo≤q i) && decide (q i≤(js i).hi)) n 0)
set_option maxRecDepth 100000 in
theorem pxeveryQ (js:Nat→J) (q:Nat→Int) (n k:Nat):qWK T (OrL.k ([]:OrL)) (qY [([0,1,0,1,1],kW (hEq js q n k 0) (fun K=>(bif (decide ((n:Int)=(k:Int)) && decide (n≤50)) then (bif (allN (fun i:Nat=>decide ((js i).lo≤q i) && decide (q i≤(js i).hi)) n 0) then (K (.exit 0) ⟨[],[]⟩) else (K .ret ⟨[(6,.v (.b false))],[]⟩)) else none)))]) 60 63 [.lf n (fJ js),.lf k (fQ q),.f 64 [] []] =
 (bif (!decide ((n:Int)=(k:Int))) then some (.v (.b false),[])
 else (bif (gSt (hEq js q n k 0) (hEq js q n k 0)) then (bif (decide ((n:Int)=(k:Int)) && decide (n≤50)) then (bif (allN (fun i:Nat=>decide ((js i).lo≤q i) && decide (q i≤(js i).hi)) n 0) then some (.v (.b true),[])
 else some (.v (.b false),[]))
 else none)
 else none)):=by kernel_rfl
theorem snd_everyQ (js:Nat→J) (q:Nat→Int) (n k:Nat) (hn:n≤50):zY Tryz.prog 63 [.lf n (fJ js),.lf k (fQ q),.f 64 [] []] (.v (.b (insQ js q n k))):=by
 refine uY (N:=60) (LO:=qY [([0,1,0,1,1],kW (hEq js q n k 0) (fun K=>(bif (decide ((n:Int)=(k:Int)) && decide (n≤50)) then (bif (allN (fun i:Nat=>decide ((js i).lo≤q i) && decide (q i≤(js i).hi)) n 0) then (K (.exit 0) ⟨[],[]⟩) else (K .ret ⟨[(6,.v (.b false))],[]⟩)) else none)))]) qZF yH (OrL.ok (l:=([]:OrL)) trivial) (fun p S hp => ?_) ?_
 ·refine qQV (L:=qZ T 63) (l:=[([0,1,0,1,1],kW (hEq js q n k 0) (fun K=>(bif (decide ((n:Int)=(k:Int)) && decide (n≤50)) then (bif (allN (fun i:Nat=>decide ((js i).lo≤q i) && decide (q i≤(js i).hi)) n 0) then (K (.exit 0) ⟨[],[]⟩) else (K .ret ⟨[(6,.v (.b false))],[]⟩)) else none)))]) (show AllP _ [([0,1,0,1,1],kW (hEq js q n k 0) (fun K=>(bif (decide ((n:Int)=(k:Int)) && decide (n≤50)) then (bif (allN (fun i:Nat=>decide ((js i).lo≤q i) && decide (q i≤(js i).hi)) n 0) then (K (.exit 0) ⟨[],[]⟩) else (K .ret ⟨[(6,.v (.b false))],[]⟩)) else none)))] from ⟨qYZ fun K r hr => ?_,trivial⟩) p S hp
  ·obtain ⟨hg,hr⟩:=qQ hr;rw [vQJ] at hg;have hn:=vYU hg.2;have hk:n=k:=by have:=vYU hg.1; omega
   exact (lpEq K js q n k hn hk).trans hr
 ·refine (pxeveryQ js q n k).trans ?_;unfold insQ;rw [zW,vYK hn];cases decide ((n:Int)=(k:Int)) <;> cases (allN (fun i:Nat=>decide ((js i).lo≤q i) && decide (q i≤(js i).hi)) n 0) <;> rfl
def qIn (js:Nat→J) (ms:Nat→Ms) (q:Nat→Int) (n m k:Nat):Bool:=decide (rErr js ms n m=0) && insQ js q n k
theorem snd_qIn (js:Nat→J) (ms:Nat→Ms) (q:Nat→Int) (n m k:Nat):zY Tryz.prog 32 [.a [.lf n (fJ js),.lf m (fM ms)],.lf k (fQ q)] (.v (.b (qIn js ms q n m k))):=by
 refine jJ (N:=60) qZF yH (OrL.ok (l:=[(31,o_cr [.a [.lf n (fJ js),.lf m (fM ms)]] (.v (.n .i64 (rErr js ms n m)))),(63,o_lk [.lf n (fJ js),.lf k (fQ q),.f 64 [] []] (decide (n≤50)) (.v (.b (insQ js q n k))))]) ⟨qWW (zJE js ms n m),zHH (fun h=>snd_everyQ js q n k (vYU h)),trivial⟩) ?_;refine (by kernel_rfl:_=bif (g1 [.a [.lf n (fJ js),.lf m (fM ms)]]) then (bif (decide ((rErr js ms n m)=0)) then (bif (g1 [.lf n (fJ js),.lf k (fQ q),.f 64 [] []] && decide (n≤50)) then (bif (insQ js q n k) then some (.v (.b true),[])
 else some (.v (.b false),[]))
 else none)
 else some (.v (.b false),[]))
 else none).trans ?_
 unfold qIn;rw [g1_t,g1_t];by_cases h:rErr js ms n m=0
 ·have:=zYL h
  rw [vYK h,vYK (show n≤50 by omega)];cases insQ js q n k <;> rfl
 ·rw [vYJ h]; rfl
def hRi (js:Nat→J) (ms:Nat→Ms) (q:Nat→Int) (n m k:Nat) (i:Int):St:=⟨[(1,.v (.lf k (fQ q))),(2,.p 2 0),(5,.v (.n .i64 i))],[(2,.blk [.v (.lf n (fJ js)),.v (.lf m (fM ms))])]⟩
set_option maxRecDepth 100000 in
theorem rdRi (G:St→Option (Ret × Mem)) (K:Cont) (js:Nat→J) (ms:Nat→Ms) (q:Nat→Int) (n m k:Nat) (i:Int):zWJ 60 (cxF T (OrL.k [(28,o_cr [.a [.lf n (fJ js),.lf m (fM ms)]] (.v (.n .i64 (rErr js ms n m))))]) 60 34 (ntmF T 34)) (ckF T (OrL.k [(28,o_cr [.a [.lf n (fJ js),.lf m (fM ms)]] (.v (.n .i64 (rErr js ms n m))))]) 60) (qZ T 34 [0,1,0,1,1]) ((cxF T (OrL.k [(28,o_cr [.a [.lf n (fJ js),.lf m (fM ms)]] (.v (.n .i64 (rErr js ms n m))))]) 60 34 (ntmF T 34)).T.hint (cxF T (OrL.k [(28,o_cr [.a [.lf n (fJ js),.lf m (fM ms)]] (.v (.n .i64 (rErr js ms n m))))]) 60 34 (ntmF T 34)).me (zZ (qZ T 34 [0,1,0,1,1]))) K G (hRi js ms q n m k i) =
 (bif (decide (i < (k:Int))) then (bif (inB i k) then (bif (inB i n) then (bif (decide ((q (i).toNat) < (js (i).toNat).lo)) then (K .ret ⟨[(4,.v (.b false))],[]⟩)
 else (bif (inB i k) then (bif (inB i n) then (bif (decide ((js (i).toNat).hi < (q (i).toNat))) then (K .ret ⟨[(4,.v (.b false))],[]⟩)
 else (G (hRi js ms q n m k (vYW .i64 (i + 1)))))
 else none)
 else none))
 else none)
 else none)
 else (K (.exit 0) ⟨[],[]⟩)):=by kernel_rfl
theorem lpRi (K:Cont) (js:Nat→J) (ms:Nat→Ms) (q:Nat→Int) (n m k:Nat) (_:k≤50) (_:n=k):LF 60 (cxF T (OrL.k [(28,o_cr [.a [.lf n (fJ js),.lf m (fM ms)]] (.v (.n .i64 (rErr js ms n m))))]) 60 34 (ntmF T 34)) (ckF T (OrL.k [(28,o_cr [.a [.lf n (fJ js),.lf m (fM ms)]] (.v (.n .i64 (rErr js ms n m))))]) 60) (qZ T 34 [0,1,0,1,1]) ((cxF T (OrL.k [(28,o_cr [.a [.lf n (fJ js),.lf m (fM ms)]] (.v (.n .i64 (rErr js ms n m))))]) 60 34 (ntmF T 34)).T.hint (cxF T (OrL.k [(28,o_cr [.a [.lf n (fJ js),.lf m (fM ms)]] (.v (.n .i64 (rErr js ms n m))))]) 60 34 (ntmF T 34)).me (zZ (qZ T 34 [0,1,0,1,1]))) K 60 (hRi js ms q n m k 0)=bif (allN (fun i:Nat => !decide (q i < (js i).lo) && !decide ((js i).hi < q i)) k 0) then (K (.exit 0) ⟨[],[]⟩) else (K .ret ⟨[(4,.v (.b false))],[]⟩):=by
 refine (zXG (c:=k) (hRi js ms q n m k) (fun i:Nat => !decide (q i < (js i).lo) && !decide ((js i).hi < q i)) (K (.exit 0) ⟨[],[]⟩) (fun i:Nat=>(K .ret ⟨[(4,.v (.b false))],[]⟩)) (fun G i hi => ?_) (fun G => ?_) k 0 60 (by omega) (by omega)).trans (qQA _ _ _ _ _)
 ·refine (rdRi G K js ms q n m k i).trans ?_;rw [vYK (show (i:Int) < (k:Int) by omega),jG (by omega),zU (show i < k by omega),zU (show i < n by omega),toN];cases decide (q i < (js i).lo) <;> cases decide ((js i).hi < q i) <;> rfl
 ·refine (rdRi G K js ms q n m k k).trans ?_;rw [vYJ (show ¬ (k:Int) < (k:Int) by omega)];rfl
def rqIn (js:Nat→J) (ms:Nat→Ms) (q:Nat→Int) (n m k:Nat):Bool:=decide (rErr js ms n m=0) && (decide ((k:Int)=(n:Int)) && (allN (fun i:Nat => !decide (q i < (js i).lo) && !decide ((js i).hi < q i)) k 0))
set_option maxRecDepth 100000 in
theorem pxrqIn0 (js:Nat→J) (ms:Nat→Ms) (q:Nat→Int) (n m k:Nat):qWK T (OrL.k [(28,o_cr [.a [.lf n (fJ js),.lf m (fM ms)]] (.v (.n .i64 (rErr js ms n m))))]) (qY [([0,1,0,1,1],kW (hRi js ms q n m k 0) (fun K=>(bif (decide (k≤50) && decide (n=k)) then (bif (allN (fun i:Nat => !decide (q i < (js i).lo) && !decide ((js i).hi < q i)) k 0) then (K (.exit 0) ⟨[],[]⟩) else (K .ret ⟨[(4,.v (.b false))],[]⟩)) else none)))]) 60 34 [.a [.lf n (fJ js),.lf m (fM ms)],.lf k (fQ q)] =
 (bif (g1 [.a [.lf n (fJ js),.lf m (fM ms)]]) then (bif (!decide ((rErr js ms n m)=0)) then some (.v (.b false),[])
 else (bif (!decide ((k:Int)=(n:Int))) then some (.v (.b false),[])
 else (bif (gSt (hRi js ms q n m k 0) (hRi js ms q n m k 0)) then (bif (decide (k≤50) && decide (n=k)) then (bif (allN (fun i:Nat => !decide (q i < (js i).lo) && !decide ((js i).hi < q i)) k 0) then some (.v (.b true),[])
 else some (.v (.b false),[]))
 else none)
 else none)))
 else none):=by kernel_rfl
theorem snd_rqIn0 (js:Nat→J) (ms:Nat→Ms) (q:Nat→Int) (n m k:Nat):zY Tryz.prog 34 [.a [.lf n (fJ js),.lf m (fM ms)],.lf k (fQ q)] (.v (.b (rqIn js ms q n m k))):=by
 refine uY (N:=60) (LO:=qY [([0,1,0,1,1],kW (hRi js ms q n m k 0) (fun K=>(bif (decide (k≤50) && decide (n=k)) then (bif (allN (fun i:Nat => !decide (q i < (js i).lo) && !decide ((js i).hi < q i)) k 0) then (K (.exit 0) ⟨[],[]⟩) else (K .ret ⟨[(4,.v (.b false))],[]⟩)) else none)))]) qZF yH (OrL.ok (l:=[(28,o_cr [.a [.lf n (fJ js),.lf m (fM ms)]] (.v (.n .i64 (rErr js ms n m))))]) ⟨qWW (zWK js ms n m),trivial⟩) (fun p S hp => ?_) ?_
 ·refine qQV (L:=qZ T 34) (l:=[([0,1,0,1,1],kW (hRi js ms q n m k 0) (fun K=>(bif (decide (k≤50) && decide (n=k)) then (bif (allN (fun i:Nat => !decide (q i < (js i).lo) && !decide ((js i).hi < q i)) k 0) then (K (.exit 0) ⟨[],[]⟩) else (K .ret ⟨[(4,.v (.b false))],[]⟩)) else none)))]) (show AllP _ [([0,1,0,1,1],kW (hRi js ms q n m k 0) (fun K=>(bif (decide (k≤50) && decide (n=k)) then (bif (allN (fun i:Nat => !decide (q i < (js i).lo) && !decide ((js i).hi < q i)) k 0) then (K (.exit 0) ⟨[],[]⟩) else (K .ret ⟨[(4,.v (.b false))],[]⟩)) else none)))] from ⟨qYZ fun K r hr => ?_,trivial⟩) p S hp
  ·obtain ⟨hg,hr⟩:=qQ hr;rw [vQJ] at hg;have hk:=vYU hg.1;have hn:=vYU hg.2;exact (lpRi K js ms q n m k hk hn).trans hr
 ·refine (pxrqIn0 js ms q n m k).trans ?_;unfold rqIn;rw [g1_t];by_cases h:rErr js ms n m=0
  ·have:=zYL h
   rw [vYK h];by_cases e:k=n
   ·subst e;rw [zW,vYK (show k≤50 by omega),vYK (show k=k from rfl),vYK (show (k:Int)=(k:Int) from rfl)];cases (allN (fun i:Nat => !decide (q i < (js i).lo) && !decide ((js i).hi < q i)) k 0) <;> rfl
   ·rw [vYJ (show ¬ (k:Int)=(n:Int) by omega)];rfl
  ·rw [vYJ h]; rfl
theorem nlt (a b:Int):(!decide (a < b))=decide (b≤a):=by by_cases h:a < b <;> simp [h] <;> omega
theorem rqIn_eq (js:Nat→J) (ms:Nat→Ms) (q:Nat→Int) (n m k:Nat):rqIn js ms q n m k=qIn js ms q n m k:=by
 unfold rqIn qIn insQ;by_cases e:n=k
 ·subst e;simp only [nlt]
 ·rw [vYJ (show ¬ (n:Int)=(k:Int) by omega),vYJ (show ¬ (k:Int)=(n:Int) by omega)]; rfl
theorem snd_rqIn (js:Nat→J) (ms:Nat→Ms) (q:Nat→Int) (n m k:Nat):zY Tryz.prog 34 [.a [.lf n (fJ js),.lf m (fM ms)],.lf k (fQ q)] (.v (.b (qIn js ms q n m k))):=by
 have h:=snd_rqIn0 js ms q n m k;rw [rqIn_eq] at h;exact h
def hSx (q:Nat→Int) (k:Nat) (i:Int):St:=⟨[(0,.v (.lf k (fQ q))),(1,.v (.f 95 [] [])),(7,.v (.n .i64 (k:Int))),(8,.v (.n .i64 i))],[]⟩
set_option maxRecDepth 100000 in
theorem rdSx (G:St→Option (Ret × Mem)) (K:Cont) (q:Nat→Int) (k:Nat) (i:Int):zWJ 60 (cxF T (OrL.k ([]:OrL)) 60 120 (ntmF T 120)) (ckF T (OrL.k ([]:OrL)) 60) (qZ T 120 [0,1,0,1]) ((cxF T (OrL.k ([]:OrL)) 60 120 (ntmF T 120)).T.hint (cxF T (OrL.k ([]:OrL)) 60 120 (ntmF T 120)).me (zZ (qZ T 120 [0,1,0,1]))) K G (hSx q k i) =
 (bif (decide (i < (k:Int))) then (bif (inB i k) then (bif (decide ((q (i).toNat) < (-2147483648))) then (K .ret ⟨[(4,.v (.n .i64 i))],[]⟩)
 else (bif (decide (2147483648 < (q (i).toNat))) then (K .ret ⟨[(4,.v (.n .i64 i))],[]⟩)
 else (G (hSx q k (vYW .i64 (i + 1))))))
 else none)
 else (K (.exit 0) ⟨[],[]⟩)):=by kernel_rfl
theorem lpSx (K:Cont) (q:Nat→Int) (k:Nat) (_:k≤50):LF 60 (cxF T (OrL.k ([]:OrL)) 60 120 (ntmF T 120)) (ckF T (OrL.k ([]:OrL)) 60) (qZ T 120 [0,1,0,1]) ((cxF T (OrL.k ([]:OrL)) 60 120 (ntmF T 120)).T.hint (cxF T (OrL.k ([]:OrL)) 60 120 (ntmF T 120)).me (zZ (qZ T 120 [0,1,0,1]))) K 60 (hSx q k 0)=bif (allN (fun i:Nat => !decide (q i < -2147483648) && !decide (2147483648 < q i)) k 0) then (K (.exit 0) ⟨[],[]⟩) else (K .ret ⟨[(4,.v (.n .i64 ((Rx.firstK (fun i:Nat => !decide (q i < -2147483648) && !decide (2147483648 < q i)) k 0:Nat):Int)))],[]⟩):=by
 refine (zXG (c:=k) (hSx q k) (fun i:Nat => !decide (q i < -2147483648) && !decide (2147483648 < q i)) (K (.exit 0) ⟨[],[]⟩) (fun i:Nat=>(K .ret ⟨[(4,.v (.n .i64 (i:Int)))],[]⟩)) (fun G i hi => ?_) (fun G => ?_) k 0 60 (by omega) (by omega)).trans (runAll_first _ _ _ _ _)
 ·refine (rdSx G K q k i).trans ?_;rw [vYK (show (i:Int) < (k:Int) by omega),jG (by omega),zU (show i < k by omega),toN];cases decide (q i < -2147483648) <;> cases decide (2147483648 < q i) <;> rfl
 ·refine (rdSx G K q k k).trans ?_;rw [vYJ (show ¬ (k:Int) < (k:Int) by omega)];rfl
def smQ (q:Nat→Int) (k:Nat):Bool:=(allN (fun i:Nat => !decide (q i < -2147483648) && !decide (2147483648 < q i)) k 0)
set_option maxRecDepth 100000 in
theorem pxsidx (q:Nat→Int) (k:Nat):qWK T (OrL.k ([]:OrL)) (qY [([0,1,0,1],kW (hSx q k 0) (fun K=>(bif (decide (k≤50)) then (bif (allN (fun i:Nat => !decide (q i < -2147483648) && !decide (2147483648 < q i)) k 0) then (K (.exit 0) ⟨[],[]⟩) else (K .ret ⟨[(4,.v (.n .i64 ((Rx.firstK (fun i:Nat => !decide (q i < -2147483648) && !decide (2147483648 < q i)) k 0:Nat):Int)))],[]⟩)) else none)))]) 60 120 [.lf k (fQ q),.f 95 [] []] =
 (bif (gSt (hSx q k 0) (hSx q k 0)) then (bif (decide (k≤50)) then (bif (allN (fun i:Nat => !decide (q i < -2147483648) && !decide (2147483648 < q i)) k 0) then some (.v (.n .i64 (-1)),[])
 else some (.v (.n .i64 ((Rx.firstK (fun i:Nat => !decide (q i < -2147483648) && !decide (2147483648 < q i)) k 0:Nat):Int)),[]))
 else none)
 else none):=by kernel_rfl
theorem snd_sidx (q:Nat→Int) (k:Nat) (hk:k≤50):zY Tryz.prog 120 [.lf k (fQ q),.f 95 [] []] (.v (.n .i64 (bif smQ q k then -1 else ((Rx.firstK (fun i:Nat => !decide (q i < -2147483648) && !decide (2147483648 < q i)) k 0:Nat):Int)))):=by
 refine uY (N:=60) (LO:=qY [([0,1,0,1],kW (hSx q k 0) (fun K=>(bif (decide (k≤50)) then (bif (allN (fun i:Nat => !decide (q i < -2147483648) && !decide (2147483648 < q i)) k 0) then (K (.exit 0) ⟨[],[]⟩) else (K .ret ⟨[(4,.v (.n .i64 ((Rx.firstK (fun i:Nat => !decide (q i < -2147483648) && !decide (2147483648 < q i)) k 0:Nat):Int)))],[]⟩)) else none)))]) qZF yH (OrL.ok (l:=([]:OrL)) trivial) (fun p S hp => ?_) ?_
 ·refine qQV (L:=qZ T 120) (l:=[([0,1,0,1],kW (hSx q k 0) (fun K=>(bif (decide (k≤50)) then (bif (allN (fun i:Nat => !decide (q i < -2147483648) && !decide (2147483648 < q i)) k 0) then (K (.exit 0) ⟨[],[]⟩) else (K .ret ⟨[(4,.v (.n .i64 ((Rx.firstK (fun i:Nat => !decide (q i < -2147483648) && !decide (2147483648 < q i)) k 0:Nat):Int)))],[]⟩)) else none)))]) (show AllP _ [([0,1,0,1],kW (hSx q k 0) (fun K=>(bif (decide (k≤50)) then (bif (allN (fun i:Nat => !decide (q i < -2147483648) && !decide (2147483648 < q i)) k 0) then (K (.exit 0) ⟨[],[]⟩) else (K .ret ⟨[(4,.v (.n .i64 ((Rx.firstK (fun i:Nat => !decide (q i < -2147483648) && !decide (2147483648 < q i)) k 0:Nat):Int)))],[]⟩)) else none)))] from ⟨qYZ fun K r hr => ?_,trivial⟩) p S hp
  ·obtain ⟨hg,hr⟩:=qQ hr;have hk:=vYU hg;exact (lpSx K q k hk).trans hr
 ·refine (pxsidx q k).trans ?_;unfold smQ;rw [zW,vYK hk];cases (allN (fun i:Nat => !decide (q i < -2147483648) && !decide (2147483648 < q i)) k 0) <;> rfl
theorem snd_scon (q:Nat→Int) (k:Nat) (hk:k≤50):zY Tryz.prog 94 [.lf k (fQ q),.f 95 [] []] (.v (.b (!smQ q k))):=by
 refine jJ (N:=60) qZF yH (OrL.ok (l:=[(120,o_cr [.lf k (fQ q),.f 95 [] []] (.v (.n .i64 (bif smQ q k then -1 else ((Rx.firstK (fun i:Nat => !decide (q i < -2147483648) && !decide (2147483648 < q i)) k 0:Nat):Int)))))]) ⟨qWW (snd_sidx q k hk),trivial⟩) ?_;refine (by kernel_rfl:_=bif (g1 [.lf k (fQ q),.f 95 [] []]) then (bif (decide (0≤(bif smQ q k then -1 else ((Rx.firstK (fun i:Nat => !decide (q i < -2147483648) && !decide (2147483648 < q i)) k 0:Nat):Int)))) then some (.v (.b true),[])
 else some (.v (.b false),[]))
 else none).trans ?_
 rw [g1_t];cases smQ q k with
 | true=>rfl
 | false =>
  rw [vYY,vYK (show 0≤((Rx.firstK (fun i:Nat => !decide (q i < -2147483648) && !decide (2147483648 < q i)) k 0:Nat):Int) by omega)];rfl
theorem snd_sm (q:Nat→Int) (k:Nat) (hk:k≤50):zY Tryz.prog 65 [.lf k (fQ q)] (.v (.b (smQ q k))):=by
 refine jJ (N:=60) qZF yH (OrL.ok (l:=[(94,o_cr [.lf k (fQ q),.f 95 [] []] (.v (.b (!smQ q k))))]) ⟨qWW (snd_scon q k hk),trivial⟩) ?_;refine (by kernel_rfl:_=bif (g1 [.lf k (fQ q),.f 95 [] []]) then (bif (!smQ q k) then some (.v (.b false),[])
 else some (.v (.b true),[]))
 else none).trans ?_
 rw [g1_t];cases smQ q k <;> rfl
def hSr (q:Nat→Int) (k:Nat) (i:Int):St:=⟨[(0,.v (.lf k (fQ q))),(3,.v (.n .i64 i))],[]⟩
set_option maxRecDepth 100000 in
theorem rdSr (G:St→Option (Ret × Mem)) (K:Cont) (q:Nat→Int) (k:Nat) (i:Int):zWJ 60 (cxF T (OrL.k ([]:OrL)) 60 29 (ntmF T 29)) (ckF T (OrL.k ([]:OrL)) 60) (qZ T 29 [0,1,0,1]) ((cxF T (OrL.k ([]:OrL)) 60 29 (ntmF T 29)).T.hint (cxF T (OrL.k ([]:OrL)) 60 29 (ntmF T 29)).me (zZ (qZ T 29 [0,1,0,1]))) K G (hSr q k i) =
 (bif (decide (i < (k:Int))) then (bif (inB i k) then (bif (decide ((q (i).toNat) < (-2147483648))) then (K .ret ⟨[(2,.v (.b false))],[]⟩)
 else (bif (inB i k) then (bif (decide (2147483648 < (q (i).toNat))) then (K .ret ⟨[(2,.v (.b false))],[]⟩)
 else (G (hSr q k (vYW .i64 (i + 1)))))
 else none))
 else none)
 else (K (.exit 0) ⟨[],[]⟩)):=by kernel_rfl
theorem lpSr (K:Cont) (q:Nat→Int) (k:Nat) (_:k≤50):LF 60 (cxF T (OrL.k ([]:OrL)) 60 29 (ntmF T 29)) (ckF T (OrL.k ([]:OrL)) 60) (qZ T 29 [0,1,0,1]) ((cxF T (OrL.k ([]:OrL)) 60 29 (ntmF T 29)).T.hint (cxF T (OrL.k ([]:OrL)) 60 29 (ntmF T 29)).me (zZ (qZ T 29 [0,1,0,1]))) K 60 (hSr q k 0)=bif (allN (fun i:Nat => !decide (q i < -2147483648) && !decide (2147483648 < q i)) k 0) then (K (.exit 0) ⟨[],[]⟩) else (K .ret ⟨[(2,.v (.b false))],[]⟩):=by
 refine (zXG (c:=k) (hSr q k) (fun i:Nat => !decide (q i < -2147483648) && !decide (2147483648 < q i)) (K (.exit 0) ⟨[],[]⟩) (fun i:Nat=>(K .ret ⟨[(2,.v (.b false))],[]⟩)) (fun G i hi => ?_) (fun G => ?_) k 0 60 (by omega) (by omega)).trans (qQA _ _ _ _ _)
 ·refine (rdSr G K q k i).trans ?_;rw [vYK (show (i:Int) < (k:Int) by omega),jG (by omega),zU (show i < k by omega),toN];cases decide (q i < -2147483648) <;> cases decide (2147483648 < q i) <;> rfl
 ·refine (rdSr G K q k k).trans ?_;rw [vYJ (show ¬ (k:Int) < (k:Int) by omega)];rfl
set_option maxRecDepth 100000 in
theorem pxrsm (q:Nat→Int) (k:Nat):qWK T (OrL.k ([]:OrL)) (qY [([0,1,0,1],kW (hSr q k 0) (fun K=>(bif (decide (k≤50)) then (bif (allN (fun i:Nat => !decide (q i < -2147483648) && !decide (2147483648 < q i)) k 0) then (K (.exit 0) ⟨[],[]⟩) else (K .ret ⟨[(2,.v (.b false))],[]⟩)) else none)))]) 60 29 [.lf k (fQ q)] =
 (bif (gSt (hSr q k 0) (hSr q k 0)) then (bif (decide (k≤50)) then (bif (allN (fun i:Nat => !decide (q i < -2147483648) && !decide (2147483648 < q i)) k 0) then some (.v (.b true),[])
 else some (.v (.b false),[]))
 else none)
 else none):=by kernel_rfl
theorem snd_rsm (q:Nat→Int) (k:Nat) (hk:k≤50):zY Tryz.prog 29 [.lf k (fQ q)] (.v (.b (smQ q k))):=by
 refine uY (N:=60) (LO:=qY [([0,1,0,1],kW (hSr q k 0) (fun K=>(bif (decide (k≤50)) then (bif (allN (fun i:Nat => !decide (q i < -2147483648) && !decide (2147483648 < q i)) k 0) then (K (.exit 0) ⟨[],[]⟩) else (K .ret ⟨[(2,.v (.b false))],[]⟩)) else none)))]) qZF yH (OrL.ok (l:=([]:OrL)) trivial) (fun p S hp => ?_) ?_
 ·refine qQV (L:=qZ T 29) (l:=[([0,1,0,1],kW (hSr q k 0) (fun K=>(bif (decide (k≤50)) then (bif (allN (fun i:Nat => !decide (q i < -2147483648) && !decide (2147483648 < q i)) k 0) then (K (.exit 0) ⟨[],[]⟩) else (K .ret ⟨[(2,.v (.b false))],[]⟩)) else none)))]) (show AllP _ [([0,1,0,1],kW (hSr q k 0) (fun K=>(bif (decide (k≤50)) then (bif (allN (fun i:Nat => !decide (q i < -2147483648) && !decide (2147483648 < q i)) k 0) then (K (.exit 0) ⟨[],[]⟩) else (K .ret ⟨[(2,.v (.b false))],[]⟩)) else none)))] from ⟨qYZ fun K r hr => ?_,trivial⟩) p S hp
  ·obtain ⟨hg,hr⟩:=qQ hr;have hk:=vYU hg;exact (lpSr K q k hk).trans hr
 ·refine (pxrsm q k).trans ?_;unfold smQ;rw [zW,vYK hk];cases (allN (fun i:Nat => !decide (q i < -2147483648) && !decide (2147483648 < q i)) k 0) <;> rfl
noncomputable def zHA:List PV→Option (Bool × Ret):=fun ps=>match ps with
 | [.lf k f]=>some (decide (k≤50) && gFQ f,.v (.b (smQ (unFQ f) k)))
 | _=>none
theorem ok_smp:jH Tryz.prog 65 zHA:=by
 intro ps r hh;unfold zHA at hh;split at hh
 ·rename_i k f;simp only [vQZ,vQY,vQJ] at hh;obtain ⟨⟨hk,hf⟩,rfl⟩:=hh
  have:=snd_sm (unFQ f) k (vYU hk)
  rw [← gFQ_eq hf] at this;exact this
 ·cases hh
theorem ok_smr:jH Tryz.prog 29 zHA:=by
 intro ps r hh;unfold zHA at hh;split at hh
 ·rename_i k f;simp only [vQZ,vQY,vQJ] at hh;obtain ⟨⟨hk,hf⟩,rfl⟩:=hh
  have:=snd_rsm (unFQ f) k (vYU hk)
  rw [← gFQ_eq hf] at this;exact this
 ·cases hh
def dsS (js:Nat→J) (q u:Nat→Int) (n:Nat):Int:=qQL (fun (i:Nat) (s:Int)=>vYW .i64 (s + vYW .i64 ((js i).weight * max (vYW .i64 (u i - q i)) (vYW .i64 (q i - u i))))) n 0 0
def dsQ (js:Nat→J) (ms:Nat→Ms) (q u:Nat→Int) (n m k l:Nat):Int:=bif decide (rErr js ms n m=0) && decide (k=n) && decide (l=n) && smQ q k && smQ u l then dsS js q u n else 0
noncomputable def orDi (js:Nat→J) (ms:Nat→Ms) (q u:Nat→Int) (n m k l:Nat):OrL:=[(65,zHA),(31,o_cr [.a [.lf n (fJ js),.lf m (fM ms)]] (.v (.n .i64 (rErr js ms n m))))]
noncomputable def hDi (js:Nat→J) (ms:Nat→Ms) (q u:Nat→Int) (n m k l:Nat) (i:Int) (s:Int):St:=⟨[(1,.v (.lf k (fQ q))),(2,.v (.lf l (fQ u))),(8,.v (.n .i64 s)),(40,.v (.lf n (fJ js))),(41,.v (.n .i64 (n:Int))),(42,.v (.n .i64 i))],[]⟩
set_option maxRecDepth 100000 in
theorem rdDi (G:St→Option (Ret × Mem)) (K:Cont) (js:Nat→J) (ms:Nat→Ms) (q u:Nat→Int) (n m k l:Nat) (i:Int) (s:Int):zGA 60 (cxF Tf (OrL.k (orDi js ms q u n m k l)) 60 33 (ntmF Tf 33)) (ckF Tf (OrL.k (orDi js ms q u n m k l)) 60) (qY []) (qZ Tf 33 [0,1,0,1,1,1,1]) [0,1,0,1,1,1,1] (Tf.hint 33 (zZ (qZ Tf 33 [0,1,0,1,1,1,1]))) K G (hDi js ms q u n m k l i s) =
 (bif (decide (i < (n:Int))) then (bif (inB i n) then (bif (inB i l) then (bif (inB i k) then (bif (inB i k) then (bif (inB i l) then (G (hDi js ms q u n m k l (vYW .i64 (i + 1)) (vYW .i64 (s + (vYW .i64 ((js (i).toNat).weight * (max (vYW .i64 ((u (i).toNat) - (q (i).toNat))) (vYW .i64 ((q (i).toNat) - (u (i).toNat))))))))))
 else none)
 else none)
 else none)
 else none)
 else none)
 else (K (.exit 0) ⟨[(8,.v (.n .i64 s))],[]⟩)):=by kernel_rfl
theorem lpDi (K:Cont) (js:Nat→J) (ms:Nat→Ms) (q u:Nat→Int) (n m k l:Nat) (_:n≤10) (_:k=n) (_:l=n):LFL 60 (cxF Tf (OrL.k (orDi js ms q u n m k l)) 60 33 (ntmF Tf 33)) (ckF Tf (OrL.k (orDi js ms q u n m k l)) 60) (qY []) (qZ Tf 33 [0,1,0,1,1,1,1]) [0,1,0,1,1,1,1] (Tf.hint 33 (zZ (qZ Tf 33 [0,1,0,1,1,1,1]))) K 60 (hDi js ms q u n m k l 0 0)=(K (.exit 0) ⟨[(8,.v (.n .i64 (qQL (fun (i:Nat) (s:Int)=>vYW .i64 (s + vYW .i64 ((js i).weight * max (vYW .i64 (u i - q i)) (vYW .i64 (q i - u i))))) n 0 0)))],[]⟩):=by
 refine (qKL (L:=LFL 60 (cxF Tf (OrL.k (orDi js ms q u n m k l)) 60 33 (ntmF Tf 33)) (ckF Tf (OrL.k (orDi js ms q u n m k l)) 60) (qY []) (qZ Tf 33 [0,1,0,1,1,1,1]) [0,1,0,1,1,1,1] (Tf.hint 33 (zZ (qZ Tf 33 [0,1,0,1,1,1,1]))) K) (stp:=zGA 60 (cxF Tf (OrL.k (orDi js ms q u n m k l)) 60 33 (ntmF Tf 33)) (ckF Tf (OrL.k (orDi js ms q u n m k l)) 60) (qY []) (qZ Tf 33 [0,1,0,1,1,1,1]) [0,1,0,1,1,1,1] (Tf.hint 33 (zZ (qZ Tf 33 [0,1,0,1,1,1,1]))) K) (fun _ _=>rfl) (fun (i:Nat) (s:Int)=>hDi js ms q u n m k l (i:Int) s) (fun _ _=>True) (fun _ _=>true) (fun (i:Nat) (s:Int)=>vYW .i64 (s + vYW .i64 ((js i).weight * max (vYW .i64 (u i - q i)) (vYW .i64 (q i - u i))))) (c:=n) (fun s=>(K (.exit 0) ⟨[(8,.v (.n .i64 s))],[]⟩)) (fun _ _=>none) (fun G i s hi _ => ?_) (fun _ _ _ _ _=>trivial) (fun G s _ => ?_) n 0 60 0 (by omega) (by omega) trivial).trans (qYB n 0 _)
 ·refine (rdDi G K js ms q u n m k l i s).trans ?_;simp only [vYK (show (i:Int) < (n:Int) by omega),jG (show i < 1000000 by omega),zU (show i < n by omega),zU (show i < k by omega),zU (show i < l by omega),toN,vYZ]
  all_goals rfl
 ·refine (rdDi G K js ms q u n m k l n s).trans ?_;rw [vYJ (show ¬ (n:Int) < (n:Int) by omega)];rfl
noncomputable def yYU (js:Nat→J) (ms:Nat→Ms) (q u:Nat→Int) (n m k l:Nat):List (List Nat × yV):=[([0,1,0,1,1,1,1],sumF (fun _:Unit=>(hDi js ms q u n m k l 0 0)) (fun _=>()) (fun _ K=>(bif (decide (n≤10) && decide (k=n) && decide (l=n)) then (K (.exit 0) ⟨[(8,.v (.n .i64 (qQL (fun (i:Nat) (s:Int)=>vYW .i64 (s + vYW .i64 ((js i).weight * max (vYW .i64 (u i - q i)) (vYW .i64 (q i - u i))))) n 0 0)))],[]⟩) else none)))]
set_option maxRecDepth 100000 in
theorem pxdis (js:Nat→J) (ms:Nat→Ms) (q u:Nat→Int) (n m k l:Nat):qWK Tf (OrL.k (orDi js ms q u n m k l)) (qY (yYU js ms q u n m k l)) 60 33 [.a [.lf n (fJ js),.lf m (fM ms)],.lf k (fQ q),.lf l (fQ u)] =
 (bif (!decide ((k:Int)=(n:Int))) then some (.v (.n .i64 0),[])
 else (bif (!decide ((l:Int)=(n:Int))) then some (.v (.n .i64 0),[])
 else (bif (decide (k≤50) && gFQ (fQ q)) then (bif (smQ q k) then (bif (decide (l≤50) && gFQ (fQ u)) then (bif (smQ u l) then (bif (g1 [.a [.lf n (fJ js),.lf m (fM ms)]]) then (bif (!decide ((rErr js ms n m)=0)) then some (.v (.n .i64 0),[])
 else (bif (gSt (hDi js ms q u n m k l 0 0) (hDi js ms q u n m k l 0 0)) then (bif (decide (n≤10) && decide (k=n) && decide (l=n)) then some (.v (.n .i64 (qQL (fun (i:Nat) (s:Int)=>vYW .i64 (s + vYW .i64 ((js i).weight * max (vYW .i64 (u i - q i)) (vYW .i64 (q i - u i))))) n 0 0)),[])
 else none)
 else none))
 else none)
 else some (.v (.n .i64 0),[]))
 else none)
 else some (.v (.n .i64 0),[]))
 else none))):=by kernel_rfl
theorem snd_dis (js:Nat→J) (ms:Nat→Ms) (q u:Nat→Int) (n m k l:Nat) (hk0:k≤50) (hl0:l≤50):zY Tryz.prog 33 [.a [.lf n (fJ js),.lf m (fM ms)],.lf k (fQ q),.lf l (fQ u)] (.v (.n .i64 (dsQ js ms q u n m k l))):=by
 refine runKL_sound2 (N:=60) (LO:=qY (yYU js ms q u n m k l)) jY yH (OrL.ok (l:=(orDi js ms q u n m k l)) ⟨ok_smp,qWW (zJE js ms n m),trivial⟩) (fun p S hp => ?_) ?_
 ·refine qX (L:=qZ Tf 33) (l:=(yYU js ms q u n m k l)) (show AllP _ (yYU js ms q u n m k l) from ⟨?_,trivial⟩) p S hp
  ·dsimp only;refine sumF_ok (T:=Tf) (ok:=(OrL.k (orDi js ms q u n m k l))) (f:=33) (LO:=qY []) (p:=[0,1,0,1,1,1,1]) jU ?_;intro _ K r hr;obtain ⟨hg,hr⟩:=qQ hr;simp only [vQJ,decide_eq_true_eq] at hg;obtain ⟨⟨hn,hk⟩,hl⟩:=hg;exact (lpDi K js ms q u n m k l hn hk hl).trans hr
 ·refine (pxdis js ms q u n m k l).trans ?_;simp only [g1_t,(zGJ (q:=q) rfl).1,(zGJ (q:=u) rfl).1,vYK hk0,vYK hl0,vZQ,vYZ,zW];unfold dsQ dsS;by_cases hr:rErr js ms n m=0
  ·have h10:=zYL hr;by_cases h1:k=n
   ·by_cases h2:l=n
    ·subst h1; subst h2;simp only [hr,decide_true,Bool.not_true,vZW,Bool.and_true,vYZ,vYY,vYK (show l≤10 by omega)];cases smQ q l <;> cases smQ u l <;> rfl
    ·simp only [vYK hr,vYK h1,vYJ h2,vYK (show (k:Int)=(n:Int) by omega),vYJ (show ¬ (l:Int)=(n:Int) by omega),vYJ (show ¬ (l:Int)=(k:Int) by omega),Bool.and_false,Bool.false_and,Bool.not_true,Bool.not_false,vYZ,vYY]
     all_goals (cases smQ q k <;> cases smQ u l <;> rfl)
   ·simp only [vYK hr,vYJ h1,vYJ (show ¬ (k:Int)=(n:Int) by omega),Bool.and_false,Bool.false_and,Bool.not_false,Bool.not_true,vYZ,vYY]
    all_goals (cases smQ q k <;> cases smQ u l <;> rfl)
  ·simp only [vYJ hr,Bool.false_and,Bool.not_false,vYZ,vYY,Bool.cond_self]
   all_goals (cases decide ((k:Int)=(n:Int)) <;> cases decide ((l:Int)=(n:Int)) <;> cases smQ q k <;> cases smQ u l <;> rfl)
noncomputable def orDr (js:Nat→J) (ms:Nat→Ms) (q u:Nat→Int) (n m k l:Nat):OrL:=[(29,zHA),(28,o_cr [.a [.lf n (fJ js),.lf m (fM ms)]] (.v (.n .i64 (rErr js ms n m))))]
noncomputable def hDr (js:Nat→J) (ms:Nat→Ms) (q u:Nat→Int) (n m k l:Nat) (i:Int) (s:Int):St:=⟨[(1,.v (.lf k (fQ q))),(2,.v (.lf l (fQ u))),(3,.p 3 0),(7,.v (.n .i64 s)),(8,.v (.n .i64 i))],[(3,.blk [.v (.lf n (fJ js)),.v (.lf m (fM ms))])]⟩
set_option maxRecDepth 100000 in
theorem rdDr (G:St→Option (Ret × Mem)) (K:Cont) (js:Nat→J) (ms:Nat→Ms) (q u:Nat→Int) (n m k l:Nat) (i:Int) (s:Int):zGA 60 (cxF Tf (OrL.k (orDr js ms q u n m k l)) 60 10 (ntmF Tf 10)) (ckF Tf (OrL.k (orDr js ms q u n m k l)) 60) (qY []) (qZ Tf 10 [0,1,0,1,1,1]) [0,1,0,1,1,1] (Tf.hint 10 (zZ (qZ Tf 10 [0,1,0,1,1,1]))) K G (hDr js ms q u n m k l i s) =
 (bif (decide (i < (k:Int))) then (bif (inB i n) then (bif (inB i k) then (bif (inB i l) then (bif (inB i l) then (bif (inB i k) then (G (hDr js ms q u n m k l (vYW .i64 (i + 1)) (vYW .i64 (s + (vYW .i64 ((js (i).toNat).weight * (max (vYW .i64 ((q (i).toNat) - (u (i).toNat))) (vYW .i64 ((u (i).toNat) - (q (i).toNat))))))))))
 else none)
 else none)
 else none)
 else none)
 else none)
 else (K (.exit 0) ⟨[(7,.v (.n .i64 s))],[]⟩)):=by kernel_rfl
theorem lpDr (K:Cont) (js:Nat→J) (ms:Nat→Ms) (q u:Nat→Int) (n m k l:Nat) (_:n≤10) (_:k=n) (_:l=n):LFL 60 (cxF Tf (OrL.k (orDr js ms q u n m k l)) 60 10 (ntmF Tf 10)) (ckF Tf (OrL.k (orDr js ms q u n m k l)) 60) (qY []) (qZ Tf 10 [0,1,0,1,1,1]) [0,1,0,1,1,1] (Tf.hint 10 (zZ (qZ Tf 10 [0,1,0,1,1,1]))) K 60 (hDr js ms q u n m k l 0 0)=(K (.exit 0) ⟨[(7,.v (.n .i64 (qQL (fun (i:Nat) (s:Int)=>vYW .i64 (s + vYW .i64 ((js i).weight * max (vYW .i64 (u i - q i)) (vYW .i64 (q i - u i))))) n 0 0)))],[]⟩):=by
 refine (qKL (L:=LFL 60 (cxF Tf (OrL.k (orDr js ms q u n m k l)) 60 10 (ntmF Tf 10)) (ckF Tf (OrL.k (orDr js ms q u n m k l)) 60) (qY []) (qZ Tf 10 [0,1,0,1,1,1]) [0,1,0,1,1,1] (Tf.hint 10 (zZ (qZ Tf 10 [0,1,0,1,1,1]))) K) (stp:=zGA 60 (cxF Tf (OrL.k (orDr js ms q u n m k l)) 60 10 (ntmF Tf 10)) (ckF Tf (OrL.k (orDr js ms q u n m k l)) 60) (qY []) (qZ Tf 10 [0,1,0,1,1,1]) [0,1,0,1,1,1] (Tf.hint 10 (zZ (qZ Tf 10 [0,1,0,1,1,1]))) K) (fun _ _=>rfl) (fun (i:Nat) (s:Int)=>hDr js ms q u n m k l (i:Int) s) (fun _ _=>True) (fun _ _=>true) (fun (i:Nat) (s:Int)=>vYW .i64 (s + vYW .i64 ((js i).weight * max (vYW .i64 (u i - q i)) (vYW .i64 (q i - u i))))) (c:=n) (fun s=>(K (.exit 0) ⟨[(7,.v (.n .i64 s))],[]⟩)) (fun _ _=>none) (fun G i s hi _ => ?_) (fun _ _ _ _ _=>trivial) (fun G s _ => ?_) n 0 60 0 (by omega) (by omega) trivial).trans (qYB n 0 _)
 ·refine (rdDr G K js ms q u n m k l i s).trans ?_;simp only [vYK (show (i:Int) < (n:Int) by omega),jG (show i < 1000000 by omega),zU (show i < n by omega),zU (show i < k by omega),zU (show i < l by omega),toN,vYZ,vYK (show (i:Int) < (k:Int) by omega)];rw [Int.max_comm (vYW .i64 (q i - u i))]
  all_goals rfl
 ·refine (rdDr G K js ms q u n m k l n s).trans ?_;rw [vYJ (show ¬ (n:Int) < (k:Int) by omega)];rfl
noncomputable def zVI (js:Nat→J) (ms:Nat→Ms) (q u:Nat→Int) (n m k l:Nat):List (List Nat × yV):=[([0,1,0,1,1,1],sumF (fun _:Unit=>(hDr js ms q u n m k l 0 0)) (fun _=>()) (fun _ K=>(bif (decide (n≤10) && decide (k=n) && decide (l=n)) then (K (.exit 0) ⟨[(7,.v (.n .i64 (qQL (fun (i:Nat) (s:Int)=>vYW .i64 (s + vYW .i64 ((js i).weight * max (vYW .i64 (u i - q i)) (vYW .i64 (q i - u i))))) n 0 0)))],[]⟩) else none)))]
set_option maxRecDepth 100000 in
theorem pxrdis (js:Nat→J) (ms:Nat→Ms) (q u:Nat→Int) (n m k l:Nat):qWK Tf (OrL.k (orDr js ms q u n m k l)) (qY (zVI js ms q u n m k l)) 60 10 [.a [.lf n (fJ js),.lf m (fM ms)],.lf k (fQ q),.lf l (fQ u)] =
 (bif (g1 [.a [.lf n (fJ js),.lf m (fM ms)]]) then (bif (!decide ((rErr js ms n m)=0)) then some (.v (.n .i64 0),[])
 else (bif (decide (k≤50) && gFQ (fQ q)) then (bif (smQ q k) then (bif (decide (l≤50) && gFQ (fQ u)) then (bif (smQ u l) then (bif (!decide ((k:Int)=(n:Int))) then some (.v (.n .i64 0),[])
 else (bif (!decide ((l:Int)=(k:Int))) then some (.v (.n .i64 0),[])
 else (bif (gSt (hDr js ms q u n m k l 0 0) (hDr js ms q u n m k l 0 0)) then (bif (decide (n≤10) && decide (k=n) && decide (l=n)) then some (.v (.n .i64 (qQL (fun (i:Nat) (s:Int)=>vYW .i64 (s + vYW .i64 ((js i).weight * max (vYW .i64 (u i - q i)) (vYW .i64 (q i - u i))))) n 0 0)),[])
 else none)
 else none)))
 else some (.v (.n .i64 0),[]))
 else none)
 else some (.v (.n .i64 0),[]))
 else none))
 else none):=by kernel_rfl
theorem snd_rdis (js:Nat→J) (ms:Nat→Ms) (q u:Nat→Int) (n m k l:Nat) (hk0:k≤50) (hl0:l≤50):zY Tryz.prog 10 [.a [.lf n (fJ js),.lf m (fM ms)],.lf k (fQ q),.lf l (fQ u)] (.v (.n .i64 (dsQ js ms q u n m k l))):=by
 refine runKL_sound2 (N:=60) (LO:=qY (zVI js ms q u n m k l)) jY yH (OrL.ok (l:=(orDr js ms q u n m k l)) ⟨ok_smr,qWW (zWK js ms n m),trivial⟩) (fun p S hp => ?_) ?_
 ·refine qX (L:=qZ Tf 10) (l:=(zVI js ms q u n m k l)) (show AllP _ (zVI js ms q u n m k l) from ⟨?_,trivial⟩) p S hp
  ·dsimp only;refine sumF_ok (T:=Tf) (ok:=(OrL.k (orDr js ms q u n m k l))) (f:=10) (LO:=qY []) (p:=[0,1,0,1,1,1]) jU ?_;intro _ K r hr;obtain ⟨hg,hr⟩:=qQ hr;simp only [vQJ,decide_eq_true_eq] at hg;obtain ⟨⟨hn,hk⟩,hl⟩:=hg;exact (lpDr K js ms q u n m k l hn hk hl).trans hr
 ·refine (pxrdis js ms q u n m k l).trans ?_;simp only [g1_t,(zGJ (q:=q) rfl).1,(zGJ (q:=u) rfl).1,vYK hk0,vYK hl0,vZQ,vYZ,zW];unfold dsQ dsS;by_cases hr:rErr js ms n m=0
  ·have h10:=zYL hr;by_cases h1:k=n
   ·by_cases h2:l=n
    ·subst h1; subst h2;simp only [hr,decide_true,Bool.not_true,vZW,Bool.and_true,vYZ,vYY,vYK (show l≤10 by omega)];cases smQ q l <;> cases smQ u l <;> rfl
    ·simp only [vYK hr,vYK h1,vYJ h2,vYK (show (k:Int)=(n:Int) by omega),vYJ (show ¬ (l:Int)=(n:Int) by omega),vYJ (show ¬ (l:Int)=(k:Int) by omega),Bool.and_false,Bool.false_and,Bool.not_true,Bool.not_false,vYZ,vYY]
     all_goals (cases smQ q k <;> cases smQ u l <;> rfl)
   ·simp only [vYK hr,vYJ h1,vYJ (show ¬ (k:Int)=(n:Int) by omega),Bool.and_false,Bool.false_and,Bool.not_false,Bool.not_true,vYZ,vYY]
    all_goals (cases smQ q k <;> cases smQ u l <;> rfl)
  ·simp only [vYJ hr,Bool.false_and,Bool.not_false,vYZ,vYY,Bool.cond_self]
   all_goals (cases decide ((k:Int)=(n:Int)) <;> cases decide ((l:Int)=(n:Int)) <;> cases smQ q k <;> cases smQ u l <;> rfl)
end Go.Proofs.YtklmegnpfhiibaaGreat.Xb
namespace Go.Proofs.YtklmegnpfhiibaaGreat.Xc
open Go.Rx Rt Go.Sx Go.RowKit Od Nb Nc Xb
def cin (js:Nat→J) (ms:Nat→Ms) (n m:Nat):(Nat→Int) × Nat→Prop:=fun t=>match t with | (_,_)=>True
def ein (js:Nat→J) (ms:Nat→Ms) (n m:Nat):(Nat→Int) × Nat→List PV:=fun t=>match t with | (q,k)=>[.a [.lf n (fJ js),.lf m (fM ms)],.lf k (fQ q)]
noncomputable def rin (js:Nat→J) (ms:Nat→Ms) (n m:Nat):(Nat→Int) × Nat→Ret:=fun t=>match t with | (q,k)=>.v (.b (qIn js ms q n m k))
def din:List PV→(Nat→Int) × Nat:=fun ps=>match ps with
 | [_,.lf k f]=>(unFQ f,k)
 | _=>(fun _=>0,0)
noncomputable def o_in (js:Nat→J) (ms:Nat→Ms) (n m:Nat):List PV→Option (Bool × Ret):=o_fm din (cin js ms n m) (ein js ms n m) (rin js ms n m)
theorem ok_in (js:Nat→J) (ms:Nat→Ms) (n m:Nat):jH Tryz.prog 32 (o_in js ms n m):=qQD fun t h=>by
 obtain ⟨q,k⟩:=t;exact snd_qIn js ms q n m k
def cir (js:Nat→J) (ms:Nat→Ms) (n m:Nat):(Nat→Int) × Nat→Prop:=fun t=>match t with | (_,_)=>True
def eir (js:Nat→J) (ms:Nat→Ms) (n m:Nat):(Nat→Int) × Nat→List PV:=fun t=>match t with | (q,k)=>[.a [.lf n (fJ js),.lf m (fM ms)],.lf k (fQ q)]
noncomputable def rir (js:Nat→J) (ms:Nat→Ms) (n m:Nat):(Nat→Int) × Nat→Ret:=fun t=>match t with | (q,k)=>.v (.b (qIn js ms q n m k))
def dir:List PV→(Nat→Int) × Nat:=fun ps=>match ps with
 | [_,.lf k f]=>(unFQ f,k)
 | _=>(fun _=>0,0)
noncomputable def o_ir (js:Nat→J) (ms:Nat→Ms) (n m:Nat):List PV→Option (Bool × Ret):=o_fm dir (cir js ms n m) (eir js ms n m) (rir js ms n m)
theorem ok_ir (js:Nat→J) (ms:Nat→Ms) (n m:Nat):jH Tryz.prog 34 (o_ir js ms n m):=qQD fun t h=>by
 obtain ⟨q,k⟩:=t;exact snd_rqIn js ms q n m k
def cds (js:Nat→J) (ms:Nat→Ms) (n m:Nat):(Nat→Int) × (Nat→Int) × Nat × Nat→Prop:=fun t=>match t with | (_,_,k,l)=>k≤50∧l≤50
def eds (js:Nat→J) (ms:Nat→Ms) (n m:Nat):(Nat→Int) × (Nat→Int) × Nat × Nat→List PV:=fun t=>match t with | (q,u,k,l)=>[.a [.lf n (fJ js),.lf m (fM ms)],.lf k (fQ q),.lf l (fQ u)]
noncomputable def rds (js:Nat→J) (ms:Nat→Ms) (n m:Nat):(Nat→Int) × (Nat→Int) × Nat × Nat→Ret:=fun t=>match t with | (q,u,k,l)=>.v (.n .i64 (dsQ js ms q u n m k l))
def dds:List PV→(Nat→Int) × (Nat→Int) × Nat × Nat:=fun ps=>match ps with
 | [_,.lf k f,.lf l h]=>(unFQ f,unFQ h,k,l)
 | _=>(fun _=>0,fun _=>0,0,0)
noncomputable def o_ds (js:Nat→J) (ms:Nat→Ms) (n m:Nat):List PV→Option (Bool × Ret):=o_fm dds (cds js ms n m) (eds js ms n m) (rds js ms n m)
theorem yJW (js:Nat→J) (ms:Nat→Ms) (n m:Nat):jH Tryz.prog 33 (o_ds js ms n m):=qQD fun t h=>by
 obtain ⟨q,u,k,l⟩:=t;exact snd_dis js ms q u n m k l h.1 h.2
def cdr (js:Nat→J) (ms:Nat→Ms) (n m:Nat):(Nat→Int) × (Nat→Int) × Nat × Nat→Prop:=fun t=>match t with | (_,_,k,l)=>k≤50∧l≤50
def edr (js:Nat→J) (ms:Nat→Ms) (n m:Nat):(Nat→Int) × (Nat→Int) × Nat × Nat→List PV:=fun t=>match t with | (q,u,k,l)=>[.a [.lf n (fJ js),.lf m (fM ms)],.lf k (fQ q),.lf l (fQ u)]
noncomputable def rdr (js:Nat→J) (ms:Nat→Ms) (n m:Nat):(Nat→Int) × (Nat→Int) × Nat × Nat→Ret:=fun t=>match t with | (q,u,k,l)=>.v (.n .i64 (dsQ js ms q u n m k l))
def ddr:List PV→(Nat→Int) × (Nat→Int) × Nat × Nat:=fun ps=>match ps with
 | [_,.lf k f,.lf l h]=>(unFQ f,unFQ h,k,l)
 | _=>(fun _=>0,fun _=>0,0,0)
noncomputable def o_dr (js:Nat→J) (ms:Nat→Ms) (n m:Nat):List PV→Option (Bool × Ret):=o_fm ddr (cdr js ms n m) (edr js ms n m) (rdr js ms n m)
theorem ok_dr (js:Nat→J) (ms:Nat→Ms) (n m:Nat):jH Tryz.prog 10 (o_dr js ms n m):=qQD fun t h=>by
 obtain ⟨q,u,k,l⟩:=t;exact snd_rdis js ms q u n m k l h.1 h.2
def uB (js:Nat→J) (ms:Nat→Ms) (qa qb qc:Nat→Int) (n m ka kb kc:Nat) (best:Int):Bool:=qIn js ms qa n m ka && (qIn js ms qb n m kb && (qIn js ms qc n m kc && decide (vYW .i64 (dsQ js ms qa qc n m ka kc + dsQ js ms qc qb n m kc kb)≤best)))
theorem qUI {js:Nat→J} {ms:Nat→Ms} {q:Nat→Int} {n m k:Nat} (h:qIn js ms q n m k=true):rErr js ms n m=0∧n=k∧1≤k∧k≤10:=by
 have h1:rErr js ms n m=0∧n=k:=by
  unfold qIn insQ at h;simp only [vQJ,decide_eq_true_eq] at h;exact ⟨h.1,by omega⟩
 have:=zYL h1.1
 exact ⟨h1.1,h1.2,by omega⟩
noncomputable def oruse (js:Nat→J) (ms:Nat→Ms) (_ _ _:Nat→Int) (n m _ _ _:Nat) (best:Int):OrS:=orS [(31,o_cr [.a [.lf n (fJ js),.lf m (fM ms)]] (.v (.n .i64 (rErr js ms n m)))),(32,o_in js ms n m),(33,o_ds js ms n m)] []
noncomputable def yZG (js:Nat→J) (ms:Nat→Ms) (_ _ _:Nat→Int) (n m _ _ _:Nat) (best:Int):List (List Nat × yV):=[]
set_option maxRecDepth 100000 in
theorem pxuse (js:Nat→J) (ms:Nat→Ms) (qa qb qc:Nat→Int) (n m ka kb kc:Nat) (best:Int):qQI Tf (oruse js ms qa qb qc n m ka kb kc best) (qY (yZG js ms qa qb qc n m ka kb kc best)) 60 13 [.a [.lf n (fJ js),.lf m (fM ms)],.lf ka (fQ qa),.lf kb (fQ qb),.lf kc (fQ qc),.n .i64 best] =
 (bif (g1 [.a [.lf n (fJ js),.lf m (fM ms)]]) then (bif (!decide ((rErr js ms n m)=0)) then some (.v (.b false),[])
 else (bif (gF1 (cin js ms n m) (ein js ms n m) (qa,ka)) then (bif (qIn js ms qa n m ka) then (bif (gF1 (cin js ms n m) (ein js ms n m) (qb,kb)) then (bif (qIn js ms qb n m kb) then (bif (gF1 (cin js ms n m) (ein js ms n m) (qc,kc)) then (bif (qIn js ms qc n m kc) then (bif (gF1 (cds js ms n m) (eds js ms n m) (qa,qc,ka,kc)) then (bif (gF1 (cds js ms n m) (eds js ms n m) (qc,qb,kc,kb)) then (bif (decide ((vYW .i64 ((dsQ js ms qa qc n m ka kc) + (dsQ js ms qc qb n m kc kb)))≤best)) then some (.v (.b true),[])
 else some (.v (.b false),[]))
 else none)
 else none)
 else some (.v (.b false),[]))
 else none)
 else some (.v (.b false),[]))
 else none)
 else some (.v (.b false),[]))
 else none))
 else none):=by kernel_rfl
theorem snd_use (js:Nat→J) (ms:Nat→Ms) (qa qb qc:Nat→Int) (n m ka kb kc:Nat) (best:Int):zY Tryz.prog 13 [.a [.lf n (fJ js),.lf m (fM ms)],.lf ka (fQ qa),.lf kb (fQ qb),.lf kc (fQ qc),.n .i64 best] (.v (.b (uB js ms qa qb qc n m ka kb kc best))):=by
 refine qH (N:=60) (LO:=qY (yZG js ms qa qb qc n m ka kb kc best)) jY yH (jK (l:=[(31,o_cr [.a [.lf n (fJ js),.lf m (fM ms)]] (.v (.n .i64 (rErr js ms n m)))),(32,o_in js ms n m),(33,o_ds js ms n m)]) (m:=[]) ⟨qWW (zJE js ms n m),ok_in js ms n m,yJW js ms n m,trivial⟩ trivial) (fun p S hp => ?_) ?_
 ·refine qX (L:=qZ Tf 13) (l:=(yZG js ms qa qb qc n m ka kb kc best)) (show AllP _ (yZG js ms qa qb qc n m ka kb kc best) from trivial) p S hp
 ·refine (pxuse js ms qa qb qc n m ka kb kc best).trans ?_;unfold uB;rw [g1_t,jV (C:=cin js ms n m) (t:=(qa,ka)) trivial,jV (C:=cin js ms n m) (t:=(qb,kb)) trivial,jV (C:=cin js ms n m) (t:=(qc,kc)) trivial];cases ha:qIn js ms qa n m ka with
  | false=>cases decide (rErr js ms n m=0) <;> rfl
  | true =>
   have h1:=qUI ha;cases hb:qIn js ms qb n m kb with
   | false=>rw [vYK h1.1]; rfl
   | true =>
    have h2:=qUI hb;cases hc:qIn js ms qc n m kc with
    | false=>rw [vYK h1.1]; rfl
    | true =>
     have h3:=qUI hc;rw [vYK h1.1,jV (C:=cds js ms n m) (t:=(qa,qc,ka,kc)) ⟨by omega,by omega⟩,jV (C:=cds js ms n m) (t:=(qc,qb,kc,kb)) ⟨by omega,by omega⟩];cases decide (vYW .i64 (dsQ js ms qa qc n m ka kc + dsQ js ms qc qb n m kc kb)≤best) <;> rfl
end Go.Proofs.YtklmegnpfhiibaaGreat.Xc
namespace Go.Proofs.YtklmegnpfhiibaaGreat.Ag
open Go.Rx Rt
theorem call:zY Tryz.prog 6 [] (.v (.b true)):=qZI (N:=60) qZF yH (Known.ok (Known.nil _)) (by kernel_rfl:run T (Known.orc ([]:Known)) 60 6 []=some (.v (.b true)))
end Go.Proofs.YtklmegnpfhiibaaGreat.Ag
namespace Go.Proofs.YtklmegnpfhiibaaGreat.Ba
open Go.Rx Rt Go.Sx Go.RowKit Ag
def slB (σ:St) (k:Nat):Bool:=match kH σ.S k with
 | some (.v (.b b))=>b
 | _=>false
def rgI (σ:St) (k c:Nat):Nat→Int:=fun v=>match (rgF σ k v)[c]? with
 | some (.n _ i)=>i
 | _=>0
theorem iterN_ok {τ υ:Type} {dec:τ→τ ⊕ υ}:∀ {n m:Nat} {s:τ} {y:υ},qG dec n s=some y→n≤m→qG dec m s=some y
 | 0,_,_,_,h,_=>by cases h
 | n + 1,0,_,_,_,hm=>by omega
 | n + 1,m + 1,s,y,h,hm=>by
  simp only [qG] at h ⊢;cases hd:dec s with
  | inl s'=>rw [hd] at h; exact iterN_ok h (by omega)
  | inr z=>rw [hd] at h; exact h
def rdI (n k:Int):Int:=bif decide (n.tmod k < 0) then vYW .i64 (n.tmod k + k) else n.tmod k
end Go.Proofs.YtklmegnpfhiibaaGreat.Ba

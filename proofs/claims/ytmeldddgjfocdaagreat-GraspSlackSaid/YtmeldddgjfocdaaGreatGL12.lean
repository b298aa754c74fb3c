/- Part 12 of the texts behind the last one: rules and contracts. No condition. -/
import Derived.Test.YtmeldddgjfocdaaGreatGL11
open Option renaming bind_eq_some_iff → vQQ
open Option.some renaming injEq → vQZ
open Prod.mk renaming injEq → vQY
open Bool renaming and_eq_true → vQJ, and_self → vZJ, true_and → vZH
open List renaming getElem?_eq_getElem → vQK, mem_cons_self → vZQ, getElem?_map → vZY, getD_eq_getElem?_getD → vZG, take_succ_cons → vYK, drop_succ_cons → vYU, take_zero → vYX, drop_zero → vYW
open Nat renaming lt_of_lt_of_le → vZK
open Classical renaming propDecidable → vYJ
open Go.IntKind renaming wrap → vJJ
namespace Go.Proofs.YtmeldddgjfocdaaGreat.Nc
open Go.Rx Rt Go.Sx Go.RowKit Od
open Na Nb
def MOK (n:Nat) (q:Ms):Prop:=(0≤q.link∧q.link < n)∧(1≤q.mass∧q.mass≤65536)∧(-4194304≤q.p.x∧q.p.x≤4194304)∧(-4194304≤q.p.y∧q.p.y≤4194304)∧(-4194304≤q.p.z∧q.p.z≤4194304)
instance (n:Nat) (q:Ms):Decidable (MOK n q):=by unfold MOK; exact inferInstance
def mokB (n:Nat) (q:Ms):Bool:=decide (MOK n q)
def mAll (ms:Nat→Ms) (n:Nat):Nat→Nat→Bool
 | 0,_=>true
 | k + 1,p=>mokB n (ms p) && mAll ms n k (p + 1)
def fbad (ms:Nat→Ms) (n:Nat):Nat→Nat→Int
 | 0,_ => -1
 | k + 1,p=>bif mokB n (ms p) then fbad ms n k (p + 1) else (p:Int)
theorem jZW (ms:Nat→Ms) (n:Nat):∀ k p,decide (0≤fbad ms n k p) = !mAll ms n k p
 | 0,p=>rfl
 | k + 1,p=>by
  have ih:=jZW ms n k (p + 1);by_cases hq:mokB n (ms p)=true
  ·simp only [fbad,mAll,hq,vYV,vZH];exact ih
  ·rw [Bool.not_eq_true] at hq;simp only [fbad,mAll,hq,vYG,Bool.false_and,Bool.not_false];exact vJQ (by omega)
def jE (js:Nat→J) (n:Nat):Nat→Nat→Int
 | 0,_=>0
 | k + 1,p=>bif decide (jErr js n p=0) then jE js n k (p + 1) else jErr js n p
def rErr (js:Nat→J) (ms:Nat→Ms) (n m:Nat):Int:=bif decide ((n:Int)=0) then 801 else bif decide (10 < (n:Int)) then 801 else bif decide (jE js n n 0=0) then (bif decide (32 < (m:Int)) then 808 else bif mAll ms n m 0 then 0 else 808) else jE js n n 0
def mTp {α:Type} (n:Nat) (q:Ms) (a b:α):α:=(bif (decide (0≤q.link)) then (bif (decide (q.link < (n:Int))) then (bif (decide (1≤q.mass)) then (bif (decide (q.mass≤65536)) then (bif (decide (q.p.x < (-4194304))) then b else (bif (decide (4194304 < q.p.x)) then b else (bif (decide (q.p.y < (-4194304))) then b else (bif (decide (4194304 < q.p.y)) then b else (bif (decide (q.p.z < (-4194304))) then b else (bif (decide (4194304 < q.p.z)) then b else a)))))) else b) else b) else b) else b)
theorem xVG {α:Type} (n:Nat) (q:Ms) (a b:α):mTp n q a b=bif mokB n q then a else b:=by
 unfold mTp mokB;by_cases h:MOK n q
 ·have h':=h;obtain ⟨⟨h1,h2⟩,⟨h3,h4⟩,⟨h5,h6⟩,⟨h7,h8⟩,h9,h10⟩:=h';rw [vJQ h];simp only [vYV];simp only [Bool.cond_eq_ite,decide_eq_true_eq]
  repeat' split
  all_goals first | rfl | (exfalso; omega)
 ·rw [vYH h];unfold MOK at h;simp only [vYG];simp only [Bool.cond_eq_ite,decide_eq_true_eq]
  repeat' split
  all_goals first | rfl | (exfalso; omega) | contradiction
set_option maxRecDepth 100000 in
theorem fZG (js:Nat→J) (ms:Nat→Ms) (n m:Nat) (q:Ms):runK T (OrL.k []) 60 148 [.a (mp q),.c [.lf n (fJ js),.lf m (fM ms)] 0]=mTp n q (F_b false) (F_b true):=by kernel_rfl
theorem xYX (js:Nat→J) (ms:Nat→Ms) (n m:Nat) (q:Ms):zG Tryz.prog 148 [.a (mp q),.c [.lf n (fJ js),.lf m (fM ms)] 0] (.v (.b (!mokB n q))):=by
 refine qH (N:=60) jQ yQ (OrL.ok (l:=[]) trivial) ?_;rw [fZG,xVG];cases mokB n q <;> rfl
noncomputable def o_cl (js:Nat→J) (ms:Nat→Ms) (n m:Nat):List PV→Option (Bool × Ret):=fun ps=>match ps with
 | [.a [.n .i64 a0,.n .i64 a1,.n .i64 a2,.n .i64 a3,.n .i64 a4],c]=>some (gEq c (.c [.lf n (fJ js),.lf m (fM ms)] 0),.v (.b (!mokB n ⟨a0,a1,⟨a2,a3,a4⟩⟩)))
 | _=>none
theorem fUC (js:Nat→J) (ms:Nat→Ms) (n m:Nat):zZ Tryz.prog 148 (o_cl js ms n m):=by
 intro ps r hh;unfold o_cl at hh;split at hh
 ·simp only [vQZ,vQY] at hh;obtain ⟨hg,rfl⟩:=hh;obtain rfl:=zXL hg;exact xYX js ms n m ⟨_,_,⟨_,_,_⟩⟩
 ·cases hh
def hI (js:Nat→J) (ms:Nat→Ms) (n m:Nat) (i:Int):St:=⟨[(0,.v (.lf m (fM ms))),(1,.v (.f 148 [] [.c [.lf n (fJ js),.lf m (fM ms)] 0])),(7,.v (.n .i64 (m:Int))),(8,.v (.n .i64 i))],[]⟩
set_option maxRecDepth 100000 in
theorem rdI (G:St→Option (Ret × Mem)) (K:Cont) (js:Nat→J) (ms:Nat→Ms) (n m:Nat) (i:Int):qKF 60 (cxF T (OrL.k [(148,o_cl js ms n m)]) 60 172 (ntmF T 172)) (ckF T (OrL.k [(148,o_cl js ms n m)]) 60) (qY T 172 [0,1,0,1]) (fun e τ=>match e with
 | .normal=>G (qJW ((cxF T (OrL.k [(148,o_cl js ms n m)]) 60 172 (ntmF T 172)).T.hint (cxF T (OrL.k [(148,o_cl js ms n m)]) 60 172 (ntmF T 172)).me (yZ (qY T 172 [0,1,0,1]))) τ)
 | e=>K e (qYB ((cxF T (OrL.k [(148,o_cl js ms n m)]) 60 172 (ntmF T 172)).T.hint (cxF T (OrL.k [(148,o_cl js ms n m)]) 60 172 (ntmF T 172)).me (yZ (qY T 172 [0,1,0,1]))) τ)) (hI js ms n m i) =
 (bif (decide (i < (m:Int))) then (bif (inB i m) then (bif (gEq (.c [.lf n (fJ js),.lf m (fM ms)] 0) (.c [.lf n (fJ js),.lf m (fM ms)] 0)) then (bif (!mokB n (ms (i).toNat)) then (K .ret ⟨[(4,.v (.n .i64 i))],[]⟩)
 else (G (hI js ms n m (vJJ .i64 (i + 1)))))
 else none)
 else none)
 else (K (.exit 0) ⟨[],[]⟩)):=by kernel_rfl
theorem lpI (K:Cont) (js:Nat→J) (ms:Nat→Ms) (n m:Nat) (hm:m≤1000):∀ (k p q:Nat),p + k=m→k < q→LF 60 (cxF T (OrL.k [(148,o_cl js ms n m)]) 60 172 (ntmF T 172)) (ckF T (OrL.k [(148,o_cl js ms n m)]) 60) (qY T 172 [0,1,0,1]) ((cxF T (OrL.k [(148,o_cl js ms n m)]) 60 172 (ntmF T 172)).T.hint (cxF T (OrL.k [(148,o_cl js ms n m)]) 60 172 (ntmF T 172)).me (yZ (qY T 172 [0,1,0,1]))) K q (hI js ms n m p)=(bif decide (fbad ms n k p = -1) then K (.exit 0) ⟨[],[]⟩ else K .ret ⟨[(4,.v (.n .i64 (fbad ms n k p)))],[]⟩)
 | 0,p,q + 1,hp,hq=>by
  refine (rdI (fun σ=>LF 60 (cxF T (OrL.k [(148,o_cl js ms n m)]) 60 172 (ntmF T 172)) (ckF T (OrL.k [(148,o_cl js ms n m)]) 60) (qY T 172 [0,1,0,1]) ((cxF T (OrL.k [(148,o_cl js ms n m)]) 60 172 (ntmF T 172)).T.hint (cxF T (OrL.k [(148,o_cl js ms n m)]) 60 172 (ntmF T 172)).me (yZ (qY T 172 [0,1,0,1]))) K q σ) K js ms n m p).trans ?_;rw [vYH (show ¬ (p:Int) < (m:Int) by omega)];rfl
 | k + 1,p,q + 1,hp,hq=>by
  refine (rdI (fun σ=>LF 60 (cxF T (OrL.k [(148,o_cl js ms n m)]) 60 172 (ntmF T 172)) (ckF T (OrL.k [(148,o_cl js ms n m)]) 60) (qY T 172 [0,1,0,1]) ((cxF T (OrL.k [(148,o_cl js ms n m)]) 60 172 (ntmF T 172)).T.hint (cxF T (OrL.k [(148,o_cl js ms n m)]) 60 172 (ntmF T 172)).me (yZ (qY T 172 [0,1,0,1]))) K q σ) K js ms n m p).trans ?_;rw [vJQ (show (p:Int) < (m:Int) by omega),yU (show p < m by omega),kK (by omega),lpI K js ms n m hm k (p + 1) q (by omega) (by omega),toN,zQU];by_cases hq:mokB n (ms p)=true
  ·simp only [fbad,hq,vYV,vYG,Bool.not_true]
  ·rw [Bool.not_eq_true] at hq;simp only [fbad,hq,vYV,vYG,Bool.not_false,vYH (show ¬ (p:Int) = -1 by omega)]
set_option maxRecDepth 100000 in
theorem pxI (js:Nat→J) (ms:Nat→Ms) (n m:Nat):qXD T (OrL.k [(148,o_cl js ms n m)]) (qK [([0,1,0,1],uU (hI js ms n m 0) (fun K=>(bif decide (fbad ms n m 0 = -1) then K (.exit 0) ⟨[],[]⟩ else K .ret ⟨[(4,.v (.n .i64 (fbad ms n m 0)))],[]⟩)))]) 60 172 [.lf m (fM ms),.f 148 [] [.c [.lf n (fJ js),.lf m (fM ms)] 0]] =
 bif gSt (hI js ms n m 0) (hI js ms n m 0) then (bif decide (fbad ms n m 0 = -1) then some (.v (.n .i64 (-1)),[]) else some (.v (.n .i64 (fbad ms n m 0)),[])) else none:=by kernel_rfl
theorem xYU (js:Nat→J) (ms:Nat→Ms) (n m:Nat) (_:m≤50):zG Tryz.prog 172 [.lf m (fM ms),.f 148 [] [.c [.lf n (fJ js),.lf m (fM ms)] 0]] (.v (.n .i64 (fbad ms n m 0))):=by
 refine uW (N:=60) (LO:=qK [([0,1,0,1],uU (hI js ms n m 0) (fun K=>(bif decide (fbad ms n m 0 = -1) then K (.exit 0) ⟨[],[]⟩ else K .ret ⟨[(4,.v (.n .i64 (fbad ms n m 0)))],[]⟩)))]) jQ yQ (OrL.ok (l:=[(148,o_cl js ms n m)]) ⟨fUC js ms n m,trivial⟩) (fun p S hp => ?_) ?_
 ·refine qZQ (L:=qY T 172) (l:=[([0,1,0,1],uU (hI js ms n m 0) (fun K=>(bif decide (fbad ms n m 0 = -1) then K (.exit 0) ⟨[],[]⟩ else K .ret ⟨[(4,.v (.n .i64 (fbad ms n m 0)))],[]⟩)))]) (show AllP _ [([0,1,0,1],uU (hI js ms n m 0) (fun K=>(bif decide (fbad ms n m 0 = -1) then K (.exit 0) ⟨[],[]⟩ else K .ret ⟨[(4,.v (.n .i64 (fbad ms n m 0)))],[]⟩)))] from ⟨qYH fun K r hr => ?_,trivial⟩) p S hp;exact (lpI K js ms n m (by omega) m 0 60 (by omega) (by omega)).trans hr
 ·refine (pxI js ms n m).trans ?_;rw [yJ,vYV];by_cases h:fbad ms n m 0 = -1
  ·rw [vJQ h,h]; rfl
  ·rw [vYH h]; rfl
theorem xYW (js:Nat→J) (ms:Nat→Ms) (n m:Nat) (hm:m≤50):zG Tryz.prog 147 [.lf m (fM ms),.f 148 [] [.c [.lf n (fJ js),.lf m (fM ms)] 0]] (.v (.b (!mAll ms n m 0))):=by
 refine qH (N:=60) jQ yQ (OrL.ok (l:=[(172,o_cr [.lf m (fM ms),.f 148 [] [.c [.lf n (fJ js),.lf m (fM ms)] 0]] (.v (.n .i64 (fbad ms n m 0))))]) ⟨qVK (xYU js ms n m hm),trivial⟩) ?_;refine (by kernel_rfl:_=bif (g1 [.lf m (fM ms),.f 148 [] [.c [.lf n (fJ js),.lf m (fM ms)] 0]]) then (bif (decide (0≤(fbad ms n m 0))) then some (.v (.b true),[])
 else some (.v (.b false),[]))
 else none).trans ?_
 rw [g1_t,vYV,← jZW];cases decide (0≤fbad ms n m 0) <;> rfl
noncomputable def qUC (js:Nat→J) (ms:Nat→Ms) (n m:Nat):List PV→Option (Bool × Ret):=fun ps=>match ps with
 | [r,.n .i64 i]=>some (gEq r (.a [.lf n (fJ js),.lf m (fM ms)]) && (inB i n && decide (n≤50)),.v (.n .i64 (jErr js n i.toNat)))
 | _=>none
theorem kXW (js:Nat→J) (ms:Nat→Ms) (n m:Nat):zZ Tryz.prog 146 (qUC js ms n m):=by
 intro ps r hh;unfold qUC at hh;split at hh
 ·simp only [vQZ,vQY,vQJ] at hh;obtain ⟨⟨hg,hi,hd⟩,rfl⟩:=hh;obtain rfl:=zXL hg;have hn:=vJZ hd;obtain ⟨i0,i1⟩:=qXQ hi;rename_i i
  have:=uUV js ms n m hn i.toNat (by omega)
  rw [show ((i.toNat:Nat):Int)=i by omega] at this;exact this
 ·cases hh
noncomputable def qZF (js:Nat→J) (_:Nat→Ms) (n m:Nat):List PV→Option (Bool × Ret):=fun ps=>match ps with
 | [r,.n .i64 i]=>some (gEq r (.lf n (fJ js)) && (inB i n && decide (n≤50)),.v (.n .i64 (jErr js n i.toNat)))
 | _=>none
theorem kXX (js:Nat→J) (ms:Nat→Ms) (n m:Nat):zZ Tryz.prog 119 (qZF js ms n m):=by
 intro ps r hh;unfold qZF at hh;split at hh
 ·simp only [vQZ,vQY,vQJ] at hh;obtain ⟨⟨hg,hi,hd⟩,rfl⟩:=hh;obtain rfl:=zXL hg;have hn:=vJZ hd;obtain ⟨i0,i1⟩:=qXQ hi;rename_i i
  have:=uUW js n hn i.toNat (by omega)
  rw [show ((i.toNat:Nat):Int)=i by omega] at this;exact this
 ·cases hh
noncomputable def qUD (js:Nat→J) (ms:Nat→Ms) (n m:Nat):List PV→Option (Bool × Ret):=fun ps=>some (gEq (.t ps) (.t [.lf m (fM ms),.f 148 [] [.c [.lf n (fJ js),.lf m (fM ms)] 0]]) && decide (m≤50),.v (.b (!mAll ms n m 0)))
theorem xWB (js:Nat→J) (ms:Nat→Ms) (n m:Nat):zZ Tryz.prog 147 (qUD js ms n m):=by
 intro ps q hh;unfold qUD at hh;simp only [vQZ,vQY,vQJ] at hh;obtain ⟨⟨hg,hm⟩,rfl⟩:=hh
 have:=zXL hg
 simp only [PV.t.injEq] at this;rw [this];exact xYW js ms n m (vJZ hm)
def hK (js:Nat→J) (ms:Nat→Ms) (n m:Nat) (i:Int):St:=⟨[(1,.p 1 0),(17,.v (.n .i64 (n:Int))),(18,.v (.n .i64 i))],[(1,.blk [.v (.lf n (fJ js)),.v (.lf m (fM ms))])]⟩
set_option maxRecDepth 100000 in
theorem rdK (G:St→Option (Ret × Mem)) (K:Cont) (js:Nat→J) (ms:Nat→Ms) (n m:Nat) (i:Int):qKF 60 (cxF T (OrL.k [(146,qUC js ms n m),(147,qUD js ms n m)]) 60 104 (ntmF T 104)) (ckF T (OrL.k [(146,qUC js ms n m),(147,qUD js ms n m)]) 60) (qY T 104 [0,1,0,1,1]) (fun e τ=>match e with
 | .normal=>G (qJW ((cxF T (OrL.k [(146,qUC js ms n m),(147,qUD js ms n m)]) 60 104 (ntmF T 104)).T.hint (cxF T (OrL.k [(146,qUC js ms n m),(147,qUD js ms n m)]) 60 104 (ntmF T 104)).me (yZ (qY T 104 [0,1,0,1,1]))) τ)
 | e=>K e (qYB ((cxF T (OrL.k [(146,qUC js ms n m),(147,qUD js ms n m)]) 60 104 (ntmF T 104)).T.hint (cxF T (OrL.k [(146,qUC js ms n m),(147,qUD js ms n m)]) 60 104 (ntmF T 104)).me (yZ (qY T 104 [0,1,0,1,1]))) τ)) (hK js ms n m i) =
 (bif (decide (i < (n:Int))) then (bif (gEq (.a [.lf n (fJ js),.lf m (fM ms)]) (.a [.lf n (fJ js),.lf m (fM ms)]) && (inB i n && decide (n≤50))) then (bif (!decide ((jErr js n (i).toNat)=0)) then (K .ret ⟨[(1,.p 1 0),(2,.v (.n .i64 (jErr js n (i).toNat)))],[(1,.blk [.v (.lf n (fJ js)),.v (.lf m (fM ms))])]⟩)
 else (G (hK js ms n m (vJJ .i64 (i + 1)))))
 else none)
 else (K (.exit 0) ⟨[(1,.p 1 0)],[(1,.blk [.v (.lf n (fJ js)),.v (.lf m (fM ms))])]⟩)):=by kernel_rfl
def rK (js:Nat→J) (ms:Nat→Ms) (n m:Nat) (e:Int):St:=⟨[(1,.p 1 0),(2,.v (.n .i64 e))],[(1,.blk [.v (.lf n (fJ js)),.v (.lf m (fM ms))])]⟩
def oK (js:Nat→J) (ms:Nat→Ms) (n m:Nat):St:=⟨[(1,.p 1 0)],[(1,.blk [.v (.lf n (fJ js)),.v (.lf m (fM ms))])]⟩
theorem lpK (K:Cont) (js:Nat→J) (ms:Nat→Ms) (n m:Nat) (hn:n≤10):∀ (k p q:Nat),p + k=n→k < q→LF 60 (cxF T (OrL.k [(146,qUC js ms n m),(147,qUD js ms n m)]) 60 104 (ntmF T 104)) (ckF T (OrL.k [(146,qUC js ms n m),(147,qUD js ms n m)]) 60) (qY T 104 [0,1,0,1,1]) ((cxF T (OrL.k [(146,qUC js ms n m),(147,qUD js ms n m)]) 60 104 (ntmF T 104)).T.hint (cxF T (OrL.k [(146,qUC js ms n m),(147,qUD js ms n m)]) 60 104 (ntmF T 104)).me (yZ (qY T 104 [0,1,0,1,1]))) K q (hK js ms n m p)=(bif decide (jE js n k p=0) then (K (.exit 0) (oK js ms n m)) else (K .ret (rK js ms n m (jE js n k p))))
 | 0,p,q + 1,hp,hq=>by
  refine (rdK (fun σ=>LF 60 (cxF T (OrL.k [(146,qUC js ms n m),(147,qUD js ms n m)]) 60 104 (ntmF T 104)) (ckF T (OrL.k [(146,qUC js ms n m),(147,qUD js ms n m)]) 60) (qY T 104 [0,1,0,1,1]) ((cxF T (OrL.k [(146,qUC js ms n m),(147,qUD js ms n m)]) 60 104 (ntmF T 104)).T.hint (cxF T (OrL.k [(146,qUC js ms n m),(147,qUD js ms n m)]) 60 104 (ntmF T 104)).me (yZ (qY T 104 [0,1,0,1,1]))) K q σ) K js ms n m p).trans ?_;rw [vYH (show ¬ (p:Int) < (n:Int) by omega)];rfl
 | k + 1,p,q + 1,hp,hq=>by
  refine (rdK (fun σ=>LF 60 (cxF T (OrL.k [(146,qUC js ms n m),(147,qUD js ms n m)]) 60 104 (ntmF T 104)) (ckF T (OrL.k [(146,qUC js ms n m),(147,qUD js ms n m)]) 60) (qY T 104 [0,1,0,1,1]) ((cxF T (OrL.k [(146,qUC js ms n m),(147,qUD js ms n m)]) 60 104 (ntmF T 104)).T.hint (cxF T (OrL.k [(146,qUC js ms n m),(147,qUD js ms n m)]) 60 104 (ntmF T 104)).me (yZ (qY T 104 [0,1,0,1,1]))) K q σ) K js ms n m p).trans ?_;rw [vJQ (show (p:Int) < (n:Int) by omega),yU (show p < n by omega),kK (by omega),lpK K js ms n m hn k (p + 1) q (by omega) (by omega),toN,zQU,vJQ (show n≤50 by omega)];by_cases hq:jErr js n p=0
  ·simp only [jE,vJQ hq,vYV,vYG,Bool.not_true,vZJ]
  ·simp only [jE,vYH hq,vYV,vYG,Bool.not_false,vZJ];rfl
set_option maxRecDepth 100000 in
theorem pxK (js:Nat→J) (ms:Nat→Ms) (n m:Nat):qXD T (OrL.k [(146,qUC js ms n m),(147,qUD js ms n m)]) (qK [([0,1,0,1,1],uU (hK js ms n m 0) (fun K=>bif decide (10 < (n:Int)) then none else (bif decide (jE js n n 0=0) then (K (.exit 0) (oK js ms n m)) else (K .ret (rK js ms n m (jE js n n 0))))))]) 60 104 [(.a [.lf n (fJ js),.lf m (fM ms)])] =
 bif decide ((n:Int)=0) then some (.v (.n .i64 801),[]) else (bif decide (10 < (n:Int)) then some (.v (.n .i64 801),[]) else (bif gSt (hK js ms n m 0) (hK js ms n m 0) then (bif decide (10 < (n:Int)) then none else (bif decide (jE js n n 0=0) then bif (decide (32 < (m:Int))) then some (.v (.n .i64 808),[])
 else bif (g1 [.lf m (fM ms),.f 148 [] [.c [.lf n (fJ js),.lf m (fM ms)] 0]] && decide (m≤50)) then (bif (!mAll ms n m 0) then some (.v (.n .i64 808),[])
 else some (.v (.n .i64 0),[]))
 else none else some (.v (.n .i64 (jE js n n 0)),[]))) else none)):=by kernel_rfl
theorem yXJ (js:Nat→J) (ms:Nat→Ms) (n m:Nat):zG Tryz.prog 104 [(.a [.lf n (fJ js),.lf m (fM ms)])] (.v (.n .i64 (rErr js ms n m))):=by
 refine uW (N:=60) (LO:=qK [([0,1,0,1,1],uU (hK js ms n m 0) (fun K=>bif decide (10 < (n:Int)) then none else (bif decide (jE js n n 0=0) then (K (.exit 0) (oK js ms n m)) else (K .ret (rK js ms n m (jE js n n 0))))))]) jQ yQ (OrL.ok (l:=[(146,qUC js ms n m),(147,qUD js ms n m)]) ⟨kXW js ms n m,xWB js ms n m,trivial⟩) (fun p S hp => ?_) ?_
 ·refine qZQ (L:=qY T 104) (l:=[([0,1,0,1,1],uU (hK js ms n m 0) (fun K=>bif decide (10 < (n:Int)) then none else (bif decide (jE js n n 0=0) then (K (.exit 0) (oK js ms n m)) else (K .ret (rK js ms n m (jE js n n 0))))))]) (show AllP _ [([0,1,0,1,1],uU (hK js ms n m 0) (fun K=>bif decide (10 < (n:Int)) then none else (bif decide (jE js n n 0=0) then (K (.exit 0) (oK js ms n m)) else (K .ret (rK js ms n m (jE js n n 0))))))] from ⟨qYH fun K r hr => ?_,trivial⟩) p S hp;cases hq:decide (10 < (n:Int)) with
  | true=>rw [hq] at hr; cases hr
  | false =>
   rw [hq] at hr;have h10:=vJY hq;exact (lpK K js ms n m (by omega) n 0 60 (by omega) (by omega)).trans hr
 ·refine (pxK js ms n m).trans ?_;unfold rErr;rw [yJ,g1_t];by_cases h0:(n:Int)=0
  ·rw [vJQ h0]; rfl
  rw [vYH h0];by_cases h10:10 < (n:Int)
  ·rw [vJQ h10]; rfl
  rw [vYH h10];by_cases hj:jE js n n 0=0
  ·rw [vJQ hj];by_cases h32:32 < (m:Int)
   ·rw [vJQ h32]; rfl
   rw [vYH h32,vJQ (show m≤50 by omega)];cases mAll ms n m 0 <;> rfl
  ·rw [vYH hj]; rfl
def hQ (js:Nat→J) (ms:Nat→Ms) (n m:Nat) (i:Int):St:=⟨[(1,.p 1 0),(3,.v (.n .i64 i))],[(1,.blk [.v (.lf n (fJ js)),.v (.lf m (fM ms))])]⟩
set_option maxRecDepth 100000 in
theorem rdQ (G:St→Option (Ret × Mem)) (K:Cont) (js:Nat→J) (ms:Nat→Ms) (n m:Nat) (i:Int):qKF 60 (cxF T (OrL.k [(119,qZF js ms n m)]) 60 70 (ntmF T 70)) (ckF T (OrL.k [(119,qZF js ms n m)]) 60) (qY T 70 [0,1,0,1,1]) (fun e τ=>match e with
 | .normal=>G (qJW ((cxF T (OrL.k [(119,qZF js ms n m)]) 60 70 (ntmF T 70)).T.hint (cxF T (OrL.k [(119,qZF js ms n m)]) 60 70 (ntmF T 70)).me (yZ (qY T 70 [0,1,0,1,1]))) τ)
 | e=>K e (qYB ((cxF T (OrL.k [(119,qZF js ms n m)]) 60 70 (ntmF T 70)).T.hint (cxF T (OrL.k [(119,qZF js ms n m)]) 60 70 (ntmF T 70)).me (yZ (qY T 70 [0,1,0,1,1]))) τ)) (hQ js ms n m i) =
 (bif (decide (i < (n:Int))) then (bif (gEq (.lf n (fJ js)) (.lf n (fJ js)) && (inB i n && decide (n≤50))) then (bif (!decide ((jErr js n (i).toNat)=0)) then (K .ret ⟨[(1,.p 1 0),(2,.v (.n .i64 (jErr js n (i).toNat)))],[(1,.blk [.v (.lf n (fJ js)),.v (.lf m (fM ms))])]⟩)
 else (G (hQ js ms n m (vJJ .i64 (i + 1)))))
 else none)
 else (K (.exit 0) ⟨[(1,.p 1 0)],[(1,.blk [.v (.lf n (fJ js)),.v (.lf m (fM ms))])]⟩)):=by kernel_rfl
def rQ (js:Nat→J) (ms:Nat→Ms) (n m:Nat) (e:Int):St:=⟨[(1,.p 1 0),(2,.v (.n .i64 e))],[(1,.blk [.v (.lf n (fJ js)),.v (.lf m (fM ms))])]⟩
def oQ (js:Nat→J) (ms:Nat→Ms) (n m:Nat):St:=⟨[(1,.p 1 0)],[(1,.blk [.v (.lf n (fJ js)),.v (.lf m (fM ms))])]⟩
theorem lpQ (K:Cont) (js:Nat→J) (ms:Nat→Ms) (n m:Nat) (hn:n≤10):∀ (k p q:Nat),p + k=n→k < q→LF 60 (cxF T (OrL.k [(119,qZF js ms n m)]) 60 70 (ntmF T 70)) (ckF T (OrL.k [(119,qZF js ms n m)]) 60) (qY T 70 [0,1,0,1,1]) ((cxF T (OrL.k [(119,qZF js ms n m)]) 60 70 (ntmF T 70)).T.hint (cxF T (OrL.k [(119,qZF js ms n m)]) 60 70 (ntmF T 70)).me (yZ (qY T 70 [0,1,0,1,1]))) K q (hQ js ms n m p)=(bif decide (jE js n k p=0) then (K (.exit 0) (oQ js ms n m)) else (K .ret (rQ js ms n m (jE js n k p))))
 | 0,p,q + 1,hp,hq=>by
  refine (rdQ (fun σ=>LF 60 (cxF T (OrL.k [(119,qZF js ms n m)]) 60 70 (ntmF T 70)) (ckF T (OrL.k [(119,qZF js ms n m)]) 60) (qY T 70 [0,1,0,1,1]) ((cxF T (OrL.k [(119,qZF js ms n m)]) 60 70 (ntmF T 70)).T.hint (cxF T (OrL.k [(119,qZF js ms n m)]) 60 70 (ntmF T 70)).me (yZ (qY T 70 [0,1,0,1,1]))) K q σ) K js ms n m p).trans ?_;rw [vYH (show ¬ (p:Int) < (n:Int) by omega)];rfl
 | k + 1,p,q + 1,hp,hq=>by
  refine (rdQ (fun σ=>LF 60 (cxF T (OrL.k [(119,qZF js ms n m)]) 60 70 (ntmF T 70)) (ckF T (OrL.k [(119,qZF js ms n m)]) 60) (qY T 70 [0,1,0,1,1]) ((cxF T (OrL.k [(119,qZF js ms n m)]) 60 70 (ntmF T 70)).T.hint (cxF T (OrL.k [(119,qZF js ms n m)]) 60 70 (ntmF T 70)).me (yZ (qY T 70 [0,1,0,1,1]))) K q σ) K js ms n m p).trans ?_;rw [vJQ (show (p:Int) < (n:Int) by omega),yU (show p < n by omega),kK (by omega),lpQ K js ms n m hn k (p + 1) q (by omega) (by omega),toN,zQU,vJQ (show n≤50 by omega)];by_cases hq:jErr js n p=0
  ·simp only [jE,vJQ hq,vYV,vYG,Bool.not_true,vZJ]
  ·simp only [jE,vYH hq,vYV,vYG,Bool.not_false,vZJ];rfl
def hM (js:Nat→J) (ms:Nat→Ms) (n m:Nat) (i:Int):St:=⟨[(1,.p 1 0),(5,.v (.n .i64 i))],[(1,.blk [.v (.lf n (fJ js)),.v (.lf m (fM ms))])]⟩
def rM (_:Nat→J) (_:Nat→Ms) (n m:Nat) (i:Int):St:=⟨[(2,.v (.n .i64 808))],[]⟩
def oM (_:Nat→J) (_:Nat→Ms) (n m:Nat):St:=⟨[],[]⟩
def mTr {α:Type} (n:Nat) (q:Ms) (a b:α):α:=(bif (decide (q.link < 0)) then b else (bif (decide ((n:Int)≤q.link)) then b else (bif (decide (1≤q.mass)) then (bif (decide (q.mass≤65536)) then (bif (decide (q.p.x < (-4194304))) then b else (bif (decide (4194304 < q.p.x)) then b else (bif (decide (q.p.y < (-4194304))) then b else (bif (decide (4194304 < q.p.y)) then b else (bif (decide (q.p.z < (-4194304))) then b else (bif (decide (4194304 < q.p.z)) then b else a)))))) else b) else b)))
theorem xVV {α:Type} (n:Nat) (q:Ms) (a b:α):mTr n q a b=bif mokB n q then a else b:=by
 unfold mTr mokB;by_cases h:MOK n q
 ·have h':=h;obtain ⟨⟨h1,h2⟩,⟨h3,h4⟩,⟨h5,h6⟩,⟨h7,h8⟩,h9,h10⟩:=h';rw [vJQ h];simp only [vYV];simp only [Bool.cond_eq_ite,decide_eq_true_eq]
  repeat' split
  all_goals first | rfl | (exfalso; omega)
 ·rw [vYH h];unfold MOK at h;simp only [vYG];simp only [Bool.cond_eq_ite,decide_eq_true_eq]
  repeat' split
  all_goals first | rfl | (exfalso; omega) | contradiction
set_option maxRecDepth 100000 in
theorem rdM (G:St→Option (Ret × Mem)) (K:Cont) (js:Nat→J) (ms:Nat→Ms) (n m:Nat) (i:Int):qKF 60 (cxF T (OrL.k [(119,qZF js ms n m)]) 60 70 (ntmF T 70)) (ckF T (OrL.k [(119,qZF js ms n m)]) 60) (qY T 70 [0,1,0,1,1,1,1]) (fun e τ=>match e with
 | .normal=>G (qJW ((cxF T (OrL.k [(119,qZF js ms n m)]) 60 70 (ntmF T 70)).T.hint (cxF T (OrL.k [(119,qZF js ms n m)]) 60 70 (ntmF T 70)).me (yZ (qY T 70 [0,1,0,1,1,1,1]))) τ)
 | e=>K e (qYB ((cxF T (OrL.k [(119,qZF js ms n m)]) 60 70 (ntmF T 70)).T.hint (cxF T (OrL.k [(119,qZF js ms n m)]) 60 70 (ntmF T 70)).me (yZ (qY T 70 [0,1,0,1,1,1,1]))) τ)) (hM js ms n m i) =
 bif decide (i < (m:Int)) then (bif inB i m then mTr n (ms i.toNat) (G (hM js ms n m (vJJ .i64 (i + 1)))) (K .ret (rM js ms n m 0)) else none) else (K (.exit 2) (oM js ms n m)):=by kernel_rfl
theorem lpM (K:Cont) (js:Nat→J) (ms:Nat→Ms) (n m:Nat) (hm:m≤1000):∀ (k p q:Nat),p + k=m→k < q→LF 60 (cxF T (OrL.k [(119,qZF js ms n m)]) 60 70 (ntmF T 70)) (ckF T (OrL.k [(119,qZF js ms n m)]) 60) (qY T 70 [0,1,0,1,1,1,1]) ((cxF T (OrL.k [(119,qZF js ms n m)]) 60 70 (ntmF T 70)).T.hint (cxF T (OrL.k [(119,qZF js ms n m)]) 60 70 (ntmF T 70)).me (yZ (qY T 70 [0,1,0,1,1,1,1]))) K q (hM js ms n m p)=bif mAll ms n k p then (K (.exit 2) (oM js ms n m)) else (K .ret (rM js ms n m 0))
 | 0,p,q + 1,hp,hq=>by
  refine (rdM (fun σ=>LF 60 (cxF T (OrL.k [(119,qZF js ms n m)]) 60 70 (ntmF T 70)) (ckF T (OrL.k [(119,qZF js ms n m)]) 60) (qY T 70 [0,1,0,1,1,1,1]) ((cxF T (OrL.k [(119,qZF js ms n m)]) 60 70 (ntmF T 70)).T.hint (cxF T (OrL.k [(119,qZF js ms n m)]) 60 70 (ntmF T 70)).me (yZ (qY T 70 [0,1,0,1,1,1,1]))) K q σ) K js ms n m p).trans ?_;rw [vYH (show ¬ (p:Int) < (m:Int) by omega)];rfl
 | k + 1,p,q + 1,hp,hq=>by
  refine (rdM (fun σ=>LF 60 (cxF T (OrL.k [(119,qZF js ms n m)]) 60 70 (ntmF T 70)) (ckF T (OrL.k [(119,qZF js ms n m)]) 60) (qY T 70 [0,1,0,1,1,1,1]) ((cxF T (OrL.k [(119,qZF js ms n m)]) 60 70 (ntmF T 70)).T.hint (cxF T (OrL.k [(119,qZF js ms n m)]) 60 70 (ntmF T 70)).me (yZ (qY T 70 [0,1,0,1,1,1,1]))) K q σ) K js ms n m p).trans ?_;rw [vJQ (show (p:Int) < (m:Int) by omega),yU (show p < m by omega),kK (by omega),lpM K js ms n m hm k (p + 1) q (by omega) (by omega),toN,xVV];by_cases hq:mokB n (ms p)=true
  ·simp only [mAll,hq,vYV,vZH]
  ·rw [Bool.not_eq_true] at hq;simp only [mAll,hq,vYV,vYG,Bool.false_and]
set_option maxRecDepth 100000 in
theorem pxQ (js:Nat→J) (ms:Nat→Ms) (n m:Nat):qXD T (OrL.k [(119,qZF js ms n m)]) (qK [([0,1,0,1,1],uU (hQ js ms n m 0) (fun K=>bif decide (10 < (n:Int)) then none else (bif decide (jE js n n 0=0) then (K (.exit 0) (oQ js ms n m)) else (K .ret (rQ js ms n m (jE js n n 0)))))),([0,1,0,1,1,1,1],uU (hM js ms n m 0) (fun K=>bif decide (32 < (m:Int)) then none else (bif mAll ms n m 0 then (K (.exit 2) (oM js ms n m)) else (K .ret (rM js ms n m 0)))))]) 60 70 [(.a [.lf n (fJ js),.lf m (fM ms)])] =
 bif decide ((n:Int) < 1) then some (.v (.n .i64 801),[]) else (bif decide (10 < (n:Int)) then some (.v (.n .i64 801),[]) else (bif gSt (hQ js ms n m 0) (hQ js ms n m 0) then (bif decide (10 < (n:Int)) then none else (bif decide (jE js n n 0=0) then (bif decide (32 < (m:Int)) then some (.v (.n .i64 808),[]) else (bif gSt (hM js ms n m 0) (hM js ms n m 0) then (bif decide (32 < (m:Int)) then none else (bif mAll ms n m 0 then some (.v (.n .i64 0),[]) else some (.v (.n .i64 808),[]))) else none)) else some (.v (.n .i64 (jE js n n 0)),[]))) else none)):=by kernel_rfl
theorem zHY (js:Nat→J) (ms:Nat→Ms) (n m:Nat):zG Tryz.prog 70 [(.a [.lf n (fJ js),.lf m (fM ms)])] (.v (.n .i64 (rErr js ms n m))):=by
 refine uW (N:=60) (LO:=qK [([0,1,0,1,1],uU (hQ js ms n m 0) (fun K=>bif decide (10 < (n:Int)) then none else (bif decide (jE js n n 0=0) then (K (.exit 0) (oQ js ms n m)) else (K .ret (rQ js ms n m (jE js n n 0)))))),([0,1,0,1,1,1,1],uU (hM js ms n m 0) (fun K=>bif decide (32 < (m:Int)) then none else (bif mAll ms n m 0 then (K (.exit 2) (oM js ms n m)) else (K .ret (rM js ms n m 0)))))]) jQ yQ (OrL.ok (l:=[(119,qZF js ms n m)]) ⟨kXX js ms n m,trivial⟩) (fun p S hp => ?_) ?_
 ·refine qZQ (L:=qY T 70) (l:=[([0,1,0,1,1],uU (hQ js ms n m 0) (fun K=>bif decide (10 < (n:Int)) then none else (bif decide (jE js n n 0=0) then (K (.exit 0) (oQ js ms n m)) else (K .ret (rQ js ms n m (jE js n n 0)))))),([0,1,0,1,1,1,1],uU (hM js ms n m 0) (fun K=>bif decide (32 < (m:Int)) then none else (bif mAll ms n m 0 then (K (.exit 2) (oM js ms n m)) else (K .ret (rM js ms n m 0)))))]) (show AllP _ [([0,1,0,1,1],uU (hQ js ms n m 0) (fun K=>bif decide (10 < (n:Int)) then none else (bif decide (jE js n n 0=0) then (K (.exit 0) (oQ js ms n m)) else (K .ret (rQ js ms n m (jE js n n 0)))))),([0,1,0,1,1,1,1],uU (hM js ms n m 0) (fun K=>bif decide (32 < (m:Int)) then none else (bif mAll ms n m 0 then (K (.exit 2) (oM js ms n m)) else (K .ret (rM js ms n m 0)))))] from ⟨qYH fun K r hr => ?_,qYH fun K r hr => ?_,trivial⟩) p S hp
  ·cases hq:decide (10 < (n:Int)) with
   | true=>rw [hq] at hr; cases hr
   | false =>
    rw [hq] at hr;have h10:=vJY hq;exact (lpQ K js ms n m (by omega) n 0 60 (by omega) (by omega)).trans hr
  ·cases hq:decide (32 < (m:Int)) with
   | true=>rw [hq] at hr; cases hr
   | false =>
    rw [hq] at hr;have h32:=vJY hq;exact (lpM K js ms n m (by omega) m 0 60 (by omega) (by omega)).trans hr
 ·refine (pxQ js ms n m).trans ?_;unfold rErr;rw [yJ,yJ,show decide ((n:Int) < 1)=decide ((n:Int)=0) from decide_eq_decide.2 (by omega)];by_cases h0:(n:Int)=0
  ·rw [vJQ h0]; rfl
  rw [vYH h0];by_cases h10:10 < (n:Int)
  ·rw [vJQ h10]; rfl
  rw [vYH h10];by_cases hj:jE js n n 0=0
  ·rw [vJQ hj];by_cases h32:32 < (m:Int)
   ·rw [vJQ h32]; rfl
   rw [vYH h32];cases mAll ms n m 0 <;> rfl
  ·rw [vYH hj]; rfl
end Go.Proofs.YtmeldddgjfocdaaGreat.Nc
namespace Go.Proofs.YtmeldddgjfocdaaGreat.Nx
open Go.Rx Rt Go.Sx Go.RowKit Od Na Nb Nc
noncomputable def o_iValid:List PV→Option (Bool × Ret):=fun ps=>match ps with
 | [.a a']=>(ivD a').bind fun a=>some (true,.v (.b (Iv.valid a)))
 | _=>none
theorem ok_iValid:zZ Tryz.prog 145 o_iValid:=by
 intro ps r h;unfold o_iValid at h;split at h
 ·simp only [vQQ,vQZ,vQY] at h;obtain ⟨a,ha,hg,rfl⟩:=h;rw [qQF ha];exact qU (qW Tryz.func145 (by kernel_rfl) (by kernel_rfl)) rfl rfl (fun w=>uYQ _ _ w)
 ·cases h
noncomputable def L6:OrL:=(145,o_iValid) :: L5
theorem xZG:AllP (fun x:Nat × (List PV→Option (Bool × Ret))=>zZ Tryz.prog x.1 x.2) L6:=⟨ok_iValid,fZX⟩
noncomputable def o_rValid:List PV→Option (Bool × Ret):=fun ps=>match ps with
 | [.a a']=>(ivD a').bind fun a=>some (true,.v (.b (Iv.valid a)))
 | _=>none
theorem ok_rValid:zZ Tryz.prog 152 o_rValid:=by
 intro ps r h;unfold o_rValid at h;split at h
 ·simp only [vQQ,vQZ,vQY] at h;obtain ⟨a,ha,hg,rfl⟩:=h;rw [qQF ha];exact qU (qW Tryz.func152 (by kernel_rfl) (by kernel_rfl)) rfl rfl (fun w=>yHV _ _ w)
 ·cases h
noncomputable def L7:OrL:=(152,o_rValid) :: L6
theorem kZC:AllP (fun x:Nat × (List PV→Option (Bool × Ret))=>zZ Tryz.prog x.1 x.2) L7:=⟨ok_rValid,xZG⟩
def fB (bx:Nat→Iv):Nat→List PV:=fun v=>[.n .i64 (bx v).lo,.n .i64 (bx v).hi]
theorem qHA {js:Nat→J} {ms:Nat→Ms} {n m:Nat} (h:rErr js ms n m=0):1≤n∧n≤10:=by
 unfold rErr at h;by_cases h0:(n:Int)=0
 ·rw [vJQ h0] at h; cases h
 by_cases h1:10 < (n:Int)
 ·rw [vYH h0,vJQ h1] at h; cases h
 omega
def hA (bx:Nat→Iv) (k:Nat) (i:Int):St:=⟨[(0,.v (.lf k (fB bx))),(3,.v (.n .i64 i))],[]⟩
set_option maxRecDepth 100000 in
theorem rdA (G:St→Option (Ret × Mem)) (K:Cont) (bx:Nat→Iv) (k:Nat) (i:Int):zGI 60 (cxF T (OrL.k L7) 60 120 (ntmF T 120)) (ckF T (OrL.k L7) 60) (qY T 120 [0,1,0,1]) ((cxF T (OrL.k L7) 60 120 (ntmF T 120)).T.hint (cxF T (OrL.k L7) 60 120 (ntmF T 120)).me (yZ (qY T 120 [0,1,0,1]))) K G (hA bx k i) =
 (bif (decide (i < (k:Int))) then (bif (inB i k) then (bif Iv.valid (bx (i).toNat) then (G (hA bx k (vJJ .i64 (i + 1))))
 else (K .ret ⟨[(2,.v (.b false))],[]⟩))
 else none)
 else (K (.exit 0) ⟨[],[]⟩)):=by kernel_rfl
theorem lpA (K:Cont) (bx:Nat→Iv) (k:Nat) (_:k≤50):LF 60 (cxF T (OrL.k L7) 60 120 (ntmF T 120)) (ckF T (OrL.k L7) 60) (qY T 120 [0,1,0,1]) ((cxF T (OrL.k L7) 60 120 (ntmF T 120)).T.hint (cxF T (OrL.k L7) 60 120 (ntmF T 120)).me (yZ (qY T 120 [0,1,0,1]))) K 60 (hA bx k 0)=bif (allN (fun i:Nat=>Iv.valid (bx i)) k 0) then (K (.exit 0) ⟨[],[]⟩) else (K .ret ⟨[(2,.v (.b false))],[]⟩):=by
 refine (zXG (c:=k) (hA bx k) (fun i:Nat=>Iv.valid (bx i)) (K (.exit 0) ⟨[],[]⟩) (fun i:Nat=>(K .ret ⟨[(2,.v (.b false))],[]⟩)) (fun G i hi => ?_) (fun G => ?_) k 0 60 (by omega) (by omega)).trans (jZ _ _ _ _ _)
 ·refine (rdA G K bx k i).trans ?_;rw [vJQ (show (i:Int) < (k:Int) by omega),kK (by omega),yU (show i < k by omega),toN];cases Iv.valid (bx i) <;> rfl
 ·refine (rdA G K bx k k).trans ?_;rw [vYH (show ¬ (k:Int) < (k:Int) by omega)];rfl
def allV (bx:Nat→Iv) (k:Nat):Bool:=(allN (fun i:Nat=>Iv.valid (bx i)) k 0)
set_option maxRecDepth 100000 in
theorem xKB (bx:Nat→Iv) (k:Nat):qXD T (OrL.k L7) (qK [([0,1,0,1],uU (hA bx k 0) (fun K=>(bif (decide (k≤50)) then (bif (allN (fun i:Nat=>Iv.valid (bx i)) k 0) then (K (.exit 0) ⟨[],[]⟩) else (K .ret ⟨[(2,.v (.b false))],[]⟩)) else none)))]) 60 120 [.lf k (fB bx)] =
 (bif (gSt (hA bx k 0) (hA bx k 0)) then (bif (decide (k≤50)) then (bif (allN (fun i:Nat=>Iv.valid (bx i)) k 0) then some (.v (.b true),[])
 else some (.v (.b false),[]))
 else none)
 else none):=by kernel_rfl
theorem kKZ (bx:Nat→Iv) (k:Nat) (hk:k≤50):zG Tryz.prog 120 [.lf k (fB bx)] (.v (.b (allV bx k))):=by
 refine uW (N:=60) (LO:=qK [([0,1,0,1],uU (hA bx k 0) (fun K=>(bif (decide (k≤50)) then (bif (allN (fun i:Nat=>Iv.valid (bx i)) k 0) then (K (.exit 0) ⟨[],[]⟩) else (K .ret ⟨[(2,.v (.b false))],[]⟩)) else none)))]) jQ yQ (OrL.ok (l:=L7) kZC) (fun p S hp => ?_) ?_
 ·refine qZQ (L:=qY T 120) (l:=[([0,1,0,1],uU (hA bx k 0) (fun K=>(bif (decide (k≤50)) then (bif (allN (fun i:Nat=>Iv.valid (bx i)) k 0) then (K (.exit 0) ⟨[],[]⟩) else (K .ret ⟨[(2,.v (.b false))],[]⟩)) else none)))]) (show AllP _ [([0,1,0,1],uU (hA bx k 0) (fun K=>(bif (decide (k≤50)) then (bif (allN (fun i:Nat=>Iv.valid (bx i)) k 0) then (K (.exit 0) ⟨[],[]⟩) else (K .ret ⟨[(2,.v (.b false))],[]⟩)) else none)))] from ⟨qYH fun K r hr => ?_,trivial⟩) p S hp
  ·obtain ⟨hg,hr⟩:=qQ hr;have hk:=vJZ hg;exact (lpA K bx k hk).trans hr
 ·refine (xKB bx k).trans ?_;unfold allV;rw [yJ,vJQ hk];cases (allN (fun i:Nat=>Iv.valid (bx i)) k 0) <;> rfl
def unFB (f:Nat→List PV):Nat→Iv:=fun i=>match f i with
 | [.n _ lo,.n _ hi]=>⟨lo,hi⟩
 | _=>⟨0,0⟩
theorem uYD (bx:Nat→Iv):unFB (fB bx)=bx:=rfl
noncomputable def gFB (f:Nat→List PV):Bool:=@decide (f=fB (unFB f)) (vYJ _)
theorem xGY (bx:Nat→Iv):gFB (fB bx)=true:=@vJQ _ (vYJ _) rfl
noncomputable def o_av:List PV→Option (Bool × Ret):=fun ps=>match ps with
 | [.lf k f]=>some (decide (k≤50) && gFB f,.v (.b (allV (unFB f) k)))
 | _=>none
theorem fUL:zZ Tryz.prog 120 o_av:=by
 intro ps r hh;unfold o_av at hh;split at hh
 ·simp only [vQZ,vQY,vQJ] at hh;obtain ⟨⟨hk,hf⟩,rfl⟩:=hh;rename_i k f;have e:f=fB (unFB f):=@vJZ _ (vYJ _) hf
  have:=kKZ (unFB f) k (vJZ hk)
  rw [← e] at this;exact this
 ·cases hh
def isB (bx:Nat→Iv) (n k:Nat):Bool:=decide ((k:Int)=(n:Int)) && allV bx k
theorem yXY (js:Nat→J) (ms:Nat→Ms) (bx:Nat→Iv) (n m k:Nat) (_:n≤50):zG Tryz.prog 71 [.a [.lf n (fJ js),.lf m (fM ms)],.lf k (fB bx)] (.v (.b (isB bx n k))):=by
 refine qH (N:=60) jQ yQ (OrL.ok (l:=[(120,o_av)]) ⟨fUL,trivial⟩) ?_;refine (by kernel_rfl:_=bif (decide ((k:Int)=(n:Int))) then (bif (decide (k≤50) && gFB (fB bx)) then (bif (allV (unFB (fB bx)) k) then some (.v (.b true),[])
 else some (.v (.b false),[]))
 else none)
 else some (.v (.b false),[])).trans ?_
 unfold isB;by_cases e:(k:Int)=(n:Int)
 ·rw [vJQ e,vJQ (show k≤50 by omega),xGY,uYD];cases allV bx k <;> rfl
 ·rw [vYH e]; rfl
set_option maxRecDepth 100000 in
theorem xZE (a0 a1:Int):runK T (OrL.k L7) 60 144 [.a [.n .i64 a0,.n .i64 a1]] =
 some (.v (.b (!Iv.valid ⟨a0,a1⟩)),[]):=by
 refine (by kernel_rfl:_=bif Iv.valid ⟨a0,a1⟩ then some (.v (.b false),[]) else some (.v (.b true),[])).trans ?_;cases Iv.valid ⟨a0,a1⟩ <;> rfl
noncomputable def uGY:List PV→Option (Bool × Ret):=fun ps=>match ps with
 | [.a a']=>(ivD a').bind fun a=>some (true,.v (.b (!Iv.valid a)))
 | _=>none
theorem xWC:zZ Tryz.prog 144 uGY:=by
 intro ps r h;unfold uGY at h;split at h
 ·simp only [vQQ,vQZ,vQY] at h;obtain ⟨a,ha,hg,rfl⟩:=h;rw [qQF ha];exact qH (N:=60) jQ yQ (OrL.ok kZC) (xZE _ _)
 ·cases h
noncomputable def L8:OrL:=(144,uGY) :: L7
theorem xZV:AllP (fun x:Nat × (List PV→Option (Bool × Ret))=>zZ Tryz.prog x.1 x.2) L8:=⟨xWC,kZC⟩
theorem yUC {p:Nat} (_:p < 9223372036854775807):vJJ .i64 ((p:Int) + 1)=((p + 1:Nat):Int):=by rw [qX (by omega)]; omega
def hI (bx:Nat→Iv) (k:Nat) (i:Int):St:=⟨[(0,.v (.lf k (fB bx))),(1,.v (.f 144 [] [])),(7,.v (.n .i64 (k:Int))),(8,.v (.n .i64 i))],[]⟩
set_option maxRecDepth 100000 in
theorem rdI (G:St→Option (Ret × Mem)) (K:Cont) (bx:Nat→Iv) (k:Nat) (i:Int):zGI (k + 60) (cxF T (OrL.k L8) (k + 60) 167 (ntmF T 167)) (ckF T (OrL.k L8) (k + 60)) (qY T 167 [0,1,0,1]) ((cxF T (OrL.k L8) (k + 60) 167 (ntmF T 167)).T.hint (cxF T (OrL.k L8) (k + 60) 167 (ntmF T 167)).me (yZ (qY T 167 [0,1,0,1]))) K G (hI bx k i) =
 (bif (decide (i < (k:Int))) then (bif (inB i k) then (bif !Iv.valid (bx (i).toNat) then (K .ret ⟨[(4,.v (.n .i64 i))],[]⟩)
 else (G (hI bx k (vJJ .i64 (i + 1)))))
 else none)
 else (K (.exit 0) ⟨[],[]⟩)):=by kernel_rfl
theorem lpI (K:Cont) (bx:Nat→Iv) (k:Nat) (_:k≤9223372036854775807):LF (k + 60) (cxF T (OrL.k L8) (k + 60) 167 (ntmF T 167)) (ckF T (OrL.k L8) (k + 60)) (qY T 167 [0,1,0,1]) ((cxF T (OrL.k L8) (k + 60) 167 (ntmF T 167)).T.hint (cxF T (OrL.k L8) (k + 60) 167 (ntmF T 167)).me (yZ (qY T 167 [0,1,0,1]))) K (k + 60) (hI bx k 0)=bif (allN (fun i:Nat=>Iv.valid (bx i)) k 0) then (K (.exit 0) ⟨[],[]⟩) else (K .ret ⟨[(4,.v (.n .i64 ((Rx.firstK (fun i:Nat=>Iv.valid (bx i)) k 0:Nat):Int)))],[]⟩):=by
 refine (zXG (c:=k) (hI bx k) (fun i:Nat=>Iv.valid (bx i)) (K (.exit 0) ⟨[],[]⟩) (fun i:Nat=>(K .ret ⟨[(4,.v (.n .i64 (i:Int)))],[]⟩)) (fun G i hi => ?_) (fun G => ?_) k 0 (k + 60) (by omega) (by omega)).trans (qQQ _ _ _ _ _)
 ·refine (rdI G K bx k i).trans ?_;rw [vJQ (show (i:Int) < (k:Int) by omega),yUC (by omega),yU (show i < k by omega),toN];cases Iv.valid (bx i) <;> rfl
 ·refine (rdI G K bx k k).trans ?_;rw [vYH (show ¬ (k:Int) < (k:Int) by omega)];rfl
set_option maxRecDepth 100000 in
theorem fJG (bx:Nat→Iv) (k:Nat):qXD T (OrL.k L8) (qK [([0,1,0,1],uU (hI bx k 0) (fun K=>(bif (decide (k≤9223372036854775807)) then (bif (allN (fun i:Nat=>Iv.valid (bx i)) k 0) then (K (.exit 0) ⟨[],[]⟩) else (K .ret ⟨[(4,.v (.n .i64 ((Rx.firstK (fun i:Nat=>Iv.valid (bx i)) k 0:Nat):Int)))],[]⟩)) else none)))]) (k + 60) 167 [.lf k (fB bx),.f 144 [] []] =
 (bif (gSt (hI bx k 0) (hI bx k 0)) then (bif (decide (k≤9223372036854775807)) then (bif (allN (fun i:Nat=>Iv.valid (bx i)) k 0) then some (.v (.n .i64 (-1)),[])
 else some (.v (.n .i64 ((Rx.firstK (fun i:Nat=>Iv.valid (bx i)) k 0:Nat):Int)),[]))
 else none)
 else none):=by kernel_rfl
theorem uKL (bx:Nat→Iv) (k:Nat) (hk:k≤9223372036854775807):zG Tryz.prog 167 [.lf k (fB bx),.f 144 [] []] (.v (.n .i64 (bif allV bx k then -1 else ((Rx.firstK (fun i:Nat=>Iv.valid (bx i)) k 0:Nat):Int)))):=by
 refine uW (N:=(k + 60)) (LO:=qK [([0,1,0,1],uU (hI bx k 0) (fun K=>(bif (decide (k≤9223372036854775807)) then (bif (allN (fun i:Nat=>Iv.valid (bx i)) k 0) then (K (.exit 0) ⟨[],[]⟩) else (K .ret ⟨[(4,.v (.n .i64 ((Rx.firstK (fun i:Nat=>Iv.valid (bx i)) k 0:Nat):Int)))],[]⟩)) else none)))]) jQ yQ (OrL.ok (l:=L8) xZV) (fun p S hp => ?_) ?_
 ·refine qZQ (L:=qY T 167) (l:=[([0,1,0,1],uU (hI bx k 0) (fun K=>(bif (decide (k≤9223372036854775807)) then (bif (allN (fun i:Nat=>Iv.valid (bx i)) k 0) then (K (.exit 0) ⟨[],[]⟩) else (K .ret ⟨[(4,.v (.n .i64 ((Rx.firstK (fun i:Nat=>Iv.valid (bx i)) k 0:Nat):Int)))],[]⟩)) else none)))]) (show AllP _ [([0,1,0,1],uU (hI bx k 0) (fun K=>(bif (decide (k≤9223372036854775807)) then (bif (allN (fun i:Nat=>Iv.valid (bx i)) k 0) then (K (.exit 0) ⟨[],[]⟩) else (K .ret ⟨[(4,.v (.n .i64 ((Rx.firstK (fun i:Nat=>Iv.valid (bx i)) k 0:Nat):Int)))],[]⟩)) else none)))] from ⟨qYH fun K r hr => ?_,trivial⟩) p S hp
  ·obtain ⟨hg,hr⟩:=qQ hr;have hk:=vJZ hg;exact (lpI K bx k hk).trans hr
 ·refine (fJG bx k).trans ?_;unfold allV;rw [yJ,vJQ hk];cases (allN (fun i:Nat=>Iv.valid (bx i)) k 0) <;> rfl
theorem kJX (bx:Nat→Iv) (k:Nat) (hk:k≤9223372036854775807):zG Tryz.prog 143 [.lf k (fB bx),.f 144 [] []] (.v (.b (!allV bx k))):=by
 refine qH (N:=60) jQ yQ (OrL.ok (l:=[(167,o_cr [.lf k (fB bx),.f 144 [] []] (.v (.n .i64 (bif allV bx k then -1 else ((Rx.firstK (fun i:Nat=>Iv.valid (bx i)) k 0:Nat):Int)))))]) ⟨qVK (uKL bx k hk),trivial⟩) ?_;refine (by kernel_rfl:_=bif (g1 [.lf k (fB bx),.f 144 [] []]) then (bif (decide (0≤(bif allV bx k then -1 else ((Rx.firstK (fun i:Nat=>Iv.valid (bx i)) k 0:Nat):Int)))) then some (.v (.b true),[])
 else some (.v (.b false),[]))
 else none).trans ?_
 rw [g1_t];cases allV bx k with
 | true=>rfl
 | false =>
  rw [vYG,vJQ (show 0≤((Rx.firstK (fun i:Nat=>Iv.valid (bx i)) k 0:Nat):Int) by omega)];rfl
theorem uKE (js:Nat→J) (ms:Nat→Ms) (bx:Nat→Iv) (n m k:Nat) (hk:k≤9223372036854775807):zG Tryz.prog 103 [.a [.lf n (fJ js),.lf m (fM ms)],.lf k (fB bx)] (.v (.b (isB bx n k))):=by
 refine qH (N:=60) jQ yQ (OrL.ok (l:=[(143,o_cr [.lf k (fB bx),.f 144 [] []] (.v (.b (!allV bx k))))]) ⟨qVK (kJX bx k hk),trivial⟩) ?_;refine (by kernel_rfl:_=bif (decide ((k:Int)=(n:Int))) then (bif (g1 [.lf k (fB bx),.f 144 [] []]) then (bif (!allV bx k) then some (.v (.b false),[])
 else some (.v (.b true),[]))
 else none)
 else some (.v (.b false),[])).trans ?_
 unfold isB;rw [g1_t];cases decide ((k:Int)=(n:Int)) <;> cases allV bx k <;> rfl
end Go.Proofs.YtmeldddgjfocdaaGreat.Nx
namespace Go.Proofs.YtmeldddgjfocdaaGreat
open Go.Sx Go.Rx Rt Go.RowKit
namespace Tk
end Tk
open Tk
theorem en97:uV Tryz.prog 97:=qW Tryz.func97 (by kernel_rfl) (by kernel_rfl)
namespace Tk
noncomputable def qWK:List PV→Option (Bool × Ret):=fun ps=>match ps with
 | [.a z']=>(z3D z').bind fun z=>some (true,.v (.a (v3C (V3.of z))))
 | _=>none
theorem zXY:zZ Tryz.prog 79 qWK:=by
 intro ps r h;unfold qWK at h;split at h
 ·simp only [vQQ,vQZ,vQY] at h;obtain ⟨z,hz,hg,rfl⟩:=h;rw [yGD hz];exact qU (qW Tryz.func79 (by kernel_rfl) (by kernel_rfl)) rfl rfl (fun w=>uZE _ _ _ w)
 ·cases h
noncomputable def LTk1:OrL:=(79,qWK) :: ([]:OrL)
theorem xZQ:AllP (fun x:Nat × (List PV→Option (Bool × Ret))=>zZ Tryz.prog x.1 x.2) LTk1:=⟨zXY,trivial⟩
noncomputable def yQK:List PV→Option (Bool × Ret):=fun ps=>match ps with
 | [.a v']=>(v3D v').bind fun v=>some (true,.v (.a (poC (Po.shift v))))
 | _=>none
theorem jWL:zZ Tryz.prog 98 yQK:=by
 intro ps r h;unfold yQK at h;split at h
 ·simp only [vQQ,vQZ,vQY] at h;obtain ⟨v,hv,hg,rfl⟩:=h;rw [qWI hv];exact qU (qW Tryz.func98 (by kernel_rfl) (by kernel_rfl)) rfl rfl (fun w=>xKD _ _ _ _ _ _ w)
 ·cases h
noncomputable def LTk2:OrL:=(98,yQK) :: LTk1
theorem xQL:AllP (fun x:Nat × (List PV→Option (Bool × Ret))=>zZ Tryz.prog x.1 x.2) LTk2:=⟨jWL,xZQ⟩
noncomputable def yVY:List PV→Option (Bool × Ret):=fun ps=>match ps with
 | [.n .i64 k,.a a']=>(ivD a').bind fun a=>some (true,.v (.a (poC (Po.turn k a))))
 | _=>none
theorem kXU:zZ Tryz.prog 163 yVY:=by
 intro ps r h;unfold yVY at h;split at h
 ·simp only [vQQ,vQZ,vQY] at h;obtain ⟨a,ha,hg,rfl⟩:=h;rw [qQF ha];exact qU (qW Tryz.func163 (by kernel_rfl) (by kernel_rfl)) rfl rfl (fun w=>fKY _ _ _ w)
 ·cases h
noncomputable def LTk3:OrL:=(163,yVY) :: LTk2
theorem xQI:AllP (fun x:Nat × (List PV→Option (Bool × Ret))=>zZ Tryz.prog x.1 x.2) LTk3:=⟨kXU,xQL⟩
noncomputable def qJV:List PV→Option (Bool × Ret):=fun ps=>match ps with
 | []=>some (true,.v (.a (poC (Po.rest))))
 | _=>none
theorem qVJ:zZ Tryz.prog 107 qJV:=by
 intro ps r h;unfold qJV at h;split at h
 ·simp only [vQZ,vQY] at h;obtain ⟨hg,rfl⟩:=h;exact qU (qW Tryz.func107 (by kernel_rfl) (by kernel_rfl)) rfl rfl (fun w=>yJY  w)
 ·cases h
noncomputable def LTk4:OrL:=(107,qJV) :: LTk3
theorem xQF:AllP (fun x:Nat × (List PV→Option (Bool × Ret))=>zZ Tryz.prog x.1 x.2) LTk4:=⟨qVJ,xQI⟩
noncomputable def zZL:List PV→Option (Bool × Ret):=fun ps=>match ps with
 | [.a p',.a q']=>(poD p').bind fun p=>(poD q').bind fun q=>some (true,.v (.a (poC (Po.mul p q))))
 | _=>none
theorem yWV:zZ Tryz.prog 97 zZL:=by
 intro ps r h;unfold zZL at h;split at h
 ·simp only [vQQ,vQZ,vQY] at h;obtain ⟨p,hp,q,hq,hg,rfl⟩:=h;rw [zVH hp];rw [zVH hq];exact qU (qW Tryz.func97 (by kernel_rfl) (by kernel_rfl)) rfl rfl (fun w=>yHD _ _ _ _ _ _ _ _ _ _ _ _ _ _ _ _ _ _ _ _ _ _ _ _ _ _ _ _ _ _ _ _ _ _ _ _ _ _ _ _ _ _ _ _ _ _ _ _ w)
 ·cases h
noncomputable def LTk5:OrL:=(97,zZL) :: LTk4
theorem xQE:AllP (fun x:Nat × (List PV→Option (Bool × Ret))=>zZ Tryz.prog x.1 x.2) LTk5:=⟨yWV,xQF⟩
end Tk
set_option maxRecDepth 100000 in
theorem xVE (a0 a1:Int) (nm:ByteArray) (kind par ox oy oz jlo jhi we spd acc tq:Int) (w:World):Calls Tryz.prog 46 [.agg #[.string nm,.int .i64 kind,.int .i64 par,.int .i64 ox,.int .i64 oy,.int .i64 oz,.int .i64 jlo,.int .i64 jhi,.int .i64 we,.int .i64 spd,.int .i64 acc,.int .i64 tq],.agg #[.int .i64 a0,.int .i64 a1]].toArray w (Rets (po (zJA kind ⟨ox,oy,oz⟩ (⟨a0,a1⟩:Iv))) (w)) :=
 zY (x:=.a (poC (zJA kind ⟨ox,oy,oz⟩ ⟨a0,a1⟩))) (qH (N:=60) (ps:=[.a [.s nm,.n .i64 kind,.n .i64 par,.n .i64 ox,.n .i64 oy,.n .i64 oz,.n .i64 jlo,.n .i64 jhi,.n .i64 we,.n .i64 spd,.n .i64 acc,.n .i64 tq],.a [.n .i64 a0,.n .i64 a1]]) jQ yQ (OrL.ok (l:=LTk5) xQE) (by
 rcases kind with a | a
 ·rcases a with _ | _ | _ | _ | _ | _ | _ | a <;> kernel_rfl
 ·kernel_rfl)) rfl rfl w
end Go.Proofs.YtmeldddgjfocdaaGreat
namespace Go.Proofs.YtmeldddgjfocdaaGreat
open Go.Sx Go.Rx Rt Go.RowKit
namespace Tr
end Tr
open Tr
theorem en73:uV Tryz.prog 73:=qW Tryz.func73 (by kernel_rfl) (by kernel_rfl)
theorem en46:uV Tryz.prog 46:=qW Tryz.func46 (by kernel_rfl) (by kernel_rfl)
namespace Tr
noncomputable def qWJ:List PV→Option (Bool × Ret):=fun ps=>match ps with
 | [.a z']=>(z3D z').bind fun z=>some (true,.v (.a (v3C (V3.of z))))
 | _=>none
theorem zXZ:zZ Tryz.prog 49 qWJ:=by
 intro ps r h;unfold qWJ at h;split at h
 ·simp only [vQQ,vQZ,vQY] at h;obtain ⟨z,hz,hg,rfl⟩:=h;rw [yGD hz];exact qU (qW Tryz.func49 (by kernel_rfl) (by kernel_rfl)) rfl rfl (fun w=>uZX _ _ _ w)
 ·cases h
noncomputable def LTr1:OrL:=(49,qWJ) :: ([]:OrL)
theorem uHD:AllP (fun x:Nat × (List PV→Option (Bool × Ret))=>zZ Tryz.prog x.1 x.2) LTr1:=⟨zXZ,trivial⟩
noncomputable def yQY:List PV→Option (Bool × Ret):=fun ps=>match ps with
 | [.a v']=>(v3D v').bind fun v=>some (true,.v (.a (poC (Po.shift v))))
 | _=>none
theorem jWF:zZ Tryz.prog 122 yQY:=by
 intro ps r h;unfold yQY at h;split at h
 ·simp only [vQQ,vQZ,vQY] at h;obtain ⟨v,hv,hg,rfl⟩:=h;rw [qWI hv];exact qU (qW Tryz.func122 (by kernel_rfl) (by kernel_rfl)) rfl rfl (fun w=>xJB _ _ _ _ _ _ w)
 ·cases h
noncomputable def LTr2:OrL:=(122,yQY) :: LTr1
theorem uHC:AllP (fun x:Nat × (List PV→Option (Bool × Ret))=>zZ Tryz.prog x.1 x.2) LTr2:=⟨jWF,uHD⟩
noncomputable def yVZ:List PV→Option (Bool × Ret):=fun ps=>match ps with
 | [.n .i64 k,.a a']=>(ivD a').bind fun a=>some (true,.v (.a (poC (Po.turn k a))))
 | _=>none
theorem kXK:zZ Tryz.prog 121 yVZ:=by
 intro ps r h;unfold yVZ at h;split at h
 ·simp only [vQQ,vQZ,vQY] at h;obtain ⟨a,ha,hg,rfl⟩:=h;rw [qQF ha];exact qU (qW Tryz.func121 (by kernel_rfl) (by kernel_rfl)) rfl rfl (fun w=>fYZ _ _ _ w)
 ·cases h
noncomputable def LTr3:OrL:=(121,yVZ) :: LTr2
theorem uHB:AllP (fun x:Nat × (List PV→Option (Bool × Ret))=>zZ Tryz.prog x.1 x.2) LTr3:=⟨kXK,uHC⟩
noncomputable def qGC:List PV→Option (Bool × Ret):=fun ps=>match ps with
 | []=>some (true,.v (.a (poC (Po.rest))))
 | _=>none
theorem zHD:zZ Tryz.prog 94 qGC:=by
 intro ps r h;unfold qGC at h;split at h
 ·simp only [vQZ,vQY] at h;obtain ⟨hg,rfl⟩:=h;exact qU (qW Tryz.func94 (by kernel_rfl) (by kernel_rfl)) rfl rfl (fun w=>xJC  w)
 ·cases h
noncomputable def LTr4:OrL:=(94,qGC) :: LTr3
theorem uHA:AllP (fun x:Nat × (List PV→Option (Bool × Ret))=>zZ Tryz.prog x.1 x.2) LTr4:=⟨zHD,uHB⟩
noncomputable def zZI:List PV→Option (Bool × Ret):=fun ps=>match ps with
 | [.a p',.a q']=>(poD p').bind fun p=>(poD q').bind fun q=>some (true,.v (.a (poC (Po.mul p q))))
 | _=>none
theorem yWW:zZ Tryz.prog 73 zZI:=by
 intro ps r h;unfold zZI at h;split at h
 ·simp only [vQQ,vQZ,vQY] at h;obtain ⟨p,hp,q,hq,hg,rfl⟩:=h;rw [zVH hp];rw [zVH hq];exact qU (qW Tryz.func73 (by kernel_rfl) (by kernel_rfl)) rfl rfl (fun w=>yHA _ _ _ _ _ _ _ _ _ _ _ _ _ _ _ _ _ _ _ _ _ _ _ _ _ _ _ _ _ _ _ _ _ _ _ _ _ _ _ _ _ _ _ _ _ _ _ _ w)
 ·cases h
noncomputable def LTr5:OrL:=(73,zZI) :: LTr4
theorem uHH:AllP (fun x:Nat × (List PV→Option (Bool × Ret))=>zZ Tryz.prog x.1 x.2) LTr5:=⟨yWW,uHA⟩
end Tr
set_option maxRecDepth 100000 in
theorem xJG (a0 a1:Int) (nm:ByteArray) (kind par ox oy oz jlo jhi we spd acc tq:Int) (w:World):Calls Tryz.prog 72 [.agg #[.string nm,.int .i64 kind,.int .i64 par,.int .i64 ox,.int .i64 oy,.int .i64 oz,.int .i64 jlo,.int .i64 jhi,.int .i64 we,.int .i64 spd,.int .i64 acc,.int .i64 tq],.agg #[.int .i64 a0,.int .i64 a1]].toArray w (Rets (po (zJA kind ⟨ox,oy,oz⟩ (⟨a0,a1⟩:Iv))) (w)) :=
 zY (x:=.a (poC (zJA kind ⟨ox,oy,oz⟩ ⟨a0,a1⟩))) (qH (N:=60) (ps:=[.a [.s nm,.n .i64 kind,.n .i64 par,.n .i64 ox,.n .i64 oy,.n .i64 oz,.n .i64 jlo,.n .i64 jhi,.n .i64 we,.n .i64 spd,.n .i64 acc,.n .i64 tq],.a [.n .i64 a0,.n .i64 a1]]) jQ yQ (OrL.ok (l:=LTr5) uHH) (by
 rcases kind with a | a
 ·rcases a with _ | _ | _ | _ | _ | _ | _ | a <;> kernel_rfl
 ·kernel_rfl)) rfl rfl w
end Go.Proofs.YtmeldddgjfocdaaGreat
namespace Go.Proofs.YtmeldddgjfocdaaGreat
open Go.Sx
theorem yKD:qGW Tryz.prog 25 0 0=true:=by kernel_rfl
theorem ty22:tyB Tryz.prog 22 false 1=true:=by kernel_rfl
theorem sl22:slcB Tryz.prog 22 105 12=true:=by kernel_rfl
theorem ty25:tyB Tryz.prog 25 true 2=true:=by kernel_rfl
theorem yQC {k:Nat} (_:k≤1000000):vJJ .i64 ((k:Int) + 1)=((k + 1:Nat):Int):=by
 refine (qX ?_).trans ?_ <;> omega
end Go.Proofs.YtmeldddgjfocdaaGreat
namespace Go.Proofs.YtmeldddgjfocdaaGreat
open Go.Sx
theorem uHY:appB Tryz.prog 69 68 24 192=true:=by kernel_rfl
theorem xVD  (aj am ab:Option Addr) (cj nm cm cb n:Nat) (js:List J) (bx:List Iv) (hn:n≤1000) (hjn:js.length=n) (hbn:bx.length=n) (hpar:∀ (k:Nat) (j:J),js[k]? = some j → -1≤j.parent∧j.parent < k) (w:World) (hS:qJA 12 aj (js.map jc) w) (hT:qJA 2 ab (bx.map ivc) w):Calls Tryz.prog 105 [.agg #[.slice aj n cj,.slice am nm cm],.slice ab n cb].toArray w (kHX (X:=Nat) (fun _=>True) (fun b=>.slice (some ⟨b,0,none⟩) n n) (fun b=>qJA 24 (some ⟨b,0,none⟩) ((lks js bx n).map pc)) w):=by
 refine kZ (n:=47) Tryz.func105 rfl rfl rfl ?_;refine zU ?_;refine qJ ?_;refine qVW 2 rfl rfl rfl rfl ?_; intro b2;refine qG (zJ rfl) rfl rfl rfl ?_;refine zX ?_;refine qZ ?_;refine zU ?_;refine qJ ?_;refine qG (zV yKD rfl) rfl rfl rfl ?_;refine qG (jJ 2 ty22 rfl rfl rfl) rfl rfl rfl ?_;refine qG (qWZ sl22 rfl) rfl rfl rfl ?_;refine kGH 11 (zKU uHY ze68) rfl (by omega) (by omega) rfl rfl ?_; intro b11;refine qG (zJ rfl) rfl rfl rfl ?_;refine zX ?_;refine qZ ?_;refine zU ?_;refine zU ?_;refine qJ ?_;refine qG (zV yKD rfl) rfl rfl rfl ?_;refine qG (jJ 2 ty22 rfl rfl rfl) rfl rfl rfl ?_;refine qG (qWZ sl22 rfl) rfl rfl rfl ?_;refine qG (qV rfl) rfl rfl rfl ?_;refine zX ?_;refine qZ ?_;refine qJF ?_;refine yKI [1,2,5,13,14] [2] (α:=Nat × List Po) (fun x=>n - x.1) (fun x=>x.1≤n∧lks js bx x.1=x.2∧x.2.length=x.1) (fun x=>⟨w,[(11,(· = b11),yZD b11 24 68 (lkR x.2 (n - x.1)))]⟩) (fun x=>[(15,.int .i64 (x.1:Int))]) (fun _=>[]) (0,[]) rfl rfl ?_ ?_ ?_ ?_ rfl ?_
 ·
  exact ⟨Nat.zero_le _,rfl,rfl⟩
 ·
  exact rfl
 ·
  repeat' first | exact trivial | exact True.intro | refine ⟨rfl,?_⟩
 ·
  repeat' first | exact trivial | exact True.intro | refine ⟨rfl,?_⟩
 rintro ⟨k,ps⟩ ⟨hk,hps,hlen⟩
 dsimp only at hk hps hlen ⊢;subst hlen;refine zU ?_;refine qJ ?_;refine qG (qKB rfl rfl) rfl rfl rfl ?_;refine zX ?_;refine qZ ?_;refine zU ?_;refine qJK rfl (fun hc16 => ?_) (fun hc16 => ?_)
 ·
  have h2:ps.length < n:=by have:=vJZ hc16; omega
  obtain ⟨j,hjk⟩:∃ j,js[ps.length]? = some j:=⟨_,vQK (by omega)⟩
  obtain ⟨a,hak⟩:∃ a,bx[ps.length]? = some a:=⟨_,vQK (by omega)⟩
  have hj:(js.map jc)[ps.length]? = some (jc j):=by rw [vZY,hjk]; rfl
  have ha:(bx.map ivc)[ps.length]? = some (ivc a):=by rw [vZY,hak]; rfl
  have hpj:=hpar _ j hjk;obtain ⟨m,hm⟩:∃ m,n - ps.length=m + 1:=⟨n - ps.length - 1,by omega⟩
  rw [hm];have hz:(lkR ps (m + 1))[ps.length]? = some zRow:=by unfold lkR; rw [List.getElem?_append_right (by simp)]; simp
  refine qZJ ?_;refine qZ ?_;refine zU ?_;refine qJF ?_;refine zU ?_;refine qJ ?_;refine qG (qV rfl) rfl rfl rfl ?_;refine qG (qZB (e:=105) (qQJ hS) (by kernel_rfl) rfl rfl rfl hj h2) rfl rfl rfl ?_;refine qG (qKQ (vs:=[.string j.name,.int .i64 j.kind,.int .i64 j.parent,.int .i64 j.off.x,.int .i64 j.off.y,.int .i64 j.off.z,.int .i64 j.lo,.int .i64 j.hi,.int .i64 j.weight,.int .i64 j.speed,.int .i64 j.accel,.int .i64 j.torque]) ps.length 0 (qQJ hS) hj kYJ rfl rfl) rfl rfl rfl ?_;refine qUA 7 fZV rfl rfl rfl ?_; intro b7;refine qG (zJ rfl) rfl rfl rfl ?_;refine qYK 7 kYJ rfl rfl rfl rfl rfl rfl rfl rfl ?_;refine zX ?_;refine qZ ?_;refine zU ?_;refine qKW 8 mo (by kernel_rfl) ?_;simp only [vYK,vYX,vYU,vYW];refine jG (qV rfl) rfl rfl rfl ?_;refine jG (qV rfl) rfl rfl rfl ?_;refine jG (qYY 7 kYJ rfl rfl rfl) rfl rfl rfl ?_;refine jG (qV rfl) rfl rfl rfl ?_;refine jG (qV rfl) rfl rfl rfl ?_;refine jG (qZB (e:=62) (qQJ hT) (by kernel_rfl) rfl rfl rfl ha h2) rfl rfl rfl ?_;refine jG (qKQ (vs:=[.int .i64 a.lo,.int .i64 a.hi]) ps.length 0 (qQJ hT) ha ty62 rfl rfl) rfl rfl rfl ?_;refine zWJ (F:=po) (uK en46 rfl (fun w _=>xVE _ _ _ _ _ _ _ _ _ _ _ _ _ _ w)) rfl rfl rfl ?_; intro r27 hr27;refine qVV ?_;refine qUF ?_;refine qG (qZB (e:=68) ((qWV (id:=11) rfl).imp qUW) (by kernel_rfl) rfl rfl rfl hz h2) rfl rfl rfl ?_;refine zJW (vs:=pc r27) (j:=ps.length) 11 ty68 rfl rfl rfl (by simp [lkR]) rfl rfl rfl rfl ?_; intro R28 hR28;obtain rfl:=Option.some.inj hR28;rw [uGX];refine zX ?_;refine qZ ?_;refine zU ?_;refine qJ ?_;refine qG (zV yZK rfl) rfl rfl rfl ?_;refine qG (jJ 7 ty3 rfl rfl rfl) rfl rfl rfl ?_;refine qG (zXQ rfl rfl) rfl rfl rfl ?_;refine zX ?_;refine qZ ?_;refine qJK rfl (fun hc31 => ?_) (fun hc31 => ?_)
  ·
   have hp:¬ j.parent = -1:=by simpa using hc31
   have hpl:j.parent.toNat < ps.length:=by omega
   have hpn:j.parent=((j.parent.toNat:Nat):Int):=by omega
   refine qKW 12 mo (by kernel_rfl) ?_;simp only [vYK,vYX,vYU,vYW];refine jG (qV rfl) rfl rfl rfl ?_;refine jG (qV rfl) rfl rfl rfl ?_;refine jG (qV rfl) rfl rfl rfl ?_;refine jG (zV yZK rfl) rfl rfl rfl ?_;refine jG (jJ 7 ty3 rfl rfl rfl) rfl rfl rfl ?_;refine jG (qZB (e:=68) ((qWV (id:=11) rfl).imp qUW) (by kernel_rfl) rfl rfl hpn (uZI hpl) (by omega)) rfl rfl rfl ?_;refine jG (qKQ (vs:=pc (ps.getD j.parent.toNat Po.rest)) j.parent.toNat 0 ((qWV (id:=11) rfl).imp qUW) (uZI hpl) ty68 rfl rfl) rfl rfl rfl ?_;refine jG (qV rfl) rfl rfl rfl ?_;refine jG (qV rfl) rfl rfl rfl ?_;refine jG (qZB (e:=68) ((qWV (id:=11) rfl).imp qUW) (by kernel_rfl) rfl rfl rfl jHQ h2) rfl rfl rfl ?_;refine jG (qKQ (vs:=pc r27) ps.length 0 ((qWV (id:=11) rfl).imp qUW) jHQ ty68 rfl rfl) rfl rfl rfl ?_;refine zWJ (F:=po) (uK en97 rfl (fun w _=>yHD _ _ _ _ _ _ _ _ _ _ _ _ _ _ _ _ _ _ _ _ _ _ _ _ _ _ _ _ _ _ _ _ _ _ _ _ _ _ _ _ _ _ _ _ _ _ _ _  w)) rfl rfl rfl ?_; intro r43 hr43;refine qVV ?_;refine qUF ?_;refine qG (qZB (e:=68) ((qWV (id:=11) rfl).imp qUW) (by kernel_rfl) rfl rfl rfl jHQ h2) rfl rfl rfl ?_;refine zJW (vs:=pc r43) (j:=ps.length) 11 ty68 rfl rfl rfl (by simp [lkR]) rfl rfl rfl rfl ?_; intro R44 hR44;obtain rfl:=Option.some.inj hR44;rw [kGY];refine zX ?_;refine uY ?_;refine qZ ?_;refine qJ ?_;refine qG (qJQ rfl rfl (yQC (by omega))) rfl rfl rfl ?_;refine qG (qV rfl) rfl rfl rfl ?_;refine zX ?_;refine qVC (ps.length + 1,ps ++ [r43]) (by refine ⟨?_,?_,?_⟩ <;> dsimp only; omega; rw [zKX hjk hak,hps]; exact congrArg (fun x=>ps ++ [x]) ((if_neg hp).trans (by rw [show r43=Po.mul (ps.getD j.parent.toNat Po.rest) r27 from hr43,hr27]; try rfl)); simp) (by show n - (ps.length + 1) < n - ps.length; omega) (by dsimp only; rw [show n - (ps.length + 1)=m by omega,← jZQ]; try rfl) ?_ ?_ rfl
   repeat' first | exact trivial | exact True.intro | refine ⟨rfl,?_⟩
  ·
   have hp:j.parent = -1:=by simpa using hc31
   refine qZJ ?_;refine uY ?_;refine qZ ?_;refine qJ ?_;refine qG (qJQ rfl rfl (yQC (by omega))) rfl rfl rfl ?_;refine qG (qV rfl) rfl rfl rfl ?_;refine zX ?_;refine qVC (ps.length + 1,ps ++ [r27]) (by refine ⟨?_,?_,?_⟩ <;> dsimp only; omega; rw [zKX hjk hak,hps]; exact congrArg (fun x=>ps ++ [x]) ((if_pos hp).trans hr27.symm); simp) (by show n - (ps.length + 1) < n - ps.length; omega) (by dsimp only; rw [show n - (ps.length + 1)=m by omega,← jZQ]; try rfl) ?_ ?_ rfl
   repeat' first | exact trivial | exact True.intro | refine ⟨rfl,?_⟩
 ·
  have h2:ps.length=n:=by have:=vJY hc16; omega
  refine yZH ?_;refine qYW ?_;refine qYW ?_;refine qUV ?_;refine qZ ?_;refine zU ?_;refine qJ ?_;refine qG (qV rfl) rfl rfl rfl ?_;refine qG (zJ rfl) rfl rfl rfl ?_;refine zX ?_;refine qZ ?_;refine qQH ?_;refine zHW (rs:=[.tmp 4]) rfl (resC (qQW rfl) (resN)) rfl ?_;intro w2 k2;obtain ⟨_,q2,q3⟩:=k2.facts _ vZQ;refine ⟨b11,trivial,rfl,k2.grow,ownD _,uUB _ _ _,fun z hz => ?_,?_⟩
  ·obtain ⟨ad,h1,h2⟩:=hz;cases h1;subst h2;exact ⟨(q2 _ rfl).1,(q2 _ rfl).2.1⟩
  ·have q4:=qUW _ q3;rw [← h2,hps]
   simpa [lkR,h2] using q4
end Go.Proofs.YtmeldddgjfocdaaGreat
namespace Go.Proofs.YtmeldddgjfocdaaGreat
open Go.Sx
theorem en70:uV Tryz.prog 70:=qW Tryz.func70 (by kernel_rfl) (by kernel_rfl)
theorem en71:uV Tryz.prog 71:=qW Tryz.func71 (by kernel_rfl) (by kernel_rfl)
theorem sl30:slcB Tryz.prog 30 62 2=true:=by kernel_rfl
theorem en72:uV Tryz.prog 72:=qW Tryz.func72 (by kernel_rfl) (by kernel_rfl)
theorem sl69:slcB Tryz.prog 69 68 24=true:=by kernel_rfl
def plC (ps:List Po):List Value:=(ps.map pc).flatten
theorem yHC (ps:List Po) (p:Po):plC (ps ++ [p])=plC ps ++ pc p:=by simp [plC]
theorem uZV {m e cap k:Nat} {a:Option Addr} {ps:List Po} {w:World} (hl:ps.length=k) (h:OwnF m e 24 a cap k (plC ps) w):qJA 24 a (ps.map pc) w :=
 zHV (rows:=ps.map pc) (fun r hr=>by obtain ⟨p,_,rfl⟩:=List.mem_map.1 hr; rfl) (by rw [List.length_map,hl]; exact h)
theorem xKC {ps:List Po} {i:Nat} (h:i < ps.length):(ps.map pc)[i]? = some (pc (ps.getD i Po.rest)):=by
 rw [vZY];simp [vZG,h]
theorem xJV  (aj am ab:Option Addr) (cj nm cm cb n:Nat) (js:List J) (bx:List Iv) (hn:n≤1000) (hjn:js.length=n) (hbn:bx.length=n) (hpar:∀ (k:Nat) (j:J),js[k]? = some j → -1≤j.parent∧j.parent < k) (w:World) (hS:qJA 12 aj (js.map jc) w) (hT:qJA 2 ab (bx.map ivc) w) (hC:∀ w':World,Grow w w'→Calls Tryz.prog 70 [.agg #[.slice aj n cj,.slice am nm cm]].toArray w' (Rets (vI (0:Int)) w')) (hB:∀ w':World,Grow w w'→Calls Tryz.prog 71 [.agg #[.slice aj n cj,.slice am nm cm],.slice ab n cb].toArray w' (Rets (vB true) w')):Calls Tryz.prog 25 [.agg #[.slice aj n cj,.slice am nm cm],.slice ab n cb].toArray w (kHX (X:=Option Addr × Nat) (fun _=>True) (fun x=>.slice x.1 n x.2) (fun x=>OwnF 0 68 24 x.1 x.2 n (plC (lks js bx n))) w):=by
 refine kZ (n:=56) Tryz.func25 rfl rfl rfl ?_;refine zU ?_;refine qJ ?_;refine qVW 2 rfl rfl rfl rfl ?_; intro b2;refine qG (zJ rfl) rfl rfl rfl ?_;refine zX ?_;refine qZ ?_;refine zU ?_;refine zU ?_;refine qJ ?_;refine qG (qYY 2 ty25 rfl rfl rfl) rfl rfl rfl ?_;refine qKD (F:=vI) (uK en70 rfl (fun w' k=>hC w' k.grow)) rfl rfl rfl ?_; intro r9 hr9;refine qG (zXQ rfl rfl) rfl rfl rfl ?_;refine qG (qV rfl) rfl rfl rfl ?_;refine kQB 11 rfl (by rw [hr9]; rfl) ?_;refine qG (qYY 2 ty25 rfl rfl rfl) rfl rfl rfl ?_;refine qG (qV rfl) rfl rfl rfl ?_;refine qKD (F:=vB) (uK en71 rfl (fun w' k=>hB w' k.grow)) rfl rfl rfl ?_; intro r14 hr14;refine qG (zUL rfl) rfl rfl rfl ?_;refine qG (zZH rfl rfl rfl rfl) rfl rfl rfl ?_;refine zX ?_;refine qZ ?_;refine qGQ rfl (by rw [hr14]; rfl) ?_;refine qZJ ?_;refine qZ ?_;refine zU ?_;refine qJ ?_;refine qG (zJ rfl) rfl rfl rfl ?_;refine zX ?_;refine qZ ?_;refine zU ?_;refine zU ?_;refine uGE 100 68 24 ?_;refine qJ ?_;refine qG (zJ rfl) rfl rfl rfl ?_;refine zX ?_;refine qZ ?_;refine qJF ?_;refine yKI [1,2] [2] (α:=Nat × Option Addr × Nat × List Po) (fun x=>n - x.1) (fun x=>x.1≤n∧lks js bx x.1=x.2.2.2∧x.2.2.2.length=x.1) (fun x=>⟨w,[(100,ownD x.2.1,OwnF 0 68 24 x.2.1 x.2.2.1 x.1 (plC x.2.2.2))]⟩) (fun x=>[(5,.slice x.2.1 x.1 x.2.2.1),(6,.int .i64 (x.1:Int))]) (fun _=>[]) (0,none,0,[]) rfl rfl ?_ ?_ ?_ ?_ rfl ?_
 ·
  exact ⟨Nat.zero_le _,rfl,rfl⟩
 ·
  exact rfl
 ·
  repeat' first | exact trivial | exact True.intro | refine ⟨rfl,?_⟩
 ·
  repeat' first | exact trivial | exact True.intro | refine ⟨rfl,?_⟩
 rintro ⟨k,a,cap,ps⟩ ⟨hk,hps,hlen⟩
 dsimp only at hk hps hlen ⊢;refine zU ?_;refine zU ?_;refine qJ ?_;refine qG (qV rfl) rfl rfl rfl ?_;refine qG (qV rfl) rfl rfl rfl ?_;refine qG (qWZ sl30 rfl) rfl rfl rfl ?_;refine qG (qKB rfl rfl) rfl rfl rfl ?_;refine zX ?_;refine qZ ?_;refine qJK rfl (fun hc20 => ?_) (fun hc20 => ?_)
 ·
  have h2:k < n:=by have:=vJZ hc20; omega
  obtain ⟨j,hjk⟩:∃ j,js[k]? = some j:=⟨_,vQK (by omega)⟩
  obtain ⟨b,hak⟩:∃ b,bx[k]? = some b:=⟨_,vQK (by omega)⟩
  have hj:(js.map jc)[k]? = some (jc j):=by rw [vZY,hjk]; rfl
  have hbk:(bx.map ivc)[k]? = some (ivc b):=by rw [vZY,hak]; rfl
  have hpj:=hpar _ j hjk;refine qZJ ?_;refine qZ ?_;refine zU ?_;refine qJF ?_;refine zU ?_;refine qKW 11 mo (by kernel_rfl) ?_;simp only [vYK,vYX,vYU,vYW];refine jG (zV yKD rfl) rfl rfl rfl ?_;refine jG (jJ 2 ty22 rfl rfl rfl) rfl rfl rfl ?_;refine jG (qV rfl) rfl rfl rfl ?_;refine jG (qZB (e:=105) (qQJ hS) (by kernel_rfl) rfl rfl rfl hj h2) rfl rfl rfl ?_;refine jG (qKQ (vs:=[.string j.name,.int .i64 j.kind,.int .i64 j.parent,.int .i64 j.off.x,.int .i64 j.off.y,.int .i64 j.off.z,.int .i64 j.lo,.int .i64 j.hi,.int .i64 j.weight,.int .i64 j.speed,.int .i64 j.accel,.int .i64 j.torque]) k 0 (qQJ hS) hj kYJ rfl rfl) rfl rfl rfl ?_;refine jG (qV rfl) rfl rfl rfl ?_;refine jG (qV rfl) rfl rfl rfl ?_;refine jG (qZB (e:=62) (qQJ hT) (by kernel_rfl) rfl rfl rfl hbk h2) rfl rfl rfl ?_;refine jG (qKQ (vs:=[.int .i64 b.lo,.int .i64 b.hi]) k 0 (qQJ hT) hbk ty62 rfl rfl) rfl rfl rfl ?_;refine zWJ (F:=po) (uK en72 rfl (fun w _=>xJG _ _ _ _ _ _ _ _ _ _ _ _ _ _ w)) rfl rfl rfl ?_; intro r32 hr32;refine kQC ze68 rfl rfl rfl rfl ?_;refine qVV ?_;refine jYB 7 rfl ?_; intro b7_2;refine qUF ?_;refine qYK 7 ty68 rfl rfl rfl rfl rfl rfl rfl rfl ?_;refine zX ?_;refine qZ ?_;refine zU ?_;refine zU ?_;refine qJ ?_;refine qG (zV yKD rfl) rfl rfl rfl ?_;refine qG (jJ 2 ty22 rfl rfl rfl) rfl rfl rfl ?_;refine qG (qV rfl) rfl rfl rfl ?_;refine qG (qZB (e:=105) (qQJ hS) (by kernel_rfl) rfl rfl rfl hj h2) rfl rfl rfl ?_;refine qG (zVD (qQJ hS) hj yZK rfl) rfl rfl rfl ?_;refine qG (zVC k 2 (qQJ hS) hj ty3 rfl rfl) rfl rfl rfl ?_;refine qG (zXQ rfl rfl) rfl rfl rfl ?_;refine zX ?_;refine qZ ?_;refine qJK rfl (fun hc39 => ?_) (fun hc39 => ?_)
  ·
   have hp:¬ j.parent = -1:=by simpa using hc39
   have hpl:j.parent.toNat < ps.length:=by omega
   have hpn:j.parent=((j.parent.toNat:Nat):Int):=by omega
   refine qKW 11 mo (by kernel_rfl) ?_;simp only [vYK,vYX,vYU,vYW];refine jG (qV rfl) rfl rfl rfl ?_;refine jG (zV yKD rfl) rfl rfl rfl ?_;refine jG (jJ 2 ty22 rfl rfl rfl) rfl rfl rfl ?_;refine jG (qV rfl) rfl rfl rfl ?_;refine jG (qZB (e:=105) (qQJ hS) (by kernel_rfl) rfl rfl rfl hj h2) rfl rfl rfl ?_;refine jG (zVD (qQJ hS) hj yZK rfl) rfl rfl rfl ?_;refine jG (zVC k 2 (qQJ hS) hj ty3 rfl rfl) rfl rfl rfl ?_;refine jG (qZB (e:=68) ((qWV (id:=100) rfl).imp (fun _ h=>uZV hlen h)) (by kernel_rfl) rfl rfl hpn (xKC hpl) (by omega)) rfl rfl rfl ?_;refine jG (qKQ (vs:=pc (ps.getD j.parent.toNat Po.rest)) j.parent.toNat 0 ((qWV (id:=100) rfl).imp (fun _ h=>uZV hlen h)) (xKC hpl) ty68 rfl rfl) rfl rfl rfl ?_;refine jG (qYY 7 ty68 rfl rfl rfl) rfl rfl rfl ?_;refine zWJ (F:=po) (uK en73 rfl (fun w _=>yHA _ _ _ _ _ _ _ _ _ _ _ _ _ _ _ _ _ _ _ _ _ _ _ _ _ _ _ _ _ _ _ _ _ _ _ _ _ _ _ _ _ _ _ _ _ _ _ _  w)) rfl rfl rfl ?_; intro r50 hr50;refine qVV ?_;refine qUF ?_;refine qYK 7 ty68 rfl rfl rfl rfl rfl rfl rfl rfl ?_;refine zX ?_;refine qZ ?_;refine qJ ?_;refine qG (qV rfl) rfl rfl rfl ?_;refine qG (qYY 7 ty68 rfl rfl rfl) rfl rfl rfl ?_;refine zGW 53 sl69 ze68 rfl rfl rfl rfl rfl rfl rfl rfl ?_; intro b53;refine zGV (id2:=53) 100 uHY rfl rfl rfl rfl rfl rfl rfl (by omega) (by omega) rfl rfl ?_; intro a54 c54 R54 hR54;obtain rfl:=Option.some.inj hR54;refine qG (zJ rfl) rfl rfl rfl ?_;refine zX ?_;refine uY ?_;refine qZ ?_;refine qJ ?_;refine qG (qV rfl) rfl rfl rfl ?_;refine qG (qJQ rfl rfl (yQC (by omega))) rfl rfl rfl ?_;refine qG (zJ rfl) rfl rfl rfl ?_;refine zX ?_;refine qVC (k + 1,a54,c54,ps ++ [r50]) (by refine ⟨?_,?_,?_⟩ <;> dsimp only; omega; rw [zKX hjk hak,hps]; exact congrArg (fun x=>ps ++ [x]) ((if_neg hp).trans (by rw [show r50=Po.mul (ps.getD j.parent.toNat Po.rest) r32 from hr50,hr32]; try rfl)); simp [hlen]) (by show n - (k + 1) < n - k; omega) (by dsimp only; rw [yHC]; rfl) ?_ ?_ rfl
   repeat' first | exact trivial | exact True.intro | refine ⟨rfl,?_⟩
  ·
   have hp:j.parent = -1:=by simpa using hc39
   refine qZJ ?_;refine qZ ?_;refine qJ ?_;refine qG (qV rfl) rfl rfl rfl ?_;refine qG (qYY 7 ty68 rfl rfl rfl) rfl rfl rfl ?_;refine zGW 53 sl69 ze68 rfl rfl rfl rfl rfl rfl rfl rfl ?_; intro b53;refine zGV (id2:=53) 100 uHY rfl rfl rfl rfl rfl rfl rfl (by omega) (by omega) rfl rfl ?_; intro a54 c54 R54 hR54;obtain rfl:=Option.some.inj hR54;refine qG (zJ rfl) rfl rfl rfl ?_;refine zX ?_;refine uY ?_;refine qZ ?_;refine qJ ?_;refine qG (qV rfl) rfl rfl rfl ?_;refine qG (qJQ rfl rfl (yQC (by omega))) rfl rfl rfl ?_;refine qG (zJ rfl) rfl rfl rfl ?_;refine zX ?_;refine qVC (k + 1,a54,c54,ps ++ [r32]) (by refine ⟨?_,?_,?_⟩ <;> dsimp only; omega; rw [zKX hjk hak,hps]; exact congrArg (fun x=>ps ++ [x]) ((if_pos hp).trans hr32.symm); simp [hlen]) (by show n - (k + 1) < n - k; omega) (by dsimp only; rw [yHC]; rfl) ?_ ?_ rfl
   repeat' first | exact trivial | exact True.intro | refine ⟨rfl,?_⟩
 ·
  obtain rfl:k=n:=by have:=vJY hc20; omega
  refine yZH ?_;refine qYW ?_;refine qYW ?_;refine qUV ?_;refine qZ ?_;refine zU ?_;refine qJ ?_;refine qG (qV rfl) rfl rfl rfl ?_;refine qG (zJ rfl) rfl rfl rfl ?_;refine zX ?_;refine qZ ?_;refine qQH ?_;refine zHW (rs:=[.tmp 4]) rfl (resC (qQW rfl) (resN)) rfl ?_;intro w2 k2;obtain ⟨_,q2,q3⟩:=k2.facts _ vZQ;exact ⟨(a,cap),trivial,rfl,k2.grow,ownD a,yXF _ _ _ _ _ _ _,fun z hz=>⟨(q2 z hz).1,(q2 z hz).2.1⟩,by dsimp only; rw [hps]; exact q3⟩
end Go.Proofs.YtmeldddgjfocdaaGreat
namespace Go.Proofs.YtmeldddgjfocdaaGreat.Nf
open Go.Rx Rt Go.Sx Go.RowKit Od Na Nb Nc Nx
theorem xHU {i:Int} {j:J} (h:cjT (fun e=>e) i j=0) : -1≤j.parent∧j.parent < i:=by
 unfold cjT at h;by_cases h1:j.kind < 0
 ·rw [vJQ h1,vYV] at h; exact absurd h (by decide)
 by_cases h2:6 < j.kind
 ·rw [vYH h1,vYG,vJQ h2,vYV] at h; exact absurd h (by decide)
 by_cases h3:j.parent < -1
 ·rw [vYH h1,vYG,vYH h2,vYG,vJQ h3,vYV] at h; exact absurd h (by decide)
 by_cases h4:i≤j.parent
 ·rw [vYH h1,vYG,vYH h2,vYG,vYH h3,vYG,vJQ h4,vYV] at h; exact absurd h (by decide)
 omega
theorem jHU {js:Nat→J} {n i:Nat} (h:jErr js n i=0):cjT (fun e=>e) i (js i)=0:=by
 unfold jErr at h;cases h1:nmB (js i).name with
 | false=>rw [h1] at h; exact absurd (show (802:Int)=0 from h) (by decide)
 | true =>
  cases h2:dup js (js i).name i 0 with
  | true=>rw [h1,h2] at h; exact absurd (show (802:Int)=0 from h) (by decide)
  | false=>rw [h1,h2] at h; exact h
theorem jHX {js:Nat→J} {n:Nat}:∀ {k p:Nat},jE js n k p=0→∀ i,p≤i→i < p + k→jErr js n i=0
 | 0,p,_,i,h1,h2=>by omega
 | k + 1,p,h,i,h1,h2=>by
  unfold jE at h;by_cases hp:jErr js n p=0
  ·rw [vJQ hp,vYV] at h;rcases Nat.eq_or_lt_of_le h1 with e | e
   ·exact e ▸ hp
   ·exact jHX h i e (by omega)
  ·rw [vYH hp,vYG] at h;exact absurd h hp
theorem jXI {js:Nat→J} {ms:Nat→Ms} {n m:Nat} (h:rErr js ms n m=0):jE js n n 0=0:=by
 have hn:=qHA h;unfold rErr at h;rw [vYH (show ¬ (n:Int)=0 by omega),vYH (show ¬ 10 < (n:Int) by omega),vYG,vYG] at h;by_cases hj:jE js n n 0=0
 ·exact hj
 ·rw [vYH hj,vYG] at h; exact h
theorem yHW {js:Nat→J} {ms:Nat→Ms} {n m:Nat} (h:rErr js ms n m=0):∀ i,i < n → -1≤(js i).parent∧(js i).parent < (i:Int):=fun i hi =>
 xHU (jHU (jHX (jXI h) i (Nat.zero_le _) (by omega)))
def jl (js:Nat→J) (n:Nat):List J:=(List.range n).map js
def ml (ms:Nat→Ms) (m:Nat):List Ms:=(List.range m).map ms
def bl (bx:Nat→Iv) (k:Nat):List Iv:=(List.range k).map bx
theorem jl_e (js:Nat→J) (n:Nat):(jl js n).map jp=(List.range n).map (fJ js):=by unfold jl; rw [List.map_map]; rfl
theorem ml_e (ms:Nat→Ms) (m:Nat):(ml ms m).map mp=(List.range m).map (fM ms):=by unfold ml; rw [List.map_map]; rfl
theorem bl_e (bx:Nat→Iv) (k:Nat):(bl bx k).map Rx.ivC=(List.range k).map (fB bx):=by unfold bl; rw [List.map_map]; rfl
theorem yKY (js:Nat→J) (n:Nat):(jl js n).length=n:=by simp [jl]
theorem xVU (ms:Nat→Ms) (m:Nat):(ml ms m).length=m:=by simp [ml]
theorem jYQ (bx:Nat→Iv) (k:Nat):(bl bx k).length=k:=by simp [bl]
theorem xVF {js:Nat→J} {n i:Nat} {j:J} (h:(jl js n)[i]? = some j):i < n∧j=js i:=by
 have hl:=(List.getElem?_eq_some_iff.1 h).1;rw [yKY] at hl;unfold jl at h;rw [vZY,List.getElem?_range hl] at h;cases h;exact ⟨hl,rfl⟩
theorem uZU {js:Nat→J} {ms:Nat→Ms} {n m:Nat} {F:Nat→Prop} {w:World} {v:Value} (hF:∀ k,F k→k < w.heap.size) (h:RP F w (.a [.lf n (fJ js),.lf m (fM ms)]) v):∃ aj cj am cm,v=.agg #[.slice aj n cj,.slice am m cm]∧qJA 12 aj ((jl js n).map jc) w∧qJA 5 am ((ml ms m).map mc) w:=by
 obtain ⟨vs,rfl,ha⟩:=kKG h;obtain ⟨v1,vs,rfl,h1,ha⟩:=qKV ha;obtain ⟨v2,vs,rfl,h2,ha⟩:=qKV ha;obtain rfl:=zKH ha;obtain ⟨aj,cj,rfl,_,hj⟩:=zHJ (sz:=12) (g:=jc) (fun _=>rfl) (fun _=>rfl) (yKY js n) hF (zUA (jl_e js n) h1);obtain ⟨am,cm,rfl,_,hm⟩:=zHJ (sz:=5) (g:=mc) (fun _=>rfl) (fun _=>rfl) (xVU ms m) hF (zUA (ml_e ms m) h2);exact ⟨aj,cj,am,cm,rfl,hj,hm⟩
theorem uYX {bx:Nat→Iv} {k:Nat} {F:Nat→Prop} {w:World} {v:Value} (hF:∀ k,F k→k < w.heap.size) (h:RP F w (.lf k (fB bx)) v):∃ a c,v=.slice a k c∧qJA 2 a ((bl bx k).map ivc) w:=by
 obtain ⟨a,c,rfl,_,hS⟩:=zHJ (sz:=2) (g:=ivc) (fun _=>rfl) (fun _=>rfl) (jYQ bx k) hF (zUA (bl_e bx k) h);exact ⟨a,c,rfl,hS⟩
def LK (js:Nat→J) (bx:Nat→Iv) (n:Nat):List Po:=lks (jl js n) (bl bx n) n
def LP (js:Nat→J) (bx:Nat→Iv) (n:Nat):Nat→Po:=fun i=>(LK js bx n).getD i Po.rest
def fP (P:Nat→Po):Nat→List PV:=fun v=>Rx.poC (P v)
theorem kZG (js:Nat→J) (bx:Nat→Iv) (n:Nat):(LK js bx n).length=n:=jGL _ (by rw [yKY]; exact Nat.le_refl _) (by rw [jYQ]; exact Nat.le_refl _)
theorem LK_e (js:Nat→J) (bx:Nat→Iv) (n:Nat):(LK js bx n).map Rx.poC=(List.range n).map (fP (LP js bx n)):=by
 have:=jXV Po.rest Rx.poC (LK js bx n)
 rw [kZG] at this;exact this
theorem xYK (js:Nat→J) (ms:Nat→Ms) (bx:Nat→Iv) (n m:Nat) (hn:n≤1000) (hp:∀ i,i < n → -1≤(js i).parent∧(js i).parent < (i:Int)):zG Tryz.prog 105 [.a [.lf n (fJ js),.lf m (fM ms)],.lf n (fB bx)] (.v (.lf n (fP (LP js bx n)))):=by
 refine qQU (Same.lf (LK_e js bx n)) (kYH (X:=Nat) (Φ:=fun _=>True) (V:=fun b=>.slice (some ⟨b,0,none⟩) n n) (G:=fun b=>qJA 24 (some ⟨b,0,none⟩) ((LK js bx n).map pc)) (qW Tryz.func105 (by kernel_rfl) (by kernel_rfl)) (fun w F vals hF hal => ?_) (fun x w D F hP hG hd hF=>uXJ (g:=pc) (sz:=24) (fun _=>rfl) (fun _=>rfl) (kZG js bx n) (Nat.le_refl _) (by decide) hd hG (fun _ h=>h) hF));obtain ⟨v1,vs,rfl,h1,hal⟩:=qKV hal;obtain ⟨v2,vs,rfl,h2,hal⟩:=qKV hal;obtain rfl:=zKH hal;obtain ⟨aj,cj,am,cm,rfl,hj,hm'⟩:=uZU hF h1;obtain ⟨ab,cb,rfl,hS⟩:=uYX hF h2;exact xVD aj am ab cj m cm cb n (jl js n) (bl bx n) hn (yKY js n) (jYQ bx n) (fun i j h=>by obtain ⟨hi,rfl⟩:=xVF h; exact hp i hi) w hj hS
theorem uZQ (js:Nat→J) (ms:Nat→Ms) (bx:Nat→Iv) (n m:Nat) (h0:rErr js ms n m=0) (hv:allV bx n=true):zG Tryz.prog 25 [.a [.lf n (fJ js),.lf m (fM ms)],.lf n (fB bx)] (.v (.lf n (fP (LP js bx n)))):=by
 have hn:=qHA h0;have hp:=yHW h0;have hl:((LK js bx n).map Rx.poC).length=n:=by rw [List.length_map]; exact kZG js bx n
 refine qQU (Same.lf (LK_e js bx n)) (zZK (e:=68) (sz:=24) (jYE (Φ:=fun _=>True) (rows:=(LK js bx n).map Rx.poC) (qW Tryz.func25 (by kernel_rfl) (by kernel_rfl)) (yZQ (fun _=>rfl) _) (by decide) (fun w F vals hF hal => ?_)));have hal0:=hal;obtain ⟨v1,vs,rfl,h1,hal⟩:=qKV hal;obtain ⟨v2,vs,rfl,h2,hal⟩:=qKV hal;obtain rfl:=zKH hal;have up:∀ w':World,Grow w w'→∀ {p:PV} {v:Value},RP F w p v→RP (fun k=>k < w'.heap.size) w' p v:=fun w' g p v h=>h.mono fun k hk=>⟨vZK (hF k hk) g.size,g.block k (hF k hk)⟩
 have hC:=fun (w':World) (g:Grow w w')=>qVZ (w:=w') (zHY js ms n m) rfl (qKZ (up w' g h1) zJG)
 have hB:=fun (w':World) (g:Grow w w')=>qVZ (w:=w') (yXY js ms bx n m n (by omega)) rfl (qKZ (up w' g h1) (qKZ (up w' g h2) zJG))
 obtain ⟨aj,cj,am,cm,rfl,hj,hm'⟩:=uZU hF h1;obtain ⟨ab,cb,rfl,hS⟩:=uYX hF h2;rw [h0] at hC;have hB':isB bx n n=true:=by unfold isB; rw [hv,vJQ rfl]; rfl
 rw [hB'] at hB;rw [hl,qGV (g:=pc) (fun _=>rfl)];exact xJV aj am ab cj m cm cb n (jl js n) (bl bx n) (by omega) (yKY js n) (jYQ bx n) (fun i j h=>by obtain ⟨hi,rfl⟩:=xVF h; exact hp i hi) w hj hS hC hB
end Go.Proofs.YtmeldddgjfocdaaGreat.Nf
namespace Go.Proofs.YtmeldddgjfocdaaGreat.Ga
open Go.Rx Rt Go.Sx Go.RowKit Od Na Nb Nc Nx Nf
structure Shp where
 link:Int
 rad:Int
 np:Nat
 pts:Nat→Z3
structure Skp where
 a:Int
 b:Int
def zP (p:Z3):List PV:=[.n .i64 p.x,.n .i64 p.y,.n .i64 p.z]
def fZ (p:Nat→Z3):Nat→List PV:=fun w=>zP (p w)
def sP (s:Shp):List PV:=[.n .i64 s.link,.n .i64 s.rad,.lf s.np (fZ s.pts)]
def fS (sh:Nat→Shp):Nat→List PV:=fun v=>sP (sh v)
def fK (sk:Nat→Skp):Nat→List PV:=fun v=>[.n .i64 (sk v).a,.n .i64 (sk v).b]
def unZ (r:List PV):Z3:=match r with
 | [.n _ x,.n _ y,.n _ z]=>⟨x,y,z⟩
 | _=>⟨0,0,0⟩
def unFZ (f:Nat→List PV):Nat→Z3:=fun w=>unZ (f w)
def unS (r:List PV):Shp:=match r with
 | [.n _ l,.n _ q,.lf k f]=>⟨l,q,k,unFZ f⟩
 | _=>⟨0,0,0,fun _=>⟨0,0,0⟩⟩
def unFS (f:Nat→List PV):Nat→Shp:=fun v=>unS (f v)
def unFK (f:Nat→List PV):Nat→Skp:=fun v=>match f v with
 | [.n _ a,.n _ b]=>⟨a,b⟩
 | _=>⟨0,0⟩
def unFJ (f:Nat→List PV):Nat→J:=fun v=>match f v with
 | [.s a0,.n _ a1,.n _ a2,.n _ a3,.n _ a4,.n _ a5,.n _ a6,.n _ a7,.n _ a8,.n _ a9,.n _ a10,.n _ a11]=>⟨a0,a1,a2,⟨a3,a4,a5⟩,a6,a7,a8,a9,a10,a11⟩
 | _=>⟨ByteArray.empty,0,0,⟨0,0,0⟩,0,0,0,0,0,0⟩
def unFM (f:Nat→List PV):Nat→Ms:=fun v=>match f v with
 | [.n _ a0,.n _ a1,.n _ a2,.n _ a3,.n _ a4]=>⟨a0,a1,⟨a2,a3,a4⟩⟩
 | _=>⟨0,0,⟨0,0,0⟩⟩
def isLk (n:Nat) (l:Int):Bool:=decide (-1≤l) && decide (l < (n:Int))
def zOk (k:Int) (p:Z3):Bool:=(!decide (p.x < -k) && !decide (k < p.x)) && ((!decide (p.y < -k) && !decide (k < p.y)) && (!decide (p.z < -k) && !decide (k < p.z)))
noncomputable def fKA (_:Nat→J) (_:Nat→Ms) (_:Nat→Shp) (_:Nat→Skp) (n m c d:Nat) (l:Int):OrS:=orS [] []
noncomputable def kVG (_:Nat→J) (_:Nat→Ms) (_:Nat→Shp) (_:Nat→Skp) (n m c d:Nat) (l:Int):List (List Nat × yG):=[]
set_option maxRecDepth 100000 in
theorem fJV (js:Nat→J) (ms:Nat→Ms) (sh:Nat→Shp) (sk:Nat→Skp) (n m c d:Nat) (l:Int):qQZ Tf (fKA js ms sh sk n m c d l) (qK (kVG js ms sh sk n m c d l)) 60 110 [.a [.lf n (fJ js),.lf m (fM ms),.lf c (fS sh),.lf d (fK sk)],.n .i64 l] =
 (bif (decide ((-1)≤l)) then (bif (decide (l < (n:Int))) then some (.v (.b true),[])
 else some (.v (.b false),[]))
 else some (.v (.b false),[])):=by kernel_rfl
theorem uKI (js:Nat→J) (ms:Nat→Ms) (sh:Nat→Shp) (sk:Nat→Skp) (n m c d:Nat) (l:Int):zG Tryz.prog 110 [.a [.lf n (fJ js),.lf m (fM ms),.lf c (fS sh),.lf d (fK sk)],.n .i64 l] (.v (.b (isLk n l))):=by
 refine zK (N:=60) (LO:=qK (kVG js ms sh sk n m c d l)) jV yQ (kQ (l:=[]) (m:=[]) trivial trivial) (fun p S hp => ?_) ?_
 ·refine zQ (L:=qY Tf 110) (l:=(kVG js ms sh sk n m c d l)) (show AllP _ (kVG js ms sh sk n m c d l) from trivial) p S hp
 ·refine (fJV js ms sh sk n m c d l).trans ?_;unfold isLk;cases decide (-1≤l) <;> cases decide (l < (n:Int)) <;> rfl
def cil:(Nat→J) × (Nat→Ms) × (Nat→Shp) × (Nat→Skp) × Nat × Nat × Nat × Nat × Int→Prop:=fun t=>match t with | (_,_,_,_,_,_,_,_,_)=>True
def eil:(Nat→J) × (Nat→Ms) × (Nat→Shp) × (Nat→Skp) × Nat × Nat × Nat × Nat × Int→List PV:=fun t=>match t with | (js,ms,sh,sk,n,m,c,d,l)=>[.a [.lf n (fJ js),.lf m (fM ms),.lf c (fS sh),.lf d (fK sk)],.n .i64 l]
noncomputable def ril:(Nat→J) × (Nat→Ms) × (Nat→Shp) × (Nat→Skp) × Nat × Nat × Nat × Nat × Int→Ret:=fun t=>match t with | (_,_,_,_,n,_,_,_,l)=>.v (.b (isLk n l))
def dil:List PV→(Nat→J) × (Nat→Ms) × (Nat→Shp) × (Nat→Skp) × Nat × Nat × Nat × Nat × Int:=fun ps=>match ps with
 | [.a [.lf n js,.lf m ms,.lf c sh,.lf d sk],.n _ l]=>(unFJ js,unFM ms,unFS sh,unFK sk,n,m,c,d,l)
 | _=>(fun _=>⟨ByteArray.empty,0,0,⟨0,0,0⟩,0,0,0,0,0,0⟩,fun _=>⟨0,0,⟨0,0,0⟩⟩,fun _=>⟨0,0,0,fun _=>⟨0,0,0⟩⟩,fun _=>⟨0,0⟩,0,0,0,0,0)
noncomputable def o_il:List PV→Option (Bool × Ret):=o_fm dil cil eil ril
theorem xWY:zZ Tryz.prog 110 o_il:=qQV fun t h=>by
 obtain ⟨js,ms,sh,sk,n,m,c,d,l⟩:=t;exact uKI js ms sh sk n m c d l
noncomputable def fKH (_:Nat→J) (_:Nat→Ms) (n m:Nat) (l:Int):OrS:=orS [] []
noncomputable def kVV (_:Nat→J) (_:Nat→Ms) (n m:Nat) (l:Int):List (List Nat × yG):=[]
set_option maxRecDepth 100000 in
theorem fJW (js:Nat→J) (ms:Nat→Ms) (n m:Nat) (l:Int):qQZ Tf (fKH js ms n m l) (qK (kVV js ms n m l)) 60 88 [.a [.lf n (fJ js),.lf m (fM ms)],.n .i64 l] =
 (bif (decide ((-1)≤l)) then (bif (decide (l < (n:Int))) then some (.v (.b true),[])
 else some (.v (.b false),[]))
 else some (.v (.b false),[])):=by kernel_rfl
theorem uKF (js:Nat→J) (ms:Nat→Ms) (n m:Nat) (l:Int):zG Tryz.prog 88 [.a [.lf n (fJ js),.lf m (fM ms)],.n .i64 l] (.v (.b (isLk n l))):=by
 refine zK (N:=60) (LO:=qK (kVV js ms n m l)) jV yQ (kQ (l:=[]) (m:=[]) trivial trivial) (fun p S hp => ?_) ?_
 ·refine zQ (L:=qY Tf 88) (l:=(kVV js ms n m l)) (show AllP _ (kVV js ms n m l) from trivial) p S hp
 ·refine (fJW js ms n m l).trans ?_;unfold isLk;cases decide (-1≤l) <;> cases decide (l < (n:Int)) <;> rfl
def cir:(Nat→J) × (Nat→Ms) × Nat × Nat × Int→Prop:=fun t=>match t with | (_,_,_,_,_)=>True
def eir:(Nat→J) × (Nat→Ms) × Nat × Nat × Int→List PV:=fun t=>match t with | (js,ms,n,m,l)=>[.a [.lf n (fJ js),.lf m (fM ms)],.n .i64 l]
noncomputable def rir:(Nat→J) × (Nat→Ms) × Nat × Nat × Int→Ret:=fun t=>match t with | (_,_,n,_,l)=>.v (.b (isLk n l))
def dir:List PV→(Nat→J) × (Nat→Ms) × Nat × Nat × Int:=fun ps=>match ps with
 | [.a [.lf n js,.lf m ms],.n _ l]=>(unFJ js,unFM ms,n,m,l)
 | _=>(fun _=>⟨ByteArray.empty,0,0,⟨0,0,0⟩,0,0,0,0,0,0⟩,fun _=>⟨0,0,⟨0,0,0⟩⟩,0,0,0)
noncomputable def o_ir:List PV→Option (Bool × Ret):=o_fm dir cir eir rir
theorem fUG:zZ Tryz.prog 88 o_ir:=qQV fun t h=>by
 obtain ⟨js,ms,n,m,l⟩:=t;exact uKF js ms n m l
noncomputable def orbt (x _ _:Int):OrS:=orS [] []
noncomputable def lsbt (x _ _:Int):List (List Nat × yG):=[]
set_option maxRecDepth 100000 in
theorem pxbt (x lo hi:Int):qQZ Tf (orbt x lo hi) (qK (lsbt x lo hi)) 60 89 [.n .i64 x,.n .i64 lo,.n .i64 hi] =
 (bif (decide (lo≤x)) then (bif (decide (x≤hi)) then some (.v (.b true),[])
 else some (.v (.b false),[]))
 else some (.v (.b false),[])):=by kernel_rfl
theorem xYG (x lo hi:Int):zG Tryz.prog 89 [.n .i64 x,.n .i64 lo,.n .i64 hi] (.v (.b (decide (lo≤x) && decide (x≤hi)))):=by
 refine zK (N:=60) (LO:=qK (lsbt x lo hi)) jV yQ (kQ (l:=[]) (m:=[]) trivial trivial) (fun p S hp => ?_) ?_
 ·refine zQ (L:=qY Tf 89) (l:=(lsbt x lo hi)) (show AllP _ (lsbt x lo hi) from trivial) p S hp
 ·refine (pxbt x lo hi).trans ?_;cases decide (lo≤x) <;> cases decide (x≤hi) <;> rfl
def cbt:Int × Int × Int→Prop:=fun t=>match t with | (_,_,_)=>True
def ebt:Int × Int × Int→List PV:=fun t=>match t with | (x,lo,hi)=>[.n .i64 x,.n .i64 lo,.n .i64 hi]
noncomputable def rbt:Int × Int × Int→Ret:=fun t=>match t with | (x,lo,hi)=>.v (.b (decide (lo≤x) && decide (x≤hi)))
def dbt:List PV→Int × Int × Int:=fun ps=>match ps with
 | [.n _ x,.n _ lo,.n _ hi]=>(x,lo,hi)
 | _=>(0,0,0)
noncomputable def o_bt:List PV→Option (Bool × Ret):=o_fm dbt cbt ebt rbt
theorem fUI:zZ Tryz.prog 89 o_bt:=qQV fun t h=>by
 obtain ⟨x,lo,hi⟩:=t;exact xYG x lo hi
noncomputable def ornr (_:Z3):OrS:=orS [] []
noncomputable def lsnr (_:Z3):List (List Nat × yG):=[]
set_option maxRecDepth 100000 in
theorem pxnr (z:Z3):qQZ Tf (ornr z) (qK (lsnr z)) 60 64 [.a [.n .i64 z.x,.n .i64 z.y,.n .i64 z.z],.n .i64 4194304] =
 (bif (decide (z.x < (-4194304))) then some (.v (.b false),[])
 else (bif (decide (4194304 < z.x)) then some (.v (.b false),[])
 else (bif (decide (z.y < (-4194304))) then some (.v (.b false),[])
 else (bif (decide (4194304 < z.y)) then some (.v (.b false),[])
 else (bif (decide (z.z < (-4194304))) then some (.v (.b false),[])
 else (bif (decide (4194304 < z.z)) then some (.v (.b false),[])
 else some (.v (.b true),[]))))))):=by kernel_rfl
theorem xYY (z:Z3):zG Tryz.prog 64 [.a [.n .i64 z.x,.n .i64 z.y,.n .i64 z.z],.n .i64 4194304] (.v (.b (zOk 4194304 z))):=by
 refine zK (N:=60) (LO:=qK (lsnr z)) jV yQ (kQ (l:=[]) (m:=[]) trivial trivial) (fun p S hp => ?_) ?_
 ·refine zQ (L:=qY Tf 64) (l:=(lsnr z)) (show AllP _ (lsnr z) from trivial) p S hp
 ·refine (pxnr z).trans ?_;unfold zOk;cases decide (z.x < -4194304) <;> cases decide (4194304 < z.x) <;> cases decide (z.y < -4194304) <;> cases decide (4194304 < z.y) <;> cases decide (z.z < -4194304) <;> cases decide (4194304 < z.z) <;> rfl
def cnr:Z3→Prop:=fun t=>match t with | _=>True
def enr:Z3→List PV:=fun t=>match t with | z=>[.a (zP z),.n .i64 4194304]
noncomputable def rnr:Z3→Ret:=fun t=>match t with | z=>.v (.b (zOk 4194304 z))
def dnr:List PV→Z3:=fun ps=>match ps with
 | [.a r,.n _ _]=>(unZ r)
 | _=>⟨0,0,0⟩
noncomputable def o_nr:List PV→Option (Bool × Ret):=o_fm dnr cnr enr rnr
theorem xXV:zZ Tryz.prog 64 o_nr:=qQV fun t h=>by
 revert h; revert t; intro z h
 exact xYY z
end Go.Proofs.YtmeldddgjfocdaaGreat.Ga

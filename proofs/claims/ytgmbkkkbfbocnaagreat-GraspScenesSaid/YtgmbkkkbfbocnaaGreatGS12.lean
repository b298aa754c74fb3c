/- Part 12 of the texts behind the last one: rules and contracts. No condition. -/
import Derived.Test.YtgmbkkkbfbocnaaGreatGS11
open Option renaming bind_eq_some_iff → vQQ
open Option.some renaming injEq → vQZ
open Prod.mk renaming injEq → vQY
open Bool renaming and_eq_true → vQJ, and_self → vZJ, true_and → vZH
open List renaming getElem?_eq_getElem → vQK, mem_cons_self → vZQ, getElem?_map → vZY, getD_eq_getElem?_getD → vZG, take_succ_cons → vYK, drop_succ_cons → vYU, take_zero → vYX, drop_zero → vYW
open Nat renaming lt_of_lt_of_le → vZK
open Classical renaming propDecidable → vYJ
open Go.IntKind renaming wrap → vJJ
namespace Go.Proofs.YtgmbkkkbfbocnaaGreat.Nc
open Go.Rx Rt Go.Sx Go.RowKit Od
open Na Nb
def MOK (n:Nat) (q:Ms):Prop:=(0≤q.link∧q.link < n)∧(1≤q.mass∧q.mass≤65536)∧(-4194304≤q.p.x∧q.p.x≤4194304)∧(-4194304≤q.p.y∧q.p.y≤4194304)∧(-4194304≤q.p.z∧q.p.z≤4194304)
instance (n:Nat) (q:Ms):Decidable (MOK n q):=by unfold MOK; exact inferInstance
def mokB (n:Nat) (q:Ms):Bool:=decide (MOK n q)
def mAll (ms:Nat→Ms) (n:Nat):Nat→Nat→Bool
 | 0,_=>true
 | k + 1,p=>mokB n (ms p) && mAll ms n k (p + 1)
def fbad (ms:Nat→Ms) (n:Nat):Nat→Nat→Int
 | 0,_ => -1
 | k + 1,p=>bif mokB n (ms p) then fbad ms n k (p + 1) else (p:Int)
theorem yHW (ms:Nat→Ms) (n:Nat):∀ k p,decide (0≤fbad ms n k p) = !mAll ms n k p
 | 0,p=>rfl
 | k + 1,p=>by
  have ih:=yHW ms n k (p + 1);by_cases hq:mokB n (ms p)=true
  ·simp only [fbad,mAll,hq,vYV,vZH];exact ih
  ·rw [Bool.not_eq_true] at hq;simp only [fbad,mAll,hq,vYG,Bool.false_and,Bool.not_false];exact vJQ (by omega)
def jE (js:Nat→J) (n:Nat):Nat→Nat→Int
 | 0,_=>0
 | k + 1,p=>bif decide (jErr js n p=0) then jE js n k (p + 1) else jErr js n p
def rErr (js:Nat→J) (ms:Nat→Ms) (n m:Nat):Int:=bif decide ((n:Int)=0) then 801 else bif decide (10 < (n:Int)) then 801 else bif decide (jE js n n 0=0) then (bif decide (32 < (m:Int)) then 808 else bif mAll ms n m 0 then 0 else 808) else jE js n n 0
def mTp {α:Type} (n:Nat) (q:Ms) (a b:α):α:=(bif (decide (0≤q.link)) then (bif (decide (q.link < (n:Int))) then (bif (decide (1≤q.mass)) then (bif (decide (q.mass≤65536)) then (bif (decide (q.p.x < (-4194304))) then b else (bif (decide (4194304 < q.p.x)) then b else (bif (decide (q.p.y < (-4194304))) then b else (bif (decide (4194304 < q.p.y)) then b else (bif (decide (q.p.z < (-4194304))) then b else (bif (decide (4194304 < q.p.z)) then b else a)))))) else b) else b) else b) else b)
theorem xJI {α:Type} (n:Nat) (q:Ms) (a b:α):mTp n q a b=bif mokB n q then a else b:=by
 unfold mTp mokB;by_cases h:MOK n q
 ·have h':=h;obtain ⟨⟨h1,h2⟩,⟨h3,h4⟩,⟨h5,h6⟩,⟨h7,h8⟩,h9,h10⟩:=h';rw [vJQ h];simp only [vYV];simp only [Bool.cond_eq_ite,decide_eq_true_eq]
  repeat' split
  all_goals first | rfl | (exfalso; omega)
 ·rw [vYH h];unfold MOK at h;simp only [vYG];simp only [Bool.cond_eq_ite,decide_eq_true_eq]
  repeat' split
  all_goals first | rfl | (exfalso; omega) | contradiction
set_option maxRecDepth 100000 in
theorem xWD (js:Nat→J) (ms:Nat→Ms) (n m:Nat) (q:Ms):runK T (OrL.k []) 60 138 [.a (mp q),.c [.lf n (fJ js),.lf m (fM ms)] 0]=mTp n q (F_b false) (F_b true):=by kernel_rfl
theorem uHZ (js:Nat→J) (ms:Nat→Ms) (n m:Nat) (q:Ms):yK Tryz.prog 138 [.a (mp q),.c [.lf n (fJ js),.lf m (fM ms)] 0] (.v (.b (!mokB n q))):=by
 refine zU (N:=60) yX zW (OrL.ok (l:=[]) trivial) ?_;rw [xWD,xJI];cases mokB n q <;> rfl
noncomputable def o_cl (js:Nat→J) (ms:Nat→Ms) (n m:Nat):List PV→Option (Bool × Ret):=fun ps=>match ps with
 | [.a [.n .i64 a0,.n .i64 a1,.n .i64 a2,.n .i64 a3,.n .i64 a4],c]=>some (gEq c (.c [.lf n (fJ js),.lf m (fM ms)] 0),.v (.b (!mokB n ⟨a0,a1,⟨a2,a3,a4⟩⟩)))
 | _=>none
theorem fZV (js:Nat→J) (ms:Nat→Ms) (n m:Nat):zY Tryz.prog 138 (o_cl js ms n m):=by
 intro ps r hh;unfold o_cl at hh;split at hh
 ·simp only [vQZ,vQY] at hh;obtain ⟨hg,rfl⟩:=hh;obtain rfl:=zUY hg;exact uHZ js ms n m ⟨_,_,⟨_,_,_⟩⟩
 ·cases hh
def hI (js:Nat→J) (ms:Nat→Ms) (n m:Nat) (i:Int):St:=⟨[(0,.v (.lf m (fM ms))),(1,.v (.f 138 [] [.c [.lf n (fJ js),.lf m (fM ms)] 0])),(7,.v (.n .i64 (m:Int))),(8,.v (.n .i64 i))],[]⟩
set_option maxRecDepth 100000 in
theorem rdI (G:St→Option (Ret × Mem)) (K:Cont) (js:Nat→J) (ms:Nat→Ms) (n m:Nat) (i:Int):qKQ 60 (cxF T (OrL.k [(138,o_cl js ms n m)]) 60 168 (ntmF T 168)) (ckF T (OrL.k [(138,o_cl js ms n m)]) 60) (qQ T 168 [0,1,0,1]) (fun e τ=>match e with
 | .normal=>G (qJU ((cxF T (OrL.k [(138,o_cl js ms n m)]) 60 168 (ntmF T 168)).T.hint (cxF T (OrL.k [(138,o_cl js ms n m)]) 60 168 (ntmF T 168)).me (qJ (qQ T 168 [0,1,0,1]))) τ)
 | e=>K e (qYU ((cxF T (OrL.k [(138,o_cl js ms n m)]) 60 168 (ntmF T 168)).T.hint (cxF T (OrL.k [(138,o_cl js ms n m)]) 60 168 (ntmF T 168)).me (qJ (qQ T 168 [0,1,0,1]))) τ)) (hI js ms n m i) =
 (bif (decide (i < (m:Int))) then (bif (inB i m) then (bif (gEq (.c [.lf n (fJ js),.lf m (fM ms)] 0) (.c [.lf n (fJ js),.lf m (fM ms)] 0)) then (bif (!mokB n (ms (i).toNat)) then (K .ret ⟨[(4,.v (.n .i64 i))],[]⟩)
 else (G (hI js ms n m (vJJ .i64 (i + 1)))))
 else none)
 else none)
 else (K (.exit 0) ⟨[],[]⟩)):=by kernel_rfl
theorem lpI (K:Cont) (js:Nat→J) (ms:Nat→Ms) (n m:Nat) (hm:m≤1000):∀ (k p q:Nat),p + k=m→k < q→LF 60 (cxF T (OrL.k [(138,o_cl js ms n m)]) 60 168 (ntmF T 168)) (ckF T (OrL.k [(138,o_cl js ms n m)]) 60) (qQ T 168 [0,1,0,1]) ((cxF T (OrL.k [(138,o_cl js ms n m)]) 60 168 (ntmF T 168)).T.hint (cxF T (OrL.k [(138,o_cl js ms n m)]) 60 168 (ntmF T 168)).me (qJ (qQ T 168 [0,1,0,1]))) K q (hI js ms n m p)=(bif decide (fbad ms n k p = -1) then K (.exit 0) ⟨[],[]⟩ else K .ret ⟨[(4,.v (.n .i64 (fbad ms n k p)))],[]⟩)
 | 0,p,q + 1,hp,hq=>by
  refine (rdI (fun σ=>LF 60 (cxF T (OrL.k [(138,o_cl js ms n m)]) 60 168 (ntmF T 168)) (ckF T (OrL.k [(138,o_cl js ms n m)]) 60) (qQ T 168 [0,1,0,1]) ((cxF T (OrL.k [(138,o_cl js ms n m)]) 60 168 (ntmF T 168)).T.hint (cxF T (OrL.k [(138,o_cl js ms n m)]) 60 168 (ntmF T 168)).me (qJ (qQ T 168 [0,1,0,1]))) K q σ) K js ms n m p).trans ?_;rw [vYH (show ¬ (p:Int) < (m:Int) by omega)];rfl
 | k + 1,p,q + 1,hp,hq=>by
  refine (rdI (fun σ=>LF 60 (cxF T (OrL.k [(138,o_cl js ms n m)]) 60 168 (ntmF T 168)) (ckF T (OrL.k [(138,o_cl js ms n m)]) 60) (qQ T 168 [0,1,0,1]) ((cxF T (OrL.k [(138,o_cl js ms n m)]) 60 168 (ntmF T 168)).T.hint (cxF T (OrL.k [(138,o_cl js ms n m)]) 60 168 (ntmF T 168)).me (qJ (qQ T 168 [0,1,0,1]))) K q σ) K js ms n m p).trans ?_;rw [vJQ (show (p:Int) < (m:Int) by omega),yZ (show p < m by omega),kY (by omega),lpI K js ms n m hm k (p + 1) q (by omega) (by omega),toN,qGG];by_cases hq:mokB n (ms p)=true
  ·simp only [fbad,hq,vYV,vYG,Bool.not_true]
  ·rw [Bool.not_eq_true] at hq;simp only [fbad,hq,vYV,vYG,Bool.not_false,vYH (show ¬ (p:Int) = -1 by omega)]
set_option maxRecDepth 100000 in
theorem pxI (js:Nat→J) (ms:Nat→Ms) (n m:Nat):zZB T (OrL.k [(138,o_cl js ms n m)]) (qZ [([0,1,0,1],qQU (hI js ms n m 0) (fun K=>(bif decide (fbad ms n m 0 = -1) then K (.exit 0) ⟨[],[]⟩ else K .ret ⟨[(4,.v (.n .i64 (fbad ms n m 0)))],[]⟩)))]) 60 168 [.lf m (fM ms),.f 138 [] [.c [.lf n (fJ js),.lf m (fM ms)] 0]] =
 bif gSt (hI js ms n m 0) (hI js ms n m 0) then (bif decide (fbad ms n m 0 = -1) then some (.v (.n .i64 (-1)),[]) else some (.v (.n .i64 (fbad ms n m 0)),[])) else none:=by kernel_rfl
theorem uHQ (js:Nat→J) (ms:Nat→Ms) (n m:Nat) (_:m≤50):yK Tryz.prog 168 [.lf m (fM ms),.f 138 [] [.c [.lf n (fJ js),.lf m (fM ms)] 0]] (.v (.n .i64 (fbad ms n m 0))):=by
 refine qQE (N:=60) (LO:=qZ [([0,1,0,1],qQU (hI js ms n m 0) (fun K=>(bif decide (fbad ms n m 0 = -1) then K (.exit 0) ⟨[],[]⟩ else K .ret ⟨[(4,.v (.n .i64 (fbad ms n m 0)))],[]⟩)))]) yX zW (OrL.ok (l:=[(138,o_cl js ms n m)]) ⟨fZV js ms n m,trivial⟩) (fun p S hp => ?_) ?_
 ·refine qYQ (L:=qQ T 168) (l:=[([0,1,0,1],qQU (hI js ms n m 0) (fun K=>(bif decide (fbad ms n m 0 = -1) then K (.exit 0) ⟨[],[]⟩ else K .ret ⟨[(4,.v (.n .i64 (fbad ms n m 0)))],[]⟩)))]) (show AllP _ [([0,1,0,1],qQU (hI js ms n m 0) (fun K=>(bif decide (fbad ms n m 0 = -1) then K (.exit 0) ⟨[],[]⟩ else K .ret ⟨[(4,.v (.n .i64 (fbad ms n m 0)))],[]⟩)))] from ⟨qJQ fun K r hr => ?_,trivial⟩) p S hp;exact (lpI K js ms n m (by omega) m 0 60 (by omega) (by omega)).trans hr
 ·refine (pxI js ms n m).trans ?_;rw [yU,vYV];by_cases h:fbad ms n m 0 = -1
  ·rw [vJQ h,h]; rfl
  ·rw [vYH h]; rfl
theorem uHY (js:Nat→J) (ms:Nat→Ms) (n m:Nat) (hm:m≤50):yK Tryz.prog 137 [.lf m (fM ms),.f 138 [] [.c [.lf n (fJ js),.lf m (fM ms)] 0]] (.v (.b (!mAll ms n m 0))):=by
 refine zU (N:=60) yX zW (OrL.ok (l:=[(168,o_cr [.lf m (fM ms),.f 138 [] [.c [.lf n (fJ js),.lf m (fM ms)] 0]] (.v (.n .i64 (fbad ms n m 0))))]) ⟨zVL (uHQ js ms n m hm),trivial⟩) ?_;refine (by kernel_rfl:_=bif (g1 [.lf m (fM ms),.f 138 [] [.c [.lf n (fJ js),.lf m (fM ms)] 0]]) then (bif (decide (0≤(fbad ms n m 0))) then some (.v (.b true),[])
 else some (.v (.b false),[]))
 else none).trans ?_
 rw [g1_t,vYV,← yHW];cases decide (0≤fbad ms n m 0) <;> rfl
noncomputable def qKD (js:Nat→J) (ms:Nat→Ms) (n m:Nat):List PV→Option (Bool × Ret):=fun ps=>match ps with
 | [r,.n .i64 i]=>some (gEq r (.a [.lf n (fJ js),.lf m (fM ms)]) && (inB i n && decide (n≤50)),.v (.n .i64 (jErr js n i.toNat)))
 | _=>none
theorem kKK (js:Nat→J) (ms:Nat→Ms) (n m:Nat):zY Tryz.prog 136 (qKD js ms n m):=by
 intro ps r hh;unfold qKD at hh;split at hh
 ·simp only [vQZ,vQY,vQJ] at hh;obtain ⟨⟨hg,hi,hd⟩,rfl⟩:=hh;obtain rfl:=zUY hg;have hn:=vJZ hd;obtain ⟨i0,i1⟩:=qKL hi;rename_i i
  have:=uYV js ms n m hn i.toNat (by omega)
  rw [show ((i.toNat:Nat):Int)=i by omega] at this;exact this
 ·cases hh
noncomputable def qZJ (js:Nat→J) (_:Nat→Ms) (n m:Nat):List PV→Option (Bool × Ret):=fun ps=>match ps with
 | [r,.n .i64 i]=>some (gEq r (.lf n (fJ js)) && (inB i n && decide (n≤50)),.v (.n .i64 (jErr js n i.toNat)))
 | _=>none
theorem kKJ (js:Nat→J) (ms:Nat→Ms) (n m:Nat):zY Tryz.prog 113 (qZJ js ms n m):=by
 intro ps r hh;unfold qZJ at hh;split at hh
 ·simp only [vQZ,vQY,vQJ] at hh;obtain ⟨⟨hg,hi,hd⟩,rfl⟩:=hh;obtain rfl:=zUY hg;have hn:=vJZ hd;obtain ⟨i0,i1⟩:=qKL hi;rename_i i
  have:=uYW js n hn i.toNat (by omega)
  rw [show ((i.toNat:Nat):Int)=i by omega] at this;exact this
 ·cases hh
noncomputable def qKE (js:Nat→J) (ms:Nat→Ms) (n m:Nat):List PV→Option (Bool × Ret):=fun ps=>some (gEq (.t ps) (.t [.lf m (fM ms),.f 138 [] [.c [.lf n (fJ js),.lf m (fM ms)] 0]]) && decide (m≤50),.v (.b (!mAll ms n m 0)))
theorem xYF (js:Nat→J) (ms:Nat→Ms) (n m:Nat):zY Tryz.prog 137 (qKE js ms n m):=by
 intro ps q hh;unfold qKE at hh;simp only [vQZ,vQY,vQJ] at hh;obtain ⟨⟨hg,hm⟩,rfl⟩:=hh
 have:=zUY hg
 simp only [PV.t.injEq] at this;rw [this];exact uHY js ms n m (vJZ hm)
def hK (js:Nat→J) (ms:Nat→Ms) (n m:Nat) (i:Int):St:=⟨[(1,.p 1 0),(17,.v (.n .i64 (n:Int))),(18,.v (.n .i64 i))],[(1,.blk [.v (.lf n (fJ js)),.v (.lf m (fM ms))])]⟩
set_option maxRecDepth 100000 in
theorem rdK (G:St→Option (Ret × Mem)) (K:Cont) (js:Nat→J) (ms:Nat→Ms) (n m:Nat) (i:Int):qKQ 60 (cxF T (OrL.k [(136,qKD js ms n m),(137,qKE js ms n m)]) 60 85 (ntmF T 85)) (ckF T (OrL.k [(136,qKD js ms n m),(137,qKE js ms n m)]) 60) (qQ T 85 [0,1,0,1,1]) (fun e τ=>match e with
 | .normal=>G (qJU ((cxF T (OrL.k [(136,qKD js ms n m),(137,qKE js ms n m)]) 60 85 (ntmF T 85)).T.hint (cxF T (OrL.k [(136,qKD js ms n m),(137,qKE js ms n m)]) 60 85 (ntmF T 85)).me (qJ (qQ T 85 [0,1,0,1,1]))) τ)
 | e=>K e (qYU ((cxF T (OrL.k [(136,qKD js ms n m),(137,qKE js ms n m)]) 60 85 (ntmF T 85)).T.hint (cxF T (OrL.k [(136,qKD js ms n m),(137,qKE js ms n m)]) 60 85 (ntmF T 85)).me (qJ (qQ T 85 [0,1,0,1,1]))) τ)) (hK js ms n m i) =
 (bif (decide (i < (n:Int))) then (bif (gEq (.a [.lf n (fJ js),.lf m (fM ms)]) (.a [.lf n (fJ js),.lf m (fM ms)]) && (inB i n && decide (n≤50))) then (bif (!decide ((jErr js n (i).toNat)=0)) then (K .ret ⟨[(1,.p 1 0),(2,.v (.n .i64 (jErr js n (i).toNat)))],[(1,.blk [.v (.lf n (fJ js)),.v (.lf m (fM ms))])]⟩)
 else (G (hK js ms n m (vJJ .i64 (i + 1)))))
 else none)
 else (K (.exit 0) ⟨[(1,.p 1 0)],[(1,.blk [.v (.lf n (fJ js)),.v (.lf m (fM ms))])]⟩)):=by kernel_rfl
def rK (js:Nat→J) (ms:Nat→Ms) (n m:Nat) (e:Int):St:=⟨[(1,.p 1 0),(2,.v (.n .i64 e))],[(1,.blk [.v (.lf n (fJ js)),.v (.lf m (fM ms))])]⟩
def oK (js:Nat→J) (ms:Nat→Ms) (n m:Nat):St:=⟨[(1,.p 1 0)],[(1,.blk [.v (.lf n (fJ js)),.v (.lf m (fM ms))])]⟩
theorem lpK (K:Cont) (js:Nat→J) (ms:Nat→Ms) (n m:Nat) (hn:n≤10):∀ (k p q:Nat),p + k=n→k < q→LF 60 (cxF T (OrL.k [(136,qKD js ms n m),(137,qKE js ms n m)]) 60 85 (ntmF T 85)) (ckF T (OrL.k [(136,qKD js ms n m),(137,qKE js ms n m)]) 60) (qQ T 85 [0,1,0,1,1]) ((cxF T (OrL.k [(136,qKD js ms n m),(137,qKE js ms n m)]) 60 85 (ntmF T 85)).T.hint (cxF T (OrL.k [(136,qKD js ms n m),(137,qKE js ms n m)]) 60 85 (ntmF T 85)).me (qJ (qQ T 85 [0,1,0,1,1]))) K q (hK js ms n m p)=(bif decide (jE js n k p=0) then (K (.exit 0) (oK js ms n m)) else (K .ret (rK js ms n m (jE js n k p))))
 | 0,p,q + 1,hp,hq=>by
  refine (rdK (fun σ=>LF 60 (cxF T (OrL.k [(136,qKD js ms n m),(137,qKE js ms n m)]) 60 85 (ntmF T 85)) (ckF T (OrL.k [(136,qKD js ms n m),(137,qKE js ms n m)]) 60) (qQ T 85 [0,1,0,1,1]) ((cxF T (OrL.k [(136,qKD js ms n m),(137,qKE js ms n m)]) 60 85 (ntmF T 85)).T.hint (cxF T (OrL.k [(136,qKD js ms n m),(137,qKE js ms n m)]) 60 85 (ntmF T 85)).me (qJ (qQ T 85 [0,1,0,1,1]))) K q σ) K js ms n m p).trans ?_;rw [vYH (show ¬ (p:Int) < (n:Int) by omega)];rfl
 | k + 1,p,q + 1,hp,hq=>by
  refine (rdK (fun σ=>LF 60 (cxF T (OrL.k [(136,qKD js ms n m),(137,qKE js ms n m)]) 60 85 (ntmF T 85)) (ckF T (OrL.k [(136,qKD js ms n m),(137,qKE js ms n m)]) 60) (qQ T 85 [0,1,0,1,1]) ((cxF T (OrL.k [(136,qKD js ms n m),(137,qKE js ms n m)]) 60 85 (ntmF T 85)).T.hint (cxF T (OrL.k [(136,qKD js ms n m),(137,qKE js ms n m)]) 60 85 (ntmF T 85)).me (qJ (qQ T 85 [0,1,0,1,1]))) K q σ) K js ms n m p).trans ?_;rw [vJQ (show (p:Int) < (n:Int) by omega),yZ (show p < n by omega),kY (by omega),lpK K js ms n m hn k (p + 1) q (by omega) (by omega),toN,qGG,vJQ (show n≤50 by omega)];by_cases hq:jErr js n p=0
  ·simp only [jE,vJQ hq,vYV,vYG,Bool.not_true,vZJ]
  ·simp only [jE,vYH hq,vYV,vYG,Bool.not_false,vZJ];rfl
set_option maxRecDepth 100000 in
theorem pxK (js:Nat→J) (ms:Nat→Ms) (n m:Nat):zZB T (OrL.k [(136,qKD js ms n m),(137,qKE js ms n m)]) (qZ [([0,1,0,1,1],qQU (hK js ms n m 0) (fun K=>bif decide (10 < (n:Int)) then none else (bif decide (jE js n n 0=0) then (K (.exit 0) (oK js ms n m)) else (K .ret (rK js ms n m (jE js n n 0))))))]) 60 85 [(.a [.lf n (fJ js),.lf m (fM ms)])] =
 bif decide ((n:Int)=0) then some (.v (.n .i64 801),[]) else (bif decide (10 < (n:Int)) then some (.v (.n .i64 801),[]) else (bif gSt (hK js ms n m 0) (hK js ms n m 0) then (bif decide (10 < (n:Int)) then none else (bif decide (jE js n n 0=0) then bif (decide (32 < (m:Int))) then some (.v (.n .i64 808),[])
 else bif (g1 [.lf m (fM ms),.f 138 [] [.c [.lf n (fJ js),.lf m (fM ms)] 0]] && decide (m≤50)) then (bif (!mAll ms n m 0) then some (.v (.n .i64 808),[])
 else some (.v (.n .i64 0),[]))
 else none else some (.v (.n .i64 (jE js n n 0)),[]))) else none)):=by kernel_rfl
theorem jJB (js:Nat→J) (ms:Nat→Ms) (n m:Nat):yK Tryz.prog 85 [(.a [.lf n (fJ js),.lf m (fM ms)])] (.v (.n .i64 (rErr js ms n m))):=by
 refine qQE (N:=60) (LO:=qZ [([0,1,0,1,1],qQU (hK js ms n m 0) (fun K=>bif decide (10 < (n:Int)) then none else (bif decide (jE js n n 0=0) then (K (.exit 0) (oK js ms n m)) else (K .ret (rK js ms n m (jE js n n 0))))))]) yX zW (OrL.ok (l:=[(136,qKD js ms n m),(137,qKE js ms n m)]) ⟨kKK js ms n m,xYF js ms n m,trivial⟩) (fun p S hp => ?_) ?_
 ·refine qYQ (L:=qQ T 85) (l:=[([0,1,0,1,1],qQU (hK js ms n m 0) (fun K=>bif decide (10 < (n:Int)) then none else (bif decide (jE js n n 0=0) then (K (.exit 0) (oK js ms n m)) else (K .ret (rK js ms n m (jE js n n 0))))))]) (show AllP _ [([0,1,0,1,1],qQU (hK js ms n m 0) (fun K=>bif decide (10 < (n:Int)) then none else (bif decide (jE js n n 0=0) then (K (.exit 0) (oK js ms n m)) else (K .ret (rK js ms n m (jE js n n 0))))))] from ⟨qJQ fun K r hr => ?_,trivial⟩) p S hp;cases hq:decide (10 < (n:Int)) with
  | true=>rw [hq] at hr; cases hr
  | false =>
   rw [hq] at hr;have h10:=vJY hq;exact (lpK K js ms n m (by omega) n 0 60 (by omega) (by omega)).trans hr
 ·refine (pxK js ms n m).trans ?_;unfold rErr;rw [yU,g1_t];by_cases h0:(n:Int)=0
  ·rw [vJQ h0]; rfl
  rw [vYH h0];by_cases h10:10 < (n:Int)
  ·rw [vJQ h10]; rfl
  rw [vYH h10];by_cases hj:jE js n n 0=0
  ·rw [vJQ hj];by_cases h32:32 < (m:Int)
   ·rw [vJQ h32]; rfl
   rw [vYH h32,vJQ (show m≤50 by omega)];cases mAll ms n m 0 <;> rfl
  ·rw [vYH hj]; rfl
def hQ (js:Nat→J) (ms:Nat→Ms) (n m:Nat) (i:Int):St:=⟨[(1,.p 1 0),(3,.v (.n .i64 i))],[(1,.blk [.v (.lf n (fJ js)),.v (.lf m (fM ms))])]⟩
set_option maxRecDepth 100000 in
theorem rdQ (G:St→Option (Ret × Mem)) (K:Cont) (js:Nat→J) (ms:Nat→Ms) (n m:Nat) (i:Int):qKQ 60 (cxF T (OrL.k [(113,qZJ js ms n m)]) 60 65 (ntmF T 65)) (ckF T (OrL.k [(113,qZJ js ms n m)]) 60) (qQ T 65 [0,1,0,1,1]) (fun e τ=>match e with
 | .normal=>G (qJU ((cxF T (OrL.k [(113,qZJ js ms n m)]) 60 65 (ntmF T 65)).T.hint (cxF T (OrL.k [(113,qZJ js ms n m)]) 60 65 (ntmF T 65)).me (qJ (qQ T 65 [0,1,0,1,1]))) τ)
 | e=>K e (qYU ((cxF T (OrL.k [(113,qZJ js ms n m)]) 60 65 (ntmF T 65)).T.hint (cxF T (OrL.k [(113,qZJ js ms n m)]) 60 65 (ntmF T 65)).me (qJ (qQ T 65 [0,1,0,1,1]))) τ)) (hQ js ms n m i) =
 (bif (decide (i < (n:Int))) then (bif (gEq (.lf n (fJ js)) (.lf n (fJ js)) && (inB i n && decide (n≤50))) then (bif (!decide ((jErr js n (i).toNat)=0)) then (K .ret ⟨[(1,.p 1 0),(2,.v (.n .i64 (jErr js n (i).toNat)))],[(1,.blk [.v (.lf n (fJ js)),.v (.lf m (fM ms))])]⟩)
 else (G (hQ js ms n m (vJJ .i64 (i + 1)))))
 else none)
 else (K (.exit 0) ⟨[(1,.p 1 0)],[(1,.blk [.v (.lf n (fJ js)),.v (.lf m (fM ms))])]⟩)):=by kernel_rfl
def rQ (js:Nat→J) (ms:Nat→Ms) (n m:Nat) (e:Int):St:=⟨[(1,.p 1 0),(2,.v (.n .i64 e))],[(1,.blk [.v (.lf n (fJ js)),.v (.lf m (fM ms))])]⟩
def oQ (js:Nat→J) (ms:Nat→Ms) (n m:Nat):St:=⟨[(1,.p 1 0)],[(1,.blk [.v (.lf n (fJ js)),.v (.lf m (fM ms))])]⟩
theorem lpQ (K:Cont) (js:Nat→J) (ms:Nat→Ms) (n m:Nat) (hn:n≤10):∀ (k p q:Nat),p + k=n→k < q→LF 60 (cxF T (OrL.k [(113,qZJ js ms n m)]) 60 65 (ntmF T 65)) (ckF T (OrL.k [(113,qZJ js ms n m)]) 60) (qQ T 65 [0,1,0,1,1]) ((cxF T (OrL.k [(113,qZJ js ms n m)]) 60 65 (ntmF T 65)).T.hint (cxF T (OrL.k [(113,qZJ js ms n m)]) 60 65 (ntmF T 65)).me (qJ (qQ T 65 [0,1,0,1,1]))) K q (hQ js ms n m p)=(bif decide (jE js n k p=0) then (K (.exit 0) (oQ js ms n m)) else (K .ret (rQ js ms n m (jE js n k p))))
 | 0,p,q + 1,hp,hq=>by
  refine (rdQ (fun σ=>LF 60 (cxF T (OrL.k [(113,qZJ js ms n m)]) 60 65 (ntmF T 65)) (ckF T (OrL.k [(113,qZJ js ms n m)]) 60) (qQ T 65 [0,1,0,1,1]) ((cxF T (OrL.k [(113,qZJ js ms n m)]) 60 65 (ntmF T 65)).T.hint (cxF T (OrL.k [(113,qZJ js ms n m)]) 60 65 (ntmF T 65)).me (qJ (qQ T 65 [0,1,0,1,1]))) K q σ) K js ms n m p).trans ?_;rw [vYH (show ¬ (p:Int) < (n:Int) by omega)];rfl
 | k + 1,p,q + 1,hp,hq=>by
  refine (rdQ (fun σ=>LF 60 (cxF T (OrL.k [(113,qZJ js ms n m)]) 60 65 (ntmF T 65)) (ckF T (OrL.k [(113,qZJ js ms n m)]) 60) (qQ T 65 [0,1,0,1,1]) ((cxF T (OrL.k [(113,qZJ js ms n m)]) 60 65 (ntmF T 65)).T.hint (cxF T (OrL.k [(113,qZJ js ms n m)]) 60 65 (ntmF T 65)).me (qJ (qQ T 65 [0,1,0,1,1]))) K q σ) K js ms n m p).trans ?_;rw [vJQ (show (p:Int) < (n:Int) by omega),yZ (show p < n by omega),kY (by omega),lpQ K js ms n m hn k (p + 1) q (by omega) (by omega),toN,qGG,vJQ (show n≤50 by omega)];by_cases hq:jErr js n p=0
  ·simp only [jE,vJQ hq,vYV,vYG,Bool.not_true,vZJ]
  ·simp only [jE,vYH hq,vYV,vYG,Bool.not_false,vZJ];rfl
def hM (js:Nat→J) (ms:Nat→Ms) (n m:Nat) (i:Int):St:=⟨[(1,.p 1 0),(5,.v (.n .i64 i))],[(1,.blk [.v (.lf n (fJ js)),.v (.lf m (fM ms))])]⟩
def rM (_:Nat→J) (_:Nat→Ms) (n m:Nat) (i:Int):St:=⟨[(2,.v (.n .i64 808))],[]⟩
def oM (_:Nat→J) (_:Nat→Ms) (n m:Nat):St:=⟨[],[]⟩
def mTr {α:Type} (n:Nat) (q:Ms) (a b:α):α:=(bif (decide (q.link < 0)) then b else (bif (decide ((n:Int)≤q.link)) then b else (bif (decide (1≤q.mass)) then (bif (decide (q.mass≤65536)) then (bif (decide (q.p.x < (-4194304))) then b else (bif (decide (4194304 < q.p.x)) then b else (bif (decide (q.p.y < (-4194304))) then b else (bif (decide (4194304 < q.p.y)) then b else (bif (decide (q.p.z < (-4194304))) then b else (bif (decide (4194304 < q.p.z)) then b else a)))))) else b) else b)))
theorem xJF {α:Type} (n:Nat) (q:Ms) (a b:α):mTr n q a b=bif mokB n q then a else b:=by
 unfold mTr mokB;by_cases h:MOK n q
 ·have h':=h;obtain ⟨⟨h1,h2⟩,⟨h3,h4⟩,⟨h5,h6⟩,⟨h7,h8⟩,h9,h10⟩:=h';rw [vJQ h];simp only [vYV];simp only [Bool.cond_eq_ite,decide_eq_true_eq]
  repeat' split
  all_goals first | rfl | (exfalso; omega)
 ·rw [vYH h];unfold MOK at h;simp only [vYG];simp only [Bool.cond_eq_ite,decide_eq_true_eq]
  repeat' split
  all_goals first | rfl | (exfalso; omega) | contradiction
set_option maxRecDepth 100000 in
theorem rdM (G:St→Option (Ret × Mem)) (K:Cont) (js:Nat→J) (ms:Nat→Ms) (n m:Nat) (i:Int):qKQ 60 (cxF T (OrL.k [(113,qZJ js ms n m)]) 60 65 (ntmF T 65)) (ckF T (OrL.k [(113,qZJ js ms n m)]) 60) (qQ T 65 [0,1,0,1,1,1,1]) (fun e τ=>match e with
 | .normal=>G (qJU ((cxF T (OrL.k [(113,qZJ js ms n m)]) 60 65 (ntmF T 65)).T.hint (cxF T (OrL.k [(113,qZJ js ms n m)]) 60 65 (ntmF T 65)).me (qJ (qQ T 65 [0,1,0,1,1,1,1]))) τ)
 | e=>K e (qYU ((cxF T (OrL.k [(113,qZJ js ms n m)]) 60 65 (ntmF T 65)).T.hint (cxF T (OrL.k [(113,qZJ js ms n m)]) 60 65 (ntmF T 65)).me (qJ (qQ T 65 [0,1,0,1,1,1,1]))) τ)) (hM js ms n m i) =
 bif decide (i < (m:Int)) then (bif inB i m then mTr n (ms i.toNat) (G (hM js ms n m (vJJ .i64 (i + 1)))) (K .ret (rM js ms n m 0)) else none) else (K (.exit 2) (oM js ms n m)):=by kernel_rfl
theorem lpM (K:Cont) (js:Nat→J) (ms:Nat→Ms) (n m:Nat) (hm:m≤1000):∀ (k p q:Nat),p + k=m→k < q→LF 60 (cxF T (OrL.k [(113,qZJ js ms n m)]) 60 65 (ntmF T 65)) (ckF T (OrL.k [(113,qZJ js ms n m)]) 60) (qQ T 65 [0,1,0,1,1,1,1]) ((cxF T (OrL.k [(113,qZJ js ms n m)]) 60 65 (ntmF T 65)).T.hint (cxF T (OrL.k [(113,qZJ js ms n m)]) 60 65 (ntmF T 65)).me (qJ (qQ T 65 [0,1,0,1,1,1,1]))) K q (hM js ms n m p)=bif mAll ms n k p then (K (.exit 2) (oM js ms n m)) else (K .ret (rM js ms n m 0))
 | 0,p,q + 1,hp,hq=>by
  refine (rdM (fun σ=>LF 60 (cxF T (OrL.k [(113,qZJ js ms n m)]) 60 65 (ntmF T 65)) (ckF T (OrL.k [(113,qZJ js ms n m)]) 60) (qQ T 65 [0,1,0,1,1,1,1]) ((cxF T (OrL.k [(113,qZJ js ms n m)]) 60 65 (ntmF T 65)).T.hint (cxF T (OrL.k [(113,qZJ js ms n m)]) 60 65 (ntmF T 65)).me (qJ (qQ T 65 [0,1,0,1,1,1,1]))) K q σ) K js ms n m p).trans ?_;rw [vYH (show ¬ (p:Int) < (m:Int) by omega)];rfl
 | k + 1,p,q + 1,hp,hq=>by
  refine (rdM (fun σ=>LF 60 (cxF T (OrL.k [(113,qZJ js ms n m)]) 60 65 (ntmF T 65)) (ckF T (OrL.k [(113,qZJ js ms n m)]) 60) (qQ T 65 [0,1,0,1,1,1,1]) ((cxF T (OrL.k [(113,qZJ js ms n m)]) 60 65 (ntmF T 65)).T.hint (cxF T (OrL.k [(113,qZJ js ms n m)]) 60 65 (ntmF T 65)).me (qJ (qQ T 65 [0,1,0,1,1,1,1]))) K q σ) K js ms n m p).trans ?_;rw [vJQ (show (p:Int) < (m:Int) by omega),yZ (show p < m by omega),kY (by omega),lpM K js ms n m hm k (p + 1) q (by omega) (by omega),toN,xJF];by_cases hq:mokB n (ms p)=true
  ·simp only [mAll,hq,vYV,vZH]
  ·rw [Bool.not_eq_true] at hq;simp only [mAll,hq,vYV,vYG,Bool.false_and]
set_option maxRecDepth 100000 in
theorem pxQ (js:Nat→J) (ms:Nat→Ms) (n m:Nat):zZB T (OrL.k [(113,qZJ js ms n m)]) (qZ [([0,1,0,1,1],qQU (hQ js ms n m 0) (fun K=>bif decide (10 < (n:Int)) then none else (bif decide (jE js n n 0=0) then (K (.exit 0) (oQ js ms n m)) else (K .ret (rQ js ms n m (jE js n n 0)))))),([0,1,0,1,1,1,1],qQU (hM js ms n m 0) (fun K=>bif decide (32 < (m:Int)) then none else (bif mAll ms n m 0 then (K (.exit 2) (oM js ms n m)) else (K .ret (rM js ms n m 0)))))]) 60 65 [(.a [.lf n (fJ js),.lf m (fM ms)])] =
 bif decide ((n:Int) < 1) then some (.v (.n .i64 801),[]) else (bif decide (10 < (n:Int)) then some (.v (.n .i64 801),[]) else (bif gSt (hQ js ms n m 0) (hQ js ms n m 0) then (bif decide (10 < (n:Int)) then none else (bif decide (jE js n n 0=0) then (bif decide (32 < (m:Int)) then some (.v (.n .i64 808),[]) else (bif gSt (hM js ms n m 0) (hM js ms n m 0) then (bif decide (32 < (m:Int)) then none else (bif mAll ms n m 0 then some (.v (.n .i64 0),[]) else some (.v (.n .i64 808),[]))) else none)) else some (.v (.n .i64 (jE js n n 0)),[]))) else none)):=by kernel_rfl
theorem yKB (js:Nat→J) (ms:Nat→Ms) (n m:Nat):yK Tryz.prog 65 [(.a [.lf n (fJ js),.lf m (fM ms)])] (.v (.n .i64 (rErr js ms n m))):=by
 refine qQE (N:=60) (LO:=qZ [([0,1,0,1,1],qQU (hQ js ms n m 0) (fun K=>bif decide (10 < (n:Int)) then none else (bif decide (jE js n n 0=0) then (K (.exit 0) (oQ js ms n m)) else (K .ret (rQ js ms n m (jE js n n 0)))))),([0,1,0,1,1,1,1],qQU (hM js ms n m 0) (fun K=>bif decide (32 < (m:Int)) then none else (bif mAll ms n m 0 then (K (.exit 2) (oM js ms n m)) else (K .ret (rM js ms n m 0)))))]) yX zW (OrL.ok (l:=[(113,qZJ js ms n m)]) ⟨kKJ js ms n m,trivial⟩) (fun p S hp => ?_) ?_
 ·refine qYQ (L:=qQ T 65) (l:=[([0,1,0,1,1],qQU (hQ js ms n m 0) (fun K=>bif decide (10 < (n:Int)) then none else (bif decide (jE js n n 0=0) then (K (.exit 0) (oQ js ms n m)) else (K .ret (rQ js ms n m (jE js n n 0)))))),([0,1,0,1,1,1,1],qQU (hM js ms n m 0) (fun K=>bif decide (32 < (m:Int)) then none else (bif mAll ms n m 0 then (K (.exit 2) (oM js ms n m)) else (K .ret (rM js ms n m 0)))))]) (show AllP _ [([0,1,0,1,1],qQU (hQ js ms n m 0) (fun K=>bif decide (10 < (n:Int)) then none else (bif decide (jE js n n 0=0) then (K (.exit 0) (oQ js ms n m)) else (K .ret (rQ js ms n m (jE js n n 0)))))),([0,1,0,1,1,1,1],qQU (hM js ms n m 0) (fun K=>bif decide (32 < (m:Int)) then none else (bif mAll ms n m 0 then (K (.exit 2) (oM js ms n m)) else (K .ret (rM js ms n m 0)))))] from ⟨qJQ fun K r hr => ?_,qJQ fun K r hr => ?_,trivial⟩) p S hp
  ·cases hq:decide (10 < (n:Int)) with
   | true=>rw [hq] at hr; cases hr
   | false =>
    rw [hq] at hr;have h10:=vJY hq;exact (lpQ K js ms n m (by omega) n 0 60 (by omega) (by omega)).trans hr
  ·cases hq:decide (32 < (m:Int)) with
   | true=>rw [hq] at hr; cases hr
   | false =>
    rw [hq] at hr;have h32:=vJY hq;exact (lpM K js ms n m (by omega) m 0 60 (by omega) (by omega)).trans hr
 ·refine (pxQ js ms n m).trans ?_;unfold rErr;rw [yU,yU,show decide ((n:Int) < 1)=decide ((n:Int)=0) from decide_eq_decide.2 (by omega)];by_cases h0:(n:Int)=0
  ·rw [vJQ h0]; rfl
  rw [vYH h0];by_cases h10:10 < (n:Int)
  ·rw [vJQ h10]; rfl
  rw [vYH h10];by_cases hj:jE js n n 0=0
  ·rw [vJQ hj];by_cases h32:32 < (m:Int)
   ·rw [vJQ h32]; rfl
   rw [vYH h32];cases mAll ms n m 0 <;> rfl
  ·rw [vYH hj]; rfl
end Go.Proofs.YtgmbkkkbfbocnaaGreat.Nc
namespace Go.Proofs.YtgmbkkkbfbocnaaGreat.Nx
open Go.Rx Rt Go.Sx Go.RowKit Od Na Nb Nc
noncomputable def o_iValid:List PV→Option (Bool × Ret):=fun ps=>match ps with
 | [.a a']=>(ivD a').bind fun a=>some (true,.v (.b (Iv.valid a)))
 | _=>none
theorem ok_iValid:zY Tryz.prog 135 o_iValid:=by
 intro ps r h;unfold o_iValid at h;split at h
 ·simp only [vQQ,vQZ,vQY] at h;obtain ⟨a,ha,hg,rfl⟩:=h;rw [qQI ha];exact qX (qW Tryz.func135 (by kernel_rfl) (by kernel_rfl)) rfl rfl (fun w=>kHY _ _ w)
 ·cases h
noncomputable def L6:OrL:=(135,o_iValid) :: L5
theorem uGH:AllP (fun x:Nat × (List PV→Option (Bool × Ret))=>zY Tryz.prog x.1 x.2) L6:=⟨ok_iValid,xWB⟩
noncomputable def o_rValid:List PV→Option (Bool × Ret):=fun ps=>match ps with
 | [.a a']=>(ivD a').bind fun a=>some (true,.v (.b (Iv.valid a)))
 | _=>none
theorem ok_rValid:zY Tryz.prog 148 o_rValid:=by
 intro ps r h;unfold o_rValid at h;split at h
 ·simp only [vQQ,vQZ,vQY] at h;obtain ⟨a,ha,hg,rfl⟩:=h;rw [qQI ha];exact qX (qW Tryz.func148 (by kernel_rfl) (by kernel_rfl)) rfl rfl (fun w=>yVH _ _ w)
 ·cases h
noncomputable def L7:OrL:=(148,o_rValid) :: L6
theorem xWA:AllP (fun x:Nat × (List PV→Option (Bool × Ret))=>zY Tryz.prog x.1 x.2) L7:=⟨ok_rValid,uGH⟩
def fB (bx:Nat→Iv):Nat→List PV:=fun v=>[.n .i64 (bx v).lo,.n .i64 (bx v).hi]
theorem zJI {js:Nat→J} {ms:Nat→Ms} {n m:Nat} (h:rErr js ms n m=0):1≤n∧n≤10:=by
 unfold rErr at h;by_cases h0:(n:Int)=0
 ·rw [vJQ h0] at h; cases h
 by_cases h1:10 < (n:Int)
 ·rw [vYH h0,vJQ h1] at h; cases h
 omega
def hA (bx:Nat→Iv) (k:Nat) (i:Int):St:=⟨[(0,.v (.lf k (fB bx))),(3,.v (.n .i64 i))],[]⟩
set_option maxRecDepth 100000 in
theorem rdA (G:St→Option (Ret × Mem)) (K:Cont) (bx:Nat→Iv) (k:Nat) (i:Int):yKV 60 (cxF T (OrL.k L7) 60 114 (ntmF T 114)) (ckF T (OrL.k L7) 60) (qQ T 114 [0,1,0,1]) ((cxF T (OrL.k L7) 60 114 (ntmF T 114)).T.hint (cxF T (OrL.k L7) 60 114 (ntmF T 114)).me (qJ (qQ T 114 [0,1,0,1]))) K G (hA bx k i) =
 (bif (decide (i < (k:Int))) then (bif (inB i k) then (bif Iv.valid (bx (i).toNat) then (G (hA bx k (vJJ .i64 (i + 1))))
 else (K .ret ⟨[(2,.v (.b false))],[]⟩))
 else none)
 else (K (.exit 0) ⟨[],[]⟩)):=by kernel_rfl
theorem lpA (K:Cont) (bx:Nat→Iv) (k:Nat) (_:k≤50):LF 60 (cxF T (OrL.k L7) 60 114 (ntmF T 114)) (ckF T (OrL.k L7) 60) (qQ T 114 [0,1,0,1]) ((cxF T (OrL.k L7) 60 114 (ntmF T 114)).T.hint (cxF T (OrL.k L7) 60 114 (ntmF T 114)).me (qJ (qQ T 114 [0,1,0,1]))) K 60 (hA bx k 0)=bif (allN (fun i:Nat=>Iv.valid (bx i)) k 0) then (K (.exit 0) ⟨[],[]⟩) else (K .ret ⟨[(2,.v (.b false))],[]⟩):=by
 refine (yYX (c:=k) (hA bx k) (fun i:Nat=>Iv.valid (bx i)) (K (.exit 0) ⟨[],[]⟩) (fun i:Nat=>(K .ret ⟨[(2,.v (.b false))],[]⟩)) (fun G i hi => ?_) (fun G => ?_) k 0 60 (by omega) (by omega)).trans (yW _ _ _ _ _)
 ·refine (rdA G K bx k i).trans ?_;rw [vJQ (show (i:Int) < (k:Int) by omega),kY (by omega),yZ (show i < k by omega),toN];cases Iv.valid (bx i) <;> rfl
 ·refine (rdA G K bx k k).trans ?_;rw [vYH (show ¬ (k:Int) < (k:Int) by omega)];rfl
def allV (bx:Nat→Iv) (k:Nat):Bool:=(allN (fun i:Nat=>Iv.valid (bx i)) k 0)
set_option maxRecDepth 100000 in
theorem xQE (bx:Nat→Iv) (k:Nat):zZB T (OrL.k L7) (qZ [([0,1,0,1],qQU (hA bx k 0) (fun K=>(bif (decide (k≤50)) then (bif (allN (fun i:Nat=>Iv.valid (bx i)) k 0) then (K (.exit 0) ⟨[],[]⟩) else (K .ret ⟨[(2,.v (.b false))],[]⟩)) else none)))]) 60 114 [.lf k (fB bx)] =
 (bif (gSt (hA bx k 0) (hA bx k 0)) then (bif (decide (k≤50)) then (bif (allN (fun i:Nat=>Iv.valid (bx i)) k 0) then some (.v (.b true),[])
 else some (.v (.b false),[]))
 else none)
 else none):=by kernel_rfl
theorem kZX (bx:Nat→Iv) (k:Nat) (hk:k≤50):yK Tryz.prog 114 [.lf k (fB bx)] (.v (.b (allV bx k))):=by
 refine qQE (N:=60) (LO:=qZ [([0,1,0,1],qQU (hA bx k 0) (fun K=>(bif (decide (k≤50)) then (bif (allN (fun i:Nat=>Iv.valid (bx i)) k 0) then (K (.exit 0) ⟨[],[]⟩) else (K .ret ⟨[(2,.v (.b false))],[]⟩)) else none)))]) yX zW (OrL.ok (l:=L7) xWA) (fun p S hp => ?_) ?_
 ·refine qYQ (L:=qQ T 114) (l:=[([0,1,0,1],qQU (hA bx k 0) (fun K=>(bif (decide (k≤50)) then (bif (allN (fun i:Nat=>Iv.valid (bx i)) k 0) then (K (.exit 0) ⟨[],[]⟩) else (K .ret ⟨[(2,.v (.b false))],[]⟩)) else none)))]) (show AllP _ [([0,1,0,1],qQU (hA bx k 0) (fun K=>(bif (decide (k≤50)) then (bif (allN (fun i:Nat=>Iv.valid (bx i)) k 0) then (K (.exit 0) ⟨[],[]⟩) else (K .ret ⟨[(2,.v (.b false))],[]⟩)) else none)))] from ⟨qJQ fun K r hr => ?_,trivial⟩) p S hp
  ·obtain ⟨hg,hr⟩:=qY hr;have hk:=vJZ hg;exact (lpA K bx k hk).trans hr
 ·refine (xQE bx k).trans ?_;unfold allV;rw [yU,vJQ hk];cases (allN (fun i:Nat=>Iv.valid (bx i)) k 0) <;> rfl
def unFB (f:Nat→List PV):Nat→Iv:=fun i=>match f i with
 | [.n _ lo,.n _ hi]=>⟨lo,hi⟩
 | _=>⟨0,0⟩
theorem uQY (bx:Nat→Iv):unFB (fB bx)=bx:=rfl
noncomputable def gFB (f:Nat→List PV):Bool:=@decide (f=fB (unFB f)) (vYJ _)
theorem xKK (bx:Nat→Iv):gFB (fB bx)=true:=@vJQ _ (vYJ _) rfl
noncomputable def o_av:List PV→Option (Bool × Ret):=fun ps=>match ps with
 | [.lf k f]=>some (decide (k≤50) && gFB f,.v (.b (allV (unFB f) k)))
 | _=>none
theorem fZB:zY Tryz.prog 114 o_av:=by
 intro ps r hh;unfold o_av at hh;split at hh
 ·simp only [vQZ,vQY,vQJ] at hh;obtain ⟨⟨hk,hf⟩,rfl⟩:=hh;rename_i k f;have e:f=fB (unFB f):=@vJZ _ (vYJ _) hf
  have:=kZX (unFB f) k (vJZ hk)
  rw [← e] at this;exact this
 ·cases hh
def isB (bx:Nat→Iv) (n k:Nat):Bool:=decide ((k:Int)=(n:Int)) && allV bx k
theorem uZL (js:Nat→J) (ms:Nat→Ms) (bx:Nat→Iv) (n m k:Nat) (_:n≤50):yK Tryz.prog 66 [.a [.lf n (fJ js),.lf m (fM ms)],.lf k (fB bx)] (.v (.b (isB bx n k))):=by
 refine zU (N:=60) yX zW (OrL.ok (l:=[(114,o_av)]) ⟨fZB,trivial⟩) ?_;refine (by kernel_rfl:_=bif (decide ((k:Int)=(n:Int))) then (bif (decide (k≤50) && gFB (fB bx)) then (bif (allV (unFB (fB bx)) k) then some (.v (.b true),[])
 else some (.v (.b false),[]))
 else none)
 else some (.v (.b false),[])).trans ?_
 unfold isB;by_cases e:(k:Int)=(n:Int)
 ·rw [vJQ e,vJQ (show k≤50 by omega),xKK,uQY];cases allV bx k <;> rfl
 ·rw [vYH e]; rfl
noncomputable def fJG:List PV→Option (Bool × Ret):=fun ps=>match ps with
 | [.a a']=>(ivD a').bind fun a=>some (true,.v (.b (!Iv.valid a)))
 | _=>none
noncomputable def L8:OrL:=(134,fJG) :: L7
theorem yKJ {p:Nat} (_:p < 9223372036854775807):vJJ .i64 ((p:Int) + 1)=((p + 1:Nat):Int):=by rw [qV (by omega)]; omega
def hI (bx:Nat→Iv) (k:Nat) (i:Int):St:=⟨[(0,.v (.lf k (fB bx))),(1,.v (.f 134 [] [])),(7,.v (.n .i64 (k:Int))),(8,.v (.n .i64 i))],[]⟩
set_option maxRecDepth 100000 in
theorem rdI (G:St→Option (Ret × Mem)) (K:Cont) (bx:Nat→Iv) (k:Nat) (i:Int):yKV (k + 60) (cxF T (OrL.k L8) (k + 60) 163 (ntmF T 163)) (ckF T (OrL.k L8) (k + 60)) (qQ T 163 [0,1,0,1]) ((cxF T (OrL.k L8) (k + 60) 163 (ntmF T 163)).T.hint (cxF T (OrL.k L8) (k + 60) 163 (ntmF T 163)).me (qJ (qQ T 163 [0,1,0,1]))) K G (hI bx k i) =
 (bif (decide (i < (k:Int))) then (bif (inB i k) then (bif !Iv.valid (bx (i).toNat) then (K .ret ⟨[(4,.v (.n .i64 i))],[]⟩)
 else (G (hI bx k (vJJ .i64 (i + 1)))))
 else none)
 else (K (.exit 0) ⟨[],[]⟩)):=by kernel_rfl
theorem lpI (K:Cont) (bx:Nat→Iv) (k:Nat) (_:k≤9223372036854775807):LF (k + 60) (cxF T (OrL.k L8) (k + 60) 163 (ntmF T 163)) (ckF T (OrL.k L8) (k + 60)) (qQ T 163 [0,1,0,1]) ((cxF T (OrL.k L8) (k + 60) 163 (ntmF T 163)).T.hint (cxF T (OrL.k L8) (k + 60) 163 (ntmF T 163)).me (qJ (qQ T 163 [0,1,0,1]))) K (k + 60) (hI bx k 0)=bif (allN (fun i:Nat=>Iv.valid (bx i)) k 0) then (K (.exit 0) ⟨[],[]⟩) else (K .ret ⟨[(4,.v (.n .i64 ((Rx.firstK (fun i:Nat=>Iv.valid (bx i)) k 0:Nat):Int)))],[]⟩):=by
 refine (yYX (c:=k) (hI bx k) (fun i:Nat=>Iv.valid (bx i)) (K (.exit 0) ⟨[],[]⟩) (fun i:Nat=>(K .ret ⟨[(4,.v (.n .i64 (i:Int)))],[]⟩)) (fun G i hi => ?_) (fun G => ?_) k 0 (k + 60) (by omega) (by omega)).trans (qQV _ _ _ _ _)
 ·refine (rdI G K bx k i).trans ?_;rw [vJQ (show (i:Int) < (k:Int) by omega),yKJ (by omega),yZ (show i < k by omega),toN];cases Iv.valid (bx i) <;> rfl
 ·refine (rdI G K bx k k).trans ?_;rw [vYH (show ¬ (k:Int) < (k:Int) by omega)];rfl
end Go.Proofs.YtgmbkkkbfbocnaaGreat.Nx
namespace Go.Proofs.YtgmbkkkbfbocnaaGreat
open Go.Sx Go.Rx Rt Go.RowKit
namespace Tk
end Tk
open Tk
namespace Tk
noncomputable def qWU:List PV→Option (Bool × Ret):=fun ps=>match ps with
 | [.a z']=>(z3D z').bind fun z=>some (true,.v (.a (v3C (V3.of z))))
 | _=>none
theorem yYQ:zY Tryz.prog 74 qWU:=by
 intro ps r h;unfold qWU at h;split at h
 ·simp only [vQQ,vQZ,vQY] at h;obtain ⟨z,hz,hg,rfl⟩:=h;rw [yVQ hz];exact qX (qW Tryz.func74 (by kernel_rfl) (by kernel_rfl)) rfl rfl (fun w=>kGL _ _ _ w)
 ·cases h
noncomputable def zKA:List PV→Option (Bool × Ret):=fun ps=>match ps with
 | []=>some (true,.v (.a (poC (Po.rest))))
 | _=>none
end Tk
end Go.Proofs.YtgmbkkkbfbocnaaGreat
namespace Go.Proofs.YtgmbkkkbfbocnaaGreat
open Go.Sx Go.Rx Rt Go.RowKit
namespace Tr
end Tr
open Tr
theorem en68:uV Tryz.prog 68:=qW Tryz.func68 (by kernel_rfl) (by kernel_rfl)
namespace Tr
noncomputable def qXJ:List PV→Option (Bool × Ret):=fun ps=>match ps with
 | [.a z']=>(z3D z').bind fun z=>some (true,.v (.a (v3C (V3.of z))))
 | _=>none
theorem zKW:zY Tryz.prog 36 qXJ:=by
 intro ps r h;unfold qXJ at h;split at h
 ·simp only [vQQ,vQZ,vQY] at h;obtain ⟨z,hz,hg,rfl⟩:=h;rw [yVQ hz];exact qX (qW Tryz.func36 (by kernel_rfl) (by kernel_rfl)) rfl rfl (fun w=>kGG _ _ _ w)
 ·cases h
noncomputable def LTr1:OrL:=(36,qXJ) :: ([]:OrL)
theorem uVY:AllP (fun x:Nat × (List PV→Option (Bool × Ret))=>zY Tryz.prog x.1 x.2) LTr1:=⟨zKW,trivial⟩
noncomputable def zGK:List PV→Option (Bool × Ret):=fun ps=>match ps with
 | [.a v']=>(v3D v').bind fun v=>some (true,.v (.a (poC (Po.shift v))))
 | _=>none
theorem jXK:zY Tryz.prog 116 zGK:=by
 intro ps r h;unfold zGK at h;split at h
 ·simp only [vQQ,vQZ,vQY] at h;obtain ⟨v,hv,hg,rfl⟩:=h;rw [qWD hv];exact qX (qW Tryz.func116 (by kernel_rfl) (by kernel_rfl)) rfl rfl (fun w=>xQZ _ _ _ _ _ _ w)
 ·cases h
noncomputable def LTr2:OrL:=(116,zGK) :: LTr1
theorem uVZ:AllP (fun x:Nat × (List PV→Option (Bool × Ret))=>zY Tryz.prog x.1 x.2) LTr2:=⟨jXK,uVY⟩
noncomputable def yXW:List PV→Option (Bool × Ret):=fun ps=>match ps with
 | [.n .i64 k,.a a']=>(ivD a').bind fun a=>some (true,.v (.a (poC (Po.turn k a))))
 | _=>none
theorem kKY:zY Tryz.prog 115 yXW:=by
 intro ps r h;unfold yXW at h;split at h
 ·simp only [vQQ,vQZ,vQY] at h;obtain ⟨a,ha,hg,rfl⟩:=h;rw [qQI ha];exact qX (qW Tryz.func115 (by kernel_rfl) (by kernel_rfl)) rfl rfl (fun w=>xVE _ _ _ w)
 ·cases h
noncomputable def LTr3:OrL:=(115,yXW) :: LTr2
theorem uVQ:AllP (fun x:Nat × (List PV→Option (Bool × Ret))=>zY Tryz.prog x.1 x.2) LTr3:=⟨kKY,uVZ⟩
noncomputable def zQY:List PV→Option (Bool × Ret):=fun ps=>match ps with
 | []=>some (true,.v (.a (poC (Po.rest))))
 | _=>none
theorem yGQ:zY Tryz.prog 90 zQY:=by
 intro ps r h;unfold zQY at h;split at h
 ·simp only [vQZ,vQY] at h;obtain ⟨hg,rfl⟩:=h;exact qX (qW Tryz.func90 (by kernel_rfl) (by kernel_rfl)) rfl rfl (fun w=>xQY  w)
 ·cases h
noncomputable def LTr4:OrL:=(90,zQY) :: LTr3
theorem uWL:AllP (fun x:Nat × (List PV→Option (Bool × Ret))=>zY Tryz.prog x.1 x.2) LTr4:=⟨yGQ,uVQ⟩
noncomputable def zQJ:List PV→Option (Bool × Ret):=fun ps=>match ps with
 | [.a p',.a q']=>(poD p').bind fun p=>(poD q').bind fun q=>some (true,.v (.a (poC (Po.mul p q))))
 | _=>none
theorem yUD:zY Tryz.prog 68 zQJ:=by
 intro ps r h;unfold zQJ at h;split at h
 ·simp only [vQQ,vQZ,vQY] at h;obtain ⟨p,hp,q,hq,hg,rfl⟩:=h;rw [yVE hp];rw [yVE hq];exact qX (qW Tryz.func68 (by kernel_rfl) (by kernel_rfl)) rfl rfl (fun w=>yVB _ _ _ _ _ _ _ _ _ _ _ _ _ _ _ _ _ _ _ _ _ _ _ _ _ _ _ _ _ _ _ _ _ _ _ _ _ _ _ _ _ _ _ _ _ _ _ _ w)
 ·cases h
noncomputable def LTr5:OrL:=(68,zQJ) :: LTr4
theorem uWI:AllP (fun x:Nat × (List PV→Option (Bool × Ret))=>zY Tryz.prog x.1 x.2) LTr5:=⟨yUD,uWL⟩
end Tr
set_option maxRecDepth 100000 in
theorem uHI (a0 a1:Int) (nm:ByteArray) (kind par ox oy oz jlo jhi we spd acc tq:Int) (w:World):Calls Tryz.prog 67 [.agg #[.string nm,.int .i64 kind,.int .i64 par,.int .i64 ox,.int .i64 oy,.int .i64 oz,.int .i64 jlo,.int .i64 jhi,.int .i64 we,.int .i64 spd,.int .i64 acc,.int .i64 tq],.agg #[.int .i64 a0,.int .i64 a1]].toArray w (Rets (po (kXF kind ⟨ox,oy,oz⟩ (⟨a0,a1⟩:Iv))) (w)) :=
 zK (x:=.a (poC (kXF kind ⟨ox,oy,oz⟩ ⟨a0,a1⟩))) (zU (N:=60) (ps:=[.a [.s nm,.n .i64 kind,.n .i64 par,.n .i64 ox,.n .i64 oy,.n .i64 oz,.n .i64 jlo,.n .i64 jhi,.n .i64 we,.n .i64 spd,.n .i64 acc,.n .i64 tq],.a [.n .i64 a0,.n .i64 a1]]) yX zW (OrL.ok (l:=LTr5) uWI) (by
 rcases kind with a | a
 ·rcases a with _ | _ | _ | _ | _ | _ | _ | a <;> kernel_rfl
 ·kernel_rfl)) rfl rfl w
end Go.Proofs.YtgmbkkkbfbocnaaGreat
namespace Go.Proofs.YtgmbkkkbfbocnaaGreat
open Go.Sx
theorem jGX:qWI Tryz.prog 25 0 0=true:=by kernel_rfl
theorem ty22:tyB Tryz.prog 22 false 1=true:=by kernel_rfl
theorem ty25:tyB Tryz.prog 25 true 2=true:=by kernel_rfl
theorem jVV {k:Nat} (_:k≤1000000):vJJ .i64 ((k:Int) + 1)=((k + 1:Nat):Int):=by
 refine (qV ?_).trans ?_ <;> omega
end Go.Proofs.YtgmbkkkbfbocnaaGreat
namespace Go.Proofs.YtgmbkkkbfbocnaaGreat
open Go.Sx
theorem xUA:appB Tryz.prog 69 68 24 192=true:=by kernel_rfl
end Go.Proofs.YtgmbkkkbfbocnaaGreat
namespace Go.Proofs.YtgmbkkkbfbocnaaGreat
open Go.Sx
theorem en65:uV Tryz.prog 65:=qW Tryz.func65 (by kernel_rfl) (by kernel_rfl)
theorem en66:uV Tryz.prog 66:=qW Tryz.func66 (by kernel_rfl) (by kernel_rfl)
theorem sl30:slcB Tryz.prog 30 62 2=true:=by kernel_rfl
theorem en67:uV Tryz.prog 67:=qW Tryz.func67 (by kernel_rfl) (by kernel_rfl)
theorem sl69:slcB Tryz.prog 69 68 24=true:=by kernel_rfl
def plC (ps:List Po):List Value:=(ps.map pc).flatten
theorem yVF (ps:List Po) (p:Po):plC (ps ++ [p])=plC ps ++ pc p:=by simp [plC]
theorem kGA {m e cap k:Nat} {a:Option Addr} {ps:List Po} {w:World} (hl:ps.length=k) (h:OwnF m e 24 a cap k (plC ps) w):qKC 24 a (ps.map pc) w :=
 zVH (rows:=ps.map pc) (fun r hr=>by obtain ⟨p,_,rfl⟩:=List.mem_map.1 hr; rfl) (by rw [List.length_map,hl]; exact h)
theorem xQI {ps:List Po} {i:Nat} (h:i < ps.length):(ps.map pc)[i]? = some (pc (ps.getD i Po.rest)):=by
 rw [vZY];simp [vZG,h]
theorem uHF  (aj am ab:Option Addr) (cj nm cm cb n:Nat) (js:List J) (bx:List Iv) (hn:n≤1000) (hjn:js.length=n) (hbn:bx.length=n) (hpar:∀ (k:Nat) (j:J),js[k]? = some j → -1≤j.parent∧j.parent < k) (w:World) (hS:qKC 12 aj (js.map jc) w) (hT:qKC 2 ab (bx.map ivc) w) (hC:∀ w':World,Grow w w'→Calls Tryz.prog 65 [.agg #[.slice aj n cj,.slice am nm cm]].toArray w' (Rets (vI (0:Int)) w')) (hB:∀ w':World,Grow w w'→Calls Tryz.prog 66 [.agg #[.slice aj n cj,.slice am nm cm],.slice ab n cb].toArray w' (Rets (vB true) w')):Calls Tryz.prog 22 [.agg #[.slice aj n cj,.slice am nm cm],.slice ab n cb].toArray w (xXK (X:=Option Addr × Nat) (fun _=>True) (fun x=>.slice x.1 n x.2) (fun x=>OwnF 0 68 24 x.1 x.2 n (plC (lks js bx n))) w):=by
 refine kJ (n:=56) Tryz.func22 rfl rfl rfl ?_;refine zV ?_;refine qU ?_;refine qVU 2 rfl rfl rfl rfl ?_; intro b2;refine qG (zJ rfl) rfl rfl rfl ?_;refine zG ?_;refine qK ?_;refine zV ?_;refine zV ?_;refine qU ?_;refine qG (qZL 2 ty25 rfl rfl rfl) rfl rfl rfl ?_;refine qJL (F:=vI) (uX en65 rfl (fun w' k=>hC w' k.grow)) rfl rfl rfl ?_; intro r9 hr9;refine qG (zVB rfl rfl) rfl rfl rfl ?_;refine qG (zQ rfl) rfl rfl rfl ?_;refine jGA 11 rfl (by rw [hr9]; rfl) ?_;refine qG (qZL 2 ty25 rfl rfl rfl) rfl rfl rfl ?_;refine qG (zQ rfl) rfl rfl rfl ?_;refine qJL (F:=vB) (uX en66 rfl (fun w' k=>hB w' k.grow)) rfl rfl rfl ?_; intro r14 hr14;refine qG (zKX rfl) rfl rfl rfl ?_;refine qG (qHC rfl rfl rfl rfl) rfl rfl rfl ?_;refine zG ?_;refine qK ?_;refine qWH rfl (by rw [hr14]; rfl) ?_;refine qZW ?_;refine qK ?_;refine zV ?_;refine qU ?_;refine qG (zJ rfl) rfl rfl rfl ?_;refine zG ?_;refine qK ?_;refine zV ?_;refine zV ?_;refine uWX 100 68 24 ?_;refine qU ?_;refine qG (zJ rfl) rfl rfl rfl ?_;refine zG ?_;refine qK ?_;refine qKA ?_;refine jGC [1,2] [2] (α:=Nat × Option Addr × Nat × List Po) (fun x=>n - x.1) (fun x=>x.1≤n∧lks js bx x.1=x.2.2.2∧x.2.2.2.length=x.1) (fun x=>⟨w,[(100,ownD x.2.1,OwnF 0 68 24 x.2.1 x.2.2.1 x.1 (plC x.2.2.2))]⟩) (fun x=>[(5,.slice x.2.1 x.1 x.2.2.1),(6,.int .i64 (x.1:Int))]) (fun _=>[]) (0,none,0,[]) rfl rfl ?_ ?_ ?_ ?_ rfl ?_
 ·
  exact ⟨Nat.zero_le _,rfl,rfl⟩
 ·
  exact rfl
 ·
  repeat' first | exact trivial | exact True.intro | refine ⟨rfl,?_⟩
 ·
  repeat' first | exact trivial | exact True.intro | refine ⟨rfl,?_⟩
 rintro ⟨k,a,cap,ps⟩ ⟨hk,hps,hlen⟩
 dsimp only at hk hps hlen ⊢;refine zV ?_;refine zV ?_;refine qU ?_;refine qG (zQ rfl) rfl rfl rfl ?_;refine qG (zQ rfl) rfl rfl rfl ?_;refine qG (zVE sl30 rfl) rfl rfl rfl ?_;refine qG (qKG rfl rfl) rfl rfl rfl ?_;refine zG ?_;refine qK ?_;refine qJH rfl (fun hc20 => ?_) (fun hc20 => ?_)
 ·
  have h2:k < n:=by have:=vJZ hc20; omega
  obtain ⟨j,hjk⟩:∃ j,js[k]? = some j:=⟨_,vQK (by omega)⟩
  obtain ⟨b,hak⟩:∃ b,bx[k]? = some b:=⟨_,vQK (by omega)⟩
  have hj:(js.map jc)[k]? = some (jc j):=by rw [vZY,hjk]; rfl
  have hbk:(bx.map ivc)[k]? = some (ivc b):=by rw [vZY,hak]; rfl
  have hpj:=hpar _ j hjk;refine qZW ?_;refine qK ?_;refine zV ?_;refine qKA ?_;refine zV ?_;refine qUG 11 mo (by kernel_rfl) ?_;simp only [vYK,vYX,vYU,vYW];refine kH (yQ jGX rfl) rfl rfl rfl ?_;refine kH (kQ 2 ty22 rfl rfl rfl) rfl rfl rfl ?_;refine kH (zQ rfl) rfl rfl rfl ?_;refine kH (qUX (e:=88) (qZC hS) (by kernel_rfl) rfl rfl rfl hj h2) rfl rfl rfl ?_;refine kH (qHE (vs:=[.string j.name,.int .i64 j.kind,.int .i64 j.parent,.int .i64 j.off.x,.int .i64 j.off.y,.int .i64 j.off.z,.int .i64 j.lo,.int .i64 j.hi,.int .i64 j.weight,.int .i64 j.speed,.int .i64 j.accel,.int .i64 j.torque]) k 0 (qZC hS) hj ty88 rfl rfl) rfl rfl rfl ?_;refine kH (zQ rfl) rfl rfl rfl ?_;refine kH (zQ rfl) rfl rfl rfl ?_;refine kH (qUX (e:=62) (qZC hT) (by kernel_rfl) rfl rfl rfl hbk h2) rfl rfl rfl ?_;refine kH (qHE (vs:=[.int .i64 b.lo,.int .i64 b.hi]) k 0 (qZC hT) hbk ty62 rfl rfl) rfl rfl rfl ?_;refine yJU (F:=po) (uX en67 rfl (fun w _=>uHI _ _ _ _ _ _ _ _ _ _ _ _ _ _ w)) rfl rfl rfl ?_; intro r32 hr32;refine jGB ze68 rfl rfl rfl rfl ?_;refine zQD ?_;refine jQG 7 rfl ?_; intro b7_2;refine qWY ?_;refine qYZ 7 ty68 rfl rfl rfl rfl rfl rfl rfl rfl ?_;refine zG ?_;refine qK ?_;refine zV ?_;refine zV ?_;refine qU ?_;refine qG (yQ jGX rfl) rfl rfl rfl ?_;refine qG (kQ 2 ty22 rfl rfl rfl) rfl rfl rfl ?_;refine qG (zQ rfl) rfl rfl rfl ?_;refine qG (qUX (e:=88) (qZC hS) (by kernel_rfl) rfl rfl rfl hj h2) rfl rfl rfl ?_;refine qG (zXF (qZC hS) hj kHK rfl) rfl rfl rfl ?_;refine qG (zXE k 2 (qZC hS) hj ty3 rfl rfl) rfl rfl rfl ?_;refine qG (zVB rfl rfl) rfl rfl rfl ?_;refine zG ?_;refine qK ?_;refine qJH rfl (fun hc39 => ?_) (fun hc39 => ?_)
  ·
   have hp:¬ j.parent = -1:=by simpa using hc39
   have hpl:j.parent.toNat < ps.length:=by omega
   have hpn:j.parent=((j.parent.toNat:Nat):Int):=by omega
   refine qUG 11 mo (by kernel_rfl) ?_;simp only [vYK,vYX,vYU,vYW];refine kH (zQ rfl) rfl rfl rfl ?_;refine kH (yQ jGX rfl) rfl rfl rfl ?_;refine kH (kQ 2 ty22 rfl rfl rfl) rfl rfl rfl ?_;refine kH (zQ rfl) rfl rfl rfl ?_;refine kH (qUX (e:=88) (qZC hS) (by kernel_rfl) rfl rfl rfl hj h2) rfl rfl rfl ?_;refine kH (zXF (qZC hS) hj kHK rfl) rfl rfl rfl ?_;refine kH (zXE k 2 (qZC hS) hj ty3 rfl rfl) rfl rfl rfl ?_;refine kH (qUX (e:=68) ((jVB (id:=100) rfl).imp (fun _ h=>kGA hlen h)) (by kernel_rfl) rfl rfl hpn (xQI hpl) (by omega)) rfl rfl rfl ?_;refine kH (qHE (vs:=pc (ps.getD j.parent.toNat Po.rest)) j.parent.toNat 0 ((jVB (id:=100) rfl).imp (fun _ h=>kGA hlen h)) (xQI hpl) ty68 rfl rfl) rfl rfl rfl ?_;refine kH (qZL 7 ty68 rfl rfl rfl) rfl rfl rfl ?_;refine yJU (F:=po) (uX en68 rfl (fun w _=>yVB _ _ _ _ _ _ _ _ _ _ _ _ _ _ _ _ _ _ _ _ _ _ _ _ _ _ _ _ _ _ _ _ _ _ _ _ _ _ _ _ _ _ _ _ _ _ _ _  w)) rfl rfl rfl ?_; intro r50 hr50;refine zQD ?_;refine qWY ?_;refine qYZ 7 ty68 rfl rfl rfl rfl rfl rfl rfl rfl ?_;refine zG ?_;refine qK ?_;refine qU ?_;refine qG (zQ rfl) rfl rfl rfl ?_;refine qG (qZL 7 ty68 rfl rfl rfl) rfl rfl rfl ?_;refine zWW 53 sl69 ze68 rfl rfl rfl rfl rfl rfl rfl rfl ?_; intro b53;refine zWV (id2:=53) 100 xUA rfl rfl rfl rfl rfl rfl rfl (by omega) (by omega) rfl rfl ?_; intro a54 c54 R54 hR54;obtain rfl:=Option.some.inj hR54;refine qG (zJ rfl) rfl rfl rfl ?_;refine zG ?_;refine uH ?_;refine qK ?_;refine qU ?_;refine qG (zQ rfl) rfl rfl rfl ?_;refine qG (qJY rfl rfl (jVV (by omega))) rfl rfl rfl ?_;refine qG (zJ rfl) rfl rfl rfl ?_;refine zG ?_;refine zXH (k + 1,a54,c54,ps ++ [r50]) (by refine ⟨?_,?_,?_⟩ <;> dsimp only; omega; rw [yGL hjk hak,hps]; exact congrArg (fun x=>ps ++ [x]) ((if_neg hp).trans (by rw [show r50=Po.mul (ps.getD j.parent.toNat Po.rest) r32 from hr50,hr32]; try rfl)); simp [hlen]) (by show n - (k + 1) < n - k; omega) (by dsimp only; rw [yVF]; rfl) ?_ ?_ rfl
   repeat' first | exact trivial | exact True.intro | refine ⟨rfl,?_⟩
  ·
   have hp:j.parent = -1:=by simpa using hc39
   refine qZW ?_;refine qK ?_;refine qU ?_;refine qG (zQ rfl) rfl rfl rfl ?_;refine qG (qZL 7 ty68 rfl rfl rfl) rfl rfl rfl ?_;refine zWW 53 sl69 ze68 rfl rfl rfl rfl rfl rfl rfl rfl ?_; intro b53;refine zWV (id2:=53) 100 xUA rfl rfl rfl rfl rfl rfl rfl (by omega) (by omega) rfl rfl ?_; intro a54 c54 R54 hR54;obtain rfl:=Option.some.inj hR54;refine qG (zJ rfl) rfl rfl rfl ?_;refine zG ?_;refine uH ?_;refine qK ?_;refine qU ?_;refine qG (zQ rfl) rfl rfl rfl ?_;refine qG (qJY rfl rfl (jVV (by omega))) rfl rfl rfl ?_;refine qG (zJ rfl) rfl rfl rfl ?_;refine zG ?_;refine zXH (k + 1,a54,c54,ps ++ [r32]) (by refine ⟨?_,?_,?_⟩ <;> dsimp only; omega; rw [yGL hjk hak,hps]; exact congrArg (fun x=>ps ++ [x]) ((if_pos hp).trans hr32.symm); simp [hlen]) (by show n - (k + 1) < n - k; omega) (by dsimp only; rw [yVF]; rfl) ?_ ?_ rfl
   repeat' first | exact trivial | exact True.intro | refine ⟨rfl,?_⟩
 ·
  obtain rfl:k=n:=by have:=vJY hc20; omega
  refine yHA ?_;refine qJG ?_;refine qJG ?_;refine qXI ?_;refine qK ?_;refine zV ?_;refine qU ?_;refine qG (zQ rfl) rfl rfl rfl ?_;refine qG (zJ rfl) rfl rfl rfl ?_;refine zG ?_;refine qK ?_;refine qQK ?_;refine yVD (rs:=[.tmp 4]) rfl (resC (qQY rfl) (resN)) rfl ?_;intro w2 k2;obtain ⟨_,q2,q3⟩:=k2.facts _ vZQ;exact ⟨(a,cap),trivial,rfl,k2.grow,ownD a,yUU _ _ _ _ _ _ _,fun z hz=>⟨(q2 z hz).1,(q2 z hz).2.1⟩,by dsimp only; rw [hps]; exact q3⟩
end Go.Proofs.YtgmbkkkbfbocnaaGreat
namespace Go.Proofs.YtgmbkkkbfbocnaaGreat.Nf
open Go.Rx Rt Go.Sx Go.RowKit Od Na Nb Nc Nx
theorem xUK {i:Int} {j:J} (h:cjT (fun e=>e) i j=0) : -1≤j.parent∧j.parent < i:=by
 unfold cjT at h;by_cases h1:j.kind < 0
 ·rw [vJQ h1,vYV] at h; exact absurd h (by decide)
 by_cases h2:6 < j.kind
 ·rw [vYH h1,vYG,vJQ h2,vYV] at h; exact absurd h (by decide)
 by_cases h3:j.parent < -1
 ·rw [vYH h1,vYG,vYH h2,vYG,vJQ h3,vYV] at h; exact absurd h (by decide)
 by_cases h4:i≤j.parent
 ·rw [vYH h1,vYG,vYH h2,vYG,vYH h3,vYG,vJQ h4,vYV] at h; exact absurd h (by decide)
 omega
theorem uXD {js:Nat→J} {n i:Nat} (h:jErr js n i=0):cjT (fun e=>e) i (js i)=0:=by
 unfold jErr at h;cases h1:nmB (js i).name with
 | false=>rw [h1] at h; exact absurd (show (802:Int)=0 from h) (by decide)
 | true =>
  cases h2:dup js (js i).name i 0 with
  | true=>rw [h1,h2] at h; exact absurd (show (802:Int)=0 from h) (by decide)
  | false=>rw [h1,h2] at h; exact h
theorem kHZ {js:Nat→J} {n:Nat}:∀ {k p:Nat},jE js n k p=0→∀ i,p≤i→i < p + k→jErr js n i=0
 | 0,p,_,i,h1,h2=>by omega
 | k + 1,p,h,i,h1,h2=>by
  unfold jE at h;by_cases hp:jErr js n p=0
  ·rw [vJQ hp,vYV] at h;rcases Nat.eq_or_lt_of_le h1 with e | e
   ·exact e ▸ hp
   ·exact kHZ h i e (by omega)
  ·rw [vYH hp,vYG] at h;exact absurd h hp
theorem uJK {js:Nat→J} {ms:Nat→Ms} {n m:Nat} (h:rErr js ms n m=0):jE js n n 0=0:=by
 have hn:=zJI h;unfold rErr at h;rw [vYH (show ¬ (n:Int)=0 by omega),vYH (show ¬ 10 < (n:Int) by omega),vYG,vYG] at h;by_cases hj:jE js n n 0=0
 ·exact hj
 ·rw [vYH hj,vYG] at h; exact h
theorem kZD {js:Nat→J} {ms:Nat→Ms} {n m:Nat} (h:rErr js ms n m=0):∀ i,i < n → -1≤(js i).parent∧(js i).parent < (i:Int):=fun i hi =>
 xUK (uXD (kHZ (uJK h) i (Nat.zero_le _) (by omega)))
def jl (js:Nat→J) (n:Nat):List J:=(List.range n).map js
def ml (ms:Nat→Ms) (m:Nat):List Ms:=(List.range m).map ms
def bl (bx:Nat→Iv) (k:Nat):List Iv:=(List.range k).map bx
theorem jl_e (js:Nat→J) (n:Nat):(jl js n).map jp=(List.range n).map (fJ js):=by unfold jl; rw [List.map_map]; rfl
theorem ml_e (ms:Nat→Ms) (m:Nat):(ml ms m).map mp=(List.range m).map (fM ms):=by unfold ml; rw [List.map_map]; rfl
theorem bl_e (bx:Nat→Iv) (k:Nat):(bl bx k).map Rx.ivC=(List.range k).map (fB bx):=by unfold bl; rw [List.map_map]; rfl
theorem yHQ (js:Nat→J) (n:Nat):(jl js n).length=n:=by simp [jl]
theorem xJD (ms:Nat→Ms) (m:Nat):(ml ms m).length=m:=by simp [ml]
theorem jGL (bx:Nat→Iv) (k:Nat):(bl bx k).length=k:=by simp [bl]
theorem fJF {js:Nat→J} {n i:Nat} {j:J} (h:(jl js n)[i]? = some j):i < n∧j=js i:=by
 have hl:=(List.getElem?_eq_some_iff.1 h).1;rw [yHQ] at hl;unfold jl at h;rw [vZY,List.getElem?_range hl] at h;cases h;exact ⟨hl,rfl⟩
theorem uHB {js:Nat→J} {ms:Nat→Ms} {n m:Nat} {F:Nat→Prop} {w:World} {v:Value} (hF:∀ k,F k→k < w.heap.size) (h:RP F w (.a [.lf n (fJ js),.lf m (fM ms)]) v):∃ aj cj am cm,v=.agg #[.slice aj n cj,.slice am m cm]∧qKC 12 aj ((jl js n).map jc) w∧qKC 5 am ((ml ms m).map mc) w:=by
 obtain ⟨vs,rfl,ha⟩:=kZB h;obtain ⟨v1,vs,rfl,h1,ha⟩:=qUA ha;obtain ⟨v2,vs,rfl,h2,ha⟩:=qUA ha;obtain rfl:=yQY ha;obtain ⟨aj,cj,rfl,_,hj⟩:=zVJ (sz:=12) (g:=jc) (fun _=>rfl) (fun _=>rfl) (yHQ js n) hF (qHH (jl_e js n) h1);obtain ⟨am,cm,rfl,_,hm⟩:=zVJ (sz:=5) (g:=mc) (fun _=>rfl) (fun _=>rfl) (xJD ms m) hF (qHH (ml_e ms m) h2);exact ⟨aj,cj,am,cm,rfl,hj,hm⟩
theorem xUW {bx:Nat→Iv} {k:Nat} {F:Nat→Prop} {w:World} {v:Value} (hF:∀ k,F k→k < w.heap.size) (h:RP F w (.lf k (fB bx)) v):∃ a c,v=.slice a k c∧qKC 2 a ((bl bx k).map ivc) w:=by
 obtain ⟨a,c,rfl,_,hS⟩:=zVJ (sz:=2) (g:=ivc) (fun _=>rfl) (fun _=>rfl) (jGL bx k) hF (qHH (bl_e bx k) h);exact ⟨a,c,rfl,hS⟩
def LK (js:Nat→J) (bx:Nat→Iv) (n:Nat):List Po:=lks (jl js n) (bl bx n) n
def LP (js:Nat→J) (bx:Nat→Iv) (n:Nat):Nat→Po:=fun i=>(LK js bx n).getD i Po.rest
def fP (P:Nat→Po):Nat→List PV:=fun v=>Rx.poC (P v)
theorem kHI (js:Nat→J) (bx:Nat→Iv) (n:Nat):(LK js bx n).length=n:=jVQ _ (by rw [yHQ]; exact Nat.le_refl _) (by rw [jGL]; exact Nat.le_refl _)
theorem LK_e (js:Nat→J) (bx:Nat→Iv) (n:Nat):(LK js bx n).map Rx.poC=(List.range n).map (fP (LP js bx n)):=by
 have:=jKD Po.rest Rx.poC (LK js bx n)
 rw [kHI] at this;exact this
theorem zJV (js:Nat→J) (ms:Nat→Ms) (bx:Nat→Iv) (n m:Nat) (h0:rErr js ms n m=0) (hv:allV bx n=true):yK Tryz.prog 22 [.a [.lf n (fJ js),.lf m (fM ms)],.lf n (fB bx)] (.v (.lf n (fP (LP js bx n)))):=by
 have hn:=zJI h0;have hp:=kZD h0;have hl:((LK js bx n).map Rx.poC).length=n:=by rw [List.length_map]; exact kHI js bx n
 refine qKW (Same.lf (LK_e js bx n)) (qHU (e:=68) (sz:=24) (jQA (Φ:=fun _=>True) (rows:=(LK js bx n).map Rx.poC) (qW Tryz.func22 (by kernel_rfl) (by kernel_rfl)) (yHU (fun _=>rfl) _) (by decide) (fun w F vals hF hal => ?_)));have hal0:=hal;obtain ⟨v1,vs,rfl,h1,hal⟩:=qUA hal;obtain ⟨v2,vs,rfl,h2,hal⟩:=qUA hal;obtain rfl:=yQY hal;have up:∀ w':World,Grow w w'→∀ {p:PV} {v:Value},RP F w p v→RP (fun k=>k < w'.heap.size) w' p v:=fun w' g p v h=>h.mono fun k hk=>⟨vZK (hF k hk) g.size,g.block k (hF k hk)⟩
 have hC:=fun (w':World) (g:Grow w w')=>qXF (w:=w') (yKB js ms n m) rfl (qYD (up w' g h1) qWL)
 have hB:=fun (w':World) (g:Grow w w')=>qXF (w:=w') (uZL js ms bx n m n (by omega)) rfl (qYD (up w' g h1) (qYD (up w' g h2) qWL))
 obtain ⟨aj,cj,am,cm,rfl,hj,hm'⟩:=uHB hF h1;obtain ⟨ab,cb,rfl,hS⟩:=xUW hF h2;rw [h0] at hC;have hB':isB bx n n=true:=by unfold isB; rw [hv,vJQ rfl]; rfl
 rw [hB'] at hB;rw [hl,zJK (g:=pc) (fun _=>rfl)];exact uHF aj am ab cj m cm cb n (jl js n) (bl bx n) (by omega) (yHQ js n) (jGL bx n) (fun i j h=>by obtain ⟨hi,rfl⟩:=fJF h; exact hp i hi) w hj hS hC hB
end Go.Proofs.YtgmbkkkbfbocnaaGreat.Nf
namespace Go.Proofs.YtgmbkkkbfbocnaaGreat.Ga
open Go.Rx Rt Go.Sx Go.RowKit Od Na Nb Nc Nx Nf
structure Shp where
 link:Int
 rad:Int
 np:Nat
 pts:Nat→Z3
structure Skp where
 a:Int
 b:Int
def zP (p:Z3):List PV:=[.n .i64 p.x,.n .i64 p.y,.n .i64 p.z]
def fZ (p:Nat→Z3):Nat→List PV:=fun w=>zP (p w)
def sP (s:Shp):List PV:=[.n .i64 s.link,.n .i64 s.rad,.lf s.np (fZ s.pts)]
def fS (sh:Nat→Shp):Nat→List PV:=fun v=>sP (sh v)
def fK (sk:Nat→Skp):Nat→List PV:=fun v=>[.n .i64 (sk v).a,.n .i64 (sk v).b]
def unZ (r:List PV):Z3:=match r with
 | [.n _ x,.n _ y,.n _ z]=>⟨x,y,z⟩
 | _=>⟨0,0,0⟩
def unFZ (f:Nat→List PV):Nat→Z3:=fun w=>unZ (f w)
def unS (r:List PV):Shp:=match r with
 | [.n _ l,.n _ q,.lf k f]=>⟨l,q,k,unFZ f⟩
 | _=>⟨0,0,0,fun _=>⟨0,0,0⟩⟩
def unFS (f:Nat→List PV):Nat→Shp:=fun v=>unS (f v)
def unFK (f:Nat→List PV):Nat→Skp:=fun v=>match f v with
 | [.n _ a,.n _ b]=>⟨a,b⟩
 | _=>⟨0,0⟩
def unFJ (f:Nat→List PV):Nat→J:=fun v=>match f v with
 | [.s a0,.n _ a1,.n _ a2,.n _ a3,.n _ a4,.n _ a5,.n _ a6,.n _ a7,.n _ a8,.n _ a9,.n _ a10,.n _ a11]=>⟨a0,a1,a2,⟨a3,a4,a5⟩,a6,a7,a8,a9,a10,a11⟩
 | _=>⟨ByteArray.empty,0,0,⟨0,0,0⟩,0,0,0,0,0,0⟩
def unFM (f:Nat→List PV):Nat→Ms:=fun v=>match f v with
 | [.n _ a0,.n _ a1,.n _ a2,.n _ a3,.n _ a4]=>⟨a0,a1,⟨a2,a3,a4⟩⟩
 | _=>⟨0,0,⟨0,0,0⟩⟩
def isLk (n:Nat) (l:Int):Bool:=decide (-1≤l) && decide (l < (n:Int))
def zOk (k:Int) (p:Z3):Bool:=(!decide (p.x < -k) && !decide (k < p.x)) && ((!decide (p.y < -k) && !decide (k < p.y)) && (!decide (p.z < -k) && !decide (k < p.z)))
noncomputable def xHI (_:Nat→J) (_:Nat→Ms) (_:Nat→Shp) (_:Nat→Skp) (n m c d:Nat) (l:Int):OrS:=orS [] []
noncomputable def kXX (_:Nat→J) (_:Nat→Ms) (_:Nat→Shp) (_:Nat→Skp) (n m c d:Nat) (l:Int):List (List Nat × jG):=[]
set_option maxRecDepth 100000 in
theorem xHY (js:Nat→J) (ms:Nat→Ms) (sh:Nat→Shp) (sk:Nat→Skp) (n m c d:Nat) (l:Int):uJ Tf (xHI js ms sh sk n m c d l) (qZ (kXX js ms sh sk n m c d l)) 60 98 [.a [.lf n (fJ js),.lf m (fM ms),.lf c (fS sh),.lf d (fK sk)],.n .i64 l] =
 (bif (decide ((-1)≤l)) then (bif (decide (l < (n:Int))) then some (.v (.b true),[])
 else some (.v (.b false),[]))
 else some (.v (.b false),[])):=by kernel_rfl
theorem uYZ (js:Nat→J) (ms:Nat→Ms) (sh:Nat→Shp) (sk:Nat→Skp) (n m c d:Nat) (l:Int):yK Tryz.prog 98 [.a [.lf n (fJ js),.lf m (fM ms),.lf c (fS sh),.lf d (fK sk)],.n .i64 l] (.v (.b (isLk n l))):=by
 refine zZ (N:=60) (LO:=qZ (kXX js ms sh sk n m c d l)) jU zW (jW (l:=[]) (m:=[]) trivial trivial) (fun p S hp => ?_) ?_
 ·refine qH (L:=qQ Tf 98) (l:=(kXX js ms sh sk n m c d l)) (show AllP _ (kXX js ms sh sk n m c d l) from trivial) p S hp
 ·refine (xHY js ms sh sk n m c d l).trans ?_;unfold isLk;cases decide (-1≤l) <;> cases decide (l < (n:Int)) <;> rfl
def cil:(Nat→J) × (Nat→Ms) × (Nat→Shp) × (Nat→Skp) × Nat × Nat × Nat × Nat × Int→Prop:=fun t=>match t with | (_,_,_,_,_,_,_,_,_)=>True
def eil:(Nat→J) × (Nat→Ms) × (Nat→Shp) × (Nat→Skp) × Nat × Nat × Nat × Nat × Int→List PV:=fun t=>match t with | (js,ms,sh,sk,n,m,c,d,l)=>[.a [.lf n (fJ js),.lf m (fM ms),.lf c (fS sh),.lf d (fK sk)],.n .i64 l]
noncomputable def ril:(Nat→J) × (Nat→Ms) × (Nat→Shp) × (Nat→Skp) × Nat × Nat × Nat × Nat × Int→Ret:=fun t=>match t with | (_,_,_,_,n,_,_,_,l)=>.v (.b (isLk n l))
def dil:List PV→(Nat→J) × (Nat→Ms) × (Nat→Shp) × (Nat→Skp) × Nat × Nat × Nat × Nat × Int:=fun ps=>match ps with
 | [.a [.lf n js,.lf m ms,.lf c sh,.lf d sk],.n _ l]=>(unFJ js,unFM ms,unFS sh,unFK sk,n,m,c,d,l)
 | _=>(fun _=>⟨ByteArray.empty,0,0,⟨0,0,0⟩,0,0,0,0,0,0⟩,fun _=>⟨0,0,⟨0,0,0⟩⟩,fun _=>⟨0,0,0,fun _=>⟨0,0,0⟩⟩,fun _=>⟨0,0⟩,0,0,0,0,0)
noncomputable def o_il:List PV→Option (Bool × Ret):=o_fm dil cil eil ril
theorem xYV:zY Tryz.prog 98 o_il:=uK fun t h=>by
 obtain ⟨js,ms,sh,sk,n,m,c,d,l⟩:=t;exact uYZ js ms sh sk n m c d l
noncomputable def xHF (_:Nat→J) (_:Nat→Ms) (n m:Nat) (l:Int):OrS:=orS [] []
noncomputable def kXU (_:Nat→J) (_:Nat→Ms) (n m:Nat) (l:Int):List (List Nat × jG):=[]
set_option maxRecDepth 100000 in
theorem xHZ (js:Nat→J) (ms:Nat→Ms) (n m:Nat) (l:Int):uJ Tf (xHF js ms n m l) (qZ (kXU js ms n m l)) 60 104 [.a [.lf n (fJ js),.lf m (fM ms)],.n .i64 l] =
 (bif (decide ((-1)≤l)) then (bif (decide (l < (n:Int))) then some (.v (.b true),[])
 else some (.v (.b false),[]))
 else some (.v (.b false),[])):=by kernel_rfl
theorem uYQ (js:Nat→J) (ms:Nat→Ms) (n m:Nat) (l:Int):yK Tryz.prog 104 [.a [.lf n (fJ js),.lf m (fM ms)],.n .i64 l] (.v (.b (isLk n l))):=by
 refine zZ (N:=60) (LO:=qZ (kXU js ms n m l)) jU zW (jW (l:=[]) (m:=[]) trivial trivial) (fun p S hp => ?_) ?_
 ·refine qH (L:=qQ Tf 104) (l:=(kXU js ms n m l)) (show AllP _ (kXU js ms n m l) from trivial) p S hp
 ·refine (xHZ js ms n m l).trans ?_;unfold isLk;cases decide (-1≤l) <;> cases decide (l < (n:Int)) <;> rfl
def cir:(Nat→J) × (Nat→Ms) × Nat × Nat × Int→Prop:=fun t=>match t with | (_,_,_,_,_)=>True
def eir:(Nat→J) × (Nat→Ms) × Nat × Nat × Int→List PV:=fun t=>match t with | (js,ms,n,m,l)=>[.a [.lf n (fJ js),.lf m (fM ms)],.n .i64 l]
noncomputable def rir:(Nat→J) × (Nat→Ms) × Nat × Nat × Int→Ret:=fun t=>match t with | (_,_,n,_,l)=>.v (.b (isLk n l))
def dir:List PV→(Nat→J) × (Nat→Ms) × Nat × Nat × Int:=fun ps=>match ps with
 | [.a [.lf n js,.lf m ms],.n _ l]=>(unFJ js,unFM ms,n,m,l)
 | _=>(fun _=>⟨ByteArray.empty,0,0,⟨0,0,0⟩,0,0,0,0,0,0⟩,fun _=>⟨0,0,⟨0,0,0⟩⟩,0,0,0)
noncomputable def o_ir:List PV→Option (Bool × Ret):=o_fm dir cir eir rir
theorem fZZ:zY Tryz.prog 104 o_ir:=uK fun t h=>by
 obtain ⟨js,ms,n,m,l⟩:=t;exact uYQ js ms n m l
noncomputable def orbt (x _ _:Int):OrS:=orS [] []
noncomputable def lsbt (x _ _:Int):List (List Nat × jG):=[]
set_option maxRecDepth 100000 in
theorem pxbt (x lo hi:Int):uJ Tf (orbt x lo hi) (qZ (lsbt x lo hi)) 60 105 [.n .i64 x,.n .i64 lo,.n .i64 hi] =
 (bif (decide (lo≤x)) then (bif (decide (x≤hi)) then some (.v (.b true),[])
 else some (.v (.b false),[]))
 else some (.v (.b false),[])):=by kernel_rfl
theorem uHJ (x lo hi:Int):yK Tryz.prog 105 [.n .i64 x,.n .i64 lo,.n .i64 hi] (.v (.b (decide (lo≤x) && decide (x≤hi)))):=by
 refine zZ (N:=60) (LO:=qZ (lsbt x lo hi)) jU zW (jW (l:=[]) (m:=[]) trivial trivial) (fun p S hp => ?_) ?_
 ·refine qH (L:=qQ Tf 105) (l:=(lsbt x lo hi)) (show AllP _ (lsbt x lo hi) from trivial) p S hp
 ·refine (pxbt x lo hi).trans ?_;cases decide (lo≤x) <;> cases decide (x≤hi) <;> rfl
def cbt:Int × Int × Int→Prop:=fun t=>match t with | (_,_,_)=>True
def ebt:Int × Int × Int→List PV:=fun t=>match t with | (x,lo,hi)=>[.n .i64 x,.n .i64 lo,.n .i64 hi]
noncomputable def rbt:Int × Int × Int→Ret:=fun t=>match t with | (x,lo,hi)=>.v (.b (decide (lo≤x) && decide (x≤hi)))
def dbt:List PV→Int × Int × Int:=fun ps=>match ps with
 | [.n _ x,.n _ lo,.n _ hi]=>(x,lo,hi)
 | _=>(0,0,0)
noncomputable def o_bt:List PV→Option (Bool × Ret):=o_fm dbt cbt ebt rbt
theorem fZA:zY Tryz.prog 105 o_bt:=uK fun t h=>by
 obtain ⟨x,lo,hi⟩:=t;exact uHJ x lo hi
noncomputable def ornr (_:Z3):OrS:=orS [] []
noncomputable def lsnr (_:Z3):List (List Nat × jG):=[]
set_option maxRecDepth 100000 in
theorem pxnr (z:Z3):uJ Tf (ornr z) (qZ (lsnr z)) 60 57 [.a [.n .i64 z.x,.n .i64 z.y,.n .i64 z.z],.n .i64 4194304] =
 (bif (decide (z.x < (-4194304))) then some (.v (.b false),[])
 else (bif (decide (4194304 < z.x)) then some (.v (.b false),[])
 else (bif (decide (z.y < (-4194304))) then some (.v (.b false),[])
 else (bif (decide (4194304 < z.y)) then some (.v (.b false),[])
 else (bif (decide (z.z < (-4194304))) then some (.v (.b false),[])
 else (bif (decide (4194304 < z.z)) then some (.v (.b false),[])
 else some (.v (.b true),[]))))))):=by kernel_rfl
theorem uGI (z:Z3):yK Tryz.prog 57 [.a [.n .i64 z.x,.n .i64 z.y,.n .i64 z.z],.n .i64 4194304] (.v (.b (zOk 4194304 z))):=by
 refine zZ (N:=60) (LO:=qZ (lsnr z)) jU zW (jW (l:=[]) (m:=[]) trivial trivial) (fun p S hp => ?_) ?_
 ·refine qH (L:=qQ Tf 57) (l:=(lsnr z)) (show AllP _ (lsnr z) from trivial) p S hp
 ·refine (pxnr z).trans ?_;unfold zOk;cases decide (z.x < -4194304) <;> cases decide (4194304 < z.x) <;> cases decide (z.y < -4194304) <;> cases decide (4194304 < z.y) <;> cases decide (z.z < -4194304) <;> cases decide (4194304 < z.z) <;> rfl
def cnr:Z3→Prop:=fun t=>match t with | _=>True
def enr:Z3→List PV:=fun t=>match t with | z=>[.a (zP z),.n .i64 4194304]
noncomputable def rnr:Z3→Ret:=fun t=>match t with | z=>.v (.b (zOk 4194304 z))
def dnr:List PV→Z3:=fun ps=>match ps with
 | [.a r,.n _ _]=>(unZ r)
 | _=>⟨0,0,0⟩
noncomputable def o_nr:List PV→Option (Bool × Ret):=o_fm dnr cnr enr rnr
theorem xZI:zY Tryz.prog 57 o_nr:=uK fun t h=>by
 revert h; revert t; intro z h
 exact uGI z
end Go.Proofs.YtgmbkkkbfbocnaaGreat.Ga
namespace Go.Proofs.YtgmbkkkbfbocnaaGreat.Gb
open Go.Rx Rt Go.Sx Go.RowKit Od Na Nb Nc Nx Nf Ga
def zKQ (s:Shp):Bool:=allN (fun i:Nat=>zOk 4194304 (s.pts i)) s.np 0
def shE (n:Nat) (s:Shp):Int:=bif !isLk n s.link || (decide (s.rad < 1) || (decide (1048576 < s.rad) || (decide ((s.np:Int) < 1) || decide (8 < (s.np:Int))))) then 902 else bif zKQ s then 0 else 805
noncomputable def orCs (_:Nat→J) (_:Nat→Ms) (_:Nat→Shp) (_:Nat→Skp) (n m c d:Nat) (s:Shp):OrS:=orS [(98,o_il)] []
noncomputable def hCs (_:Nat→J) (_:Nat→Ms) (_:Nat→Shp) (_:Nat→Skp) (n m c d:Nat) (s:Shp) (i:Int):St:=⟨[(37,.v (.lf s.np (fZ s.pts))),(38,.v (.n .i64 (s.np:Int))),(39,.v (.n .i64 i))],[]⟩
set_option maxRecDepth 100000 in
theorem rdCs (G:St→Option (Ret × Mem)) (K:Cont) (js:Nat→J) (ms:Nat→Ms) (sh:Nat→Shp) (sk:Nat→Skp) (n m c d:Nat) (s:Shp) (i:Int):jJ 60 (cxS Tf (orCs js ms sh sk n m c d s) 60 97 (ntmF Tf 97)) (evX Tf (orCs js ms sh sk n m c d s) 60 97 (ntmF Tf 97)) (qZ []) (qQ Tf 97 [0,1,0,1,1,1]) [0,1,0,1,1,1] (Tf.hint 97 (qJ (qQ Tf 97 [0,1,0,1,1,1]))) K G (hCs js ms sh sk n m c d s i) =
 (bif (decide (i < (s.np:Int))) then (bif (inB i s.np) then (bif (decide ((s.pts (i).toNat).x < (-4194304))) then (K .ret ⟨[(4,.v (.n .i64 805))],[]⟩)
 else (bif (decide (4194304 < (s.pts (i).toNat).x)) then (K .ret ⟨[(4,.v (.n .i64 805))],[]⟩)
 else (bif (decide ((s.pts (i).toNat).y < (-4194304))) then (K .ret ⟨[(4,.v (.n .i64 805))],[]⟩)
 else (bif (decide (4194304 < (s.pts (i).toNat).y)) then (K .ret ⟨[(4,.v (.n .i64 805))],[]⟩)
 else (bif (decide ((s.pts (i).toNat).z < (-4194304))) then (K .ret ⟨[(4,.v (.n .i64 805))],[]⟩)
 else (bif (decide (4194304 < (s.pts (i).toNat).z)) then (K .ret ⟨[(4,.v (.n .i64 805))],[]⟩)
 else (G (hCs js ms sh sk n m c d s (vJJ .i64 (i + 1))))))))))
 else none)
 else (K (.exit 0) ⟨[],[]⟩)):=by kernel_rfl
theorem lpCs (K:Cont) (js:Nat→J) (ms:Nat→Ms) (sh:Nat→Shp) (sk:Nat→Skp) (n m c d:Nat) (s:Shp) (_:s.np≤50):LFX 60 (cxS Tf (orCs js ms sh sk n m c d s) 60 97 (ntmF Tf 97)) (evX Tf (orCs js ms sh sk n m c d s) 60 97 (ntmF Tf 97)) (qZ []) (qQ Tf 97 [0,1,0,1,1,1]) [0,1,0,1,1,1] (Tf.hint 97 (qJ (qQ Tf 97 [0,1,0,1,1,1]))) K 60 (hCs js ms sh sk n m c d s 0)=bif (allN (fun i:Nat=>zOk 4194304 (s.pts i)) s.np 0) then (K (.exit 0) ⟨[],[]⟩) else (K .ret ⟨[(4,.v (.n .i64 805))],[]⟩):=by
 refine (kW (L:=LFX 60 (cxS Tf (orCs js ms sh sk n m c d s) 60 97 (ntmF Tf 97)) (evX Tf (orCs js ms sh sk n m c d s) 60 97 (ntmF Tf 97)) (qZ []) (qQ Tf 97 [0,1,0,1,1,1]) [0,1,0,1,1,1] (Tf.hint 97 (qJ (qQ Tf 97 [0,1,0,1,1,1]))) K) (stp:=jJ 60 (cxS Tf (orCs js ms sh sk n m c d s) 60 97 (ntmF Tf 97)) (evX Tf (orCs js ms sh sk n m c d s) 60 97 (ntmF Tf 97)) (qZ []) (qQ Tf 97 [0,1,0,1,1,1]) [0,1,0,1,1,1] (Tf.hint 97 (qJ (qQ Tf 97 [0,1,0,1,1,1]))) K) (fun _ _=>rfl) (fun (i:Nat) (_:Unit)=>hCs js ms sh sk n m c d s (i:Int)) (fun _ _=>True) (fun (i:Nat) _=>zOk 4194304 (s.pts i)) (fun _ _=>()) (c:=s.np) (fun _=>(K (.exit 0) ⟨[],[]⟩)) (fun i _=>(K .ret ⟨[(4,.v (.n .i64 805))],[]⟩)) (fun G i f hi _ => ?_) (fun _ _ _ _ _=>trivial) (fun G f _ => ?_) s.np 0 60 () (by omega) (by omega) trivial).trans ((yH _ _ _ _ _).trans (yW _ _ _ _ _))
 ·refine (rdCs G K js ms sh sk n m c d s i).trans ?_;rw [vJQ (show (i:Int) < (s.np:Int) by omega),kY (by omega),yZ (show i < s.np by omega),toN];unfold zOk;cases decide ((s.pts i).x < -4194304) <;> cases decide (4194304 < (s.pts i).x) <;> cases decide ((s.pts i).y < -4194304) <;> cases decide (4194304 < (s.pts i).y) <;> cases decide ((s.pts i).z < -4194304) <;> cases decide (4194304 < (s.pts i).z) <;> rfl
 ·refine (rdCs G K js ms sh sk n m c d s s.np).trans ?_;rw [vYH (show ¬ (s.np:Int) < (s.np:Int) by omega)];rfl
noncomputable def kXH (js:Nat→J) (ms:Nat→Ms) (sh:Nat→Shp) (sk:Nat→Skp) (n m c d:Nat) (s:Shp):List (List Nat × jG):=[([0,1,0,1,1,1],sumF (fun _:Unit=>(hCs js ms sh sk n m c d s 0)) (fun _=>()) (fun _ K=>(bif (decide (s.np≤50)) then (bif (allN (fun i:Nat=>zOk 4194304 (s.pts i)) s.np 0) then (K (.exit 0) ⟨[],[]⟩) else (K .ret ⟨[(4,.v (.n .i64 805))],[]⟩)) else none)))]
set_option maxRecDepth 100000 in
theorem xHX (js:Nat→J) (ms:Nat→Ms) (sh:Nat→Shp) (sk:Nat→Skp) (n m c d:Nat) (s:Shp):uJ Tf (orCs js ms sh sk n m c d s) (qZ (kXH js ms sh sk n m c d s)) 60 97 [.a [.lf n (fJ js),.lf m (fM ms),.lf c (fS sh),.lf d (fK sk)],.a (sP s)] =
 (bif (gF1 cil eil (js,ms,sh,sk,n,m,c,d,s.link)) then (bif (isLk n s.link) then (bif (decide (s.rad < 1)) then some (.v (.n .i64 902),[])
 else (bif (decide (1048576 < s.rad)) then some (.v (.n .i64 902),[])
 else (bif (decide ((s.np:Int) < 1)) then some (.v (.n .i64 902),[])
 else (bif (decide (8 < (s.np:Int))) then some (.v (.n .i64 902),[])
 else (bif (gSt (hCs js ms sh sk n m c d s 0) (hCs js ms sh sk n m c d s 0)) then (bif (decide (s.np≤50)) then (bif (allN (fun i:Nat=>zOk 4194304 (s.pts i)) s.np 0) then some (.v (.n .i64 0),[])
 else some (.v (.n .i64 805),[]))
 else none)
 else none)))))
 else some (.v (.n .i64 902),[]))
 else none):=by kernel_rfl
theorem uYU (js:Nat→J) (ms:Nat→Ms) (sh:Nat→Shp) (sk:Nat→Skp) (n m c d:Nat) (s:Shp):yK Tryz.prog 97 [.a [.lf n (fJ js),.lf m (fM ms),.lf c (fS sh),.lf d (fK sk)],.a (sP s)] (.v (.n .i64 (shE n s))):=by
 refine zZ (N:=60) (LO:=qZ (kXH js ms sh sk n m c d s)) jU zW (jW (l:=[(98,o_il)]) (m:=[]) ⟨xYV,trivial⟩ trivial) (fun p S hp => ?_) ?_
 ·refine qH (L:=qQ Tf 97) (l:=(kXH js ms sh sk n m c d s)) (show AllP _ (kXH js ms sh sk n m c d s) from ⟨?_,trivial⟩) p S hp
  ·dsimp only;refine jY (T:=Tf) (o:=(orCs js ms sh sk n m c d s)) (f:=97) (LO:=qZ []) (p:=[0,1,0,1,1,1]) kK ?_;intro t K r hr;obtain ⟨hg,hr⟩:=qY hr;have hk:=vJZ hg;exact (lpCs K js ms sh sk n m c d s hk).trans hr
 ·refine (xHX js ms sh sk n m c d s).trans ?_;unfold shE zKQ;rw [jQ (C:=cil) (t:=(js,ms,sh,sk,n,m,c,d,s.link)) trivial,yU];by_cases h:8 < (s.np:Int)
  ·rw [vJQ h];cases isLk n s.link <;> cases decide (s.rad < 1) <;> cases decide (1048576 < s.rad) <;> cases decide ((s.np:Int) < 1) <;> rfl
  ·rw [vYH h,vJQ (show s.np≤50 by omega)];cases isLk n s.link <;> cases decide (s.rad < 1) <;> cases decide (1048576 < s.rad) <;> cases decide ((s.np:Int) < 1) <;> cases allN (fun i:Nat=>zOk 4194304 (s.pts i)) s.np 0 <;> rfl
def ccs:(Nat→J) × (Nat→Ms) × (Nat→Shp) × (Nat→Skp) × Nat × Nat × Nat × Nat × Shp→Prop:=fun t=>match t with | (_,_,_,_,_,_,_,_,_)=>True
def ecs:(Nat→J) × (Nat→Ms) × (Nat→Shp) × (Nat→Skp) × Nat × Nat × Nat × Nat × Shp→List PV:=fun t=>match t with | (js,ms,sh,sk,n,m,c,d,s)=>[.a [.lf n (fJ js),.lf m (fM ms),.lf c (fS sh),.lf d (fK sk)],.a (sP s)]
noncomputable def rcs:(Nat→J) × (Nat→Ms) × (Nat→Shp) × (Nat→Skp) × Nat × Nat × Nat × Nat × Shp→Ret:=fun t=>match t with | (_,_,_,_,n,_,_,_,s)=>.v (.n .i64 (shE n s))
def dcs:List PV→(Nat→J) × (Nat→Ms) × (Nat→Shp) × (Nat→Skp) × Nat × Nat × Nat × Nat × Shp:=fun ps=>match ps with
 | [.a [.lf n js,.lf m ms,.lf c sh,.lf d sk],.a r]=>(unFJ js,unFM ms,unFS sh,unFK sk,n,m,c,d,unS r)
 | _=>(fun _=>⟨ByteArray.empty,0,0,⟨0,0,0⟩,0,0,0,0,0,0⟩,fun _=>⟨0,0,⟨0,0,0⟩⟩,fun _=>⟨0,0,0,fun _=>⟨0,0,0⟩⟩,fun _=>⟨0,0⟩,0,0,0,0,⟨0,0,0,fun _=>⟨0,0,0⟩⟩)
noncomputable def o_cs:List PV→Option (Bool × Ret):=o_fm dcs ccs ecs rcs
theorem fZW:zY Tryz.prog 97 o_cs:=uK fun t h=>by
 obtain ⟨js,ms,sh,sk,n,m,c,d,s⟩:=t;exact uYU js ms sh sk n m c d s
def shOk (s:Shp):Bool:=!(decide (s.rad < 1) || (decide (1048576 < s.rad) || (decide ((s.np:Int) < 1) || decide (8 < (s.np:Int))))) && zKQ s
noncomputable def orPc (s:Shp):OrS:=orS [] []
noncomputable def hPc (s:Shp) (i:Int):St:=⟨[(28,.v (.lf s.np (fZ s.pts))),(29,.v (.n .i64 (s.np:Int))),(30,.v (.n .i64 i))],[]⟩
set_option maxRecDepth 100000 in
theorem rdPc (G:St→Option (Ret × Mem)) (K:Cont) (s:Shp) (i:Int):jJ 60 (cxS Tf (orPc s) 60 103 (ntmF Tf 103)) (evX Tf (orPc s) 60 103 (ntmF Tf 103)) (qZ []) (qQ Tf 103 [0,1,0,1,1]) [0,1,0,1,1] (Tf.hint 103 (qJ (qQ Tf 103 [0,1,0,1,1]))) K G (hPc s i) =
 (bif (decide (i < (s.np:Int))) then (bif (inB i s.np) then (bif (decide ((s.pts (i).toNat).x < (-4194304))) then (K .ret ⟨[(2,.v (.b false))],[]⟩)
 else (bif (decide (4194304 < (s.pts (i).toNat).x)) then (K .ret ⟨[(2,.v (.b false))],[]⟩)
 else (bif (decide ((s.pts (i).toNat).y < (-4194304))) then (K .ret ⟨[(2,.v (.b false))],[]⟩)
 else (bif (decide (4194304 < (s.pts (i).toNat).y)) then (K .ret ⟨[(2,.v (.b false))],[]⟩)
 else (bif (decide ((s.pts (i).toNat).z < (-4194304))) then (K .ret ⟨[(2,.v (.b false))],[]⟩)
 else (bif (decide (4194304 < (s.pts (i).toNat).z)) then (K .ret ⟨[(2,.v (.b false))],[]⟩)
 else (G (hPc s (vJJ .i64 (i + 1))))))))))
 else none)
 else (K (.exit 0) ⟨[],[]⟩)):=by kernel_rfl
theorem lpPc (K:Cont) (s:Shp) (_:s.np≤50):LFX 60 (cxS Tf (orPc s) 60 103 (ntmF Tf 103)) (evX Tf (orPc s) 60 103 (ntmF Tf 103)) (qZ []) (qQ Tf 103 [0,1,0,1,1]) [0,1,0,1,1] (Tf.hint 103 (qJ (qQ Tf 103 [0,1,0,1,1]))) K 60 (hPc s 0)=bif (allN (fun i:Nat=>zOk 4194304 (s.pts i)) s.np 0) then (K (.exit 0) ⟨[],[]⟩) else (K .ret ⟨[(2,.v (.b false))],[]⟩):=by
 refine (kW (L:=LFX 60 (cxS Tf (orPc s) 60 103 (ntmF Tf 103)) (evX Tf (orPc s) 60 103 (ntmF Tf 103)) (qZ []) (qQ Tf 103 [0,1,0,1,1]) [0,1,0,1,1] (Tf.hint 103 (qJ (qQ Tf 103 [0,1,0,1,1]))) K) (stp:=jJ 60 (cxS Tf (orPc s) 60 103 (ntmF Tf 103)) (evX Tf (orPc s) 60 103 (ntmF Tf 103)) (qZ []) (qQ Tf 103 [0,1,0,1,1]) [0,1,0,1,1] (Tf.hint 103 (qJ (qQ Tf 103 [0,1,0,1,1]))) K) (fun _ _=>rfl) (fun (i:Nat) (_:Unit)=>hPc s (i:Int)) (fun _ _=>True) (fun (i:Nat) _=>zOk 4194304 (s.pts i)) (fun _ _=>()) (c:=s.np) (fun _=>(K (.exit 0) ⟨[],[]⟩)) (fun i _=>(K .ret ⟨[(2,.v (.b false))],[]⟩)) (fun G i f hi _ => ?_) (fun _ _ _ _ _=>trivial) (fun G f _ => ?_) s.np 0 60 () (by omega) (by omega) trivial).trans ((yH _ _ _ _ _).trans (yW _ _ _ _ _))
 ·refine (rdPc G K s i).trans ?_;rw [vJQ (show (i:Int) < (s.np:Int) by omega),kY (by omega),yZ (show i < s.np by omega),toN];unfold zOk;cases decide ((s.pts i).x < -4194304) <;> cases decide (4194304 < (s.pts i).x) <;> cases decide ((s.pts i).y < -4194304) <;> cases decide (4194304 < (s.pts i).y) <;> cases decide ((s.pts i).z < -4194304) <;> cases decide (4194304 < (s.pts i).z) <;> rfl
 ·refine (rdPc G K s s.np).trans ?_;rw [vYH (show ¬ (s.np:Int) < (s.np:Int) by omega)];rfl
noncomputable def kUF (s:Shp):List (List Nat × jG):=[([0,1,0,1,1],sumF (fun _:Unit=>(hPc s 0)) (fun _=>()) (fun _ K=>(bif (decide (s.np≤50)) then (bif (allN (fun i:Nat=>zOk 4194304 (s.pts i)) s.np 0) then (K (.exit 0) ⟨[],[]⟩) else (K .ret ⟨[(2,.v (.b false))],[]⟩)) else none)))]
set_option maxRecDepth 100000 in
theorem xGB (s:Shp):uJ Tf (orPc s) (qZ (kUF s)) 60 103 [.a (sP s)] =
 (bif (decide (s.rad < 1)) then some (.v (.b false),[])
 else (bif (decide (1048576 < s.rad)) then some (.v (.b false),[])
 else (bif (decide ((s.np:Int) < 1)) then some (.v (.b false),[])
 else (bif (decide (8 < (s.np:Int))) then some (.v (.b false),[])
 else (bif (gSt (hPc s 0) (hPc s 0)) then (bif (decide (s.np≤50)) then (bif (allN (fun i:Nat=>zOk 4194304 (s.pts i)) s.np 0) then some (.v (.b true),[])
 else some (.v (.b false),[]))
 else none)
 else none))))):=by kernel_rfl
theorem uZH (s:Shp):yK Tryz.prog 103 [.a (sP s)] (.v (.b (shOk s))):=by
 refine zZ (N:=60) (LO:=qZ (kUF s)) jU zW (jW (l:=[]) (m:=[]) trivial trivial) (fun p S hp => ?_) ?_
 ·refine qH (L:=qQ Tf 103) (l:=(kUF s)) (show AllP _ (kUF s) from ⟨?_,trivial⟩) p S hp
  ·dsimp only;refine jY (T:=Tf) (o:=(orPc s)) (f:=103) (LO:=qZ []) (p:=[0,1,0,1,1]) kK ?_;intro t K r hr;obtain ⟨hg,hr⟩:=qY hr;have hk:=vJZ hg;exact (lpPc K s hk).trans hr
 ·refine (xGB s).trans ?_;unfold shOk zKQ;rw [yU];by_cases h:8 < (s.np:Int)
  ·rw [vJQ h];cases decide (s.rad < 1) <;> cases decide (1048576 < s.rad) <;> cases decide ((s.np:Int) < 1) <;> rfl
  ·rw [vYH h,vJQ (show s.np≤50 by omega)];cases decide (s.rad < 1) <;> cases decide (1048576 < s.rad) <;> cases decide ((s.np:Int) < 1) <;> cases allN (fun i:Nat=>zOk 4194304 (s.pts i)) s.np 0 <;> rfl
def cpk:Shp→Prop:=fun t=>match t with | _=>True
def epk:Shp→List PV:=fun t=>match t with | s=>[.a (sP s)]
noncomputable def rpk:Shp→Ret:=fun t=>match t with | s=>.v (.b (shOk s))
def dpk:List PV→Shp:=fun ps=>match ps with
 | [.a r]=>unS r
 | _=>⟨0,0,0,fun _=>⟨0,0,0⟩⟩
noncomputable def o_pk:List PV→Option (Bool × Ret):=o_fm dpk cpk epk rpk
theorem fQD:zY Tryz.prog 103 o_pk:=uK fun t h=>by
 revert h; revert t; intro s h
 exact uZH s
noncomputable def orRk (s:Shp):OrS:=orS [(57,o_nr)] []
noncomputable def hRk (s:Shp) (i:Int):St:=⟨[(1,.p 1 0),(3,.v (.n .i64 i))],[(1,.blk [.v (.n .i64 s.link),.v (.n .i64 s.rad),.v (.lf s.np (fZ s.pts))])]⟩
set_option maxRecDepth 100000 in
theorem rdRk (G:St→Option (Ret × Mem)) (K:Cont) (s:Shp) (i:Int):jJ 60 (cxS Tf (orRk s) 60 107 (ntmF Tf 107)) (evX Tf (orRk s) 60 107 (ntmF Tf 107)) (qZ []) (qQ Tf 107 [0,1,0,1,1]) [0,1,0,1,1] (Tf.hint 107 (qJ (qQ Tf 107 [0,1,0,1,1]))) K G (hRk s i) =
 (bif (decide (i < (s.np:Int))) then (bif (inB i s.np) then (bif (gF1 cnr enr (s.pts (i).toNat)) then (bif (zOk 4194304 (s.pts (i).toNat)) then (G (hRk s (vJJ .i64 (i + 1))))
 else (K .ret ⟨[(2,.v (.b false))],[]⟩))
 else none)
 else none)
 else (K (.exit 0) ⟨[],[]⟩)):=by kernel_rfl
theorem lpRk (K:Cont) (s:Shp) (_:s.np≤50):LFX 60 (cxS Tf (orRk s) 60 107 (ntmF Tf 107)) (evX Tf (orRk s) 60 107 (ntmF Tf 107)) (qZ []) (qQ Tf 107 [0,1,0,1,1]) [0,1,0,1,1] (Tf.hint 107 (qJ (qQ Tf 107 [0,1,0,1,1]))) K 60 (hRk s 0)=bif (allN (fun i:Nat=>zOk 4194304 (s.pts i)) s.np 0) then (K (.exit 0) ⟨[],[]⟩) else (K .ret ⟨[(2,.v (.b false))],[]⟩):=by
 refine (kW (L:=LFX 60 (cxS Tf (orRk s) 60 107 (ntmF Tf 107)) (evX Tf (orRk s) 60 107 (ntmF Tf 107)) (qZ []) (qQ Tf 107 [0,1,0,1,1]) [0,1,0,1,1] (Tf.hint 107 (qJ (qQ Tf 107 [0,1,0,1,1]))) K) (stp:=jJ 60 (cxS Tf (orRk s) 60 107 (ntmF Tf 107)) (evX Tf (orRk s) 60 107 (ntmF Tf 107)) (qZ []) (qQ Tf 107 [0,1,0,1,1]) [0,1,0,1,1] (Tf.hint 107 (qJ (qQ Tf 107 [0,1,0,1,1]))) K) (fun _ _=>rfl) (fun (i:Nat) (_:Unit)=>hRk s (i:Int)) (fun _ _=>True) (fun (i:Nat) _=>zOk 4194304 (s.pts i)) (fun _ _=>()) (c:=s.np) (fun _=>(K (.exit 0) ⟨[],[]⟩)) (fun i _=>(K .ret ⟨[(2,.v (.b false))],[]⟩)) (fun G i f hi _ => ?_) (fun _ _ _ _ _=>trivial) (fun G f _ => ?_) s.np 0 60 () (by omega) (by omega) trivial).trans ((yH _ _ _ _ _).trans (yW _ _ _ _ _))
 ·refine (rdRk G K s i).trans ?_;rw [vJQ (show (i:Int) < (s.np:Int) by omega),kY (by omega),yZ (show i < s.np by omega),toN,jQ (C:=cnr) (t:=s.pts i) trivial];cases zOk 4194304 (s.pts i) <;> rfl
 ·refine (rdRk G K s s.np).trans ?_;rw [vYH (show ¬ (s.np:Int) < (s.np:Int) by omega)];rfl
noncomputable def kUE (s:Shp):List (List Nat × jG):=[([0,1,0,1,1],sumF (fun _:Unit=>(hRk s 0)) (fun _=>()) (fun _ K=>(bif (decide (s.np≤50)) then (bif (allN (fun i:Nat=>zOk 4194304 (s.pts i)) s.np 0) then (K (.exit 0) ⟨[],[]⟩) else (K .ret ⟨[(2,.v (.b false))],[]⟩)) else none)))]
set_option maxRecDepth 100000 in
theorem xGA (s:Shp):uJ Tf (orRk s) (qZ (kUE s)) 60 107 [.a (sP s)] =
 (bif (decide (s.rad < 1)) then some (.v (.b false),[])
 else (bif (decide (1048576 < s.rad)) then some (.v (.b false),[])
 else (bif (decide ((s.np:Int) < 1)) then some (.v (.b false),[])
 else (bif (decide (8 < (s.np:Int))) then some (.v (.b false),[])
 else (bif (gSt (hRk s 0) (hRk s 0)) then (bif (decide (s.np≤50)) then (bif (allN (fun i:Nat=>zOk 4194304 (s.pts i)) s.np 0) then some (.v (.b true),[])
 else some (.v (.b false),[]))
 else none)
 else none))))):=by kernel_rfl
theorem uZW (s:Shp):yK Tryz.prog 107 [.a (sP s)] (.v (.b (shOk s))):=by
 refine zZ (N:=60) (LO:=qZ (kUE s)) jU zW (jW (l:=[(57,o_nr)]) (m:=[]) ⟨xZI,trivial⟩ trivial) (fun p S hp => ?_) ?_
 ·refine qH (L:=qQ Tf 107) (l:=(kUE s)) (show AllP _ (kUE s) from ⟨?_,trivial⟩) p S hp
  ·dsimp only;refine jY (T:=Tf) (o:=(orRk s)) (f:=107) (LO:=qZ []) (p:=[0,1,0,1,1]) kK ?_;intro t K r hr;obtain ⟨hg,hr⟩:=qY hr;have hk:=vJZ hg;exact (lpRk K s hk).trans hr
 ·refine (xGA s).trans ?_;unfold shOk zKQ;rw [yU];by_cases h:8 < (s.np:Int)
  ·rw [vJQ h];cases decide (s.rad < 1) <;> cases decide (1048576 < s.rad) <;> cases decide ((s.np:Int) < 1) <;> rfl
  ·rw [vYH h,vJQ (show s.np≤50 by omega)];cases decide (s.rad < 1) <;> cases decide (1048576 < s.rad) <;> cases decide ((s.np:Int) < 1) <;> cases allN (fun i:Nat=>zOk 4194304 (s.pts i)) s.np 0 <;> rfl
def crk:Shp→Prop:=fun t=>match t with | _=>True
def erk:Shp→List PV:=fun t=>match t with | s=>[.a (sP s)]
noncomputable def rrk:Shp→Ret:=fun t=>match t with | s=>.v (.b (shOk s))
def drk:List PV→Shp:=fun ps=>match ps with
 | [.a r]=>unS r
 | _=>⟨0,0,0,fun _=>⟨0,0,0⟩⟩
noncomputable def o_rk:List PV→Option (Bool × Ret):=o_fm drk crk erk rrk
theorem fQA:zY Tryz.prog 107 o_rk:=uK fun t h=>by
 revert h; revert t; intro s h
 exact uZW s
end Go.Proofs.YtgmbkkkbfbocnaaGreat.Gb

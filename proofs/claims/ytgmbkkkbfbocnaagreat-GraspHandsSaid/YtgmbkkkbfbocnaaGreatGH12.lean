/- Part 12 of the texts behind the last one: rules and contracts. No condition. -/
import Derived.Test.YtgmbkkkbfbocnaaGreatGH11
open Option renaming bind_eq_some_iff → vQQ
open Option.some renaming injEq → vQZ
open Prod.mk renaming injEq → vQY
open Bool renaming and_eq_true → vQJ, and_self → vZJ, true_and → vZH
open List renaming getElem?_eq_getElem → vQK, mem_cons_self → vZQ, getElem?_map → vZY, getD_eq_getElem?_getD → vZG, take_succ_cons → vYK, drop_succ_cons → vYU, take_zero → vYX, drop_zero → vYW
open Nat renaming lt_of_lt_of_le → vZK
open Classical renaming propDecidable → vYJ
open Go.IntKind renaming wrap → vJJ
namespace Go.Proofs.YtgmbkkkbfbocnaaGreat.Nc
open Go.Rx Rt Go.Sx Go.RowKit Od
open Na Nb
def MOK (n:Nat) (q:Ms):Prop:=(0≤q.link∧q.link < n)∧(1≤q.mass∧q.mass≤65536)∧(-4194304≤q.p.x∧q.p.x≤4194304)∧(-4194304≤q.p.y∧q.p.y≤4194304)∧(-4194304≤q.p.z∧q.p.z≤4194304)
instance (n:Nat) (q:Ms):Decidable (MOK n q):=by unfold MOK; exact inferInstance
def mokB (n:Nat) (q:Ms):Bool:=decide (MOK n q)
def mAll (ms:Nat→Ms) (n:Nat):Nat→Nat→Bool
 | 0,_=>true
 | k + 1,p=>mokB n (ms p) && mAll ms n k (p + 1)
def fbad (ms:Nat→Ms) (n:Nat):Nat→Nat→Int
 | 0,_ => -1
 | k + 1,p=>bif mokB n (ms p) then fbad ms n k (p + 1) else (p:Int)
theorem yHG (ms:Nat→Ms) (n:Nat):∀ k p,decide (0≤fbad ms n k p) = !mAll ms n k p
 | 0,p=>rfl
 | k + 1,p=>by
  have ih:=yHG ms n k (p + 1);by_cases hq:mokB n (ms p)=true
  ·simp only [fbad,mAll,hq,vYV,vZH];exact ih
  ·rw [Bool.not_eq_true] at hq;simp only [fbad,mAll,hq,vYG,Bool.false_and,Bool.not_false];exact vJQ (by omega)
def jE (js:Nat→J) (n:Nat):Nat→Nat→Int
 | 0,_=>0
 | k + 1,p=>bif decide (jErr js n p=0) then jE js n k (p + 1) else jErr js n p
def rErr (js:Nat→J) (ms:Nat→Ms) (n m:Nat):Int:=bif decide ((n:Int)=0) then 801 else bif decide (10 < (n:Int)) then 801 else bif decide (jE js n n 0=0) then (bif decide (32 < (m:Int)) then 808 else bif mAll ms n m 0 then 0 else 808) else jE js n n 0
def mTp {α:Type} (n:Nat) (q:Ms) (a b:α):α:=(bif (decide (0≤q.link)) then (bif (decide (q.link < (n:Int))) then (bif (decide (1≤q.mass)) then (bif (decide (q.mass≤65536)) then (bif (decide (q.p.x < (-4194304))) then b else (bif (decide (4194304 < q.p.x)) then b else (bif (decide (q.p.y < (-4194304))) then b else (bif (decide (4194304 < q.p.y)) then b else (bif (decide (q.p.z < (-4194304))) then b else (bif (decide (4194304 < q.p.z)) then b else a)))))) else b) else b) else b) else b)
theorem xZX {α:Type} (n:Nat) (q:Ms) (a b:α):mTp n q a b=bif mokB n q then a else b:=by
 unfold mTp mokB;by_cases h:MOK n q
 ·have h':=h;obtain ⟨⟨h1,h2⟩,⟨h3,h4⟩,⟨h5,h6⟩,⟨h7,h8⟩,h9,h10⟩:=h';rw [vJQ h];simp only [vYV];simp only [Bool.cond_eq_ite,decide_eq_true_eq]
  repeat' split
  all_goals first | rfl | (exfalso; omega)
 ·rw [vYH h];unfold MOK at h;simp only [vYG];simp only [Bool.cond_eq_ite,decide_eq_true_eq]
  repeat' split
  all_goals first | rfl | (exfalso; omega) | contradiction
set_option maxRecDepth 100000 in
theorem xUJ (js:Nat→J) (ms:Nat→Ms) (n m:Nat) (q:Ms):runK T (OrL.k []) 60 138 [.a (mp q),.c [.lf n (fJ js),.lf m (fM ms)] 0]=mTp n q (F_b false) (F_b true):=by kernel_rfl
theorem uVJ (js:Nat→J) (ms:Nat→Ms) (n m:Nat) (q:Ms):yK Tryz.prog 138 [.a (mp q),.c [.lf n (fJ js),.lf m (fM ms)] 0] (.v (.b (!mokB n q))):=by
 refine zQ (N:=60) yJ zW (OrL.ok (l:=[]) trivial) ?_;rw [xUJ,xZX];cases mokB n q <;> rfl
noncomputable def o_cl (js:Nat→J) (ms:Nat→Ms) (n m:Nat):List PV→Option (Bool × Ret):=fun ps=>match ps with
 | [.a [.n .i64 a0,.n .i64 a1,.n .i64 a2,.n .i64 a3,.n .i64 a4],c]=>some (gEq c (.c [.lf n (fJ js),.lf m (fM ms)] 0),.v (.b (!mokB n ⟨a0,a1,⟨a2,a3,a4⟩⟩)))
 | _=>none
theorem xGB (js:Nat→J) (ms:Nat→Ms) (n m:Nat):zJ Tryz.prog 138 (o_cl js ms n m):=by
 intro ps r hh;unfold o_cl at hh;split at hh
 ·simp only [vQZ,vQY] at hh;obtain ⟨hg,rfl⟩:=hh;obtain rfl:=zUE hg;exact uVJ js ms n m ⟨_,_,⟨_,_,_⟩⟩
 ·cases hh
def hI (js:Nat→J) (ms:Nat→Ms) (n m:Nat) (i:Int):St:=⟨[(0,.v (.lf m (fM ms))),(1,.v (.f 138 [] [.c [.lf n (fJ js),.lf m (fM ms)] 0])),(7,.v (.n .i64 (m:Int))),(8,.v (.n .i64 i))],[]⟩
set_option maxRecDepth 100000 in
theorem rdI (G:St→Option (Ret × Mem)) (K:Cont) (js:Nat→J) (ms:Nat→Ms) (n m:Nat) (i:Int):qKF 60 (cxF T (OrL.k [(138,o_cl js ms n m)]) 60 168 (ntmF T 168)) (ckF T (OrL.k [(138,o_cl js ms n m)]) 60) (qQ T 168 [0,1,0,1]) (fun e τ=>match e with
 | .normal=>G (qJH ((cxF T (OrL.k [(138,o_cl js ms n m)]) 60 168 (ntmF T 168)).T.hint (cxF T (OrL.k [(138,o_cl js ms n m)]) 60 168 (ntmF T 168)).me (qJ (qQ T 168 [0,1,0,1]))) τ)
 | e=>K e (qYA ((cxF T (OrL.k [(138,o_cl js ms n m)]) 60 168 (ntmF T 168)).T.hint (cxF T (OrL.k [(138,o_cl js ms n m)]) 60 168 (ntmF T 168)).me (qJ (qQ T 168 [0,1,0,1]))) τ)) (hI js ms n m i) =
 (bif (decide (i < (m:Int))) then (bif (inB i m) then (bif (gEq (.c [.lf n (fJ js),.lf m (fM ms)] 0) (.c [.lf n (fJ js),.lf m (fM ms)] 0)) then (bif (!mokB n (ms (i).toNat)) then (K .ret ⟨[(4,.v (.n .i64 i))],[]⟩)
 else (G (hI js ms n m (vJJ .i64 (i + 1)))))
 else none)
 else none)
 else (K (.exit 0) ⟨[],[]⟩)):=by kernel_rfl
theorem lpI (K:Cont) (js:Nat→J) (ms:Nat→Ms) (n m:Nat) (hm:m≤1000):∀ (k p q:Nat),p + k=m→k < q→LF 60 (cxF T (OrL.k [(138,o_cl js ms n m)]) 60 168 (ntmF T 168)) (ckF T (OrL.k [(138,o_cl js ms n m)]) 60) (qQ T 168 [0,1,0,1]) ((cxF T (OrL.k [(138,o_cl js ms n m)]) 60 168 (ntmF T 168)).T.hint (cxF T (OrL.k [(138,o_cl js ms n m)]) 60 168 (ntmF T 168)).me (qJ (qQ T 168 [0,1,0,1]))) K q (hI js ms n m p)=(bif decide (fbad ms n k p = -1) then K (.exit 0) ⟨[],[]⟩ else K .ret ⟨[(4,.v (.n .i64 (fbad ms n k p)))],[]⟩)
 | 0,p,q + 1,hp,hq=>by
  refine (rdI (fun σ=>LF 60 (cxF T (OrL.k [(138,o_cl js ms n m)]) 60 168 (ntmF T 168)) (ckF T (OrL.k [(138,o_cl js ms n m)]) 60) (qQ T 168 [0,1,0,1]) ((cxF T (OrL.k [(138,o_cl js ms n m)]) 60 168 (ntmF T 168)).T.hint (cxF T (OrL.k [(138,o_cl js ms n m)]) 60 168 (ntmF T 168)).me (qJ (qQ T 168 [0,1,0,1]))) K q σ) K js ms n m p).trans ?_;rw [vYH (show ¬ (p:Int) < (m:Int) by omega)];rfl
 | k + 1,p,q + 1,hp,hq=>by
  refine (rdI (fun σ=>LF 60 (cxF T (OrL.k [(138,o_cl js ms n m)]) 60 168 (ntmF T 168)) (ckF T (OrL.k [(138,o_cl js ms n m)]) 60) (qQ T 168 [0,1,0,1]) ((cxF T (OrL.k [(138,o_cl js ms n m)]) 60 168 (ntmF T 168)).T.hint (cxF T (OrL.k [(138,o_cl js ms n m)]) 60 168 (ntmF T 168)).me (qJ (qQ T 168 [0,1,0,1]))) K q σ) K js ms n m p).trans ?_;rw [vJQ (show (p:Int) < (m:Int) by omega),yV (show p < m by omega),uJ (by omega),lpI K js ms n m hm k (p + 1) q (by omega) (by omega),toN,qHE];by_cases hq:mokB n (ms p)=true
  ·simp only [fbad,hq,vYV,vYG,Bool.not_true]
  ·rw [Bool.not_eq_true] at hq;simp only [fbad,hq,vYV,vYG,Bool.not_false,vYH (show ¬ (p:Int) = -1 by omega)]
set_option maxRecDepth 100000 in
theorem pxI (js:Nat→J) (ms:Nat→Ms) (n m:Nat):qXX T (OrL.k [(138,o_cl js ms n m)]) (qZ [([0,1,0,1],uG (hI js ms n m 0) (fun K=>(bif decide (fbad ms n m 0 = -1) then K (.exit 0) ⟨[],[]⟩ else K .ret ⟨[(4,.v (.n .i64 (fbad ms n m 0)))],[]⟩)))]) 60 168 [.lf m (fM ms),.f 138 [] [.c [.lf n (fJ js),.lf m (fM ms)] 0]] =
 bif gSt (hI js ms n m 0) (hI js ms n m 0) then (bif decide (fbad ms n m 0 = -1) then some (.v (.n .i64 (-1)),[]) else some (.v (.n .i64 (fbad ms n m 0)),[])) else none:=by kernel_rfl
theorem uVY (js:Nat→J) (ms:Nat→Ms) (n m:Nat) (_:m≤50):yK Tryz.prog 168 [.lf m (fM ms),.f 138 [] [.c [.lf n (fJ js),.lf m (fM ms)] 0]] (.v (.n .i64 (fbad ms n m 0))):=by
 refine qQQ (N:=60) (LO:=qZ [([0,1,0,1],uG (hI js ms n m 0) (fun K=>(bif decide (fbad ms n m 0 = -1) then K (.exit 0) ⟨[],[]⟩ else K .ret ⟨[(4,.v (.n .i64 (fbad ms n m 0)))],[]⟩)))]) yJ zW (OrL.ok (l:=[(138,o_cl js ms n m)]) ⟨xGB js ms n m,trivial⟩) (fun p S hp => ?_) ?_
 ·refine qZQ (L:=qQ T 168) (l:=[([0,1,0,1],uG (hI js ms n m 0) (fun K=>(bif decide (fbad ms n m 0 = -1) then K (.exit 0) ⟨[],[]⟩ else K .ret ⟨[(4,.v (.n .i64 (fbad ms n m 0)))],[]⟩)))]) (show AllP _ [([0,1,0,1],uG (hI js ms n m 0) (fun K=>(bif decide (fbad ms n m 0 = -1) then K (.exit 0) ⟨[],[]⟩ else K .ret ⟨[(4,.v (.n .i64 (fbad ms n m 0)))],[]⟩)))] from ⟨qYG fun K r hr => ?_,trivial⟩) p S hp;exact (lpI K js ms n m (by omega) m 0 60 (by omega) (by omega)).trans hr
 ·refine (pxI js ms n m).trans ?_;rw [yU,vYV];by_cases h:fbad ms n m 0 = -1
  ·rw [vJQ h,h]; rfl
  ·rw [vYH h]; rfl
theorem uVK (js:Nat→J) (ms:Nat→Ms) (n m:Nat) (hm:m≤50):yK Tryz.prog 137 [.lf m (fM ms),.f 138 [] [.c [.lf n (fJ js),.lf m (fM ms)] 0]] (.v (.b (!mAll ms n m 0))):=by
 refine zQ (N:=60) yJ zW (OrL.ok (l:=[(168,o_cr [.lf m (fM ms),.f 138 [] [.c [.lf n (fJ js),.lf m (fM ms)] 0]] (.v (.n .i64 (fbad ms n m 0))))]) ⟨qWU (uVY js ms n m hm),trivial⟩) ?_;refine (by kernel_rfl:_=bif (g1 [.lf m (fM ms),.f 138 [] [.c [.lf n (fJ js),.lf m (fM ms)] 0]]) then (bif (decide (0≤(fbad ms n m 0))) then some (.v (.b true),[])
 else some (.v (.b false),[]))
 else none).trans ?_
 rw [g1_t,vYV,← yHG];cases decide (0≤fbad ms n m 0) <;> rfl
noncomputable def qUG (js:Nat→J) (ms:Nat→Ms) (n m:Nat):List PV→Option (Bool × Ret):=fun ps=>match ps with
 | [r,.n .i64 i]=>some (gEq r (.a [.lf n (fJ js),.lf m (fM ms)]) && (inB i n && decide (n≤50)),.v (.n .i64 (jErr js n i.toNat)))
 | _=>none
theorem kJJ (js:Nat→J) (ms:Nat→Ms) (n m:Nat):zJ Tryz.prog 136 (qUG js ms n m):=by
 intro ps r hh;unfold qUG at hh;split at hh
 ·simp only [vQZ,vQY,vQJ] at hh;obtain ⟨⟨hg,hi,hd⟩,rfl⟩:=hh;obtain rfl:=zUE hg;have hn:=vJZ hd;obtain ⟨i0,i1⟩:=qUD hi;rename_i i
  have:=uZX js ms n m hn i.toNat (by omega)
  rw [show ((i.toNat:Nat):Int)=i by omega] at this;exact this
 ·cases hh
noncomputable def qZB (js:Nat→J) (_:Nat→Ms) (n m:Nat):List PV→Option (Bool × Ret):=fun ps=>match ps with
 | [r,.n .i64 i]=>some (gEq r (.lf n (fJ js)) && (inB i n && decide (n≤50)),.v (.n .i64 (jErr js n i.toNat)))
 | _=>none
theorem kJY (js:Nat→J) (ms:Nat→Ms) (n m:Nat):zJ Tryz.prog 113 (qZB js ms n m):=by
 intro ps r hh;unfold qZB at hh;split at hh
 ·simp only [vQZ,vQY,vQJ] at hh;obtain ⟨⟨hg,hi,hd⟩,rfl⟩:=hh;obtain rfl:=zUE hg;have hn:=vJZ hd;obtain ⟨i0,i1⟩:=qUD hi;rename_i i
  have:=uZU js n hn i.toNat (by omega)
  rw [show ((i.toNat:Nat):Int)=i by omega] at this;exact this
 ·cases hh
noncomputable def qUH (js:Nat→J) (ms:Nat→Ms) (n m:Nat):List PV→Option (Bool × Ret):=fun ps=>some (gEq (.t ps) (.t [.lf m (fM ms),.f 138 [] [.c [.lf n (fJ js),.lf m (fM ms)] 0]]) && decide (m≤50),.v (.b (!mAll ms n m 0)))
theorem xQB (js:Nat→J) (ms:Nat→Ms) (n m:Nat):zJ Tryz.prog 137 (qUH js ms n m):=by
 intro ps q hh;unfold qUH at hh;simp only [vQZ,vQY,vQJ] at hh;obtain ⟨⟨hg,hm⟩,rfl⟩:=hh
 have:=zUE hg
 simp only [PV.t.injEq] at this;rw [this];exact uVK js ms n m (vJZ hm)
def hK (js:Nat→J) (ms:Nat→Ms) (n m:Nat) (i:Int):St:=⟨[(1,.p 1 0),(17,.v (.n .i64 (n:Int))),(18,.v (.n .i64 i))],[(1,.blk [.v (.lf n (fJ js)),.v (.lf m (fM ms))])]⟩
set_option maxRecDepth 100000 in
theorem rdK (G:St→Option (Ret × Mem)) (K:Cont) (js:Nat→J) (ms:Nat→Ms) (n m:Nat) (i:Int):qKF 60 (cxF T (OrL.k [(136,qUG js ms n m),(137,qUH js ms n m)]) 60 85 (ntmF T 85)) (ckF T (OrL.k [(136,qUG js ms n m),(137,qUH js ms n m)]) 60) (qQ T 85 [0,1,0,1,1]) (fun e τ=>match e with
 | .normal=>G (qJH ((cxF T (OrL.k [(136,qUG js ms n m),(137,qUH js ms n m)]) 60 85 (ntmF T 85)).T.hint (cxF T (OrL.k [(136,qUG js ms n m),(137,qUH js ms n m)]) 60 85 (ntmF T 85)).me (qJ (qQ T 85 [0,1,0,1,1]))) τ)
 | e=>K e (qYA ((cxF T (OrL.k [(136,qUG js ms n m),(137,qUH js ms n m)]) 60 85 (ntmF T 85)).T.hint (cxF T (OrL.k [(136,qUG js ms n m),(137,qUH js ms n m)]) 60 85 (ntmF T 85)).me (qJ (qQ T 85 [0,1,0,1,1]))) τ)) (hK js ms n m i) =
 (bif (decide (i < (n:Int))) then (bif (gEq (.a [.lf n (fJ js),.lf m (fM ms)]) (.a [.lf n (fJ js),.lf m (fM ms)]) && (inB i n && decide (n≤50))) then (bif (!decide ((jErr js n (i).toNat)=0)) then (K .ret ⟨[(1,.p 1 0),(2,.v (.n .i64 (jErr js n (i).toNat)))],[(1,.blk [.v (.lf n (fJ js)),.v (.lf m (fM ms))])]⟩)
 else (G (hK js ms n m (vJJ .i64 (i + 1)))))
 else none)
 else (K (.exit 0) ⟨[(1,.p 1 0)],[(1,.blk [.v (.lf n (fJ js)),.v (.lf m (fM ms))])]⟩)):=by kernel_rfl
def rK (js:Nat→J) (ms:Nat→Ms) (n m:Nat) (e:Int):St:=⟨[(1,.p 1 0),(2,.v (.n .i64 e))],[(1,.blk [.v (.lf n (fJ js)),.v (.lf m (fM ms))])]⟩
def oK (js:Nat→J) (ms:Nat→Ms) (n m:Nat):St:=⟨[(1,.p 1 0)],[(1,.blk [.v (.lf n (fJ js)),.v (.lf m (fM ms))])]⟩
theorem lpK (K:Cont) (js:Nat→J) (ms:Nat→Ms) (n m:Nat) (hn:n≤10):∀ (k p q:Nat),p + k=n→k < q→LF 60 (cxF T (OrL.k [(136,qUG js ms n m),(137,qUH js ms n m)]) 60 85 (ntmF T 85)) (ckF T (OrL.k [(136,qUG js ms n m),(137,qUH js ms n m)]) 60) (qQ T 85 [0,1,0,1,1]) ((cxF T (OrL.k [(136,qUG js ms n m),(137,qUH js ms n m)]) 60 85 (ntmF T 85)).T.hint (cxF T (OrL.k [(136,qUG js ms n m),(137,qUH js ms n m)]) 60 85 (ntmF T 85)).me (qJ (qQ T 85 [0,1,0,1,1]))) K q (hK js ms n m p)=(bif decide (jE js n k p=0) then (K (.exit 0) (oK js ms n m)) else (K .ret (rK js ms n m (jE js n k p))))
 | 0,p,q + 1,hp,hq=>by
  refine (rdK (fun σ=>LF 60 (cxF T (OrL.k [(136,qUG js ms n m),(137,qUH js ms n m)]) 60 85 (ntmF T 85)) (ckF T (OrL.k [(136,qUG js ms n m),(137,qUH js ms n m)]) 60) (qQ T 85 [0,1,0,1,1]) ((cxF T (OrL.k [(136,qUG js ms n m),(137,qUH js ms n m)]) 60 85 (ntmF T 85)).T.hint (cxF T (OrL.k [(136,qUG js ms n m),(137,qUH js ms n m)]) 60 85 (ntmF T 85)).me (qJ (qQ T 85 [0,1,0,1,1]))) K q σ) K js ms n m p).trans ?_;rw [vYH (show ¬ (p:Int) < (n:Int) by omega)];rfl
 | k + 1,p,q + 1,hp,hq=>by
  refine (rdK (fun σ=>LF 60 (cxF T (OrL.k [(136,qUG js ms n m),(137,qUH js ms n m)]) 60 85 (ntmF T 85)) (ckF T (OrL.k [(136,qUG js ms n m),(137,qUH js ms n m)]) 60) (qQ T 85 [0,1,0,1,1]) ((cxF T (OrL.k [(136,qUG js ms n m),(137,qUH js ms n m)]) 60 85 (ntmF T 85)).T.hint (cxF T (OrL.k [(136,qUG js ms n m),(137,qUH js ms n m)]) 60 85 (ntmF T 85)).me (qJ (qQ T 85 [0,1,0,1,1]))) K q σ) K js ms n m p).trans ?_;rw [vJQ (show (p:Int) < (n:Int) by omega),yV (show p < n by omega),uJ (by omega),lpK K js ms n m hn k (p + 1) q (by omega) (by omega),toN,qHE,vJQ (show n≤50 by omega)];by_cases hq:jErr js n p=0
  ·simp only [jE,vJQ hq,vYV,vYG,Bool.not_true,vZJ]
  ·simp only [jE,vYH hq,vYV,vYG,Bool.not_false,vZJ];rfl
set_option maxRecDepth 100000 in
theorem pxK (js:Nat→J) (ms:Nat→Ms) (n m:Nat):qXX T (OrL.k [(136,qUG js ms n m),(137,qUH js ms n m)]) (qZ [([0,1,0,1,1],uG (hK js ms n m 0) (fun K=>bif decide (10 < (n:Int)) then none else (bif decide (jE js n n 0=0) then (K (.exit 0) (oK js ms n m)) else (K .ret (rK js ms n m (jE js n n 0))))))]) 60 85 [(.a [.lf n (fJ js),.lf m (fM ms)])] =
 bif decide ((n:Int)=0) then some (.v (.n .i64 801),[]) else (bif decide (10 < (n:Int)) then some (.v (.n .i64 801),[]) else (bif gSt (hK js ms n m 0) (hK js ms n m 0) then (bif decide (10 < (n:Int)) then none else (bif decide (jE js n n 0=0) then bif (decide (32 < (m:Int))) then some (.v (.n .i64 808),[])
 else bif (g1 [.lf m (fM ms),.f 138 [] [.c [.lf n (fJ js),.lf m (fM ms)] 0]] && decide (m≤50)) then (bif (!mAll ms n m 0) then some (.v (.n .i64 808),[])
 else some (.v (.n .i64 0),[]))
 else none else some (.v (.n .i64 (jE js n n 0)),[]))) else none)):=by kernel_rfl
theorem yUQ (js:Nat→J) (ms:Nat→Ms) (n m:Nat):yK Tryz.prog 85 [(.a [.lf n (fJ js),.lf m (fM ms)])] (.v (.n .i64 (rErr js ms n m))):=by
 refine qQQ (N:=60) (LO:=qZ [([0,1,0,1,1],uG (hK js ms n m 0) (fun K=>bif decide (10 < (n:Int)) then none else (bif decide (jE js n n 0=0) then (K (.exit 0) (oK js ms n m)) else (K .ret (rK js ms n m (jE js n n 0))))))]) yJ zW (OrL.ok (l:=[(136,qUG js ms n m),(137,qUH js ms n m)]) ⟨kJJ js ms n m,xQB js ms n m,trivial⟩) (fun p S hp => ?_) ?_
 ·refine qZQ (L:=qQ T 85) (l:=[([0,1,0,1,1],uG (hK js ms n m 0) (fun K=>bif decide (10 < (n:Int)) then none else (bif decide (jE js n n 0=0) then (K (.exit 0) (oK js ms n m)) else (K .ret (rK js ms n m (jE js n n 0))))))]) (show AllP _ [([0,1,0,1,1],uG (hK js ms n m 0) (fun K=>bif decide (10 < (n:Int)) then none else (bif decide (jE js n n 0=0) then (K (.exit 0) (oK js ms n m)) else (K .ret (rK js ms n m (jE js n n 0))))))] from ⟨qYG fun K r hr => ?_,trivial⟩) p S hp;cases hq:decide (10 < (n:Int)) with
  | true=>rw [hq] at hr; cases hr
  | false =>
   rw [hq] at hr;have h10:=vJY hq;exact (lpK K js ms n m (by omega) n 0 60 (by omega) (by omega)).trans hr
 ·refine (pxK js ms n m).trans ?_;unfold rErr;rw [yU,g1_t];by_cases h0:(n:Int)=0
  ·rw [vJQ h0]; rfl
  rw [vYH h0];by_cases h10:10 < (n:Int)
  ·rw [vJQ h10]; rfl
  rw [vYH h10];by_cases hj:jE js n n 0=0
  ·rw [vJQ hj];by_cases h32:32 < (m:Int)
   ·rw [vJQ h32]; rfl
   rw [vYH h32,vJQ (show m≤50 by omega)];cases mAll ms n m 0 <;> rfl
  ·rw [vYH hj]; rfl
def hQ (js:Nat→J) (ms:Nat→Ms) (n m:Nat) (i:Int):St:=⟨[(1,.p 1 0),(3,.v (.n .i64 i))],[(1,.blk [.v (.lf n (fJ js)),.v (.lf m (fM ms))])]⟩
set_option maxRecDepth 100000 in
theorem rdQ (G:St→Option (Ret × Mem)) (K:Cont) (js:Nat→J) (ms:Nat→Ms) (n m:Nat) (i:Int):qKF 60 (cxF T (OrL.k [(113,qZB js ms n m)]) 60 65 (ntmF T 65)) (ckF T (OrL.k [(113,qZB js ms n m)]) 60) (qQ T 65 [0,1,0,1,1]) (fun e τ=>match e with
 | .normal=>G (qJH ((cxF T (OrL.k [(113,qZB js ms n m)]) 60 65 (ntmF T 65)).T.hint (cxF T (OrL.k [(113,qZB js ms n m)]) 60 65 (ntmF T 65)).me (qJ (qQ T 65 [0,1,0,1,1]))) τ)
 | e=>K e (qYA ((cxF T (OrL.k [(113,qZB js ms n m)]) 60 65 (ntmF T 65)).T.hint (cxF T (OrL.k [(113,qZB js ms n m)]) 60 65 (ntmF T 65)).me (qJ (qQ T 65 [0,1,0,1,1]))) τ)) (hQ js ms n m i) =
 (bif (decide (i < (n:Int))) then (bif (gEq (.lf n (fJ js)) (.lf n (fJ js)) && (inB i n && decide (n≤50))) then (bif (!decide ((jErr js n (i).toNat)=0)) then (K .ret ⟨[(1,.p 1 0),(2,.v (.n .i64 (jErr js n (i).toNat)))],[(1,.blk [.v (.lf n (fJ js)),.v (.lf m (fM ms))])]⟩)
 else (G (hQ js ms n m (vJJ .i64 (i + 1)))))
 else none)
 else (K (.exit 0) ⟨[(1,.p 1 0)],[(1,.blk [.v (.lf n (fJ js)),.v (.lf m (fM ms))])]⟩)):=by kernel_rfl
def rQ (js:Nat→J) (ms:Nat→Ms) (n m:Nat) (e:Int):St:=⟨[(1,.p 1 0),(2,.v (.n .i64 e))],[(1,.blk [.v (.lf n (fJ js)),.v (.lf m (fM ms))])]⟩
def oQ (js:Nat→J) (ms:Nat→Ms) (n m:Nat):St:=⟨[(1,.p 1 0)],[(1,.blk [.v (.lf n (fJ js)),.v (.lf m (fM ms))])]⟩
theorem lpQ (K:Cont) (js:Nat→J) (ms:Nat→Ms) (n m:Nat) (hn:n≤10):∀ (k p q:Nat),p + k=n→k < q→LF 60 (cxF T (OrL.k [(113,qZB js ms n m)]) 60 65 (ntmF T 65)) (ckF T (OrL.k [(113,qZB js ms n m)]) 60) (qQ T 65 [0,1,0,1,1]) ((cxF T (OrL.k [(113,qZB js ms n m)]) 60 65 (ntmF T 65)).T.hint (cxF T (OrL.k [(113,qZB js ms n m)]) 60 65 (ntmF T 65)).me (qJ (qQ T 65 [0,1,0,1,1]))) K q (hQ js ms n m p)=(bif decide (jE js n k p=0) then (K (.exit 0) (oQ js ms n m)) else (K .ret (rQ js ms n m (jE js n k p))))
 | 0,p,q + 1,hp,hq=>by
  refine (rdQ (fun σ=>LF 60 (cxF T (OrL.k [(113,qZB js ms n m)]) 60 65 (ntmF T 65)) (ckF T (OrL.k [(113,qZB js ms n m)]) 60) (qQ T 65 [0,1,0,1,1]) ((cxF T (OrL.k [(113,qZB js ms n m)]) 60 65 (ntmF T 65)).T.hint (cxF T (OrL.k [(113,qZB js ms n m)]) 60 65 (ntmF T 65)).me (qJ (qQ T 65 [0,1,0,1,1]))) K q σ) K js ms n m p).trans ?_;rw [vYH (show ¬ (p:Int) < (n:Int) by omega)];rfl
 | k + 1,p,q + 1,hp,hq=>by
  refine (rdQ (fun σ=>LF 60 (cxF T (OrL.k [(113,qZB js ms n m)]) 60 65 (ntmF T 65)) (ckF T (OrL.k [(113,qZB js ms n m)]) 60) (qQ T 65 [0,1,0,1,1]) ((cxF T (OrL.k [(113,qZB js ms n m)]) 60 65 (ntmF T 65)).T.hint (cxF T (OrL.k [(113,qZB js ms n m)]) 60 65 (ntmF T 65)).me (qJ (qQ T 65 [0,1,0,1,1]))) K q σ) K js ms n m p).trans ?_;rw [vJQ (show (p:Int) < (n:Int) by omega),yV (show p < n by omega),uJ (by omega),lpQ K js ms n m hn k (p + 1) q (by omega) (by omega),toN,qHE,vJQ (show n≤50 by omega)];by_cases hq:jErr js n p=0
  ·simp only [jE,vJQ hq,vYV,vYG,Bool.not_true,vZJ]
  ·simp only [jE,vYH hq,vYV,vYG,Bool.not_false,vZJ];rfl
def hM (js:Nat→J) (ms:Nat→Ms) (n m:Nat) (i:Int):St:=⟨[(1,.p 1 0),(5,.v (.n .i64 i))],[(1,.blk [.v (.lf n (fJ js)),.v (.lf m (fM ms))])]⟩
def rM (_:Nat→J) (_:Nat→Ms) (n m:Nat) (i:Int):St:=⟨[(2,.v (.n .i64 808))],[]⟩
def oM (_:Nat→J) (_:Nat→Ms) (n m:Nat):St:=⟨[],[]⟩
def mTr {α:Type} (n:Nat) (q:Ms) (a b:α):α:=(bif (decide (q.link < 0)) then b else (bif (decide ((n:Int)≤q.link)) then b else (bif (decide (1≤q.mass)) then (bif (decide (q.mass≤65536)) then (bif (decide (q.p.x < (-4194304))) then b else (bif (decide (4194304 < q.p.x)) then b else (bif (decide (q.p.y < (-4194304))) then b else (bif (decide (4194304 < q.p.y)) then b else (bif (decide (q.p.z < (-4194304))) then b else (bif (decide (4194304 < q.p.z)) then b else a)))))) else b) else b)))
theorem xZU {α:Type} (n:Nat) (q:Ms) (a b:α):mTr n q a b=bif mokB n q then a else b:=by
 unfold mTr mokB;by_cases h:MOK n q
 ·have h':=h;obtain ⟨⟨h1,h2⟩,⟨h3,h4⟩,⟨h5,h6⟩,⟨h7,h8⟩,h9,h10⟩:=h';rw [vJQ h];simp only [vYV];simp only [Bool.cond_eq_ite,decide_eq_true_eq]
  repeat' split
  all_goals first | rfl | (exfalso; omega)
 ·rw [vYH h];unfold MOK at h;simp only [vYG];simp only [Bool.cond_eq_ite,decide_eq_true_eq]
  repeat' split
  all_goals first | rfl | (exfalso; omega) | contradiction
set_option maxRecDepth 100000 in
theorem rdM (G:St→Option (Ret × Mem)) (K:Cont) (js:Nat→J) (ms:Nat→Ms) (n m:Nat) (i:Int):qKF 60 (cxF T (OrL.k [(113,qZB js ms n m)]) 60 65 (ntmF T 65)) (ckF T (OrL.k [(113,qZB js ms n m)]) 60) (qQ T 65 [0,1,0,1,1,1,1]) (fun e τ=>match e with
 | .normal=>G (qJH ((cxF T (OrL.k [(113,qZB js ms n m)]) 60 65 (ntmF T 65)).T.hint (cxF T (OrL.k [(113,qZB js ms n m)]) 60 65 (ntmF T 65)).me (qJ (qQ T 65 [0,1,0,1,1,1,1]))) τ)
 | e=>K e (qYA ((cxF T (OrL.k [(113,qZB js ms n m)]) 60 65 (ntmF T 65)).T.hint (cxF T (OrL.k [(113,qZB js ms n m)]) 60 65 (ntmF T 65)).me (qJ (qQ T 65 [0,1,0,1,1,1,1]))) τ)) (hM js ms n m i) =
 bif decide (i < (m:Int)) then (bif inB i m then mTr n (ms i.toNat) (G (hM js ms n m (vJJ .i64 (i + 1)))) (K .ret (rM js ms n m 0)) else none) else (K (.exit 2) (oM js ms n m)):=by kernel_rfl
theorem lpM (K:Cont) (js:Nat→J) (ms:Nat→Ms) (n m:Nat) (hm:m≤1000):∀ (k p q:Nat),p + k=m→k < q→LF 60 (cxF T (OrL.k [(113,qZB js ms n m)]) 60 65 (ntmF T 65)) (ckF T (OrL.k [(113,qZB js ms n m)]) 60) (qQ T 65 [0,1,0,1,1,1,1]) ((cxF T (OrL.k [(113,qZB js ms n m)]) 60 65 (ntmF T 65)).T.hint (cxF T (OrL.k [(113,qZB js ms n m)]) 60 65 (ntmF T 65)).me (qJ (qQ T 65 [0,1,0,1,1,1,1]))) K q (hM js ms n m p)=bif mAll ms n k p then (K (.exit 2) (oM js ms n m)) else (K .ret (rM js ms n m 0))
 | 0,p,q + 1,hp,hq=>by
  refine (rdM (fun σ=>LF 60 (cxF T (OrL.k [(113,qZB js ms n m)]) 60 65 (ntmF T 65)) (ckF T (OrL.k [(113,qZB js ms n m)]) 60) (qQ T 65 [0,1,0,1,1,1,1]) ((cxF T (OrL.k [(113,qZB js ms n m)]) 60 65 (ntmF T 65)).T.hint (cxF T (OrL.k [(113,qZB js ms n m)]) 60 65 (ntmF T 65)).me (qJ (qQ T 65 [0,1,0,1,1,1,1]))) K q σ) K js ms n m p).trans ?_;rw [vYH (show ¬ (p:Int) < (m:Int) by omega)];rfl
 | k + 1,p,q + 1,hp,hq=>by
  refine (rdM (fun σ=>LF 60 (cxF T (OrL.k [(113,qZB js ms n m)]) 60 65 (ntmF T 65)) (ckF T (OrL.k [(113,qZB js ms n m)]) 60) (qQ T 65 [0,1,0,1,1,1,1]) ((cxF T (OrL.k [(113,qZB js ms n m)]) 60 65 (ntmF T 65)).T.hint (cxF T (OrL.k [(113,qZB js ms n m)]) 60 65 (ntmF T 65)).me (qJ (qQ T 65 [0,1,0,1,1,1,1]))) K q σ) K js ms n m p).trans ?_;rw [vJQ (show (p:Int) < (m:Int) by omega),yV (show p < m by omega),uJ (by omega),lpM K js ms n m hm k (p + 1) q (by omega) (by omega),toN,xZU];by_cases hq:mokB n (ms p)=true
  ·simp only [mAll,hq,vYV,vZH]
  ·rw [Bool.not_eq_true] at hq;simp only [mAll,hq,vYV,vYG,Bool.false_and]
set_option maxRecDepth 100000 in
theorem pxQ (js:Nat→J) (ms:Nat→Ms) (n m:Nat):qXX T (OrL.k [(113,qZB js ms n m)]) (qZ [([0,1,0,1,1],uG (hQ js ms n m 0) (fun K=>bif decide (10 < (n:Int)) then none else (bif decide (jE js n n 0=0) then (K (.exit 0) (oQ js ms n m)) else (K .ret (rQ js ms n m (jE js n n 0)))))),([0,1,0,1,1,1,1],uG (hM js ms n m 0) (fun K=>bif decide (32 < (m:Int)) then none else (bif mAll ms n m 0 then (K (.exit 2) (oM js ms n m)) else (K .ret (rM js ms n m 0)))))]) 60 65 [(.a [.lf n (fJ js),.lf m (fM ms)])] =
 bif decide ((n:Int) < 1) then some (.v (.n .i64 801),[]) else (bif decide (10 < (n:Int)) then some (.v (.n .i64 801),[]) else (bif gSt (hQ js ms n m 0) (hQ js ms n m 0) then (bif decide (10 < (n:Int)) then none else (bif decide (jE js n n 0=0) then (bif decide (32 < (m:Int)) then some (.v (.n .i64 808),[]) else (bif gSt (hM js ms n m 0) (hM js ms n m 0) then (bif decide (32 < (m:Int)) then none else (bif mAll ms n m 0 then some (.v (.n .i64 0),[]) else some (.v (.n .i64 808),[]))) else none)) else some (.v (.n .i64 (jE js n n 0)),[]))) else none)):=by kernel_rfl
theorem zVL (js:Nat→J) (ms:Nat→Ms) (n m:Nat):yK Tryz.prog 65 [(.a [.lf n (fJ js),.lf m (fM ms)])] (.v (.n .i64 (rErr js ms n m))):=by
 refine qQQ (N:=60) (LO:=qZ [([0,1,0,1,1],uG (hQ js ms n m 0) (fun K=>bif decide (10 < (n:Int)) then none else (bif decide (jE js n n 0=0) then (K (.exit 0) (oQ js ms n m)) else (K .ret (rQ js ms n m (jE js n n 0)))))),([0,1,0,1,1,1,1],uG (hM js ms n m 0) (fun K=>bif decide (32 < (m:Int)) then none else (bif mAll ms n m 0 then (K (.exit 2) (oM js ms n m)) else (K .ret (rM js ms n m 0)))))]) yJ zW (OrL.ok (l:=[(113,qZB js ms n m)]) ⟨kJY js ms n m,trivial⟩) (fun p S hp => ?_) ?_
 ·refine qZQ (L:=qQ T 65) (l:=[([0,1,0,1,1],uG (hQ js ms n m 0) (fun K=>bif decide (10 < (n:Int)) then none else (bif decide (jE js n n 0=0) then (K (.exit 0) (oQ js ms n m)) else (K .ret (rQ js ms n m (jE js n n 0)))))),([0,1,0,1,1,1,1],uG (hM js ms n m 0) (fun K=>bif decide (32 < (m:Int)) then none else (bif mAll ms n m 0 then (K (.exit 2) (oM js ms n m)) else (K .ret (rM js ms n m 0)))))]) (show AllP _ [([0,1,0,1,1],uG (hQ js ms n m 0) (fun K=>bif decide (10 < (n:Int)) then none else (bif decide (jE js n n 0=0) then (K (.exit 0) (oQ js ms n m)) else (K .ret (rQ js ms n m (jE js n n 0)))))),([0,1,0,1,1,1,1],uG (hM js ms n m 0) (fun K=>bif decide (32 < (m:Int)) then none else (bif mAll ms n m 0 then (K (.exit 2) (oM js ms n m)) else (K .ret (rM js ms n m 0)))))] from ⟨qYG fun K r hr => ?_,qYG fun K r hr => ?_,trivial⟩) p S hp
  ·cases hq:decide (10 < (n:Int)) with
   | true=>rw [hq] at hr; cases hr
   | false =>
    rw [hq] at hr;have h10:=vJY hq;exact (lpQ K js ms n m (by omega) n 0 60 (by omega) (by omega)).trans hr
  ·cases hq:decide (32 < (m:Int)) with
   | true=>rw [hq] at hr; cases hr
   | false =>
    rw [hq] at hr;have h32:=vJY hq;exact (lpM K js ms n m (by omega) m 0 60 (by omega) (by omega)).trans hr
 ·refine (pxQ js ms n m).trans ?_;unfold rErr;rw [yU,yU,show decide ((n:Int) < 1)=decide ((n:Int)=0) from decide_eq_decide.2 (by omega)];by_cases h0:(n:Int)=0
  ·rw [vJQ h0]; rfl
  rw [vYH h0];by_cases h10:10 < (n:Int)
  ·rw [vJQ h10]; rfl
  rw [vYH h10];by_cases hj:jE js n n 0=0
  ·rw [vJQ hj];by_cases h32:32 < (m:Int)
   ·rw [vJQ h32]; rfl
   rw [vYH h32];cases mAll ms n m 0 <;> rfl
  ·rw [vYH hj]; rfl
end Go.Proofs.YtgmbkkkbfbocnaaGreat.Nc
namespace Go.Proofs.YtgmbkkkbfbocnaaGreat.Nx
open Go.Rx Rt Go.Sx Go.RowKit Od Na Nb Nc
noncomputable def o_iValid:List PV→Option (Bool × Ret):=fun ps=>match ps with
 | [.a a']=>(ivD a').bind fun a=>some (true,.v (.b (Iv.valid a)))
 | _=>none
theorem ok_iValid:zJ Tryz.prog 135 o_iValid:=by
 intro ps r h;unfold o_iValid at h;split at h
 ·simp only [vQQ,vQZ,vQY] at h;obtain ⟨a,ha,hg,rfl⟩:=h;rw [qQE ha];exact qX (qW Tryz.func135 (by kernel_rfl) (by kernel_rfl)) rfl rfl (fun w=>kGD _ _ w)
 ·cases h
noncomputable def L6:OrL:=(135,o_iValid) :: L5
theorem uWX:AllP (fun x:Nat × (List PV→Option (Bool × Ret))=>zJ Tryz.prog x.1 x.2) L6:=⟨ok_iValid,xUQ⟩
noncomputable def o_rValid:List PV→Option (Bool × Ret):=fun ps=>match ps with
 | [.a a']=>(ivD a').bind fun a=>some (true,.v (.b (Iv.valid a)))
 | _=>none
theorem ok_rValid:zJ Tryz.prog 148 o_rValid:=by
 intro ps r h;unfold o_rValid at h;split at h
 ·simp only [vQQ,vQZ,vQY] at h;obtain ⟨a,ha,hg,rfl⟩:=h;rw [qQE ha];exact qX (qW Tryz.func148 (by kernel_rfl) (by kernel_rfl)) rfl rfl (fun w=>yGZ _ _ w)
 ·cases h
noncomputable def L7:OrL:=(148,o_rValid) :: L6
theorem jHB:AllP (fun x:Nat × (List PV→Option (Bool × Ret))=>zJ Tryz.prog x.1 x.2) L7:=⟨ok_rValid,uWX⟩
def fB (bx:Nat→Iv):Nat→List PV:=fun v=>[.n .i64 (bx v).lo,.n .i64 (bx v).hi]
theorem zKH {js:Nat→J} {ms:Nat→Ms} {n m:Nat} (h:rErr js ms n m=0):1≤n∧n≤10:=by
 unfold rErr at h;by_cases h0:(n:Int)=0
 ·rw [vJQ h0] at h; cases h
 by_cases h1:10 < (n:Int)
 ·rw [vYH h0,vJQ h1] at h; cases h
 omega
def hA (bx:Nat→Iv) (k:Nat) (i:Int):St:=⟨[(0,.v (.lf k (fB bx))),(3,.v (.n .i64 i))],[]⟩
set_option maxRecDepth 100000 in
theorem rdA (G:St→Option (Ret × Mem)) (K:Cont) (bx:Nat→Iv) (k:Nat) (i:Int):zVD 60 (cxF T (OrL.k L7) 60 114 (ntmF T 114)) (ckF T (OrL.k L7) 60) (qQ T 114 [0,1,0,1]) ((cxF T (OrL.k L7) 60 114 (ntmF T 114)).T.hint (cxF T (OrL.k L7) 60 114 (ntmF T 114)).me (qJ (qQ T 114 [0,1,0,1]))) K G (hA bx k i) =
 (bif (decide (i < (k:Int))) then (bif (inB i k) then (bif Iv.valid (bx (i).toNat) then (G (hA bx k (vJJ .i64 (i + 1))))
 else (K .ret ⟨[(2,.v (.b false))],[]⟩))
 else none)
 else (K (.exit 0) ⟨[],[]⟩)):=by kernel_rfl
theorem lpA (K:Cont) (bx:Nat→Iv) (k:Nat) (_:k≤50):LF 60 (cxF T (OrL.k L7) 60 114 (ntmF T 114)) (ckF T (OrL.k L7) 60) (qQ T 114 [0,1,0,1]) ((cxF T (OrL.k L7) 60 114 (ntmF T 114)).T.hint (cxF T (OrL.k L7) 60 114 (ntmF T 114)).me (qJ (qQ T 114 [0,1,0,1]))) K 60 (hA bx k 0)=bif (allN (fun i:Nat=>Iv.valid (bx i)) k 0) then (K (.exit 0) ⟨[],[]⟩) else (K .ret ⟨[(2,.v (.b false))],[]⟩):=by
 refine (zUW (c:=k) (hA bx k) (fun i:Nat=>Iv.valid (bx i)) (K (.exit 0) ⟨[],[]⟩) (fun i:Nat=>(K .ret ⟨[(2,.v (.b false))],[]⟩)) (fun G i hi => ?_) (fun G => ?_) k 0 60 (by omega) (by omega)).trans (jK _ _ _ _ _)
 ·refine (rdA G K bx k i).trans ?_;rw [vJQ (show (i:Int) < (k:Int) by omega),uJ (by omega),yV (show i < k by omega),toN];cases Iv.valid (bx i) <;> rfl
 ·refine (rdA G K bx k k).trans ?_;rw [vYH (show ¬ (k:Int) < (k:Int) by omega)];rfl
def allV (bx:Nat→Iv) (k:Nat):Bool:=(allN (fun i:Nat=>Iv.valid (bx i)) k 0)
set_option maxRecDepth 100000 in
theorem uGE (bx:Nat→Iv) (k:Nat):qXX T (OrL.k L7) (qZ [([0,1,0,1],uG (hA bx k 0) (fun K=>(bif (decide (k≤50)) then (bif (allN (fun i:Nat=>Iv.valid (bx i)) k 0) then (K (.exit 0) ⟨[],[]⟩) else (K .ret ⟨[(2,.v (.b false))],[]⟩)) else none)))]) 60 114 [.lf k (fB bx)] =
 (bif (gSt (hA bx k 0) (hA bx k 0)) then (bif (decide (k≤50)) then (bif (allN (fun i:Nat=>Iv.valid (bx i)) k 0) then some (.v (.b true),[])
 else some (.v (.b false),[]))
 else none)
 else none):=by kernel_rfl
theorem kQL (bx:Nat→Iv) (k:Nat) (hk:k≤50):yK Tryz.prog 114 [.lf k (fB bx)] (.v (.b (allV bx k))):=by
 refine qQQ (N:=60) (LO:=qZ [([0,1,0,1],uG (hA bx k 0) (fun K=>(bif (decide (k≤50)) then (bif (allN (fun i:Nat=>Iv.valid (bx i)) k 0) then (K (.exit 0) ⟨[],[]⟩) else (K .ret ⟨[(2,.v (.b false))],[]⟩)) else none)))]) yJ zW (OrL.ok (l:=L7) jHB) (fun p S hp => ?_) ?_
 ·refine qZQ (L:=qQ T 114) (l:=[([0,1,0,1],uG (hA bx k 0) (fun K=>(bif (decide (k≤50)) then (bif (allN (fun i:Nat=>Iv.valid (bx i)) k 0) then (K (.exit 0) ⟨[],[]⟩) else (K .ret ⟨[(2,.v (.b false))],[]⟩)) else none)))]) (show AllP _ [([0,1,0,1],uG (hA bx k 0) (fun K=>(bif (decide (k≤50)) then (bif (allN (fun i:Nat=>Iv.valid (bx i)) k 0) then (K (.exit 0) ⟨[],[]⟩) else (K .ret ⟨[(2,.v (.b false))],[]⟩)) else none)))] from ⟨qYG fun K r hr => ?_,trivial⟩) p S hp
  ·obtain ⟨hg,hr⟩:=qY hr;have hk:=vJZ hg;exact (lpA K bx k hk).trans hr
 ·refine (uGE bx k).trans ?_;unfold allV;rw [yU,vJQ hk];cases (allN (fun i:Nat=>Iv.valid (bx i)) k 0) <;> rfl
def unFB (f:Nat→List PV):Nat→Iv:=fun i=>match f i with
 | [.n _ lo,.n _ hi]=>⟨lo,hi⟩
 | _=>⟨0,0⟩
theorem kHK (bx:Nat→Iv):unFB (fB bx)=bx:=rfl
noncomputable def gFB (f:Nat→List PV):Bool:=@decide (f=fB (unFB f)) (vYJ _)
theorem xZL (bx:Nat→Iv):gFB (fB bx)=true:=@vJQ _ (vYJ _) rfl
noncomputable def o_av:List PV→Option (Bool × Ret):=fun ps=>match ps with
 | [.lf k f]=>some (decide (k≤50) && gFB f,.v (.b (allV (unFB f) k)))
 | _=>none
theorem xGI:zJ Tryz.prog 114 o_av:=by
 intro ps r hh;unfold o_av at hh;split at hh
 ·simp only [vQZ,vQY,vQJ] at hh;obtain ⟨⟨hk,hf⟩,rfl⟩:=hh;rename_i k f;have e:f=fB (unFB f):=@vJZ _ (vYJ _) hf
  have:=kQL (unFB f) k (vJZ hk)
  rw [← e] at this;exact this
 ·cases hh
def isB (bx:Nat→Iv) (n k:Nat):Bool:=decide ((k:Int)=(n:Int)) && allV bx k
theorem jKQ (js:Nat→J) (ms:Nat→Ms) (bx:Nat→Iv) (n m k:Nat) (_:n≤50):yK Tryz.prog 66 [.a [.lf n (fJ js),.lf m (fM ms)],.lf k (fB bx)] (.v (.b (isB bx n k))):=by
 refine zQ (N:=60) yJ zW (OrL.ok (l:=[(114,o_av)]) ⟨xGI,trivial⟩) ?_;refine (by kernel_rfl:_=bif (decide ((k:Int)=(n:Int))) then (bif (decide (k≤50) && gFB (fB bx)) then (bif (allV (unFB (fB bx)) k) then some (.v (.b true),[])
 else some (.v (.b false),[]))
 else none)
 else some (.v (.b false),[])).trans ?_
 unfold isB;by_cases e:(k:Int)=(n:Int)
 ·rw [vJQ e,vJQ (show k≤50 by omega),xZL,kHK];cases allV bx k <;> rfl
 ·rw [vYH e]; rfl
set_option maxRecDepth 100000 in
theorem uWC (a0 a1:Int):runK T (OrL.k L7) 60 134 [.a [.n .i64 a0,.n .i64 a1]] =
 some (.v (.b (!Iv.valid ⟨a0,a1⟩)),[]):=by
 refine (by kernel_rfl:_=bif Iv.valid ⟨a0,a1⟩ then some (.v (.b false),[]) else some (.v (.b true),[])).trans ?_;cases Iv.valid ⟨a0,a1⟩ <;> rfl
noncomputable def uKQ:List PV→Option (Bool × Ret):=fun ps=>match ps with
 | [.a a']=>(ivD a').bind fun a=>some (true,.v (.b (!Iv.valid a)))
 | _=>none
theorem xQC:zJ Tryz.prog 134 uKQ:=by
 intro ps r h;unfold uKQ at h;split at h
 ·simp only [vQQ,vQZ,vQY] at h;obtain ⟨a,ha,hg,rfl⟩:=h;rw [qQE ha];exact zQ (N:=60) yJ zW (OrL.ok jHB) (uWC _ _)
 ·cases h
noncomputable def L8:OrL:=(134,uKQ) :: L7
theorem uWU:AllP (fun x:Nat × (List PV→Option (Bool × Ret))=>zJ Tryz.prog x.1 x.2) L8:=⟨xQC,jHB⟩
theorem yKH {p:Nat} (_:p < 9223372036854775807):vJJ .i64 ((p:Int) + 1)=((p + 1:Nat):Int):=by rw [qV (by omega)]; omega
def hI (bx:Nat→Iv) (k:Nat) (i:Int):St:=⟨[(0,.v (.lf k (fB bx))),(1,.v (.f 134 [] [])),(7,.v (.n .i64 (k:Int))),(8,.v (.n .i64 i))],[]⟩
set_option maxRecDepth 100000 in
theorem rdI (G:St→Option (Ret × Mem)) (K:Cont) (bx:Nat→Iv) (k:Nat) (i:Int):zVD (k + 60) (cxF T (OrL.k L8) (k + 60) 163 (ntmF T 163)) (ckF T (OrL.k L8) (k + 60)) (qQ T 163 [0,1,0,1]) ((cxF T (OrL.k L8) (k + 60) 163 (ntmF T 163)).T.hint (cxF T (OrL.k L8) (k + 60) 163 (ntmF T 163)).me (qJ (qQ T 163 [0,1,0,1]))) K G (hI bx k i) =
 (bif (decide (i < (k:Int))) then (bif (inB i k) then (bif !Iv.valid (bx (i).toNat) then (K .ret ⟨[(4,.v (.n .i64 i))],[]⟩)
 else (G (hI bx k (vJJ .i64 (i + 1)))))
 else none)
 else (K (.exit 0) ⟨[],[]⟩)):=by kernel_rfl
theorem lpI (K:Cont) (bx:Nat→Iv) (k:Nat) (_:k≤9223372036854775807):LF (k + 60) (cxF T (OrL.k L8) (k + 60) 163 (ntmF T 163)) (ckF T (OrL.k L8) (k + 60)) (qQ T 163 [0,1,0,1]) ((cxF T (OrL.k L8) (k + 60) 163 (ntmF T 163)).T.hint (cxF T (OrL.k L8) (k + 60) 163 (ntmF T 163)).me (qJ (qQ T 163 [0,1,0,1]))) K (k + 60) (hI bx k 0)=bif (allN (fun i:Nat=>Iv.valid (bx i)) k 0) then (K (.exit 0) ⟨[],[]⟩) else (K .ret ⟨[(4,.v (.n .i64 ((Rx.firstK (fun i:Nat=>Iv.valid (bx i)) k 0:Nat):Int)))],[]⟩):=by
 refine (zUW (c:=k) (hI bx k) (fun i:Nat=>Iv.valid (bx i)) (K (.exit 0) ⟨[],[]⟩) (fun i:Nat=>(K .ret ⟨[(4,.v (.n .i64 (i:Int)))],[]⟩)) (fun G i hi => ?_) (fun G => ?_) k 0 (k + 60) (by omega) (by omega)).trans (qQL _ _ _ _ _)
 ·refine (rdI G K bx k i).trans ?_;rw [vJQ (show (i:Int) < (k:Int) by omega),yKH (by omega),yV (show i < k by omega),toN];cases Iv.valid (bx i) <;> rfl
 ·refine (rdI G K bx k k).trans ?_;rw [vYH (show ¬ (k:Int) < (k:Int) by omega)];rfl
set_option maxRecDepth 100000 in
theorem xWW (bx:Nat→Iv) (k:Nat):qXX T (OrL.k L8) (qZ [([0,1,0,1],uG (hI bx k 0) (fun K=>(bif (decide (k≤9223372036854775807)) then (bif (allN (fun i:Nat=>Iv.valid (bx i)) k 0) then (K (.exit 0) ⟨[],[]⟩) else (K .ret ⟨[(4,.v (.n .i64 ((Rx.firstK (fun i:Nat=>Iv.valid (bx i)) k 0:Nat):Int)))],[]⟩)) else none)))]) (k + 60) 163 [.lf k (fB bx),.f 134 [] []] =
 (bif (gSt (hI bx k 0) (hI bx k 0)) then (bif (decide (k≤9223372036854775807)) then (bif (allN (fun i:Nat=>Iv.valid (bx i)) k 0) then some (.v (.n .i64 (-1)),[])
 else some (.v (.n .i64 ((Rx.firstK (fun i:Nat=>Iv.valid (bx i)) k 0:Nat):Int)),[]))
 else none)
 else none):=by kernel_rfl
theorem uQI (bx:Nat→Iv) (k:Nat) (hk:k≤9223372036854775807):yK Tryz.prog 163 [.lf k (fB bx),.f 134 [] []] (.v (.n .i64 (bif allV bx k then -1 else ((Rx.firstK (fun i:Nat=>Iv.valid (bx i)) k 0:Nat):Int)))):=by
 refine qQQ (N:=(k + 60)) (LO:=qZ [([0,1,0,1],uG (hI bx k 0) (fun K=>(bif (decide (k≤9223372036854775807)) then (bif (allN (fun i:Nat=>Iv.valid (bx i)) k 0) then (K (.exit 0) ⟨[],[]⟩) else (K .ret ⟨[(4,.v (.n .i64 ((Rx.firstK (fun i:Nat=>Iv.valid (bx i)) k 0:Nat):Int)))],[]⟩)) else none)))]) yJ zW (OrL.ok (l:=L8) uWU) (fun p S hp => ?_) ?_
 ·refine qZQ (L:=qQ T 163) (l:=[([0,1,0,1],uG (hI bx k 0) (fun K=>(bif (decide (k≤9223372036854775807)) then (bif (allN (fun i:Nat=>Iv.valid (bx i)) k 0) then (K (.exit 0) ⟨[],[]⟩) else (K .ret ⟨[(4,.v (.n .i64 ((Rx.firstK (fun i:Nat=>Iv.valid (bx i)) k 0:Nat):Int)))],[]⟩)) else none)))]) (show AllP _ [([0,1,0,1],uG (hI bx k 0) (fun K=>(bif (decide (k≤9223372036854775807)) then (bif (allN (fun i:Nat=>Iv.valid (bx i)) k 0) then (K (.exit 0) ⟨[],[]⟩) else (K .ret ⟨[(4,.v (.n .i64 ((Rx.firstK (fun i:Nat=>Iv.valid (bx i)) k 0:Nat):Int)))],[]⟩)) else none)))] from ⟨qYG fun K r hr => ?_,trivial⟩) p S hp
  ·obtain ⟨hg,hr⟩:=qY hr;have hk:=vJZ hg;exact (lpI K bx k hk).trans hr
 ·refine (xWW bx k).trans ?_;unfold allV;rw [yU,vJQ hk];cases (allN (fun i:Nat=>Iv.valid (bx i)) k 0) <;> rfl
theorem kQD (bx:Nat→Iv) (k:Nat) (hk:k≤9223372036854775807):yK Tryz.prog 133 [.lf k (fB bx),.f 134 [] []] (.v (.b (!allV bx k))):=by
 refine zQ (N:=60) yJ zW (OrL.ok (l:=[(163,o_cr [.lf k (fB bx),.f 134 [] []] (.v (.n .i64 (bif allV bx k then -1 else ((Rx.firstK (fun i:Nat=>Iv.valid (bx i)) k 0:Nat):Int)))))]) ⟨qWU (uQI bx k hk),trivial⟩) ?_;refine (by kernel_rfl:_=bif (g1 [.lf k (fB bx),.f 134 [] []]) then (bif (decide (0≤(bif allV bx k then -1 else ((Rx.firstK (fun i:Nat=>Iv.valid (bx i)) k 0:Nat):Int)))) then some (.v (.b true),[])
 else some (.v (.b false),[]))
 else none).trans ?_
 rw [g1_t];cases allV bx k with
 | true=>rfl
 | false =>
  rw [vYG,vJQ (show 0≤((Rx.firstK (fun i:Nat=>Iv.valid (bx i)) k 0:Nat):Int) by omega)];rfl
theorem uQD (js:Nat→J) (ms:Nat→Ms) (bx:Nat→Iv) (n m k:Nat) (hk:k≤9223372036854775807):yK Tryz.prog 84 [.a [.lf n (fJ js),.lf m (fM ms)],.lf k (fB bx)] (.v (.b (isB bx n k))):=by
 refine zQ (N:=60) yJ zW (OrL.ok (l:=[(133,o_cr [.lf k (fB bx),.f 134 [] []] (.v (.b (!allV bx k))))]) ⟨qWU (kQD bx k hk),trivial⟩) ?_;refine (by kernel_rfl:_=bif (decide ((k:Int)=(n:Int))) then (bif (g1 [.lf k (fB bx),.f 134 [] []]) then (bif (!allV bx k) then some (.v (.b false),[])
 else some (.v (.b true),[]))
 else none)
 else some (.v (.b false),[])).trans ?_
 unfold isB;rw [g1_t];cases decide ((k:Int)=(n:Int)) <;> cases allV bx k <;> rfl
end Go.Proofs.YtgmbkkkbfbocnaaGreat.Nx
namespace Go.Proofs.YtgmbkkkbfbocnaaGreat
open Go.Sx Go.Rx Rt Go.RowKit
namespace Tk
end Tk
open Tk
theorem en78:qQY Tryz.prog 78:=qW Tryz.func78 (by kernel_rfl) (by kernel_rfl)
namespace Tk
noncomputable def qXF:List PV→Option (Bool × Ret):=fun ps=>match ps with
 | [.a z']=>(z3D z').bind fun z=>some (true,.v (.a (v3C (V3.of z))))
 | _=>none
theorem zUQ:zJ Tryz.prog 74 qXF:=by
 intro ps r h;unfold qXF at h;split at h
 ·simp only [vQQ,vQZ,vQY] at h;obtain ⟨z,hz,hg,rfl⟩:=h;rw [yVW hz];exact qX (qW Tryz.func74 (by kernel_rfl) (by kernel_rfl)) rfl rfl (fun w=>kGG _ _ _ w)
 ·cases h
noncomputable def LTk1:OrL:=(74,qXF) :: ([]:OrL)
theorem uXF:AllP (fun x:Nat × (List PV→Option (Bool × Ret))=>zJ Tryz.prog x.1 x.2) LTk1:=⟨zUQ,trivial⟩
noncomputable def zHQ:List PV→Option (Bool × Ret):=fun ps=>match ps with
 | [.a v']=>(v3D v').bind fun v=>some (true,.v (.a (poC (Po.shift v))))
 | _=>none
theorem jXW:zJ Tryz.prog 79 zHQ:=by
 intro ps r h;unfold zHQ at h;split at h
 ·simp only [vQQ,vQZ,vQY] at h;obtain ⟨v,hv,hg,rfl⟩:=h;rw [qWH hv];exact qX (qW Tryz.func79 (by kernel_rfl) (by kernel_rfl)) rfl rfl (fun w=>uGI _ _ _ _ _ _ w)
 ·cases h
noncomputable def LTk2:OrL:=(79,zHQ) :: LTk1
theorem uXE:AllP (fun x:Nat × (List PV→Option (Bool × Ret))=>zJ Tryz.prog x.1 x.2) LTk2:=⟨jXW,uXF⟩
noncomputable def yXL:List PV→Option (Bool × Ret):=fun ps=>match ps with
 | [.n .i64 k,.a a']=>(ivD a').bind fun a=>some (true,.v (.a (poC (Po.turn k a))))
 | _=>none
theorem kJZ:zJ Tryz.prog 159 yXL:=by
 intro ps r h;unfold yXL at h;split at h
 ·simp only [vQQ,vQZ,vQY] at h;obtain ⟨a,ha,hg,rfl⟩:=h;rw [qQE ha];exact qX (qW Tryz.func159 (by kernel_rfl) (by kernel_rfl)) rfl rfl (fun w=>xWL _ _ _ w)
 ·cases h
noncomputable def LTk3:OrL:=(159,yXL) :: LTk2
theorem uXD:AllP (fun x:Nat × (List PV→Option (Bool × Ret))=>zJ Tryz.prog x.1 x.2) LTk3:=⟨kJZ,uXE⟩
noncomputable def qJA:List PV→Option (Bool × Ret):=fun ps=>match ps with
 | []=>some (true,.v (.a (poC (Po.rest))))
 | _=>none
theorem qWE:zJ Tryz.prog 88 qJA:=by
 intro ps r h;unfold qJA at h;split at h
 ·simp only [vQZ,vQY] at h;obtain ⟨hg,rfl⟩:=h;exact qX (qW Tryz.func88 (by kernel_rfl) (by kernel_rfl)) rfl rfl (fun w=>yZI  w)
 ·cases h
noncomputable def LTk4:OrL:=(88,qJA) :: LTk3
theorem uXC:AllP (fun x:Nat × (List PV→Option (Bool × Ret))=>zJ Tryz.prog x.1 x.2) LTk4:=⟨qWE,uXD⟩
noncomputable def zZX:List PV→Option (Bool × Ret):=fun ps=>match ps with
 | [.a p',.a q']=>(poD p').bind fun p=>(poD q').bind fun q=>some (true,.v (.a (poC (Po.mul p q))))
 | _=>none
theorem yXK:zJ Tryz.prog 78 zZX:=by
 intro ps r h;unfold zZX at h;split at h
 ·simp only [vQQ,vQZ,vQY] at h;obtain ⟨p,hp,q,hq,hg,rfl⟩:=h;rw [zWX hp];rw [zWX hq];exact qX (qW Tryz.func78 (by kernel_rfl) (by kernel_rfl)) rfl rfl (fun w=>yGX _ _ _ _ _ _ _ _ _ _ _ _ _ _ _ _ _ _ _ _ _ _ _ _ _ _ _ _ _ _ _ _ _ _ _ _ _ _ _ _ _ _ _ _ _ _ _ _ w)
 ·cases h
noncomputable def LTk5:OrL:=(78,zZX) :: LTk4
theorem uXB:AllP (fun x:Nat × (List PV→Option (Bool × Ret))=>zJ Tryz.prog x.1 x.2) LTk5:=⟨yXK,uXC⟩
end Tk
set_option maxRecDepth 100000 in
theorem xZB (a0 a1:Int) (nm:ByteArray) (kind par ox oy oz jlo jhi we spd acc tq:Int) (w:World):Calls Tryz.prog 33 [.agg #[.string nm,.int .i64 kind,.int .i64 par,.int .i64 ox,.int .i64 oy,.int .i64 oz,.int .i64 jlo,.int .i64 jhi,.int .i64 we,.int .i64 spd,.int .i64 acc,.int .i64 tq],.agg #[.int .i64 a0,.int .i64 a1]].toArray w (Rets (po (jYG kind ⟨ox,oy,oz⟩ (⟨a0,a1⟩:Iv))) (w)) :=
 zZ (x:=.a (poC (jYG kind ⟨ox,oy,oz⟩ ⟨a0,a1⟩))) (zQ (N:=60) (ps:=[.a [.s nm,.n .i64 kind,.n .i64 par,.n .i64 ox,.n .i64 oy,.n .i64 oz,.n .i64 jlo,.n .i64 jhi,.n .i64 we,.n .i64 spd,.n .i64 acc,.n .i64 tq],.a [.n .i64 a0,.n .i64 a1]]) yJ zW (OrL.ok (l:=LTk5) uXB) (by
 rcases kind with a | a
 ·rcases a with _ | _ | _ | _ | _ | _ | _ | a <;> kernel_rfl
 ·kernel_rfl)) rfl rfl w
end Go.Proofs.YtgmbkkkbfbocnaaGreat
namespace Go.Proofs.YtgmbkkkbfbocnaaGreat
open Go.Sx Go.Rx Rt Go.RowKit
namespace Tr
end Tr
open Tr
theorem en68:qQY Tryz.prog 68:=qW Tryz.func68 (by kernel_rfl) (by kernel_rfl)
theorem en33:qQY Tryz.prog 33:=qW Tryz.func33 (by kernel_rfl) (by kernel_rfl)
namespace Tr
noncomputable def qXE:List PV→Option (Bool × Ret):=fun ps=>match ps with
 | [.a z']=>(z3D z').bind fun z=>some (true,.v (.a (v3C (V3.of z))))
 | _=>none
theorem zKL:zJ Tryz.prog 36 qXE:=by
 intro ps r h;unfold qXE at h;split at h
 ·simp only [vQQ,vQZ,vQY] at h;obtain ⟨z,hz,hg,rfl⟩:=h;rw [yVW hz];exact qX (qW Tryz.func36 (by kernel_rfl) (by kernel_rfl)) rfl rfl (fun w=>kVI _ _ _ w)
 ·cases h
noncomputable def LTr1:OrL:=(36,qXE) :: ([]:OrL)
theorem uUA:AllP (fun x:Nat × (List PV→Option (Bool × Ret))=>zJ Tryz.prog x.1 x.2) LTr1:=⟨zKL,trivial⟩
noncomputable def zGI:List PV→Option (Bool × Ret):=fun ps=>match ps with
 | [.a v']=>(v3D v').bind fun v=>some (true,.v (.a (poC (Po.shift v))))
 | _=>none
theorem jXU:zJ Tryz.prog 116 zGI:=by
 intro ps r h;unfold zGI at h;split at h
 ·simp only [vQQ,vQZ,vQY] at h;obtain ⟨v,hv,hg,rfl⟩:=h;rw [qWH hv];exact qX (qW Tryz.func116 (by kernel_rfl) (by kernel_rfl)) rfl rfl (fun w=>uGU _ _ _ _ _ _ w)
 ·cases h
noncomputable def LTr2:OrL:=(116,zGI) :: LTr1
theorem uUH:AllP (fun x:Nat × (List PV→Option (Bool × Ret))=>zJ Tryz.prog x.1 x.2) LTr2:=⟨jXU,uUA⟩
noncomputable def yXI:List PV→Option (Bool × Ret):=fun ps=>match ps with
 | [.n .i64 k,.a a']=>(ivD a').bind fun a=>some (true,.v (.a (poC (Po.turn k a))))
 | _=>none
theorem kJQ:zJ Tryz.prog 115 yXI:=by
 intro ps r h;unfold yXI at h;split at h
 ·simp only [vQQ,vQZ,vQY] at h;obtain ⟨a,ha,hg,rfl⟩:=h;rw [qQE ha];exact qX (qW Tryz.func115 (by kernel_rfl) (by kernel_rfl)) rfl rfl (fun w=>xXJ _ _ _ w)
 ·cases h
noncomputable def LTr3:OrL:=(115,yXI) :: LTr2
theorem uUG:AllP (fun x:Nat × (List PV→Option (Bool × Ret))=>zJ Tryz.prog x.1 x.2) LTr3:=⟨kJQ,uUH⟩
noncomputable def qGX:List PV→Option (Bool × Ret):=fun ps=>match ps with
 | []=>some (true,.v (.a (poC (Po.rest))))
 | _=>none
theorem zGA:zJ Tryz.prog 90 qGX:=by
 intro ps r h;unfold qGX at h;split at h
 ·simp only [vQZ,vQY] at h;obtain ⟨hg,rfl⟩:=h;exact qX (qW Tryz.func90 (by kernel_rfl) (by kernel_rfl)) rfl rfl (fun w=>uGX  w)
 ·cases h
noncomputable def LTr4:OrL:=(90,qGX) :: LTr3
theorem uUV:AllP (fun x:Nat × (List PV→Option (Bool × Ret))=>zJ Tryz.prog x.1 x.2) LTr4:=⟨zGA,uUG⟩
noncomputable def zZU:List PV→Option (Bool × Ret):=fun ps=>match ps with
 | [.a p',.a q']=>(poD p').bind fun p=>(poD q').bind fun q=>some (true,.v (.a (poC (Po.mul p q))))
 | _=>none
theorem yXJ:zJ Tryz.prog 68 zZU:=by
 intro ps r h;unfold zZU at h;split at h
 ·simp only [vQQ,vQZ,vQY] at h;obtain ⟨p,hp,q,hq,hg,rfl⟩:=h;rw [zWX hp];rw [zWX hq];exact qX (qW Tryz.func68 (by kernel_rfl) (by kernel_rfl)) rfl rfl (fun w=>yGJ _ _ _ _ _ _ _ _ _ _ _ _ _ _ _ _ _ _ _ _ _ _ _ _ _ _ _ _ _ _ _ _ _ _ _ _ _ _ _ _ _ _ _ _ _ _ _ _ w)
 ·cases h
noncomputable def LTr5:OrL:=(68,zZU) :: LTr4
theorem uUW:AllP (fun x:Nat × (List PV→Option (Bool × Ret))=>zJ Tryz.prog x.1 x.2) LTr5:=⟨yXJ,uUV⟩
end Tr
set_option maxRecDepth 100000 in
theorem uGY (a0 a1:Int) (nm:ByteArray) (kind par ox oy oz jlo jhi we spd acc tq:Int) (w:World):Calls Tryz.prog 67 [.agg #[.string nm,.int .i64 kind,.int .i64 par,.int .i64 ox,.int .i64 oy,.int .i64 oz,.int .i64 jlo,.int .i64 jhi,.int .i64 we,.int .i64 spd,.int .i64 acc,.int .i64 tq],.agg #[.int .i64 a0,.int .i64 a1]].toArray w (Rets (po (jYG kind ⟨ox,oy,oz⟩ (⟨a0,a1⟩:Iv))) (w)) :=
 zZ (x:=.a (poC (jYG kind ⟨ox,oy,oz⟩ ⟨a0,a1⟩))) (zQ (N:=60) (ps:=[.a [.s nm,.n .i64 kind,.n .i64 par,.n .i64 ox,.n .i64 oy,.n .i64 oz,.n .i64 jlo,.n .i64 jhi,.n .i64 we,.n .i64 spd,.n .i64 acc,.n .i64 tq],.a [.n .i64 a0,.n .i64 a1]]) yJ zW (OrL.ok (l:=LTr5) uUW) (by
 rcases kind with a | a
 ·rcases a with _ | _ | _ | _ | _ | _ | _ | a <;> kernel_rfl
 ·kernel_rfl)) rfl rfl w
end Go.Proofs.YtgmbkkkbfbocnaaGreat
namespace Go.Proofs.YtgmbkkkbfbocnaaGreat
open Go.Sx
theorem yJB:qVL Tryz.prog 25 0 0=true:=by kernel_rfl
theorem ty22:tyB Tryz.prog 22 false 1=true:=by kernel_rfl
theorem sl22:slcB Tryz.prog 22 88 12=true:=by kernel_rfl
theorem ty25:tyB Tryz.prog 25 true 2=true:=by kernel_rfl
theorem zHG {k:Nat} (_:k≤1000000):vJJ .i64 ((k:Int) + 1)=((k + 1:Nat):Int):=by
 refine (qV ?_).trans ?_ <;> omega
end Go.Proofs.YtgmbkkkbfbocnaaGreat
namespace Go.Proofs.YtgmbkkkbfbocnaaGreat
open Go.Sx
theorem uUQ:appB Tryz.prog 69 68 24 192=true:=by kernel_rfl
theorem xZA  (aj am ab:Option Addr) (cj nm cm cb n:Nat) (js:List J) (bx:List Iv) (hn:n≤1000) (hjn:js.length=n) (hbn:bx.length=n) (hpar:∀ (k:Nat) (j:J),js[k]? = some j → -1≤j.parent∧j.parent < k) (w:World) (hS:qJD 12 aj (js.map jc) w) (hT:qJD 2 ab (bx.map ivc) w):Calls Tryz.prog 86 [.agg #[.slice aj n cj,.slice am nm cm],.slice ab n cb].toArray w (kWQ (X:=Nat) (fun _=>True) (fun b=>.slice (some ⟨b,0,none⟩) n n) (fun b=>qJD 24 (some ⟨b,0,none⟩) ((lks js bx n).map pc)) w):=by
 refine jX (n:=47) Tryz.func86 rfl rfl rfl ?_;refine zK ?_;refine qU ?_;refine qWL 2 rfl rfl rfl rfl ?_; intro b2;refine qH (zY rfl) rfl rfl rfl ?_;refine zU ?_;refine qK ?_;refine zK ?_;refine qU ?_;refine qH (zV yJB rfl) rfl rfl rfl ?_;refine qH (jQ 2 ty22 rfl rfl rfl) rfl rfl rfl ?_;refine qH (qXC sl22 rfl) rfl rfl rfl ?_;refine kXX 11 (zJV uUQ ze68) rfl (by omega) (by omega) rfl rfl ?_; intro b11;refine qH (zY rfl) rfl rfl rfl ?_;refine zU ?_;refine qK ?_;refine zK ?_;refine zK ?_;refine qU ?_;refine qH (zV yJB rfl) rfl rfl rfl ?_;refine qH (jQ 2 ty22 rfl rfl rfl) rfl rfl rfl ?_;refine qH (qXC sl22 rfl) rfl rfl rfl ?_;refine qH (qG rfl) rfl rfl rfl ?_;refine zU ?_;refine qK ?_;refine qJL ?_;refine yJE [1,2,5,13,14] [2] (α:=Nat × List Po) (fun x=>n - x.1) (fun x=>x.1≤n∧lks js bx x.1=x.2∧x.2.length=x.1) (fun x=>⟨w,[(11,(· = b11),yQV b11 24 68 (lkR x.2 (n - x.1)))]⟩) (fun x=>[(15,.int .i64 (x.1:Int))]) (fun _=>[]) (0,[]) rfl rfl ?_ ?_ ?_ ?_ rfl ?_
 ·
  exact ⟨Nat.zero_le _,rfl,rfl⟩
 ·
  exact rfl
 ·
  repeat' first | exact trivial | exact True.intro | refine ⟨rfl,?_⟩
 ·
  repeat' first | exact trivial | exact True.intro | refine ⟨rfl,?_⟩
 rintro ⟨k,ps⟩ ⟨hk,hps,hlen⟩
 dsimp only at hk hps hlen ⊢;subst hlen;refine zK ?_;refine qU ?_;refine qH (qKB rfl rfl) rfl rfl rfl ?_;refine zU ?_;refine qK ?_;refine zK ?_;refine qJW rfl (fun hc16 => ?_) (fun hc16 => ?_)
 ·
  have h2:ps.length < n:=by have:=vJZ hc16; omega
  obtain ⟨j,hjk⟩:∃ j,js[ps.length]? = some j:=⟨_,vQK (by omega)⟩
  obtain ⟨a,hak⟩:∃ a,bx[ps.length]? = some a:=⟨_,vQK (by omega)⟩
  have hj:(js.map jc)[ps.length]? = some (jc j):=by rw [vZY,hjk]; rfl
  have ha:(bx.map ivc)[ps.length]? = some (ivc a):=by rw [vZY,hak]; rfl
  have hpj:=hpar _ j hjk;obtain ⟨m,hm⟩:∃ m,n - ps.length=m + 1:=⟨n - ps.length - 1,by omega⟩
  rw [hm];have hz:(lkR ps (m + 1))[ps.length]? = some zRow:=by unfold lkR; rw [List.getElem?_append_right (by simp)]; simp
  refine qZJ ?_;refine qK ?_;refine zK ?_;refine qJL ?_;refine zK ?_;refine qU ?_;refine qH (qG rfl) rfl rfl rfl ?_;refine qH (qZH (e:=88) (qQX hS) (by kernel_rfl) rfl rfl rfl hj h2) rfl rfl rfl ?_;refine qH (qKY (vs:=[.string j.name,.int .i64 j.kind,.int .i64 j.parent,.int .i64 j.off.x,.int .i64 j.off.y,.int .i64 j.off.z,.int .i64 j.lo,.int .i64 j.hi,.int .i64 j.weight,.int .i64 j.speed,.int .i64 j.accel,.int .i64 j.torque]) ps.length 0 (qQX hS) hj ty88 rfl rfl) rfl rfl rfl ?_;refine qUW 7 ze88 rfl rfl rfl ?_; intro b7;refine qH (zY rfl) rfl rfl rfl ?_;refine qYZ 7 ty88 rfl rfl rfl rfl rfl rfl rfl rfl ?_;refine zU ?_;refine qK ?_;refine zK ?_;refine qKW 8 mo (by kernel_rfl) ?_;simp only [vYK,vYX,vYU,vYW];refine jJ (qG rfl) rfl rfl rfl ?_;refine jJ (qG rfl) rfl rfl rfl ?_;refine jJ (qYQ 7 ty88 rfl rfl rfl) rfl rfl rfl ?_;refine jJ (qG rfl) rfl rfl rfl ?_;refine jJ (qG rfl) rfl rfl rfl ?_;refine jJ (qZH (e:=62) (qQX hT) (by kernel_rfl) rfl rfl rfl ha h2) rfl rfl rfl ?_;refine jJ (qKY (vs:=[.int .i64 a.lo,.int .i64 a.hi]) ps.length 0 (qQX hT) ha ty62 rfl rfl) rfl rfl rfl ?_;refine zXQ (F:=po) (uU en33 rfl (fun w _=>xZB _ _ _ _ _ _ _ _ _ _ _ _ _ _ w)) rfl rfl rfl ?_; intro r27 hr27;refine qVQ ?_;refine qUA ?_;refine qH (qZH (e:=68) ((qWQ (id:=11) rfl).imp qUK) (by kernel_rfl) rfl rfl rfl hz h2) rfl rfl rfl ?_;refine zYB (vs:=pc r27) (j:=ps.length) 11 ty68 rfl rfl rfl (by simp [lkR]) rfl rfl rfl rfl ?_; intro R28 hR28;obtain rfl:=Option.some.inj hR28;rw [uKY];refine zU ?_;refine qK ?_;refine zK ?_;refine qU ?_;refine qH (zV yHH rfl) rfl rfl rfl ?_;refine qH (jQ 7 ty3 rfl rfl rfl) rfl rfl rfl ?_;refine qH (zKI rfl rfl) rfl rfl rfl ?_;refine zU ?_;refine qK ?_;refine qJW rfl (fun hc31 => ?_) (fun hc31 => ?_)
  ·
   have hp:¬ j.parent = -1:=by simpa using hc31
   have hpl:j.parent.toNat < ps.length:=by omega
   have hpn:j.parent=((j.parent.toNat:Nat):Int):=by omega
   refine qKW 12 mo (by kernel_rfl) ?_;simp only [vYK,vYX,vYU,vYW];refine jJ (qG rfl) rfl rfl rfl ?_;refine jJ (qG rfl) rfl rfl rfl ?_;refine jJ (qG rfl) rfl rfl rfl ?_;refine jJ (zV yHH rfl) rfl rfl rfl ?_;refine jJ (jQ 7 ty3 rfl rfl rfl) rfl rfl rfl ?_;refine jJ (qZH (e:=68) ((qWQ (id:=11) rfl).imp qUK) (by kernel_rfl) rfl rfl hpn (kGA hpl) (by omega)) rfl rfl rfl ?_;refine jJ (qKY (vs:=pc (ps.getD j.parent.toNat Po.rest)) j.parent.toNat 0 ((qWQ (id:=11) rfl).imp qUK) (kGA hpl) ty68 rfl rfl) rfl rfl rfl ?_;refine jJ (qG rfl) rfl rfl rfl ?_;refine jJ (qG rfl) rfl rfl rfl ?_;refine jJ (qZH (e:=68) ((qWQ (id:=11) rfl).imp qUK) (by kernel_rfl) rfl rfl rfl jVK h2) rfl rfl rfl ?_;refine jJ (qKY (vs:=pc r27) ps.length 0 ((qWQ (id:=11) rfl).imp qUK) jVK ty68 rfl rfl) rfl rfl rfl ?_;refine zXQ (F:=po) (uU en78 rfl (fun w _=>yGX _ _ _ _ _ _ _ _ _ _ _ _ _ _ _ _ _ _ _ _ _ _ _ _ _ _ _ _ _ _ _ _ _ _ _ _ _ _ _ _ _ _ _ _ _ _ _ _  w)) rfl rfl rfl ?_; intro r43 hr43;refine qVQ ?_;refine qUA ?_;refine qH (qZH (e:=68) ((qWQ (id:=11) rfl).imp qUK) (by kernel_rfl) rfl rfl rfl jVK h2) rfl rfl rfl ?_;refine zYB (vs:=pc r43) (j:=ps.length) 11 ty68 rfl rfl rfl (by simp [lkR]) rfl rfl rfl rfl ?_; intro R44 hR44;obtain rfl:=Option.some.inj hR44;rw [kUE];refine zU ?_;refine uQ ?_;refine qK ?_;refine qU ?_;refine qH (qJY rfl rfl (zHG (by omega))) rfl rfl rfl ?_;refine qH (qG rfl) rfl rfl rfl ?_;refine zU ?_;refine qVK (ps.length + 1,ps ++ [r43]) (by refine ⟨?_,?_,?_⟩ <;> dsimp only; omega; rw [zJG hjk hak,hps]; exact congrArg (fun x=>ps ++ [x]) ((if_neg hp).trans (by rw [show r43=Po.mul (ps.getD j.parent.toNat Po.rest) r27 from hr43,hr27]; try rfl)); simp) (by show n - (ps.length + 1) < n - ps.length; omega) (by dsimp only; rw [show n - (ps.length + 1)=m by omega,← yHZ]; try rfl) ?_ ?_ rfl
   repeat' first | exact trivial | exact True.intro | refine ⟨rfl,?_⟩
  ·
   have hp:j.parent = -1:=by simpa using hc31
   refine qZJ ?_;refine uQ ?_;refine qK ?_;refine qU ?_;refine qH (qJY rfl rfl (zHG (by omega))) rfl rfl rfl ?_;refine qH (qG rfl) rfl rfl rfl ?_;refine zU ?_;refine qVK (ps.length + 1,ps ++ [r27]) (by refine ⟨?_,?_,?_⟩ <;> dsimp only; omega; rw [zJG hjk hak,hps]; exact congrArg (fun x=>ps ++ [x]) ((if_pos hp).trans hr27.symm); simp) (by show n - (ps.length + 1) < n - ps.length; omega) (by dsimp only; rw [show n - (ps.length + 1)=m by omega,← yHZ]; try rfl) ?_ ?_ rfl
   repeat' first | exact trivial | exact True.intro | refine ⟨rfl,?_⟩
 ·
  have h2:ps.length=n:=by have:=vJY hc16; omega
  refine yQU ?_;refine qYK ?_;refine qYK ?_;refine qUU ?_;refine qK ?_;refine zK ?_;refine qU ?_;refine qH (qG rfl) rfl rfl rfl ?_;refine qH (zY rfl) rfl rfl rfl ?_;refine zU ?_;refine qK ?_;refine qQG ?_;refine zGK (rs:=[.tmp 4]) rfl (resC (qQW rfl) (resN)) rfl ?_;intro w2 k2;obtain ⟨_,q2,q3⟩:=k2.facts _ vZQ;refine ⟨b11,trivial,rfl,k2.grow,ownD _,uZG _ _ _,fun z hz => ?_,?_⟩
  ·obtain ⟨ad,h1,h2⟩:=hz;cases h1;subst h2;exact ⟨(q2 _ rfl).1,(q2 _ rfl).2.1⟩
  ·have q4:=qUK _ q3;rw [← h2,hps]
   simpa [lkR,h2] using q4
end Go.Proofs.YtgmbkkkbfbocnaaGreat
namespace Go.Proofs.YtgmbkkkbfbocnaaGreat
open Go.Sx
theorem en65:qQY Tryz.prog 65:=qW Tryz.func65 (by kernel_rfl) (by kernel_rfl)
theorem en66:qQY Tryz.prog 66:=qW Tryz.func66 (by kernel_rfl) (by kernel_rfl)
theorem sl30:slcB Tryz.prog 30 62 2=true:=by kernel_rfl
theorem en67:qQY Tryz.prog 67:=qW Tryz.func67 (by kernel_rfl) (by kernel_rfl)
theorem sl69:slcB Tryz.prog 69 68 24=true:=by kernel_rfl
def plC (ps:List Po):List Value:=(ps.map pc).flatten
theorem yGU (ps:List Po) (p:Po):plC (ps ++ [p])=plC ps ++ pc p:=by simp [plC]
theorem kGZ {m e cap k:Nat} {a:Option Addr} {ps:List Po} {w:World} (hl:ps.length=k) (h:OwnF m e 24 a cap k (plC ps) w):qJD 24 a (ps.map pc) w :=
 zGU (rows:=ps.map pc) (fun r hr=>by obtain ⟨p,_,rfl⟩:=List.mem_map.1 hr; rfl) (by rw [List.length_map,hl]; exact h)
theorem uGF {ps:List Po} {i:Nat} (h:i < ps.length):(ps.map pc)[i]? = some (pc (ps.getD i Po.rest)):=by
 rw [vZY];simp [vZG,h]
theorem uGZ  (aj am ab:Option Addr) (cj nm cm cb n:Nat) (js:List J) (bx:List Iv) (hn:n≤1000) (hjn:js.length=n) (hbn:bx.length=n) (hpar:∀ (k:Nat) (j:J),js[k]? = some j → -1≤j.parent∧j.parent < k) (w:World) (hS:qJD 12 aj (js.map jc) w) (hT:qJD 2 ab (bx.map ivc) w) (hC:∀ w':World,Grow w w'→Calls Tryz.prog 65 [.agg #[.slice aj n cj,.slice am nm cm]].toArray w' (Rets (vI (0:Int)) w')) (hB:∀ w':World,Grow w w'→Calls Tryz.prog 66 [.agg #[.slice aj n cj,.slice am nm cm],.slice ab n cb].toArray w' (Rets (vB true) w')):Calls Tryz.prog 22 [.agg #[.slice aj n cj,.slice am nm cm],.slice ab n cb].toArray w (kWQ (X:=Option Addr × Nat) (fun _=>True) (fun x=>.slice x.1 n x.2) (fun x=>OwnF 0 68 24 x.1 x.2 n (plC (lks js bx n))) w):=by
 refine jX (n:=56) Tryz.func22 rfl rfl rfl ?_;refine zK ?_;refine qU ?_;refine qWL 2 rfl rfl rfl rfl ?_; intro b2;refine qH (zY rfl) rfl rfl rfl ?_;refine zU ?_;refine qK ?_;refine zK ?_;refine zK ?_;refine qU ?_;refine qH (qYQ 2 ty25 rfl rfl rfl) rfl rfl rfl ?_;refine qKD (F:=vI) (uU en65 rfl (fun w' k=>hC w' k.grow)) rfl rfl rfl ?_; intro r9 hr9;refine qH (zKI rfl rfl) rfl rfl rfl ?_;refine qH (qG rfl) rfl rfl rfl ?_;refine jGC 11 rfl (by rw [hr9]; rfl) ?_;refine qH (qYQ 2 ty25 rfl rfl rfl) rfl rfl rfl ?_;refine qH (qG rfl) rfl rfl rfl ?_;refine qKD (F:=vB) (uU en66 rfl (fun w' k=>hB w' k.grow)) rfl rfl rfl ?_; intro r14 hr14;refine qH (zKF rfl) rfl rfl rfl ?_;refine qH (zQI rfl rfl rfl rfl) rfl rfl rfl ?_;refine zU ?_;refine qK ?_;refine qVA rfl (by rw [hr14]; rfl) ?_;refine qZJ ?_;refine qK ?_;refine zK ?_;refine qU ?_;refine qH (zY rfl) rfl rfl rfl ?_;refine zU ?_;refine qK ?_;refine zK ?_;refine zK ?_;refine uKD 100 68 24 ?_;refine qU ?_;refine qH (zY rfl) rfl rfl rfl ?_;refine zU ?_;refine qK ?_;refine qJL ?_;refine yJE [1,2] [2] (α:=Nat × Option Addr × Nat × List Po) (fun x=>n - x.1) (fun x=>x.1≤n∧lks js bx x.1=x.2.2.2∧x.2.2.2.length=x.1) (fun x=>⟨w,[(100,ownD x.2.1,OwnF 0 68 24 x.2.1 x.2.2.1 x.1 (plC x.2.2.2))]⟩) (fun x=>[(5,.slice x.2.1 x.1 x.2.2.1),(6,.int .i64 (x.1:Int))]) (fun _=>[]) (0,none,0,[]) rfl rfl ?_ ?_ ?_ ?_ rfl ?_
 ·
  exact ⟨Nat.zero_le _,rfl,rfl⟩
 ·
  exact rfl
 ·
  repeat' first | exact trivial | exact True.intro | refine ⟨rfl,?_⟩
 ·
  repeat' first | exact trivial | exact True.intro | refine ⟨rfl,?_⟩
 rintro ⟨k,a,cap,ps⟩ ⟨hk,hps,hlen⟩
 dsimp only at hk hps hlen ⊢;refine zK ?_;refine zK ?_;refine qU ?_;refine qH (qG rfl) rfl rfl rfl ?_;refine qH (qG rfl) rfl rfl rfl ?_;refine qH (qXC sl30 rfl) rfl rfl rfl ?_;refine qH (qKB rfl rfl) rfl rfl rfl ?_;refine zU ?_;refine qK ?_;refine qJW rfl (fun hc20 => ?_) (fun hc20 => ?_)
 ·
  have h2:k < n:=by have:=vJZ hc20; omega
  obtain ⟨j,hjk⟩:∃ j,js[k]? = some j:=⟨_,vQK (by omega)⟩
  obtain ⟨b,hak⟩:∃ b,bx[k]? = some b:=⟨_,vQK (by omega)⟩
  have hj:(js.map jc)[k]? = some (jc j):=by rw [vZY,hjk]; rfl
  have hbk:(bx.map ivc)[k]? = some (ivc b):=by rw [vZY,hak]; rfl
  have hpj:=hpar _ j hjk;refine qZJ ?_;refine qK ?_;refine zK ?_;refine qJL ?_;refine zK ?_;refine qKW 11 mo (by kernel_rfl) ?_;simp only [vYK,vYX,vYU,vYW];refine jJ (zV yJB rfl) rfl rfl rfl ?_;refine jJ (jQ 2 ty22 rfl rfl rfl) rfl rfl rfl ?_;refine jJ (qG rfl) rfl rfl rfl ?_;refine jJ (qZH (e:=88) (qQX hS) (by kernel_rfl) rfl rfl rfl hj h2) rfl rfl rfl ?_;refine jJ (qKY (vs:=[.string j.name,.int .i64 j.kind,.int .i64 j.parent,.int .i64 j.off.x,.int .i64 j.off.y,.int .i64 j.off.z,.int .i64 j.lo,.int .i64 j.hi,.int .i64 j.weight,.int .i64 j.speed,.int .i64 j.accel,.int .i64 j.torque]) k 0 (qQX hS) hj ty88 rfl rfl) rfl rfl rfl ?_;refine jJ (qG rfl) rfl rfl rfl ?_;refine jJ (qG rfl) rfl rfl rfl ?_;refine jJ (qZH (e:=62) (qQX hT) (by kernel_rfl) rfl rfl rfl hbk h2) rfl rfl rfl ?_;refine jJ (qKY (vs:=[.int .i64 b.lo,.int .i64 b.hi]) k 0 (qQX hT) hbk ty62 rfl rfl) rfl rfl rfl ?_;refine zXQ (F:=po) (uU en67 rfl (fun w _=>uGY _ _ _ _ _ _ _ _ _ _ _ _ _ _ w)) rfl rfl rfl ?_; intro r32 hr32;refine jGD ze68 rfl rfl rfl rfl ?_;refine qVQ ?_;refine jQD 7 rfl ?_; intro b7_2;refine qUA ?_;refine qYZ 7 ty68 rfl rfl rfl rfl rfl rfl rfl rfl ?_;refine zU ?_;refine qK ?_;refine zK ?_;refine zK ?_;refine qU ?_;refine qH (zV yJB rfl) rfl rfl rfl ?_;refine qH (jQ 2 ty22 rfl rfl rfl) rfl rfl rfl ?_;refine qH (qG rfl) rfl rfl rfl ?_;refine qH (qZH (e:=88) (qQX hS) (by kernel_rfl) rfl rfl rfl hj h2) rfl rfl rfl ?_;refine qH (zWH (qQX hS) hj yHH rfl) rfl rfl rfl ?_;refine qH (zWG k 2 (qQX hS) hj ty3 rfl rfl) rfl rfl rfl ?_;refine qH (zKI rfl rfl) rfl rfl rfl ?_;refine zU ?_;refine qK ?_;refine qJW rfl (fun hc39 => ?_) (fun hc39 => ?_)
  ·
   have hp:¬ j.parent = -1:=by simpa using hc39
   have hpl:j.parent.toNat < ps.length:=by omega
   have hpn:j.parent=((j.parent.toNat:Nat):Int):=by omega
   refine qKW 11 mo (by kernel_rfl) ?_;simp only [vYK,vYX,vYU,vYW];refine jJ (qG rfl) rfl rfl rfl ?_;refine jJ (zV yJB rfl) rfl rfl rfl ?_;refine jJ (jQ 2 ty22 rfl rfl rfl) rfl rfl rfl ?_;refine jJ (qG rfl) rfl rfl rfl ?_;refine jJ (qZH (e:=88) (qQX hS) (by kernel_rfl) rfl rfl rfl hj h2) rfl rfl rfl ?_;refine jJ (zWH (qQX hS) hj yHH rfl) rfl rfl rfl ?_;refine jJ (zWG k 2 (qQX hS) hj ty3 rfl rfl) rfl rfl rfl ?_;refine jJ (qZH (e:=68) ((qWQ (id:=100) rfl).imp (fun _ h=>kGZ hlen h)) (by kernel_rfl) rfl rfl hpn (uGF hpl) (by omega)) rfl rfl rfl ?_;refine jJ (qKY (vs:=pc (ps.getD j.parent.toNat Po.rest)) j.parent.toNat 0 ((qWQ (id:=100) rfl).imp (fun _ h=>kGZ hlen h)) (uGF hpl) ty68 rfl rfl) rfl rfl rfl ?_;refine jJ (qYQ 7 ty68 rfl rfl rfl) rfl rfl rfl ?_;refine zXQ (F:=po) (uU en68 rfl (fun w _=>yGJ _ _ _ _ _ _ _ _ _ _ _ _ _ _ _ _ _ _ _ _ _ _ _ _ _ _ _ _ _ _ _ _ _ _ _ _ _ _ _ _ _ _ _ _ _ _ _ _  w)) rfl rfl rfl ?_; intro r50 hr50;refine qVQ ?_;refine qUA ?_;refine qYZ 7 ty68 rfl rfl rfl rfl rfl rfl rfl rfl ?_;refine zU ?_;refine qK ?_;refine qU ?_;refine qH (qG rfl) rfl rfl rfl ?_;refine qH (qYQ 7 ty68 rfl rfl rfl) rfl rfl rfl ?_;refine zVY 53 sl69 ze68 rfl rfl rfl rfl rfl rfl rfl rfl ?_; intro b53;refine zVJ (id2:=53) 100 uUQ rfl rfl rfl rfl rfl rfl rfl (by omega) (by omega) rfl rfl ?_; intro a54 c54 R54 hR54;obtain rfl:=Option.some.inj hR54;refine qH (zY rfl) rfl rfl rfl ?_;refine zU ?_;refine uQ ?_;refine qK ?_;refine qU ?_;refine qH (qG rfl) rfl rfl rfl ?_;refine qH (qJY rfl rfl (zHG (by omega))) rfl rfl rfl ?_;refine qH (zY rfl) rfl rfl rfl ?_;refine zU ?_;refine qVK (k + 1,a54,c54,ps ++ [r50]) (by refine ⟨?_,?_,?_⟩ <;> dsimp only; omega; rw [zJG hjk hak,hps]; exact congrArg (fun x=>ps ++ [x]) ((if_neg hp).trans (by rw [show r50=Po.mul (ps.getD j.parent.toNat Po.rest) r32 from hr50,hr32]; try rfl)); simp [hlen]) (by show n - (k + 1) < n - k; omega) (by dsimp only; rw [yGU]; rfl) ?_ ?_ rfl
   repeat' first | exact trivial | exact True.intro | refine ⟨rfl,?_⟩
  ·
   have hp:j.parent = -1:=by simpa using hc39
   refine qZJ ?_;refine qK ?_;refine qU ?_;refine qH (qG rfl) rfl rfl rfl ?_;refine qH (qYQ 7 ty68 rfl rfl rfl) rfl rfl rfl ?_;refine zVY 53 sl69 ze68 rfl rfl rfl rfl rfl rfl rfl rfl ?_; intro b53;refine zVJ (id2:=53) 100 uUQ rfl rfl rfl rfl rfl rfl rfl (by omega) (by omega) rfl rfl ?_; intro a54 c54 R54 hR54;obtain rfl:=Option.some.inj hR54;refine qH (zY rfl) rfl rfl rfl ?_;refine zU ?_;refine uQ ?_;refine qK ?_;refine qU ?_;refine qH (qG rfl) rfl rfl rfl ?_;refine qH (qJY rfl rfl (zHG (by omega))) rfl rfl rfl ?_;refine qH (zY rfl) rfl rfl rfl ?_;refine zU ?_;refine qVK (k + 1,a54,c54,ps ++ [r32]) (by refine ⟨?_,?_,?_⟩ <;> dsimp only; omega; rw [zJG hjk hak,hps]; exact congrArg (fun x=>ps ++ [x]) ((if_pos hp).trans hr32.symm); simp [hlen]) (by show n - (k + 1) < n - k; omega) (by dsimp only; rw [yGU]; rfl) ?_ ?_ rfl
   repeat' first | exact trivial | exact True.intro | refine ⟨rfl,?_⟩
 ·
  obtain rfl:k=n:=by have:=vJY hc20; omega
  refine yQU ?_;refine qYK ?_;refine qYK ?_;refine qUU ?_;refine qK ?_;refine zK ?_;refine qU ?_;refine qH (qG rfl) rfl rfl rfl ?_;refine qH (zY rfl) rfl rfl rfl ?_;refine zU ?_;refine qK ?_;refine qQG ?_;refine zGK (rs:=[.tmp 4]) rfl (resC (qQW rfl) (resN)) rfl ?_;intro w2 k2;obtain ⟨_,q2,q3⟩:=k2.facts _ vZQ;exact ⟨(a,cap),trivial,rfl,k2.grow,ownD a,yUC _ _ _ _ _ _ _,fun z hz=>⟨(q2 z hz).1,(q2 z hz).2.1⟩,by dsimp only; rw [hps]; exact q3⟩
end Go.Proofs.YtgmbkkkbfbocnaaGreat
namespace Go.Proofs.YtgmbkkkbfbocnaaGreat.Nf
open Go.Rx Rt Go.Sx Go.RowKit Od Na Nb Nc Nx
theorem xJQ {i:Int} {j:J} (h:cjT (fun e=>e) i j=0) : -1≤j.parent∧j.parent < i:=by
 unfold cjT at h;by_cases h1:j.kind < 0
 ·rw [vJQ h1,vYV] at h; exact absurd h (by decide)
 by_cases h2:6 < j.kind
 ·rw [vYH h1,vYG,vJQ h2,vYV] at h; exact absurd h (by decide)
 by_cases h3:j.parent < -1
 ·rw [vYH h1,vYG,vYH h2,vYG,vJQ h3,vYV] at h; exact absurd h (by decide)
 by_cases h4:i≤j.parent
 ·rw [vYH h1,vYG,vYH h2,vYG,vYH h3,vYG,vJQ h4,vYV] at h; exact absurd h (by decide)
 omega
theorem jVG {js:Nat→J} {n i:Nat} (h:jErr js n i=0):cjT (fun e=>e) i (js i)=0:=by
 unfold jErr at h;cases h1:nmB (js i).name with
 | false=>rw [h1] at h; exact absurd (show (802:Int)=0 from h) (by decide)
 | true =>
  cases h2:dup js (js i).name i 0 with
  | true=>rw [h1,h2] at h; exact absurd (show (802:Int)=0 from h) (by decide)
  | false=>rw [h1,h2] at h; exact h
theorem jVH {js:Nat→J} {n:Nat}:∀ {k p:Nat},jE js n k p=0→∀ i,p≤i→i < p + k→jErr js n i=0
 | 0,p,_,i,h1,h2=>by omega
 | k + 1,p,h,i,h1,h2=>by
  unfold jE at h;by_cases hp:jErr js n p=0
  ·rw [vJQ hp,vYV] at h;rcases Nat.eq_or_lt_of_le h1 with e | e
   ·exact e ▸ hp
   ·exact jVH h i e (by omega)
  ·rw [vYH hp,vYG] at h;exact absurd h hp
theorem jUW {js:Nat→J} {ms:Nat→Ms} {n m:Nat} (h:rErr js ms n m=0):jE js n n 0=0:=by
 have hn:=zKH h;unfold rErr at h;rw [vYH (show ¬ (n:Int)=0 by omega),vYH (show ¬ 10 < (n:Int) by omega),vYG,vYG] at h;by_cases hj:jE js n n 0=0
 ·exact hj
 ·rw [vYH hj,vYG] at h; exact h
theorem yVL {js:Nat→J} {ms:Nat→Ms} {n m:Nat} (h:rErr js ms n m=0):∀ i,i < n → -1≤(js i).parent∧(js i).parent < (i:Int):=fun i hi =>
 xJQ (jVG (jVH (jUW h) i (Nat.zero_le _) (by omega)))
def jl (js:Nat→J) (n:Nat):List J:=(List.range n).map js
def ml (ms:Nat→Ms) (m:Nat):List Ms:=(List.range m).map ms
def bl (bx:Nat→Iv) (k:Nat):List Iv:=(List.range k).map bx
theorem jl_e (js:Nat→J) (n:Nat):(jl js n).map jp=(List.range n).map (fJ js):=by unfold jl; rw [List.map_map]; rfl
theorem ml_e (ms:Nat→Ms) (m:Nat):(ml ms m).map mp=(List.range m).map (fM ms):=by unfold ml; rw [List.map_map]; rfl
theorem bl_e (bx:Nat→Iv) (k:Nat):(bl bx k).map Rx.ivC=(List.range k).map (fB bx):=by unfold bl; rw [List.map_map]; rfl
theorem yJQ (js:Nat→J) (n:Nat):(jl js n).length=n:=by simp [jl]
theorem xZJ (ms:Nat→Ms) (m:Nat):(ml ms m).length=m:=by simp [ml]
theorem jQY (bx:Nat→Iv) (k:Nat):(bl bx k).length=k:=by simp [bl]
theorem xZC {js:Nat→J} {n i:Nat} {j:J} (h:(jl js n)[i]? = some j):i < n∧j=js i:=by
 have hl:=(List.getElem?_eq_some_iff.1 h).1;rw [yJQ] at hl;unfold jl at h;rw [vZY,List.getElem?_range hl] at h;cases h;exact ⟨hl,rfl⟩
theorem kVD {js:Nat→J} {ms:Nat→Ms} {n m:Nat} {F:Nat→Prop} {w:World} {v:Value} (hF:∀ k,F k→k < w.heap.size) (h:RP F w (.a [.lf n (fJ js),.lf m (fM ms)]) v):∃ aj cj am cm,v=.agg #[.slice aj n cj,.slice am m cm]∧qJD 12 aj ((jl js n).map jc) w∧qJD 5 am ((ml ms m).map mc) w:=by
 obtain ⟨vs,rfl,ha⟩:=kZK h;obtain ⟨v1,vs,rfl,h1,ha⟩:=qKV ha;obtain ⟨v2,vs,rfl,h2,ha⟩:=qKV ha;obtain rfl:=zJC ha;obtain ⟨aj,cj,rfl,_,hj⟩:=zGQ (sz:=12) (g:=jc) (fun _=>rfl) (fun _=>rfl) (yJQ js n) hF (zQD (jl_e js n) h1);obtain ⟨am,cm,rfl,_,hm⟩:=zGQ (sz:=5) (g:=mc) (fun _=>rfl) (fun _=>rfl) (xZJ ms m) hF (zQD (ml_e ms m) h2);exact ⟨aj,cj,am,cm,rfl,hj,hm⟩
theorem kHQ {bx:Nat→Iv} {k:Nat} {F:Nat→Prop} {w:World} {v:Value} (hF:∀ k,F k→k < w.heap.size) (h:RP F w (.lf k (fB bx)) v):∃ a c,v=.slice a k c∧qJD 2 a ((bl bx k).map ivc) w:=by
 obtain ⟨a,c,rfl,_,hS⟩:=zGQ (sz:=2) (g:=ivc) (fun _=>rfl) (fun _=>rfl) (jQY bx k) hF (zQD (bl_e bx k) h);exact ⟨a,c,rfl,hS⟩
def LK (js:Nat→J) (bx:Nat→Iv) (n:Nat):List Po:=lks (jl js n) (bl bx n) n
def LP (js:Nat→J) (bx:Nat→Iv) (n:Nat):Nat→Po:=fun i=>(LK js bx n).getD i Po.rest
def fP (P:Nat→Po):Nat→List PV:=fun v=>Rx.poC (P v)
theorem jHV (js:Nat→J) (bx:Nat→Iv) (n:Nat):(LK js bx n).length=n:=jVJ _ (by rw [yJQ]; exact Nat.le_refl _) (by rw [jQY]; exact Nat.le_refl _)
theorem LK_e (js:Nat→J) (bx:Nat→Iv) (n:Nat):(LK js bx n).map Rx.poC=(List.range n).map (fP (LP js bx n)):=by
 have:=jKI Po.rest Rx.poC (LK js bx n)
 rw [jHV] at this;exact this
theorem uVZ (js:Nat→J) (ms:Nat→Ms) (bx:Nat→Iv) (n m:Nat) (hn:n≤1000) (hp:∀ i,i < n → -1≤(js i).parent∧(js i).parent < (i:Int)):yK Tryz.prog 86 [.a [.lf n (fJ js),.lf m (fM ms)],.lf n (fB bx)] (.v (.lf n (fP (LP js bx n)))):=by
 refine qJZ (Same.lf (LK_e js bx n)) (kQX (X:=Nat) (Φ:=fun _=>True) (V:=fun b=>.slice (some ⟨b,0,none⟩) n n) (G:=fun b=>qJD 24 (some ⟨b,0,none⟩) ((LK js bx n).map pc)) (qW Tryz.func86 (by kernel_rfl) (by kernel_rfl)) (fun w F vals hF hal => ?_) (fun x w D F hP hG hd hF=>uZD (g:=pc) (sz:=24) (fun _=>rfl) (fun _=>rfl) (jHV js bx n) (Nat.le_refl _) (by decide) hd hG (fun _ h=>h) hF));obtain ⟨v1,vs,rfl,h1,hal⟩:=qKV hal;obtain ⟨v2,vs,rfl,h2,hal⟩:=qKV hal;obtain rfl:=zJC hal;obtain ⟨aj,cj,am,cm,rfl,hj,hm'⟩:=kVD hF h1;obtain ⟨ab,cb,rfl,hS⟩:=kHQ hF h2;exact xZA aj am ab cj m cm cb n (jl js n) (bl bx n) hn (yJQ js n) (jQY bx n) (fun i j h=>by obtain ⟨hi,rfl⟩:=xZC h; exact hp i hi) w hj hS
theorem kVA (js:Nat→J) (ms:Nat→Ms) (bx:Nat→Iv) (n m:Nat) (h0:rErr js ms n m=0) (hv:allV bx n=true):yK Tryz.prog 22 [.a [.lf n (fJ js),.lf m (fM ms)],.lf n (fB bx)] (.v (.lf n (fP (LP js bx n)))):=by
 have hn:=zKH h0;have hp:=yVL h0;have hl:((LK js bx n).map Rx.poC).length=n:=by rw [List.length_map]; exact jHV js bx n
 refine qJZ (Same.lf (LK_e js bx n)) (yKL (e:=68) (sz:=24) (jQI (Φ:=fun _=>True) (rows:=(LK js bx n).map Rx.poC) (qW Tryz.func22 (by kernel_rfl) (by kernel_rfl)) (zHE (fun _=>rfl) _) (by decide) (fun w F vals hF hal => ?_)));have hal0:=hal;obtain ⟨v1,vs,rfl,h1,hal⟩:=qKV hal;obtain ⟨v2,vs,rfl,h2,hal⟩:=qKV hal;obtain rfl:=zJC hal;have up:∀ w':World,Grow w w'→∀ {p:PV} {v:Value},RP F w p v→RP (fun k=>k < w'.heap.size) w' p v:=fun w' g p v h=>h.mono fun k hk=>⟨vZK (hF k hk) g.size,g.block k (hF k hk)⟩
 have hC:=fun (w':World) (g:Grow w w')=>qWC (w:=w') (zVL js ms n m) rfl (qZF (up w' g h1) qGQ)
 have hB:=fun (w':World) (g:Grow w w')=>qWC (w:=w') (jKQ js ms bx n m n (by omega)) rfl (qZF (up w' g h1) (qZF (up w' g h2) qGQ))
 obtain ⟨aj,cj,am,cm,rfl,hj,hm'⟩:=kVD hF h1;obtain ⟨ab,cb,rfl,hS⟩:=kHQ hF h2;rw [h0] at hC;have hB':isB bx n n=true:=by unfold isB; rw [hv,vJQ rfl]; rfl
 rw [hB'] at hB;rw [hl,qGZ (g:=pc) (fun _=>rfl)];exact uGZ aj am ab cj m cm cb n (jl js n) (bl bx n) (by omega) (yJQ js n) (jQY bx n) (fun i j h=>by obtain ⟨hi,rfl⟩:=xZC h; exact hp i hi) w hj hS hC hB
end Go.Proofs.YtgmbkkkbfbocnaaGreat.Nf
namespace Go.Proofs.YtgmbkkkbfbocnaaGreat.Ga
open Go.Rx Rt Go.Sx Go.RowKit Od Na Nb Nc Nx Nf
structure Shp where
 link:Int
 rad:Int
 np:Nat
 pts:Nat→Z3
structure Skp where
 a:Int
 b:Int
def zP (p:Z3):List PV:=[.n .i64 p.x,.n .i64 p.y,.n .i64 p.z]
def fZ (p:Nat→Z3):Nat→List PV:=fun w=>zP (p w)
def sP (s:Shp):List PV:=[.n .i64 s.link,.n .i64 s.rad,.lf s.np (fZ s.pts)]
def fS (sh:Nat→Shp):Nat→List PV:=fun v=>sP (sh v)
def fK (sk:Nat→Skp):Nat→List PV:=fun v=>[.n .i64 (sk v).a,.n .i64 (sk v).b]
def unZ (r:List PV):Z3:=match r with
 | [.n _ x,.n _ y,.n _ z]=>⟨x,y,z⟩
 | _=>⟨0,0,0⟩
def unFZ (f:Nat→List PV):Nat→Z3:=fun w=>unZ (f w)
def unS (r:List PV):Shp:=match r with
 | [.n _ l,.n _ q,.lf k f]=>⟨l,q,k,unFZ f⟩
 | _=>⟨0,0,0,fun _=>⟨0,0,0⟩⟩
def unFS (f:Nat→List PV):Nat→Shp:=fun v=>unS (f v)
def unFK (f:Nat→List PV):Nat→Skp:=fun v=>match f v with
 | [.n _ a,.n _ b]=>⟨a,b⟩
 | _=>⟨0,0⟩
def unFJ (f:Nat→List PV):Nat→J:=fun v=>match f v with
 | [.s a0,.n _ a1,.n _ a2,.n _ a3,.n _ a4,.n _ a5,.n _ a6,.n _ a7,.n _ a8,.n _ a9,.n _ a10,.n _ a11]=>⟨a0,a1,a2,⟨a3,a4,a5⟩,a6,a7,a8,a9,a10,a11⟩
 | _=>⟨ByteArray.empty,0,0,⟨0,0,0⟩,0,0,0,0,0,0⟩
def unFM (f:Nat→List PV):Nat→Ms:=fun v=>match f v with
 | [.n _ a0,.n _ a1,.n _ a2,.n _ a3,.n _ a4]=>⟨a0,a1,⟨a2,a3,a4⟩⟩
 | _=>⟨0,0,⟨0,0,0⟩⟩
def isLk (n:Nat) (l:Int):Bool:=decide (-1≤l) && decide (l < (n:Int))
def zOk (k:Int) (p:Z3):Bool:=(!decide (p.x < -k) && !decide (k < p.x)) && ((!decide (p.y < -k) && !decide (k < p.y)) && (!decide (p.z < -k) && !decide (k < p.z)))
noncomputable def xVV (_:Nat→J) (_:Nat→Ms) (_:Nat→Shp) (_:Nat→Skp) (n m c d:Nat) (l:Int):OrS:=orS [] []
noncomputable def kUJ (_:Nat→J) (_:Nat→Ms) (_:Nat→Shp) (_:Nat→Skp) (n m c d:Nat) (l:Int):List (List Nat × jG):=[]
set_option maxRecDepth 100000 in
theorem xWX (js:Nat→J) (ms:Nat→Ms) (sh:Nat→Shp) (sk:Nat→Skp) (n m c d:Nat) (l:Int):qYU Tf (xVV js ms sh sk n m c d l) (qZ (kUJ js ms sh sk n m c d l)) 60 98 [.a [.lf n (fJ js),.lf m (fM ms),.lf c (fS sh),.lf d (fK sk)],.n .i64 l] =
 (bif (decide ((-1)≤l)) then (bif (decide (l < (n:Int))) then some (.v (.b true),[])
 else some (.v (.b false),[]))
 else some (.v (.b false),[])):=by kernel_rfl
theorem uQF (js:Nat→J) (ms:Nat→Ms) (sh:Nat→Shp) (sk:Nat→Skp) (n m c d:Nat) (l:Int):yK Tryz.prog 98 [.a [.lf n (fJ js),.lf m (fM ms),.lf c (fS sh),.lf d (fK sk)],.n .i64 l] (.v (.b (isLk n l))):=by
 refine yQ (N:=60) (LO:=qZ (kUJ js ms sh sk n m c d l)) kX zW (uK (l:=[]) (m:=[]) trivial trivial) (fun p S hp => ?_) ?_
 ·refine zG (L:=qQ Tf 98) (l:=(kUJ js ms sh sk n m c d l)) (show AllP _ (kUJ js ms sh sk n m c d l) from trivial) p S hp
 ·refine (xWX js ms sh sk n m c d l).trans ?_;unfold isLk;cases decide (-1≤l) <;> cases decide (l < (n:Int)) <;> rfl
def cil:(Nat→J) × (Nat→Ms) × (Nat→Shp) × (Nat→Skp) × Nat × Nat × Nat × Nat × Int→Prop:=fun t=>match t with | (_,_,_,_,_,_,_,_,_)=>True
def eil:(Nat→J) × (Nat→Ms) × (Nat→Shp) × (Nat→Skp) × Nat × Nat × Nat × Nat × Int→List PV:=fun t=>match t with | (js,ms,sh,sk,n,m,c,d,l)=>[.a [.lf n (fJ js),.lf m (fM ms),.lf c (fS sh),.lf d (fK sk)],.n .i64 l]
noncomputable def ril:(Nat→J) × (Nat→Ms) × (Nat→Shp) × (Nat→Skp) × Nat × Nat × Nat × Nat × Int→Ret:=fun t=>match t with | (_,_,_,_,n,_,_,_,l)=>.v (.b (isLk n l))
def dil:List PV→(Nat→J) × (Nat→Ms) × (Nat→Shp) × (Nat→Skp) × Nat × Nat × Nat × Nat × Int:=fun ps=>match ps with
 | [.a [.lf n js,.lf m ms,.lf c sh,.lf d sk],.n _ l]=>(unFJ js,unFM ms,unFS sh,unFK sk,n,m,c,d,l)
 | _=>(fun _=>⟨ByteArray.empty,0,0,⟨0,0,0⟩,0,0,0,0,0,0⟩,fun _=>⟨0,0,⟨0,0,0⟩⟩,fun _=>⟨0,0,0,fun _=>⟨0,0,0⟩⟩,fun _=>⟨0,0⟩,0,0,0,0,0)
noncomputable def o_il:List PV→Option (Bool × Ret):=o_fm dil cil eil ril
theorem xQX:zJ Tryz.prog 98 o_il:=qYX fun t h=>by
 obtain ⟨js,ms,sh,sk,n,m,c,d,l⟩:=t;exact uQF js ms sh sk n m c d l
noncomputable def xVW (_:Nat→J) (_:Nat→Ms) (n m:Nat) (l:Int):OrS:=orS [] []
noncomputable def kUY (_:Nat→J) (_:Nat→Ms) (n m:Nat) (l:Int):List (List Nat × jG):=[]
set_option maxRecDepth 100000 in
theorem xWU (js:Nat→J) (ms:Nat→Ms) (n m:Nat) (l:Int):qYU Tf (xVW js ms n m l) (qZ (kUY js ms n m l)) 60 104 [.a [.lf n (fJ js),.lf m (fM ms)],.n .i64 l] =
 (bif (decide ((-1)≤l)) then (bif (decide (l < (n:Int))) then some (.v (.b true),[])
 else some (.v (.b false),[]))
 else some (.v (.b false),[])):=by kernel_rfl
theorem uQE (js:Nat→J) (ms:Nat→Ms) (n m:Nat) (l:Int):yK Tryz.prog 104 [.a [.lf n (fJ js),.lf m (fM ms)],.n .i64 l] (.v (.b (isLk n l))):=by
 refine yQ (N:=60) (LO:=qZ (kUY js ms n m l)) kX zW (uK (l:=[]) (m:=[]) trivial trivial) (fun p S hp => ?_) ?_
 ·refine zG (L:=qQ Tf 104) (l:=(kUY js ms n m l)) (show AllP _ (kUY js ms n m l) from trivial) p S hp
 ·refine (xWU js ms n m l).trans ?_;unfold isLk;cases decide (-1≤l) <;> cases decide (l < (n:Int)) <;> rfl
def cir:(Nat→J) × (Nat→Ms) × Nat × Nat × Int→Prop:=fun t=>match t with | (_,_,_,_,_)=>True
def eir:(Nat→J) × (Nat→Ms) × Nat × Nat × Int→List PV:=fun t=>match t with | (js,ms,n,m,l)=>[.a [.lf n (fJ js),.lf m (fM ms)],.n .i64 l]
noncomputable def rir:(Nat→J) × (Nat→Ms) × Nat × Nat × Int→Ret:=fun t=>match t with | (_,_,n,_,l)=>.v (.b (isLk n l))
def dir:List PV→(Nat→J) × (Nat→Ms) × Nat × Nat × Int:=fun ps=>match ps with
 | [.a [.lf n js,.lf m ms],.n _ l]=>(unFJ js,unFM ms,n,m,l)
 | _=>(fun _=>⟨ByteArray.empty,0,0,⟨0,0,0⟩,0,0,0,0,0,0⟩,fun _=>⟨0,0,⟨0,0,0⟩⟩,0,0,0)
noncomputable def o_ir:List PV→Option (Bool × Ret):=o_fm dir cir eir rir
theorem xGG:zJ Tryz.prog 104 o_ir:=qYX fun t h=>by
 obtain ⟨js,ms,n,m,l⟩:=t;exact uQE js ms n m l
noncomputable def orbt (x _ _:Int):OrS:=orS [] []
noncomputable def lsbt (x _ _:Int):List (List Nat × jG):=[]
set_option maxRecDepth 100000 in
theorem pxbt (x lo hi:Int):qYU Tf (orbt x lo hi) (qZ (lsbt x lo hi)) 60 105 [.n .i64 x,.n .i64 lo,.n .i64 hi] =
 (bif (decide (lo≤x)) then (bif (decide (x≤hi)) then some (.v (.b true),[])
 else some (.v (.b false),[]))
 else some (.v (.b false),[])):=by kernel_rfl
theorem uVX (x lo hi:Int):yK Tryz.prog 105 [.n .i64 x,.n .i64 lo,.n .i64 hi] (.v (.b (decide (lo≤x) && decide (x≤hi)))):=by
 refine yQ (N:=60) (LO:=qZ (lsbt x lo hi)) kX zW (uK (l:=[]) (m:=[]) trivial trivial) (fun p S hp => ?_) ?_
 ·refine zG (L:=qQ Tf 105) (l:=(lsbt x lo hi)) (show AllP _ (lsbt x lo hi) from trivial) p S hp
 ·refine (pxbt x lo hi).trans ?_;cases decide (lo≤x) <;> cases decide (x≤hi) <;> rfl
def cbt:Int × Int × Int→Prop:=fun t=>match t with | (_,_,_)=>True
def ebt:Int × Int × Int→List PV:=fun t=>match t with | (x,lo,hi)=>[.n .i64 x,.n .i64 lo,.n .i64 hi]
noncomputable def rbt:Int × Int × Int→Ret:=fun t=>match t with | (x,lo,hi)=>.v (.b (decide (lo≤x) && decide (x≤hi)))
def dbt:List PV→Int × Int × Int:=fun ps=>match ps with
 | [.n _ x,.n _ lo,.n _ hi]=>(x,lo,hi)
 | _=>(0,0,0)
noncomputable def o_bt:List PV→Option (Bool × Ret):=o_fm dbt cbt ebt rbt
theorem xGF:zJ Tryz.prog 105 o_bt:=qYX fun t h=>by
 obtain ⟨x,lo,hi⟩:=t;exact uVX x lo hi
noncomputable def ornr (_:Z3):OrS:=orS [] []
noncomputable def lsnr (_:Z3):List (List Nat × jG):=[]
set_option maxRecDepth 100000 in
theorem pxnr (z:Z3):qYU Tf (ornr z) (qZ (lsnr z)) 60 57 [.a [.n .i64 z.x,.n .i64 z.y,.n .i64 z.z],.n .i64 4194304] =
 (bif (decide (z.x < (-4194304))) then some (.v (.b false),[])
 else (bif (decide (4194304 < z.x)) then some (.v (.b false),[])
 else (bif (decide (z.y < (-4194304))) then some (.v (.b false),[])
 else (bif (decide (4194304 < z.y)) then some (.v (.b false),[])
 else (bif (decide (z.z < (-4194304))) then some (.v (.b false),[])
 else (bif (decide (4194304 < z.z)) then some (.v (.b false),[])
 else some (.v (.b true),[]))))))):=by kernel_rfl
theorem uWL (z:Z3):yK Tryz.prog 57 [.a [.n .i64 z.x,.n .i64 z.y,.n .i64 z.z],.n .i64 4194304] (.v (.b (zOk 4194304 z))):=by
 refine yQ (N:=60) (LO:=qZ (lsnr z)) kX zW (uK (l:=[]) (m:=[]) trivial trivial) (fun p S hp => ?_) ?_
 ·refine zG (L:=qQ Tf 57) (l:=(lsnr z)) (show AllP _ (lsnr z) from trivial) p S hp
 ·refine (pxnr z).trans ?_;unfold zOk;cases decide (z.x < -4194304) <;> cases decide (4194304 < z.x) <;> cases decide (z.y < -4194304) <;> cases decide (4194304 < z.y) <;> cases decide (z.z < -4194304) <;> cases decide (4194304 < z.z) <;> rfl
def cnr:Z3→Prop:=fun t=>match t with | _=>True
def enr:Z3→List PV:=fun t=>match t with | z=>[.a (zP z),.n .i64 4194304]
noncomputable def rnr:Z3→Ret:=fun t=>match t with | z=>.v (.b (zOk 4194304 z))
def dnr:List PV→Z3:=fun ps=>match ps with
 | [.a r,.n _ _]=>(unZ r)
 | _=>⟨0,0,0⟩
noncomputable def o_nr:List PV→Option (Bool × Ret):=o_fm dnr cnr enr rnr
theorem uHB:zJ Tryz.prog 57 o_nr:=qYX fun t h=>by
 revert h; revert t; intro z h
 exact uWL z
end Go.Proofs.YtgmbkkkbfbocnaaGreat.Ga

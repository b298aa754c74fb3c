/- Part 21 of the texts behind the last one: rules and contracts. No condition. -/
import Derived.Test.YtklmegnpfhiibaaGreatBU20
open Option.some renaming injEq → vQZ
open Prod.mk renaming injEq → vQY
open Bool renaming and_eq_true → vQJ, and_self → vZQ, true_and → vZW
open Go.IntKind renaming wrap → vYV
namespace Go.Proofs.YtklmegnpfhiibaaGreat.Nc
open Go.Rx Rt Go.Sx Go.RowKit Od
open Na Nb
def MOK (n:Nat) (q:Ms):Prop:=(0≤q.link∧q.link < n)∧(1≤q.mass∧q.mass≤65536)∧(-4194304≤q.p.x∧q.p.x≤4194304)∧(-4194304≤q.p.y∧q.p.y≤4194304)∧(-4194304≤q.p.z∧q.p.z≤4194304)
instance (n:Nat) (q:Ms):Decidable (MOK n q):=by unfold MOK; exact inferInstance
def mokB (n:Nat) (q:Ms):Bool:=decide (MOK n q)
def mAll (ms:Nat→Ms) (n:Nat):Nat→Nat→Bool
 | 0,_=>true
 | k + 1,p=>mokB n (ms p) && mAll ms n k (p + 1)
def fbad (ms:Nat→Ms) (n:Nat):Nat→Nat→Int
 | 0,_ => -1
 | k + 1,p=>bif mokB n (ms p) then fbad ms n k (p + 1) else (p:Int)
theorem fbad_all (ms:Nat→Ms) (n:Nat):∀ k p,decide (0≤fbad ms n k p) = !mAll ms n k p
 | 0,p=>rfl
 | k + 1,p=>by
  have ih:=fbad_all ms n k (p + 1);by_cases hq:mokB n (ms p)=true
  ·simp only [fbad,mAll,hq,vYY,vZW];exact ih
  ·rw [Bool.not_eq_true] at hq;simp only [fbad,mAll,hq,vYJ,Bool.false_and,Bool.not_false];exact vYU (by omega)
def jE (js:Nat→J) (n:Nat):Nat→Nat→Int
 | 0,_=>0
 | k + 1,p=>bif decide (jErr js n p=0) then jE js n k (p + 1) else jErr js n p
def rErr (js:Nat→J) (ms:Nat→Ms) (n m:Nat):Int:=bif decide ((n:Int)=0) then 801 else bif decide (10 < (n:Int)) then 801 else bif decide (jE js n n 0=0) then (bif decide (32 < (m:Int)) then 808 else bif mAll ms n m 0 then 0 else 808) else jE js n n 0
def mTp {α:Type} (n:Nat) (q:Ms) (a b:α):α:=(bif (decide (0≤q.link)) then (bif (decide (q.link < (n:Int))) then (bif (decide (1≤q.mass)) then (bif (decide (q.mass≤65536)) then (bif (decide (q.p.x < (-4194304))) then b else (bif (decide (4194304 < q.p.x)) then b else (bif (decide (q.p.y < (-4194304))) then b else (bif (decide (4194304 < q.p.y)) then b else (bif (decide (q.p.z < (-4194304))) then b else (bif (decide (4194304 < q.p.z)) then b else a)))))) else b) else b) else b) else b)
theorem mTp_eq {α:Type} (n:Nat) (q:Ms) (a b:α):mTp n q a b=bif mokB n q then a else b:=by
 unfold mTp mokB;by_cases h:MOK n q
 ·have h':=h;obtain ⟨⟨h1,h2⟩,⟨h3,h4⟩,⟨h5,h6⟩,⟨h7,h8⟩,h9,h10⟩:=h';rw [vYU h];simp only [vYY];simp only [Bool.cond_eq_ite,decide_eq_true_eq]
  repeat' split
  all_goals first | rfl | (exfalso; omega)
 ·rw [vYK h];unfold MOK at h;simp only [vYJ];simp only [Bool.cond_eq_ite,decide_eq_true_eq]
  repeat' split
  all_goals first | rfl | (exfalso; omega) | contradiction
set_option maxRecDepth 100000 in
theorem tr_cl (js:Nat→J) (ms:Nat→Ms) (n m:Nat) (q:Ms):runK T (OrL.k []) 60 61 [.a (mp q),.c [.lf n (fJ js),.lf m (fM ms)] 0]=mTp n q (F_b false) (F_b true):=by kernel_rfl
theorem zHU (js:Nat→J) (ms:Nat→Ms) (n m:Nat) (q:Ms):zQ Tryz.prog 61 [.a (mp q),.c [.lf n (fJ js),.lf m (fM ms)] 0] (.v (.b (!mokB n q))):=by
 refine jV (N:=60) qYK jQ (OrL.ok (l:=[]) trivial) ?_;rw [tr_cl,mTp_eq];cases mokB n q <;> rfl
noncomputable def o_cl (js:Nat→J) (ms:Nat→Ms) (n m:Nat):List PV→Option (Bool × Ret):=fun ps=>match ps with
 | [.a [.n .i64 a0,.n .i64 a1,.n .i64 a2,.n .i64 a3,.n .i64 a4],c]=>some (gEq c (.c [.lf n (fJ js),.lf m (fM ms)] 0),.v (.b (!mokB n ⟨a0,a1,⟨a2,a3,a4⟩⟩)))
 | _=>none
theorem yJQ (js:Nat→J) (ms:Nat→Ms) (n m:Nat):kU Tryz.prog 61 (o_cl js ms n m):=by
 intro ps r hh;unfold o_cl at hh;split at hh
 ·simp only [vQZ,vQY] at hh;obtain ⟨hg,rfl⟩:=hh;obtain rfl:=zYV hg;exact zHU js ms n m ⟨_,_,⟨_,_,_⟩⟩
 ·cases hh
def hI (js:Nat→J) (ms:Nat→Ms) (n m:Nat) (i:Int):St:=⟨[(0,.v (.lf m (fM ms))),(1,.v (.f 61 [] [.c [.lf n (fJ js),.lf m (fM ms)] 0])),(7,.v (.n .i64 (m:Int))),(8,.v (.n .i64 i))],[]⟩
set_option maxRecDepth 100000 in
theorem rdI (G:St→Option (Ret × Mem)) (K:Cont) (js:Nat→J) (ms:Nat→Ms) (n m:Nat) (i:Int):qKQ 60 (cxF T (OrL.k [(61,o_cl js ms n m)]) 60 93 (ntmF T 93)) (ckF T (OrL.k [(61,o_cl js ms n m)]) 60) (qY T 93 [0,1,0,1]) (fun e τ=>match e with
 | .normal=>G (qYQ ((cxF T (OrL.k [(61,o_cl js ms n m)]) 60 93 (ntmF T 93)).T.hint (cxF T (OrL.k [(61,o_cl js ms n m)]) 60 93 (ntmF T 93)).me (zJ (qY T 93 [0,1,0,1]))) τ)
 | e=>K e (qZJ ((cxF T (OrL.k [(61,o_cl js ms n m)]) 60 93 (ntmF T 93)).T.hint (cxF T (OrL.k [(61,o_cl js ms n m)]) 60 93 (ntmF T 93)).me (zJ (qY T 93 [0,1,0,1]))) τ)) (hI js ms n m i) =
 (bif (decide (i < (m:Int))) then (bif (inB i m) then (bif (gEq (.c [.lf n (fJ js),.lf m (fM ms)] 0) (.c [.lf n (fJ js),.lf m (fM ms)] 0)) then (bif (!mokB n (ms (i).toNat)) then (K .ret ⟨[(4,.v (.n .i64 i))],[]⟩)
 else (G (hI js ms n m (vYV .i64 (i + 1)))))
 else none)
 else none)
 else (K (.exit 0) ⟨[],[]⟩)):=by kernel_rfl
theorem lpI (K:Cont) (js:Nat→J) (ms:Nat→Ms) (n m:Nat) (hm:m≤1000):∀ (k p q:Nat),p + k=m→k < q→LF 60 (cxF T (OrL.k [(61,o_cl js ms n m)]) 60 93 (ntmF T 93)) (ckF T (OrL.k [(61,o_cl js ms n m)]) 60) (qY T 93 [0,1,0,1]) ((cxF T (OrL.k [(61,o_cl js ms n m)]) 60 93 (ntmF T 93)).T.hint (cxF T (OrL.k [(61,o_cl js ms n m)]) 60 93 (ntmF T 93)).me (zJ (qY T 93 [0,1,0,1]))) K q (hI js ms n m p)=(bif decide (fbad ms n k p = -1) then K (.exit 0) ⟨[],[]⟩ else K .ret ⟨[(4,.v (.n .i64 (fbad ms n k p)))],[]⟩)
 | 0,p,q + 1,hp,hq=>by
  refine (rdI (fun σ=>LF 60 (cxF T (OrL.k [(61,o_cl js ms n m)]) 60 93 (ntmF T 93)) (ckF T (OrL.k [(61,o_cl js ms n m)]) 60) (qY T 93 [0,1,0,1]) ((cxF T (OrL.k [(61,o_cl js ms n m)]) 60 93 (ntmF T 93)).T.hint (cxF T (OrL.k [(61,o_cl js ms n m)]) 60 93 (ntmF T 93)).me (zJ (qY T 93 [0,1,0,1]))) K q σ) K js ms n m p).trans ?_;rw [vYK (show ¬ (p:Int) < (m:Int) by omega)];rfl
 | k + 1,p,q + 1,hp,hq=>by
  refine (rdI (fun σ=>LF 60 (cxF T (OrL.k [(61,o_cl js ms n m)]) 60 93 (ntmF T 93)) (ckF T (OrL.k [(61,o_cl js ms n m)]) 60) (qY T 93 [0,1,0,1]) ((cxF T (OrL.k [(61,o_cl js ms n m)]) 60 93 (ntmF T 93)).T.hint (cxF T (OrL.k [(61,o_cl js ms n m)]) 60 93 (ntmF T 93)).me (zJ (qY T 93 [0,1,0,1]))) K q σ) K js ms n m p).trans ?_;rw [vYU (show (p:Int) < (m:Int) by omega),zX (show p < m by omega),kZ (by omega),lpI K js ms n m hm k (p + 1) q (by omega) (by omega),toN,qGD];by_cases hq:mokB n (ms p)=true
  ·simp only [fbad,hq,vYY,vYJ,Bool.not_true]
  ·rw [Bool.not_eq_true] at hq;simp only [fbad,hq,vYY,vYJ,Bool.not_false,vYK (show ¬ (p:Int) = -1 by omega)]
set_option maxRecDepth 100000 in
theorem pxI (js:Nat→J) (ms:Nat→Ms) (n m:Nat):qWK T (OrL.k [(61,o_cl js ms n m)]) (qJ [([0,1,0,1],uQ (hI js ms n m 0) (fun K=>(bif decide (fbad ms n m 0 = -1) then K (.exit 0) ⟨[],[]⟩ else K .ret ⟨[(4,.v (.n .i64 (fbad ms n m 0)))],[]⟩)))]) 60 93 [.lf m (fM ms),.f 61 [] [.c [.lf n (fJ js),.lf m (fM ms)] 0]] =
 bif gSt (hI js ms n m 0) (hI js ms n m 0) then (bif decide (fbad ms n m 0 = -1) then some (.v (.n .i64 (-1)),[]) else some (.v (.n .i64 (fbad ms n m 0)),[])) else none:=by kernel_rfl
theorem snd_if (js:Nat→J) (ms:Nat→Ms) (n m:Nat) (_:m≤50):zQ Tryz.prog 93 [.lf m (fM ms),.f 61 [] [.c [.lf n (fJ js),.lf m (fM ms)] 0]] (.v (.n .i64 (fbad ms n m 0))):=by
 refine uW (N:=60) (LO:=qJ [([0,1,0,1],uQ (hI js ms n m 0) (fun K=>(bif decide (fbad ms n m 0 = -1) then K (.exit 0) ⟨[],[]⟩ else K .ret ⟨[(4,.v (.n .i64 (fbad ms n m 0)))],[]⟩)))]) qYK jQ (OrL.ok (l:=[(61,o_cl js ms n m)]) ⟨yJQ js ms n m,trivial⟩) (fun p S hp => ?_) ?_
 ·refine qQF (L:=qY T 93) (l:=[([0,1,0,1],uQ (hI js ms n m 0) (fun K=>(bif decide (fbad ms n m 0 = -1) then K (.exit 0) ⟨[],[]⟩ else K .ret ⟨[(4,.v (.n .i64 (fbad ms n m 0)))],[]⟩)))]) (show AllP _ [([0,1,0,1],uQ (hI js ms n m 0) (fun K=>(bif decide (fbad ms n m 0 = -1) then K (.exit 0) ⟨[],[]⟩ else K .ret ⟨[(4,.v (.n .i64 (fbad ms n m 0)))],[]⟩)))] from ⟨qYG fun K r hr => ?_,trivial⟩) p S hp;exact (lpI K js ms n m (by omega) m 0 60 (by omega) (by omega)).trans hr
 ·refine (pxI js ms n m).trans ?_;rw [zV,vYY];by_cases h:fbad ms n m 0 = -1
  ·rw [vYU h,h]; rfl
  ·rw [vYK h]; rfl
theorem snd_cf (js:Nat→J) (ms:Nat→Ms) (n m:Nat) (hm:m≤50):zQ Tryz.prog 60 [.lf m (fM ms),.f 61 [] [.c [.lf n (fJ js),.lf m (fM ms)] 0]] (.v (.b (!mAll ms n m 0))):=by
 refine jV (N:=60) qYK jQ (OrL.ok (l:=[(93,o_cr [.lf m (fM ms),.f 61 [] [.c [.lf n (fJ js),.lf m (fM ms)] 0]] (.v (.n .i64 (fbad ms n m 0))))]) ⟨qXG (snd_if js ms n m hm),trivial⟩) ?_;refine (by kernel_rfl:_=bif (g1 [.lf m (fM ms),.f 61 [] [.c [.lf n (fJ js),.lf m (fM ms)] 0]]) then (bif (decide (0≤(fbad ms n m 0))) then some (.v (.b true),[])
 else some (.v (.b false),[]))
 else none).trans ?_
 rw [g1_t,vYY,← fbad_all];cases decide (0≤fbad ms n m 0) <;> rfl
noncomputable def qUU (js:Nat→J) (ms:Nat→Ms) (n m:Nat):List PV→Option (Bool × Ret):=fun ps=>match ps with
 | [r,.n .i64 i]=>some (gEq r (.a [.lf n (fJ js),.lf m (fM ms)]) && (inB i n && decide (n≤50)),.v (.n .i64 (jErr js n i.toNat)))
 | _=>none
theorem ok_o_cjp (js:Nat→J) (ms:Nat→Ms) (n m:Nat):kU Tryz.prog 59 (qUU js ms n m):=by
 intro ps r hh;unfold qUU at hh;split at hh
 ·simp only [vQZ,vQY,vQJ] at hh;obtain ⟨⟨hg,hi,hd⟩,rfl⟩:=hh;obtain rfl:=zYV hg;have hn:=vYX hd;obtain ⟨i0,i1⟩:=qKK hi;rename_i i
  have:=snd_cjp js ms n m hn i.toNat (by omega)
  rw [show ((i.toNat:Nat):Int)=i by omega] at this;exact this
 ·cases hh
noncomputable def qQH (js:Nat→J) (ms:Nat→Ms) (n m:Nat):List PV→Option (Bool × Ret):=fun ps=>match ps with
 | [r,.n .i64 i]=>some (gEq r (.lf n (fJ js)) && (inB i n && decide (n≤50)),.v (.n .i64 (jErr js n i.toNat)))
 | _=>none
theorem ok_o_cjr (js:Nat→J) (ms:Nat→Ms) (n m:Nat):kU Tryz.prog 56 (qQH js ms n m):=by
 intro ps r hh;unfold qQH at hh;split at hh
 ·simp only [vQZ,vQY,vQJ] at hh;obtain ⟨⟨hg,hi,hd⟩,rfl⟩:=hh;obtain rfl:=zYV hg;have hn:=vYX hd;obtain ⟨i0,i1⟩:=qKK hi;rename_i i
  have:=snd_cjr js n hn i.toNat (by omega)
  rw [show ((i.toNat:Nat):Int)=i by omega] at this;exact this
 ·cases hh
noncomputable def qUX (js:Nat→J) (ms:Nat→Ms) (n m:Nat):List PV→Option (Bool × Ret):=fun ps=>some (gEq (.t ps) (.t [.lf m (fM ms),.f 61 [] [.c [.lf n (fJ js),.lf m (fM ms)] 0]]) && decide (m≤50),.v (.b (!mAll ms n m 0)))
theorem ok_cfm (js:Nat→J) (ms:Nat→Ms) (n m:Nat):kU Tryz.prog 60 (qUX js ms n m):=by
 intro ps q hh;unfold qUX at hh;simp only [vQZ,vQY,vQJ] at hh;obtain ⟨⟨hg,hm⟩,rfl⟩:=hh
 have:=zYV hg
 simp only [PV.t.injEq] at this;rw [this];exact snd_cf js ms n m (vYX hm)
def hK (js:Nat→J) (ms:Nat→Ms) (n m:Nat) (i:Int):St:=⟨[(1,.p 1 0),(17,.v (.n .i64 (n:Int))),(18,.v (.n .i64 i))],[(1,.blk [.v (.lf n (fJ js)),.v (.lf m (fM ms))])]⟩
set_option maxRecDepth 100000 in
theorem rdK (G:St→Option (Ret × Mem)) (K:Cont) (js:Nat→J) (ms:Nat→Ms) (n m:Nat) (i:Int):qKQ 60 (cxF T (OrL.k [(59,qUU js ms n m),(60,qUX js ms n m)]) 60 31 (ntmF T 31)) (ckF T (OrL.k [(59,qUU js ms n m),(60,qUX js ms n m)]) 60) (qY T 31 [0,1,0,1,1]) (fun e τ=>match e with
 | .normal=>G (qYQ ((cxF T (OrL.k [(59,qUU js ms n m),(60,qUX js ms n m)]) 60 31 (ntmF T 31)).T.hint (cxF T (OrL.k [(59,qUU js ms n m),(60,qUX js ms n m)]) 60 31 (ntmF T 31)).me (zJ (qY T 31 [0,1,0,1,1]))) τ)
 | e=>K e (qZJ ((cxF T (OrL.k [(59,qUU js ms n m),(60,qUX js ms n m)]) 60 31 (ntmF T 31)).T.hint (cxF T (OrL.k [(59,qUU js ms n m),(60,qUX js ms n m)]) 60 31 (ntmF T 31)).me (zJ (qY T 31 [0,1,0,1,1]))) τ)) (hK js ms n m i) =
 (bif (decide (i < (n:Int))) then (bif (gEq (.a [.lf n (fJ js),.lf m (fM ms)]) (.a [.lf n (fJ js),.lf m (fM ms)]) && (inB i n && decide (n≤50))) then (bif (!decide ((jErr js n (i).toNat)=0)) then (K .ret ⟨[(1,.p 1 0),(2,.v (.n .i64 (jErr js n (i).toNat)))],[(1,.blk [.v (.lf n (fJ js)),.v (.lf m (fM ms))])]⟩)
 else (G (hK js ms n m (vYV .i64 (i + 1)))))
 else none)
 else (K (.exit 0) ⟨[(1,.p 1 0)],[(1,.blk [.v (.lf n (fJ js)),.v (.lf m (fM ms))])]⟩)):=by kernel_rfl
def rK (js:Nat→J) (ms:Nat→Ms) (n m:Nat) (e:Int):St:=⟨[(1,.p 1 0),(2,.v (.n .i64 e))],[(1,.blk [.v (.lf n (fJ js)),.v (.lf m (fM ms))])]⟩
def oK (js:Nat→J) (ms:Nat→Ms) (n m:Nat):St:=⟨[(1,.p 1 0)],[(1,.blk [.v (.lf n (fJ js)),.v (.lf m (fM ms))])]⟩
theorem lpK (K:Cont) (js:Nat→J) (ms:Nat→Ms) (n m:Nat) (hn:n≤10):∀ (k p q:Nat),p + k=n→k < q→LF 60 (cxF T (OrL.k [(59,qUU js ms n m),(60,qUX js ms n m)]) 60 31 (ntmF T 31)) (ckF T (OrL.k [(59,qUU js ms n m),(60,qUX js ms n m)]) 60) (qY T 31 [0,1,0,1,1]) ((cxF T (OrL.k [(59,qUU js ms n m),(60,qUX js ms n m)]) 60 31 (ntmF T 31)).T.hint (cxF T (OrL.k [(59,qUU js ms n m),(60,qUX js ms n m)]) 60 31 (ntmF T 31)).me (zJ (qY T 31 [0,1,0,1,1]))) K q (hK js ms n m p)=(bif decide (jE js n k p=0) then (K (.exit 0) (oK js ms n m)) else (K .ret (rK js ms n m (jE js n k p))))
 | 0,p,q + 1,hp,hq=>by
  refine (rdK (fun σ=>LF 60 (cxF T (OrL.k [(59,qUU js ms n m),(60,qUX js ms n m)]) 60 31 (ntmF T 31)) (ckF T (OrL.k [(59,qUU js ms n m),(60,qUX js ms n m)]) 60) (qY T 31 [0,1,0,1,1]) ((cxF T (OrL.k [(59,qUU js ms n m),(60,qUX js ms n m)]) 60 31 (ntmF T 31)).T.hint (cxF T (OrL.k [(59,qUU js ms n m),(60,qUX js ms n m)]) 60 31 (ntmF T 31)).me (zJ (qY T 31 [0,1,0,1,1]))) K q σ) K js ms n m p).trans ?_;rw [vYK (show ¬ (p:Int) < (n:Int) by omega)];rfl
 | k + 1,p,q + 1,hp,hq=>by
  refine (rdK (fun σ=>LF 60 (cxF T (OrL.k [(59,qUU js ms n m),(60,qUX js ms n m)]) 60 31 (ntmF T 31)) (ckF T (OrL.k [(59,qUU js ms n m),(60,qUX js ms n m)]) 60) (qY T 31 [0,1,0,1,1]) ((cxF T (OrL.k [(59,qUU js ms n m),(60,qUX js ms n m)]) 60 31 (ntmF T 31)).T.hint (cxF T (OrL.k [(59,qUU js ms n m),(60,qUX js ms n m)]) 60 31 (ntmF T 31)).me (zJ (qY T 31 [0,1,0,1,1]))) K q σ) K js ms n m p).trans ?_;rw [vYU (show (p:Int) < (n:Int) by omega),zX (show p < n by omega),kZ (by omega),lpK K js ms n m hn k (p + 1) q (by omega) (by omega),toN,qGD,vYU (show n≤50 by omega)];by_cases hq:jErr js n p=0
  ·simp only [jE,vYU hq,vYY,vYJ,Bool.not_true,vZQ]
  ·simp only [jE,vYK hq,vYY,vYJ,Bool.not_false,vZQ];rfl
set_option maxRecDepth 100000 in
theorem pxK (js:Nat→J) (ms:Nat→Ms) (n m:Nat):qWK T (OrL.k [(59,qUU js ms n m),(60,qUX js ms n m)]) (qJ [([0,1,0,1,1],uQ (hK js ms n m 0) (fun K=>bif decide (10 < (n:Int)) then none else (bif decide (jE js n n 0=0) then (K (.exit 0) (oK js ms n m)) else (K .ret (rK js ms n m (jE js n n 0))))))]) 60 31 [(.a [.lf n (fJ js),.lf m (fM ms)])] =
 bif decide ((n:Int)=0) then some (.v (.n .i64 801),[]) else (bif decide (10 < (n:Int)) then some (.v (.n .i64 801),[]) else (bif gSt (hK js ms n m 0) (hK js ms n m 0) then (bif decide (10 < (n:Int)) then none else (bif decide (jE js n n 0=0) then bif (decide (32 < (m:Int))) then some (.v (.n .i64 808),[])
 else bif (g1 [.lf m (fM ms),.f 61 [] [.c [.lf n (fJ js),.lf m (fM ms)] 0]] && decide (m≤50)) then (bif (!mAll ms n m 0) then some (.v (.n .i64 808),[])
 else some (.v (.n .i64 0),[]))
 else none else some (.v (.n .i64 (jE js n n 0)),[]))) else none)):=by kernel_rfl
theorem zJI (js:Nat→J) (ms:Nat→Ms) (n m:Nat):zQ Tryz.prog 31 [(.a [.lf n (fJ js),.lf m (fM ms)])] (.v (.n .i64 (rErr js ms n m))):=by
 refine uW (N:=60) (LO:=qJ [([0,1,0,1,1],uQ (hK js ms n m 0) (fun K=>bif decide (10 < (n:Int)) then none else (bif decide (jE js n n 0=0) then (K (.exit 0) (oK js ms n m)) else (K .ret (rK js ms n m (jE js n n 0))))))]) qYK jQ (OrL.ok (l:=[(59,qUU js ms n m),(60,qUX js ms n m)]) ⟨ok_o_cjp js ms n m,ok_cfm js ms n m,trivial⟩) (fun p S hp => ?_) ?_
 ·refine qQF (L:=qY T 31) (l:=[([0,1,0,1,1],uQ (hK js ms n m 0) (fun K=>bif decide (10 < (n:Int)) then none else (bif decide (jE js n n 0=0) then (K (.exit 0) (oK js ms n m)) else (K .ret (rK js ms n m (jE js n n 0))))))]) (show AllP _ [([0,1,0,1,1],uQ (hK js ms n m 0) (fun K=>bif decide (10 < (n:Int)) then none else (bif decide (jE js n n 0=0) then (K (.exit 0) (oK js ms n m)) else (K .ret (rK js ms n m (jE js n n 0))))))] from ⟨qYG fun K r hr => ?_,trivial⟩) p S hp;cases hq:decide (10 < (n:Int)) with
  | true=>rw [hq] at hr; cases hr
  | false =>
   rw [hq] at hr;have h10:=vYW hq;exact (lpK K js ms n m (by omega) n 0 60 (by omega) (by omega)).trans hr
 ·refine (pxK js ms n m).trans ?_;unfold rErr;rw [zV,g1_t];by_cases h0:(n:Int)=0
  ·rw [vYU h0]; rfl
  rw [vYK h0];by_cases h10:10 < (n:Int)
  ·rw [vYU h10]; rfl
  rw [vYK h10];by_cases hj:jE js n n 0=0
  ·rw [vYU hj];by_cases h32:32 < (m:Int)
   ·rw [vYU h32]; rfl
   rw [vYK h32,vYU (show m≤50 by omega)];cases mAll ms n m 0 <;> rfl
  ·rw [vYK hj]; rfl
def hQ (js:Nat→J) (ms:Nat→Ms) (n m:Nat) (i:Int):St:=⟨[(1,.p 1 0),(3,.v (.n .i64 i))],[(1,.blk [.v (.lf n (fJ js)),.v (.lf m (fM ms))])]⟩
set_option maxRecDepth 100000 in
theorem rdQ (G:St→Option (Ret × Mem)) (K:Cont) (js:Nat→J) (ms:Nat→Ms) (n m:Nat) (i:Int):qKQ 60 (cxF T (OrL.k [(56,qQH js ms n m)]) 60 28 (ntmF T 28)) (ckF T (OrL.k [(56,qQH js ms n m)]) 60) (qY T 28 [0,1,0,1,1]) (fun e τ=>match e with
 | .normal=>G (qYQ ((cxF T (OrL.k [(56,qQH js ms n m)]) 60 28 (ntmF T 28)).T.hint (cxF T (OrL.k [(56,qQH js ms n m)]) 60 28 (ntmF T 28)).me (zJ (qY T 28 [0,1,0,1,1]))) τ)
 | e=>K e (qZJ ((cxF T (OrL.k [(56,qQH js ms n m)]) 60 28 (ntmF T 28)).T.hint (cxF T (OrL.k [(56,qQH js ms n m)]) 60 28 (ntmF T 28)).me (zJ (qY T 28 [0,1,0,1,1]))) τ)) (hQ js ms n m i) =
 (bif (decide (i < (n:Int))) then (bif (gEq (.lf n (fJ js)) (.lf n (fJ js)) && (inB i n && decide (n≤50))) then (bif (!decide ((jErr js n (i).toNat)=0)) then (K .ret ⟨[(1,.p 1 0),(2,.v (.n .i64 (jErr js n (i).toNat)))],[(1,.blk [.v (.lf n (fJ js)),.v (.lf m (fM ms))])]⟩)
 else (G (hQ js ms n m (vYV .i64 (i + 1)))))
 else none)
 else (K (.exit 0) ⟨[(1,.p 1 0)],[(1,.blk [.v (.lf n (fJ js)),.v (.lf m (fM ms))])]⟩)):=by kernel_rfl
def rQ (js:Nat→J) (ms:Nat→Ms) (n m:Nat) (e:Int):St:=⟨[(1,.p 1 0),(2,.v (.n .i64 e))],[(1,.blk [.v (.lf n (fJ js)),.v (.lf m (fM ms))])]⟩
def oQ (js:Nat→J) (ms:Nat→Ms) (n m:Nat):St:=⟨[(1,.p 1 0)],[(1,.blk [.v (.lf n (fJ js)),.v (.lf m (fM ms))])]⟩
theorem lpQ (K:Cont) (js:Nat→J) (ms:Nat→Ms) (n m:Nat) (hn:n≤10):∀ (k p q:Nat),p + k=n→k < q→LF 60 (cxF T (OrL.k [(56,qQH js ms n m)]) 60 28 (ntmF T 28)) (ckF T (OrL.k [(56,qQH js ms n m)]) 60) (qY T 28 [0,1,0,1,1]) ((cxF T (OrL.k [(56,qQH js ms n m)]) 60 28 (ntmF T 28)).T.hint (cxF T (OrL.k [(56,qQH js ms n m)]) 60 28 (ntmF T 28)).me (zJ (qY T 28 [0,1,0,1,1]))) K q (hQ js ms n m p)=(bif decide (jE js n k p=0) then (K (.exit 0) (oQ js ms n m)) else (K .ret (rQ js ms n m (jE js n k p))))
 | 0,p,q + 1,hp,hq=>by
  refine (rdQ (fun σ=>LF 60 (cxF T (OrL.k [(56,qQH js ms n m)]) 60 28 (ntmF T 28)) (ckF T (OrL.k [(56,qQH js ms n m)]) 60) (qY T 28 [0,1,0,1,1]) ((cxF T (OrL.k [(56,qQH js ms n m)]) 60 28 (ntmF T 28)).T.hint (cxF T (OrL.k [(56,qQH js ms n m)]) 60 28 (ntmF T 28)).me (zJ (qY T 28 [0,1,0,1,1]))) K q σ) K js ms n m p).trans ?_;rw [vYK (show ¬ (p:Int) < (n:Int) by omega)];rfl
 | k + 1,p,q + 1,hp,hq=>by
  refine (rdQ (fun σ=>LF 60 (cxF T (OrL.k [(56,qQH js ms n m)]) 60 28 (ntmF T 28)) (ckF T (OrL.k [(56,qQH js ms n m)]) 60) (qY T 28 [0,1,0,1,1]) ((cxF T (OrL.k [(56,qQH js ms n m)]) 60 28 (ntmF T 28)).T.hint (cxF T (OrL.k [(56,qQH js ms n m)]) 60 28 (ntmF T 28)).me (zJ (qY T 28 [0,1,0,1,1]))) K q σ) K js ms n m p).trans ?_;rw [vYU (show (p:Int) < (n:Int) by omega),zX (show p < n by omega),kZ (by omega),lpQ K js ms n m hn k (p + 1) q (by omega) (by omega),toN,qGD,vYU (show n≤50 by omega)];by_cases hq:jErr js n p=0
  ·simp only [jE,vYU hq,vYY,vYJ,Bool.not_true,vZQ]
  ·simp only [jE,vYK hq,vYY,vYJ,Bool.not_false,vZQ];rfl
def hM (js:Nat→J) (ms:Nat→Ms) (n m:Nat) (i:Int):St:=⟨[(1,.p 1 0),(5,.v (.n .i64 i))],[(1,.blk [.v (.lf n (fJ js)),.v (.lf m (fM ms))])]⟩
def rM (js:Nat→J) (ms:Nat→Ms) (n m:Nat) (i:Int):St:=⟨[(2,.v (.n .i64 808))],[]⟩
def oM (js:Nat→J) (ms:Nat→Ms) (n m:Nat):St:=⟨[],[]⟩
def mTr {α:Type} (n:Nat) (q:Ms) (a b:α):α:=(bif (decide (q.link < 0)) then b else (bif (decide ((n:Int)≤q.link)) then b else (bif (decide (1≤q.mass)) then (bif (decide (q.mass≤65536)) then (bif (decide (q.p.x < (-4194304))) then b else (bif (decide (4194304 < q.p.x)) then b else (bif (decide (q.p.y < (-4194304))) then b else (bif (decide (4194304 < q.p.y)) then b else (bif (decide (q.p.z < (-4194304))) then b else (bif (decide (4194304 < q.p.z)) then b else a)))))) else b) else b)))
theorem mTr_eq {α:Type} (n:Nat) (q:Ms) (a b:α):mTr n q a b=bif mokB n q then a else b:=by
 unfold mTr mokB;by_cases h:MOK n q
 ·have h':=h;obtain ⟨⟨h1,h2⟩,⟨h3,h4⟩,⟨h5,h6⟩,⟨h7,h8⟩,h9,h10⟩:=h';rw [vYU h];simp only [vYY];simp only [Bool.cond_eq_ite,decide_eq_true_eq]
  repeat' split
  all_goals first | rfl | (exfalso; omega)
 ·rw [vYK h];unfold MOK at h;simp only [vYJ];simp only [Bool.cond_eq_ite,decide_eq_true_eq]
  repeat' split
  all_goals first | rfl | (exfalso; omega) | contradiction
set_option maxRecDepth 100000 in
theorem rdM (G:St→Option (Ret × Mem)) (K:Cont) (js:Nat→J) (ms:Nat→Ms) (n m:Nat) (i:Int):qKQ 60 (cxF T (OrL.k [(56,qQH js ms n m)]) 60 28 (ntmF T 28)) (ckF T (OrL.k [(56,qQH js ms n m)]) 60) (qY T 28 [0,1,0,1,1,1,1]) (fun e τ=>match e with
 | .normal=>G (qYQ ((cxF T (OrL.k [(56,qQH js ms n m)]) 60 28 (ntmF T 28)).T.hint (cxF T (OrL.k [(56,qQH js ms n m)]) 60 28 (ntmF T 28)).me (zJ (qY T 28 [0,1,0,1,1,1,1]))) τ)
 | e=>K e (qZJ ((cxF T (OrL.k [(56,qQH js ms n m)]) 60 28 (ntmF T 28)).T.hint (cxF T (OrL.k [(56,qQH js ms n m)]) 60 28 (ntmF T 28)).me (zJ (qY T 28 [0,1,0,1,1,1,1]))) τ)) (hM js ms n m i) =
 bif decide (i < (m:Int)) then (bif inB i m then mTr n (ms i.toNat) (G (hM js ms n m (vYV .i64 (i + 1)))) (K .ret (rM js ms n m 0)) else none) else (K (.exit 2) (oM js ms n m)):=by kernel_rfl
theorem lpM (K:Cont) (js:Nat→J) (ms:Nat→Ms) (n m:Nat) (hm:m≤1000):∀ (k p q:Nat),p + k=m→k < q→LF 60 (cxF T (OrL.k [(56,qQH js ms n m)]) 60 28 (ntmF T 28)) (ckF T (OrL.k [(56,qQH js ms n m)]) 60) (qY T 28 [0,1,0,1,1,1,1]) ((cxF T (OrL.k [(56,qQH js ms n m)]) 60 28 (ntmF T 28)).T.hint (cxF T (OrL.k [(56,qQH js ms n m)]) 60 28 (ntmF T 28)).me (zJ (qY T 28 [0,1,0,1,1,1,1]))) K q (hM js ms n m p)=bif mAll ms n k p then (K (.exit 2) (oM js ms n m)) else (K .ret (rM js ms n m 0))
 | 0,p,q + 1,hp,hq=>by
  refine (rdM (fun σ=>LF 60 (cxF T (OrL.k [(56,qQH js ms n m)]) 60 28 (ntmF T 28)) (ckF T (OrL.k [(56,qQH js ms n m)]) 60) (qY T 28 [0,1,0,1,1,1,1]) ((cxF T (OrL.k [(56,qQH js ms n m)]) 60 28 (ntmF T 28)).T.hint (cxF T (OrL.k [(56,qQH js ms n m)]) 60 28 (ntmF T 28)).me (zJ (qY T 28 [0,1,0,1,1,1,1]))) K q σ) K js ms n m p).trans ?_;rw [vYK (show ¬ (p:Int) < (m:Int) by omega)];rfl
 | k + 1,p,q + 1,hp,hq=>by
  refine (rdM (fun σ=>LF 60 (cxF T (OrL.k [(56,qQH js ms n m)]) 60 28 (ntmF T 28)) (ckF T (OrL.k [(56,qQH js ms n m)]) 60) (qY T 28 [0,1,0,1,1,1,1]) ((cxF T (OrL.k [(56,qQH js ms n m)]) 60 28 (ntmF T 28)).T.hint (cxF T (OrL.k [(56,qQH js ms n m)]) 60 28 (ntmF T 28)).me (zJ (qY T 28 [0,1,0,1,1,1,1]))) K q σ) K js ms n m p).trans ?_;rw [vYU (show (p:Int) < (m:Int) by omega),zX (show p < m by omega),kZ (by omega),lpM K js ms n m hm k (p + 1) q (by omega) (by omega),toN,mTr_eq];by_cases hq:mokB n (ms p)=true
  ·simp only [mAll,hq,vYY,vZW]
  ·rw [Bool.not_eq_true] at hq;simp only [mAll,hq,vYY,vYJ,Bool.false_and]
set_option maxRecDepth 100000 in
theorem pxQ (js:Nat→J) (ms:Nat→Ms) (n m:Nat):qWK T (OrL.k [(56,qQH js ms n m)]) (qJ [([0,1,0,1,1],uQ (hQ js ms n m 0) (fun K=>bif decide (10 < (n:Int)) then none else (bif decide (jE js n n 0=0) then (K (.exit 0) (oQ js ms n m)) else (K .ret (rQ js ms n m (jE js n n 0)))))),([0,1,0,1,1,1,1],uQ (hM js ms n m 0) (fun K=>bif decide (32 < (m:Int)) then none else (bif mAll ms n m 0 then (K (.exit 2) (oM js ms n m)) else (K .ret (rM js ms n m 0)))))]) 60 28 [(.a [.lf n (fJ js),.lf m (fM ms)])] =
 bif decide ((n:Int) < 1) then some (.v (.n .i64 801),[]) else (bif decide (10 < (n:Int)) then some (.v (.n .i64 801),[]) else (bif gSt (hQ js ms n m 0) (hQ js ms n m 0) then (bif decide (10 < (n:Int)) then none else (bif decide (jE js n n 0=0) then (bif decide (32 < (m:Int)) then some (.v (.n .i64 808),[]) else (bif gSt (hM js ms n m 0) (hM js ms n m 0) then (bif decide (32 < (m:Int)) then none else (bif mAll ms n m 0 then some (.v (.n .i64 0),[]) else some (.v (.n .i64 808),[]))) else none)) else some (.v (.n .i64 (jE js n n 0)),[]))) else none)):=by kernel_rfl
theorem zJF (js:Nat→J) (ms:Nat→Ms) (n m:Nat):zQ Tryz.prog 28 [(.a [.lf n (fJ js),.lf m (fM ms)])] (.v (.n .i64 (rErr js ms n m))):=by
 refine uW (N:=60) (LO:=qJ [([0,1,0,1,1],uQ (hQ js ms n m 0) (fun K=>bif decide (10 < (n:Int)) then none else (bif decide (jE js n n 0=0) then (K (.exit 0) (oQ js ms n m)) else (K .ret (rQ js ms n m (jE js n n 0)))))),([0,1,0,1,1,1,1],uQ (hM js ms n m 0) (fun K=>bif decide (32 < (m:Int)) then none else (bif mAll ms n m 0 then (K (.exit 2) (oM js ms n m)) else (K .ret (rM js ms n m 0)))))]) qYK jQ (OrL.ok (l:=[(56,qQH js ms n m)]) ⟨ok_o_cjr js ms n m,trivial⟩) (fun p S hp => ?_) ?_
 ·refine qQF (L:=qY T 28) (l:=[([0,1,0,1,1],uQ (hQ js ms n m 0) (fun K=>bif decide (10 < (n:Int)) then none else (bif decide (jE js n n 0=0) then (K (.exit 0) (oQ js ms n m)) else (K .ret (rQ js ms n m (jE js n n 0)))))),([0,1,0,1,1,1,1],uQ (hM js ms n m 0) (fun K=>bif decide (32 < (m:Int)) then none else (bif mAll ms n m 0 then (K (.exit 2) (oM js ms n m)) else (K .ret (rM js ms n m 0)))))]) (show AllP _ [([0,1,0,1,1],uQ (hQ js ms n m 0) (fun K=>bif decide (10 < (n:Int)) then none else (bif decide (jE js n n 0=0) then (K (.exit 0) (oQ js ms n m)) else (K .ret (rQ js ms n m (jE js n n 0)))))),([0,1,0,1,1,1,1],uQ (hM js ms n m 0) (fun K=>bif decide (32 < (m:Int)) then none else (bif mAll ms n m 0 then (K (.exit 2) (oM js ms n m)) else (K .ret (rM js ms n m 0)))))] from ⟨qYG fun K r hr => ?_,qYG fun K r hr => ?_,trivial⟩) p S hp
  ·cases hq:decide (10 < (n:Int)) with
   | true=>rw [hq] at hr; cases hr
   | false =>
    rw [hq] at hr;have h10:=vYW hq;exact (lpQ K js ms n m (by omega) n 0 60 (by omega) (by omega)).trans hr
  ·cases hq:decide (32 < (m:Int)) with
   | true=>rw [hq] at hr; cases hr
   | false =>
    rw [hq] at hr;have h32:=vYW hq;exact (lpM K js ms n m (by omega) m 0 60 (by omega) (by omega)).trans hr
 ·refine (pxQ js ms n m).trans ?_;unfold rErr;rw [zV,zV,show decide ((n:Int) < 1)=decide ((n:Int)=0) from decide_eq_decide.2 (by omega)];by_cases h0:(n:Int)=0
  ·rw [vYU h0]; rfl
  rw [vYK h0];by_cases h10:10 < (n:Int)
  ·rw [vYU h10]; rfl
  rw [vYK h10];by_cases hj:jE js n n 0=0
  ·rw [vYU hj];by_cases h32:32 < (m:Int)
   ·rw [vYU h32]; rfl
   rw [vYK h32];cases mAll ms n m 0 <;> rfl
  ·rw [vYK hj]; rfl
end Go.Proofs.YtklmegnpfhiibaaGreat.Nc

/- Part 13 of the texts behind the last one: rules and contracts. No condition. -/
import Derived.Test.YtgmbkkkbfbocnaaGreatGS12
open Option renaming bind_eq_some_iff → vQQ
open Option.some renaming injEq → vQZ
open Prod.mk renaming injEq → vQY
open Bool renaming and_eq_true → vQJ
open Go.IntKind renaming wrap → vJJ
namespace Go.Proofs.YtgmbkkkbfbocnaaGreat.Gc
open Go.Rx Rt Go.Sx Go.RowKit Od Na Nb Nc Nx Nf Ga Gb
def shG (sh:Nat→Shp) (n c:Nat):Bool:=allN (fun i:Nat=>decide (shE n (sh i)=0)) c 0
def skG (sk:Nat→Skp) (n d:Nat):Bool:=allN (fun i:Nat=>isLk n (sk i).a && isLk n (sk i).b) d 0
def sErr (js:Nat→J) (ms:Nat→Ms) (sh:Nat→Shp) (sk:Nat→Skp) (n m c d:Nat):Int:=bif decide (rErr js ms n m=0) then (bif decide (24 < (c:Int)) then 901 else bif shG sh n c then (bif decide (64 < (d:Int)) then 903 else bif skG sk n d then 0 else 903) else shE n (sh (Rx.firstK (fun i:Nat=>decide (shE n (sh i)=0)) c 0))) else rErr js ms n m
noncomputable def orSa (js:Nat→J) (ms:Nat→Ms) (_:Nat→Shp) (_:Nat→Skp) (n m c d:Nat):OrS:=orS [(85,o_cr [.a [.lf n (fJ js),.lf m (fM ms)]] (.v (.n .i64 (rErr js ms n m)))),(97,o_cs),(98,o_il)] []
noncomputable def hSa (js:Nat→J) (ms:Nat→Ms) (sh:Nat→Shp) (sk:Nat→Skp) (n m c d:Nat) (i:Int):St:=⟨[(1,.p 1 0),(20,.v (.lf c (fS sh))),(21,.v (.n .i64 (c:Int))),(22,.v (.n .i64 i))],[(1,.blk [.v (.lf n (fJ js)),.v (.lf m (fM ms)),.v (.lf c (fS sh)),.v (.lf d (fK sk))])]⟩
set_option maxRecDepth 100000 in
theorem rdSa (G:St→Option (Ret × Mem)) (K:Cont) (js:Nat→J) (ms:Nat→Ms) (sh:Nat→Shp) (sk:Nat→Skp) (n m c d:Nat) (i:Int):jJ 100 (cxS Tf (orSa js ms sh sk n m c d) 100 50 (ntmF Tf 50)) (evX Tf (orSa js ms sh sk n m c d) 100 50 (ntmF Tf 50)) (qZ []) (qQ Tf 50 [0,1,0,1,1,1]) [0,1,0,1,1,1] (Tf.hint 50 (qJ (qQ Tf 50 [0,1,0,1,1,1]))) K G (hSa js ms sh sk n m c d i) =
 (bif (decide (i < (c:Int))) then (bif (inB i c) then (bif (gF1 ccs ecs (js,ms,sh,sk,n,m,c,d,(sh (i).toNat))) then (bif (!decide ((shE n (sh (i).toNat))=0)) then (K .ret ⟨[(1,.p 1 0),(2,.v (.n .i64 (shE n (sh (i).toNat))))],[(1,.blk [.v (.lf n (fJ js)),.v (.lf m (fM ms)),.v (.lf c (fS sh)),.v (.lf d (fK sk))])]⟩)
 else (G (hSa js ms sh sk n m c d (vJJ .i64 (i + 1)))))
 else none)
 else none)
 else (K (.exit 0) ⟨[(1,.p 1 0)],[(1,.blk [.v (.lf n (fJ js)),.v (.lf m (fM ms)),.v (.lf c (fS sh)),.v (.lf d (fK sk))])]⟩)):=by kernel_rfl
theorem lpSa (K:Cont) (js:Nat→J) (ms:Nat→Ms) (sh:Nat→Shp) (sk:Nat→Skp) (n m c d:Nat) (_:c≤50):LFX 100 (cxS Tf (orSa js ms sh sk n m c d) 100 50 (ntmF Tf 50)) (evX Tf (orSa js ms sh sk n m c d) 100 50 (ntmF Tf 50)) (qZ []) (qQ Tf 50 [0,1,0,1,1,1]) [0,1,0,1,1,1] (Tf.hint 50 (qJ (qQ Tf 50 [0,1,0,1,1,1]))) K 100 (hSa js ms sh sk n m c d 0)=bif (allN (fun i:Nat=>decide (shE n (sh i)=0)) c 0) then (K (.exit 0) ⟨[(1,.p 1 0)],[(1,.blk [.v (.lf n (fJ js)),.v (.lf m (fM ms)),.v (.lf c (fS sh)),.v (.lf d (fK sk))])]⟩) else (K .ret ⟨[(1,.p 1 0),(2,.v (.n .i64 (shE n (sh (((Rx.firstK (fun i:Nat=>decide (shE n (sh i)=0)) c 0:Nat):Int)).toNat))))],[(1,.blk [.v (.lf n (fJ js)),.v (.lf m (fM ms)),.v (.lf c (fS sh)),.v (.lf d (fK sk))])]⟩):=by
 refine (kW (L:=LFX 100 (cxS Tf (orSa js ms sh sk n m c d) 100 50 (ntmF Tf 50)) (evX Tf (orSa js ms sh sk n m c d) 100 50 (ntmF Tf 50)) (qZ []) (qQ Tf 50 [0,1,0,1,1,1]) [0,1,0,1,1,1] (Tf.hint 50 (qJ (qQ Tf 50 [0,1,0,1,1,1]))) K) (stp:=jJ 100 (cxS Tf (orSa js ms sh sk n m c d) 100 50 (ntmF Tf 50)) (evX Tf (orSa js ms sh sk n m c d) 100 50 (ntmF Tf 50)) (qZ []) (qQ Tf 50 [0,1,0,1,1,1]) [0,1,0,1,1,1] (Tf.hint 50 (qJ (qQ Tf 50 [0,1,0,1,1,1]))) K) (fun _ _=>rfl) (fun (i:Nat) (_:Unit)=>hSa js ms sh sk n m c d (i:Int)) (fun _ _=>True) (fun (i:Nat) _=>decide (shE n (sh i)=0)) (fun _ _=>()) (c:=c) (fun _=>(K (.exit 0) ⟨[(1,.p 1 0)],[(1,.blk [.v (.lf n (fJ js)),.v (.lf m (fM ms)),.v (.lf c (fS sh)),.v (.lf d (fK sk))])]⟩)) (fun i _=>(K .ret ⟨[(1,.p 1 0),(2,.v (.n .i64 (shE n (sh ((i:Int)).toNat))))],[(1,.blk [.v (.lf n (fJ js)),.v (.lf m (fM ms)),.v (.lf c (fS sh)),.v (.lf d (fK sk))])]⟩)) (fun G i f hi _ => ?_) (fun _ _ _ _ _=>trivial) (fun G f _ => ?_) c 0 100 () (by omega) (by omega) trivial).trans ((yH _ _ _ _ _).trans (qQV _ _ _ _ _))
 ·refine (rdSa G K js ms sh sk n m c d i).trans ?_;rw [vJQ (show (i:Int) < (c:Int) by omega),kY (by omega),yZ (show i < c by omega),toN,jQ (C:=ccs) (t:=(js,ms,sh,sk,n,m,c,d,sh i)) trivial];cases decide (shE n (sh i)=0) <;> rfl
 ·refine (rdSa G K js ms sh sk n m c d c).trans ?_;rw [vYH (show ¬ (c:Int) < (c:Int) by omega)];rfl
noncomputable def hSb (js:Nat→J) (ms:Nat→Ms) (sh:Nat→Shp) (sk:Nat→Skp) (n m c d:Nat) (i:Int):St:=⟨[(1,.p 1 0),(38,.v (.lf d (fK sk))),(39,.v (.n .i64 (d:Int))),(40,.v (.n .i64 i))],[(1,.blk [.v (.lf n (fJ js)),.v (.lf m (fM ms)),.v (.lf c (fS sh)),.v (.lf d (fK sk))])]⟩
set_option maxRecDepth 100000 in
theorem rdSb (G:St→Option (Ret × Mem)) (K:Cont) (js:Nat→J) (ms:Nat→Ms) (sh:Nat→Shp) (sk:Nat→Skp) (n m c d:Nat) (i:Int):jJ 100 (cxS Tf (orSa js ms sh sk n m c d) 100 50 (ntmF Tf 50)) (evX Tf (orSa js ms sh sk n m c d) 100 50 (ntmF Tf 50)) (qZ []) (qQ Tf 50 [0,1,0,1,1,1,1,1]) [0,1,0,1,1,1,1,1] (Tf.hint 50 (qJ (qQ Tf 50 [0,1,0,1,1,1,1,1]))) K G (hSb js ms sh sk n m c d i) =
 (bif (decide (i < (d:Int))) then (bif (inB i d) then (bif (gF1 cil eil (js,ms,sh,sk,n,m,c,d,(sk (i).toNat).a)) then (bif (isLk n ((sk (i).toNat).a)) then (bif (gF1 cil eil (js,ms,sh,sk,n,m,c,d,(sk (i).toNat).b)) then (bif (isLk n ((sk (i).toNat).b)) then (G (hSb js ms sh sk n m c d (vJJ .i64 (i + 1))))
 else (K .ret ⟨[(2,.v (.n .i64 903))],[]⟩))
 else none)
 else (K .ret ⟨[(2,.v (.n .i64 903))],[]⟩))
 else none)
 else none)
 else (K (.exit 2) ⟨[],[]⟩)):=by kernel_rfl
theorem lpSb (K:Cont) (js:Nat→J) (ms:Nat→Ms) (sh:Nat→Shp) (sk:Nat→Skp) (n m c d:Nat) (_:d≤70):LFX 100 (cxS Tf (orSa js ms sh sk n m c d) 100 50 (ntmF Tf 50)) (evX Tf (orSa js ms sh sk n m c d) 100 50 (ntmF Tf 50)) (qZ []) (qQ Tf 50 [0,1,0,1,1,1,1,1]) [0,1,0,1,1,1,1,1] (Tf.hint 50 (qJ (qQ Tf 50 [0,1,0,1,1,1,1,1]))) K 100 (hSb js ms sh sk n m c d 0)=bif (allN (fun i:Nat=>isLk n (sk i).a && isLk n (sk i).b) d 0) then (K (.exit 2) ⟨[],[]⟩) else (K .ret ⟨[(2,.v (.n .i64 903))],[]⟩):=by
 refine (kW (L:=LFX 100 (cxS Tf (orSa js ms sh sk n m c d) 100 50 (ntmF Tf 50)) (evX Tf (orSa js ms sh sk n m c d) 100 50 (ntmF Tf 50)) (qZ []) (qQ Tf 50 [0,1,0,1,1,1,1,1]) [0,1,0,1,1,1,1,1] (Tf.hint 50 (qJ (qQ Tf 50 [0,1,0,1,1,1,1,1]))) K) (stp:=jJ 100 (cxS Tf (orSa js ms sh sk n m c d) 100 50 (ntmF Tf 50)) (evX Tf (orSa js ms sh sk n m c d) 100 50 (ntmF Tf 50)) (qZ []) (qQ Tf 50 [0,1,0,1,1,1,1,1]) [0,1,0,1,1,1,1,1] (Tf.hint 50 (qJ (qQ Tf 50 [0,1,0,1,1,1,1,1]))) K) (fun _ _=>rfl) (fun (i:Nat) (_:Unit)=>hSb js ms sh sk n m c d (i:Int)) (fun _ _=>True) (fun (i:Nat) _=>isLk n (sk i).a && isLk n (sk i).b) (fun _ _=>()) (c:=d) (fun _=>(K (.exit 2) ⟨[],[]⟩)) (fun i _=>(K .ret ⟨[(2,.v (.n .i64 903))],[]⟩)) (fun G i f hi _ => ?_) (fun _ _ _ _ _=>trivial) (fun G f _ => ?_) d 0 100 () (by omega) (by omega) trivial).trans ((yH _ _ _ _ _).trans (yW _ _ _ _ _))
 ·refine (rdSb G K js ms sh sk n m c d i).trans ?_;rw [vJQ (show (i:Int) < (d:Int) by omega),kY (by omega),yZ (show i < d by omega),toN,jQ (C:=cil) (t:=(js,ms,sh,sk,n,m,c,d,(sk i).a)) trivial,jQ (C:=cil) (t:=(js,ms,sh,sk,n,m,c,d,(sk i).b)) trivial];cases isLk n (sk i).a <;> cases isLk n (sk i).b <;> rfl
 ·refine (rdSb G K js ms sh sk n m c d d).trans ?_;rw [vYH (show ¬ (d:Int) < (d:Int) by omega)];rfl
noncomputable def kUH (js:Nat→J) (ms:Nat→Ms) (sh:Nat→Shp) (sk:Nat→Skp) (n m c d:Nat):List (List Nat × jG):=[([0,1,0,1,1,1],sumF (fun _:Unit=>(hSa js ms sh sk n m c d 0)) (fun _=>()) (fun _ K=>(bif (decide (c≤50)) then (bif (allN (fun i:Nat=>decide (shE n (sh i)=0)) c 0) then (K (.exit 0) ⟨[(1,.p 1 0)],[(1,.blk [.v (.lf n (fJ js)),.v (.lf m (fM ms)),.v (.lf c (fS sh)),.v (.lf d (fK sk))])]⟩) else (K .ret ⟨[(1,.p 1 0),(2,.v (.n .i64 (shE n (sh (((Rx.firstK (fun i:Nat=>decide (shE n (sh i)=0)) c 0:Nat):Int)).toNat))))],[(1,.blk [.v (.lf n (fJ js)),.v (.lf m (fM ms)),.v (.lf c (fS sh)),.v (.lf d (fK sk))])]⟩)) else none))),([0,1,0,1,1,1,1,1],sumF (fun _:Unit=>(hSb js ms sh sk n m c d 0)) (fun _=>()) (fun _ K=>(bif (decide (d≤70)) then (bif (allN (fun i:Nat=>isLk n (sk i).a && isLk n (sk i).b) d 0) then (K (.exit 2) ⟨[],[]⟩) else (K .ret ⟨[(2,.v (.n .i64 903))],[]⟩)) else none)))]
set_option maxRecDepth 100000 in
theorem xGX (js:Nat→J) (ms:Nat→Ms) (sh:Nat→Shp) (sk:Nat→Skp) (n m c d:Nat):uJ Tf (orSa js ms sh sk n m c d) (qZ (kUH js ms sh sk n m c d)) 100 50 [.a [.lf n (fJ js),.lf m (fM ms),.lf c (fS sh),.lf d (fK sk)]] =
 (bif (g1 [.a [.lf n (fJ js),.lf m (fM ms)]]) then (bif (!decide ((rErr js ms n m)=0)) then some (.v (.n .i64 (rErr js ms n m)),[])
 else (bif (decide (24 < (c:Int))) then some (.v (.n .i64 901),[])
 else (bif (gSt (hSa js ms sh sk n m c d 0) (hSa js ms sh sk n m c d 0)) then (bif (decide (c≤50)) then (bif (allN (fun i:Nat=>decide (shE n (sh i)=0)) c 0) then (bif (decide (64 < (d:Int))) then some (.v (.n .i64 903),[])
 else (bif (gSt (hSb js ms sh sk n m c d 0) (hSb js ms sh sk n m c d 0)) then (bif (decide (d≤70)) then (bif (allN (fun i:Nat=>isLk n (sk i).a && isLk n (sk i).b) d 0) then some (.v (.n .i64 0),[])
 else some (.v (.n .i64 903),[]))
 else none)
 else none))
 else some (.v (.n .i64 (shE n (sh (((Rx.firstK (fun i:Nat=>decide (shE n (sh i)=0)) c 0:Nat):Int)).toNat))),[]))
 else none)
 else none)))
 else none):=by kernel_rfl
theorem uZJ (js:Nat→J) (ms:Nat→Ms) (sh:Nat→Shp) (sk:Nat→Skp) (n m c d:Nat):yK Tryz.prog 50 [.a [.lf n (fJ js),.lf m (fM ms),.lf c (fS sh),.lf d (fK sk)]] (.v (.n .i64 (sErr js ms sh sk n m c d))):=by
 refine zZ (N:=100) (LO:=qZ (kUH js ms sh sk n m c d)) jU zW (jW (l:=[(85,o_cr [.a [.lf n (fJ js),.lf m (fM ms)]] (.v (.n .i64 (rErr js ms n m)))),(97,o_cs),(98,o_il)]) (m:=[]) ⟨zVL (jJB js ms n m),fZW,xYV,trivial⟩ trivial) (fun p S hp => ?_) ?_
 ·refine qH (L:=qQ Tf 50) (l:=(kUH js ms sh sk n m c d)) (show AllP _ (kUH js ms sh sk n m c d) from ⟨?_,?_,trivial⟩) p S hp
  ·dsimp only;refine jY (T:=Tf) (o:=(orSa js ms sh sk n m c d)) (f:=50) (LO:=qZ []) (p:=[0,1,0,1,1,1]) kK ?_;intro t K r hr;obtain ⟨hg,hr⟩:=qY hr;have hc:=vJZ hg;exact (lpSa K js ms sh sk n m c d hc).trans hr
  ·dsimp only;refine jY (T:=Tf) (o:=(orSa js ms sh sk n m c d)) (f:=50) (LO:=qZ []) (p:=[0,1,0,1,1,1,1,1]) kK ?_;intro t K r hr;obtain ⟨hg,hr⟩:=qY hr;have hd:=vJZ hg;exact (lpSb K js ms sh sk n m c d hd).trans hr
 ·refine (xGX js ms sh sk n m c d).trans ?_;unfold sErr shG skG;rw [g1_t];by_cases h:rErr js ms n m=0
  ·rw [vJQ h];by_cases hc:24 < (c:Int)
   ·rw [vJQ hc]; rfl
   rw [vYH hc,yU,vJQ (show c≤50 by omega)];cases allN (fun i:Nat=>decide (shE n (sh i)=0)) c 0 with
   | false=>simp only [Bool.not_true,Bool.not_false,vYV,vYG,toN]
   | true =>
    by_cases hd:64 < (d:Int)
    ·rw [vJQ hd]; rfl
    rw [vYH hd,yU,vJQ (show d≤70 by omega)];cases allN (fun i:Nat=>isLk n (sk i).a && isLk n (sk i).b) d 0 <;> rfl
  ·rw [vYH h]; rfl
noncomputable def orRo (js:Nat→J) (ms:Nat→Ms) (_:Nat→Shp) (_:Nat→Skp) (n m c d:Nat):OrS:=orS [(65,o_cr [.a [.lf n (fJ js),.lf m (fM ms)]] (.v (.n .i64 (rErr js ms n m)))),(104,o_ir),(105,o_bt),(57,o_nr)] []
noncomputable def hRi (js:Nat→J) (ms:Nat→Ms) (sh:Nat→Shp) (sk:Nat→Skp) (n m c d:Nat) (i:Int) (s:Shp) (k:Int):St:=⟨[(1,.p 1 0),(4,.v (.n .i64 i)),(5,.p 5 0),(6,.v (.n .i64 k))],[(1,.blk [.v (.lf n (fJ js)),.v (.lf m (fM ms)),.v (.lf c (fS sh)),.v (.lf d (fK sk))]),(5,.blk [.v (.n .i64 s.link),.v (.n .i64 s.rad),.v (.lf s.np (fZ s.pts))])]⟩
set_option maxRecDepth 100000 in
theorem rdRi (G:St→Option (Ret × Mem)) (K:Cont) (js:Nat→J) (ms:Nat→Ms) (sh:Nat→Shp) (sk:Nat→Skp) (n m c d:Nat) (i:Int) (s:Shp) (k:Int):jJ 100 (cxS Tf (orRo js ms sh sk n m c d) 100 56 (ntmF Tf 56)) (evX Tf (orRo js ms sh sk n m c d) 100 56 (ntmF Tf 56)) (qZ []) (qQ Tf 56 [0,1,1,1,0,0,1,0,0,1,0,1,1,1]) [0,1,1,1,0,0,1,0,0,1,0,1,1,1] (Tf.hint 56 (qJ (qQ Tf 56 [0,1,1,1,0,0,1,0,0,1,0,1,1,1]))) K G (hRi js ms sh sk n m c d i s k) =
 (bif (decide (k < (s.np:Int))) then (bif (inB k s.np) then (bif (gF1 cnr enr (s.pts (k).toNat)) then (bif (zOk 4194304 (s.pts (k).toNat)) then (G (hRi js ms sh sk n m c d i s (vJJ .i64 (k + 1))))
 else (K .ret ⟨[(1,.p 1 0),(2,.v (.n .i64 805)),(4,.v (.n .i64 i))],[(1,.blk [.v (.lf n (fJ js)),.v (.lf m (fM ms)),.v (.lf c (fS sh)),.v (.lf d (fK sk))])]⟩))
 else none)
 else none)
 else (K (.exit 2) ⟨[(1,.p 1 0),(4,.v (.n .i64 i))],[(1,.blk [.v (.lf n (fJ js)),.v (.lf m (fM ms)),.v (.lf c (fS sh)),.v (.lf d (fK sk))])]⟩)):=by kernel_rfl
theorem lpRi (K:Cont) (js:Nat→J) (ms:Nat→Ms) (sh:Nat→Shp) (sk:Nat→Skp) (n m c d:Nat) (i:Int) (s:Shp) (_:s.np≤50):LFX 100 (cxS Tf (orRo js ms sh sk n m c d) 100 56 (ntmF Tf 56)) (evX Tf (orRo js ms sh sk n m c d) 100 56 (ntmF Tf 56)) (qZ []) (qQ Tf 56 [0,1,1,1,0,0,1,0,0,1,0,1,1,1]) [0,1,1,1,0,0,1,0,0,1,0,1,1,1] (Tf.hint 56 (qJ (qQ Tf 56 [0,1,1,1,0,0,1,0,0,1,0,1,1,1]))) K 100 (hRi js ms sh sk n m c d i s 0)=bif (allN (fun k:Nat=>zOk 4194304 (s.pts k)) s.np 0) then (K (.exit 2) ⟨[(1,.p 1 0),(4,.v (.n .i64 i))],[(1,.blk [.v (.lf n (fJ js)),.v (.lf m (fM ms)),.v (.lf c (fS sh)),.v (.lf d (fK sk))])]⟩) else (K .ret ⟨[(1,.p 1 0),(2,.v (.n .i64 805)),(4,.v (.n .i64 i))],[(1,.blk [.v (.lf n (fJ js)),.v (.lf m (fM ms)),.v (.lf c (fS sh)),.v (.lf d (fK sk))])]⟩):=by
 refine (kW (L:=LFX 100 (cxS Tf (orRo js ms sh sk n m c d) 100 56 (ntmF Tf 56)) (evX Tf (orRo js ms sh sk n m c d) 100 56 (ntmF Tf 56)) (qZ []) (qQ Tf 56 [0,1,1,1,0,0,1,0,0,1,0,1,1,1]) [0,1,1,1,0,0,1,0,0,1,0,1,1,1] (Tf.hint 56 (qJ (qQ Tf 56 [0,1,1,1,0,0,1,0,0,1,0,1,1,1]))) K) (stp:=jJ 100 (cxS Tf (orRo js ms sh sk n m c d) 100 56 (ntmF Tf 56)) (evX Tf (orRo js ms sh sk n m c d) 100 56 (ntmF Tf 56)) (qZ []) (qQ Tf 56 [0,1,1,1,0,0,1,0,0,1,0,1,1,1]) [0,1,1,1,0,0,1,0,0,1,0,1,1,1] (Tf.hint 56 (qJ (qQ Tf 56 [0,1,1,1,0,0,1,0,0,1,0,1,1,1]))) K) (fun _ _=>rfl) (fun (k:Nat) (_:Unit)=>hRi js ms sh sk n m c d i s (k:Int)) (fun _ _=>True) (fun (k:Nat) _=>zOk 4194304 (s.pts k)) (fun _ _=>()) (c:=s.np) (fun _=>(K (.exit 2) ⟨[(1,.p 1 0),(4,.v (.n .i64 i))],[(1,.blk [.v (.lf n (fJ js)),.v (.lf m (fM ms)),.v (.lf c (fS sh)),.v (.lf d (fK sk))])]⟩)) (fun k _=>(K .ret ⟨[(1,.p 1 0),(2,.v (.n .i64 805)),(4,.v (.n .i64 i))],[(1,.blk [.v (.lf n (fJ js)),.v (.lf m (fM ms)),.v (.lf c (fS sh)),.v (.lf d (fK sk))])]⟩)) (fun G k f hi _ => ?_) (fun _ _ _ _ _=>trivial) (fun G f _ => ?_) (s.np) 0 100 () (by omega) (by omega) trivial).trans ((yH _ _ _ _ _).trans (yW _ _ _ _ _))
 ·refine (rdRi G K js ms sh sk n m c d i s k).trans ?_;rw [vJQ (show (k:Int) < (s.np:Int) by omega),kY (by omega),yZ (show k < s.np by omega),toN,jQ (C:=cnr) (t:=s.pts k) trivial];cases zOk 4194304 (s.pts k) <;> rfl
 ·refine (rdRi G K js ms sh sk n m c d i s (s.np:Int)).trans ?_;rw [vYH (show ¬ (s.np:Int) < (s.np:Int) by omega)];rfl
def bkS (σ:St) (k:Nat):Shp:=match yJ σ.M k with
 | some (.blk [.v (.n _ l),.v (.n _ r),.v (.lf n f)])=>⟨l,r,n,unFZ f⟩
 | _=>⟨0,0,0,fun _=>⟨0,0,0⟩⟩
theorem okRi (js:Nat→J) (ms:Nat→Ms) (sh:Nat→Shp) (sk:Nat→Skp) (n m c d:Nat):∀ p S,qZ [([0,1,1,1,0,0,1,0,0,1,0,1,1,1],sumF (fun t:Int × Shp=>(hRi js ms sh sk n m c d t.1 t.2 0)) (fun σ=>(slI σ 4,bkS σ 5)) (fun t K=>(bif (decide (t.2.np≤50)) then (bif (allN (fun k:Nat=>zOk 4194304 (t.2.pts k)) t.2.np 0) then (K (.exit 2) ⟨[(1,.p 1 0),(4,.v (.n .i64 t.1))],[(1,.blk [.v (.lf n (fJ js)),.v (.lf m (fM ms)),.v (.lf c (fS sh)),.v (.lf d (fK sk))])]⟩) else (K .ret ⟨[(1,.p 1 0),(2,.v (.n .i64 805)),(4,.v (.n .i64 t.1))],[(1,.blk [.v (.lf n (fJ js)),.v (.lf m (fM ms)),.v (.lf c (fS sh)),.v (.lf d (fK sk))])]⟩)) else none)))] p=some S→qQF 100 (cxS Tf (orRo js ms sh sk n m c d) 100 56 (ntmF Tf 56)) (qQ Tf 56 p) S:=fun p S hp=>by
 refine qH (L:=qQ Tf 56) (l:=[([0,1,1,1,0,0,1,0,0,1,0,1,1,1],sumF (fun t:Int × Shp=>(hRi js ms sh sk n m c d t.1 t.2 0)) (fun σ=>(slI σ 4,bkS σ 5)) (fun t K=>(bif (decide (t.2.np≤50)) then (bif (allN (fun k:Nat=>zOk 4194304 (t.2.pts k)) t.2.np 0) then (K (.exit 2) ⟨[(1,.p 1 0),(4,.v (.n .i64 t.1))],[(1,.blk [.v (.lf n (fJ js)),.v (.lf m (fM ms)),.v (.lf c (fS sh)),.v (.lf d (fK sk))])]⟩) else (K .ret ⟨[(1,.p 1 0),(2,.v (.n .i64 805)),(4,.v (.n .i64 t.1))],[(1,.blk [.v (.lf n (fJ js)),.v (.lf m (fM ms)),.v (.lf c (fS sh)),.v (.lf d (fK sk))])]⟩)) else none)))]) ⟨?_,trivial⟩ p S hp;dsimp only;refine jY (T:=Tf) (o:=(orRo js ms sh sk n m c d)) (f:=56) (LO:=qZ []) (p:=[0,1,1,1,0,0,1,0,0,1,0,1,1,1]) kK ?_;intro t K r hr;obtain ⟨hg,hr⟩:=qY hr
 skip
 exact (lpRi K js ms sh sk n m c d t.1 t.2 (vJZ hg)).trans hr
noncomputable def hRo (js:Nat→J) (ms:Nat→Ms) (sh:Nat→Shp) (sk:Nat→Skp) (n m c d:Nat) (i:Int):St:=⟨[(1,.p 1 0),(4,.v (.n .i64 i))],[(1,.blk [.v (.lf n (fJ js)),.v (.lf m (fM ms)),.v (.lf c (fS sh)),.v (.lf d (fK sk))])]⟩
set_option maxRecDepth 100000 in
theorem rdRo (G:St→Option (Ret × Mem)) (K:Cont) (js:Nat→J) (ms:Nat→Ms) (sh:Nat→Shp) (sk:Nat→Skp) (n m c d:Nat) (i:Int):jJ 100 (cxS Tf (orRo js ms sh sk n m c d) 100 56 (ntmF Tf 56)) (evX Tf (orRo js ms sh sk n m c d) 100 56 (ntmF Tf 56)) (qZ [([0,1,1,1,0,0,1,0,0,1,0,1,1,1],sumF (fun t:Int × Shp=>(hRi js ms sh sk n m c d t.1 t.2 0)) (fun σ=>(slI σ 4,bkS σ 5)) (fun t K=>(bif (decide (t.2.np≤50)) then (bif (allN (fun k:Nat=>zOk 4194304 (t.2.pts k)) t.2.np 0) then (K (.exit 2) ⟨[(1,.p 1 0),(4,.v (.n .i64 t.1))],[(1,.blk [.v (.lf n (fJ js)),.v (.lf m (fM ms)),.v (.lf c (fS sh)),.v (.lf d (fK sk))])]⟩) else (K .ret ⟨[(1,.p 1 0),(2,.v (.n .i64 805)),(4,.v (.n .i64 t.1))],[(1,.blk [.v (.lf n (fJ js)),.v (.lf m (fM ms)),.v (.lf c (fS sh)),.v (.lf d (fK sk))])]⟩)) else none)))]) (qQ Tf 56 [0,1,0,1,1,1]) [0,1,0,1,1,1] (Tf.hint 56 (qJ (qQ Tf 56 [0,1,0,1,1,1]))) K G (hRo js ms sh sk n m c d i) =
 (bif (decide (i < (c:Int))) then (bif (inB i c) then (bif (gF1 cir eir (js,ms,n,m,(sh (i).toNat).link)) then (bif (isLk n ((sh (i).toNat).link)) then (bif (gF1 cbt ebt (((sh (i).toNat).rad),1,1048576)) then (bif (decide (1≤((sh (i).toNat).rad)) && decide (((sh (i).toNat).rad)≤1048576)) then (bif (decide (((sh (i).toNat).np:Int) < 1)) then (K .ret ⟨[(1,.p 1 0),(2,.v (.n .i64 902))],[(1,.blk [.v (.lf n (fJ js)),.v (.lf m (fM ms)),.v (.lf c (fS sh)),.v (.lf d (fK sk))])]⟩)
 else (bif (decide (8 < ((sh (i).toNat).np:Int))) then (K .ret ⟨[(1,.p 1 0),(2,.v (.n .i64 902))],[(1,.blk [.v (.lf n (fJ js)),.v (.lf m (fM ms)),.v (.lf c (fS sh)),.v (.lf d (fK sk))])]⟩)
 else (bif (gSt (hRi js ms sh sk n m c d i (sh (i).toNat) 0) (hRi js ms sh sk n m c d i (sh (i).toNat) 0)) then (bif (decide ((sh (i).toNat).np≤50)) then (bif (allN (fun k:Nat=>zOk 4194304 ((sh (i).toNat).pts k)) (sh (i).toNat).np 0) then (G (hRo js ms sh sk n m c d (vJJ .i64 (i + 1))))
 else (K .ret ⟨[(1,.p 1 0),(2,.v (.n .i64 805))],[(1,.blk [.v (.lf n (fJ js)),.v (.lf m (fM ms)),.v (.lf c (fS sh)),.v (.lf d (fK sk))])]⟩))
 else none)
 else none)))
 else (K .ret ⟨[(1,.p 1 0),(2,.v (.n .i64 902))],[(1,.blk [.v (.lf n (fJ js)),.v (.lf m (fM ms)),.v (.lf c (fS sh)),.v (.lf d (fK sk))])]⟩))
 else none)
 else (K .ret ⟨[(1,.p 1 0),(2,.v (.n .i64 902))],[(1,.blk [.v (.lf n (fJ js)),.v (.lf m (fM ms)),.v (.lf c (fS sh)),.v (.lf d (fK sk))])]⟩))
 else none)
 else none)
 else (K (.exit 0) ⟨[(1,.p 1 0)],[(1,.blk [.v (.lf n (fJ js)),.v (.lf m (fM ms)),.v (.lf c (fS sh)),.v (.lf d (fK sk))])]⟩)):=by kernel_rfl
theorem nle (a b:Int):decide (a≤b) = !decide (b < a):=by by_cases h:b < a <;> simp [h] <;> omega
theorem lpRo (K:Cont) (js:Nat→J) (ms:Nat→Ms) (sh:Nat→Shp) (sk:Nat→Skp) (n m c d:Nat) (_:c≤50):LFX 100 (cxS Tf (orRo js ms sh sk n m c d) 100 56 (ntmF Tf 56)) (evX Tf (orRo js ms sh sk n m c d) 100 56 (ntmF Tf 56)) (qZ [([0,1,1,1,0,0,1,0,0,1,0,1,1,1],sumF (fun t:Int × Shp=>(hRi js ms sh sk n m c d t.1 t.2 0)) (fun σ=>(slI σ 4,bkS σ 5)) (fun t K=>(bif (decide (t.2.np≤50)) then (bif (allN (fun k:Nat=>zOk 4194304 (t.2.pts k)) t.2.np 0) then (K (.exit 2) ⟨[(1,.p 1 0),(4,.v (.n .i64 t.1))],[(1,.blk [.v (.lf n (fJ js)),.v (.lf m (fM ms)),.v (.lf c (fS sh)),.v (.lf d (fK sk))])]⟩) else (K .ret ⟨[(1,.p 1 0),(2,.v (.n .i64 805)),(4,.v (.n .i64 t.1))],[(1,.blk [.v (.lf n (fJ js)),.v (.lf m (fM ms)),.v (.lf c (fS sh)),.v (.lf d (fK sk))])]⟩)) else none)))]) (qQ Tf 56 [0,1,0,1,1,1]) [0,1,0,1,1,1] (Tf.hint 56 (qJ (qQ Tf 56 [0,1,0,1,1,1]))) K 100 (hRo js ms sh sk n m c d 0)=bif shG sh n c then (K (.exit 0) ⟨[(1,.p 1 0)],[(1,.blk [.v (.lf n (fJ js)),.v (.lf m (fM ms)),.v (.lf c (fS sh)),.v (.lf d (fK sk))])]⟩) else (K .ret ⟨[(1,.p 1 0),(2,.v (.n .i64 (shE n (sh (Rx.firstK (fun i:Nat=>decide (shE n (sh i)=0)) c 0)))))],[(1,.blk [.v (.lf n (fJ js)),.v (.lf m (fM ms)),.v (.lf c (fS sh)),.v (.lf d (fK sk))])]⟩):=by
 refine (kW (L:=LFX 100 (cxS Tf (orRo js ms sh sk n m c d) 100 56 (ntmF Tf 56)) (evX Tf (orRo js ms sh sk n m c d) 100 56 (ntmF Tf 56)) (qZ [([0,1,1,1,0,0,1,0,0,1,0,1,1,1],sumF (fun t:Int × Shp=>(hRi js ms sh sk n m c d t.1 t.2 0)) (fun σ=>(slI σ 4,bkS σ 5)) (fun t K=>(bif (decide (t.2.np≤50)) then (bif (allN (fun k:Nat=>zOk 4194304 (t.2.pts k)) t.2.np 0) then (K (.exit 2) ⟨[(1,.p 1 0),(4,.v (.n .i64 t.1))],[(1,.blk [.v (.lf n (fJ js)),.v (.lf m (fM ms)),.v (.lf c (fS sh)),.v (.lf d (fK sk))])]⟩) else (K .ret ⟨[(1,.p 1 0),(2,.v (.n .i64 805)),(4,.v (.n .i64 t.1))],[(1,.blk [.v (.lf n (fJ js)),.v (.lf m (fM ms)),.v (.lf c (fS sh)),.v (.lf d (fK sk))])]⟩)) else none)))]) (qQ Tf 56 [0,1,0,1,1,1]) [0,1,0,1,1,1] (Tf.hint 56 (qJ (qQ Tf 56 [0,1,0,1,1,1]))) K) (stp:=jJ 100 (cxS Tf (orRo js ms sh sk n m c d) 100 56 (ntmF Tf 56)) (evX Tf (orRo js ms sh sk n m c d) 100 56 (ntmF Tf 56)) (qZ [([0,1,1,1,0,0,1,0,0,1,0,1,1,1],sumF (fun t:Int × Shp=>(hRi js ms sh sk n m c d t.1 t.2 0)) (fun σ=>(slI σ 4,bkS σ 5)) (fun t K=>(bif (decide (t.2.np≤50)) then (bif (allN (fun k:Nat=>zOk 4194304 (t.2.pts k)) t.2.np 0) then (K (.exit 2) ⟨[(1,.p 1 0),(4,.v (.n .i64 t.1))],[(1,.blk [.v (.lf n (fJ js)),.v (.lf m (fM ms)),.v (.lf c (fS sh)),.v (.lf d (fK sk))])]⟩) else (K .ret ⟨[(1,.p 1 0),(2,.v (.n .i64 805)),(4,.v (.n .i64 t.1))],[(1,.blk [.v (.lf n (fJ js)),.v (.lf m (fM ms)),.v (.lf c (fS sh)),.v (.lf d (fK sk))])]⟩)) else none)))]) (qQ Tf 56 [0,1,0,1,1,1]) [0,1,0,1,1,1] (Tf.hint 56 (qJ (qQ Tf 56 [0,1,0,1,1,1]))) K) (fun _ _=>rfl) (fun (i:Nat) (_:Unit)=>hRo js ms sh sk n m c d (i:Int)) (fun _ _=>True) (fun (i:Nat) _=>decide (shE n (sh i)=0)) (fun _ _=>()) (c:=c) (fun _=>(K (.exit 0) ⟨[(1,.p 1 0)],[(1,.blk [.v (.lf n (fJ js)),.v (.lf m (fM ms)),.v (.lf c (fS sh)),.v (.lf d (fK sk))])]⟩)) (fun i _=>(K .ret ⟨[(1,.p 1 0),(2,.v (.n .i64 (shE n (sh i))))],[(1,.blk [.v (.lf n (fJ js)),.v (.lf m (fM ms)),.v (.lf c (fS sh)),.v (.lf d (fK sk))])]⟩)) (fun G i f hi _ => ?_) (fun _ _ _ _ _=>trivial) (fun G f _ => ?_) c 0 100 () (by omega) (by omega) trivial).trans ((yH _ _ _ _ _).trans (qQV _ _ _ _ _))
 ·refine (rdRo G K js ms sh sk n m c d i).trans ?_;rw [vJQ (show (i:Int) < (c:Int) by omega),yZ (show i < c by omega),toN,kY (by omega),jQ (C:=cir) (t:=(js,ms,n,m,(sh i).link)) trivial,jQ (C:=cbt) (t:=((sh i).rad,1,1048576)) trivial,yU,nle 1,nle _ 1048576];unfold shE zKQ;by_cases h:8 < ((sh i).np:Int)
  ·rw [vJQ h];cases isLk n (sh i).link <;> cases decide ((sh i).rad < 1) <;> cases decide (1048576 < (sh i).rad) <;> cases decide (((sh i).np:Int) < 1) <;> rfl
  ·rw [vYH h,vJQ (show (sh i).np≤50 by omega)];cases isLk n (sh i).link <;> cases decide ((sh i).rad < 1) <;> cases decide (1048576 < (sh i).rad) <;> cases decide (((sh i).np:Int) < 1) <;> cases allN (fun k:Nat=>zOk 4194304 ((sh i).pts k)) (sh i).np 0 <;> rfl
 ·refine (rdRo G K js ms sh sk n m c d (c:Int)).trans ?_;rw [vYH (show ¬ (c:Int) < (c:Int) by omega)];rfl
noncomputable def hRs (js:Nat→J) (ms:Nat→Ms) (sh:Nat→Shp) (sk:Nat→Skp) (n m c d:Nat) (i:Int):St:=⟨[(1,.p 1 0),(7,.v (.n .i64 i))],[(1,.blk [.v (.lf n (fJ js)),.v (.lf m (fM ms)),.v (.lf c (fS sh)),.v (.lf d (fK sk))])]⟩
set_option maxRecDepth 100000 in
theorem rdRs (G:St→Option (Ret × Mem)) (K:Cont) (js:Nat→J) (ms:Nat→Ms) (sh:Nat→Shp) (sk:Nat→Skp) (n m c d:Nat) (i:Int):jJ 100 (cxS Tf (orRo js ms sh sk n m c d) 100 56 (ntmF Tf 56)) (evX Tf (orRo js ms sh sk n m c d) 100 56 (ntmF Tf 56)) (qZ []) (qQ Tf 56 [0,1,0,1,1,1,1,1]) [0,1,0,1,1,1,1,1] (Tf.hint 56 (qJ (qQ Tf 56 [0,1,0,1,1,1,1,1]))) K G (hRs js ms sh sk n m c d i) =
 (bif (decide (i < (d:Int))) then (bif (inB i d) then (bif (gF1 cir eir (js,ms,n,m,(sk (i).toNat).a)) then (bif (isLk n ((sk (i).toNat).a)) then (bif (inB i d) then (bif (gF1 cir eir (js,ms,n,m,(sk (i).toNat).b)) then (bif (isLk n ((sk (i).toNat).b)) then (G (hRs js ms sh sk n m c d (vJJ .i64 (i + 1))))
 else (K .ret ⟨[(2,.v (.n .i64 903))],[]⟩))
 else none)
 else none)
 else (K .ret ⟨[(2,.v (.n .i64 903))],[]⟩))
 else none)
 else none)
 else (K (.exit 4) ⟨[],[]⟩)):=by kernel_rfl
theorem lpRs (K:Cont) (js:Nat→J) (ms:Nat→Ms) (sh:Nat→Shp) (sk:Nat→Skp) (n m c d:Nat) (_:d≤70):LFX 100 (cxS Tf (orRo js ms sh sk n m c d) 100 56 (ntmF Tf 56)) (evX Tf (orRo js ms sh sk n m c d) 100 56 (ntmF Tf 56)) (qZ []) (qQ Tf 56 [0,1,0,1,1,1,1,1]) [0,1,0,1,1,1,1,1] (Tf.hint 56 (qJ (qQ Tf 56 [0,1,0,1,1,1,1,1]))) K 100 (hRs js ms sh sk n m c d 0)=bif (allN (fun i:Nat=>isLk n (sk i).a && isLk n (sk i).b) d 0) then (K (.exit 4) ⟨[],[]⟩) else (K .ret ⟨[(2,.v (.n .i64 903))],[]⟩):=by
 refine (kW (L:=LFX 100 (cxS Tf (orRo js ms sh sk n m c d) 100 56 (ntmF Tf 56)) (evX Tf (orRo js ms sh sk n m c d) 100 56 (ntmF Tf 56)) (qZ []) (qQ Tf 56 [0,1,0,1,1,1,1,1]) [0,1,0,1,1,1,1,1] (Tf.hint 56 (qJ (qQ Tf 56 [0,1,0,1,1,1,1,1]))) K) (stp:=jJ 100 (cxS Tf (orRo js ms sh sk n m c d) 100 56 (ntmF Tf 56)) (evX Tf (orRo js ms sh sk n m c d) 100 56 (ntmF Tf 56)) (qZ []) (qQ Tf 56 [0,1,0,1,1,1,1,1]) [0,1,0,1,1,1,1,1] (Tf.hint 56 (qJ (qQ Tf 56 [0,1,0,1,1,1,1,1]))) K) (fun _ _=>rfl) (fun (i:Nat) (_:Unit)=>hRs js ms sh sk n m c d (i:Int)) (fun _ _=>True) (fun (i:Nat) _=>isLk n (sk i).a && isLk n (sk i).b) (fun _ _=>()) (c:=d) (fun _=>(K (.exit 4) ⟨[],[]⟩)) (fun i _=>(K .ret ⟨[(2,.v (.n .i64 903))],[]⟩)) (fun G i f hi _ => ?_) (fun _ _ _ _ _=>trivial) (fun G f _ => ?_) d 0 100 () (by omega) (by omega) trivial).trans ((yH _ _ _ _ _).trans (yW _ _ _ _ _))
 ·refine (rdRs G K js ms sh sk n m c d i).trans ?_;rw [vJQ (show (i:Int) < (d:Int) by omega),kY (by omega),yZ (show i < d by omega),toN,jQ (C:=cir) (t:=(js,ms,n,m,(sk i).a)) trivial,jQ (C:=cir) (t:=(js,ms,n,m,(sk i).b)) trivial];cases isLk n (sk i).a <;> cases isLk n (sk i).b <;> rfl
 ·refine (rdRs G K js ms sh sk n m c d d).trans ?_;rw [vYH (show ¬ (d:Int) < (d:Int) by omega)];rfl
noncomputable def kUD (js:Nat→J) (ms:Nat→Ms) (sh:Nat→Shp) (sk:Nat→Skp) (n m c d:Nat):List (List Nat × jG):=[([0,1,0,1,1,1],sumF (fun _:Unit=>(hRo js ms sh sk n m c d 0)) (fun _=>()) (fun _ K=>(bif (decide (c≤50)) then (bif shG sh n c then (K (.exit 0) ⟨[(1,.p 1 0)],[(1,.blk [.v (.lf n (fJ js)),.v (.lf m (fM ms)),.v (.lf c (fS sh)),.v (.lf d (fK sk))])]⟩) else (K .ret ⟨[(1,.p 1 0),(2,.v (.n .i64 (shE n (sh (Rx.firstK (fun i:Nat=>decide (shE n (sh i)=0)) c 0)))))],[(1,.blk [.v (.lf n (fJ js)),.v (.lf m (fM ms)),.v (.lf c (fS sh)),.v (.lf d (fK sk))])]⟩)) else none))),([0,1,0,1,1,1,1,1],sumF (fun _:Unit=>(hRs js ms sh sk n m c d 0)) (fun _=>()) (fun _ K=>(bif (decide (d≤70)) then (bif (allN (fun i:Nat=>isLk n (sk i).a && isLk n (sk i).b) d 0) then (K (.exit 4) ⟨[],[]⟩) else (K .ret ⟨[(2,.v (.n .i64 903))],[]⟩)) else none)))]
set_option maxRecDepth 100000 in
theorem xGH (js:Nat→J) (ms:Nat→Ms) (sh:Nat→Shp) (sk:Nat→Skp) (n m c d:Nat):uJ Tf (orRo js ms sh sk n m c d) (qZ (kUD js ms sh sk n m c d)) 100 56 [.a [.lf n (fJ js),.lf m (fM ms),.lf c (fS sh),.lf d (fK sk)]] =
 (bif (g1 [.a [.lf n (fJ js),.lf m (fM ms)]]) then (bif (!decide ((rErr js ms n m)=0)) then some (.v (.n .i64 (rErr js ms n m)),[])
 else (bif (decide (24 < (c:Int))) then some (.v (.n .i64 901),[])
 else (bif (gSt (hRo js ms sh sk n m c d 0) (hRo js ms sh sk n m c d 0)) then (bif (decide (c≤50)) then (bif (shG sh n c) then (bif (decide (64 < (d:Int))) then some (.v (.n .i64 903),[])
 else (bif (gSt (hRs js ms sh sk n m c d 0) (hRs js ms sh sk n m c d 0)) then (bif (decide (d≤70)) then (bif (allN (fun i:Nat=>isLk n (sk i).a && isLk n (sk i).b) d 0) then some (.v (.n .i64 0),[])
 else some (.v (.n .i64 903),[]))
 else none)
 else none))
 else some (.v (.n .i64 (shE n (sh (Rx.firstK (fun i:Nat=>decide (shE n (sh i)=0)) c 0)))),[]))
 else none)
 else none)))
 else none):=by kernel_rfl
theorem uZX (js:Nat→J) (ms:Nat→Ms) (sh:Nat→Shp) (sk:Nat→Skp) (n m c d:Nat):yK Tryz.prog 56 [.a [.lf n (fJ js),.lf m (fM ms),.lf c (fS sh),.lf d (fK sk)]] (.v (.n .i64 (sErr js ms sh sk n m c d))):=by
 refine zZ (N:=100) (LO:=qZ (kUD js ms sh sk n m c d)) jU zW (jW (l:=[(65,o_cr [.a [.lf n (fJ js),.lf m (fM ms)]] (.v (.n .i64 (rErr js ms n m)))),(104,o_ir),(105,o_bt),(57,o_nr)]) (m:=[]) ⟨zVL (yKB js ms n m),fZZ,fZA,xZI,trivial⟩ trivial) (fun p S hp => ?_) ?_
 ·refine qH (L:=qQ Tf 56) (l:=(kUD js ms sh sk n m c d)) (show AllP _ (kUD js ms sh sk n m c d) from ⟨?_,?_,trivial⟩) p S hp
  ·dsimp only;refine jY (T:=Tf) (o:=(orRo js ms sh sk n m c d)) (f:=56) (LO:=(qZ [([0,1,1,1,0,0,1,0,0,1,0,1,1,1],sumF (fun t:Int × Shp=>(hRi js ms sh sk n m c d t.1 t.2 0)) (fun σ=>(slI σ 4,bkS σ 5)) (fun t K=>(bif (decide (t.2.np≤50)) then (bif (allN (fun k:Nat=>zOk 4194304 (t.2.pts k)) t.2.np 0) then (K (.exit 2) ⟨[(1,.p 1 0),(4,.v (.n .i64 t.1))],[(1,.blk [.v (.lf n (fJ js)),.v (.lf m (fM ms)),.v (.lf c (fS sh)),.v (.lf d (fK sk))])]⟩) else (K .ret ⟨[(1,.p 1 0),(2,.v (.n .i64 805)),(4,.v (.n .i64 t.1))],[(1,.blk [.v (.lf n (fJ js)),.v (.lf m (fM ms)),.v (.lf c (fS sh)),.v (.lf d (fK sk))])]⟩)) else none)))])) (p:=[0,1,0,1,1,1]) (okRi js ms sh sk n m c d) ?_;intro t K r hr;obtain ⟨hg,hr⟩:=qY hr
   skip
   exact (lpRo K js ms sh sk n m c d (vJZ hg)).trans hr
  ·dsimp only;refine jY (T:=Tf) (o:=(orRo js ms sh sk n m c d)) (f:=56) (LO:=qZ []) (p:=[0,1,0,1,1,1,1,1]) kK ?_;intro t K r hr;obtain ⟨hg,hr⟩:=qY hr;have hd:=vJZ hg;exact (lpRs K js ms sh sk n m c d hd).trans hr
 ·refine (xGH js ms sh sk n m c d).trans ?_;unfold sErr skG;rw [g1_t];by_cases h:rErr js ms n m=0
  ·rw [vJQ h];by_cases hc:24 < (c:Int)
   ·rw [vJQ hc]; rfl
   rw [vYH hc,yU,vJQ (show c≤50 by omega)];cases shG sh n c with
   | false=>rfl
   | true =>
    by_cases hd:64 < (d:Int)
    ·rw [vJQ hd]; rfl
    rw [vYH hd,yU,vJQ (show d≤70 by omega)];cases allN (fun i:Nat=>isLk n (sk i).a && isLk n (sk i).b) d 0 <;> rfl
  ·rw [vYH h]; rfl
end Go.Proofs.YtgmbkkkbfbocnaaGreat.Gc
namespace Go.Proofs.YtgmbkkkbfbocnaaGreat.Gd
open Go.Rx Rt Go.Sx Go.RowKit Od Na Nb Nc Nx Nf Ga Gb Gc
noncomputable def qXJ:List PV→Option (Bool × Ret):=fun ps=>match ps with
 | [.a z']=>(z3D z').bind fun z=>some (true,.v (.a (v3C (V3.of z))))
 | _=>none
theorem zKW:zY Tryz.prog 36 qXJ:=by
 intro ps r h;unfold qXJ at h;split at h
 ·simp only [vQQ,vQZ,vQY] at h;obtain ⟨z,hz,hg,rfl⟩:=h;rw [yVQ hz];exact qX (qW Tryz.func36 (by kernel_rfl) (by kernel_rfl)) rfl rfl (fun w=>kGG _ _ _ w)
 ·cases h
noncomputable def L6:OrL:=(36,qXJ) :: L5
theorem uGH:AllP (fun x:Nat × (List PV→Option (Bool × Ret))=>zY Tryz.prog x.1 x.2) L6:=⟨zKW,xWB⟩
noncomputable def zGU:List PV→Option (Bool × Ret):=fun ps=>match ps with
 | [.a p',.a v']=>(poD p').bind fun p=>(v3D v').bind fun v=>some (true,.v (.a (v3C (Po.app p v))))
 | _=>none
theorem jXU:zY Tryz.prog 35 zGU:=by
 intro ps r h;unfold zGU at h;split at h
 ·simp only [vQQ,vQZ,vQY] at h;obtain ⟨p,hp,v,hv,hg,rfl⟩:=h;rw [yVE hp];rw [qWD hv];exact qX (qW Tryz.func35 (by kernel_rfl) (by kernel_rfl)) rfl rfl (fun w=>xQJ _ _ _ _ _ _ _ _ _ _ _ _ _ _ _ _ _ _ _ _ _ _ _ _ _ _ _ _ _ _ w)
 ·cases h
noncomputable def L7:OrL:=(35,zGU) :: L6
theorem xWA:AllP (fun x:Nat × (List PV→Option (Bool × Ret))=>zY Tryz.prog x.1 x.2) L7:=⟨jXU,uGH⟩
noncomputable def zKA:List PV→Option (Bool × Ret):=fun ps=>match ps with
 | []=>some (true,.v (.a (poC (Po.rest))))
 | _=>none
noncomputable def L8:OrL:=(88,zKA) :: L7
noncomputable def zQY:List PV→Option (Bool × Ret):=fun ps=>match ps with
 | []=>some (true,.v (.a (poC (Po.rest))))
 | _=>none
theorem yGQ:zY Tryz.prog 90 zQY:=by
 intro ps r h;unfold zQY at h;split at h
 ·simp only [vQZ,vQY] at h;obtain ⟨hg,rfl⟩:=h;exact qX (qW Tryz.func90 (by kernel_rfl) (by kernel_rfl)) rfl rfl (fun w=>xQY  w)
 ·cases h
def fV (g:Nat→V3):Nat→List PV:=fun v=>Rx.v3C (g v)
theorem qHX {s:Shp} (h:shOk s=true):1≤s.np∧s.np≤8:=by
 unfold shOk at h;simp only [vQJ,Bool.not_eq_true',Bool.or_eq_false_iff,decide_eq_false_iff_not] at h;omega
end Go.Proofs.YtgmbkkkbfbocnaaGreat.Gd
namespace Go.Proofs.YtgmbkkkbfbocnaaGreat.Ge
open Go.Rx Rt Go.Sx Go.RowKit Od Na Nb Nc Nx Nf Ga Gb Gc Gd
theorem qJB {js:Nat→J} {ms:Nat→Ms} {sh:Nat→Shp} {sk:Nat→Skp} {n m c d:Nat} (h:sErr js ms sh sk n m c d=0):rErr js ms n m=0∧c≤24∧∀ i,i < c→shE n (sh i)=0:=by
 unfold sErr at h;by_cases h1:rErr js ms n m=0
 ·rw [vJQ h1,vYV] at h;by_cases h2:24 < (c:Int)
  ·rw [vJQ h2,vYV] at h; exact absurd h (by decide)
  ·rw [vYH h2,vYG] at h;cases h3:shG sh n c with
   | true=>exact ⟨h1,by omega,fun i hi=>vJZ (allN_iff.1 h3 i (Nat.zero_le _) (by omega))⟩
   | false =>
    rw [h3,vYG] at h;have hf:∀ k p,allN (fun i:Nat=>decide (shE n (sh i)=0)) k p=false→shE n (sh (Rx.firstK (fun i:Nat=>decide (shE n (sh i)=0)) k p)) ≠ 0:=by
     intro k;induction k with
     | zero=>intro p hp; cases hp
     | succ k ih =>
      intro p hp;unfold allN at hp;unfold Rx.firstK;by_cases h0:shE n (sh p)=0
      ·rw [vJQ h0] at hp ⊢;exact ih _ (by simpa using hp)
      ·rw [vYH h0];exact h0
    exact absurd h (hf c 0 h3)
 ·rw [vYH h1,vYG] at h; exact absurd h h1
theorem zVU {n:Nat} {s:Shp} (h:shE n s=0):(-1≤s.link∧s.link < (n:Int))∧shOk s=true:=by
 unfold shE at h;cases h1:isLk n s.link with
 | false=>rw [h1] at h; exact absurd (show (902:Int)=0 from h) (by decide)
 | true =>
  rw [h1,Bool.not_true,Bool.false_or] at h;unfold isLk at h1;rw [vQJ,decide_eq_true_eq,decide_eq_true_eq] at h1;refine ⟨h1,?_⟩;unfold shOk;cases h2:(decide (s.rad < 1) || (decide (1048576 < s.rad) || (decide ((s.np:Int) < 1) || decide (8 < (s.np:Int))))) with
  | true=>rw [h2] at h; exact absurd (show (902:Int)=0 from h) (by decide)
  | false =>
   rw [h2,vYG] at h;cases h3:zKQ s with
   | true=>rfl
   | false=>rw [h3] at h; exact absurd (show (805:Int)=0 from h) (by decide)
end Go.Proofs.YtgmbkkkbfbocnaaGreat.Ge
namespace Go.Proofs.YtgmbkkkbfbocnaaGreat.Gf
open Go.Rx Rt Go.Sx Go.RowKit Od Na Nb Nc Nx Nf Ga Gb Gc Gd Ge
theorem yJD {n:Nat}:allN (fun _:Nat=>true) n 0=true:=allN_iff.2 fun _ _ _=>rfl
noncomputable def hsp (q:Nat→Po) (n:Nat) (i:Int):St:=⟨[(0,.v (.lf n (fP q))),(1,.v (.lf n (fP q))),(5,.v (.n .i64 i))],[]⟩
def fVV (g:Nat→Nat) (x:Nat→Nat→V3):Nat→List PV:=fun v=>[.lf (g v) (fV (x v))]
noncomputable def hsl (g:Nat→Nat) (x:Nat→Nat→V3) (c:Nat) (i:Int):St:=⟨[(0,.v (.lf c (fVV g x))),(1,.v (.lf c (fVV g x))),(5,.v (.n .i64 i))],[]⟩
end Go.Proofs.YtgmbkkkbfbocnaaGreat.Gf
namespace Go.Proofs.YtgmbkkkbfbocnaaGreat.Gg
end Go.Proofs.YtgmbkkkbfbocnaaGreat.Gg
namespace Go.Proofs.YtgmbkkkbfbocnaaGreat.Ha
open Go.Rx Rt Go.Sx Go.RowKit Od Na Nb Nc Nx Nf Ga Gb Gc Gd Ge Gf Gg
structure ObT where
 name:ByteArray
 ns:Nat
 shs:Nat→Shp
structure Hnd where
 link:Int
 off:Z3
structure Grp where
 hand:Int
 place:Int
 na:Nat
 cf:Nat→Int
structure Wsp where
 js:Nat→J
 ms:Nat→Ms
 sh:Nat→Shp
 sk:Nat→Skp
 n:Nat
 m:Nat
 c:Nat
 d:Nat
 ob:Nat→ObT
 pl:Nat→Z3
 hd:Nat→Hnd
 gr:Nat→Grp
 no:Nat
 np:Nat
 nh:Nat
 ng:Nat
 slack:Int
def oP (o:ObT):List PV:=[.s o.name,.lf o.ns (fS o.shs)]
def fO (ob:Nat→ObT):Nat→List PV:=fun v=>oP (ob v)
def hP (h:Hnd):List PV:=[.n .i64 h.link,.n .i64 h.off.x,.n .i64 h.off.y,.n .i64 h.off.z]
def fH (hd:Nat→Hnd):Nat→List PV:=fun v=>hP (hd v)
def gPv (g:Grp):List PV:=[.n .i64 g.hand,.n .i64 g.place,.lf g.na (fQ g.cf)]
def fG (gr:Nat→Grp):Nat→List PV:=fun v=>gPv (gr v)
def wP (ws:Wsp):List PV:=[.lf ws.n (fJ ws.js),.lf ws.m (fM ws.ms),.lf ws.c (fS ws.sh),.lf ws.d (fK ws.sk),.lf ws.no (fO ws.ob),.lf ws.np (fZ ws.pl),.lf ws.nh (fH ws.hd),.lf ws.ng (fG ws.gr),.n .i64 ws.slack]
def unO (r:List PV):ObT:=match r with
 | [.s a,.lf k f]=>⟨a,k,unFS f⟩
 | _=>⟨ByteArray.empty,0,fun _=>⟨0,0,0,fun _=>⟨0,0,0⟩⟩⟩
def unH (r:List PV):Hnd:=match r with
 | [.n _ a,.n _ x,.n _ y,.n _ z]=>⟨a,⟨x,y,z⟩⟩
 | _=>⟨0,⟨0,0,0⟩⟩
def unG (r:List PV):Grp:=match r with
 | [.n _ a,.n _ b,.lf k f]=>⟨a,b,k,unFQ f⟩
 | _=>⟨0,0,0,fun _=>0⟩
def unW (r:List PV):Wsp:=match r with
 | [.lf n js,.lf m ms,.lf c sh,.lf d sk,.lf no ob,.lf np pl,.lf nh hd,.lf ng gr,.n _ s]=>⟨unFJ js,unFM ms,unFS sh,unFK sk,n,m,c,d,fun v=>unO (ob v),unFZ pl,fun v=>unH (hd v),fun v=>unG (gr v),no,np,nh,ng,s⟩
 | _=>⟨fun _=>⟨ByteArray.empty,0,0,⟨0,0,0⟩,0,0,0,0,0,0⟩,fun _=>⟨0,0,⟨0,0,0⟩⟩,fun _=>⟨0,0,0,fun _=>⟨0,0,0⟩⟩,fun _=>⟨0,0⟩,0,0,0,0,fun _=>⟨ByteArray.empty,0,fun _=>⟨0,0,0,fun _=>⟨0,0,0⟩⟩⟩,fun _=>⟨0,0,0⟩,fun _=>⟨0,⟨0,0,0⟩⟩,fun _=>⟨0,0,0,fun _=>0⟩,0,0,0,0,0⟩
theorem mmz (x:Int):decide (min (max x (-2097152)) 2097152=x)=(!decide (x < -2097152) && !decide (2097152 < x)):=by
 by_cases h1:x < -2097152
 ·rw [vJQ h1,vYH (show ¬ min (max x (-2097152)) 2097152=x by omega)]; rfl
 ·rw [vYH h1];by_cases h2:2097152 < x
  ·rw [vJQ h2,vYH (show ¬ min (max x (-2097152)) 2097152=x by omega)]; rfl
  ·rw [vYH h2,vJQ (show min (max x (-2097152)) 2097152=x by omega)]; rfl
noncomputable def xHB (_:Z3):OrS:=orS [] []
noncomputable def kUL (_:Z3):List (List Nat × jG):=[]
set_option maxRecDepth 100000 in
theorem xGD (z:Z3):uJ Tf (xHB z) (qZ (kUL z)) 60 99 [.a [.n .i64 z.x,.n .i64 z.y,.n .i64 z.z]] =
 (bif ((decide ((min (max z.x (-2097152)) 2097152)=z.x)) && ((decide ((min (max z.y (-2097152)) 2097152)=z.y)) && ((decide ((min (max z.z (-2097152)) 2097152)=z.z)) && true))) then some (.v (.b true),[])
 else some (.v (.b false),[])):=by kernel_rfl
theorem uZB (z:Z3):yK Tryz.prog 99 [.a [.n .i64 z.x,.n .i64 z.y,.n .i64 z.z]] (.v (.b (zOk 2097152 z))):=by
 refine zZ (N:=60) (LO:=qZ (kUL z)) jU zW (jW (l:=[]) (m:=[]) trivial trivial) (fun p S hp => ?_) ?_
 ·refine qH (L:=qQ Tf 99) (l:=(kUL z)) (show AllP _ (kUL z) from trivial) p S hp
 ·refine (xGD z).trans ?_;have e:((decide ((min (max z.x (-2097152)) 2097152)=z.x)) && ((decide ((min (max z.y (-2097152)) 2097152)=z.y)) && ((decide ((min (max z.z (-2097152)) 2097152)=z.z)) && true)))=zOk 2097152 z:=by
   unfold zOk;simp only [mmz,Bool.and_true]
  rw [e];cases zOk 2097152 z <;> rfl
def cne:Z3→Prop:=fun t=>match t with | _=>True
def ene:Z3→List PV:=fun t=>match t with | z=>[.a (zP z)]
noncomputable def rne:Z3→Ret:=fun t=>match t with | z=>.v (.b (zOk 2097152 z))
def dne:List PV→Z3:=fun ps=>match ps with
 | [.a r]=>unZ r
 | _=>⟨0,0,0⟩
noncomputable def o_ne:List PV→Option (Bool × Ret):=o_fm dne cne ene rne
theorem xYJ:zY Tryz.prog 99 o_ne:=uK fun t h=>by
 revert h; revert t; intro z h
 exact uZB z
noncomputable def ornq (_:Z3):OrS:=orS [] []
noncomputable def lsnq (_:Z3):List (List Nat × jG):=[]
set_option maxRecDepth 100000 in
theorem pxnq (z:Z3):uJ Tf (ornq z) (qZ (lsnq z)) 60 57 [.a [.n .i64 z.x,.n .i64 z.y,.n .i64 z.z],.n .i64 2097152] =
 (bif (decide (z.x < (-2097152))) then some (.v (.b false),[])
 else (bif (decide (2097152 < z.x)) then some (.v (.b false),[])
 else (bif (decide (z.y < (-2097152))) then some (.v (.b false),[])
 else (bif (decide (2097152 < z.y)) then some (.v (.b false),[])
 else (bif (decide (z.z < (-2097152))) then some (.v (.b false),[])
 else (bif (decide (2097152 < z.z)) then some (.v (.b false),[])
 else some (.v (.b true),[]))))))):=by kernel_rfl
theorem uGL (z:Z3):yK Tryz.prog 57 [.a [.n .i64 z.x,.n .i64 z.y,.n .i64 z.z],.n .i64 2097152] (.v (.b (zOk 2097152 z))):=by
 refine zZ (N:=60) (LO:=qZ (lsnq z)) jU zW (jW (l:=[]) (m:=[]) trivial trivial) (fun p S hp => ?_) ?_
 ·refine qH (L:=qQ Tf 57) (l:=(lsnq z)) (show AllP _ (lsnq z) from trivial) p S hp
 ·refine (pxnq z).trans ?_;unfold zOk;cases decide (z.x < -2097152) <;> cases decide (2097152 < z.x) <;> cases decide (z.y < -2097152) <;> cases decide (2097152 < z.y) <;> cases decide (z.z < -2097152) <;> cases decide (2097152 < z.z) <;> rfl
def cnq:Z3→Prop:=fun t=>match t with | _=>True
def enq:Z3→List PV:=fun t=>match t with | z=>[.a (zP z),.n .i64 2097152]
noncomputable def rnq:Z3→Ret:=fun t=>match t with | z=>.v (.b (zOk 2097152 z))
def dnq:List PV→Z3:=fun ps=>match ps with
 | [.a r,.n _ _]=>(unZ r)
 | _=>⟨0,0,0⟩
noncomputable def o_nq:List PV→Option (Bool × Ret):=o_fm dnq cnq enq rnq
theorem xZL:zY Tryz.prog 57 o_nq:=uK fun t h=>by
 revert h; revert t; intro z h
 exact uGL z
def sOk (s:Shp):Bool:=shOk s && (decide (s.link=0) && allN (fun k:Nat=>zOk 2097152 (s.pts k)) s.np 0)
def soOk (o:ObT):Bool:=allN (fun i:Nat=>sOk (o.shs i)) o.ns 0 && decide (0 < (o.ns:Int))
def slS (σ:St) (k:Nat):Shp:=match qQQ σ.S k with
 | some (.v (.lf n f))=>⟨0,0,n,unFZ f⟩
 | _=>⟨0,0,0,fun _=>⟨0,0,0⟩⟩
noncomputable def orSo (o:ObT):OrS:=orS [(103,o_pk),(99,o_ne)] []
noncomputable def hSi (o:ObT) (i:Int) (s:Shp) (k:Int):St:=⟨[(1,.p 1 0),(8,.v (.lf o.ns (fS o.shs))),(9,.v (.n .i64 (o.ns:Int))),(10,.v (.n .i64 i)),(23,.v (.lf s.np (fZ s.pts))),(24,.v (.n .i64 (s.np:Int))),(25,.v (.n .i64 k))],[(1,.blk [.v (.s o.name),.v (.lf o.ns (fS o.shs))])]⟩
set_option maxRecDepth 100000 in
theorem rdSi (G:St→Option (Ret × Mem)) (K:Cont) (o:ObT) (i:Int) (s:Shp) (k:Int):jJ (o.ns + 100) (cxS Tf (orSo o) (o.ns + 100) 55 (ntmF Tf 55)) (evX Tf (orSo o) (o.ns + 100) 55 (ntmF Tf 55)) (qZ []) (qQ Tf 55 [0,1,1,1,0,0,1,1,0,0,1,0,1]) [0,1,1,1,0,0,1,1,0,0,1,0,1] (Tf.hint 55 (qJ (qQ Tf 55 [0,1,1,1,0,0,1,1,0,0,1,0,1]))) K G (hSi o i s k) =
 (bif (decide (k < (s.np:Int))) then (bif (inB k s.np) then (bif (gF1 cne ene (s.pts (k).toNat)) then (bif (zOk 2097152 (s.pts (k).toNat)) then (G (hSi o i s (vJJ .i64 (k + 1))))
 else (K .ret ⟨[(1,.p 1 0),(2,.v (.b false)),(8,.v (.lf o.ns (fS o.shs))),(9,.v (.n .i64 (o.ns:Int))),(10,.v (.n .i64 i))],[(1,.blk [.v (.s o.name),.v (.lf o.ns (fS o.shs))])]⟩))
 else none)
 else none)
 else (K (.exit 2) ⟨[(1,.p 1 0),(8,.v (.lf o.ns (fS o.shs))),(9,.v (.n .i64 (o.ns:Int))),(10,.v (.n .i64 i))],[(1,.blk [.v (.s o.name),.v (.lf o.ns (fS o.shs))])]⟩)):=by kernel_rfl
theorem lpSi (K:Cont) (o:ObT) (i:Int) (s:Shp) (_:s.np≤50):LFX (o.ns + 100) (cxS Tf (orSo o) (o.ns + 100) 55 (ntmF Tf 55)) (evX Tf (orSo o) (o.ns + 100) 55 (ntmF Tf 55)) (qZ []) (qQ Tf 55 [0,1,1,1,0,0,1,1,0,0,1,0,1]) [0,1,1,1,0,0,1,1,0,0,1,0,1] (Tf.hint 55 (qJ (qQ Tf 55 [0,1,1,1,0,0,1,1,0,0,1,0,1]))) K (o.ns + 100) (hSi o i s 0)=bif (allN (fun k:Nat=>zOk 2097152 (s.pts k)) s.np 0) then (K (.exit 2) ⟨[(1,.p 1 0),(8,.v (.lf o.ns (fS o.shs))),(9,.v (.n .i64 (o.ns:Int))),(10,.v (.n .i64 i))],[(1,.blk [.v (.s o.name),.v (.lf o.ns (fS o.shs))])]⟩) else (K .ret ⟨[(1,.p 1 0),(2,.v (.b false)),(8,.v (.lf o.ns (fS o.shs))),(9,.v (.n .i64 (o.ns:Int))),(10,.v (.n .i64 i))],[(1,.blk [.v (.s o.name),.v (.lf o.ns (fS o.shs))])]⟩):=by
 refine (kW (L:=LFX (o.ns + 100) (cxS Tf (orSo o) (o.ns + 100) 55 (ntmF Tf 55)) (evX Tf (orSo o) (o.ns + 100) 55 (ntmF Tf 55)) (qZ []) (qQ Tf 55 [0,1,1,1,0,0,1,1,0,0,1,0,1]) [0,1,1,1,0,0,1,1,0,0,1,0,1] (Tf.hint 55 (qJ (qQ Tf 55 [0,1,1,1,0,0,1,1,0,0,1,0,1]))) K) (stp:=jJ (o.ns + 100) (cxS Tf (orSo o) (o.ns + 100) 55 (ntmF Tf 55)) (evX Tf (orSo o) (o.ns + 100) 55 (ntmF Tf 55)) (qZ []) (qQ Tf 55 [0,1,1,1,0,0,1,1,0,0,1,0,1]) [0,1,1,1,0,0,1,1,0,0,1,0,1] (Tf.hint 55 (qJ (qQ Tf 55 [0,1,1,1,0,0,1,1,0,0,1,0,1]))) K) (fun _ _=>rfl) (fun (k:Nat) (_:Unit)=>hSi o i s (k:Int)) (fun _ _=>True) (fun (k:Nat) _=>zOk 2097152 (s.pts k)) (fun _ _=>()) (c:=s.np) (fun _=>(K (.exit 2) ⟨[(1,.p 1 0),(8,.v (.lf o.ns (fS o.shs))),(9,.v (.n .i64 (o.ns:Int))),(10,.v (.n .i64 i))],[(1,.blk [.v (.s o.name),.v (.lf o.ns (fS o.shs))])]⟩)) (fun k _=>(K .ret ⟨[(1,.p 1 0),(2,.v (.b false)),(8,.v (.lf o.ns (fS o.shs))),(9,.v (.n .i64 (o.ns:Int))),(10,.v (.n .i64 i))],[(1,.blk [.v (.s o.name),.v (.lf o.ns (fS o.shs))])]⟩)) (fun G k f hi _ => ?_) (fun _ _ _ _ _=>trivial) (fun G f _ => ?_) (s.np) 0 (o.ns + 100) () (by omega) (by omega) trivial).trans ((yH _ _ _ _ _).trans (yW _ _ _ _ _))
 ·refine (rdSi G K o i s k).trans ?_;rw [vJQ (show (k:Int) < (s.np:Int) by omega),kY (by omega),yZ (show k < s.np by omega),toN,jQ (C:=cne) (t:=s.pts k) trivial];cases zOk 2097152 (s.pts k) <;> rfl
 ·refine (rdSi G K o i s (s.np:Int)).trans ?_;rw [vYH (show ¬ (s.np:Int) < (s.np:Int) by omega)];rfl
theorem okSi (o:ObT):∀ p S,qZ [([0,1,1,1,0,0,1,1,0,0,1,0,1],sumF (fun t:Int × Shp=>(hSi o t.1 t.2 0)) (fun σ=>(slI σ 10,slS σ 23)) (fun t K=>(bif (decide (t.2.np≤50)) then (bif (allN (fun k:Nat=>zOk 2097152 (t.2.pts k)) t.2.np 0) then (K (.exit 2) ⟨[(1,.p 1 0),(8,.v (.lf o.ns (fS o.shs))),(9,.v (.n .i64 (o.ns:Int))),(10,.v (.n .i64 t.1))],[(1,.blk [.v (.s o.name),.v (.lf o.ns (fS o.shs))])]⟩) else (K .ret ⟨[(1,.p 1 0),(2,.v (.b false)),(8,.v (.lf o.ns (fS o.shs))),(9,.v (.n .i64 (o.ns:Int))),(10,.v (.n .i64 t.1))],[(1,.blk [.v (.s o.name),.v (.lf o.ns (fS o.shs))])]⟩)) else none)))] p=some S→qQF (o.ns + 100) (cxS Tf (orSo o) (o.ns + 100) 55 (ntmF Tf 55)) (qQ Tf 55 p) S:=fun p S hp=>by
 refine qH (L:=qQ Tf 55) (l:=[([0,1,1,1,0,0,1,1,0,0,1,0,1],sumF (fun t:Int × Shp=>(hSi o t.1 t.2 0)) (fun σ=>(slI σ 10,slS σ 23)) (fun t K=>(bif (decide (t.2.np≤50)) then (bif (allN (fun k:Nat=>zOk 2097152 (t.2.pts k)) t.2.np 0) then (K (.exit 2) ⟨[(1,.p 1 0),(8,.v (.lf o.ns (fS o.shs))),(9,.v (.n .i64 (o.ns:Int))),(10,.v (.n .i64 t.1))],[(1,.blk [.v (.s o.name),.v (.lf o.ns (fS o.shs))])]⟩) else (K .ret ⟨[(1,.p 1 0),(2,.v (.b false)),(8,.v (.lf o.ns (fS o.shs))),(9,.v (.n .i64 (o.ns:Int))),(10,.v (.n .i64 t.1))],[(1,.blk [.v (.s o.name),.v (.lf o.ns (fS o.shs))])]⟩)) else none)))]) ⟨?_,trivial⟩ p S hp;dsimp only;refine jY (T:=Tf) (o:=(orSo o)) (f:=55) (LO:=qZ []) (p:=[0,1,1,1,0,0,1,1,0,0,1,0,1]) kK ?_;intro t K r hr;obtain ⟨hg,hr⟩:=qY hr
 skip
 exact (lpSi K o t.1 t.2 (vJZ hg)).trans hr
noncomputable def hSo (o:ObT) (i:Int):St:=⟨[(1,.p 1 0),(8,.v (.lf o.ns (fS o.shs))),(9,.v (.n .i64 (o.ns:Int))),(10,.v (.n .i64 i))],[(1,.blk [.v (.s o.name),.v (.lf o.ns (fS o.shs))])]⟩
set_option maxRecDepth 100000 in
theorem rdSo (G:St→Option (Ret × Mem)) (K:Cont) (o:ObT) (i:Int):jJ (o.ns + 100) (cxS Tf (orSo o) (o.ns + 100) 55 (ntmF Tf 55)) (evX Tf (orSo o) (o.ns + 100) 55 (ntmF Tf 55)) (qZ [([0,1,1,1,0,0,1,1,0,0,1,0,1],sumF (fun t:Int × Shp=>(hSi o t.1 t.2 0)) (fun σ=>(slI σ 10,slS σ 23)) (fun t K=>(bif (decide (t.2.np≤50)) then (bif (allN (fun k:Nat=>zOk 2097152 (t.2.pts k)) t.2.np 0) then (K (.exit 2) ⟨[(1,.p 1 0),(8,.v (.lf o.ns (fS o.shs))),(9,.v (.n .i64 (o.ns:Int))),(10,.v (.n .i64 t.1))],[(1,.blk [.v (.s o.name),.v (.lf o.ns (fS o.shs))])]⟩) else (K .ret ⟨[(1,.p 1 0),(2,.v (.b false)),(8,.v (.lf o.ns (fS o.shs))),(9,.v (.n .i64 (o.ns:Int))),(10,.v (.n .i64 t.1))],[(1,.blk [.v (.s o.name),.v (.lf o.ns (fS o.shs))])]⟩)) else none)))]) (qQ Tf 55 [0,1,0,1]) [0,1,0,1] (Tf.hint 55 (qJ (qQ Tf 55 [0,1,0,1]))) K G (hSo o i) =
 (bif (decide (i < (o.ns:Int))) then (bif (inB i o.ns) then (bif (gF1 cpk epk (o.shs (i).toNat)) then (bif (shOk (o.shs (i).toNat)) then (bif (!decide ((o.shs (i).toNat).link=0)) then (K .ret ⟨[(1,.p 1 0),(2,.v (.b false))],[(1,.blk [.v (.s o.name),.v (.lf o.ns (fS o.shs))])]⟩)
 else (bif (gSt (hSi o i (o.shs (i).toNat) 0) (hSi o i (o.shs (i).toNat) 0)) then (bif (decide ((o.shs (i).toNat).np≤50)) then (bif (allN (fun k:Nat=>zOk 2097152 ((o.shs (i).toNat).pts k)) (o.shs (i).toNat).np 0) then (G (hSo o (vJJ .i64 (i + 1))))
 else (K .ret ⟨[(1,.p 1 0),(2,.v (.b false))],[(1,.blk [.v (.s o.name),.v (.lf o.ns (fS o.shs))])]⟩))
 else none)
 else none))
 else (K .ret ⟨[(1,.p 1 0),(2,.v (.b false))],[(1,.blk [.v (.s o.name),.v (.lf o.ns (fS o.shs))])]⟩))
 else none)
 else none)
 else (K (.exit 0) ⟨[(1,.p 1 0)],[(1,.blk [.v (.s o.name),.v (.lf o.ns (fS o.shs))])]⟩)):=by kernel_rfl
theorem lpSo (K:Cont) (o:ObT) (_:o.ns≤9223372036854775807):LFX (o.ns + 100) (cxS Tf (orSo o) (o.ns + 100) 55 (ntmF Tf 55)) (evX Tf (orSo o) (o.ns + 100) 55 (ntmF Tf 55)) (qZ [([0,1,1,1,0,0,1,1,0,0,1,0,1],sumF (fun t:Int × Shp=>(hSi o t.1 t.2 0)) (fun σ=>(slI σ 10,slS σ 23)) (fun t K=>(bif (decide (t.2.np≤50)) then (bif (allN (fun k:Nat=>zOk 2097152 (t.2.pts k)) t.2.np 0) then (K (.exit 2) ⟨[(1,.p 1 0),(8,.v (.lf o.ns (fS o.shs))),(9,.v (.n .i64 (o.ns:Int))),(10,.v (.n .i64 t.1))],[(1,.blk [.v (.s o.name),.v (.lf o.ns (fS o.shs))])]⟩) else (K .ret ⟨[(1,.p 1 0),(2,.v (.b false)),(8,.v (.lf o.ns (fS o.shs))),(9,.v (.n .i64 (o.ns:Int))),(10,.v (.n .i64 t.1))],[(1,.blk [.v (.s o.name),.v (.lf o.ns (fS o.shs))])]⟩)) else none)))]) (qQ Tf 55 [0,1,0,1]) [0,1,0,1] (Tf.hint 55 (qJ (qQ Tf 55 [0,1,0,1]))) K (o.ns + 100) (hSo o 0)=bif (allN (fun i:Nat=>sOk (o.shs i)) o.ns 0) then (K (.exit 0) ⟨[(1,.p 1 0)],[(1,.blk [.v (.s o.name),.v (.lf o.ns (fS o.shs))])]⟩) else (K .ret ⟨[(1,.p 1 0),(2,.v (.b false))],[(1,.blk [.v (.s o.name),.v (.lf o.ns (fS o.shs))])]⟩):=by
 refine (kW (L:=LFX (o.ns + 100) (cxS Tf (orSo o) (o.ns + 100) 55 (ntmF Tf 55)) (evX Tf (orSo o) (o.ns + 100) 55 (ntmF Tf 55)) (qZ [([0,1,1,1,0,0,1,1,0,0,1,0,1],sumF (fun t:Int × Shp=>(hSi o t.1 t.2 0)) (fun σ=>(slI σ 10,slS σ 23)) (fun t K=>(bif (decide (t.2.np≤50)) then (bif (allN (fun k:Nat=>zOk 2097152 (t.2.pts k)) t.2.np 0) then (K (.exit 2) ⟨[(1,.p 1 0),(8,.v (.lf o.ns (fS o.shs))),(9,.v (.n .i64 (o.ns:Int))),(10,.v (.n .i64 t.1))],[(1,.blk [.v (.s o.name),.v (.lf o.ns (fS o.shs))])]⟩) else (K .ret ⟨[(1,.p 1 0),(2,.v (.b false)),(8,.v (.lf o.ns (fS o.shs))),(9,.v (.n .i64 (o.ns:Int))),(10,.v (.n .i64 t.1))],[(1,.blk [.v (.s o.name),.v (.lf o.ns (fS o.shs))])]⟩)) else none)))]) (qQ Tf 55 [0,1,0,1]) [0,1,0,1] (Tf.hint 55 (qJ (qQ Tf 55 [0,1,0,1]))) K) (stp:=jJ (o.ns + 100) (cxS Tf (orSo o) (o.ns + 100) 55 (ntmF Tf 55)) (evX Tf (orSo o) (o.ns + 100) 55 (ntmF Tf 55)) (qZ [([0,1,1,1,0,0,1,1,0,0,1,0,1],sumF (fun t:Int × Shp=>(hSi o t.1 t.2 0)) (fun σ=>(slI σ 10,slS σ 23)) (fun t K=>(bif (decide (t.2.np≤50)) then (bif (allN (fun k:Nat=>zOk 2097152 (t.2.pts k)) t.2.np 0) then (K (.exit 2) ⟨[(1,.p 1 0),(8,.v (.lf o.ns (fS o.shs))),(9,.v (.n .i64 (o.ns:Int))),(10,.v (.n .i64 t.1))],[(1,.blk [.v (.s o.name),.v (.lf o.ns (fS o.shs))])]⟩) else (K .ret ⟨[(1,.p 1 0),(2,.v (.b false)),(8,.v (.lf o.ns (fS o.shs))),(9,.v (.n .i64 (o.ns:Int))),(10,.v (.n .i64 t.1))],[(1,.blk [.v (.s o.name),.v (.lf o.ns (fS o.shs))])]⟩)) else none)))]) (qQ Tf 55 [0,1,0,1]) [0,1,0,1] (Tf.hint 55 (qJ (qQ Tf 55 [0,1,0,1]))) K) (fun _ _=>rfl) (fun (i:Nat) (_:Unit)=>hSo o (i:Int)) (fun _ _=>True) (fun (i:Nat) _=>sOk (o.shs i)) (fun _ _=>()) (c:=o.ns) (fun _=>(K (.exit 0) ⟨[(1,.p 1 0)],[(1,.blk [.v (.s o.name),.v (.lf o.ns (fS o.shs))])]⟩)) (fun i _=>(K .ret ⟨[(1,.p 1 0),(2,.v (.b false))],[(1,.blk [.v (.s o.name),.v (.lf o.ns (fS o.shs))])]⟩)) (fun G i f hi _ => ?_) (fun _ _ _ _ _=>trivial) (fun G f _ => ?_) o.ns 0 (o.ns + 100) () (by omega) (by omega) trivial).trans ((yH _ _ _ _ _).trans (yW _ _ _ _ _))
 ·refine (rdSo G K o i).trans ?_;rw [vJQ (show (i:Int) < (o.ns:Int) by omega),yKJ (by omega),yZ (show i < o.ns by omega),toN,jQ (C:=cpk) (t:=o.shs i) trivial];unfold sOk;cases h:shOk (o.shs i) with
  | false=>rfl
  | true =>
   have hb:=qHX h;by_cases hl:(o.shs i).link=0
   ·rw [vJQ hl,yU,vJQ (show (o.shs i).np≤50 by omega)];cases allN (fun k:Nat=>zOk 2097152 ((o.shs i).pts k)) (o.shs i).np 0 <;> rfl
   ·rw [vYH hl]; rfl
 ·refine (rdSo G K o o.ns).trans ?_;rw [vYH (show ¬ (o.ns:Int) < (o.ns:Int) by omega)];rfl
noncomputable def kUG (o:ObT):List (List Nat × jG):=[([0,1,0,1],sumF (fun _:Unit=>(hSo o 0)) (fun _=>()) (fun _ K=>(bif (decide (o.ns≤9223372036854775807)) then (bif (allN (fun i:Nat=>sOk (o.shs i)) o.ns 0) then (K (.exit 0) ⟨[(1,.p 1 0)],[(1,.blk [.v (.s o.name),.v (.lf o.ns (fS o.shs))])]⟩) else (K .ret ⟨[(1,.p 1 0),(2,.v (.b false))],[(1,.blk [.v (.s o.name),.v (.lf o.ns (fS o.shs))])]⟩)) else none)))]
set_option maxRecDepth 100000 in
theorem xGU (o:ObT):uJ Tf (orSo o) (qZ (kUG o)) (o.ns + 100) 55 [.a [.s o.name,.lf o.ns (fS o.shs)]] =
 (bif (gSt (hSo o 0) (hSo o 0)) then (bif (decide (o.ns≤9223372036854775807)) then (bif (allN (fun i:Nat=>sOk (o.shs i)) o.ns 0) then (bif (decide (0 < (o.ns:Int))) then some (.v (.b true),[])
 else some (.v (.b false),[]))
 else some (.v (.b false),[]))
 else none)
 else none):=by kernel_rfl
theorem uQI (o:ObT) (ho:o.ns≤9223372036854775807):yK Tryz.prog 55 [.a [.s o.name,.lf o.ns (fS o.shs)]] (.v (.b (soOk o))):=by
 refine zZ (N:=(o.ns + 100)) (LO:=qZ (kUG o)) jU zW (jW (l:=[(103,o_pk),(99,o_ne)]) (m:=[]) ⟨fQD,xYJ,trivial⟩ trivial) (fun p S hp => ?_) ?_
 ·refine qH (L:=qQ Tf 55) (l:=(kUG o)) (show AllP _ (kUG o) from ⟨?_,trivial⟩) p S hp
  ·dsimp only;refine jY (T:=Tf) (o:=(orSo o)) (f:=55) (LO:=(qZ [([0,1,1,1,0,0,1,1,0,0,1,0,1],sumF (fun t:Int × Shp=>(hSi o t.1 t.2 0)) (fun σ=>(slI σ 10,slS σ 23)) (fun t K=>(bif (decide (t.2.np≤50)) then (bif (allN (fun k:Nat=>zOk 2097152 (t.2.pts k)) t.2.np 0) then (K (.exit 2) ⟨[(1,.p 1 0),(8,.v (.lf o.ns (fS o.shs))),(9,.v (.n .i64 (o.ns:Int))),(10,.v (.n .i64 t.1))],[(1,.blk [.v (.s o.name),.v (.lf o.ns (fS o.shs))])]⟩) else (K .ret ⟨[(1,.p 1 0),(2,.v (.b false)),(8,.v (.lf o.ns (fS o.shs))),(9,.v (.n .i64 (o.ns:Int))),(10,.v (.n .i64 t.1))],[(1,.blk [.v (.s o.name),.v (.lf o.ns (fS o.shs))])]⟩)) else none)))])) (p:=[0,1,0,1]) (okSi o) ?_;intro t K r hr;obtain ⟨hg,hr⟩:=qY hr;have ho:=vJZ hg;exact (lpSo K o ho).trans hr
 ·refine (xGU o).trans ?_;unfold soOk;rw [yU,vJQ ho];cases allN (fun i:Nat=>sOk (o.shs i)) o.ns 0 <;> cases decide (0 < (o.ns:Int)) <;> rfl
def cso:ObT→Prop:=fun t=>match t with | o=>o.ns≤9223372036854775807
def eso:ObT→List PV:=fun t=>match t with | o=>[.a (oP o)]
noncomputable def rso:ObT→Ret:=fun t=>match t with | o=>.v (.b (soOk o))
def dso:List PV→ObT:=fun ps=>match ps with
 | [.a r]=>unO r
 | _=>⟨ByteArray.empty,0,fun _=>⟨0,0,0,fun _=>⟨0,0,0⟩⟩⟩
noncomputable def o_so:List PV→Option (Bool × Ret):=o_fm dso cso eso rso
theorem fQV:zY Tryz.prog 55 o_so:=uK fun t h=>by
 revert h; revert t; intro o h
 exact uQI o h
def obOk (o:ObT):Bool:=nmB o.name && soOk o
noncomputable def orOb (o:ObT):OrS:=orS [(106,o_nm),(107,o_rk),(57,o_nq)] []
noncomputable def hOi (o:ObT) (i:Int) (s:Shp) (k:Int):St:=⟨[(1,.p 1 0),(3,.v (.n .i64 i)),(4,.p 4 0),(5,.v (.n .i64 k))],[(1,.blk [.v (.s o.name),.v (.lf o.ns (fS o.shs))]),(4,.blk [.v (.n .i64 s.link),.v (.n .i64 s.rad),.v (.lf s.np (fZ s.pts))])]⟩
set_option maxRecDepth 100000 in
theorem rdOi (G:St→Option (Ret × Mem)) (K:Cont) (o:ObT) (i:Int) (s:Shp) (k:Int):jJ (o.ns + 100) (cxS Tf (orOb o) (o.ns + 100) 59 (ntmF Tf 59)) (evX Tf (orOb o) (o.ns + 100) 59 (ntmF Tf 59)) (qZ []) (qQ Tf 59 [0,1,1,1,0,0,1,0,0,1,0,1,1]) [0,1,1,1,0,0,1,0,0,1,0,1,1] (Tf.hint 59 (qJ (qQ Tf 59 [0,1,1,1,0,0,1,0,0,1,0,1,1]))) K G (hOi o i s k) =
 (bif (decide (k < (s.np:Int))) then (bif (inB k s.np) then (bif (gF1 cnq enq (s.pts (k).toNat)) then (bif (zOk 2097152 (s.pts (k).toNat)) then (G (hOi o i s (vJJ .i64 (k + 1))))
 else (K .ret ⟨[(1,.p 1 0),(2,.v (.b false)),(3,.v (.n .i64 i))],[(1,.blk [.v (.s o.name),.v (.lf o.ns (fS o.shs))])]⟩))
 else none)
 else none)
 else (K (.exit 2) ⟨[(1,.p 1 0),(3,.v (.n .i64 i))],[(1,.blk [.v (.s o.name),.v (.lf o.ns (fS o.shs))])]⟩)):=by kernel_rfl
theorem lpOi (K:Cont) (o:ObT) (i:Int) (s:Shp) (_:s.np≤50):LFX (o.ns + 100) (cxS Tf (orOb o) (o.ns + 100) 59 (ntmF Tf 59)) (evX Tf (orOb o) (o.ns + 100) 59 (ntmF Tf 59)) (qZ []) (qQ Tf 59 [0,1,1,1,0,0,1,0,0,1,0,1,1]) [0,1,1,1,0,0,1,0,0,1,0,1,1] (Tf.hint 59 (qJ (qQ Tf 59 [0,1,1,1,0,0,1,0,0,1,0,1,1]))) K (o.ns + 100) (hOi o i s 0)=bif (allN (fun k:Nat=>zOk 2097152 (s.pts k)) s.np 0) then (K (.exit 2) ⟨[(1,.p 1 0),(3,.v (.n .i64 i))],[(1,.blk [.v (.s o.name),.v (.lf o.ns (fS o.shs))])]⟩) else (K .ret ⟨[(1,.p 1 0),(2,.v (.b false)),(3,.v (.n .i64 i))],[(1,.blk [.v (.s o.name),.v (.lf o.ns (fS o.shs))])]⟩):=by
 refine (kW (L:=LFX (o.ns + 100) (cxS Tf (orOb o) (o.ns + 100) 59 (ntmF Tf 59)) (evX Tf (orOb o) (o.ns + 100) 59 (ntmF Tf 59)) (qZ []) (qQ Tf 59 [0,1,1,1,0,0,1,0,0,1,0,1,1]) [0,1,1,1,0,0,1,0,0,1,0,1,1] (Tf.hint 59 (qJ (qQ Tf 59 [0,1,1,1,0,0,1,0,0,1,0,1,1]))) K) (stp:=jJ (o.ns + 100) (cxS Tf (orOb o) (o.ns + 100) 59 (ntmF Tf 59)) (evX Tf (orOb o) (o.ns + 100) 59 (ntmF Tf 59)) (qZ []) (qQ Tf 59 [0,1,1,1,0,0,1,0,0,1,0,1,1]) [0,1,1,1,0,0,1,0,0,1,0,1,1] (Tf.hint 59 (qJ (qQ Tf 59 [0,1,1,1,0,0,1,0,0,1,0,1,1]))) K) (fun _ _=>rfl) (fun (k:Nat) (_:Unit)=>hOi o i s (k:Int)) (fun _ _=>True) (fun (k:Nat) _=>zOk 2097152 (s.pts k)) (fun _ _=>()) (c:=s.np) (fun _=>(K (.exit 2) ⟨[(1,.p 1 0),(3,.v (.n .i64 i))],[(1,.blk [.v (.s o.name),.v (.lf o.ns (fS o.shs))])]⟩)) (fun k _=>(K .ret ⟨[(1,.p 1 0),(2,.v (.b false)),(3,.v (.n .i64 i))],[(1,.blk [.v (.s o.name),.v (.lf o.ns (fS o.shs))])]⟩)) (fun G k f hi _ => ?_) (fun _ _ _ _ _=>trivial) (fun G f _ => ?_) (s.np) 0 (o.ns + 100) () (by omega) (by omega) trivial).trans ((yH _ _ _ _ _).trans (yW _ _ _ _ _))
 ·refine (rdOi G K o i s k).trans ?_;rw [vJQ (show (k:Int) < (s.np:Int) by omega),kY (by omega),yZ (show k < s.np by omega),toN,jQ (C:=cnq) (t:=s.pts k) trivial];cases zOk 2097152 (s.pts k) <;> rfl
 ·refine (rdOi G K o i s (s.np:Int)).trans ?_;rw [vYH (show ¬ (s.np:Int) < (s.np:Int) by omega)];rfl
theorem okOi (o:ObT):∀ p S,qZ [([0,1,1,1,0,0,1,0,0,1,0,1,1],sumF (fun t:Int × Shp=>(hOi o t.1 t.2 0)) (fun σ=>(slI σ 3,bkS σ 4)) (fun t K=>(bif (decide (t.2.np≤50)) then (bif (allN (fun k:Nat=>zOk 2097152 (t.2.pts k)) t.2.np 0) then (K (.exit 2) ⟨[(1,.p 1 0),(3,.v (.n .i64 t.1))],[(1,.blk [.v (.s o.name),.v (.lf o.ns (fS o.shs))])]⟩) else (K .ret ⟨[(1,.p 1 0),(2,.v (.b false)),(3,.v (.n .i64 t.1))],[(1,.blk [.v (.s o.name),.v (.lf o.ns (fS o.shs))])]⟩)) else none)))] p=some S→qQF (o.ns + 100) (cxS Tf (orOb o) (o.ns + 100) 59 (ntmF Tf 59)) (qQ Tf 59 p) S:=fun p S hp=>by
 refine qH (L:=qQ Tf 59) (l:=[([0,1,1,1,0,0,1,0,0,1,0,1,1],sumF (fun t:Int × Shp=>(hOi o t.1 t.2 0)) (fun σ=>(slI σ 3,bkS σ 4)) (fun t K=>(bif (decide (t.2.np≤50)) then (bif (allN (fun k:Nat=>zOk 2097152 (t.2.pts k)) t.2.np 0) then (K (.exit 2) ⟨[(1,.p 1 0),(3,.v (.n .i64 t.1))],[(1,.blk [.v (.s o.name),.v (.lf o.ns (fS o.shs))])]⟩) else (K .ret ⟨[(1,.p 1 0),(2,.v (.b false)),(3,.v (.n .i64 t.1))],[(1,.blk [.v (.s o.name),.v (.lf o.ns (fS o.shs))])]⟩)) else none)))]) ⟨?_,trivial⟩ p S hp;dsimp only;refine jY (T:=Tf) (o:=(orOb o)) (f:=59) (LO:=qZ []) (p:=[0,1,1,1,0,0,1,0,0,1,0,1,1]) kK ?_;intro t K r hr;obtain ⟨hg,hr⟩:=qY hr
 skip
 exact (lpOi K o t.1 t.2 (vJZ hg)).trans hr
noncomputable def hOb (o:ObT) (i:Int):St:=⟨[(1,.p 1 0),(3,.v (.n .i64 i))],[(1,.blk [.v (.s o.name),.v (.lf o.ns (fS o.shs))])]⟩
set_option maxRecDepth 100000 in
theorem rdOb (G:St→Option (Ret × Mem)) (K:Cont) (o:ObT) (i:Int):jJ (o.ns + 100) (cxS Tf (orOb o) (o.ns + 100) 59 (ntmF Tf 59)) (evX Tf (orOb o) (o.ns + 100) 59 (ntmF Tf 59)) (qZ [([0,1,1,1,0,0,1,0,0,1,0,1,1],sumF (fun t:Int × Shp=>(hOi o t.1 t.2 0)) (fun σ=>(slI σ 3,bkS σ 4)) (fun t K=>(bif (decide (t.2.np≤50)) then (bif (allN (fun k:Nat=>zOk 2097152 (t.2.pts k)) t.2.np 0) then (K (.exit 2) ⟨[(1,.p 1 0),(3,.v (.n .i64 t.1))],[(1,.blk [.v (.s o.name),.v (.lf o.ns (fS o.shs))])]⟩) else (K .ret ⟨[(1,.p 1 0),(2,.v (.b false)),(3,.v (.n .i64 t.1))],[(1,.blk [.v (.s o.name),.v (.lf o.ns (fS o.shs))])]⟩)) else none)))]) (qQ Tf 59 [0,1,0,1,1]) [0,1,0,1,1] (Tf.hint 59 (qJ (qQ Tf 59 [0,1,0,1,1]))) K G (hOb o i) =
 (bif (decide (i < (o.ns:Int))) then (bif (inB i o.ns) then (bif (gF1 crk erk (o.shs (i).toNat)) then (bif (shOk (o.shs (i).toNat)) then (bif (!decide ((o.shs (i).toNat).link=0)) then (K .ret ⟨[(2,.v (.b false))],[]⟩)
 else (bif (gSt (hOi o i (o.shs (i).toNat) 0) (hOi o i (o.shs (i).toNat) 0)) then (bif (decide ((o.shs (i).toNat).np≤50)) then (bif (allN (fun k:Nat=>zOk 2097152 ((o.shs (i).toNat).pts k)) (o.shs (i).toNat).np 0) then (G (hOb o (vJJ .i64 (i + 1))))
 else (K .ret ⟨[(2,.v (.b false))],[]⟩))
 else none)
 else none))
 else (K .ret ⟨[(2,.v (.b false))],[]⟩))
 else none)
 else none)
 else (K (.exit 0) ⟨[],[]⟩)):=by kernel_rfl
theorem lpOb (K:Cont) (o:ObT) (_:o.ns≤9223372036854775807):LFX (o.ns + 100) (cxS Tf (orOb o) (o.ns + 100) 59 (ntmF Tf 59)) (evX Tf (orOb o) (o.ns + 100) 59 (ntmF Tf 59)) (qZ [([0,1,1,1,0,0,1,0,0,1,0,1,1],sumF (fun t:Int × Shp=>(hOi o t.1 t.2 0)) (fun σ=>(slI σ 3,bkS σ 4)) (fun t K=>(bif (decide (t.2.np≤50)) then (bif (allN (fun k:Nat=>zOk 2097152 (t.2.pts k)) t.2.np 0) then (K (.exit 2) ⟨[(1,.p 1 0),(3,.v (.n .i64 t.1))],[(1,.blk [.v (.s o.name),.v (.lf o.ns (fS o.shs))])]⟩) else (K .ret ⟨[(1,.p 1 0),(2,.v (.b false)),(3,.v (.n .i64 t.1))],[(1,.blk [.v (.s o.name),.v (.lf o.ns (fS o.shs))])]⟩)) else none)))]) (qQ Tf 59 [0,1,0,1,1]) [0,1,0,1,1] (Tf.hint 59 (qJ (qQ Tf 59 [0,1,0,1,1]))) K (o.ns + 100) (hOb o 0)=bif (allN (fun i:Nat=>sOk (o.shs i)) o.ns 0) then (K (.exit 0) ⟨[],[]⟩) else (K .ret ⟨[(2,.v (.b false))],[]⟩):=by
 refine (kW (L:=LFX (o.ns + 100) (cxS Tf (orOb o) (o.ns + 100) 59 (ntmF Tf 59)) (evX Tf (orOb o) (o.ns + 100) 59 (ntmF Tf 59)) (qZ [([0,1,1,1,0,0,1,0,0,1,0,1,1],sumF (fun t:Int × Shp=>(hOi o t.1 t.2 0)) (fun σ=>(slI σ 3,bkS σ 4)) (fun t K=>(bif (decide (t.2.np≤50)) then (bif (allN (fun k:Nat=>zOk 2097152 (t.2.pts k)) t.2.np 0) then (K (.exit 2) ⟨[(1,.p 1 0),(3,.v (.n .i64 t.1))],[(1,.blk [.v (.s o.name),.v (.lf o.ns (fS o.shs))])]⟩) else (K .ret ⟨[(1,.p 1 0),(2,.v (.b false)),(3,.v (.n .i64 t.1))],[(1,.blk [.v (.s o.name),.v (.lf o.ns (fS o.shs))])]⟩)) else none)))]) (qQ Tf 59 [0,1,0,1,1]) [0,1,0,1,1] (Tf.hint 59 (qJ (qQ Tf 59 [0,1,0,1,1]))) K) (stp:=jJ (o.ns + 100) (cxS Tf (orOb o) (o.ns + 100) 59 (ntmF Tf 59)) (evX Tf (orOb o) (o.ns + 100) 59 (ntmF Tf 59)) (qZ [([0,1,1,1,0,0,1,0,0,1,0,1,1],sumF (fun t:Int × Shp=>(hOi o t.1 t.2 0)) (fun σ=>(slI σ 3,bkS σ 4)) (fun t K=>(bif (decide (t.2.np≤50)) then (bif (allN (fun k:Nat=>zOk 2097152 (t.2.pts k)) t.2.np 0) then (K (.exit 2) ⟨[(1,.p 1 0),(3,.v (.n .i64 t.1))],[(1,.blk [.v (.s o.name),.v (.lf o.ns (fS o.shs))])]⟩) else (K .ret ⟨[(1,.p 1 0),(2,.v (.b false)),(3,.v (.n .i64 t.1))],[(1,.blk [.v (.s o.name),.v (.lf o.ns (fS o.shs))])]⟩)) else none)))]) (qQ Tf 59 [0,1,0,1,1]) [0,1,0,1,1] (Tf.hint 59 (qJ (qQ Tf 59 [0,1,0,1,1]))) K) (fun _ _=>rfl) (fun (i:Nat) (_:Unit)=>hOb o (i:Int)) (fun _ _=>True) (fun (i:Nat) _=>sOk (o.shs i)) (fun _ _=>()) (c:=o.ns) (fun _=>(K (.exit 0) ⟨[],[]⟩)) (fun i _=>(K .ret ⟨[(2,.v (.b false))],[]⟩)) (fun G i f hi _ => ?_) (fun _ _ _ _ _=>trivial) (fun G f _ => ?_) o.ns 0 (o.ns + 100) () (by omega) (by omega) trivial).trans ((yH _ _ _ _ _).trans (yW _ _ _ _ _))
 ·refine (rdOb G K o i).trans ?_;rw [vJQ (show (i:Int) < (o.ns:Int) by omega),yKJ (by omega),yZ (show i < o.ns by omega),toN,jQ (C:=crk) (t:=o.shs i) trivial];unfold sOk;cases h:shOk (o.shs i) with
  | false=>rfl
  | true =>
   have hb:=qHX h;by_cases hl:(o.shs i).link=0
   ·rw [vJQ hl,yU,vJQ (show (o.shs i).np≤50 by omega)];cases allN (fun k:Nat=>zOk 2097152 ((o.shs i).pts k)) (o.shs i).np 0 <;> rfl
   ·rw [vYH hl]; rfl
 ·refine (rdOb G K o o.ns).trans ?_;rw [vYH (show ¬ (o.ns:Int) < (o.ns:Int) by omega)];rfl
noncomputable def kUI (o:ObT):List (List Nat × jG):=[([0,1,0,1,1],sumF (fun _:Unit=>(hOb o 0)) (fun _=>()) (fun _ K=>(bif (decide (o.ns≤9223372036854775807)) then (bif (allN (fun i:Nat=>sOk (o.shs i)) o.ns 0) then (K (.exit 0) ⟨[],[]⟩) else (K .ret ⟨[(2,.v (.b false))],[]⟩)) else none)))]
set_option maxRecDepth 100000 in
theorem xGC (o:ObT):uJ Tf (orOb o) (qZ (kUI o)) (o.ns + 100) 59 [.a [.s o.name,.lf o.ns (fS o.shs)]] =
 (bif (nmB o.name) then (bif (decide ((o.ns:Int)=0)) then some (.v (.b false),[])
 else (bif (gSt (hOb o 0) (hOb o 0)) then (bif (decide (o.ns≤9223372036854775807)) then (bif (allN (fun i:Nat=>sOk (o.shs i)) o.ns 0) then some (.v (.b true),[])
 else some (.v (.b false),[]))
 else none)
 else none))
 else some (.v (.b false),[])):=by kernel_rfl
theorem uZA (o:ObT) (ho:o.ns≤9223372036854775807):yK Tryz.prog 59 [.a [.s o.name,.lf o.ns (fS o.shs)]] (.v (.b (obOk o))):=by
 refine zZ (N:=(o.ns + 100)) (LO:=qZ (kUI o)) jU zW (jW (l:=[(106,o_nm),(107,o_rk),(57,o_nq)]) (m:=[]) ⟨kJD,fQA,xZL,trivial⟩ trivial) (fun p S hp => ?_) ?_
 ·refine qH (L:=qQ Tf 59) (l:=(kUI o)) (show AllP _ (kUI o) from ⟨?_,trivial⟩) p S hp
  ·dsimp only;refine jY (T:=Tf) (o:=(orOb o)) (f:=59) (LO:=(qZ [([0,1,1,1,0,0,1,0,0,1,0,1,1],sumF (fun t:Int × Shp=>(hOi o t.1 t.2 0)) (fun σ=>(slI σ 3,bkS σ 4)) (fun t K=>(bif (decide (t.2.np≤50)) then (bif (allN (fun k:Nat=>zOk 2097152 (t.2.pts k)) t.2.np 0) then (K (.exit 2) ⟨[(1,.p 1 0),(3,.v (.n .i64 t.1))],[(1,.blk [.v (.s o.name),.v (.lf o.ns (fS o.shs))])]⟩) else (K .ret ⟨[(1,.p 1 0),(2,.v (.b false)),(3,.v (.n .i64 t.1))],[(1,.blk [.v (.s o.name),.v (.lf o.ns (fS o.shs))])]⟩)) else none)))])) (p:=[0,1,0,1,1]) (okOi o) ?_;intro t K r hr;obtain ⟨hg,hr⟩:=qY hr;have ho:=vJZ hg;exact (lpOb K o ho).trans hr
 ·refine (xGC o).trans ?_;unfold obOk soOk;cases nmB o.name with
  | false=>rfl
  | true =>
   by_cases h0:(o.ns:Int)=0
   ·rw [vJQ h0,vYH (show ¬ 0 < (o.ns:Int) by omega),Bool.and_false]; rfl
   ·rw [vYH h0,vJQ (show 0 < (o.ns:Int) by omega),yU,vJQ ho];cases allN (fun i:Nat=>sOk (o.shs i)) o.ns 0 <;> rfl
def cob:ObT→Prop:=fun t=>match t with | o=>o.ns≤9223372036854775807
def eob:ObT→List PV:=fun t=>match t with | o=>[.a (oP o)]
noncomputable def rob:ObT→Ret:=fun t=>match t with | o=>.v (.b (obOk o))
def dob:List PV→ObT:=fun ps=>match ps with
 | [.a r]=>unO r
 | _=>⟨ByteArray.empty,0,fun _=>⟨0,0,0,fun _=>⟨0,0,0⟩⟩⟩
noncomputable def o_ob:List PV→Option (Bool × Ret):=o_fm dob cob eob rob
theorem fQE:zY Tryz.prog 59 o_ob:=uK fun t h=>by
 revert h; revert t; intro o h
 exact uZA o h
end Go.Proofs.YtgmbkkkbfbocnaaGreat.Ha
namespace Go.Proofs.YtgmbkkkbfbocnaaGreat.Nl
open Go.Rx Rt Go.Sx Go.RowKit Od Na Nb Nc Nx
def hEq (js:Nat→J) (q:Nat→Int) (n k:Nat) (i:Int):St:=⟨[(1,.v (.lf k (fQ q))),(2,.v (.f 119 [] [])),(14,.v (.lf n (fJ js))),(15,.v (.n .i64 (n:Int))),(16,.v (.n .i64 i))],[]⟩
set_option maxRecDepth 100000 in
theorem rdEq (G:St→Option (Ret × Mem)) (K:Cont) (js:Nat→J) (q:Nat→Int) (n k:Nat) (i:Int):yKV 60 (cxF T (OrL.k ([]:OrL)) 60 118 (ntmF T 118)) (ckF T (OrL.k ([]:OrL)) 60) (qQ T 118 [0,1,0,1,1]) ((cxF T (OrL.k ([]:OrL)) 60 118 (ntmF T 118)).T.hint (cxF T (OrL.k ([]:OrL)) 60 118 (ntmF T 118)).me (qJ (qQ T 118 [0,1,0,1,1]))) K G (hEq js q n k i) =
 (bif (decide (i < (n:Int))) then (bif (inB i n) then (bif (inB i k) then (bif (decide ((js (i).toNat).lo≤(q (i).toNat))) then (bif (decide ((q (i).toNat)≤(js (i).toNat).hi)) then (G (hEq js q n k (vJJ .i64 (i + 1))))
 else (K .ret ⟨[(6,.v (.b false))],[]⟩))
 else (K .ret ⟨[(6,.v (.b false))],[]⟩))
 else none)
 else none)
 else (K (.exit 0) ⟨[],[]⟩)):=by kernel_rfl
theorem lpEq (K:Cont) (js:Nat→J) (q:Nat→Int) (n k:Nat) (_:n≤50) (_:n=k):LF 60 (cxF T (OrL.k ([]:OrL)) 60 118 (ntmF T 118)) (ckF T (OrL.k ([]:OrL)) 60) (qQ T 118 [0,1,0,1,1]) ((cxF T (OrL.k ([]:OrL)) 60 118 (ntmF T 118)).T.hint (cxF T (OrL.k ([]:OrL)) 60 118 (ntmF T 118)).me (qJ (qQ T 118 [0,1,0,1,1]))) K 60 (hEq js q n k 0)=bif (allN (fun i:Nat=>decide ((js i).lo≤q i) && decide (q i≤(js i).hi)) n 0) then (K (.exit 0) ⟨[],[]⟩) else (K .ret ⟨[(6,.v (.b false))],[]⟩):=by
 refine (yYX (c:=n) (hEq js q n k) (fun i:Nat=>decide ((js i).lo≤q i) && decide (q i≤(js i).hi)) (K (.exit 0) ⟨[],[]⟩) (fun i:Nat=>(K .ret ⟨[(6,.v (.b false))],[]⟩)) (fun G i hi => ?_) (fun G => ?_) n 0 60 (by omega) (by omega)).trans (yW _ _ _ _ _)
 ·refine (rdEq G K js q n k i).trans ?_;rw [vJQ (show (i:Int) < (n:Int) by omega),kY (by omega),yZ (show i < n by omega),yZ (show i < k by omega),toN];cases decide ((js i).lo≤q i) <;> cases decide (q i≤(js i).hi) <;> rfl
 ·refine (rdEq G K js q n k n).trans ?_;rw [vYH (show ¬ (n:Int) < (n:Int) by omega)];rfl
def insQ (js:Nat→J) (q:Nat→Int) (n k:Nat):Bool:=decide ((n:Int)=(k:Int)) && (allN (fun i:Nat=>decide ((js i).lo≤q i) && decide (q i≤(js i).hi)) n 0)
set_option maxRecDepth 100000 in
theorem kYJ (js:Nat→J) (q:Nat→Int) (n k:Nat):zZB T (OrL.k ([]:OrL)) (qZ [([0,1,0,1,1],qQU (hEq js q n k 0) (fun K=>(bif (decide ((n:Int)=(k:Int)) && decide (n≤50)) then (bif (allN (fun i:Nat=>decide ((js i).lo≤q i) && decide (q i≤(js i).hi)) n 0) then (K (.exit 0) ⟨[],[]⟩) else (K .ret ⟨[(6,.v (.b false))],[]⟩)) else none)))]) 60 118 [.lf n (fJ js),.lf k (fQ q),.f 119 [] []] =
 (bif (!decide ((n:Int)=(k:Int))) then some (.v (.b false),[])
 else (bif (gSt (hEq js q n k 0) (hEq js q n k 0)) then (bif (decide ((n:Int)=(k:Int)) && decide (n≤50)) then (bif (allN (fun i:Nat=>decide ((js i).lo≤q i) && decide (q i≤(js i).hi)) n 0) then some (.v (.b true),[])
 else some (.v (.b false),[]))
 else none)
 else none)):=by kernel_rfl
theorem jQB (js:Nat→J) (q:Nat→Int) (n k:Nat) (hn:n≤50):yK Tryz.prog 118 [.lf n (fJ js),.lf k (fQ q),.f 119 [] []] (.v (.b (insQ js q n k))):=by
 refine qQE (N:=60) (LO:=qZ [([0,1,0,1,1],qQU (hEq js q n k 0) (fun K=>(bif (decide ((n:Int)=(k:Int)) && decide (n≤50)) then (bif (allN (fun i:Nat=>decide ((js i).lo≤q i) && decide (q i≤(js i).hi)) n 0) then (K (.exit 0) ⟨[],[]⟩) else (K .ret ⟨[(6,.v (.b false))],[]⟩)) else none)))]) yX zW (OrL.ok (l:=([]:OrL)) trivial) (fun p S hp => ?_) ?_
 ·refine qYQ (L:=qQ T 118) (l:=[([0,1,0,1,1],qQU (hEq js q n k 0) (fun K=>(bif (decide ((n:Int)=(k:Int)) && decide (n≤50)) then (bif (allN (fun i:Nat=>decide ((js i).lo≤q i) && decide (q i≤(js i).hi)) n 0) then (K (.exit 0) ⟨[],[]⟩) else (K .ret ⟨[(6,.v (.b false))],[]⟩)) else none)))]) (show AllP _ [([0,1,0,1,1],qQU (hEq js q n k 0) (fun K=>(bif (decide ((n:Int)=(k:Int)) && decide (n≤50)) then (bif (allN (fun i:Nat=>decide ((js i).lo≤q i) && decide (q i≤(js i).hi)) n 0) then (K (.exit 0) ⟨[],[]⟩) else (K .ret ⟨[(6,.v (.b false))],[]⟩)) else none)))] from ⟨qJQ fun K r hr => ?_,trivial⟩) p S hp
  ·obtain ⟨hg,hr⟩:=qY hr;rw [vQJ] at hg;have hn:=vJZ hg.2;have hk:n=k:=by have:=vJZ hg.1; omega
   exact (lpEq K js q n k hn hk).trans hr
 ·refine (kYJ js q n k).trans ?_;unfold insQ;rw [yU,vJQ hn];cases decide ((n:Int)=(k:Int)) <;> cases (allN (fun i:Nat=>decide ((js i).lo≤q i) && decide (q i≤(js i).hi)) n 0) <;> rfl
def qIn (js:Nat→J) (ms:Nat→Ms) (q:Nat→Int) (n m k:Nat):Bool:=decide (rErr js ms n m=0) && insQ js q n k
theorem uZV (js:Nat→J) (ms:Nat→Ms) (q:Nat→Int) (n m k:Nat):yK Tryz.prog 71 [.a [.lf n (fJ js),.lf m (fM ms)],.lf k (fQ q)] (.v (.b (qIn js ms q n m k))):=by
 refine zU (N:=60) yX zW (OrL.ok (l:=[(85,o_cr [.a [.lf n (fJ js),.lf m (fM ms)]] (.v (.n .i64 (rErr js ms n m)))),(118,o_lk [.lf n (fJ js),.lf k (fQ q),.f 119 [] []] (decide (n≤50)) (.v (.b (insQ js q n k))))]) ⟨zVL (jJB js ms n m),fQI (fun h=>jQB js q n k (vJZ h)),trivial⟩) ?_;refine (by kernel_rfl:_=bif (g1 [.a [.lf n (fJ js),.lf m (fM ms)]]) then (bif (decide ((rErr js ms n m)=0)) then (bif (g1 [.lf n (fJ js),.lf k (fQ q),.f 119 [] []] && decide (n≤50)) then (bif (insQ js q n k) then some (.v (.b true),[])
 else some (.v (.b false),[]))
 else none)
 else some (.v (.b false),[]))
 else none).trans ?_
 unfold qIn;rw [g1_t,g1_t];by_cases h:rErr js ms n m=0
 ·have:=zJI h
  rw [vJQ h,vJQ (show n≤50 by omega)];cases insQ js q n k <;> rfl
 ·rw [vYH h]; rfl
def hRi (js:Nat→J) (ms:Nat→Ms) (q:Nat→Int) (n m k:Nat) (i:Int):St:=⟨[(1,.v (.lf k (fQ q))),(2,.p 2 0),(5,.v (.n .i64 i))],[(2,.blk [.v (.lf n (fJ js)),.v (.lf m (fM ms))])]⟩
set_option maxRecDepth 100000 in
theorem rdRi (G:St→Option (Ret × Mem)) (K:Cont) (js:Nat→J) (ms:Nat→Ms) (q:Nat→Int) (n m k:Nat) (i:Int):yKV 60 (cxF T (OrL.k [(65,o_cr [.a [.lf n (fJ js),.lf m (fM ms)]] (.v (.n .i64 (rErr js ms n m))))]) 60 58 (ntmF T 58)) (ckF T (OrL.k [(65,o_cr [.a [.lf n (fJ js),.lf m (fM ms)]] (.v (.n .i64 (rErr js ms n m))))]) 60) (qQ T 58 [0,1,0,1,1]) ((cxF T (OrL.k [(65,o_cr [.a [.lf n (fJ js),.lf m (fM ms)]] (.v (.n .i64 (rErr js ms n m))))]) 60 58 (ntmF T 58)).T.hint (cxF T (OrL.k [(65,o_cr [.a [.lf n (fJ js),.lf m (fM ms)]] (.v (.n .i64 (rErr js ms n m))))]) 60 58 (ntmF T 58)).me (qJ (qQ T 58 [0,1,0,1,1]))) K G (hRi js ms q n m k i) =
 (bif (decide (i < (k:Int))) then (bif (inB i k) then (bif (inB i n) then (bif (decide ((q (i).toNat) < (js (i).toNat).lo)) then (K .ret ⟨[(4,.v (.b false))],[]⟩)
 else (bif (inB i k) then (bif (inB i n) then (bif (decide ((js (i).toNat).hi < (q (i).toNat))) then (K .ret ⟨[(4,.v (.b false))],[]⟩)
 else (G (hRi js ms q n m k (vJJ .i64 (i + 1)))))
 else none)
 else none))
 else none)
 else none)
 else (K (.exit 0) ⟨[],[]⟩)):=by kernel_rfl
theorem lpRi (K:Cont) (js:Nat→J) (ms:Nat→Ms) (q:Nat→Int) (n m k:Nat) (_:k≤50) (_:n=k):LF 60 (cxF T (OrL.k [(65,o_cr [.a [.lf n (fJ js),.lf m (fM ms)]] (.v (.n .i64 (rErr js ms n m))))]) 60 58 (ntmF T 58)) (ckF T (OrL.k [(65,o_cr [.a [.lf n (fJ js),.lf m (fM ms)]] (.v (.n .i64 (rErr js ms n m))))]) 60) (qQ T 58 [0,1,0,1,1]) ((cxF T (OrL.k [(65,o_cr [.a [.lf n (fJ js),.lf m (fM ms)]] (.v (.n .i64 (rErr js ms n m))))]) 60 58 (ntmF T 58)).T.hint (cxF T (OrL.k [(65,o_cr [.a [.lf n (fJ js),.lf m (fM ms)]] (.v (.n .i64 (rErr js ms n m))))]) 60 58 (ntmF T 58)).me (qJ (qQ T 58 [0,1,0,1,1]))) K 60 (hRi js ms q n m k 0)=bif (allN (fun i:Nat => !decide (q i < (js i).lo) && !decide ((js i).hi < q i)) k 0) then (K (.exit 0) ⟨[],[]⟩) else (K .ret ⟨[(4,.v (.b false))],[]⟩):=by
 refine (yYX (c:=k) (hRi js ms q n m k) (fun i:Nat => !decide (q i < (js i).lo) && !decide ((js i).hi < q i)) (K (.exit 0) ⟨[],[]⟩) (fun i:Nat=>(K .ret ⟨[(4,.v (.b false))],[]⟩)) (fun G i hi => ?_) (fun G => ?_) k 0 60 (by omega) (by omega)).trans (yW _ _ _ _ _)
 ·refine (rdRi G K js ms q n m k i).trans ?_;rw [vJQ (show (i:Int) < (k:Int) by omega),kY (by omega),yZ (show i < k by omega),yZ (show i < n by omega),toN];cases decide (q i < (js i).lo) <;> cases decide ((js i).hi < q i) <;> rfl
 ·refine (rdRi G K js ms q n m k k).trans ?_;rw [vYH (show ¬ (k:Int) < (k:Int) by omega)];rfl
def rqIn (js:Nat→J) (ms:Nat→Ms) (q:Nat→Int) (n m k:Nat):Bool:=decide (rErr js ms n m=0) && (decide ((k:Int)=(n:Int)) && (allN (fun i:Nat => !decide (q i < (js i).lo) && !decide ((js i).hi < q i)) k 0))
set_option maxRecDepth 100000 in
theorem uJB (js:Nat→J) (ms:Nat→Ms) (q:Nat→Int) (n m k:Nat):zZB T (OrL.k [(65,o_cr [.a [.lf n (fJ js),.lf m (fM ms)]] (.v (.n .i64 (rErr js ms n m))))]) (qZ [([0,1,0,1,1],qQU (hRi js ms q n m k 0) (fun K=>(bif (decide (k≤50) && decide (n=k)) then (bif (allN (fun i:Nat => !decide (q i < (js i).lo) && !decide ((js i).hi < q i)) k 0) then (K (.exit 0) ⟨[],[]⟩) else (K .ret ⟨[(4,.v (.b false))],[]⟩)) else none)))]) 60 58 [.a [.lf n (fJ js),.lf m (fM ms)],.lf k (fQ q)] =
 (bif (g1 [.a [.lf n (fJ js),.lf m (fM ms)]]) then (bif (!decide ((rErr js ms n m)=0)) then some (.v (.b false),[])
 else (bif (!decide ((k:Int)=(n:Int))) then some (.v (.b false),[])
 else (bif (gSt (hRi js ms q n m k 0) (hRi js ms q n m k 0)) then (bif (decide (k≤50) && decide (n=k)) then (bif (allN (fun i:Nat => !decide (q i < (js i).lo) && !decide ((js i).hi < q i)) k 0) then some (.v (.b true),[])
 else some (.v (.b false),[]))
 else none)
 else none)))
 else none):=by kernel_rfl
theorem jJA (js:Nat→J) (ms:Nat→Ms) (q:Nat→Int) (n m k:Nat):yK Tryz.prog 58 [.a [.lf n (fJ js),.lf m (fM ms)],.lf k (fQ q)] (.v (.b (rqIn js ms q n m k))):=by
 refine qQE (N:=60) (LO:=qZ [([0,1,0,1,1],qQU (hRi js ms q n m k 0) (fun K=>(bif (decide (k≤50) && decide (n=k)) then (bif (allN (fun i:Nat => !decide (q i < (js i).lo) && !decide ((js i).hi < q i)) k 0) then (K (.exit 0) ⟨[],[]⟩) else (K .ret ⟨[(4,.v (.b false))],[]⟩)) else none)))]) yX zW (OrL.ok (l:=[(65,o_cr [.a [.lf n (fJ js),.lf m (fM ms)]] (.v (.n .i64 (rErr js ms n m))))]) ⟨zVL (yKB js ms n m),trivial⟩) (fun p S hp => ?_) ?_
 ·refine qYQ (L:=qQ T 58) (l:=[([0,1,0,1,1],qQU (hRi js ms q n m k 0) (fun K=>(bif (decide (k≤50) && decide (n=k)) then (bif (allN (fun i:Nat => !decide (q i < (js i).lo) && !decide ((js i).hi < q i)) k 0) then (K (.exit 0) ⟨[],[]⟩) else (K .ret ⟨[(4,.v (.b false))],[]⟩)) else none)))]) (show AllP _ [([0,1,0,1,1],qQU (hRi js ms q n m k 0) (fun K=>(bif (decide (k≤50) && decide (n=k)) then (bif (allN (fun i:Nat => !decide (q i < (js i).lo) && !decide ((js i).hi < q i)) k 0) then (K (.exit 0) ⟨[],[]⟩) else (K .ret ⟨[(4,.v (.b false))],[]⟩)) else none)))] from ⟨qJQ fun K r hr => ?_,trivial⟩) p S hp
  ·obtain ⟨hg,hr⟩:=qY hr;rw [vQJ] at hg;have hk:=vJZ hg.1;have hn:=vJZ hg.2;exact (lpRi K js ms q n m k hk hn).trans hr
 ·refine (uJB js ms q n m k).trans ?_;unfold rqIn;rw [g1_t];by_cases h:rErr js ms n m=0
  ·have:=zJI h
   rw [vJQ h];by_cases e:k=n
   ·subst e;rw [yU,vJQ (show k≤50 by omega),vJQ (show k=k from rfl),vJQ (show (k:Int)=(k:Int) from rfl)];cases (allN (fun i:Nat => !decide (q i < (js i).lo) && !decide ((js i).hi < q i)) k 0) <;> rfl
   ·rw [vYH (show ¬ (k:Int)=(n:Int) by omega)];rfl
  ·rw [vYH h]; rfl
theorem nlt (a b:Int):(!decide (a < b))=decide (b≤a):=by by_cases h:a < b <;> simp [h] <;> omega
theorem uYL (js:Nat→J) (ms:Nat→Ms) (q:Nat→Int) (n m k:Nat):rqIn js ms q n m k=qIn js ms q n m k:=by
 unfold rqIn qIn insQ;by_cases e:n=k
 ·subst e;simp only [nlt]
 ·rw [vYH (show ¬ (n:Int)=(k:Int) by omega),vYH (show ¬ (k:Int)=(n:Int) by omega)]; rfl
theorem kQV (js:Nat→J) (ms:Nat→Ms) (q:Nat→Int) (n m k:Nat):yK Tryz.prog 58 [.a [.lf n (fJ js),.lf m (fM ms)],.lf k (fQ q)] (.v (.b (qIn js ms q n m k))):=by
 have h:=jJA js ms q n m k;rw [uYL] at h;exact h
end Go.Proofs.YtgmbkkkbfbocnaaGreat.Nl
namespace Go.Proofs.YtgmbkkkbfbocnaaGreat.Nm
end Go.Proofs.YtgmbkkkbfbocnaaGreat.Nm
namespace Go.Proofs.YtgmbkkkbfbocnaaGreat.Hb
open Go.Rx Rt Go.Sx Go.RowKit Od Na Nb Nc Nx Nf Nl Nm Ga Gb Gc Gd Ge Gf Gg Ha
def knB (ws:Wsp) (h q:Int):Bool:=decide (0≤h) && (decide (h < (ws.nh:Int)) && (decide (0≤q) && decide (q < (ws.np:Int))))
noncomputable def xHE (_:Wsp) (_ q:Int):OrS:=orS [] []
noncomputable def kXY (_:Wsp) (_ q:Int):List (List Nat × jG):=[]
set_option maxRecDepth 100000 in
theorem xGI (ws:Wsp) (h q:Int):uJ Tf (xHE ws h q) (qZ (kXY ws h q)) 60 70 [.a (wP ws),.n .i64 h,.n .i64 q] =
 (bif (decide (0≤h)) then (bif (decide (h < (ws.nh:Int))) then (bif (decide (0≤q)) then (bif (decide (q < (ws.np:Int))) then some (.v (.b true),[])
 else some (.v (.b false),[]))
 else some (.v (.b false),[]))
 else some (.v (.b false),[]))
 else some (.v (.b false),[])):=by kernel_rfl
theorem uZE (ws:Wsp) (h q:Int):yK Tryz.prog 70 [.a (wP ws),.n .i64 h,.n .i64 q] (.v (.b (knB ws h q))):=by
 refine zZ (N:=60) (LO:=qZ (kXY ws h q)) jU zW (jW (l:=[]) (m:=[]) trivial trivial) (fun p S hp => ?_) ?_
 ·refine qH (L:=qQ Tf 70) (l:=(kXY ws h q)) (show AllP _ (kXY ws h q) from trivial) p S hp
 ·refine (xGI ws h q).trans ?_;unfold knB;cases decide (0≤h) <;> cases decide (h < (ws.nh:Int)) <;> cases decide (0≤q) <;> cases decide (q < (ws.np:Int)) <;> rfl
def ckn:Wsp × Int × Int→Prop:=fun t=>match t with | (_,_,_)=>True
def ekn:Wsp × Int × Int→List PV:=fun t=>match t with | (ws,a,b)=>[.a (wP ws),.n .i64 a,.n .i64 b]
noncomputable def rkn:Wsp × Int × Int→Ret:=fun t=>match t with | (ws,a,b)=>.v (.b (knB ws a b))
def dkn:List PV→Wsp × Int × Int:=fun ps=>match ps with
 | [.a r,.n _ h,.n _ q]=>(unW r,h,q)
 | _=>(unW [],0,0)
noncomputable def o_kn:List PV→Option (Bool × Ret):=o_fm dkn ckn ekn rkn
theorem fQL:zY Tryz.prog 70 o_kn:=uK fun t h=>by
 obtain ⟨ws,a,b⟩:=t;exact uZE ws a b
def cin:(Nat→J) × (Nat→Ms) × Nat × Nat × Nat × (Nat→Int)→Prop:=fun t=>match t with | (_,_,_,_,_,_)=>True
def ein:(Nat→J) × (Nat→Ms) × Nat × Nat × Nat × (Nat→Int)→List PV:=fun t=>match t with | (js,ms,n,m,k,q)=>[.a [.lf n (fJ js),.lf m (fM ms)],.lf k (fQ q)]
noncomputable def rin:(Nat→J) × (Nat→Ms) × Nat × Nat × Nat × (Nat→Int)→Ret:=fun t=>match t with | (js,ms,n,m,k,q)=>.v (.b (qIn js ms q n m k))
def din:List PV→(Nat→J) × (Nat→Ms) × Nat × Nat × Nat × (Nat→Int):=fun ps=>match ps with
 | [.a [.lf n js,.lf m ms],.lf k f]=>(unFJ js,unFM ms,n,m,k,unFQ f)
 | _=>(fun _=>⟨ByteArray.empty,0,0,⟨0,0,0⟩,0,0,0,0,0,0⟩,fun _=>⟨0,0,⟨0,0,0⟩⟩,0,0,0,fun _=>0)
noncomputable def o_in:List PV→Option (Bool × Ret):=o_fm din cin ein rin
theorem fZJ:zY Tryz.prog 71 o_in:=uK fun t h=>by
 obtain ⟨js,ms,n,m,k,q⟩:=t;exact uZV js ms q n m k
def cri:(Nat→J) × (Nat→Ms) × Nat × Nat × Nat × (Nat→Int)→Prop:=fun t=>match t with | (_,_,_,_,_,_)=>True
def eri:(Nat→J) × (Nat→Ms) × Nat × Nat × Nat × (Nat→Int)→List PV:=fun t=>match t with | (js,ms,n,m,k,q)=>[.a [.lf n (fJ js),.lf m (fM ms)],.lf k (fQ q)]
noncomputable def rri:(Nat→J) × (Nat→Ms) × Nat × Nat × Nat × (Nat→Int)→Ret:=fun t=>match t with | (js,ms,n,m,k,q)=>.v (.b (qIn js ms q n m k))
def dri:List PV→(Nat→J) × (Nat→Ms) × Nat × Nat × Nat × (Nat→Int):=fun ps=>match ps with
 | [.a [.lf n js,.lf m ms],.lf k f]=>(unFJ js,unFM ms,n,m,k,unFQ f)
 | _=>(fun _=>⟨ByteArray.empty,0,0,⟨0,0,0⟩,0,0,0,0,0,0⟩,fun _=>⟨0,0,⟨0,0,0⟩⟩,0,0,0,fun _=>0)
noncomputable def o_ri:List PV→Option (Bool × Ret):=o_fm dri cri eri rri
theorem fQB:zY Tryz.prog 58 o_ri:=uK fun t h=>by
 obtain ⟨js,ms,n,m,k,q⟩:=t;exact kQV js ms q n m k
noncomputable def orFp (_:Wsp):OrS:=orS [(99,o_ne),(70,o_kn),(71,o_in)] []
noncomputable def hFp (ws:Wsp) (i:Int):St:=⟨[(1,.p 1 0),(40,.v (.lf ws.np (fZ ws.pl))),(41,.v (.n .i64 (ws.np:Int))),(42,.v (.n .i64 i))],[(1,.blk ((wP ws).map .v))]⟩
set_option maxRecDepth 100000 in
theorem rdFp (G:St→Option (Ret × Mem)) (K:Cont) (ws:Wsp) (i:Int):jJ 60 (cxS Tf (orFp ws) 60 51 (ntmF Tf 51)) (evX Tf (orFp ws) 60 51 (ntmF Tf 51)) (qZ []) (qQ Tf 51 [0,1,0,1,1,1]) [0,1,0,1,1,1] (Tf.hint 51 (qJ (qQ Tf 51 [0,1,0,1,1,1]))) K G (hFp ws i) =
 (bif (decide (i < (ws.np:Int))) then (bif (inB i ws.np) then (bif (gF1 cne ene (ws.pl (i).toNat)) then (bif (zOk 2097152 (ws.pl (i).toNat)) then (G (hFp ws (vJJ .i64 (i + 1))))
 else (K .ret ⟨[(1,.p 1 0),(2,.v (.b false))],[(1,.blk ((wP ws).map .v))]⟩))
 else none)
 else none)
 else (K (.exit 0) ⟨[(1,.p 1 0)],[(1,.blk ((wP ws).map .v))]⟩)):=by kernel_rfl
def hdOk (n:Nat) (h:Hnd):Bool:=!decide (h.link < 0) && (!decide ((n:Int)≤h.link) && zOk 2097152 h.off)
def grOk (ws:Wsp) (g:Grp):Bool:=knB ws g.hand g.place && qIn ws.js ws.ms g.cf ws.n ws.m g.na
def plG (ws:Wsp):Bool:=allN (fun i:Nat=>zOk 2097152 (ws.pl i)) ws.np 0
def hdG (ws:Wsp):Bool:=allN (fun i:Nat=>hdOk ws.n (ws.hd i)) ws.nh 0
def grG (ws:Wsp):Bool:=allN (fun i:Nat=>grOk ws (ws.gr i)) ws.ng 0
def szG (ws:Wsp):Bool:=!decide (6 < (ws.no:Int)) && (!decide (8 < (ws.np:Int)) && (!decide (3 < (ws.nh:Int)) && (!decide (32 < (ws.ng:Int)) && (!decide (ws.slack < 0) && !decide (65536 < ws.slack)))))
def fiB (ws:Wsp):Bool:=szG ws && (plG ws && (hdG ws && grG ws))
theorem lpFp (K:Cont) (ws:Wsp) (_:ws.np≤50):LFX 60 (cxS Tf (orFp ws) 60 51 (ntmF Tf 51)) (evX Tf (orFp ws) 60 51 (ntmF Tf 51)) (qZ []) (qQ Tf 51 [0,1,0,1,1,1]) [0,1,0,1,1,1] (Tf.hint 51 (qJ (qQ Tf 51 [0,1,0,1,1,1]))) K 60 (hFp ws 0)=bif (allN (fun i:Nat=>zOk 2097152 (ws.pl i)) ws.np 0) then (K (.exit 0) ⟨[(1,.p 1 0)],[(1,.blk ((wP ws).map .v))]⟩) else (K .ret ⟨[(1,.p 1 0),(2,.v (.b false))],[(1,.blk ((wP ws).map .v))]⟩):=by
 refine (kW (L:=LFX 60 (cxS Tf (orFp ws) 60 51 (ntmF Tf 51)) (evX Tf (orFp ws) 60 51 (ntmF Tf 51)) (qZ []) (qQ Tf 51 [0,1,0,1,1,1]) [0,1,0,1,1,1] (Tf.hint 51 (qJ (qQ Tf 51 [0,1,0,1,1,1]))) K) (stp:=jJ 60 (cxS Tf (orFp ws) 60 51 (ntmF Tf 51)) (evX Tf (orFp ws) 60 51 (ntmF Tf 51)) (qZ []) (qQ Tf 51 [0,1,0,1,1,1]) [0,1,0,1,1,1] (Tf.hint 51 (qJ (qQ Tf 51 [0,1,0,1,1,1]))) K) (fun _ _=>rfl) (fun (i:Nat) (_:Unit)=>hFp ws (i:Int)) (fun _ _=>True) (fun (i:Nat) _=>zOk 2097152 (ws.pl i)) (fun _ _=>()) (c:=ws.np) (fun _=>(K (.exit 0) ⟨[(1,.p 1 0)],[(1,.blk ((wP ws).map .v))]⟩)) (fun i _=>(K .ret ⟨[(1,.p 1 0),(2,.v (.b false))],[(1,.blk ((wP ws).map .v))]⟩)) (fun G i f hi _ => ?_) (fun _ _ _ _ _=>trivial) (fun G f _ => ?_) ws.np 0 60 () (by omega) (by omega) trivial).trans ((yH _ _ _ _ _).trans (yW _ _ _ _ _))
 ·refine (rdFp G K ws i).trans ?_;rw [vJQ (show (i:Int) < (ws.np:Int) by omega),kY (by omega),yZ (show i < ws.np by omega),toN,jQ (C:=cne) (t:=ws.pl i) trivial];cases zOk 2097152 (ws.pl i) <;> rfl
 ·refine (rdFp G K ws ws.np).trans ?_;rw [vYH (show ¬ (ws.np:Int) < (ws.np:Int) by omega)];rfl
noncomputable def hFq (ws:Wsp) (i:Int):St:=⟨[(1,.p 1 0),(51,.v (.lf ws.nh (fH ws.hd))),(52,.v (.n .i64 (ws.nh:Int))),(53,.v (.n .i64 i))],[(1,.blk ((wP ws).map .v))]⟩
set_option maxRecDepth 100000 in
theorem rdFq (G:St→Option (Ret × Mem)) (K:Cont) (ws:Wsp) (i:Int):jJ 60 (cxS Tf (orFp ws) 60 51 (ntmF Tf 51)) (evX Tf (orFp ws) 60 51 (ntmF Tf 51)) (qZ []) (qQ Tf 51 [0,1,0,1,1,1,1]) [0,1,0,1,1,1,1] (Tf.hint 51 (qJ (qQ Tf 51 [0,1,0,1,1,1,1]))) K G (hFq ws i) =
 (bif (decide (i < (ws.nh:Int))) then (bif (inB i ws.nh) then (bif (decide ((ws.hd (i).toNat).link < 0)) then (K .ret ⟨[(1,.p 1 0),(2,.v (.b false))],[(1,.blk ((wP ws).map .v))]⟩)
 else (bif (decide ((ws.n:Int)≤(ws.hd (i).toNat).link)) then (K .ret ⟨[(1,.p 1 0),(2,.v (.b false))],[(1,.blk ((wP ws).map .v))]⟩)
 else (bif (gF1 cne ene ((ws.hd (i).toNat).off)) then (bif (zOk 2097152 ((ws.hd (i).toNat).off)) then (G (hFq ws (vJJ .i64 (i + 1))))
 else (K .ret ⟨[(1,.p 1 0),(2,.v (.b false))],[(1,.blk ((wP ws).map .v))]⟩))
 else none)))
 else none)
 else (K (.exit 2) ⟨[(1,.p 1 0)],[(1,.blk ((wP ws).map .v))]⟩)):=by kernel_rfl
theorem lpFq (K:Cont) (ws:Wsp) (_:ws.nh≤50):LFX 60 (cxS Tf (orFp ws) 60 51 (ntmF Tf 51)) (evX Tf (orFp ws) 60 51 (ntmF Tf 51)) (qZ []) (qQ Tf 51 [0,1,0,1,1,1,1]) [0,1,0,1,1,1,1] (Tf.hint 51 (qJ (qQ Tf 51 [0,1,0,1,1,1,1]))) K 60 (hFq ws 0)=bif (allN (fun i:Nat=>hdOk ws.n (ws.hd i)) ws.nh 0) then (K (.exit 2) ⟨[(1,.p 1 0)],[(1,.blk ((wP ws).map .v))]⟩) else (K .ret ⟨[(1,.p 1 0),(2,.v (.b false))],[(1,.blk ((wP ws).map .v))]⟩):=by
 refine (kW (L:=LFX 60 (cxS Tf (orFp ws) 60 51 (ntmF Tf 51)) (evX Tf (orFp ws) 60 51 (ntmF Tf 51)) (qZ []) (qQ Tf 51 [0,1,0,1,1,1,1]) [0,1,0,1,1,1,1] (Tf.hint 51 (qJ (qQ Tf 51 [0,1,0,1,1,1,1]))) K) (stp:=jJ 60 (cxS Tf (orFp ws) 60 51 (ntmF Tf 51)) (evX Tf (orFp ws) 60 51 (ntmF Tf 51)) (qZ []) (qQ Tf 51 [0,1,0,1,1,1,1]) [0,1,0,1,1,1,1] (Tf.hint 51 (qJ (qQ Tf 51 [0,1,0,1,1,1,1]))) K) (fun _ _=>rfl) (fun (i:Nat) (_:Unit)=>hFq ws (i:Int)) (fun _ _=>True) (fun (i:Nat) _=>hdOk ws.n (ws.hd i)) (fun _ _=>()) (c:=ws.nh) (fun _=>(K (.exit 2) ⟨[(1,.p 1 0)],[(1,.blk ((wP ws).map .v))]⟩)) (fun i _=>(K .ret ⟨[(1,.p 1 0),(2,.v (.b false))],[(1,.blk ((wP ws).map .v))]⟩)) (fun G i f hi _ => ?_) (fun _ _ _ _ _=>trivial) (fun G f _ => ?_) ws.nh 0 60 () (by omega) (by omega) trivial).trans ((yH _ _ _ _ _).trans (yW _ _ _ _ _))
 ·refine (rdFq G K ws i).trans ?_;rw [vJQ (show (i:Int) < (ws.nh:Int) by omega),kY (by omega),yZ (show i < ws.nh by omega),toN,jQ (C:=cne) (t:=(ws.hd i).off) trivial];unfold hdOk;cases decide ((ws.hd i).link < 0) <;> cases decide ((ws.n:Int)≤(ws.hd i).link) <;> cases zOk 2097152 (ws.hd i).off <;> rfl
 ·refine (rdFq G K ws ws.nh).trans ?_;rw [vYH (show ¬ (ws.nh:Int) < (ws.nh:Int) by omega)];rfl
noncomputable def hFr (ws:Wsp) (i:Int):St:=⟨[(1,.p 1 0),(78,.v (.lf ws.ng (fG ws.gr))),(79,.v (.n .i64 (ws.ng:Int))),(80,.v (.n .i64 i))],[(1,.blk ((wP ws).map .v))]⟩
set_option maxRecDepth 100000 in
theorem rdFr (G:St→Option (Ret × Mem)) (K:Cont) (ws:Wsp) (i:Int):jJ 60 (cxS Tf (orFp ws) 60 51 (ntmF Tf 51)) (evX Tf (orFp ws) 60 51 (ntmF Tf 51)) (qZ []) (qQ Tf 51 [0,1,0,1,1,1,1,1]) [0,1,0,1,1,1,1,1] (Tf.hint 51 (qJ (qQ Tf 51 [0,1,0,1,1,1,1,1]))) K G (hFr ws i) =
 (bif (decide (i < (ws.ng:Int))) then (bif (inB i ws.ng) then (bif (gF1 ckn ekn (ws,((ws.gr (i).toNat).hand),((ws.gr (i).toNat).place))) then (bif (knB ws ((ws.gr (i).toNat).hand) ((ws.gr (i).toNat).place)) then (bif (gF1 cin ein (ws.js,ws.ms,ws.n,ws.m,((ws.gr (i).toNat).na),((ws.gr (i).toNat).cf))) then (bif (qIn ws.js ws.ms ((ws.gr (i).toNat).cf) ws.n ws.m ((ws.gr (i).toNat).na)) then (G (hFr ws (vJJ .i64 (i + 1))))
 else (K .ret ⟨[(2,.v (.b false))],[]⟩))
 else none)
 else (K .ret ⟨[(2,.v (.b false))],[]⟩))
 else none)
 else none)
 else (K (.exit 4) ⟨[],[]⟩)):=by kernel_rfl
theorem lpFr (K:Cont) (ws:Wsp) (_:ws.ng≤50):LFX 60 (cxS Tf (orFp ws) 60 51 (ntmF Tf 51)) (evX Tf (orFp ws) 60 51 (ntmF Tf 51)) (qZ []) (qQ Tf 51 [0,1,0,1,1,1,1,1]) [0,1,0,1,1,1,1,1] (Tf.hint 51 (qJ (qQ Tf 51 [0,1,0,1,1,1,1,1]))) K 60 (hFr ws 0)=bif (allN (fun i:Nat=>grOk ws (ws.gr i)) ws.ng 0) then (K (.exit 4) ⟨[],[]⟩) else (K .ret ⟨[(2,.v (.b false))],[]⟩):=by
 refine (kW (L:=LFX 60 (cxS Tf (orFp ws) 60 51 (ntmF Tf 51)) (evX Tf (orFp ws) 60 51 (ntmF Tf 51)) (qZ []) (qQ Tf 51 [0,1,0,1,1,1,1,1]) [0,1,0,1,1,1,1,1] (Tf.hint 51 (qJ (qQ Tf 51 [0,1,0,1,1,1,1,1]))) K) (stp:=jJ 60 (cxS Tf (orFp ws) 60 51 (ntmF Tf 51)) (evX Tf (orFp ws) 60 51 (ntmF Tf 51)) (qZ []) (qQ Tf 51 [0,1,0,1,1,1,1,1]) [0,1,0,1,1,1,1,1] (Tf.hint 51 (qJ (qQ Tf 51 [0,1,0,1,1,1,1,1]))) K) (fun _ _=>rfl) (fun (i:Nat) (_:Unit)=>hFr ws (i:Int)) (fun _ _=>True) (fun (i:Nat) _=>grOk ws (ws.gr i)) (fun _ _=>()) (c:=ws.ng) (fun _=>(K (.exit 4) ⟨[],[]⟩)) (fun i _=>(K .ret ⟨[(2,.v (.b false))],[]⟩)) (fun G i f hi _ => ?_) (fun _ _ _ _ _=>trivial) (fun G f _ => ?_) ws.ng 0 60 () (by omega) (by omega) trivial).trans ((yH _ _ _ _ _).trans (yW _ _ _ _ _))
 ·refine (rdFr G K ws i).trans ?_;rw [vJQ (show (i:Int) < (ws.ng:Int) by omega),kY (by omega),yZ (show i < ws.ng by omega),toN,jQ (C:=ckn) (t:=(ws,(ws.gr i).hand,(ws.gr i).place)) trivial,jQ (C:=cin) (t:=(ws.js,ws.ms,ws.n,ws.m,(ws.gr i).na,(ws.gr i).cf)) trivial];unfold grOk;cases knB ws (ws.gr i).hand (ws.gr i).place <;> cases qIn ws.js ws.ms (ws.gr i).cf ws.n ws.m (ws.gr i).na <;> rfl
 ·refine (rdFr G K ws ws.ng).trans ?_;rw [vYH (show ¬ (ws.ng:Int) < (ws.ng:Int) by omega)];rfl
noncomputable def kXV (ws:Wsp):List (List Nat × jG):=[([0,1,0,1,1,1],sumF (fun _:Unit=>(hFp ws 0)) (fun _=>()) (fun _ K=>(bif (decide (ws.np≤50)) then (bif (allN (fun i:Nat=>zOk 2097152 (ws.pl i)) ws.np 0) then (K (.exit 0) ⟨[(1,.p 1 0)],[(1,.blk ((wP ws).map .v))]⟩) else (K .ret ⟨[(1,.p 1 0),(2,.v (.b false))],[(1,.blk ((wP ws).map .v))]⟩)) else none))),([0,1,0,1,1,1,1],sumF (fun _:Unit=>(hFq ws 0)) (fun _=>()) (fun _ K=>(bif (decide (ws.nh≤50)) then (bif (allN (fun i:Nat=>hdOk ws.n (ws.hd i)) ws.nh 0) then (K (.exit 2) ⟨[(1,.p 1 0)],[(1,.blk ((wP ws).map .v))]⟩) else (K .ret ⟨[(1,.p 1 0),(2,.v (.b false))],[(1,.blk ((wP ws).map .v))]⟩)) else none))),([0,1,0,1,1,1,1,1],sumF (fun _:Unit=>(hFr ws 0)) (fun _=>()) (fun _ K=>(bif (decide (ws.ng≤50)) then (bif (allN (fun i:Nat=>grOk ws (ws.gr i)) ws.ng 0) then (K (.exit 4) ⟨[],[]⟩) else (K .ret ⟨[(2,.v (.b false))],[]⟩)) else none)))]
set_option maxRecDepth 100000 in
theorem xHK (ws:Wsp):uJ Tf (orFp ws) (qZ (kXV ws)) 60 51 [.a (wP ws)] =
 (bif (decide (6 < (ws.no:Int))) then some (.v (.b false),[])
 else (bif (decide (8 < (ws.np:Int))) then some (.v (.b false),[])
 else (bif (decide (3 < (ws.nh:Int))) then some (.v (.b false),[])
 else (bif (decide (32 < (ws.ng:Int))) then some (.v (.b false),[])
 else (bif (decide (ws.slack < 0)) then some (.v (.b false),[])
 else (bif (decide (65536 < ws.slack)) then some (.v (.b false),[])
 else (bif (gSt (hFp ws 0) (hFp ws 0)) then (bif (decide (ws.np≤50)) then (bif (allN (fun i:Nat=>zOk 2097152 (ws.pl i)) ws.np 0) then (bif (gSt (hFq ws 0) (hFq ws 0)) then (bif (decide (ws.nh≤50)) then (bif (allN (fun i:Nat=>hdOk ws.n (ws.hd i)) ws.nh 0) then (bif (gSt (hFr ws 0) (hFr ws 0)) then (bif (decide (ws.ng≤50)) then (bif (allN (fun i:Nat=>grOk ws (ws.gr i)) ws.ng 0) then some (.v (.b true),[])
 else some (.v (.b false),[]))
 else none)
 else none)
 else some (.v (.b false),[]))
 else none)
 else none)
 else some (.v (.b false),[]))
 else none)
 else none))))))):=by kernel_rfl
theorem uYJ (ws:Wsp):yK Tryz.prog 51 [.a (wP ws)] (.v (.b (fiB ws))):=by
 refine zZ (N:=60) (LO:=qZ (kXV ws)) jU zW (jW (l:=[(99,o_ne),(70,o_kn),(71,o_in)]) (m:=[]) ⟨xYJ,fQL,fZJ,trivial⟩ trivial) (fun p S hp => ?_) ?_
 ·refine qH (L:=qQ Tf 51) (l:=(kXV ws)) (show AllP _ (kXV ws) from ⟨?_,?_,?_,trivial⟩) p S hp
  ·dsimp only;refine jY (T:=Tf) (o:=(orFp ws)) (f:=51) (LO:=qZ []) (p:=[0,1,0,1,1,1]) kK ?_;intro t K r hr;obtain ⟨hg,hr⟩:=qY hr;have hk:=vJZ hg;exact (lpFp K ws hk).trans hr
  ·dsimp only;refine jY (T:=Tf) (o:=(orFp ws)) (f:=51) (LO:=qZ []) (p:=[0,1,0,1,1,1,1]) kK ?_;intro t K r hr;obtain ⟨hg,hr⟩:=qY hr;have hk:=vJZ hg;exact (lpFq K ws hk).trans hr
  ·dsimp only;refine jY (T:=Tf) (o:=(orFp ws)) (f:=51) (LO:=qZ []) (p:=[0,1,0,1,1,1,1,1]) kK ?_;intro t K r hr;obtain ⟨hg,hr⟩:=qY hr;have hk:=vJZ hg;exact (lpFr K ws hk).trans hr
 ·refine (xHK ws).trans ?_;unfold fiB szG plG hdG grG;by_cases h1:6 < (ws.no:Int)
  ·rw [vJQ h1]; rfl
  by_cases h2:8 < (ws.np:Int)
  ·rw [vYH h1,vJQ h2]; rfl
  by_cases h3:3 < (ws.nh:Int)
  ·rw [vYH h1,vYH h2,vJQ h3]; rfl
  by_cases h4:32 < (ws.ng:Int)
  ·rw [vYH h1,vYH h2,vYH h3,vJQ h4]; rfl
  rw [vYH h1,vYH h2,vYH h3,vYH h4];simp only [yU,vJQ (show ws.np≤50 by omega),vJQ (show ws.nh≤50 by omega),vJQ (show ws.ng≤50 by omega)];cases decide (ws.slack < 0) <;> cases decide (65536 < ws.slack) <;> cases allN (fun i:Nat=>zOk 2097152 (ws.pl i)) ws.np 0 <;> cases allN (fun i:Nat=>hdOk ws.n (ws.hd i)) ws.nh 0 <;> cases allN (fun i:Nat=>grOk ws (ws.gr i)) ws.ng 0 <;> rfl
def cfi:Wsp→Prop:=fun t=>match t with | _=>True
def efi:Wsp→List PV:=fun t=>match t with | ws=>[.a (wP ws)]
noncomputable def rfi:Wsp→Ret:=fun t=>match t with | ws=>.v (.b (fiB ws))
def dfi:List PV→Wsp:=fun ps=>match ps with
 | [.a r]=>unW r
 | _=>(unW [])
noncomputable def o_fi:List PV→Option (Bool × Ret):=o_fm dfi cfi efi rfi
theorem fZK:zY Tryz.prog 51 o_fi:=uK fun t h=>by
 revert h; revert t; intro ws h
 exact uYJ ws
end Go.Proofs.YtgmbkkkbfbocnaaGreat.Hb

/- Part 31 of the texts behind the last one: rules and contracts. No condition. -/
import Derived.Test.YtgmbkkkbfbocnaaGreatKL30
open Go.IntKind renaming wrap → vJJ
namespace Go.Proofs.YtgmbkkkbfbocnaaGreat.Gc
open Go.Rx Rt Go.Sx Go.RowKit Od Na Nb Nc Nx Nf Ga Gb
def shG (sh:Nat→Shp) (n c:Nat):Bool:=allN (fun i:Nat=>decide (shE n (sh i)=0)) c 0
def skG (sk:Nat→Skp) (n d:Nat):Bool:=allN (fun i:Nat=>isLk n (sk i).a && isLk n (sk i).b) d 0
def sErr (js:Nat→J) (ms:Nat→Ms) (sh:Nat→Shp) (sk:Nat→Skp) (n m c d:Nat):Int:=bif decide (rErr js ms n m=0) then (bif decide (24 < (c:Int)) then 901 else bif shG sh n c then (bif decide (64 < (d:Int)) then 903 else bif skG sk n d then 0 else 903) else shE n (sh (Rx.firstK (fun i:Nat=>decide (shE n (sh i)=0)) c 0))) else rErr js ms n m
noncomputable def orSa (js:Nat→J) (ms:Nat→Ms) (sh:Nat→Shp) (sk:Nat→Skp) (n m c d:Nat):OrS:=orS [(85,o_cr [.a [.lf n (fJ js),.lf m (fM ms)]] (.v (.n .i64 (rErr js ms n m)))),(97,o_cs),(98,o_il)] []
noncomputable def hSa (js:Nat→J) (ms:Nat→Ms) (sh:Nat→Shp) (sk:Nat→Skp) (n m c d:Nat) (i:Int):St:=⟨[(1,.p 1 0),(20,.v (.lf c (fS sh))),(21,.v (.n .i64 (c:Int))),(22,.v (.n .i64 i))],[(1,.blk [.v (.lf n (fJ js)),.v (.lf m (fM ms)),.v (.lf c (fS sh)),.v (.lf d (fK sk))])]⟩
set_option maxRecDepth 100000 in
theorem rdSa (G:St→Option (Ret × Mem)) (K:Cont) (js:Nat→J) (ms:Nat→Ms) (sh:Nat→Shp) (sk:Nat→Skp) (n m c d:Nat) (i:Int):uX 100 (cxS Tf (orSa js ms sh sk n m c d) 100 50 (ntmF Tf 50)) (evX Tf (orSa js ms sh sk n m c d) 100 50 (ntmF Tf 50)) (qX []) (qQ Tf 50 [0,1,0,1,1,1]) [0,1,0,1,1,1] (Tf.hint 50 (qG (qQ Tf 50 [0,1,0,1,1,1]))) K G (hSa js ms sh sk n m c d i) =
 (bif (decide (i < (c:Int))) then (bif (inB i c) then (bif (gF1 ccs ecs (js,ms,sh,sk,n,m,c,d,(sh (i).toNat))) then (bif (!decide ((shE n (sh (i).toNat))=0)) then (K .ret ⟨[(1,.p 1 0),(2,.v (.n .i64 (shE n (sh (i).toNat))))],[(1,.blk [.v (.lf n (fJ js)),.v (.lf m (fM ms)),.v (.lf c (fS sh)),.v (.lf d (fK sk))])]⟩)
 else (G (hSa js ms sh sk n m c d (vJJ .i64 (i + 1)))))
 else none)
 else none)
 else (K (.exit 0) ⟨[(1,.p 1 0)],[(1,.blk [.v (.lf n (fJ js)),.v (.lf m (fM ms)),.v (.lf c (fS sh)),.v (.lf d (fK sk))])]⟩)):=by kernel_rfl
theorem lpSa (K:Cont) (js:Nat→J) (ms:Nat→Ms) (sh:Nat→Shp) (sk:Nat→Skp) (n m c d:Nat) (hc:c≤50):LFX 100 (cxS Tf (orSa js ms sh sk n m c d) 100 50 (ntmF Tf 50)) (evX Tf (orSa js ms sh sk n m c d) 100 50 (ntmF Tf 50)) (qX []) (qQ Tf 50 [0,1,0,1,1,1]) [0,1,0,1,1,1] (Tf.hint 50 (qG (qQ Tf 50 [0,1,0,1,1,1]))) K 100 (hSa js ms sh sk n m c d 0)=bif (allN (fun i:Nat=>decide (shE n (sh i)=0)) c 0) then (K (.exit 0) ⟨[(1,.p 1 0)],[(1,.blk [.v (.lf n (fJ js)),.v (.lf m (fM ms)),.v (.lf c (fS sh)),.v (.lf d (fK sk))])]⟩) else (K .ret ⟨[(1,.p 1 0),(2,.v (.n .i64 (shE n (sh (((Rx.firstK (fun i:Nat=>decide (shE n (sh i)=0)) c 0:Nat):Int)).toNat))))],[(1,.blk [.v (.lf n (fJ js)),.v (.lf m (fM ms)),.v (.lf c (fS sh)),.v (.lf d (fK sk))])]⟩):=by
 refine (qJU (L:=LFX 100 (cxS Tf (orSa js ms sh sk n m c d) 100 50 (ntmF Tf 50)) (evX Tf (orSa js ms sh sk n m c d) 100 50 (ntmF Tf 50)) (qX []) (qQ Tf 50 [0,1,0,1,1,1]) [0,1,0,1,1,1] (Tf.hint 50 (qG (qQ Tf 50 [0,1,0,1,1,1]))) K) (stp:=uX 100 (cxS Tf (orSa js ms sh sk n m c d) 100 50 (ntmF Tf 50)) (evX Tf (orSa js ms sh sk n m c d) 100 50 (ntmF Tf 50)) (qX []) (qQ Tf 50 [0,1,0,1,1,1]) [0,1,0,1,1,1] (Tf.hint 50 (qG (qQ Tf 50 [0,1,0,1,1,1]))) K) (fun _ _=>rfl) (fun (i:Nat) (_:Unit)=>hSa js ms sh sk n m c d (i:Int)) (fun _ _=>True) (fun (i:Nat) _=>decide (shE n (sh i)=0)) (fun _ _=>()) (c:=c) (fun _=>(K (.exit 0) ⟨[(1,.p 1 0)],[(1,.blk [.v (.lf n (fJ js)),.v (.lf m (fM ms)),.v (.lf c (fS sh)),.v (.lf d (fK sk))])]⟩)) (fun i _=>(K .ret ⟨[(1,.p 1 0),(2,.v (.n .i64 (shE n (sh ((i:Int)).toNat))))],[(1,.blk [.v (.lf n (fJ js)),.v (.lf m (fM ms)),.v (.lf c (fS sh)),.v (.lf d (fK sk))])]⟩)) (fun G i f hi _ => ?_) (fun _ _ _ _ _=>trivial) (fun G f _ => ?_) c 0 100 () (by omega) (by omega) trivial).trans ((qYV _ _ _ _ _).trans (qGY _ _ _ _ _))
 ·refine (rdSa G K js ms sh sk n m c d i).trans ?_;rw [vJQ (show (i:Int) < (c:Int) by omega),qZH (by omega),kX (show i < c by omega),toN,qGQ (C:=ccs) (t:=(js,ms,sh,sk,n,m,c,d,sh i)) trivial];cases decide (shE n (sh i)=0) <;> rfl
 ·refine (rdSa G K js ms sh sk n m c d c).trans ?_;rw [vYH (show ¬ (c:Int) < (c:Int) by omega)];rfl
noncomputable def hSb (js:Nat→J) (ms:Nat→Ms) (sh:Nat→Shp) (sk:Nat→Skp) (n m c d:Nat) (i:Int):St:=⟨[(1,.p 1 0),(38,.v (.lf d (fK sk))),(39,.v (.n .i64 (d:Int))),(40,.v (.n .i64 i))],[(1,.blk [.v (.lf n (fJ js)),.v (.lf m (fM ms)),.v (.lf c (fS sh)),.v (.lf d (fK sk))])]⟩
set_option maxRecDepth 100000 in
theorem rdSb (G:St→Option (Ret × Mem)) (K:Cont) (js:Nat→J) (ms:Nat→Ms) (sh:Nat→Shp) (sk:Nat→Skp) (n m c d:Nat) (i:Int):uX 100 (cxS Tf (orSa js ms sh sk n m c d) 100 50 (ntmF Tf 50)) (evX Tf (orSa js ms sh sk n m c d) 100 50 (ntmF Tf 50)) (qX []) (qQ Tf 50 [0,1,0,1,1,1,1,1]) [0,1,0,1,1,1,1,1] (Tf.hint 50 (qG (qQ Tf 50 [0,1,0,1,1,1,1,1]))) K G (hSb js ms sh sk n m c d i) =
 (bif (decide (i < (d:Int))) then (bif (inB i d) then (bif (gF1 cil eil (js,ms,sh,sk,n,m,c,d,(sk (i).toNat).a)) then (bif (isLk n ((sk (i).toNat).a)) then (bif (gF1 cil eil (js,ms,sh,sk,n,m,c,d,(sk (i).toNat).b)) then (bif (isLk n ((sk (i).toNat).b)) then (G (hSb js ms sh sk n m c d (vJJ .i64 (i + 1))))
 else (K .ret ⟨[(2,.v (.n .i64 903))],[]⟩))
 else none)
 else (K .ret ⟨[(2,.v (.n .i64 903))],[]⟩))
 else none)
 else none)
 else (K (.exit 2) ⟨[],[]⟩)):=by kernel_rfl
theorem lpSb (K:Cont) (js:Nat→J) (ms:Nat→Ms) (sh:Nat→Shp) (sk:Nat→Skp) (n m c d:Nat) (hd:d≤70):LFX 100 (cxS Tf (orSa js ms sh sk n m c d) 100 50 (ntmF Tf 50)) (evX Tf (orSa js ms sh sk n m c d) 100 50 (ntmF Tf 50)) (qX []) (qQ Tf 50 [0,1,0,1,1,1,1,1]) [0,1,0,1,1,1,1,1] (Tf.hint 50 (qG (qQ Tf 50 [0,1,0,1,1,1,1,1]))) K 100 (hSb js ms sh sk n m c d 0)=bif (allN (fun i:Nat=>isLk n (sk i).a && isLk n (sk i).b) d 0) then (K (.exit 2) ⟨[],[]⟩) else (K .ret ⟨[(2,.v (.n .i64 903))],[]⟩):=by
 refine (qJU (L:=LFX 100 (cxS Tf (orSa js ms sh sk n m c d) 100 50 (ntmF Tf 50)) (evX Tf (orSa js ms sh sk n m c d) 100 50 (ntmF Tf 50)) (qX []) (qQ Tf 50 [0,1,0,1,1,1,1,1]) [0,1,0,1,1,1,1,1] (Tf.hint 50 (qG (qQ Tf 50 [0,1,0,1,1,1,1,1]))) K) (stp:=uX 100 (cxS Tf (orSa js ms sh sk n m c d) 100 50 (ntmF Tf 50)) (evX Tf (orSa js ms sh sk n m c d) 100 50 (ntmF Tf 50)) (qX []) (qQ Tf 50 [0,1,0,1,1,1,1,1]) [0,1,0,1,1,1,1,1] (Tf.hint 50 (qG (qQ Tf 50 [0,1,0,1,1,1,1,1]))) K) (fun _ _=>rfl) (fun (i:Nat) (_:Unit)=>hSb js ms sh sk n m c d (i:Int)) (fun _ _=>True) (fun (i:Nat) _=>isLk n (sk i).a && isLk n (sk i).b) (fun _ _=>()) (c:=d) (fun _=>(K (.exit 2) ⟨[],[]⟩)) (fun i _=>(K .ret ⟨[(2,.v (.n .i64 903))],[]⟩)) (fun G i f hi _ => ?_) (fun _ _ _ _ _=>trivial) (fun G f _ => ?_) d 0 100 () (by omega) (by omega) trivial).trans ((qYV _ _ _ _ _).trans (qYJ _ _ _ _ _))
 ·refine (rdSb G K js ms sh sk n m c d i).trans ?_;rw [vJQ (show (i:Int) < (d:Int) by omega),qZH (by omega),kX (show i < d by omega),toN,qGQ (C:=cil) (t:=(js,ms,sh,sk,n,m,c,d,(sk i).a)) trivial,qGQ (C:=cil) (t:=(js,ms,sh,sk,n,m,c,d,(sk i).b)) trivial];cases isLk n (sk i).a <;> cases isLk n (sk i).b <;> rfl
 ·refine (rdSb G K js ms sh sk n m c d d).trans ?_;rw [vYH (show ¬ (d:Int) < (d:Int) by omega)];rfl
noncomputable def kZQ (js:Nat→J) (ms:Nat→Ms) (sh:Nat→Shp) (sk:Nat→Skp) (n m c d:Nat):List (List Nat × kV):=[([0,1,0,1,1,1],sumF (fun _:Unit=>(hSa js ms sh sk n m c d 0)) (fun _=>()) (fun _ K=>(bif (decide (c≤50)) then (bif (allN (fun i:Nat=>decide (shE n (sh i)=0)) c 0) then (K (.exit 0) ⟨[(1,.p 1 0)],[(1,.blk [.v (.lf n (fJ js)),.v (.lf m (fM ms)),.v (.lf c (fS sh)),.v (.lf d (fK sk))])]⟩) else (K .ret ⟨[(1,.p 1 0),(2,.v (.n .i64 (shE n (sh (((Rx.firstK (fun i:Nat=>decide (shE n (sh i)=0)) c 0:Nat):Int)).toNat))))],[(1,.blk [.v (.lf n (fJ js)),.v (.lf m (fM ms)),.v (.lf c (fS sh)),.v (.lf d (fK sk))])]⟩)) else none))),([0,1,0,1,1,1,1,1],sumF (fun _:Unit=>(hSb js ms sh sk n m c d 0)) (fun _=>()) (fun _ K=>(bif (decide (d≤70)) then (bif (allN (fun i:Nat=>isLk n (sk i).a && isLk n (sk i).b) d 0) then (K (.exit 2) ⟨[],[]⟩) else (K .ret ⟨[(2,.v (.n .i64 903))],[]⟩)) else none)))]
set_option maxRecDepth 100000 in
theorem pxsck (js:Nat→J) (ms:Nat→Ms) (sh:Nat→Shp) (sk:Nat→Skp) (n m c d:Nat):qWH Tf (orSa js ms sh sk n m c d) (qX (kZQ js ms sh sk n m c d)) 100 50 [.a [.lf n (fJ js),.lf m (fM ms),.lf c (fS sh),.lf d (fK sk)]] =
 (bif (g1 [.a [.lf n (fJ js),.lf m (fM ms)]]) then (bif (!decide ((rErr js ms n m)=0)) then some (.v (.n .i64 (rErr js ms n m)),[])
 else (bif (decide (24 < (c:Int))) then some (.v (.n .i64 901),[])
 else (bif (gSt (hSa js ms sh sk n m c d 0) (hSa js ms sh sk n m c d 0)) then (bif (decide (c≤50)) then (bif (allN (fun i:Nat=>decide (shE n (sh i)=0)) c 0) then (bif (decide (64 < (d:Int))) then some (.v (.n .i64 903),[])
 else (bif (gSt (hSb js ms sh sk n m c d 0) (hSb js ms sh sk n m c d 0)) then (bif (decide (d≤70)) then (bif (allN (fun i:Nat=>isLk n (sk i).a && isLk n (sk i).b) d 0) then some (.v (.n .i64 0),[])
 else some (.v (.n .i64 903),[]))
 else none)
 else none))
 else some (.v (.n .i64 (shE n (sh (((Rx.firstK (fun i:Nat=>decide (shE n (sh i)=0)) c 0:Nat):Int)).toNat))),[]))
 else none)
 else none)))
 else none):=by kernel_rfl
theorem snd_sck (js:Nat→J) (ms:Nat→Ms) (sh:Nat→Shp) (sk:Nat→Skp) (n m c d:Nat):yH Tryz.prog 50 [.a [.lf n (fJ js),.lf m (fM ms),.lf c (fS sh),.lf d (fK sk)]] (.v (.n .i64 (sErr js ms sh sk n m c d))):=by
 refine yU (N:=100) (LO:=qX (kZQ js ms sh sk n m c d)) qQV yJ (qQH (l:=[(85,o_cr [.a [.lf n (fJ js),.lf m (fM ms)]] (.v (.n .i64 (rErr js ms n m)))),(97,o_cs),(98,o_il)]) (m:=[]) ⟨zKK (snd_chk js ms n m),ok_cs,ok_il,trivial⟩ trivial) (fun p S hp => ?_) ?_
 ·refine yY (L:=qQ Tf 50) (l:=(kZQ js ms sh sk n m c d)) (show AllP _ (kZQ js ms sh sk n m c d) from ⟨?_,?_,trivial⟩) p S hp
  ·dsimp only;refine qQU (T:=Tf) (o:=(orSa js ms sh sk n m c d)) (f:=50) (LO:=qX []) (p:=[0,1,0,1,1,1]) qZY ?_;intro t K r hr;obtain ⟨hg,hr⟩:=qY hr;have hc:=vJZ hg;exact (lpSa K js ms sh sk n m c d hc).trans hr
  ·dsimp only;refine qQU (T:=Tf) (o:=(orSa js ms sh sk n m c d)) (f:=50) (LO:=qX []) (p:=[0,1,0,1,1,1,1,1]) qZY ?_;intro t K r hr;obtain ⟨hg,hr⟩:=qY hr;have hd:=vJZ hg;exact (lpSb K js ms sh sk n m c d hd).trans hr
 ·refine (pxsck js ms sh sk n m c d).trans ?_;unfold sErr shG skG;rw [g1_t];by_cases h:rErr js ms n m=0
  ·rw [vJQ h];by_cases hc:24 < (c:Int)
   ·rw [vJQ hc]; rfl
   rw [vYH hc,jK,vJQ (show c≤50 by omega)];cases allN (fun i:Nat=>decide (shE n (sh i)=0)) c 0 with
   | false=>simp only [Bool.not_true,Bool.not_false,vYV,vYG,toN]
   | true =>
    by_cases hd:64 < (d:Int)
    ·rw [vJQ hd]; rfl
    rw [vYH hd,jK,vJQ (show d≤70 by omega)];cases allN (fun i:Nat=>isLk n (sk i).a && isLk n (sk i).b) d 0 <;> rfl
  ·rw [vYH h]; rfl
noncomputable def orRo (js:Nat→J) (ms:Nat→Ms) (sh:Nat→Shp) (sk:Nat→Skp) (n m c d:Nat):OrS:=orS [(65,o_cr [.a [.lf n (fJ js),.lf m (fM ms)]] (.v (.n .i64 (rErr js ms n m)))),(104,o_ir),(105,o_bt),(57,o_nr)] []
noncomputable def hRi (js:Nat→J) (ms:Nat→Ms) (sh:Nat→Shp) (sk:Nat→Skp) (n m c d:Nat) (i:Int) (s:Shp) (k:Int):St:=⟨[(1,.p 1 0),(4,.v (.n .i64 i)),(5,.p 5 0),(6,.v (.n .i64 k))],[(1,.blk [.v (.lf n (fJ js)),.v (.lf m (fM ms)),.v (.lf c (fS sh)),.v (.lf d (fK sk))]),(5,.blk [.v (.n .i64 s.link),.v (.n .i64 s.rad),.v (.lf s.np (fZ s.pts))])]⟩
set_option maxRecDepth 100000 in
theorem rdRi (G:St→Option (Ret × Mem)) (K:Cont) (js:Nat→J) (ms:Nat→Ms) (sh:Nat→Shp) (sk:Nat→Skp) (n m c d:Nat) (i:Int) (s:Shp) (k:Int):uX 100 (cxS Tf (orRo js ms sh sk n m c d) 100 56 (ntmF Tf 56)) (evX Tf (orRo js ms sh sk n m c d) 100 56 (ntmF Tf 56)) (qX []) (qQ Tf 56 [0,1,1,1,0,0,1,0,0,1,0,1,1,1]) [0,1,1,1,0,0,1,0,0,1,0,1,1,1] (Tf.hint 56 (qG (qQ Tf 56 [0,1,1,1,0,0,1,0,0,1,0,1,1,1]))) K G (hRi js ms sh sk n m c d i s k) =
 (bif (decide (k < (s.np:Int))) then (bif (inB k s.np) then (bif (gF1 cnr enr (s.pts (k).toNat)) then (bif (zOk 4194304 (s.pts (k).toNat)) then (G (hRi js ms sh sk n m c d i s (vJJ .i64 (k + 1))))
 else (K .ret ⟨[(1,.p 1 0),(2,.v (.n .i64 805)),(4,.v (.n .i64 i))],[(1,.blk [.v (.lf n (fJ js)),.v (.lf m (fM ms)),.v (.lf c (fS sh)),.v (.lf d (fK sk))])]⟩))
 else none)
 else none)
 else (K (.exit 2) ⟨[(1,.p 1 0),(4,.v (.n .i64 i))],[(1,.blk [.v (.lf n (fJ js)),.v (.lf m (fM ms)),.v (.lf c (fS sh)),.v (.lf d (fK sk))])]⟩)):=by kernel_rfl
theorem lpRi (K:Cont) (js:Nat→J) (ms:Nat→Ms) (sh:Nat→Shp) (sk:Nat→Skp) (n m c d:Nat) (i:Int) (s:Shp) (hk:s.np≤50):LFX 100 (cxS Tf (orRo js ms sh sk n m c d) 100 56 (ntmF Tf 56)) (evX Tf (orRo js ms sh sk n m c d) 100 56 (ntmF Tf 56)) (qX []) (qQ Tf 56 [0,1,1,1,0,0,1,0,0,1,0,1,1,1]) [0,1,1,1,0,0,1,0,0,1,0,1,1,1] (Tf.hint 56 (qG (qQ Tf 56 [0,1,1,1,0,0,1,0,0,1,0,1,1,1]))) K 100 (hRi js ms sh sk n m c d i s 0)=bif (allN (fun k:Nat=>zOk 4194304 (s.pts k)) s.np 0) then (K (.exit 2) ⟨[(1,.p 1 0),(4,.v (.n .i64 i))],[(1,.blk [.v (.lf n (fJ js)),.v (.lf m (fM ms)),.v (.lf c (fS sh)),.v (.lf d (fK sk))])]⟩) else (K .ret ⟨[(1,.p 1 0),(2,.v (.n .i64 805)),(4,.v (.n .i64 i))],[(1,.blk [.v (.lf n (fJ js)),.v (.lf m (fM ms)),.v (.lf c (fS sh)),.v (.lf d (fK sk))])]⟩):=by
 refine (qJU (L:=LFX 100 (cxS Tf (orRo js ms sh sk n m c d) 100 56 (ntmF Tf 56)) (evX Tf (orRo js ms sh sk n m c d) 100 56 (ntmF Tf 56)) (qX []) (qQ Tf 56 [0,1,1,1,0,0,1,0,0,1,0,1,1,1]) [0,1,1,1,0,0,1,0,0,1,0,1,1,1] (Tf.hint 56 (qG (qQ Tf 56 [0,1,1,1,0,0,1,0,0,1,0,1,1,1]))) K) (stp:=uX 100 (cxS Tf (orRo js ms sh sk n m c d) 100 56 (ntmF Tf 56)) (evX Tf (orRo js ms sh sk n m c d) 100 56 (ntmF Tf 56)) (qX []) (qQ Tf 56 [0,1,1,1,0,0,1,0,0,1,0,1,1,1]) [0,1,1,1,0,0,1,0,0,1,0,1,1,1] (Tf.hint 56 (qG (qQ Tf 56 [0,1,1,1,0,0,1,0,0,1,0,1,1,1]))) K) (fun _ _=>rfl) (fun (k:Nat) (_:Unit)=>hRi js ms sh sk n m c d i s (k:Int)) (fun _ _=>True) (fun (k:Nat) _=>zOk 4194304 (s.pts k)) (fun _ _=>()) (c:=s.np) (fun _=>(K (.exit 2) ⟨[(1,.p 1 0),(4,.v (.n .i64 i))],[(1,.blk [.v (.lf n (fJ js)),.v (.lf m (fM ms)),.v (.lf c (fS sh)),.v (.lf d (fK sk))])]⟩)) (fun k _=>(K .ret ⟨[(1,.p 1 0),(2,.v (.n .i64 805)),(4,.v (.n .i64 i))],[(1,.blk [.v (.lf n (fJ js)),.v (.lf m (fM ms)),.v (.lf c (fS sh)),.v (.lf d (fK sk))])]⟩)) (fun G k f hi _ => ?_) (fun _ _ _ _ _=>trivial) (fun G f _ => ?_) (s.np) 0 100 () (by omega) (by omega) trivial).trans ((qYV _ _ _ _ _).trans (qYJ _ _ _ _ _))
 ·refine (rdRi G K js ms sh sk n m c d i s k).trans ?_;rw [vJQ (show (k:Int) < (s.np:Int) by omega),qZH (by omega),kX (show k < s.np by omega),toN,qGQ (C:=cnr) (t:=s.pts k) trivial];cases zOk 4194304 (s.pts k) <;> rfl
 ·refine (rdRi G K js ms sh sk n m c d i s (s.np:Int)).trans ?_;rw [vYH (show ¬ (s.np:Int) < (s.np:Int) by omega)];rfl
def bkS (σ:St) (k:Nat):Shp:=match zH σ.M k with
 | some (.blk [.v (.n _ l),.v (.n _ r),.v (.lf n f)])=>⟨l,r,n,unFZ f⟩
 | _=>⟨0,0,0,fun _=>⟨0,0,0⟩⟩
theorem okRi (js:Nat→J) (ms:Nat→Ms) (sh:Nat→Shp) (sk:Nat→Skp) (n m c d:Nat):∀ p S,qX [([0,1,1,1,0,0,1,0,0,1,0,1,1,1],sumF (fun t:Int × Shp=>(hRi js ms sh sk n m c d t.1 t.2 0)) (fun σ=>(slI σ 4,bkS σ 5)) (fun t K=>(bif (decide (t.2.np≤50)) then (bif (allN (fun k:Nat=>zOk 4194304 (t.2.pts k)) t.2.np 0) then (K (.exit 2) ⟨[(1,.p 1 0),(4,.v (.n .i64 t.1))],[(1,.blk [.v (.lf n (fJ js)),.v (.lf m (fM ms)),.v (.lf c (fS sh)),.v (.lf d (fK sk))])]⟩) else (K .ret ⟨[(1,.p 1 0),(2,.v (.n .i64 805)),(4,.v (.n .i64 t.1))],[(1,.blk [.v (.lf n (fJ js)),.v (.lf m (fM ms)),.v (.lf c (fS sh)),.v (.lf d (fK sk))])]⟩)) else none)))] p=some S→qXX 100 (cxS Tf (orRo js ms sh sk n m c d) 100 56 (ntmF Tf 56)) (qQ Tf 56 p) S:=fun p S hp=>by
 refine yY (L:=qQ Tf 56) (l:=[([0,1,1,1,0,0,1,0,0,1,0,1,1,1],sumF (fun t:Int × Shp=>(hRi js ms sh sk n m c d t.1 t.2 0)) (fun σ=>(slI σ 4,bkS σ 5)) (fun t K=>(bif (decide (t.2.np≤50)) then (bif (allN (fun k:Nat=>zOk 4194304 (t.2.pts k)) t.2.np 0) then (K (.exit 2) ⟨[(1,.p 1 0),(4,.v (.n .i64 t.1))],[(1,.blk [.v (.lf n (fJ js)),.v (.lf m (fM ms)),.v (.lf c (fS sh)),.v (.lf d (fK sk))])]⟩) else (K .ret ⟨[(1,.p 1 0),(2,.v (.n .i64 805)),(4,.v (.n .i64 t.1))],[(1,.blk [.v (.lf n (fJ js)),.v (.lf m (fM ms)),.v (.lf c (fS sh)),.v (.lf d (fK sk))])]⟩)) else none)))]) ⟨?_,trivial⟩ p S hp;dsimp only;refine qQU (T:=Tf) (o:=(orRo js ms sh sk n m c d)) (f:=56) (LO:=qX []) (p:=[0,1,1,1,0,0,1,0,0,1,0,1,1,1]) qZY ?_;intro t K r hr;obtain ⟨hg,hr⟩:=qY hr
 skip
 exact (lpRi K js ms sh sk n m c d t.1 t.2 (vJZ hg)).trans hr
noncomputable def hRo (js:Nat→J) (ms:Nat→Ms) (sh:Nat→Shp) (sk:Nat→Skp) (n m c d:Nat) (i:Int):St:=⟨[(1,.p 1 0),(4,.v (.n .i64 i))],[(1,.blk [.v (.lf n (fJ js)),.v (.lf m (fM ms)),.v (.lf c (fS sh)),.v (.lf d (fK sk))])]⟩
set_option maxRecDepth 100000 in
theorem rdRo (G:St→Option (Ret × Mem)) (K:Cont) (js:Nat→J) (ms:Nat→Ms) (sh:Nat→Shp) (sk:Nat→Skp) (n m c d:Nat) (i:Int):uX 100 (cxS Tf (orRo js ms sh sk n m c d) 100 56 (ntmF Tf 56)) (evX Tf (orRo js ms sh sk n m c d) 100 56 (ntmF Tf 56)) (qX [([0,1,1,1,0,0,1,0,0,1,0,1,1,1],sumF (fun t:Int × Shp=>(hRi js ms sh sk n m c d t.1 t.2 0)) (fun σ=>(slI σ 4,bkS σ 5)) (fun t K=>(bif (decide (t.2.np≤50)) then (bif (allN (fun k:Nat=>zOk 4194304 (t.2.pts k)) t.2.np 0) then (K (.exit 2) ⟨[(1,.p 1 0),(4,.v (.n .i64 t.1))],[(1,.blk [.v (.lf n (fJ js)),.v (.lf m (fM ms)),.v (.lf c (fS sh)),.v (.lf d (fK sk))])]⟩) else (K .ret ⟨[(1,.p 1 0),(2,.v (.n .i64 805)),(4,.v (.n .i64 t.1))],[(1,.blk [.v (.lf n (fJ js)),.v (.lf m (fM ms)),.v (.lf c (fS sh)),.v (.lf d (fK sk))])]⟩)) else none)))]) (qQ Tf 56 [0,1,0,1,1,1]) [0,1,0,1,1,1] (Tf.hint 56 (qG (qQ Tf 56 [0,1,0,1,1,1]))) K G (hRo js ms sh sk n m c d i) =
 (bif (decide (i < (c:Int))) then (bif (inB i c) then (bif (gF1 cir eir (js,ms,n,m,(sh (i).toNat).link)) then (bif (isLk n ((sh (i).toNat).link)) then (bif (gF1 cbt ebt (((sh (i).toNat).rad),1,1048576)) then (bif (decide (1≤((sh (i).toNat).rad)) && decide (((sh (i).toNat).rad)≤1048576)) then (bif (decide (((sh (i).toNat).np:Int) < 1)) then (K .ret ⟨[(1,.p 1 0),(2,.v (.n .i64 902))],[(1,.blk [.v (.lf n (fJ js)),.v (.lf m (fM ms)),.v (.lf c (fS sh)),.v (.lf d (fK sk))])]⟩)
 else (bif (decide (8 < ((sh (i).toNat).np:Int))) then (K .ret ⟨[(1,.p 1 0),(2,.v (.n .i64 902))],[(1,.blk [.v (.lf n (fJ js)),.v (.lf m (fM ms)),.v (.lf c (fS sh)),.v (.lf d (fK sk))])]⟩)
 else (bif (gSt (hRi js ms sh sk n m c d i (sh (i).toNat) 0) (hRi js ms sh sk n m c d i (sh (i).toNat) 0)) then (bif (decide ((sh (i).toNat).np≤50)) then (bif (allN (fun k:Nat=>zOk 4194304 ((sh (i).toNat).pts k)) (sh (i).toNat).np 0) then (G (hRo js ms sh sk n m c d (vJJ .i64 (i + 1))))
 else (K .ret ⟨[(1,.p 1 0),(2,.v (.n .i64 805))],[(1,.blk [.v (.lf n (fJ js)),.v (.lf m (fM ms)),.v (.lf c (fS sh)),.v (.lf d (fK sk))])]⟩))
 else none)
 else none)))
 else (K .ret ⟨[(1,.p 1 0),(2,.v (.n .i64 902))],[(1,.blk [.v (.lf n (fJ js)),.v (.lf m (fM ms)),.v (.lf c (fS sh)),.v (.lf d (fK sk))])]⟩))
 else none)
 else (K .ret ⟨[(1,.p 1 0),(2,.v (.n .i64 902))],[(1,.blk [.v (.lf n (fJ js)),.v (.lf m (fM ms)),.v (.lf c (fS sh)),.v (.lf d (fK sk))])]⟩))
 else none)
 else none)
 else (K (.exit 0) ⟨[(1,.p 1 0)],[(1,.blk [.v (.lf n (fJ js)),.v (.lf m (fM ms)),.v (.lf c (fS sh)),.v (.lf d (fK sk))])]⟩)):=by kernel_rfl
theorem nle (a b:Int):decide (a≤b) = !decide (b < a):=by by_cases h:b < a <;> simp [h] <;> omega
theorem lpRo (K:Cont) (js:Nat→J) (ms:Nat→Ms) (sh:Nat→Shp) (sk:Nat→Skp) (n m c d:Nat) (hc:c≤50):LFX 100 (cxS Tf (orRo js ms sh sk n m c d) 100 56 (ntmF Tf 56)) (evX Tf (orRo js ms sh sk n m c d) 100 56 (ntmF Tf 56)) (qX [([0,1,1,1,0,0,1,0,0,1,0,1,1,1],sumF (fun t:Int × Shp=>(hRi js ms sh sk n m c d t.1 t.2 0)) (fun σ=>(slI σ 4,bkS σ 5)) (fun t K=>(bif (decide (t.2.np≤50)) then (bif (allN (fun k:Nat=>zOk 4194304 (t.2.pts k)) t.2.np 0) then (K (.exit 2) ⟨[(1,.p 1 0),(4,.v (.n .i64 t.1))],[(1,.blk [.v (.lf n (fJ js)),.v (.lf m (fM ms)),.v (.lf c (fS sh)),.v (.lf d (fK sk))])]⟩) else (K .ret ⟨[(1,.p 1 0),(2,.v (.n .i64 805)),(4,.v (.n .i64 t.1))],[(1,.blk [.v (.lf n (fJ js)),.v (.lf m (fM ms)),.v (.lf c (fS sh)),.v (.lf d (fK sk))])]⟩)) else none)))]) (qQ Tf 56 [0,1,0,1,1,1]) [0,1,0,1,1,1] (Tf.hint 56 (qG (qQ Tf 56 [0,1,0,1,1,1]))) K 100 (hRo js ms sh sk n m c d 0)=bif shG sh n c then (K (.exit 0) ⟨[(1,.p 1 0)],[(1,.blk [.v (.lf n (fJ js)),.v (.lf m (fM ms)),.v (.lf c (fS sh)),.v (.lf d (fK sk))])]⟩) else (K .ret ⟨[(1,.p 1 0),(2,.v (.n .i64 (shE n (sh (Rx.firstK (fun i:Nat=>decide (shE n (sh i)=0)) c 0)))))],[(1,.blk [.v (.lf n (fJ js)),.v (.lf m (fM ms)),.v (.lf c (fS sh)),.v (.lf d (fK sk))])]⟩):=by
 refine (qJU (L:=LFX 100 (cxS Tf (orRo js ms sh sk n m c d) 100 56 (ntmF Tf 56)) (evX Tf (orRo js ms sh sk n m c d) 100 56 (ntmF Tf 56)) (qX [([0,1,1,1,0,0,1,0,0,1,0,1,1,1],sumF (fun t:Int × Shp=>(hRi js ms sh sk n m c d t.1 t.2 0)) (fun σ=>(slI σ 4,bkS σ 5)) (fun t K=>(bif (decide (t.2.np≤50)) then (bif (allN (fun k:Nat=>zOk 4194304 (t.2.pts k)) t.2.np 0) then (K (.exit 2) ⟨[(1,.p 1 0),(4,.v (.n .i64 t.1))],[(1,.blk [.v (.lf n (fJ js)),.v (.lf m (fM ms)),.v (.lf c (fS sh)),.v (.lf d (fK sk))])]⟩) else (K .ret ⟨[(1,.p 1 0),(2,.v (.n .i64 805)),(4,.v (.n .i64 t.1))],[(1,.blk [.v (.lf n (fJ js)),.v (.lf m (fM ms)),.v (.lf c (fS sh)),.v (.lf d (fK sk))])]⟩)) else none)))]) (qQ Tf 56 [0,1,0,1,1,1]) [0,1,0,1,1,1] (Tf.hint 56 (qG (qQ Tf 56 [0,1,0,1,1,1]))) K) (stp:=uX 100 (cxS Tf (orRo js ms sh sk n m c d) 100 56 (ntmF Tf 56)) (evX Tf (orRo js ms sh sk n m c d) 100 56 (ntmF Tf 56)) (qX [([0,1,1,1,0,0,1,0,0,1,0,1,1,1],sumF (fun t:Int × Shp=>(hRi js ms sh sk n m c d t.1 t.2 0)) (fun σ=>(slI σ 4,bkS σ 5)) (fun t K=>(bif (decide (t.2.np≤50)) then (bif (allN (fun k:Nat=>zOk 4194304 (t.2.pts k)) t.2.np 0) then (K (.exit 2) ⟨[(1,.p 1 0),(4,.v (.n .i64 t.1))],[(1,.blk [.v (.lf n (fJ js)),.v (.lf m (fM ms)),.v (.lf c (fS sh)),.v (.lf d (fK sk))])]⟩) else (K .ret ⟨[(1,.p 1 0),(2,.v (.n .i64 805)),(4,.v (.n .i64 t.1))],[(1,.blk [.v (.lf n (fJ js)),.v (.lf m (fM ms)),.v (.lf c (fS sh)),.v (.lf d (fK sk))])]⟩)) else none)))]) (qQ Tf 56 [0,1,0,1,1,1]) [0,1,0,1,1,1] (Tf.hint 56 (qG (qQ Tf 56 [0,1,0,1,1,1]))) K) (fun _ _=>rfl) (fun (i:Nat) (_:Unit)=>hRo js ms sh sk n m c d (i:Int)) (fun _ _=>True) (fun (i:Nat) _=>decide (shE n (sh i)=0)) (fun _ _=>()) (c:=c) (fun _=>(K (.exit 0) ⟨[(1,.p 1 0)],[(1,.blk [.v (.lf n (fJ js)),.v (.lf m (fM ms)),.v (.lf c (fS sh)),.v (.lf d (fK sk))])]⟩)) (fun i _=>(K .ret ⟨[(1,.p 1 0),(2,.v (.n .i64 (shE n (sh i))))],[(1,.blk [.v (.lf n (fJ js)),.v (.lf m (fM ms)),.v (.lf c (fS sh)),.v (.lf d (fK sk))])]⟩)) (fun G i f hi _ => ?_) (fun _ _ _ _ _=>trivial) (fun G f _ => ?_) c 0 100 () (by omega) (by omega) trivial).trans ((qYV _ _ _ _ _).trans (qGY _ _ _ _ _))
 ·refine (rdRo G K js ms sh sk n m c d i).trans ?_;rw [vJQ (show (i:Int) < (c:Int) by omega),kX (show i < c by omega),toN,qZH (by omega),qGQ (C:=cir) (t:=(js,ms,n,m,(sh i).link)) trivial,qGQ (C:=cbt) (t:=((sh i).rad,1,1048576)) trivial,jK,nle 1,nle _ 1048576];unfold shE jZK;by_cases h:8 < ((sh i).np:Int)
  ·rw [vJQ h];cases isLk n (sh i).link <;> cases decide ((sh i).rad < 1) <;> cases decide (1048576 < (sh i).rad) <;> cases decide (((sh i).np:Int) < 1) <;> rfl
  ·rw [vYH h,vJQ (show (sh i).np≤50 by omega)];cases isLk n (sh i).link <;> cases decide ((sh i).rad < 1) <;> cases decide (1048576 < (sh i).rad) <;> cases decide (((sh i).np:Int) < 1) <;> cases allN (fun k:Nat=>zOk 4194304 ((sh i).pts k)) (sh i).np 0 <;> rfl
 ·refine (rdRo G K js ms sh sk n m c d (c:Int)).trans ?_;rw [vYH (show ¬ (c:Int) < (c:Int) by omega)];rfl
noncomputable def hRs (js:Nat→J) (ms:Nat→Ms) (sh:Nat→Shp) (sk:Nat→Skp) (n m c d:Nat) (i:Int):St:=⟨[(1,.p 1 0),(7,.v (.n .i64 i))],[(1,.blk [.v (.lf n (fJ js)),.v (.lf m (fM ms)),.v (.lf c (fS sh)),.v (.lf d (fK sk))])]⟩
set_option maxRecDepth 100000 in
theorem rdRs (G:St→Option (Ret × Mem)) (K:Cont) (js:Nat→J) (ms:Nat→Ms) (sh:Nat→Shp) (sk:Nat→Skp) (n m c d:Nat) (i:Int):uX 100 (cxS Tf (orRo js ms sh sk n m c d) 100 56 (ntmF Tf 56)) (evX Tf (orRo js ms sh sk n m c d) 100 56 (ntmF Tf 56)) (qX []) (qQ Tf 56 [0,1,0,1,1,1,1,1]) [0,1,0,1,1,1,1,1] (Tf.hint 56 (qG (qQ Tf 56 [0,1,0,1,1,1,1,1]))) K G (hRs js ms sh sk n m c d i) =
 (bif (decide (i < (d:Int))) then (bif (inB i d) then (bif (gF1 cir eir (js,ms,n,m,(sk (i).toNat).a)) then (bif (isLk n ((sk (i).toNat).a)) then (bif (inB i d) then (bif (gF1 cir eir (js,ms,n,m,(sk (i).toNat).b)) then (bif (isLk n ((sk (i).toNat).b)) then (G (hRs js ms sh sk n m c d (vJJ .i64 (i + 1))))
 else (K .ret ⟨[(2,.v (.n .i64 903))],[]⟩))
 else none)
 else none)
 else (K .ret ⟨[(2,.v (.n .i64 903))],[]⟩))
 else none)
 else none)
 else (K (.exit 4) ⟨[],[]⟩)):=by kernel_rfl
theorem lpRs (K:Cont) (js:Nat→J) (ms:Nat→Ms) (sh:Nat→Shp) (sk:Nat→Skp) (n m c d:Nat) (hd:d≤70):LFX 100 (cxS Tf (orRo js ms sh sk n m c d) 100 56 (ntmF Tf 56)) (evX Tf (orRo js ms sh sk n m c d) 100 56 (ntmF Tf 56)) (qX []) (qQ Tf 56 [0,1,0,1,1,1,1,1]) [0,1,0,1,1,1,1,1] (Tf.hint 56 (qG (qQ Tf 56 [0,1,0,1,1,1,1,1]))) K 100 (hRs js ms sh sk n m c d 0)=bif (allN (fun i:Nat=>isLk n (sk i).a && isLk n (sk i).b) d 0) then (K (.exit 4) ⟨[],[]⟩) else (K .ret ⟨[(2,.v (.n .i64 903))],[]⟩):=by
 refine (qJU (L:=LFX 100 (cxS Tf (orRo js ms sh sk n m c d) 100 56 (ntmF Tf 56)) (evX Tf (orRo js ms sh sk n m c d) 100 56 (ntmF Tf 56)) (qX []) (qQ Tf 56 [0,1,0,1,1,1,1,1]) [0,1,0,1,1,1,1,1] (Tf.hint 56 (qG (qQ Tf 56 [0,1,0,1,1,1,1,1]))) K) (stp:=uX 100 (cxS Tf (orRo js ms sh sk n m c d) 100 56 (ntmF Tf 56)) (evX Tf (orRo js ms sh sk n m c d) 100 56 (ntmF Tf 56)) (qX []) (qQ Tf 56 [0,1,0,1,1,1,1,1]) [0,1,0,1,1,1,1,1] (Tf.hint 56 (qG (qQ Tf 56 [0,1,0,1,1,1,1,1]))) K) (fun _ _=>rfl) (fun (i:Nat) (_:Unit)=>hRs js ms sh sk n m c d (i:Int)) (fun _ _=>True) (fun (i:Nat) _=>isLk n (sk i).a && isLk n (sk i).b) (fun _ _=>()) (c:=d) (fun _=>(K (.exit 4) ⟨[],[]⟩)) (fun i _=>(K .ret ⟨[(2,.v (.n .i64 903))],[]⟩)) (fun G i f hi _ => ?_) (fun _ _ _ _ _=>trivial) (fun G f _ => ?_) d 0 100 () (by omega) (by omega) trivial).trans ((qYV _ _ _ _ _).trans (qYJ _ _ _ _ _))
 ·refine (rdRs G K js ms sh sk n m c d i).trans ?_;rw [vJQ (show (i:Int) < (d:Int) by omega),qZH (by omega),kX (show i < d by omega),toN,qGQ (C:=cir) (t:=(js,ms,n,m,(sk i).a)) trivial,qGQ (C:=cir) (t:=(js,ms,n,m,(sk i).b)) trivial];cases isLk n (sk i).a <;> cases isLk n (sk i).b <;> rfl
 ·refine (rdRs G K js ms sh sk n m c d d).trans ?_;rw [vYH (show ¬ (d:Int) < (d:Int) by omega)];rfl
noncomputable def kZJ (js:Nat→J) (ms:Nat→Ms) (sh:Nat→Shp) (sk:Nat→Skp) (n m c d:Nat):List (List Nat × kV):=[([0,1,0,1,1,1],sumF (fun _:Unit=>(hRo js ms sh sk n m c d 0)) (fun _=>()) (fun _ K=>(bif (decide (c≤50)) then (bif shG sh n c then (K (.exit 0) ⟨[(1,.p 1 0)],[(1,.blk [.v (.lf n (fJ js)),.v (.lf m (fM ms)),.v (.lf c (fS sh)),.v (.lf d (fK sk))])]⟩) else (K .ret ⟨[(1,.p 1 0),(2,.v (.n .i64 (shE n (sh (Rx.firstK (fun i:Nat=>decide (shE n (sh i)=0)) c 0)))))],[(1,.blk [.v (.lf n (fJ js)),.v (.lf m (fM ms)),.v (.lf c (fS sh)),.v (.lf d (fK sk))])]⟩)) else none))),([0,1,0,1,1,1,1,1],sumF (fun _:Unit=>(hRs js ms sh sk n m c d 0)) (fun _=>()) (fun _ K=>(bif (decide (d≤70)) then (bif (allN (fun i:Nat=>isLk n (sk i).a && isLk n (sk i).b) d 0) then (K (.exit 4) ⟨[],[]⟩) else (K .ret ⟨[(2,.v (.n .i64 903))],[]⟩)) else none)))]
set_option maxRecDepth 100000 in
theorem pxrcs (js:Nat→J) (ms:Nat→Ms) (sh:Nat→Shp) (sk:Nat→Skp) (n m c d:Nat):qWH Tf (orRo js ms sh sk n m c d) (qX (kZJ js ms sh sk n m c d)) 100 56 [.a [.lf n (fJ js),.lf m (fM ms),.lf c (fS sh),.lf d (fK sk)]] =
 (bif (g1 [.a [.lf n (fJ js),.lf m (fM ms)]]) then (bif (!decide ((rErr js ms n m)=0)) then some (.v (.n .i64 (rErr js ms n m)),[])
 else (bif (decide (24 < (c:Int))) then some (.v (.n .i64 901),[])
 else (bif (gSt (hRo js ms sh sk n m c d 0) (hRo js ms sh sk n m c d 0)) then (bif (decide (c≤50)) then (bif (shG sh n c) then (bif (decide (64 < (d:Int))) then some (.v (.n .i64 903),[])
 else (bif (gSt (hRs js ms sh sk n m c d 0) (hRs js ms sh sk n m c d 0)) then (bif (decide (d≤70)) then (bif (allN (fun i:Nat=>isLk n (sk i).a && isLk n (sk i).b) d 0) then some (.v (.n .i64 0),[])
 else some (.v (.n .i64 903),[]))
 else none)
 else none))
 else some (.v (.n .i64 (shE n (sh (Rx.firstK (fun i:Nat=>decide (shE n (sh i)=0)) c 0)))),[]))
 else none)
 else none)))
 else none):=by kernel_rfl
theorem snd_rcs (js:Nat→J) (ms:Nat→Ms) (sh:Nat→Shp) (sk:Nat→Skp) (n m c d:Nat):yH Tryz.prog 56 [.a [.lf n (fJ js),.lf m (fM ms),.lf c (fS sh),.lf d (fK sk)]] (.v (.n .i64 (sErr js ms sh sk n m c d))):=by
 refine yU (N:=100) (LO:=qX (kZJ js ms sh sk n m c d)) qQV yJ (qQH (l:=[(65,o_cr [.a [.lf n (fJ js),.lf m (fM ms)]] (.v (.n .i64 (rErr js ms n m)))),(104,o_ir),(105,o_bt),(57,o_nr)]) (m:=[]) ⟨zKK (jQV js ms n m),ok_ir,ok_bt,ok_nr,trivial⟩ trivial) (fun p S hp => ?_) ?_
 ·refine yY (L:=qQ Tf 56) (l:=(kZJ js ms sh sk n m c d)) (show AllP _ (kZJ js ms sh sk n m c d) from ⟨?_,?_,trivial⟩) p S hp
  ·dsimp only;refine qQU (T:=Tf) (o:=(orRo js ms sh sk n m c d)) (f:=56) (LO:=(qX [([0,1,1,1,0,0,1,0,0,1,0,1,1,1],sumF (fun t:Int × Shp=>(hRi js ms sh sk n m c d t.1 t.2 0)) (fun σ=>(slI σ 4,bkS σ 5)) (fun t K=>(bif (decide (t.2.np≤50)) then (bif (allN (fun k:Nat=>zOk 4194304 (t.2.pts k)) t.2.np 0) then (K (.exit 2) ⟨[(1,.p 1 0),(4,.v (.n .i64 t.1))],[(1,.blk [.v (.lf n (fJ js)),.v (.lf m (fM ms)),.v (.lf c (fS sh)),.v (.lf d (fK sk))])]⟩) else (K .ret ⟨[(1,.p 1 0),(2,.v (.n .i64 805)),(4,.v (.n .i64 t.1))],[(1,.blk [.v (.lf n (fJ js)),.v (.lf m (fM ms)),.v (.lf c (fS sh)),.v (.lf d (fK sk))])]⟩)) else none)))])) (p:=[0,1,0,1,1,1]) (okRi js ms sh sk n m c d) ?_;intro t K r hr;obtain ⟨hg,hr⟩:=qY hr
   skip
   exact (lpRo K js ms sh sk n m c d (vJZ hg)).trans hr
  ·dsimp only;refine qQU (T:=Tf) (o:=(orRo js ms sh sk n m c d)) (f:=56) (LO:=qX []) (p:=[0,1,0,1,1,1,1,1]) qZY ?_;intro t K r hr;obtain ⟨hg,hr⟩:=qY hr;have hd:=vJZ hg;exact (lpRs K js ms sh sk n m c d hd).trans hr
 ·refine (pxrcs js ms sh sk n m c d).trans ?_;unfold sErr skG;rw [g1_t];by_cases h:rErr js ms n m=0
  ·rw [vJQ h];by_cases hc:24 < (c:Int)
   ·rw [vJQ hc]; rfl
   rw [vYH hc,jK,vJQ (show c≤50 by omega)];cases shG sh n c with
   | false=>rfl
   | true =>
    by_cases hd:64 < (d:Int)
    ·rw [vJQ hd]; rfl
    rw [vYH hd,jK,vJQ (show d≤70 by omega)];cases allN (fun i:Nat=>isLk n (sk i).a && isLk n (sk i).b) d 0 <;> rfl
  ·rw [vYH h]; rfl
end Go.Proofs.YtgmbkkkbfbocnaaGreat.Gc

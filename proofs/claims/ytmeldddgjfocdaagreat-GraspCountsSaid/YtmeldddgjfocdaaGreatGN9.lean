/- Part 9 of the texts behind the last one: rules and contracts. No condition. -/
import Derived.Test.YtmeldddgjfocdaaGreatGN8
open Bool renaming and_eq_true → vQJ
open Go.IntKind renaming wrap → vYX
namespace Go.Proofs.YtmeldddgjfocdaaGreat.Gc
open Go.Rx Rt Go.Sx Go.RowKit Od Na Nb Nc Nx Nf Ga Gb
def shG (sh:Nat→Shp) (n c:Nat):Bool:=allN (fun i:Nat=>decide (shE n (sh i)=0)) c 0
def skG (sk:Nat→Skp) (n d:Nat):Bool:=allN (fun i:Nat=>isLk n (sk i).a && isLk n (sk i).b) d 0
def sErr (js:Nat→J) (ms:Nat→Ms) (sh:Nat→Shp) (sk:Nat→Skp) (n m c d:Nat):Int:=bif decide (rErr js ms n m=0) then (bif decide (24 < (c:Int)) then 901 else bif shG sh n c then (bif decide (64 < (d:Int)) then 903 else bif skG sk n d then 0 else 903) else shE n (sh (Rx.firstK (fun i:Nat=>decide (shE n (sh i)=0)) c 0))) else rErr js ms n m
noncomputable def orSa (js:Nat→J) (ms:Nat→Ms) (_:Nat→Shp) (_:Nat→Skp) (n m c d:Nat):OrS:=orS [(104,o_cr [.a [.lf n (fJ js),.lf m (fM ms)]] (.v (.n .i64 (rErr js ms n m)))),(109,o_cs),(110,o_il)] []
noncomputable def hSa (js:Nat→J) (ms:Nat→Ms) (sh:Nat→Shp) (sk:Nat→Skp) (n m c d:Nat) (i:Int):St:=⟨[(1,.p 1 0),(20,.v (.lf c (fS sh))),(21,.v (.n .i64 (c:Int))),(22,.v (.n .i64 i))],[(1,.blk [.v (.lf n (fJ js)),.v (.lf m (fM ms)),.v (.lf c (fS sh)),.v (.lf d (fK sk))])]⟩
set_option maxRecDepth 100000 in
theorem rdSa (G:St→Option (Ret × Mem)) (K:Cont) (js:Nat→J) (ms:Nat→Ms) (sh:Nat→Shp) (sk:Nat→Skp) (n m c d:Nat) (i:Int):yJ 100 (cxS Tf (orSa js ms sh sk n m c d) 100 58 (ntmF Tf 58)) (evX Tf (orSa js ms sh sk n m c d) 100 58 (ntmF Tf 58)) (qZ []) (qQ Tf 58 [0,1,0,1,1,1]) [0,1,0,1,1,1] (Tf.hint 58 (qJ (qQ Tf 58 [0,1,0,1,1,1]))) K G (hSa js ms sh sk n m c d i) =
 (bif (decide (i < (c:Int))) then (bif (inB i c) then (bif (gF1 ccs ecs (js,ms,sh,sk,n,m,c,d,(sh (i).toNat))) then (bif (!decide ((shE n (sh (i).toNat))=0)) then (K .ret ⟨[(1,.p 1 0),(2,.v (.n .i64 (shE n (sh (i).toNat))))],[(1,.blk [.v (.lf n (fJ js)),.v (.lf m (fM ms)),.v (.lf c (fS sh)),.v (.lf d (fK sk))])]⟩)
 else (G (hSa js ms sh sk n m c d (vYX .i64 (i + 1)))))
 else none)
 else none)
 else (K (.exit 0) ⟨[(1,.p 1 0)],[(1,.blk [.v (.lf n (fJ js)),.v (.lf m (fM ms)),.v (.lf c (fS sh)),.v (.lf d (fK sk))])]⟩)):=by kernel_rfl
theorem lpSa (K:Cont) (js:Nat→J) (ms:Nat→Ms) (sh:Nat→Shp) (sk:Nat→Skp) (n m c d:Nat) (_:c≤50):LFX 100 (cxS Tf (orSa js ms sh sk n m c d) 100 58 (ntmF Tf 58)) (evX Tf (orSa js ms sh sk n m c d) 100 58 (ntmF Tf 58)) (qZ []) (qQ Tf 58 [0,1,0,1,1,1]) [0,1,0,1,1,1] (Tf.hint 58 (qJ (qQ Tf 58 [0,1,0,1,1,1]))) K 100 (hSa js ms sh sk n m c d 0)=bif (allN (fun i:Nat=>decide (shE n (sh i)=0)) c 0) then (K (.exit 0) ⟨[(1,.p 1 0)],[(1,.blk [.v (.lf n (fJ js)),.v (.lf m (fM ms)),.v (.lf c (fS sh)),.v (.lf d (fK sk))])]⟩) else (K .ret ⟨[(1,.p 1 0),(2,.v (.n .i64 (shE n (sh (((Rx.firstK (fun i:Nat=>decide (shE n (sh i)=0)) c 0:Nat):Int)).toNat))))],[(1,.blk [.v (.lf n (fJ js)),.v (.lf m (fM ms)),.v (.lf c (fS sh)),.v (.lf d (fK sk))])]⟩):=by
 refine (jJ (L:=LFX 100 (cxS Tf (orSa js ms sh sk n m c d) 100 58 (ntmF Tf 58)) (evX Tf (orSa js ms sh sk n m c d) 100 58 (ntmF Tf 58)) (qZ []) (qQ Tf 58 [0,1,0,1,1,1]) [0,1,0,1,1,1] (Tf.hint 58 (qJ (qQ Tf 58 [0,1,0,1,1,1]))) K) (stp:=yJ 100 (cxS Tf (orSa js ms sh sk n m c d) 100 58 (ntmF Tf 58)) (evX Tf (orSa js ms sh sk n m c d) 100 58 (ntmF Tf 58)) (qZ []) (qQ Tf 58 [0,1,0,1,1,1]) [0,1,0,1,1,1] (Tf.hint 58 (qJ (qQ Tf 58 [0,1,0,1,1,1]))) K) (fun _ _=>rfl) (fun (i:Nat) (_:Unit)=>hSa js ms sh sk n m c d (i:Int)) (fun _ _=>True) (fun (i:Nat) _=>decide (shE n (sh i)=0)) (fun _ _=>()) (c:=c) (fun _=>(K (.exit 0) ⟨[(1,.p 1 0)],[(1,.blk [.v (.lf n (fJ js)),.v (.lf m (fM ms)),.v (.lf c (fS sh)),.v (.lf d (fK sk))])]⟩)) (fun i _=>(K .ret ⟨[(1,.p 1 0),(2,.v (.n .i64 (shE n (sh ((i:Int)).toNat))))],[(1,.blk [.v (.lf n (fJ js)),.v (.lf m (fM ms)),.v (.lf c (fS sh)),.v (.lf d (fK sk))])]⟩)) (fun G i f hi _ => ?_) (fun _ _ _ _ _=>trivial) (fun G f _ => ?_) c 0 100 () (by omega) (by omega) trivial).trans ((zG _ _ _ _ _).trans (kK _ _ _ _ _))
 ·refine (rdSa G K js ms sh sk n m c d i).trans ?_;rw [vYJ (show (i:Int) < (c:Int) by omega),jZ (by omega),zJ (show i < c by omega),toN,jH (C:=ccs) (t:=(js,ms,sh,sk,n,m,c,d,sh i)) trivial];cases decide (shE n (sh i)=0) <;> rfl
 ·refine (rdSa G K js ms sh sk n m c d c).trans ?_;rw [vYY (show ¬ (c:Int) < (c:Int) by omega)];rfl
noncomputable def hSb (js:Nat→J) (ms:Nat→Ms) (sh:Nat→Shp) (sk:Nat→Skp) (n m c d:Nat) (i:Int):St:=⟨[(1,.p 1 0),(38,.v (.lf d (fK sk))),(39,.v (.n .i64 (d:Int))),(40,.v (.n .i64 i))],[(1,.blk [.v (.lf n (fJ js)),.v (.lf m (fM ms)),.v (.lf c (fS sh)),.v (.lf d (fK sk))])]⟩
set_option maxRecDepth 100000 in
theorem rdSb (G:St→Option (Ret × Mem)) (K:Cont) (js:Nat→J) (ms:Nat→Ms) (sh:Nat→Shp) (sk:Nat→Skp) (n m c d:Nat) (i:Int):yJ 100 (cxS Tf (orSa js ms sh sk n m c d) 100 58 (ntmF Tf 58)) (evX Tf (orSa js ms sh sk n m c d) 100 58 (ntmF Tf 58)) (qZ []) (qQ Tf 58 [0,1,0,1,1,1,1,1]) [0,1,0,1,1,1,1,1] (Tf.hint 58 (qJ (qQ Tf 58 [0,1,0,1,1,1,1,1]))) K G (hSb js ms sh sk n m c d i) =
 (bif (decide (i < (d:Int))) then (bif (inB i d) then (bif (gF1 cil eil (js,ms,sh,sk,n,m,c,d,(sk (i).toNat).a)) then (bif (isLk n ((sk (i).toNat).a)) then (bif (gF1 cil eil (js,ms,sh,sk,n,m,c,d,(sk (i).toNat).b)) then (bif (isLk n ((sk (i).toNat).b)) then (G (hSb js ms sh sk n m c d (vYX .i64 (i + 1))))
 else (K .ret ⟨[(2,.v (.n .i64 903))],[]⟩))
 else none)
 else (K .ret ⟨[(2,.v (.n .i64 903))],[]⟩))
 else none)
 else none)
 else (K (.exit 2) ⟨[],[]⟩)):=by kernel_rfl
theorem lpSb (K:Cont) (js:Nat→J) (ms:Nat→Ms) (sh:Nat→Shp) (sk:Nat→Skp) (n m c d:Nat) (_:d≤70):LFX 100 (cxS Tf (orSa js ms sh sk n m c d) 100 58 (ntmF Tf 58)) (evX Tf (orSa js ms sh sk n m c d) 100 58 (ntmF Tf 58)) (qZ []) (qQ Tf 58 [0,1,0,1,1,1,1,1]) [0,1,0,1,1,1,1,1] (Tf.hint 58 (qJ (qQ Tf 58 [0,1,0,1,1,1,1,1]))) K 100 (hSb js ms sh sk n m c d 0)=bif (allN (fun i:Nat=>isLk n (sk i).a && isLk n (sk i).b) d 0) then (K (.exit 2) ⟨[],[]⟩) else (K .ret ⟨[(2,.v (.n .i64 903))],[]⟩):=by
 refine (jJ (L:=LFX 100 (cxS Tf (orSa js ms sh sk n m c d) 100 58 (ntmF Tf 58)) (evX Tf (orSa js ms sh sk n m c d) 100 58 (ntmF Tf 58)) (qZ []) (qQ Tf 58 [0,1,0,1,1,1,1,1]) [0,1,0,1,1,1,1,1] (Tf.hint 58 (qJ (qQ Tf 58 [0,1,0,1,1,1,1,1]))) K) (stp:=yJ 100 (cxS Tf (orSa js ms sh sk n m c d) 100 58 (ntmF Tf 58)) (evX Tf (orSa js ms sh sk n m c d) 100 58 (ntmF Tf 58)) (qZ []) (qQ Tf 58 [0,1,0,1,1,1,1,1]) [0,1,0,1,1,1,1,1] (Tf.hint 58 (qJ (qQ Tf 58 [0,1,0,1,1,1,1,1]))) K) (fun _ _=>rfl) (fun (i:Nat) (_:Unit)=>hSb js ms sh sk n m c d (i:Int)) (fun _ _=>True) (fun (i:Nat) _=>isLk n (sk i).a && isLk n (sk i).b) (fun _ _=>()) (c:=d) (fun _=>(K (.exit 2) ⟨[],[]⟩)) (fun i _=>(K .ret ⟨[(2,.v (.n .i64 903))],[]⟩)) (fun G i f hi _ => ?_) (fun _ _ _ _ _=>trivial) (fun G f _ => ?_) d 0 100 () (by omega) (by omega) trivial).trans ((zG _ _ _ _ _).trans (yZ _ _ _ _ _))
 ·refine (rdSb G K js ms sh sk n m c d i).trans ?_;rw [vYJ (show (i:Int) < (d:Int) by omega),jZ (by omega),zJ (show i < d by omega),toN,jH (C:=cil) (t:=(js,ms,sh,sk,n,m,c,d,(sk i).a)) trivial,jH (C:=cil) (t:=(js,ms,sh,sk,n,m,c,d,(sk i).b)) trivial];cases isLk n (sk i).a <;> cases isLk n (sk i).b <;> rfl
 ·refine (rdSb G K js ms sh sk n m c d d).trans ?_;rw [vYY (show ¬ (d:Int) < (d:Int) by omega)];rfl
noncomputable def yWE (js:Nat→J) (ms:Nat→Ms) (sh:Nat→Shp) (sk:Nat→Skp) (n m c d:Nat):List (List Nat × yU):=[([0,1,0,1,1,1],sumF (fun _:Unit=>(hSa js ms sh sk n m c d 0)) (fun _=>()) (fun _ K=>(bif (decide (c≤50)) then (bif (allN (fun i:Nat=>decide (shE n (sh i)=0)) c 0) then (K (.exit 0) ⟨[(1,.p 1 0)],[(1,.blk [.v (.lf n (fJ js)),.v (.lf m (fM ms)),.v (.lf c (fS sh)),.v (.lf d (fK sk))])]⟩) else (K .ret ⟨[(1,.p 1 0),(2,.v (.n .i64 (shE n (sh (((Rx.firstK (fun i:Nat=>decide (shE n (sh i)=0)) c 0:Nat):Int)).toNat))))],[(1,.blk [.v (.lf n (fJ js)),.v (.lf m (fM ms)),.v (.lf c (fS sh)),.v (.lf d (fK sk))])]⟩)) else none))),([0,1,0,1,1,1,1,1],sumF (fun _:Unit=>(hSb js ms sh sk n m c d 0)) (fun _=>()) (fun _ K=>(bif (decide (d≤70)) then (bif (allN (fun i:Nat=>isLk n (sk i).a && isLk n (sk i).b) d 0) then (K (.exit 2) ⟨[],[]⟩) else (K .ret ⟨[(2,.v (.n .i64 903))],[]⟩)) else none)))]
set_option maxRecDepth 100000 in
theorem jHB (js:Nat→J) (ms:Nat→Ms) (sh:Nat→Shp) (sk:Nat→Skp) (n m c d:Nat):kH Tf (orSa js ms sh sk n m c d) (qZ (yWE js ms sh sk n m c d)) 100 58 [.a [.lf n (fJ js),.lf m (fM ms),.lf c (fS sh),.lf d (fK sk)]] =
 (bif (g1 [.a [.lf n (fJ js),.lf m (fM ms)]]) then (bif (!decide ((rErr js ms n m)=0)) then some (.v (.n .i64 (rErr js ms n m)),[])
 else (bif (decide (24 < (c:Int))) then some (.v (.n .i64 901),[])
 else (bif (gSt (hSa js ms sh sk n m c d 0) (hSa js ms sh sk n m c d 0)) then (bif (decide (c≤50)) then (bif (allN (fun i:Nat=>decide (shE n (sh i)=0)) c 0) then (bif (decide (64 < (d:Int))) then some (.v (.n .i64 903),[])
 else (bif (gSt (hSb js ms sh sk n m c d 0) (hSb js ms sh sk n m c d 0)) then (bif (decide (d≤70)) then (bif (allN (fun i:Nat=>isLk n (sk i).a && isLk n (sk i).b) d 0) then some (.v (.n .i64 0),[])
 else some (.v (.n .i64 903),[]))
 else none)
 else none))
 else some (.v (.n .i64 (shE n (sh (((Rx.firstK (fun i:Nat=>decide (shE n (sh i)=0)) c 0:Nat):Int)).toNat))),[]))
 else none)
 else none)))
 else none):=by kernel_rfl
theorem jQZ (js:Nat→J) (ms:Nat→Ms) (sh:Nat→Shp) (sk:Nat→Skp) (n m c d:Nat):qH Tryz.prog 58 [.a [.lf n (fJ js),.lf m (fM ms),.lf c (fS sh),.lf d (fK sk)]] (.v (.n .i64 (sErr js ms sh sk n m c d))):=by
 refine qX (N:=100) (LO:=qZ (yWE js ms sh sk n m c d)) yG qG (yH (l:=[(104,o_cr [.a [.lf n (fJ js),.lf m (fM ms)]] (.v (.n .i64 (rErr js ms n m)))),(109,o_cs),(110,o_il)]) (m:=[]) ⟨qVJ (yQQ js ms n m),kYQ,jWU,trivial⟩ trivial) (fun p S hp => ?_) ?_
 ·refine qK (L:=qQ Tf 58) (l:=(yWE js ms sh sk n m c d)) (show AllP _ (yWE js ms sh sk n m c d) from ⟨?_,?_,trivial⟩) p S hp
  ·dsimp only;refine yQ (T:=Tf) (o:=(orSa js ms sh sk n m c d)) (f:=58) (LO:=qZ []) (p:=[0,1,0,1,1,1]) yV ?_;intro t K r hr;obtain ⟨hg,hr⟩:=qY hr;have hc:=vYK hg;exact (lpSa K js ms sh sk n m c d hc).trans hr
  ·dsimp only;refine yQ (T:=Tf) (o:=(orSa js ms sh sk n m c d)) (f:=58) (LO:=qZ []) (p:=[0,1,0,1,1,1,1,1]) yV ?_;intro t K r hr;obtain ⟨hg,hr⟩:=qY hr;have hd:=vYK hg;exact (lpSb K js ms sh sk n m c d hd).trans hr
 ·refine (jHB js ms sh sk n m c d).trans ?_;unfold sErr shG skG;rw [g1_t];by_cases h:rErr js ms n m=0
  ·rw [vYJ h];by_cases hc:24 < (c:Int)
   ·rw [vYJ hc]; rfl
   rw [vYY hc,zQ,vYJ (show c≤50 by omega)];cases allN (fun i:Nat=>decide (shE n (sh i)=0)) c 0 with
   | false=>simp only [Bool.not_true,Bool.not_false,vYQ,vYZ,toN]
   | true =>
    by_cases hd:64 < (d:Int)
    ·rw [vYJ hd]; rfl
    rw [vYY hd,zQ,vYJ (show d≤70 by omega)];cases allN (fun i:Nat=>isLk n (sk i).a && isLk n (sk i).b) d 0 <;> rfl
  ·rw [vYY h]; rfl
noncomputable def orRo (js:Nat→J) (ms:Nat→Ms) (_:Nat→Shp) (_:Nat→Skp) (n m c d:Nat):OrS:=orS [(70,o_cr [.a [.lf n (fJ js),.lf m (fM ms)]] (.v (.n .i64 (rErr js ms n m)))),(88,o_ir),(89,o_bt),(64,o_nr)] []
noncomputable def hRi (js:Nat→J) (ms:Nat→Ms) (sh:Nat→Shp) (sk:Nat→Skp) (n m c d:Nat) (i:Int) (s:Shp) (k:Int):St:=⟨[(1,.p 1 0),(4,.v (.n .i64 i)),(5,.p 5 0),(6,.v (.n .i64 k))],[(1,.blk [.v (.lf n (fJ js)),.v (.lf m (fM ms)),.v (.lf c (fS sh)),.v (.lf d (fK sk))]),(5,.blk [.v (.n .i64 s.link),.v (.n .i64 s.rad),.v (.lf s.np (fZ s.pts))])]⟩
set_option maxRecDepth 100000 in
theorem rdRi (G:St→Option (Ret × Mem)) (K:Cont) (js:Nat→J) (ms:Nat→Ms) (sh:Nat→Shp) (sk:Nat→Skp) (n m c d:Nat) (i:Int) (s:Shp) (k:Int):yJ 100 (cxS Tf (orRo js ms sh sk n m c d) 100 37 (ntmF Tf 37)) (evX Tf (orRo js ms sh sk n m c d) 100 37 (ntmF Tf 37)) (qZ []) (qQ Tf 37 [0,1,1,1,0,0,1,0,0,1,0,1,1,1]) [0,1,1,1,0,0,1,0,0,1,0,1,1,1] (Tf.hint 37 (qJ (qQ Tf 37 [0,1,1,1,0,0,1,0,0,1,0,1,1,1]))) K G (hRi js ms sh sk n m c d i s k) =
 (bif (decide (k < (s.np:Int))) then (bif (inB k s.np) then (bif (gF1 cnr enr (s.pts (k).toNat)) then (bif (zOk 4194304 (s.pts (k).toNat)) then (G (hRi js ms sh sk n m c d i s (vYX .i64 (k + 1))))
 else (K .ret ⟨[(1,.p 1 0),(2,.v (.n .i64 805)),(4,.v (.n .i64 i))],[(1,.blk [.v (.lf n (fJ js)),.v (.lf m (fM ms)),.v (.lf c (fS sh)),.v (.lf d (fK sk))])]⟩))
 else none)
 else none)
 else (K (.exit 2) ⟨[(1,.p 1 0),(4,.v (.n .i64 i))],[(1,.blk [.v (.lf n (fJ js)),.v (.lf m (fM ms)),.v (.lf c (fS sh)),.v (.lf d (fK sk))])]⟩)):=by kernel_rfl
theorem lpRi (K:Cont) (js:Nat→J) (ms:Nat→Ms) (sh:Nat→Shp) (sk:Nat→Skp) (n m c d:Nat) (i:Int) (s:Shp) (_:s.np≤50):LFX 100 (cxS Tf (orRo js ms sh sk n m c d) 100 37 (ntmF Tf 37)) (evX Tf (orRo js ms sh sk n m c d) 100 37 (ntmF Tf 37)) (qZ []) (qQ Tf 37 [0,1,1,1,0,0,1,0,0,1,0,1,1,1]) [0,1,1,1,0,0,1,0,0,1,0,1,1,1] (Tf.hint 37 (qJ (qQ Tf 37 [0,1,1,1,0,0,1,0,0,1,0,1,1,1]))) K 100 (hRi js ms sh sk n m c d i s 0)=bif (allN (fun k:Nat=>zOk 4194304 (s.pts k)) s.np 0) then (K (.exit 2) ⟨[(1,.p 1 0),(4,.v (.n .i64 i))],[(1,.blk [.v (.lf n (fJ js)),.v (.lf m (fM ms)),.v (.lf c (fS sh)),.v (.lf d (fK sk))])]⟩) else (K .ret ⟨[(1,.p 1 0),(2,.v (.n .i64 805)),(4,.v (.n .i64 i))],[(1,.blk [.v (.lf n (fJ js)),.v (.lf m (fM ms)),.v (.lf c (fS sh)),.v (.lf d (fK sk))])]⟩):=by
 refine (jJ (L:=LFX 100 (cxS Tf (orRo js ms sh sk n m c d) 100 37 (ntmF Tf 37)) (evX Tf (orRo js ms sh sk n m c d) 100 37 (ntmF Tf 37)) (qZ []) (qQ Tf 37 [0,1,1,1,0,0,1,0,0,1,0,1,1,1]) [0,1,1,1,0,0,1,0,0,1,0,1,1,1] (Tf.hint 37 (qJ (qQ Tf 37 [0,1,1,1,0,0,1,0,0,1,0,1,1,1]))) K) (stp:=yJ 100 (cxS Tf (orRo js ms sh sk n m c d) 100 37 (ntmF Tf 37)) (evX Tf (orRo js ms sh sk n m c d) 100 37 (ntmF Tf 37)) (qZ []) (qQ Tf 37 [0,1,1,1,0,0,1,0,0,1,0,1,1,1]) [0,1,1,1,0,0,1,0,0,1,0,1,1,1] (Tf.hint 37 (qJ (qQ Tf 37 [0,1,1,1,0,0,1,0,0,1,0,1,1,1]))) K) (fun _ _=>rfl) (fun (k:Nat) (_:Unit)=>hRi js ms sh sk n m c d i s (k:Int)) (fun _ _=>True) (fun (k:Nat) _=>zOk 4194304 (s.pts k)) (fun _ _=>()) (c:=s.np) (fun _=>(K (.exit 2) ⟨[(1,.p 1 0),(4,.v (.n .i64 i))],[(1,.blk [.v (.lf n (fJ js)),.v (.lf m (fM ms)),.v (.lf c (fS sh)),.v (.lf d (fK sk))])]⟩)) (fun k _=>(K .ret ⟨[(1,.p 1 0),(2,.v (.n .i64 805)),(4,.v (.n .i64 i))],[(1,.blk [.v (.lf n (fJ js)),.v (.lf m (fM ms)),.v (.lf c (fS sh)),.v (.lf d (fK sk))])]⟩)) (fun G k f hi _ => ?_) (fun _ _ _ _ _=>trivial) (fun G f _ => ?_) (s.np) 0 100 () (by omega) (by omega) trivial).trans ((zG _ _ _ _ _).trans (yZ _ _ _ _ _))
 ·refine (rdRi G K js ms sh sk n m c d i s k).trans ?_;rw [vYJ (show (k:Int) < (s.np:Int) by omega),jZ (by omega),zJ (show k < s.np by omega),toN,jH (C:=cnr) (t:=s.pts k) trivial];cases zOk 4194304 (s.pts k) <;> rfl
 ·refine (rdRi G K js ms sh sk n m c d i s (s.np:Int)).trans ?_;rw [vYY (show ¬ (s.np:Int) < (s.np:Int) by omega)];rfl
def bkS (σ:St) (k:Nat):Shp:=match qW σ.M k with
 | some (.blk [.v (.n _ l),.v (.n _ r),.v (.lf n f)])=>⟨l,r,n,unFZ f⟩
 | _=>⟨0,0,0,fun _=>⟨0,0,0⟩⟩
theorem okRi (js:Nat→J) (ms:Nat→Ms) (sh:Nat→Shp) (sk:Nat→Skp) (n m c d:Nat):∀ p S,qZ [([0,1,1,1,0,0,1,0,0,1,0,1,1,1],sumF (fun t:Int × Shp=>(hRi js ms sh sk n m c d t.1 t.2 0)) (fun σ=>(slI σ 4,bkS σ 5)) (fun t K=>(bif (decide (t.2.np≤50)) then (bif (allN (fun k:Nat=>zOk 4194304 (t.2.pts k)) t.2.np 0) then (K (.exit 2) ⟨[(1,.p 1 0),(4,.v (.n .i64 t.1))],[(1,.blk [.v (.lf n (fJ js)),.v (.lf m (fM ms)),.v (.lf c (fS sh)),.v (.lf d (fK sk))])]⟩) else (K .ret ⟨[(1,.p 1 0),(2,.v (.n .i64 805)),(4,.v (.n .i64 t.1))],[(1,.blk [.v (.lf n (fJ js)),.v (.lf m (fM ms)),.v (.lf c (fS sh)),.v (.lf d (fK sk))])]⟩)) else none)))] p=some S→uG 100 (cxS Tf (orRo js ms sh sk n m c d) 100 37 (ntmF Tf 37)) (qQ Tf 37 p) S:=fun p S hp=>by
 refine qK (L:=qQ Tf 37) (l:=[([0,1,1,1,0,0,1,0,0,1,0,1,1,1],sumF (fun t:Int × Shp=>(hRi js ms sh sk n m c d t.1 t.2 0)) (fun σ=>(slI σ 4,bkS σ 5)) (fun t K=>(bif (decide (t.2.np≤50)) then (bif (allN (fun k:Nat=>zOk 4194304 (t.2.pts k)) t.2.np 0) then (K (.exit 2) ⟨[(1,.p 1 0),(4,.v (.n .i64 t.1))],[(1,.blk [.v (.lf n (fJ js)),.v (.lf m (fM ms)),.v (.lf c (fS sh)),.v (.lf d (fK sk))])]⟩) else (K .ret ⟨[(1,.p 1 0),(2,.v (.n .i64 805)),(4,.v (.n .i64 t.1))],[(1,.blk [.v (.lf n (fJ js)),.v (.lf m (fM ms)),.v (.lf c (fS sh)),.v (.lf d (fK sk))])]⟩)) else none)))]) ⟨?_,trivial⟩ p S hp;dsimp only;refine yQ (T:=Tf) (o:=(orRo js ms sh sk n m c d)) (f:=37) (LO:=qZ []) (p:=[0,1,1,1,0,0,1,0,0,1,0,1,1,1]) yV ?_;intro t K r hr;obtain ⟨hg,hr⟩:=qY hr
 skip
 exact (lpRi K js ms sh sk n m c d t.1 t.2 (vYK hg)).trans hr
noncomputable def hRo (js:Nat→J) (ms:Nat→Ms) (sh:Nat→Shp) (sk:Nat→Skp) (n m c d:Nat) (i:Int):St:=⟨[(1,.p 1 0),(4,.v (.n .i64 i))],[(1,.blk [.v (.lf n (fJ js)),.v (.lf m (fM ms)),.v (.lf c (fS sh)),.v (.lf d (fK sk))])]⟩
set_option maxRecDepth 100000 in
theorem rdRo (G:St→Option (Ret × Mem)) (K:Cont) (js:Nat→J) (ms:Nat→Ms) (sh:Nat→Shp) (sk:Nat→Skp) (n m c d:Nat) (i:Int):yJ 100 (cxS Tf (orRo js ms sh sk n m c d) 100 37 (ntmF Tf 37)) (evX Tf (orRo js ms sh sk n m c d) 100 37 (ntmF Tf 37)) (qZ [([0,1,1,1,0,0,1,0,0,1,0,1,1,1],sumF (fun t:Int × Shp=>(hRi js ms sh sk n m c d t.1 t.2 0)) (fun σ=>(slI σ 4,bkS σ 5)) (fun t K=>(bif (decide (t.2.np≤50)) then (bif (allN (fun k:Nat=>zOk 4194304 (t.2.pts k)) t.2.np 0) then (K (.exit 2) ⟨[(1,.p 1 0),(4,.v (.n .i64 t.1))],[(1,.blk [.v (.lf n (fJ js)),.v (.lf m (fM ms)),.v (.lf c (fS sh)),.v (.lf d (fK sk))])]⟩) else (K .ret ⟨[(1,.p 1 0),(2,.v (.n .i64 805)),(4,.v (.n .i64 t.1))],[(1,.blk [.v (.lf n (fJ js)),.v (.lf m (fM ms)),.v (.lf c (fS sh)),.v (.lf d (fK sk))])]⟩)) else none)))]) (qQ Tf 37 [0,1,0,1,1,1]) [0,1,0,1,1,1] (Tf.hint 37 (qJ (qQ Tf 37 [0,1,0,1,1,1]))) K G (hRo js ms sh sk n m c d i) =
 (bif (decide (i < (c:Int))) then (bif (inB i c) then (bif (gF1 cir eir (js,ms,n,m,(sh (i).toNat).link)) then (bif (isLk n ((sh (i).toNat).link)) then (bif (gF1 cbt ebt (((sh (i).toNat).rad),1,1048576)) then (bif (decide (1≤((sh (i).toNat).rad)) && decide (((sh (i).toNat).rad)≤1048576)) then (bif (decide (((sh (i).toNat).np:Int) < 1)) then (K .ret ⟨[(1,.p 1 0),(2,.v (.n .i64 902))],[(1,.blk [.v (.lf n (fJ js)),.v (.lf m (fM ms)),.v (.lf c (fS sh)),.v (.lf d (fK sk))])]⟩)
 else (bif (decide (8 < ((sh (i).toNat).np:Int))) then (K .ret ⟨[(1,.p 1 0),(2,.v (.n .i64 902))],[(1,.blk [.v (.lf n (fJ js)),.v (.lf m (fM ms)),.v (.lf c (fS sh)),.v (.lf d (fK sk))])]⟩)
 else (bif (gSt (hRi js ms sh sk n m c d i (sh (i).toNat) 0) (hRi js ms sh sk n m c d i (sh (i).toNat) 0)) then (bif (decide ((sh (i).toNat).np≤50)) then (bif (allN (fun k:Nat=>zOk 4194304 ((sh (i).toNat).pts k)) (sh (i).toNat).np 0) then (G (hRo js ms sh sk n m c d (vYX .i64 (i + 1))))
 else (K .ret ⟨[(1,.p 1 0),(2,.v (.n .i64 805))],[(1,.blk [.v (.lf n (fJ js)),.v (.lf m (fM ms)),.v (.lf c (fS sh)),.v (.lf d (fK sk))])]⟩))
 else none)
 else none)))
 else (K .ret ⟨[(1,.p 1 0),(2,.v (.n .i64 902))],[(1,.blk [.v (.lf n (fJ js)),.v (.lf m (fM ms)),.v (.lf c (fS sh)),.v (.lf d (fK sk))])]⟩))
 else none)
 else (K .ret ⟨[(1,.p 1 0),(2,.v (.n .i64 902))],[(1,.blk [.v (.lf n (fJ js)),.v (.lf m (fM ms)),.v (.lf c (fS sh)),.v (.lf d (fK sk))])]⟩))
 else none)
 else none)
 else (K (.exit 0) ⟨[(1,.p 1 0)],[(1,.blk [.v (.lf n (fJ js)),.v (.lf m (fM ms)),.v (.lf c (fS sh)),.v (.lf d (fK sk))])]⟩)):=by kernel_rfl
theorem nle (a b:Int):decide (a≤b) = !decide (b < a):=by by_cases h:b < a <;> simp [h] <;> omega
theorem lpRo (K:Cont) (js:Nat→J) (ms:Nat→Ms) (sh:Nat→Shp) (sk:Nat→Skp) (n m c d:Nat) (_:c≤50):LFX 100 (cxS Tf (orRo js ms sh sk n m c d) 100 37 (ntmF Tf 37)) (evX Tf (orRo js ms sh sk n m c d) 100 37 (ntmF Tf 37)) (qZ [([0,1,1,1,0,0,1,0,0,1,0,1,1,1],sumF (fun t:Int × Shp=>(hRi js ms sh sk n m c d t.1 t.2 0)) (fun σ=>(slI σ 4,bkS σ 5)) (fun t K=>(bif (decide (t.2.np≤50)) then (bif (allN (fun k:Nat=>zOk 4194304 (t.2.pts k)) t.2.np 0) then (K (.exit 2) ⟨[(1,.p 1 0),(4,.v (.n .i64 t.1))],[(1,.blk [.v (.lf n (fJ js)),.v (.lf m (fM ms)),.v (.lf c (fS sh)),.v (.lf d (fK sk))])]⟩) else (K .ret ⟨[(1,.p 1 0),(2,.v (.n .i64 805)),(4,.v (.n .i64 t.1))],[(1,.blk [.v (.lf n (fJ js)),.v (.lf m (fM ms)),.v (.lf c (fS sh)),.v (.lf d (fK sk))])]⟩)) else none)))]) (qQ Tf 37 [0,1,0,1,1,1]) [0,1,0,1,1,1] (Tf.hint 37 (qJ (qQ Tf 37 [0,1,0,1,1,1]))) K 100 (hRo js ms sh sk n m c d 0)=bif shG sh n c then (K (.exit 0) ⟨[(1,.p 1 0)],[(1,.blk [.v (.lf n (fJ js)),.v (.lf m (fM ms)),.v (.lf c (fS sh)),.v (.lf d (fK sk))])]⟩) else (K .ret ⟨[(1,.p 1 0),(2,.v (.n .i64 (shE n (sh (Rx.firstK (fun i:Nat=>decide (shE n (sh i)=0)) c 0)))))],[(1,.blk [.v (.lf n (fJ js)),.v (.lf m (fM ms)),.v (.lf c (fS sh)),.v (.lf d (fK sk))])]⟩):=by
 refine (jJ (L:=LFX 100 (cxS Tf (orRo js ms sh sk n m c d) 100 37 (ntmF Tf 37)) (evX Tf (orRo js ms sh sk n m c d) 100 37 (ntmF Tf 37)) (qZ [([0,1,1,1,0,0,1,0,0,1,0,1,1,1],sumF (fun t:Int × Shp=>(hRi js ms sh sk n m c d t.1 t.2 0)) (fun σ=>(slI σ 4,bkS σ 5)) (fun t K=>(bif (decide (t.2.np≤50)) then (bif (allN (fun k:Nat=>zOk 4194304 (t.2.pts k)) t.2.np 0) then (K (.exit 2) ⟨[(1,.p 1 0),(4,.v (.n .i64 t.1))],[(1,.blk [.v (.lf n (fJ js)),.v (.lf m (fM ms)),.v (.lf c (fS sh)),.v (.lf d (fK sk))])]⟩) else (K .ret ⟨[(1,.p 1 0),(2,.v (.n .i64 805)),(4,.v (.n .i64 t.1))],[(1,.blk [.v (.lf n (fJ js)),.v (.lf m (fM ms)),.v (.lf c (fS sh)),.v (.lf d (fK sk))])]⟩)) else none)))]) (qQ Tf 37 [0,1,0,1,1,1]) [0,1,0,1,1,1] (Tf.hint 37 (qJ (qQ Tf 37 [0,1,0,1,1,1]))) K) (stp:=yJ 100 (cxS Tf (orRo js ms sh sk n m c d) 100 37 (ntmF Tf 37)) (evX Tf (orRo js ms sh sk n m c d) 100 37 (ntmF Tf 37)) (qZ [([0,1,1,1,0,0,1,0,0,1,0,1,1,1],sumF (fun t:Int × Shp=>(hRi js ms sh sk n m c d t.1 t.2 0)) (fun σ=>(slI σ 4,bkS σ 5)) (fun t K=>(bif (decide (t.2.np≤50)) then (bif (allN (fun k:Nat=>zOk 4194304 (t.2.pts k)) t.2.np 0) then (K (.exit 2) ⟨[(1,.p 1 0),(4,.v (.n .i64 t.1))],[(1,.blk [.v (.lf n (fJ js)),.v (.lf m (fM ms)),.v (.lf c (fS sh)),.v (.lf d (fK sk))])]⟩) else (K .ret ⟨[(1,.p 1 0),(2,.v (.n .i64 805)),(4,.v (.n .i64 t.1))],[(1,.blk [.v (.lf n (fJ js)),.v (.lf m (fM ms)),.v (.lf c (fS sh)),.v (.lf d (fK sk))])]⟩)) else none)))]) (qQ Tf 37 [0,1,0,1,1,1]) [0,1,0,1,1,1] (Tf.hint 37 (qJ (qQ Tf 37 [0,1,0,1,1,1]))) K) (fun _ _=>rfl) (fun (i:Nat) (_:Unit)=>hRo js ms sh sk n m c d (i:Int)) (fun _ _=>True) (fun (i:Nat) _=>decide (shE n (sh i)=0)) (fun _ _=>()) (c:=c) (fun _=>(K (.exit 0) ⟨[(1,.p 1 0)],[(1,.blk [.v (.lf n (fJ js)),.v (.lf m (fM ms)),.v (.lf c (fS sh)),.v (.lf d (fK sk))])]⟩)) (fun i _=>(K .ret ⟨[(1,.p 1 0),(2,.v (.n .i64 (shE n (sh i))))],[(1,.blk [.v (.lf n (fJ js)),.v (.lf m (fM ms)),.v (.lf c (fS sh)),.v (.lf d (fK sk))])]⟩)) (fun G i f hi _ => ?_) (fun _ _ _ _ _=>trivial) (fun G f _ => ?_) c 0 100 () (by omega) (by omega) trivial).trans ((zG _ _ _ _ _).trans (kK _ _ _ _ _))
 ·refine (rdRo G K js ms sh sk n m c d i).trans ?_;rw [vYJ (show (i:Int) < (c:Int) by omega),zJ (show i < c by omega),toN,jZ (by omega),jH (C:=cir) (t:=(js,ms,n,m,(sh i).link)) trivial,jH (C:=cbt) (t:=((sh i).rad,1,1048576)) trivial,zQ,nle 1,nle _ 1048576];unfold shE qVL;by_cases h:8 < ((sh i).np:Int)
  ·rw [vYJ h];cases isLk n (sh i).link <;> cases decide ((sh i).rad < 1) <;> cases decide (1048576 < (sh i).rad) <;> cases decide (((sh i).np:Int) < 1) <;> rfl
  ·rw [vYY h,vYJ (show (sh i).np≤50 by omega)];cases isLk n (sh i).link <;> cases decide ((sh i).rad < 1) <;> cases decide (1048576 < (sh i).rad) <;> cases decide (((sh i).np:Int) < 1) <;> cases allN (fun k:Nat=>zOk 4194304 ((sh i).pts k)) (sh i).np 0 <;> rfl
 ·refine (rdRo G K js ms sh sk n m c d (c:Int)).trans ?_;rw [vYY (show ¬ (c:Int) < (c:Int) by omega)];rfl
noncomputable def hRs (js:Nat→J) (ms:Nat→Ms) (sh:Nat→Shp) (sk:Nat→Skp) (n m c d:Nat) (i:Int):St:=⟨[(1,.p 1 0),(7,.v (.n .i64 i))],[(1,.blk [.v (.lf n (fJ js)),.v (.lf m (fM ms)),.v (.lf c (fS sh)),.v (.lf d (fK sk))])]⟩
set_option maxRecDepth 100000 in
theorem rdRs (G:St→Option (Ret × Mem)) (K:Cont) (js:Nat→J) (ms:Nat→Ms) (sh:Nat→Shp) (sk:Nat→Skp) (n m c d:Nat) (i:Int):yJ 100 (cxS Tf (orRo js ms sh sk n m c d) 100 37 (ntmF Tf 37)) (evX Tf (orRo js ms sh sk n m c d) 100 37 (ntmF Tf 37)) (qZ []) (qQ Tf 37 [0,1,0,1,1,1,1,1]) [0,1,0,1,1,1,1,1] (Tf.hint 37 (qJ (qQ Tf 37 [0,1,0,1,1,1,1,1]))) K G (hRs js ms sh sk n m c d i) =
 (bif (decide (i < (d:Int))) then (bif (inB i d) then (bif (gF1 cir eir (js,ms,n,m,(sk (i).toNat).a)) then (bif (isLk n ((sk (i).toNat).a)) then (bif (inB i d) then (bif (gF1 cir eir (js,ms,n,m,(sk (i).toNat).b)) then (bif (isLk n ((sk (i).toNat).b)) then (G (hRs js ms sh sk n m c d (vYX .i64 (i + 1))))
 else (K .ret ⟨[(2,.v (.n .i64 903))],[]⟩))
 else none)
 else none)
 else (K .ret ⟨[(2,.v (.n .i64 903))],[]⟩))
 else none)
 else none)
 else (K (.exit 4) ⟨[],[]⟩)):=by kernel_rfl
theorem lpRs (K:Cont) (js:Nat→J) (ms:Nat→Ms) (sh:Nat→Shp) (sk:Nat→Skp) (n m c d:Nat) (_:d≤70):LFX 100 (cxS Tf (orRo js ms sh sk n m c d) 100 37 (ntmF Tf 37)) (evX Tf (orRo js ms sh sk n m c d) 100 37 (ntmF Tf 37)) (qZ []) (qQ Tf 37 [0,1,0,1,1,1,1,1]) [0,1,0,1,1,1,1,1] (Tf.hint 37 (qJ (qQ Tf 37 [0,1,0,1,1,1,1,1]))) K 100 (hRs js ms sh sk n m c d 0)=bif (allN (fun i:Nat=>isLk n (sk i).a && isLk n (sk i).b) d 0) then (K (.exit 4) ⟨[],[]⟩) else (K .ret ⟨[(2,.v (.n .i64 903))],[]⟩):=by
 refine (jJ (L:=LFX 100 (cxS Tf (orRo js ms sh sk n m c d) 100 37 (ntmF Tf 37)) (evX Tf (orRo js ms sh sk n m c d) 100 37 (ntmF Tf 37)) (qZ []) (qQ Tf 37 [0,1,0,1,1,1,1,1]) [0,1,0,1,1,1,1,1] (Tf.hint 37 (qJ (qQ Tf 37 [0,1,0,1,1,1,1,1]))) K) (stp:=yJ 100 (cxS Tf (orRo js ms sh sk n m c d) 100 37 (ntmF Tf 37)) (evX Tf (orRo js ms sh sk n m c d) 100 37 (ntmF Tf 37)) (qZ []) (qQ Tf 37 [0,1,0,1,1,1,1,1]) [0,1,0,1,1,1,1,1] (Tf.hint 37 (qJ (qQ Tf 37 [0,1,0,1,1,1,1,1]))) K) (fun _ _=>rfl) (fun (i:Nat) (_:Unit)=>hRs js ms sh sk n m c d (i:Int)) (fun _ _=>True) (fun (i:Nat) _=>isLk n (sk i).a && isLk n (sk i).b) (fun _ _=>()) (c:=d) (fun _=>(K (.exit 4) ⟨[],[]⟩)) (fun i _=>(K .ret ⟨[(2,.v (.n .i64 903))],[]⟩)) (fun G i f hi _ => ?_) (fun _ _ _ _ _=>trivial) (fun G f _ => ?_) d 0 100 () (by omega) (by omega) trivial).trans ((zG _ _ _ _ _).trans (yZ _ _ _ _ _))
 ·refine (rdRs G K js ms sh sk n m c d i).trans ?_;rw [vYJ (show (i:Int) < (d:Int) by omega),jZ (by omega),zJ (show i < d by omega),toN,jH (C:=cir) (t:=(js,ms,n,m,(sk i).a)) trivial,jH (C:=cir) (t:=(js,ms,n,m,(sk i).b)) trivial];cases isLk n (sk i).a <;> cases isLk n (sk i).b <;> rfl
 ·refine (rdRs G K js ms sh sk n m c d d).trans ?_;rw [vYY (show ¬ (d:Int) < (d:Int) by omega)];rfl
noncomputable def yWI (js:Nat→J) (ms:Nat→Ms) (sh:Nat→Shp) (sk:Nat→Skp) (n m c d:Nat):List (List Nat × yU):=[([0,1,0,1,1,1],sumF (fun _:Unit=>(hRo js ms sh sk n m c d 0)) (fun _=>()) (fun _ K=>(bif (decide (c≤50)) then (bif shG sh n c then (K (.exit 0) ⟨[(1,.p 1 0)],[(1,.blk [.v (.lf n (fJ js)),.v (.lf m (fM ms)),.v (.lf c (fS sh)),.v (.lf d (fK sk))])]⟩) else (K .ret ⟨[(1,.p 1 0),(2,.v (.n .i64 (shE n (sh (Rx.firstK (fun i:Nat=>decide (shE n (sh i)=0)) c 0)))))],[(1,.blk [.v (.lf n (fJ js)),.v (.lf m (fM ms)),.v (.lf c (fS sh)),.v (.lf d (fK sk))])]⟩)) else none))),([0,1,0,1,1,1,1,1],sumF (fun _:Unit=>(hRs js ms sh sk n m c d 0)) (fun _=>()) (fun _ K=>(bif (decide (d≤70)) then (bif (allN (fun i:Nat=>isLk n (sk i).a && isLk n (sk i).b) d 0) then (K (.exit 4) ⟨[],[]⟩) else (K .ret ⟨[(2,.v (.n .i64 903))],[]⟩)) else none)))]
set_option maxRecDepth 100000 in
theorem jHD (js:Nat→J) (ms:Nat→Ms) (sh:Nat→Shp) (sk:Nat→Skp) (n m c d:Nat):kH Tf (orRo js ms sh sk n m c d) (qZ (yWI js ms sh sk n m c d)) 100 37 [.a [.lf n (fJ js),.lf m (fM ms),.lf c (fS sh),.lf d (fK sk)]] =
 (bif (g1 [.a [.lf n (fJ js),.lf m (fM ms)]]) then (bif (!decide ((rErr js ms n m)=0)) then some (.v (.n .i64 (rErr js ms n m)),[])
 else (bif (decide (24 < (c:Int))) then some (.v (.n .i64 901),[])
 else (bif (gSt (hRo js ms sh sk n m c d 0) (hRo js ms sh sk n m c d 0)) then (bif (decide (c≤50)) then (bif (shG sh n c) then (bif (decide (64 < (d:Int))) then some (.v (.n .i64 903),[])
 else (bif (gSt (hRs js ms sh sk n m c d 0) (hRs js ms sh sk n m c d 0)) then (bif (decide (d≤70)) then (bif (allN (fun i:Nat=>isLk n (sk i).a && isLk n (sk i).b) d 0) then some (.v (.n .i64 0),[])
 else some (.v (.n .i64 903),[]))
 else none)
 else none))
 else some (.v (.n .i64 (shE n (sh (Rx.firstK (fun i:Nat=>decide (shE n (sh i)=0)) c 0)))),[]))
 else none)
 else none)))
 else none):=by kernel_rfl
theorem jQJ (js:Nat→J) (ms:Nat→Ms) (sh:Nat→Shp) (sk:Nat→Skp) (n m c d:Nat):qH Tryz.prog 37 [.a [.lf n (fJ js),.lf m (fM ms),.lf c (fS sh),.lf d (fK sk)]] (.v (.n .i64 (sErr js ms sh sk n m c d))):=by
 refine qX (N:=100) (LO:=qZ (yWI js ms sh sk n m c d)) yG qG (yH (l:=[(70,o_cr [.a [.lf n (fJ js),.lf m (fM ms)]] (.v (.n .i64 (rErr js ms n m)))),(88,o_ir),(89,o_bt),(64,o_nr)]) (m:=[]) ⟨qVJ (jQL js ms n m),kZC,kYK,kZG,trivial⟩ trivial) (fun p S hp => ?_) ?_
 ·refine qK (L:=qQ Tf 37) (l:=(yWI js ms sh sk n m c d)) (show AllP _ (yWI js ms sh sk n m c d) from ⟨?_,?_,trivial⟩) p S hp
  ·dsimp only;refine yQ (T:=Tf) (o:=(orRo js ms sh sk n m c d)) (f:=37) (LO:=(qZ [([0,1,1,1,0,0,1,0,0,1,0,1,1,1],sumF (fun t:Int × Shp=>(hRi js ms sh sk n m c d t.1 t.2 0)) (fun σ=>(slI σ 4,bkS σ 5)) (fun t K=>(bif (decide (t.2.np≤50)) then (bif (allN (fun k:Nat=>zOk 4194304 (t.2.pts k)) t.2.np 0) then (K (.exit 2) ⟨[(1,.p 1 0),(4,.v (.n .i64 t.1))],[(1,.blk [.v (.lf n (fJ js)),.v (.lf m (fM ms)),.v (.lf c (fS sh)),.v (.lf d (fK sk))])]⟩) else (K .ret ⟨[(1,.p 1 0),(2,.v (.n .i64 805)),(4,.v (.n .i64 t.1))],[(1,.blk [.v (.lf n (fJ js)),.v (.lf m (fM ms)),.v (.lf c (fS sh)),.v (.lf d (fK sk))])]⟩)) else none)))])) (p:=[0,1,0,1,1,1]) (okRi js ms sh sk n m c d) ?_;intro t K r hr;obtain ⟨hg,hr⟩:=qY hr
   skip
   exact (lpRo K js ms sh sk n m c d (vYK hg)).trans hr
  ·dsimp only;refine yQ (T:=Tf) (o:=(orRo js ms sh sk n m c d)) (f:=37) (LO:=qZ []) (p:=[0,1,0,1,1,1,1,1]) yV ?_;intro t K r hr;obtain ⟨hg,hr⟩:=qY hr;have hd:=vYK hg;exact (lpRs K js ms sh sk n m c d hd).trans hr
 ·refine (jHD js ms sh sk n m c d).trans ?_;unfold sErr skG;rw [g1_t];by_cases h:rErr js ms n m=0
  ·rw [vYJ h];by_cases hc:24 < (c:Int)
   ·rw [vYJ hc]; rfl
   rw [vYY hc,zQ,vYJ (show c≤50 by omega)];cases shG sh n c with
   | false=>rfl
   | true =>
    by_cases hd:64 < (d:Int)
    ·rw [vYJ hd]; rfl
    rw [vYY hd,zQ,vYJ (show d≤70 by omega)];cases allN (fun i:Nat=>isLk n (sk i).a && isLk n (sk i).b) d 0 <;> rfl
  ·rw [vYY h]; rfl
end Go.Proofs.YtmeldddgjfocdaaGreat.Gc
namespace Go.Proofs.YtmeldddgjfocdaaGreat.Gd
open Go.Rx Rt Go.Sx Go.RowKit Od Na Nb Nc Nx Nf Ga Gb Gc
noncomputable def zXX:List PV→Option (Bool × Ret):=fun ps=>match ps with
 | [.a z']=>(z3D z').bind fun z=>some (true,.v (.a (v3C (V3.of z))))
 | _=>none
noncomputable def L6:OrL:=(49,zXX) :: L5
noncomputable def yXL:List PV→Option (Bool × Ret):=fun ps=>match ps with
 | [.a p',.a v']=>(poD p').bind fun p=>(v3D v').bind fun v=>some (true,.v (.a (v3C (Po.app p v))))
 | _=>none
noncomputable def L7:OrL:=(48,yXL) :: L6
noncomputable def qVK:List PV→Option (Bool × Ret):=fun ps=>match ps with
 | []=>some (true,.v (.a (poC (Po.rest))))
 | _=>none
noncomputable def L8:OrL:=(107,qVK) :: L7
def fV (g:Nat→V3):Nat→List PV:=fun v=>Rx.v3C (g v)
theorem qHB {s:Shp} (h:shOk s=true):1≤s.np∧s.np≤8:=by
 unfold shOk at h;simp only [vQJ,Bool.not_eq_true',Bool.or_eq_false_iff,decide_eq_false_iff_not] at h;omega
end Go.Proofs.YtmeldddgjfocdaaGreat.Gd
namespace Go.Proofs.YtmeldddgjfocdaaGreat.Ge
open Go.Rx Rt Go.Sx Go.RowKit Od Na Nb Nc Nx Nf Ga Gb Gc Gd
theorem qZQ {js:Nat→J} {ms:Nat→Ms} {sh:Nat→Shp} {sk:Nat→Skp} {n m c d:Nat} (h:sErr js ms sh sk n m c d=0):rErr js ms n m=0∧c≤24∧∀ i,i < c→shE n (sh i)=0:=by
 unfold sErr at h;by_cases h1:rErr js ms n m=0
 ·rw [vYJ h1,vYQ] at h;by_cases h2:24 < (c:Int)
  ·rw [vYJ h2,vYQ] at h; exact absurd h (by decide)
  ·rw [vYY h2,vYZ] at h;cases h3:shG sh n c with
   | true=>exact ⟨h1,by omega,fun i hi=>vYK (allN_iff.1 h3 i (Nat.zero_le _) (by omega))⟩
   | false =>
    rw [h3,vYZ] at h;have hf:∀ k p,allN (fun i:Nat=>decide (shE n (sh i)=0)) k p=false→shE n (sh (Rx.firstK (fun i:Nat=>decide (shE n (sh i)=0)) k p)) ≠ 0:=by
     intro k;induction k with
     | zero=>intro p hp; cases hp
     | succ k ih =>
      intro p hp;unfold allN at hp;unfold Rx.firstK;by_cases h0:shE n (sh p)=0
      ·rw [vYJ h0] at hp ⊢;exact ih _ (by simpa using hp)
      ·rw [vYY h0];exact h0
    exact absurd h (hf c 0 h3)
 ·rw [vYY h1,vYZ] at h; exact absurd h h1
theorem qHC {n:Nat} {s:Shp} (h:shE n s=0):(-1≤s.link∧s.link < (n:Int))∧shOk s=true:=by
 unfold shE at h;cases h1:isLk n s.link with
 | false=>rw [h1] at h; exact absurd (show (902:Int)=0 from h) (by decide)
 | true =>
  rw [h1,Bool.not_true,Bool.false_or] at h;unfold isLk at h1;rw [vQJ,decide_eq_true_eq,decide_eq_true_eq] at h1;refine ⟨h1,?_⟩;unfold shOk;cases h2:(decide (s.rad < 1) || (decide (1048576 < s.rad) || (decide ((s.np:Int) < 1) || decide (8 < (s.np:Int))))) with
  | true=>rw [h2] at h; exact absurd (show (902:Int)=0 from h) (by decide)
  | false =>
   rw [h2,vYZ] at h;cases h3:qVL s with
   | true=>rfl
   | false=>rw [h3] at h; exact absurd (show (805:Int)=0 from h) (by decide)
end Go.Proofs.YtmeldddgjfocdaaGreat.Ge
namespace Go.Proofs.YtmeldddgjfocdaaGreat.Gf
open Go.Rx Rt Go.Sx Go.RowKit Od Na Nb Nc Nx Nf Ga Gb Gc Gd Ge
theorem zJD {n:Nat}:allN (fun _:Nat=>true) n 0=true:=allN_iff.2 fun _ _ _=>rfl
noncomputable def hsp (q:Nat→Po) (n:Nat) (i:Int):St:=⟨[(0,.v (.lf n (fP q))),(1,.v (.lf n (fP q))),(5,.v (.n .i64 i))],[]⟩
def fVV (g:Nat→Nat) (x:Nat→Nat→V3):Nat→List PV:=fun v=>[.lf (g v) (fV (x v))]
noncomputable def hsl (g:Nat→Nat) (x:Nat→Nat→V3) (c:Nat) (i:Int):St:=⟨[(0,.v (.lf c (fVV g x))),(1,.v (.lf c (fVV g x))),(5,.v (.n .i64 i))],[]⟩
end Go.Proofs.YtmeldddgjfocdaaGreat.Gf
namespace Go.Proofs.YtmeldddgjfocdaaGreat.Gg
end Go.Proofs.YtmeldddgjfocdaaGreat.Gg
namespace Go.Proofs.YtmeldddgjfocdaaGreat.Ha
open Go.Rx Rt Go.Sx Go.RowKit Od Na Nb Nc Nx Nf Ga Gb Gc Gd Ge Gf Gg
structure ObT where
 name:ByteArray
 ns:Nat
 shs:Nat→Shp
structure Hnd where
 link:Int
 off:Z3
structure Grp where
 hand:Int
 place:Int
 na:Nat
 cf:Nat→Int
structure Wsp where
 js:Nat→J
 ms:Nat→Ms
 sh:Nat→Shp
 sk:Nat→Skp
 n:Nat
 m:Nat
 c:Nat
 d:Nat
 ob:Nat→ObT
 pl:Nat→Z3
 hd:Nat→Hnd
 gr:Nat→Grp
 no:Nat
 np:Nat
 nh:Nat
 ng:Nat
 slack:Int
def oP (o:ObT):List PV:=[.s o.name,.lf o.ns (fS o.shs)]
def fO (ob:Nat→ObT):Nat→List PV:=fun v=>oP (ob v)
def hP (h:Hnd):List PV:=[.n .i64 h.link,.n .i64 h.off.x,.n .i64 h.off.y,.n .i64 h.off.z]
def fH (hd:Nat→Hnd):Nat→List PV:=fun v=>hP (hd v)
def gPv (g:Grp):List PV:=[.n .i64 g.hand,.n .i64 g.place,.lf g.na (fQ g.cf)]
def fG (gr:Nat→Grp):Nat→List PV:=fun v=>gPv (gr v)
def scP (ws:Wsp):List PV:=[.lf ws.n (fJ ws.js),.lf ws.m (fM ws.ms),.lf ws.c (fS ws.sh),.lf ws.d (fK ws.sk)]
def wP (ws:Wsp):List PV:=[.lf ws.n (fJ ws.js),.lf ws.m (fM ws.ms),.lf ws.c (fS ws.sh),.lf ws.d (fK ws.sk),.lf ws.no (fO ws.ob),.lf ws.np (fZ ws.pl),.lf ws.nh (fH ws.hd),.lf ws.ng (fG ws.gr),.n .i64 ws.slack]
def unO (r:List PV):ObT:=match r with
 | [.s a,.lf k f]=>⟨a,k,unFS f⟩
 | _=>⟨ByteArray.empty,0,fun _=>⟨0,0,0,fun _=>⟨0,0,0⟩⟩⟩
def unH (r:List PV):Hnd:=match r with
 | [.n _ a,.n _ x,.n _ y,.n _ z]=>⟨a,⟨x,y,z⟩⟩
 | _=>⟨0,⟨0,0,0⟩⟩
def unG (r:List PV):Grp:=match r with
 | [.n _ a,.n _ b,.lf k f]=>⟨a,b,k,unFQ f⟩
 | _=>⟨0,0,0,fun _=>0⟩
def unW (r:List PV):Wsp:=match r with
 | [.lf n js,.lf m ms,.lf c sh,.lf d sk,.lf no ob,.lf np pl,.lf nh hd,.lf ng gr,.n _ s]=>⟨unFJ js,unFM ms,unFS sh,unFK sk,n,m,c,d,fun v=>unO (ob v),unFZ pl,fun v=>unH (hd v),fun v=>unG (gr v),no,np,nh,ng,s⟩
 | _=>⟨fun _=>⟨ByteArray.empty,0,0,⟨0,0,0⟩,0,0,0,0,0,0⟩,fun _=>⟨0,0,⟨0,0,0⟩⟩,fun _=>⟨0,0,0,fun _=>⟨0,0,0⟩⟩,fun _=>⟨0,0⟩,0,0,0,0,fun _=>⟨ByteArray.empty,0,fun _=>⟨0,0,0,fun _=>⟨0,0,0⟩⟩⟩,fun _=>⟨0,0,0⟩,fun _=>⟨0,⟨0,0,0⟩⟩,fun _=>⟨0,0,0,fun _=>0⟩,0,0,0,0,0⟩
theorem mmz (x:Int):decide (min (max x (-2097152)) 2097152=x)=(!decide (x < -2097152) && !decide (2097152 < x)):=by
 by_cases h1:x < -2097152
 ·rw [vYJ h1,vYY (show ¬ min (max x (-2097152)) 2097152=x by omega)]; rfl
 ·rw [vYY h1];by_cases h2:2097152 < x
  ·rw [vYJ h2,vYY (show ¬ min (max x (-2097152)) 2097152=x by omega)]; rfl
  ·rw [vYY h2,vYJ (show min (max x (-2097152)) 2097152=x by omega)]; rfl
noncomputable def kQB (_:Z3):OrS:=orS [] []
noncomputable def yVQ (_:Z3):List (List Nat × yU):=[]
set_option maxRecDepth 100000 in
theorem jHF (z:Z3):kH Tf (kQB z) (qZ (yVQ z)) 60 111 [.a [.n .i64 z.x,.n .i64 z.y,.n .i64 z.z]] =
 (bif ((decide ((min (max z.x (-2097152)) 2097152)=z.x)) && ((decide ((min (max z.y (-2097152)) 2097152)=z.y)) && ((decide ((min (max z.z (-2097152)) 2097152)=z.z)) && true))) then some (.v (.b true),[])
 else some (.v (.b false),[])):=by kernel_rfl
theorem jQW (z:Z3):qH Tryz.prog 111 [.a [.n .i64 z.x,.n .i64 z.y,.n .i64 z.z]] (.v (.b (zOk 2097152 z))):=by
 refine qX (N:=60) (LO:=qZ (yVQ z)) yG qG (yH (l:=[]) (m:=[]) trivial trivial) (fun p S hp => ?_) ?_
 ·refine qK (L:=qQ Tf 111) (l:=(yVQ z)) (show AllP _ (yVQ z) from trivial) p S hp
 ·refine (jHF z).trans ?_;have e:((decide ((min (max z.x (-2097152)) 2097152)=z.x)) && ((decide ((min (max z.y (-2097152)) 2097152)=z.y)) && ((decide ((min (max z.z (-2097152)) 2097152)=z.z)) && true)))=zOk 2097152 z:=by
   unfold zOk;simp only [mmz,Bool.and_true]
  rw [e];cases zOk 2097152 z <;> rfl
def cne:Z3→Prop:=fun t=>match t with | _=>True
def ene:Z3→List PV:=fun t=>match t with | z=>[.a (zP z)]
noncomputable def rne:Z3→Ret:=fun t=>match t with | z=>.v (.b (zOk 2097152 z))
def dne:List PV→Z3:=fun ps=>match ps with
 | [.a r]=>unZ r
 | _=>⟨0,0,0⟩
noncomputable def o_ne:List PV→Option (Bool × Ret):=o_fm dne cne ene rne
theorem jWQ:jG Tryz.prog 111 o_ne:=qQU fun t h=>by
 revert h; revert t; intro z h
 exact jQW z
def sOk (s:Shp):Bool:=shOk s && (decide (s.link=0) && allN (fun k:Nat=>zOk 2097152 (s.pts k)) s.np 0)
def soOk (o:ObT):Bool:=allN (fun i:Nat=>sOk (o.shs i)) o.ns 0 && decide (0 < (o.ns:Int))
def slS (σ:St) (k:Nat):Shp:=match jU σ.S k with
 | some (.v (.lf n f))=>⟨0,0,n,unFZ f⟩
 | _=>⟨0,0,0,fun _=>⟨0,0,0⟩⟩
noncomputable def orSo (o:ObT):OrS:=orS [(115,o_pk),(111,o_ne)] []
noncomputable def hSi (o:ObT) (i:Int) (s:Shp) (k:Int):St:=⟨[(1,.p 1 0),(8,.v (.lf o.ns (fS o.shs))),(9,.v (.n .i64 (o.ns:Int))),(10,.v (.n .i64 i)),(23,.v (.lf s.np (fZ s.pts))),(24,.v (.n .i64 (s.np:Int))),(25,.v (.n .i64 k))],[(1,.blk [.v (.s o.name),.v (.lf o.ns (fS o.shs))])]⟩
set_option maxRecDepth 100000 in
theorem rdSi (G:St→Option (Ret × Mem)) (K:Cont) (o:ObT) (i:Int) (s:Shp) (k:Int):yJ (o.ns + 100) (cxS Tf (orSo o) (o.ns + 100) 63 (ntmF Tf 63)) (evX Tf (orSo o) (o.ns + 100) 63 (ntmF Tf 63)) (qZ []) (qQ Tf 63 [0,1,1,1,0,0,1,1,0,0,1,0,1]) [0,1,1,1,0,0,1,1,0,0,1,0,1] (Tf.hint 63 (qJ (qQ Tf 63 [0,1,1,1,0,0,1,1,0,0,1,0,1]))) K G (hSi o i s k) =
 (bif (decide (k < (s.np:Int))) then (bif (inB k s.np) then (bif (gF1 cne ene (s.pts (k).toNat)) then (bif (zOk 2097152 (s.pts (k).toNat)) then (G (hSi o i s (vYX .i64 (k + 1))))
 else (K .ret ⟨[(1,.p 1 0),(2,.v (.b false)),(8,.v (.lf o.ns (fS o.shs))),(9,.v (.n .i64 (o.ns:Int))),(10,.v (.n .i64 i))],[(1,.blk [.v (.s o.name),.v (.lf o.ns (fS o.shs))])]⟩))
 else none)
 else none)
 else (K (.exit 2) ⟨[(1,.p 1 0),(8,.v (.lf o.ns (fS o.shs))),(9,.v (.n .i64 (o.ns:Int))),(10,.v (.n .i64 i))],[(1,.blk [.v (.s o.name),.v (.lf o.ns (fS o.shs))])]⟩)):=by kernel_rfl
theorem lpSi (K:Cont) (o:ObT) (i:Int) (s:Shp) (_:s.np≤50):LFX (o.ns + 100) (cxS Tf (orSo o) (o.ns + 100) 63 (ntmF Tf 63)) (evX Tf (orSo o) (o.ns + 100) 63 (ntmF Tf 63)) (qZ []) (qQ Tf 63 [0,1,1,1,0,0,1,1,0,0,1,0,1]) [0,1,1,1,0,0,1,1,0,0,1,0,1] (Tf.hint 63 (qJ (qQ Tf 63 [0,1,1,1,0,0,1,1,0,0,1,0,1]))) K (o.ns + 100) (hSi o i s 0)=bif (allN (fun k:Nat=>zOk 2097152 (s.pts k)) s.np 0) then (K (.exit 2) ⟨[(1,.p 1 0),(8,.v (.lf o.ns (fS o.shs))),(9,.v (.n .i64 (o.ns:Int))),(10,.v (.n .i64 i))],[(1,.blk [.v (.s o.name),.v (.lf o.ns (fS o.shs))])]⟩) else (K .ret ⟨[(1,.p 1 0),(2,.v (.b false)),(8,.v (.lf o.ns (fS o.shs))),(9,.v (.n .i64 (o.ns:Int))),(10,.v (.n .i64 i))],[(1,.blk [.v (.s o.name),.v (.lf o.ns (fS o.shs))])]⟩):=by
 refine (jJ (L:=LFX (o.ns + 100) (cxS Tf (orSo o) (o.ns + 100) 63 (ntmF Tf 63)) (evX Tf (orSo o) (o.ns + 100) 63 (ntmF Tf 63)) (qZ []) (qQ Tf 63 [0,1,1,1,0,0,1,1,0,0,1,0,1]) [0,1,1,1,0,0,1,1,0,0,1,0,1] (Tf.hint 63 (qJ (qQ Tf 63 [0,1,1,1,0,0,1,1,0,0,1,0,1]))) K) (stp:=yJ (o.ns + 100) (cxS Tf (orSo o) (o.ns + 100) 63 (ntmF Tf 63)) (evX Tf (orSo o) (o.ns + 100) 63 (ntmF Tf 63)) (qZ []) (qQ Tf 63 [0,1,1,1,0,0,1,1,0,0,1,0,1]) [0,1,1,1,0,0,1,1,0,0,1,0,1] (Tf.hint 63 (qJ (qQ Tf 63 [0,1,1,1,0,0,1,1,0,0,1,0,1]))) K) (fun _ _=>rfl) (fun (k:Nat) (_:Unit)=>hSi o i s (k:Int)) (fun _ _=>True) (fun (k:Nat) _=>zOk 2097152 (s.pts k)) (fun _ _=>()) (c:=s.np) (fun _=>(K (.exit 2) ⟨[(1,.p 1 0),(8,.v (.lf o.ns (fS o.shs))),(9,.v (.n .i64 (o.ns:Int))),(10,.v (.n .i64 i))],[(1,.blk [.v (.s o.name),.v (.lf o.ns (fS o.shs))])]⟩)) (fun k _=>(K .ret ⟨[(1,.p 1 0),(2,.v (.b false)),(8,.v (.lf o.ns (fS o.shs))),(9,.v (.n .i64 (o.ns:Int))),(10,.v (.n .i64 i))],[(1,.blk [.v (.s o.name),.v (.lf o.ns (fS o.shs))])]⟩)) (fun G k f hi _ => ?_) (fun _ _ _ _ _=>trivial) (fun G f _ => ?_) (s.np) 0 (o.ns + 100) () (by omega) (by omega) trivial).trans ((zG _ _ _ _ _).trans (yZ _ _ _ _ _))
 ·refine (rdSi G K o i s k).trans ?_;rw [vYJ (show (k:Int) < (s.np:Int) by omega),jZ (by omega),zJ (show k < s.np by omega),toN,jH (C:=cne) (t:=s.pts k) trivial];cases zOk 2097152 (s.pts k) <;> rfl
 ·refine (rdSi G K o i s (s.np:Int)).trans ?_;rw [vYY (show ¬ (s.np:Int) < (s.np:Int) by omega)];rfl
theorem okSi (o:ObT):∀ p S,qZ [([0,1,1,1,0,0,1,1,0,0,1,0,1],sumF (fun t:Int × Shp=>(hSi o t.1 t.2 0)) (fun σ=>(slI σ 10,slS σ 23)) (fun t K=>(bif (decide (t.2.np≤50)) then (bif (allN (fun k:Nat=>zOk 2097152 (t.2.pts k)) t.2.np 0) then (K (.exit 2) ⟨[(1,.p 1 0),(8,.v (.lf o.ns (fS o.shs))),(9,.v (.n .i64 (o.ns:Int))),(10,.v (.n .i64 t.1))],[(1,.blk [.v (.s o.name),.v (.lf o.ns (fS o.shs))])]⟩) else (K .ret ⟨[(1,.p 1 0),(2,.v (.b false)),(8,.v (.lf o.ns (fS o.shs))),(9,.v (.n .i64 (o.ns:Int))),(10,.v (.n .i64 t.1))],[(1,.blk [.v (.s o.name),.v (.lf o.ns (fS o.shs))])]⟩)) else none)))] p=some S→uG (o.ns + 100) (cxS Tf (orSo o) (o.ns + 100) 63 (ntmF Tf 63)) (qQ Tf 63 p) S:=fun p S hp=>by
 refine qK (L:=qQ Tf 63) (l:=[([0,1,1,1,0,0,1,1,0,0,1,0,1],sumF (fun t:Int × Shp=>(hSi o t.1 t.2 0)) (fun σ=>(slI σ 10,slS σ 23)) (fun t K=>(bif (decide (t.2.np≤50)) then (bif (allN (fun k:Nat=>zOk 2097152 (t.2.pts k)) t.2.np 0) then (K (.exit 2) ⟨[(1,.p 1 0),(8,.v (.lf o.ns (fS o.shs))),(9,.v (.n .i64 (o.ns:Int))),(10,.v (.n .i64 t.1))],[(1,.blk [.v (.s o.name),.v (.lf o.ns (fS o.shs))])]⟩) else (K .ret ⟨[(1,.p 1 0),(2,.v (.b false)),(8,.v (.lf o.ns (fS o.shs))),(9,.v (.n .i64 (o.ns:Int))),(10,.v (.n .i64 t.1))],[(1,.blk [.v (.s o.name),.v (.lf o.ns (fS o.shs))])]⟩)) else none)))]) ⟨?_,trivial⟩ p S hp;dsimp only;refine yQ (T:=Tf) (o:=(orSo o)) (f:=63) (LO:=qZ []) (p:=[0,1,1,1,0,0,1,1,0,0,1,0,1]) yV ?_;intro t K r hr;obtain ⟨hg,hr⟩:=qY hr
 skip
 exact (lpSi K o t.1 t.2 (vYK hg)).trans hr
noncomputable def hSo (o:ObT) (i:Int):St:=⟨[(1,.p 1 0),(8,.v (.lf o.ns (fS o.shs))),(9,.v (.n .i64 (o.ns:Int))),(10,.v (.n .i64 i))],[(1,.blk [.v (.s o.name),.v (.lf o.ns (fS o.shs))])]⟩
set_option maxRecDepth 100000 in
theorem rdSo (G:St→Option (Ret × Mem)) (K:Cont) (o:ObT) (i:Int):yJ (o.ns + 100) (cxS Tf (orSo o) (o.ns + 100) 63 (ntmF Tf 63)) (evX Tf (orSo o) (o.ns + 100) 63 (ntmF Tf 63)) (qZ [([0,1,1,1,0,0,1,1,0,0,1,0,1],sumF (fun t:Int × Shp=>(hSi o t.1 t.2 0)) (fun σ=>(slI σ 10,slS σ 23)) (fun t K=>(bif (decide (t.2.np≤50)) then (bif (allN (fun k:Nat=>zOk 2097152 (t.2.pts k)) t.2.np 0) then (K (.exit 2) ⟨[(1,.p 1 0),(8,.v (.lf o.ns (fS o.shs))),(9,.v (.n .i64 (o.ns:Int))),(10,.v (.n .i64 t.1))],[(1,.blk [.v (.s o.name),.v (.lf o.ns (fS o.shs))])]⟩) else (K .ret ⟨[(1,.p 1 0),(2,.v (.b false)),(8,.v (.lf o.ns (fS o.shs))),(9,.v (.n .i64 (o.ns:Int))),(10,.v (.n .i64 t.1))],[(1,.blk [.v (.s o.name),.v (.lf o.ns (fS o.shs))])]⟩)) else none)))]) (qQ Tf 63 [0,1,0,1]) [0,1,0,1] (Tf.hint 63 (qJ (qQ Tf 63 [0,1,0,1]))) K G (hSo o i) =
 (bif (decide (i < (o.ns:Int))) then (bif (inB i o.ns) then (bif (gF1 cpk epk (o.shs (i).toNat)) then (bif (shOk (o.shs (i).toNat)) then (bif (!decide ((o.shs (i).toNat).link=0)) then (K .ret ⟨[(1,.p 1 0),(2,.v (.b false))],[(1,.blk [.v (.s o.name),.v (.lf o.ns (fS o.shs))])]⟩)
 else (bif (gSt (hSi o i (o.shs (i).toNat) 0) (hSi o i (o.shs (i).toNat) 0)) then (bif (decide ((o.shs (i).toNat).np≤50)) then (bif (allN (fun k:Nat=>zOk 2097152 ((o.shs (i).toNat).pts k)) (o.shs (i).toNat).np 0) then (G (hSo o (vYX .i64 (i + 1))))
 else (K .ret ⟨[(1,.p 1 0),(2,.v (.b false))],[(1,.blk [.v (.s o.name),.v (.lf o.ns (fS o.shs))])]⟩))
 else none)
 else none))
 else (K .ret ⟨[(1,.p 1 0),(2,.v (.b false))],[(1,.blk [.v (.s o.name),.v (.lf o.ns (fS o.shs))])]⟩))
 else none)
 else none)
 else (K (.exit 0) ⟨[(1,.p 1 0)],[(1,.blk [.v (.s o.name),.v (.lf o.ns (fS o.shs))])]⟩)):=by kernel_rfl
theorem lpSo (K:Cont) (o:ObT) (_:o.ns≤9223372036854775807):LFX (o.ns + 100) (cxS Tf (orSo o) (o.ns + 100) 63 (ntmF Tf 63)) (evX Tf (orSo o) (o.ns + 100) 63 (ntmF Tf 63)) (qZ [([0,1,1,1,0,0,1,1,0,0,1,0,1],sumF (fun t:Int × Shp=>(hSi o t.1 t.2 0)) (fun σ=>(slI σ 10,slS σ 23)) (fun t K=>(bif (decide (t.2.np≤50)) then (bif (allN (fun k:Nat=>zOk 2097152 (t.2.pts k)) t.2.np 0) then (K (.exit 2) ⟨[(1,.p 1 0),(8,.v (.lf o.ns (fS o.shs))),(9,.v (.n .i64 (o.ns:Int))),(10,.v (.n .i64 t.1))],[(1,.blk [.v (.s o.name),.v (.lf o.ns (fS o.shs))])]⟩) else (K .ret ⟨[(1,.p 1 0),(2,.v (.b false)),(8,.v (.lf o.ns (fS o.shs))),(9,.v (.n .i64 (o.ns:Int))),(10,.v (.n .i64 t.1))],[(1,.blk [.v (.s o.name),.v (.lf o.ns (fS o.shs))])]⟩)) else none)))]) (qQ Tf 63 [0,1,0,1]) [0,1,0,1] (Tf.hint 63 (qJ (qQ Tf 63 [0,1,0,1]))) K (o.ns + 100) (hSo o 0)=bif (allN (fun i:Nat=>sOk (o.shs i)) o.ns 0) then (K (.exit 0) ⟨[(1,.p 1 0)],[(1,.blk [.v (.s o.name),.v (.lf o.ns (fS o.shs))])]⟩) else (K .ret ⟨[(1,.p 1 0),(2,.v (.b false))],[(1,.blk [.v (.s o.name),.v (.lf o.ns (fS o.shs))])]⟩):=by
 refine (jJ (L:=LFX (o.ns + 100) (cxS Tf (orSo o) (o.ns + 100) 63 (ntmF Tf 63)) (evX Tf (orSo o) (o.ns + 100) 63 (ntmF Tf 63)) (qZ [([0,1,1,1,0,0,1,1,0,0,1,0,1],sumF (fun t:Int × Shp=>(hSi o t.1 t.2 0)) (fun σ=>(slI σ 10,slS σ 23)) (fun t K=>(bif (decide (t.2.np≤50)) then (bif (allN (fun k:Nat=>zOk 2097152 (t.2.pts k)) t.2.np 0) then (K (.exit 2) ⟨[(1,.p 1 0),(8,.v (.lf o.ns (fS o.shs))),(9,.v (.n .i64 (o.ns:Int))),(10,.v (.n .i64 t.1))],[(1,.blk [.v (.s o.name),.v (.lf o.ns (fS o.shs))])]⟩) else (K .ret ⟨[(1,.p 1 0),(2,.v (.b false)),(8,.v (.lf o.ns (fS o.shs))),(9,.v (.n .i64 (o.ns:Int))),(10,.v (.n .i64 t.1))],[(1,.blk [.v (.s o.name),.v (.lf o.ns (fS o.shs))])]⟩)) else none)))]) (qQ Tf 63 [0,1,0,1]) [0,1,0,1] (Tf.hint 63 (qJ (qQ Tf 63 [0,1,0,1]))) K) (stp:=yJ (o.ns + 100) (cxS Tf (orSo o) (o.ns + 100) 63 (ntmF Tf 63)) (evX Tf (orSo o) (o.ns + 100) 63 (ntmF Tf 63)) (qZ [([0,1,1,1,0,0,1,1,0,0,1,0,1],sumF (fun t:Int × Shp=>(hSi o t.1 t.2 0)) (fun σ=>(slI σ 10,slS σ 23)) (fun t K=>(bif (decide (t.2.np≤50)) then (bif (allN (fun k:Nat=>zOk 2097152 (t.2.pts k)) t.2.np 0) then (K (.exit 2) ⟨[(1,.p 1 0),(8,.v (.lf o.ns (fS o.shs))),(9,.v (.n .i64 (o.ns:Int))),(10,.v (.n .i64 t.1))],[(1,.blk [.v (.s o.name),.v (.lf o.ns (fS o.shs))])]⟩) else (K .ret ⟨[(1,.p 1 0),(2,.v (.b false)),(8,.v (.lf o.ns (fS o.shs))),(9,.v (.n .i64 (o.ns:Int))),(10,.v (.n .i64 t.1))],[(1,.blk [.v (.s o.name),.v (.lf o.ns (fS o.shs))])]⟩)) else none)))]) (qQ Tf 63 [0,1,0,1]) [0,1,0,1] (Tf.hint 63 (qJ (qQ Tf 63 [0,1,0,1]))) K) (fun _ _=>rfl) (fun (i:Nat) (_:Unit)=>hSo o (i:Int)) (fun _ _=>True) (fun (i:Nat) _=>sOk (o.shs i)) (fun _ _=>()) (c:=o.ns) (fun _=>(K (.exit 0) ⟨[(1,.p 1 0)],[(1,.blk [.v (.s o.name),.v (.lf o.ns (fS o.shs))])]⟩)) (fun i _=>(K .ret ⟨[(1,.p 1 0),(2,.v (.b false))],[(1,.blk [.v (.s o.name),.v (.lf o.ns (fS o.shs))])]⟩)) (fun G i f hi _ => ?_) (fun _ _ _ _ _=>trivial) (fun G f _ => ?_) o.ns 0 (o.ns + 100) () (by omega) (by omega) trivial).trans ((zG _ _ _ _ _).trans (yZ _ _ _ _ _))
 ·refine (rdSo G K o i).trans ?_;rw [vYJ (show (i:Int) < (o.ns:Int) by omega),zHX (by omega),zJ (show i < o.ns by omega),toN,jH (C:=cpk) (t:=o.shs i) trivial];unfold sOk;cases h:shOk (o.shs i) with
  | false=>rfl
  | true =>
   have hb:=qHB h;by_cases hl:(o.shs i).link=0
   ·rw [vYJ hl,zQ,vYJ (show (o.shs i).np≤50 by omega)];cases allN (fun k:Nat=>zOk 2097152 ((o.shs i).pts k)) (o.shs i).np 0 <;> rfl
   ·rw [vYY hl]; rfl
 ·refine (rdSo G K o o.ns).trans ?_;rw [vYY (show ¬ (o.ns:Int) < (o.ns:Int) by omega)];rfl
noncomputable def yWD (o:ObT):List (List Nat × yU):=[([0,1,0,1],sumF (fun _:Unit=>(hSo o 0)) (fun _=>()) (fun _ K=>(bif (decide (o.ns≤9223372036854775807)) then (bif (allN (fun i:Nat=>sOk (o.shs i)) o.ns 0) then (K (.exit 0) ⟨[(1,.p 1 0)],[(1,.blk [.v (.s o.name),.v (.lf o.ns (fS o.shs))])]⟩) else (K .ret ⟨[(1,.p 1 0),(2,.v (.b false))],[(1,.blk [.v (.s o.name),.v (.lf o.ns (fS o.shs))])]⟩)) else none)))]
set_option maxRecDepth 100000 in
theorem jHA (o:ObT):kH Tf (orSo o) (qZ (yWD o)) (o.ns + 100) 63 [.a [.s o.name,.lf o.ns (fS o.shs)]] =
 (bif (gSt (hSo o 0) (hSo o 0)) then (bif (decide (o.ns≤9223372036854775807)) then (bif (allN (fun i:Nat=>sOk (o.shs i)) o.ns 0) then (bif (decide (0 < (o.ns:Int))) then some (.v (.b true),[])
 else some (.v (.b false),[]))
 else some (.v (.b false),[]))
 else none)
 else none):=by kernel_rfl
theorem yHI (o:ObT) (ho:o.ns≤9223372036854775807):qH Tryz.prog 63 [.a [.s o.name,.lf o.ns (fS o.shs)]] (.v (.b (soOk o))):=by
 refine qX (N:=(o.ns + 100)) (LO:=qZ (yWD o)) yG qG (yH (l:=[(115,o_pk),(111,o_ne)]) (m:=[]) ⟨kZV,jWQ,trivial⟩ trivial) (fun p S hp => ?_) ?_
 ·refine qK (L:=qQ Tf 63) (l:=(yWD o)) (show AllP _ (yWD o) from ⟨?_,trivial⟩) p S hp
  ·dsimp only;refine yQ (T:=Tf) (o:=(orSo o)) (f:=63) (LO:=(qZ [([0,1,1,1,0,0,1,1,0,0,1,0,1],sumF (fun t:Int × Shp=>(hSi o t.1 t.2 0)) (fun σ=>(slI σ 10,slS σ 23)) (fun t K=>(bif (decide (t.2.np≤50)) then (bif (allN (fun k:Nat=>zOk 2097152 (t.2.pts k)) t.2.np 0) then (K (.exit 2) ⟨[(1,.p 1 0),(8,.v (.lf o.ns (fS o.shs))),(9,.v (.n .i64 (o.ns:Int))),(10,.v (.n .i64 t.1))],[(1,.blk [.v (.s o.name),.v (.lf o.ns (fS o.shs))])]⟩) else (K .ret ⟨[(1,.p 1 0),(2,.v (.b false)),(8,.v (.lf o.ns (fS o.shs))),(9,.v (.n .i64 (o.ns:Int))),(10,.v (.n .i64 t.1))],[(1,.blk [.v (.s o.name),.v (.lf o.ns (fS o.shs))])]⟩)) else none)))])) (p:=[0,1,0,1]) (okSi o) ?_;intro t K r hr;obtain ⟨hg,hr⟩:=qY hr;have ho:=vYK hg;exact (lpSo K o ho).trans hr
 ·refine (jHA o).trans ?_;unfold soOk;rw [zQ,vYJ ho];cases allN (fun i:Nat=>sOk (o.shs i)) o.ns 0 <;> cases decide (0 < (o.ns:Int)) <;> rfl
def cso:ObT→Prop:=fun t=>match t with | o=>o.ns≤9223372036854775807
def eso:ObT→List PV:=fun t=>match t with | o=>[.a (oP o)]
noncomputable def rso:ObT→Ret:=fun t=>match t with | o=>.v (.b (soOk o))
def dso:List PV→ObT:=fun ps=>match ps with
 | [.a r]=>unO r
 | _=>⟨ByteArray.empty,0,fun _=>⟨0,0,0,fun _=>⟨0,0,0⟩⟩⟩
noncomputable def o_so:List PV→Option (Bool × Ret):=o_fm dso cso eso rso
theorem kZX:jG Tryz.prog 63 o_so:=qQU fun t h=>by
 revert h; revert t; intro o h
 exact yHI o h
end Go.Proofs.YtmeldddgjfocdaaGreat.Ha
namespace Go.Proofs.YtmeldddgjfocdaaGreat.Nl
open Go.Rx Rt Go.Sx Go.RowKit Od Na Nb Nc Nx
def hEq (js:Nat→J) (q:Nat→Int) (n k:Nat) (i:Int):St:=⟨[(1,.v (.lf k (fQ q))),(2,.v (.f 125 [] [])),(14,.v (.lf n (fJ js))),(15,.v (.n .i64 (n:Int))),(16,.v (.n .i64 i))],[]⟩
set_option maxRecDepth 100000 in
theorem rdEq (G:St→Option (Ret × Mem)) (K:Cont) (js:Nat→J) (q:Nat→Int) (n k:Nat) (i:Int):zVW 60 (cxF T (OrL.k ([]:OrL)) 60 124 (ntmF T 124)) (ckF T (OrL.k ([]:OrL)) 60) (qQ T 124 [0,1,0,1,1]) ((cxF T (OrL.k ([]:OrL)) 60 124 (ntmF T 124)).T.hint (cxF T (OrL.k ([]:OrL)) 60 124 (ntmF T 124)).me (qJ (qQ T 124 [0,1,0,1,1]))) K G (hEq js q n k i) =
 (bif (decide (i < (n:Int))) then (bif (inB i n) then (bif (inB i k) then (bif (decide ((js (i).toNat).lo≤(q (i).toNat))) then (bif (decide ((q (i).toNat)≤(js (i).toNat).hi)) then (G (hEq js q n k (vYX .i64 (i + 1))))
 else (K .ret ⟨[(6,.v (.b false))],[]⟩))
 else (K .ret ⟨[(6,.v (.b false))],[]⟩))
 else none)
 else none)
 else (K (.exit 0) ⟨[],[]⟩)):=by kernel_rfl
theorem lpEq (K:Cont) (js:Nat→J) (q:Nat→Int) (n k:Nat) (_:n≤50) (_:n=k):LF 60 (cxF T (OrL.k ([]:OrL)) 60 124 (ntmF T 124)) (ckF T (OrL.k ([]:OrL)) 60) (qQ T 124 [0,1,0,1,1]) ((cxF T (OrL.k ([]:OrL)) 60 124 (ntmF T 124)).T.hint (cxF T (OrL.k ([]:OrL)) 60 124 (ntmF T 124)).me (qJ (qQ T 124 [0,1,0,1,1]))) K 60 (hEq js q n k 0)=bif (allN (fun i:Nat=>decide ((js i).lo≤q i) && decide (q i≤(js i).hi)) n 0) then (K (.exit 0) ⟨[],[]⟩) else (K .ret ⟨[(6,.v (.b false))],[]⟩):=by
 refine (zWZ (c:=n) (hEq js q n k) (fun i:Nat=>decide ((js i).lo≤q i) && decide (q i≤(js i).hi)) (K (.exit 0) ⟨[],[]⟩) (fun i:Nat=>(K .ret ⟨[(6,.v (.b false))],[]⟩)) (fun G i hi => ?_) (fun G => ?_) n 0 60 (by omega) (by omega)).trans (yZ _ _ _ _ _)
 ·refine (rdEq G K js q n k i).trans ?_;rw [vYJ (show (i:Int) < (n:Int) by omega),jZ (by omega),zJ (show i < n by omega),zJ (show i < k by omega),toN];cases decide ((js i).lo≤q i) <;> cases decide (q i≤(js i).hi) <;> rfl
 ·refine (rdEq G K js q n k n).trans ?_;rw [vYY (show ¬ (n:Int) < (n:Int) by omega)];rfl
def insQ (js:Nat→J) (q:Nat→Int) (n k:Nat):Bool:=decide ((n:Int)=(k:Int)) && (allN (fun i:Nat=>decide ((js i).lo≤q i) && decide (q i≤(js i).hi)) n 0)
set_option maxRecDepth 100000 in
theorem yUA (js:Nat→J) (q:Nat→Int) (n k:Nat):qVE T (OrL.k ([]:OrL)) (qZ [([0,1,0,1,1],kG (hEq js q n k 0) (fun K=>(bif (decide ((n:Int)=(k:Int)) && decide (n≤50)) then (bif (allN (fun i:Nat=>decide ((js i).lo≤q i) && decide (q i≤(js i).hi)) n 0) then (K (.exit 0) ⟨[],[]⟩) else (K .ret ⟨[(6,.v (.b false))],[]⟩)) else none)))]) 60 124 [.lf n (fJ js),.lf k (fQ q),.f 125 [] []] =
 (bif (!decide ((n:Int)=(k:Int))) then some (.v (.b false),[])
 else (bif (gSt (hEq js q n k 0) (hEq js q n k 0)) then (bif (decide ((n:Int)=(k:Int)) && decide (n≤50)) then (bif (allN (fun i:Nat=>decide ((js i).lo≤q i) && decide (q i≤(js i).hi)) n 0) then some (.v (.b true),[])
 else some (.v (.b false),[]))
 else none)
 else none)):=by kernel_rfl
theorem zVV (js:Nat→J) (q:Nat→Int) (n k:Nat) (hn:n≤50):qH Tryz.prog 124 [.lf n (fJ js),.lf k (fQ q),.f 125 [] []] (.v (.b (insQ js q n k))):=by
 refine uW (N:=60) (LO:=qZ [([0,1,0,1,1],kG (hEq js q n k 0) (fun K=>(bif (decide ((n:Int)=(k:Int)) && decide (n≤50)) then (bif (allN (fun i:Nat=>decide ((js i).lo≤q i) && decide (q i≤(js i).hi)) n 0) then (K (.exit 0) ⟨[],[]⟩) else (K .ret ⟨[(6,.v (.b false))],[]⟩)) else none)))]) zV qG (OrL.ok (l:=([]:OrL)) trivial) (fun p S hp => ?_) ?_
 ·refine qQB (L:=qQ T 124) (l:=[([0,1,0,1,1],kG (hEq js q n k 0) (fun K=>(bif (decide ((n:Int)=(k:Int)) && decide (n≤50)) then (bif (allN (fun i:Nat=>decide ((js i).lo≤q i) && decide (q i≤(js i).hi)) n 0) then (K (.exit 0) ⟨[],[]⟩) else (K .ret ⟨[(6,.v (.b false))],[]⟩)) else none)))]) (show AllP _ [([0,1,0,1,1],kG (hEq js q n k 0) (fun K=>(bif (decide ((n:Int)=(k:Int)) && decide (n≤50)) then (bif (allN (fun i:Nat=>decide ((js i).lo≤q i) && decide (q i≤(js i).hi)) n 0) then (K (.exit 0) ⟨[],[]⟩) else (K .ret ⟨[(6,.v (.b false))],[]⟩)) else none)))] from ⟨qZU fun K r hr => ?_,trivial⟩) p S hp
  ·obtain ⟨hg,hr⟩:=qY hr;rw [vQJ] at hg;have hn:=vYK hg.2;have hk:n=k:=by have:=vYK hg.1; omega
   exact (lpEq K js q n k hn hk).trans hr
 ·refine (yUA js q n k).trans ?_;unfold insQ;rw [zQ,vYJ hn];cases decide ((n:Int)=(k:Int)) <;> cases (allN (fun i:Nat=>decide ((js i).lo≤q i) && decide (q i≤(js i).hi)) n 0) <;> rfl
def qIn (js:Nat→J) (ms:Nat→Ms) (q:Nat→Int) (n m k:Nat):Bool:=decide (rErr js ms n m=0) && insQ js q n k
theorem jQK (js:Nat→J) (ms:Nat→Ms) (q:Nat→Int) (n m k:Nat):qH Tryz.prog 76 [.a [.lf n (fJ js),.lf m (fM ms)],.lf k (fQ q)] (.v (.b (qIn js ms q n m k))):=by
 refine qYI (N:=60) zV qG (OrL.ok (l:=[(104,o_cr [.a [.lf n (fJ js),.lf m (fM ms)]] (.v (.n .i64 (rErr js ms n m)))),(124,o_lk [.lf n (fJ js),.lf k (fQ q),.f 125 [] []] (decide (n≤50)) (.v (.b (insQ js q n k))))]) ⟨qVJ (yQQ js ms n m),kZH (fun h=>zVV js q n k (vYK h)),trivial⟩) ?_;refine (by kernel_rfl:_=bif (g1 [.a [.lf n (fJ js),.lf m (fM ms)]]) then (bif (decide ((rErr js ms n m)=0)) then (bif (g1 [.lf n (fJ js),.lf k (fQ q),.f 125 [] []] && decide (n≤50)) then (bif (insQ js q n k) then some (.v (.b true),[])
 else some (.v (.b false),[]))
 else none)
 else some (.v (.b false),[]))
 else none).trans ?_
 unfold qIn;rw [g1_t,g1_t];by_cases h:rErr js ms n m=0
 ·have:=yZQ h
  rw [vYJ h,vYJ (show n≤50 by omega)];cases insQ js q n k <;> rfl
 ·rw [vYY h]; rfl
def hRi (js:Nat→J) (ms:Nat→Ms) (q:Nat→Int) (n m k:Nat) (i:Int):St:=⟨[(1,.v (.lf k (fQ q))),(2,.p 2 0),(5,.v (.n .i64 i))],[(2,.blk [.v (.lf n (fJ js)),.v (.lf m (fM ms))])]⟩
set_option maxRecDepth 100000 in
theorem rdRi (G:St→Option (Ret × Mem)) (K:Cont) (js:Nat→J) (ms:Nat→Ms) (q:Nat→Int) (n m k:Nat) (i:Int):zVW 60 (cxF T (OrL.k [(70,o_cr [.a [.lf n (fJ js),.lf m (fM ms)]] (.v (.n .i64 (rErr js ms n m))))]) 60 65 (ntmF T 65)) (ckF T (OrL.k [(70,o_cr [.a [.lf n (fJ js),.lf m (fM ms)]] (.v (.n .i64 (rErr js ms n m))))]) 60) (qQ T 65 [0,1,0,1,1]) ((cxF T (OrL.k [(70,o_cr [.a [.lf n (fJ js),.lf m (fM ms)]] (.v (.n .i64 (rErr js ms n m))))]) 60 65 (ntmF T 65)).T.hint (cxF T (OrL.k [(70,o_cr [.a [.lf n (fJ js),.lf m (fM ms)]] (.v (.n .i64 (rErr js ms n m))))]) 60 65 (ntmF T 65)).me (qJ (qQ T 65 [0,1,0,1,1]))) K G (hRi js ms q n m k i) =
 (bif (decide (i < (k:Int))) then (bif (inB i k) then (bif (inB i n) then (bif (decide ((q (i).toNat) < (js (i).toNat).lo)) then (K .ret ⟨[(4,.v (.b false))],[]⟩)
 else (bif (inB i k) then (bif (inB i n) then (bif (decide ((js (i).toNat).hi < (q (i).toNat))) then (K .ret ⟨[(4,.v (.b false))],[]⟩)
 else (G (hRi js ms q n m k (vYX .i64 (i + 1)))))
 else none)
 else none))
 else none)
 else none)
 else (K (.exit 0) ⟨[],[]⟩)):=by kernel_rfl
theorem lpRi (K:Cont) (js:Nat→J) (ms:Nat→Ms) (q:Nat→Int) (n m k:Nat) (_:k≤50) (_:n=k):LF 60 (cxF T (OrL.k [(70,o_cr [.a [.lf n (fJ js),.lf m (fM ms)]] (.v (.n .i64 (rErr js ms n m))))]) 60 65 (ntmF T 65)) (ckF T (OrL.k [(70,o_cr [.a [.lf n (fJ js),.lf m (fM ms)]] (.v (.n .i64 (rErr js ms n m))))]) 60) (qQ T 65 [0,1,0,1,1]) ((cxF T (OrL.k [(70,o_cr [.a [.lf n (fJ js),.lf m (fM ms)]] (.v (.n .i64 (rErr js ms n m))))]) 60 65 (ntmF T 65)).T.hint (cxF T (OrL.k [(70,o_cr [.a [.lf n (fJ js),.lf m (fM ms)]] (.v (.n .i64 (rErr js ms n m))))]) 60 65 (ntmF T 65)).me (qJ (qQ T 65 [0,1,0,1,1]))) K 60 (hRi js ms q n m k 0)=bif (allN (fun i:Nat => !decide (q i < (js i).lo) && !decide ((js i).hi < q i)) k 0) then (K (.exit 0) ⟨[],[]⟩) else (K .ret ⟨[(4,.v (.b false))],[]⟩):=by
 refine (zWZ (c:=k) (hRi js ms q n m k) (fun i:Nat => !decide (q i < (js i).lo) && !decide ((js i).hi < q i)) (K (.exit 0) ⟨[],[]⟩) (fun i:Nat=>(K .ret ⟨[(4,.v (.b false))],[]⟩)) (fun G i hi => ?_) (fun G => ?_) k 0 60 (by omega) (by omega)).trans (yZ _ _ _ _ _)
 ·refine (rdRi G K js ms q n m k i).trans ?_;rw [vYJ (show (i:Int) < (k:Int) by omega),jZ (by omega),zJ (show i < k by omega),zJ (show i < n by omega),toN];cases decide (q i < (js i).lo) <;> cases decide ((js i).hi < q i) <;> rfl
 ·refine (rdRi G K js ms q n m k k).trans ?_;rw [vYY (show ¬ (k:Int) < (k:Int) by omega)];rfl
end Go.Proofs.YtmeldddgjfocdaaGreat.Nl
namespace Go.Proofs.YtmeldddgjfocdaaGreat.Nm
end Go.Proofs.YtmeldddgjfocdaaGreat.Nm
namespace Go.Proofs.YtmeldddgjfocdaaGreat.Hb
open Go.Rx Rt Go.Sx Go.RowKit Od Na Nb Nc Nx Nf Nl Nm Ga Gb Gc Gd Ge Gf Gg Ha
def knB (ws:Wsp) (h q:Int):Bool:=decide (0≤h) && (decide (h < (ws.nh:Int)) && (decide (0≤q) && decide (q < (ws.np:Int))))
noncomputable def kQC (_:Wsp) (_ q:Int):OrS:=orS [] []
noncomputable def yVY (_:Wsp) (_ q:Int):List (List Nat × yU):=[]
set_option maxRecDepth 100000 in
theorem jHL (ws:Wsp) (h q:Int):kH Tf (kQC ws h q) (qZ (yVY ws h q)) 60 75 [.a (wP ws),.n .i64 h,.n .i64 q] =
 (bif (decide (0≤h)) then (bif (decide (h < (ws.nh:Int))) then (bif (decide (0≤q)) then (bif (decide (q < (ws.np:Int))) then some (.v (.b true),[])
 else some (.v (.b false),[]))
 else some (.v (.b false),[]))
 else some (.v (.b false),[]))
 else some (.v (.b false),[])):=by kernel_rfl
theorem jQG (ws:Wsp) (h q:Int):qH Tryz.prog 75 [.a (wP ws),.n .i64 h,.n .i64 q] (.v (.b (knB ws h q))):=by
 refine qX (N:=60) (LO:=qZ (yVY ws h q)) yG qG (yH (l:=[]) (m:=[]) trivial trivial) (fun p S hp => ?_) ?_
 ·refine qK (L:=qQ Tf 75) (l:=(yVY ws h q)) (show AllP _ (yVY ws h q) from trivial) p S hp
 ·refine (jHL ws h q).trans ?_;unfold knB;cases decide (0≤h) <;> cases decide (h < (ws.nh:Int)) <;> cases decide (0≤q) <;> cases decide (q < (ws.np:Int)) <;> rfl
def ckn:Wsp × Int × Int→Prop:=fun t=>match t with | (_,_,_)=>True
def ekn:Wsp × Int × Int→List PV:=fun t=>match t with | (ws,a,b)=>[.a (wP ws),.n .i64 a,.n .i64 b]
noncomputable def rkn:Wsp × Int × Int→Ret:=fun t=>match t with | (ws,a,b)=>.v (.b (knB ws a b))
def dkn:List PV→Wsp × Int × Int:=fun ps=>match ps with
 | [.a r,.n _ h,.n _ q]=>(unW r,h,q)
 | _=>(unW [],0,0)
noncomputable def o_kn:List PV→Option (Bool × Ret):=o_fm dkn ckn ekn rkn
theorem kZA:jG Tryz.prog 75 o_kn:=qQU fun t h=>by
 obtain ⟨ws,a,b⟩:=t;exact jQG ws a b
def cin:(Nat→J) × (Nat→Ms) × Nat × Nat × Nat × (Nat→Int)→Prop:=fun t=>match t with | (_,_,_,_,_,_)=>True
def ein:(Nat→J) × (Nat→Ms) × Nat × Nat × Nat × (Nat→Int)→List PV:=fun t=>match t with | (js,ms,n,m,k,q)=>[.a [.lf n (fJ js),.lf m (fM ms)],.lf k (fQ q)]
noncomputable def rin:(Nat→J) × (Nat→Ms) × Nat × Nat × Nat × (Nat→Int)→Ret:=fun t=>match t with | (js,ms,n,m,k,q)=>.v (.b (qIn js ms q n m k))
def din:List PV→(Nat→J) × (Nat→Ms) × Nat × Nat × Nat × (Nat→Int):=fun ps=>match ps with
 | [.a [.lf n js,.lf m ms],.lf k f]=>(unFJ js,unFM ms,n,m,k,unFQ f)
 | _=>(fun _=>⟨ByteArray.empty,0,0,⟨0,0,0⟩,0,0,0,0,0,0⟩,fun _=>⟨0,0,⟨0,0,0⟩⟩,0,0,0,fun _=>0)
noncomputable def o_in:List PV→Option (Bool × Ret):=o_fm din cin ein rin
theorem kZE:jG Tryz.prog 76 o_in:=qQU fun t h=>by
 obtain ⟨js,ms,n,m,k,q⟩:=t;exact jQK js ms q n m k
noncomputable def orFp (_:Wsp):OrS:=orS [(111,o_ne),(75,o_kn),(76,o_in)] []
noncomputable def hFp (ws:Wsp) (i:Int):St:=⟨[(1,.p 1 0),(40,.v (.lf ws.np (fZ ws.pl))),(41,.v (.n .i64 (ws.np:Int))),(42,.v (.n .i64 i))],[(1,.blk ((wP ws).map .v))]⟩
set_option maxRecDepth 100000 in
theorem rdFp (G:St→Option (Ret × Mem)) (K:Cont) (ws:Wsp) (i:Int):yJ 60 (cxS Tf (orFp ws) 60 59 (ntmF Tf 59)) (evX Tf (orFp ws) 60 59 (ntmF Tf 59)) (qZ []) (qQ Tf 59 [0,1,0,1,1,1]) [0,1,0,1,1,1] (Tf.hint 59 (qJ (qQ Tf 59 [0,1,0,1,1,1]))) K G (hFp ws i) =
 (bif (decide (i < (ws.np:Int))) then (bif (inB i ws.np) then (bif (gF1 cne ene (ws.pl (i).toNat)) then (bif (zOk 2097152 (ws.pl (i).toNat)) then (G (hFp ws (vYX .i64 (i + 1))))
 else (K .ret ⟨[(1,.p 1 0),(2,.v (.b false))],[(1,.blk ((wP ws).map .v))]⟩))
 else none)
 else none)
 else (K (.exit 0) ⟨[(1,.p 1 0)],[(1,.blk ((wP ws).map .v))]⟩)):=by kernel_rfl
def hdOk (n:Nat) (h:Hnd):Bool:=!decide (h.link < 0) && (!decide ((n:Int)≤h.link) && zOk 2097152 h.off)
def grOk (ws:Wsp) (g:Grp):Bool:=knB ws g.hand g.place && qIn ws.js ws.ms g.cf ws.n ws.m g.na
def plG (ws:Wsp):Bool:=allN (fun i:Nat=>zOk 2097152 (ws.pl i)) ws.np 0
def hdG (ws:Wsp):Bool:=allN (fun i:Nat=>hdOk ws.n (ws.hd i)) ws.nh 0
def grG (ws:Wsp):Bool:=allN (fun i:Nat=>grOk ws (ws.gr i)) ws.ng 0
def szG (ws:Wsp):Bool:=!decide (6 < (ws.no:Int)) && (!decide (8 < (ws.np:Int)) && (!decide (3 < (ws.nh:Int)) && (!decide (32 < (ws.ng:Int)) && (!decide (ws.slack < 0) && !decide (65536 < ws.slack)))))
def fiB (ws:Wsp):Bool:=szG ws && (plG ws && (hdG ws && grG ws))
theorem lpFp (K:Cont) (ws:Wsp) (_:ws.np≤50):LFX 60 (cxS Tf (orFp ws) 60 59 (ntmF Tf 59)) (evX Tf (orFp ws) 60 59 (ntmF Tf 59)) (qZ []) (qQ Tf 59 [0,1,0,1,1,1]) [0,1,0,1,1,1] (Tf.hint 59 (qJ (qQ Tf 59 [0,1,0,1,1,1]))) K 60 (hFp ws 0)=bif (allN (fun i:Nat=>zOk 2097152 (ws.pl i)) ws.np 0) then (K (.exit 0) ⟨[(1,.p 1 0)],[(1,.blk ((wP ws).map .v))]⟩) else (K .ret ⟨[(1,.p 1 0),(2,.v (.b false))],[(1,.blk ((wP ws).map .v))]⟩):=by
 refine (jJ (L:=LFX 60 (cxS Tf (orFp ws) 60 59 (ntmF Tf 59)) (evX Tf (orFp ws) 60 59 (ntmF Tf 59)) (qZ []) (qQ Tf 59 [0,1,0,1,1,1]) [0,1,0,1,1,1] (Tf.hint 59 (qJ (qQ Tf 59 [0,1,0,1,1,1]))) K) (stp:=yJ 60 (cxS Tf (orFp ws) 60 59 (ntmF Tf 59)) (evX Tf (orFp ws) 60 59 (ntmF Tf 59)) (qZ []) (qQ Tf 59 [0,1,0,1,1,1]) [0,1,0,1,1,1] (Tf.hint 59 (qJ (qQ Tf 59 [0,1,0,1,1,1]))) K) (fun _ _=>rfl) (fun (i:Nat) (_:Unit)=>hFp ws (i:Int)) (fun _ _=>True) (fun (i:Nat) _=>zOk 2097152 (ws.pl i)) (fun _ _=>()) (c:=ws.np) (fun _=>(K (.exit 0) ⟨[(1,.p 1 0)],[(1,.blk ((wP ws).map .v))]⟩)) (fun i _=>(K .ret ⟨[(1,.p 1 0),(2,.v (.b false))],[(1,.blk ((wP ws).map .v))]⟩)) (fun G i f hi _ => ?_) (fun _ _ _ _ _=>trivial) (fun G f _ => ?_) ws.np 0 60 () (by omega) (by omega) trivial).trans ((zG _ _ _ _ _).trans (yZ _ _ _ _ _))
 ·refine (rdFp G K ws i).trans ?_;rw [vYJ (show (i:Int) < (ws.np:Int) by omega),jZ (by omega),zJ (show i < ws.np by omega),toN,jH (C:=cne) (t:=ws.pl i) trivial];cases zOk 2097152 (ws.pl i) <;> rfl
 ·refine (rdFp G K ws ws.np).trans ?_;rw [vYY (show ¬ (ws.np:Int) < (ws.np:Int) by omega)];rfl
noncomputable def hFq (ws:Wsp) (i:Int):St:=⟨[(1,.p 1 0),(51,.v (.lf ws.nh (fH ws.hd))),(52,.v (.n .i64 (ws.nh:Int))),(53,.v (.n .i64 i))],[(1,.blk ((wP ws).map .v))]⟩
set_option maxRecDepth 100000 in
theorem rdFq (G:St→Option (Ret × Mem)) (K:Cont) (ws:Wsp) (i:Int):yJ 60 (cxS Tf (orFp ws) 60 59 (ntmF Tf 59)) (evX Tf (orFp ws) 60 59 (ntmF Tf 59)) (qZ []) (qQ Tf 59 [0,1,0,1,1,1,1]) [0,1,0,1,1,1,1] (Tf.hint 59 (qJ (qQ Tf 59 [0,1,0,1,1,1,1]))) K G (hFq ws i) =
 (bif (decide (i < (ws.nh:Int))) then (bif (inB i ws.nh) then (bif (decide ((ws.hd (i).toNat).link < 0)) then (K .ret ⟨[(1,.p 1 0),(2,.v (.b false))],[(1,.blk ((wP ws).map .v))]⟩)
 else (bif (decide ((ws.n:Int)≤(ws.hd (i).toNat).link)) then (K .ret ⟨[(1,.p 1 0),(2,.v (.b false))],[(1,.blk ((wP ws).map .v))]⟩)
 else (bif (gF1 cne ene ((ws.hd (i).toNat).off)) then (bif (zOk 2097152 ((ws.hd (i).toNat).off)) then (G (hFq ws (vYX .i64 (i + 1))))
 else (K .ret ⟨[(1,.p 1 0),(2,.v (.b false))],[(1,.blk ((wP ws).map .v))]⟩))
 else none)))
 else none)
 else (K (.exit 2) ⟨[(1,.p 1 0)],[(1,.blk ((wP ws).map .v))]⟩)):=by kernel_rfl
theorem lpFq (K:Cont) (ws:Wsp) (_:ws.nh≤50):LFX 60 (cxS Tf (orFp ws) 60 59 (ntmF Tf 59)) (evX Tf (orFp ws) 60 59 (ntmF Tf 59)) (qZ []) (qQ Tf 59 [0,1,0,1,1,1,1]) [0,1,0,1,1,1,1] (Tf.hint 59 (qJ (qQ Tf 59 [0,1,0,1,1,1,1]))) K 60 (hFq ws 0)=bif (allN (fun i:Nat=>hdOk ws.n (ws.hd i)) ws.nh 0) then (K (.exit 2) ⟨[(1,.p 1 0)],[(1,.blk ((wP ws).map .v))]⟩) else (K .ret ⟨[(1,.p 1 0),(2,.v (.b false))],[(1,.blk ((wP ws).map .v))]⟩):=by
 refine (jJ (L:=LFX 60 (cxS Tf (orFp ws) 60 59 (ntmF Tf 59)) (evX Tf (orFp ws) 60 59 (ntmF Tf 59)) (qZ []) (qQ Tf 59 [0,1,0,1,1,1,1]) [0,1,0,1,1,1,1] (Tf.hint 59 (qJ (qQ Tf 59 [0,1,0,1,1,1,1]))) K) (stp:=yJ 60 (cxS Tf (orFp ws) 60 59 (ntmF Tf 59)) (evX Tf (orFp ws) 60 59 (ntmF Tf 59)) (qZ []) (qQ Tf 59 [0,1,0,1,1,1,1]) [0,1,0,1,1,1,1] (Tf.hint 59 (qJ (qQ Tf 59 [0,1,0,1,1,1,1]))) K) (fun _ _=>rfl) (fun (i:Nat) (_:Unit)=>hFq ws (i:Int)) (fun _ _=>True) (fun (i:Nat) _=>hdOk ws.n (ws.hd i)) (fun _ _=>()) (c:=ws.nh) (fun _=>(K (.exit 2) ⟨[(1,.p 1 0)],[(1,.blk ((wP ws).map .v))]⟩)) (fun i _=>(K .ret ⟨[(1,.p 1 0),(2,.v (.b false))],[(1,.blk ((wP ws).map .v))]⟩)) (fun G i f hi _ => ?_) (fun _ _ _ _ _=>trivial) (fun G f _ => ?_) ws.nh 0 60 () (by omega) (by omega) trivial).trans ((zG _ _ _ _ _).trans (yZ _ _ _ _ _))
 ·refine (rdFq G K ws i).trans ?_;rw [vYJ (show (i:Int) < (ws.nh:Int) by omega),jZ (by omega),zJ (show i < ws.nh by omega),toN,jH (C:=cne) (t:=(ws.hd i).off) trivial];unfold hdOk;cases decide ((ws.hd i).link < 0) <;> cases decide ((ws.n:Int)≤(ws.hd i).link) <;> cases zOk 2097152 (ws.hd i).off <;> rfl
 ·refine (rdFq G K ws ws.nh).trans ?_;rw [vYY (show ¬ (ws.nh:Int) < (ws.nh:Int) by omega)];rfl
noncomputable def hFr (ws:Wsp) (i:Int):St:=⟨[(1,.p 1 0),(78,.v (.lf ws.ng (fG ws.gr))),(79,.v (.n .i64 (ws.ng:Int))),(80,.v (.n .i64 i))],[(1,.blk ((wP ws).map .v))]⟩
set_option maxRecDepth 100000 in
theorem rdFr (G:St→Option (Ret × Mem)) (K:Cont) (ws:Wsp) (i:Int):yJ 60 (cxS Tf (orFp ws) 60 59 (ntmF Tf 59)) (evX Tf (orFp ws) 60 59 (ntmF Tf 59)) (qZ []) (qQ Tf 59 [0,1,0,1,1,1,1,1]) [0,1,0,1,1,1,1,1] (Tf.hint 59 (qJ (qQ Tf 59 [0,1,0,1,1,1,1,1]))) K G (hFr ws i) =
 (bif (decide (i < (ws.ng:Int))) then (bif (inB i ws.ng) then (bif (gF1 ckn ekn (ws,((ws.gr (i).toNat).hand),((ws.gr (i).toNat).place))) then (bif (knB ws ((ws.gr (i).toNat).hand) ((ws.gr (i).toNat).place)) then (bif (gF1 cin ein (ws.js,ws.ms,ws.n,ws.m,((ws.gr (i).toNat).na),((ws.gr (i).toNat).cf))) then (bif (qIn ws.js ws.ms ((ws.gr (i).toNat).cf) ws.n ws.m ((ws.gr (i).toNat).na)) then (G (hFr ws (vYX .i64 (i + 1))))
 else (K .ret ⟨[(2,.v (.b false))],[]⟩))
 else none)
 else (K .ret ⟨[(2,.v (.b false))],[]⟩))
 else none)
 else none)
 else (K (.exit 4) ⟨[],[]⟩)):=by kernel_rfl
theorem lpFr (K:Cont) (ws:Wsp) (_:ws.ng≤50):LFX 60 (cxS Tf (orFp ws) 60 59 (ntmF Tf 59)) (evX Tf (orFp ws) 60 59 (ntmF Tf 59)) (qZ []) (qQ Tf 59 [0,1,0,1,1,1,1,1]) [0,1,0,1,1,1,1,1] (Tf.hint 59 (qJ (qQ Tf 59 [0,1,0,1,1,1,1,1]))) K 60 (hFr ws 0)=bif (allN (fun i:Nat=>grOk ws (ws.gr i)) ws.ng 0) then (K (.exit 4) ⟨[],[]⟩) else (K .ret ⟨[(2,.v (.b false))],[]⟩):=by
 refine (jJ (L:=LFX 60 (cxS Tf (orFp ws) 60 59 (ntmF Tf 59)) (evX Tf (orFp ws) 60 59 (ntmF Tf 59)) (qZ []) (qQ Tf 59 [0,1,0,1,1,1,1,1]) [0,1,0,1,1,1,1,1] (Tf.hint 59 (qJ (qQ Tf 59 [0,1,0,1,1,1,1,1]))) K) (stp:=yJ 60 (cxS Tf (orFp ws) 60 59 (ntmF Tf 59)) (evX Tf (orFp ws) 60 59 (ntmF Tf 59)) (qZ []) (qQ Tf 59 [0,1,0,1,1,1,1,1]) [0,1,0,1,1,1,1,1] (Tf.hint 59 (qJ (qQ Tf 59 [0,1,0,1,1,1,1,1]))) K) (fun _ _=>rfl) (fun (i:Nat) (_:Unit)=>hFr ws (i:Int)) (fun _ _=>True) (fun (i:Nat) _=>grOk ws (ws.gr i)) (fun _ _=>()) (c:=ws.ng) (fun _=>(K (.exit 4) ⟨[],[]⟩)) (fun i _=>(K .ret ⟨[(2,.v (.b false))],[]⟩)) (fun G i f hi _ => ?_) (fun _ _ _ _ _=>trivial) (fun G f _ => ?_) ws.ng 0 60 () (by omega) (by omega) trivial).trans ((zG _ _ _ _ _).trans (yZ _ _ _ _ _))
 ·refine (rdFr G K ws i).trans ?_;rw [vYJ (show (i:Int) < (ws.ng:Int) by omega),jZ (by omega),zJ (show i < ws.ng by omega),toN,jH (C:=ckn) (t:=(ws,(ws.gr i).hand,(ws.gr i).place)) trivial,jH (C:=cin) (t:=(ws.js,ws.ms,ws.n,ws.m,(ws.gr i).na,(ws.gr i).cf)) trivial];unfold grOk;cases knB ws (ws.gr i).hand (ws.gr i).place <;> cases qIn ws.js ws.ms (ws.gr i).cf ws.n ws.m (ws.gr i).na <;> rfl
 ·refine (rdFr G K ws ws.ng).trans ?_;rw [vYY (show ¬ (ws.ng:Int) < (ws.ng:Int) by omega)];rfl
noncomputable def yVV (ws:Wsp):List (List Nat × yU):=[([0,1,0,1,1,1],sumF (fun _:Unit=>(hFp ws 0)) (fun _=>()) (fun _ K=>(bif (decide (ws.np≤50)) then (bif (allN (fun i:Nat=>zOk 2097152 (ws.pl i)) ws.np 0) then (K (.exit 0) ⟨[(1,.p 1 0)],[(1,.blk ((wP ws).map .v))]⟩) else (K .ret ⟨[(1,.p 1 0),(2,.v (.b false))],[(1,.blk ((wP ws).map .v))]⟩)) else none))),([0,1,0,1,1,1,1],sumF (fun _:Unit=>(hFq ws 0)) (fun _=>()) (fun _ K=>(bif (decide (ws.nh≤50)) then (bif (allN (fun i:Nat=>hdOk ws.n (ws.hd i)) ws.nh 0) then (K (.exit 2) ⟨[(1,.p 1 0)],[(1,.blk ((wP ws).map .v))]⟩) else (K .ret ⟨[(1,.p 1 0),(2,.v (.b false))],[(1,.blk ((wP ws).map .v))]⟩)) else none))),([0,1,0,1,1,1,1,1],sumF (fun _:Unit=>(hFr ws 0)) (fun _=>()) (fun _ K=>(bif (decide (ws.ng≤50)) then (bif (allN (fun i:Nat=>grOk ws (ws.gr i)) ws.ng 0) then (K (.exit 4) ⟨[],[]⟩) else (K .ret ⟨[(2,.v (.b false))],[]⟩)) else none)))]
set_option maxRecDepth 100000 in
theorem kQU (ws:Wsp):kH Tf (orFp ws) (qZ (yVV ws)) 60 59 [.a (wP ws)] =
 (bif (decide (6 < (ws.no:Int))) then some (.v (.b false),[])
 else (bif (decide (8 < (ws.np:Int))) then some (.v (.b false),[])
 else (bif (decide (3 < (ws.nh:Int))) then some (.v (.b false),[])
 else (bif (decide (32 < (ws.ng:Int))) then some (.v (.b false),[])
 else (bif (decide (ws.slack < 0)) then some (.v (.b false),[])
 else (bif (decide (65536 < ws.slack)) then some (.v (.b false),[])
 else (bif (gSt (hFp ws 0) (hFp ws 0)) then (bif (decide (ws.np≤50)) then (bif (allN (fun i:Nat=>zOk 2097152 (ws.pl i)) ws.np 0) then (bif (gSt (hFq ws 0) (hFq ws 0)) then (bif (decide (ws.nh≤50)) then (bif (allN (fun i:Nat=>hdOk ws.n (ws.hd i)) ws.nh 0) then (bif (gSt (hFr ws 0) (hFr ws 0)) then (bif (decide (ws.ng≤50)) then (bif (allN (fun i:Nat=>grOk ws (ws.gr i)) ws.ng 0) then some (.v (.b true),[])
 else some (.v (.b false),[]))
 else none)
 else none)
 else some (.v (.b false),[]))
 else none)
 else none)
 else some (.v (.b false),[]))
 else none)
 else none))))))):=by kernel_rfl
theorem jQE (ws:Wsp):qH Tryz.prog 59 [.a (wP ws)] (.v (.b (fiB ws))):=by
 refine qX (N:=60) (LO:=qZ (yVV ws)) yG qG (yH (l:=[(111,o_ne),(75,o_kn),(76,o_in)]) (m:=[]) ⟨jWQ,kZA,kZE,trivial⟩ trivial) (fun p S hp => ?_) ?_
 ·refine qK (L:=qQ Tf 59) (l:=(yVV ws)) (show AllP _ (yVV ws) from ⟨?_,?_,?_,trivial⟩) p S hp
  ·dsimp only;refine yQ (T:=Tf) (o:=(orFp ws)) (f:=59) (LO:=qZ []) (p:=[0,1,0,1,1,1]) yV ?_;intro t K r hr;obtain ⟨hg,hr⟩:=qY hr;have hk:=vYK hg;exact (lpFp K ws hk).trans hr
  ·dsimp only;refine yQ (T:=Tf) (o:=(orFp ws)) (f:=59) (LO:=qZ []) (p:=[0,1,0,1,1,1,1]) yV ?_;intro t K r hr;obtain ⟨hg,hr⟩:=qY hr;have hk:=vYK hg;exact (lpFq K ws hk).trans hr
  ·dsimp only;refine yQ (T:=Tf) (o:=(orFp ws)) (f:=59) (LO:=qZ []) (p:=[0,1,0,1,1,1,1,1]) yV ?_;intro t K r hr;obtain ⟨hg,hr⟩:=qY hr;have hk:=vYK hg;exact (lpFr K ws hk).trans hr
 ·refine (kQU ws).trans ?_;unfold fiB szG plG hdG grG;by_cases h1:6 < (ws.no:Int)
  ·rw [vYJ h1]; rfl
  by_cases h2:8 < (ws.np:Int)
  ·rw [vYY h1,vYJ h2]; rfl
  by_cases h3:3 < (ws.nh:Int)
  ·rw [vYY h1,vYY h2,vYJ h3]; rfl
  by_cases h4:32 < (ws.ng:Int)
  ·rw [vYY h1,vYY h2,vYY h3,vYJ h4]; rfl
  rw [vYY h1,vYY h2,vYY h3,vYY h4];simp only [zQ,vYJ (show ws.np≤50 by omega),vYJ (show ws.nh≤50 by omega),vYJ (show ws.ng≤50 by omega)];cases decide (ws.slack < 0) <;> cases decide (65536 < ws.slack) <;> cases allN (fun i:Nat=>zOk 2097152 (ws.pl i)) ws.np 0 <;> cases allN (fun i:Nat=>hdOk ws.n (ws.hd i)) ws.nh 0 <;> cases allN (fun i:Nat=>grOk ws (ws.gr i)) ws.ng 0 <;> rfl
def cfi:Wsp→Prop:=fun t=>match t with | _=>True
def efi:Wsp→List PV:=fun t=>match t with | ws=>[.a (wP ws)]
noncomputable def rfi:Wsp→Ret:=fun t=>match t with | ws=>.v (.b (fiB ws))
def dfi:List PV→Wsp:=fun ps=>match ps with
 | [.a r]=>unW r
 | _=>(unW [])
noncomputable def o_fi:List PV→Option (Bool × Ret):=o_fm dfi cfi efi rfi
theorem kZF:jG Tryz.prog 59 o_fi:=qQU fun t h=>by
 revert h; revert t; intro ws h
 exact jQE ws
end Go.Proofs.YtmeldddgjfocdaaGreat.Hb
namespace Go.Proofs.YtmeldddgjfocdaaGreat.Hc
open Go.Rx Rt Go.Sx Go.RowKit Od Na Nb Nc Nx Nf Nl Nm Ga Gb Gc Gd Ge Gf Gg Ha Hb
def unOf (f:Nat→List PV):Nat→ObT:=fun v=>unO (f v)
def dupO (ob:Nat→ObT) (o:ObT) (k:Nat):Bool:=!allN (fun i:Nat => !((ob i).name.toList == o.name.toList)) k 0
noncomputable def kQI (e o:ObT):OrS:=orS [] []
noncomputable def yVA (e o:ObT):List (List Nat × yU):=[]
set_option maxRecDepth 100000 in
theorem kQV (e o:ObT):kH Tf (kQI e o) (qZ (yVA e o)) 60 60 [.a (oP e),.c (oP o) 0] =
 (bif (e.name.toList == o.name.toList) then some (.v (.b true),[])
 else some (.v (.b false),[])):=by kernel_rfl
theorem jZQ (e o:ObT):qH Tryz.prog 60 [.a (oP e),.c (oP o) 0] (.v (.b (e.name.toList == o.name.toList))):=by
 refine qX (N:=60) (LO:=qZ (yVA e o)) yG qG (yH (l:=[]) (m:=[]) trivial trivial) (fun p S hp => ?_) ?_
 ·refine qK (L:=qQ Tf 60) (l:=(yVA e o)) (show AllP _ (yVA e o) from trivial) p S hp
 ·refine (kQV e o).trans ?_;cases (e.name.toList == o.name.toList) <;> rfl
def cc1:ObT × ObT→Prop:=fun t=>match t with | (_,_)=>True
def ec1:ObT × ObT→List PV:=fun t=>match t with | (e,o)=>[.a (oP e),.c (oP o) 0]
noncomputable def rc1:ObT × ObT→Ret:=fun t=>match t with | (e,o)=>.v (.b (e.name.toList == o.name.toList))
def dc1:List PV→ObT × ObT:=fun ps=>match ps with
 | [.a r,.c q _]=>(unO r,unO q)
 | _=>(⟨ByteArray.empty,0,fun _=>⟨0,0,0,fun _=>⟨0,0,0⟩⟩⟩,⟨ByteArray.empty,0,fun _=>⟨0,0,0,fun _=>⟨0,0,0⟩⟩⟩)
noncomputable def o_c1:List PV→Option (Bool × Ret):=o_fm dc1 cc1 ec1 rc1
theorem kYJ:jG Tryz.prog 60 o_c1:=qQU fun t h=>by
 obtain ⟨e,o⟩:=t;exact jZQ e o
noncomputable def orIx (k:Nat) (_:Nat→ObT) (o:ObT):OrS:=orS [(60,o_c1)] []
noncomputable def hIx (k:Nat) (ob:Nat→ObT) (o:ObT) (i:Int):St:=⟨[(0,.v (.lf k (fO ob))),(1,.v (.f 60 [] [.c (oP o) 0])),(7,.v (.n .i64 (k:Int))),(8,.v (.n .i64 i))],[]⟩
set_option maxRecDepth 100000 in
theorem rdIx (G:St→Option (Ret × Mem)) (K:Cont) (k:Nat) (ob:Nat→ObT) (o:ObT) (i:Int):yJ 60 (cxS Tf (orIx k ob o) 60 114 (ntmF Tf 114)) (evX Tf (orIx k ob o) 60 114 (ntmF Tf 114)) (qZ []) (qQ Tf 114 [0,1,0,1]) [0,1,0,1] (Tf.hint 114 (qJ (qQ Tf 114 [0,1,0,1]))) K G (hIx k ob o i) =
 (bif (decide (i < (k:Int))) then (bif (inB i k) then (bif (gF1 cc1 ec1 ((ob (i).toNat),o)) then (bif ((ob (i).toNat).name.toList == o.name.toList) then (K .ret ⟨[(4,.v (.n .i64 i))],[]⟩)
 else (G (hIx k ob o (vYX .i64 (i + 1)))))
 else none)
 else none)
 else (K (.exit 0) ⟨[],[]⟩)):=by kernel_rfl
theorem lpIx (K:Cont) (k:Nat) (ob:Nat→ObT) (o:ObT) (_:k≤50):LFX 60 (cxS Tf (orIx k ob o) 60 114 (ntmF Tf 114)) (evX Tf (orIx k ob o) 60 114 (ntmF Tf 114)) (qZ []) (qQ Tf 114 [0,1,0,1]) [0,1,0,1] (Tf.hint 114 (qJ (qQ Tf 114 [0,1,0,1]))) K 60 (hIx k ob o 0)=bif (allN (fun i:Nat => !((ob i).name.toList == o.name.toList)) k 0) then (K (.exit 0) ⟨[],[]⟩) else (K .ret ⟨[(4,.v (.n .i64 ((Rx.firstK (fun i:Nat => !((ob i).name.toList == o.name.toList)) k 0:Nat):Int)))],[]⟩):=by
 refine (jJ (L:=LFX 60 (cxS Tf (orIx k ob o) 60 114 (ntmF Tf 114)) (evX Tf (orIx k ob o) 60 114 (ntmF Tf 114)) (qZ []) (qQ Tf 114 [0,1,0,1]) [0,1,0,1] (Tf.hint 114 (qJ (qQ Tf 114 [0,1,0,1]))) K) (stp:=yJ 60 (cxS Tf (orIx k ob o) 60 114 (ntmF Tf 114)) (evX Tf (orIx k ob o) 60 114 (ntmF Tf 114)) (qZ []) (qQ Tf 114 [0,1,0,1]) [0,1,0,1] (Tf.hint 114 (qJ (qQ Tf 114 [0,1,0,1]))) K) (fun _ _=>rfl) (fun (i:Nat) (_:Unit)=>hIx k ob o (i:Int)) (fun _ _=>True) (fun (i:Nat) _ => !((ob i).name.toList == o.name.toList)) (fun _ _=>()) (c:=k) (fun _=>(K (.exit 0) ⟨[],[]⟩)) (fun i _=>(K .ret ⟨[(4,.v (.n .i64 (i:Int)))],[]⟩)) (fun G i f hi _ => ?_) (fun _ _ _ _ _=>trivial) (fun G f _ => ?_) k 0 60 () (by omega) (by omega) trivial).trans ((zG _ _ _ _ _).trans (kK _ _ _ _ _))
 ·refine (rdIx G K k ob o i).trans ?_;rw [vYJ (show (i:Int) < (k:Int) by omega),jZ (by omega),zJ (show i < k by omega),toN,jH (C:=cc1) (t:=(ob i,o)) trivial];cases ((ob i).name.toList == o.name.toList) <;> rfl
 ·refine (rdIx G K k ob o k).trans ?_;rw [vYY (show ¬ (k:Int) < (k:Int) by omega)];rfl
noncomputable def yVJ (k:Nat) (ob:Nat→ObT) (o:ObT):List (List Nat × yU):=[([0,1,0,1],sumF (fun _:Unit=>(hIx k ob o 0)) (fun _=>()) (fun _ K=>(bif (decide (k≤50)) then (bif (allN (fun i:Nat => !((ob i).name.toList == o.name.toList)) k 0) then (K (.exit 0) ⟨[],[]⟩) else (K .ret ⟨[(4,.v (.n .i64 ((Rx.firstK (fun i:Nat => !((ob i).name.toList == o.name.toList)) k 0:Nat):Int)))],[]⟩)) else none)))]
set_option maxRecDepth 100000 in
theorem kQQ (k:Nat) (ob:Nat→ObT) (o:ObT):kH Tf (orIx k ob o) (qZ (yVJ k ob o)) 60 114 [.lf k (fO ob),.f 60 [] [.c (oP o) 0]] =
 (bif (gSt (hIx k ob o 0) (hIx k ob o 0)) then (bif (decide (k≤50)) then (bif (allN (fun i:Nat => !((ob i).name.toList == o.name.toList)) k 0) then some (.v (.n .i64 (-1)),[])
 else some (.v (.n .i64 ((Rx.firstK (fun i:Nat => !((ob i).name.toList == o.name.toList)) k 0:Nat):Int)),[]))
 else none)
 else none):=by kernel_rfl
theorem jQH (k:Nat) (ob:Nat→ObT) (o:ObT) (hk:k≤50):qH Tryz.prog 114 [.lf k (fO ob),.f 60 [] [.c (oP o) 0]] (.v (.n .i64 (bif dupO ob o k then ((Rx.firstK (fun i:Nat => !((ob i).name.toList == o.name.toList)) k 0:Nat):Int) else -1))):=by
 refine qX (N:=60) (LO:=qZ (yVJ k ob o)) yG qG (yH (l:=[(60,o_c1)]) (m:=[]) ⟨kYJ,trivial⟩ trivial) (fun p S hp => ?_) ?_
 ·refine qK (L:=qQ Tf 114) (l:=(yVJ k ob o)) (show AllP _ (yVJ k ob o) from ⟨?_,trivial⟩) p S hp
  ·dsimp only;refine yQ (T:=Tf) (o:=(orIx k ob o)) (f:=114) (LO:=qZ []) (p:=[0,1,0,1]) yV ?_;intro t K r hr;obtain ⟨hg,hr⟩:=qY hr;have hk:=vYK hg;exact (lpIx K k ob o hk).trans hr
 ·refine (kQQ k ob o).trans ?_;unfold dupO;rw [zQ,vYJ hk];cases allN (fun i:Nat => !((ob i).name.toList == o.name.toList)) k 0 <;> rfl
def cix:Nat × (Nat→ObT) × ObT→Prop:=fun t=>match t with | (k,_,_)=>k≤50
def eix:Nat × (Nat→ObT) × ObT→List PV:=fun t=>match t with | (k,ob,o)=>[.lf k (fO ob),.f 60 [] [.c (oP o) 0]]
noncomputable def rix:Nat × (Nat→ObT) × ObT→Ret:=fun t=>match t with | (k,ob,o)=>.v (.n .i64 (bif dupO ob o k then ((Rx.firstK (fun i:Nat => !((ob i).name.toList == o.name.toList)) k 0:Nat):Int) else -1))
def dix:List PV→Nat × (Nat→ObT) × ObT:=fun ps=>match ps with
 | [.lf k f,.f _ _ [.c q _]]=>(k,unOf f,unO q)
 | _=>(0,fun _=>⟨ByteArray.empty,0,fun _=>⟨0,0,0,fun _=>⟨0,0,0⟩⟩⟩,⟨ByteArray.empty,0,fun _=>⟨0,0,0,fun _=>⟨0,0,0⟩⟩⟩)
noncomputable def o_ix:List PV→Option (Bool × Ret):=o_fm dix cix eix rix
theorem kZB:jG Tryz.prog 114 o_ix:=qQU fun t h=>by
 obtain ⟨k,ob,o⟩:=t;exact jQH k ob o h
noncomputable def kQL (k:Nat) (_:Nat→ObT) (o:ObT):OrS:=orS [(114,o_ix)] []
noncomputable def yVB (k:Nat) (_:Nat→ObT) (o:ObT):List (List Nat × yU):=[]
set_option maxRecDepth 100000 in
theorem kQG (k:Nat) (ob:Nat→ObT) (o:ObT):kH Tf (kQL k ob o) (qZ (yVB k ob o)) 60 62 [.lf k (fO ob),.f 60 [] [.c (oP o) 0]] =
 (bif (gF1 cix eix (k,ob,o)) then (bif (decide (0≤(bif dupO ob o k then ((Rx.firstK (fun i:Nat => !((ob i).name.toList == o.name.toList)) k 0:Nat):Int) else -1))) then some (.v (.b true),[])
 else some (.v (.b false),[]))
 else none):=by kernel_rfl
theorem jZJ (k:Nat) (ob:Nat→ObT) (o:ObT) (hk:k≤50):qH Tryz.prog 62 [.lf k (fO ob),.f 60 [] [.c (oP o) 0]] (.v (.b (dupO ob o k))):=by
 refine qX (N:=60) (LO:=qZ (yVB k ob o)) yG qG (yH (l:=[(114,o_ix)]) (m:=[]) ⟨kZB,trivial⟩ trivial) (fun p S hp => ?_) ?_
 ·refine qK (L:=qQ Tf 62) (l:=(yVB k ob o)) (show AllP _ (yVB k ob o) from trivial) p S hp
 ·refine (kQG k ob o).trans ?_;rw [jH (C:=cix) (t:=(k,ob,o)) hk];cases dupO ob o k with
  | false=>rfl
  | true =>
   rw [vYQ,vYQ,vYJ (show 0≤((Rx.firstK (fun i:Nat => !((ob i).name.toList == o.name.toList)) k 0:Nat):Int) by omega)];rfl
def ccf:Nat × (Nat→ObT) × ObT→Prop:=fun t=>match t with | (k,_,_)=>k≤50
def ecf:Nat × (Nat→ObT) × ObT→List PV:=fun t=>match t with | (k,ob,o)=>[.lf k (fO ob),.f 60 [] [.c (oP o) 0]]
noncomputable def rcf:Nat × (Nat→ObT) × ObT→Ret:=fun t=>match t with | (k,ob,o)=>.v (.b (dupO ob o k))
def dcf:List PV→Nat × (Nat→ObT) × ObT:=fun ps=>match ps with
 | [.lf k f,.f _ _ [.c q _]]=>(k,unOf f,unO q)
 | _=>(0,fun _=>⟨ByteArray.empty,0,fun _=>⟨0,0,0,fun _=>⟨0,0,0⟩⟩⟩,⟨ByteArray.empty,0,fun _=>⟨0,0,0,fun _=>⟨0,0,0⟩⟩⟩)
noncomputable def o_cf:List PV→Option (Bool × Ret):=o_fm dcf ccf ecf rcf
theorem kYY:jG Tryz.prog 62 o_cf:=qQU fun t h=>by
 obtain ⟨k,ob,o⟩:=t;exact jZJ k ob o h
def csk_:(Nat→J) × (Nat→Ms) × (Nat→Shp) × (Nat→Skp) × Nat × Nat × Nat × Nat→Prop:=fun t=>match t with | (_,_,_,_,_,_,_,_)=>True
def esk_:(Nat→J) × (Nat→Ms) × (Nat→Shp) × (Nat→Skp) × Nat × Nat × Nat × Nat→List PV:=fun t=>match t with | (js,ms,sh,sk,n,m,c,d)=>[.a [.lf n (fJ js),.lf m (fM ms),.lf c (fS sh),.lf d (fK sk)]]
noncomputable def rsk_:(Nat→J) × (Nat→Ms) × (Nat→Shp) × (Nat→Skp) × Nat × Nat × Nat × Nat→Ret:=fun t=>match t with | (js,ms,sh,sk,n,m,c,d)=>.v (.n .i64 (sErr js ms sh sk n m c d))
def dsk_:List PV→(Nat→J) × (Nat→Ms) × (Nat→Shp) × (Nat→Skp) × Nat × Nat × Nat × Nat:=fun ps=>match ps with
 | [.a [.lf n js,.lf m ms,.lf c sh,.lf d sk]]=>(unFJ js,unFM ms,unFS sh,unFK sk,n,m,c,d)
 | _=>(fun _=>⟨ByteArray.empty,0,0,⟨0,0,0⟩,0,0,0,0,0,0⟩,fun _=>⟨0,0,⟨0,0,0⟩⟩,fun _=>⟨0,0,0,fun _=>⟨0,0,0⟩⟩,fun _=>⟨0,0⟩,0,0,0,0)
noncomputable def jJA:List PV→Option (Bool × Ret):=o_fm dsk_ csk_ esk_ rsk_
theorem jXE:jG Tryz.prog 58 jJA:=qQU fun t h=>by
 obtain ⟨js,ms,sh,sk,n,m,c,d⟩:=t;exact jQZ js ms sh sk n m c d
noncomputable def orGw (_:Wsp):OrS:=orS [(58,jJA),(59,o_fi),(61,o_nm),(62,o_cf),(63,o_so)] []
noncomputable def hGw (ws:Wsp) (i:Int) (s:Int):St:=⟨[(1,.p 1 0),(4,.v (.n .i64 s)),(22,.v (.lf ws.no (fO ws.ob))),(23,.v (.n .i64 (ws.no:Int))),(24,.v (.n .i64 i))],[(1,.blk ((wP ws).map .v))]⟩
set_option maxRecDepth 100000 in
theorem rdGw (G:St→Option (Ret × Mem)) (K:Cont) (ws:Wsp) (i:Int) (s:Int):yJ 60 (cxS Tf (orGw ws) 60 19 (ntmF Tf 19)) (evX Tf (orGw ws) 60 19 (ntmF Tf 19)) (qZ []) (qQ Tf 19 [0,1,0,1,1,1,1]) [0,1,0,1,1,1,1] (Tf.hint 19 (qJ (qQ Tf 19 [0,1,0,1,1,1,1]))) K G (hGw ws i s) =
 (bif (decide (i < (ws.no:Int))) then (bif (inB i ws.no) then (bif (nmB (ws.ob (i).toNat).name) then (bif (inS none (some i) ws.no) then (bif (gF1 ccf ecf (((i).toNat - 0),(fun v=>(ws.ob (v + 0))),(ws.ob (i).toNat))) then (bif (dupO (fun v=>(ws.ob (v + 0))) (ws.ob (i).toNat) ((i).toNat - 0)) then (K .ret ⟨[(2,.v (.n .i64 3402)),(4,.v (.n .i64 s))],[]⟩)
 else (bif (gF1 cso eso (ws.ob (i).toNat)) then (bif (soOk (ws.ob (i).toNat)) then (G (hGw ws (vYX .i64 (i + 1)) (vYX .i64 (s + ((ws.ob (i).toNat).ns:Int)))))
 else (K .ret ⟨[(2,.v (.n .i64 3402)),(4,.v (.n .i64 s))],[]⟩))
 else none))
 else none)
 else none)
 else (K .ret ⟨[(2,.v (.n .i64 3402)),(4,.v (.n .i64 s))],[]⟩))
 else none)
 else (K (.exit 0) ⟨[(4,.v (.n .i64 s))],[]⟩)):=by kernel_rfl
def obG (ws:Wsp) (i:Nat):Bool:=nmB (ws.ob i).name && (!dupO ws.ob (ws.ob i) i && soOk (ws.ob i))
def cntF (ws:Wsp):Nat→Int
 | 0=>(ws.c:Int)
 | i + 1=>vYX .i64 (cntF ws i + ((ws.ob i).ns:Int))
def obA (ws:Wsp):Bool:=allN (fun i:Nat=>obG ws i) ws.no 0
def sEW (ws:Wsp):Int:=sErr ws.js ws.ms ws.sh ws.sk ws.n ws.m ws.c ws.d
def wErr (ws:Wsp):Int:=bif decide (sEW ws=0) then (bif fiB ws then (bif obA ws then (bif decide (24 < cntF ws ws.no) then 3401 else 0) else 3402) else 3401) else sEW ws
def okW (ws:Wsp):Prop:=∀ i,i < ws.no→(ws.ob i).ns≤8796093021952
theorem zHY {ws:Wsp} (h:fiB ws=true):ws.no≤6∧ws.np≤8∧ws.nh≤3∧ws.ng≤32:=by
 unfold fiB szG at h;simp only [vQJ,Bool.not_eq_true',decide_eq_false_iff_not] at h;omega
theorem yYU {i n:Nat} (_:i < n):inS none (some (i:Int)) n=true:=by
 simp [inS,loOf,hiOf];exact vYJ (by omega)
theorem lpGw (K:Cont) (ws:Wsp) (_:ws.no≤50) (ho:okW ws):LFX 60 (cxS Tf (orGw ws) 60 19 (ntmF Tf 19)) (evX Tf (orGw ws) 60 19 (ntmF Tf 19)) (qZ []) (qQ Tf 19 [0,1,0,1,1,1,1]) [0,1,0,1,1,1,1] (Tf.hint 19 (qJ (qQ Tf 19 [0,1,0,1,1,1,1]))) K 60 (hGw ws 0 (ws.c:Int))=bif obA ws then (K (.exit 0) ⟨[(4,.v (.n .i64 (cntF ws ws.no)))],[]⟩) else (K .ret ⟨[(2,.v (.n .i64 3402)),(4,.v (.n .i64 (cntF ws (Rx.firstK (fun j:Nat=>obG ws j) ws.no 0))))],[]⟩):=by
 refine (jJ (L:=LFX 60 (cxS Tf (orGw ws) 60 19 (ntmF Tf 19)) (evX Tf (orGw ws) 60 19 (ntmF Tf 19)) (qZ []) (qQ Tf 19 [0,1,0,1,1,1,1]) [0,1,0,1,1,1,1] (Tf.hint 19 (qJ (qQ Tf 19 [0,1,0,1,1,1,1]))) K) (stp:=yJ 60 (cxS Tf (orGw ws) 60 19 (ntmF Tf 19)) (evX Tf (orGw ws) 60 19 (ntmF Tf 19)) (qZ []) (qQ Tf 19 [0,1,0,1,1,1,1]) [0,1,0,1,1,1,1] (Tf.hint 19 (qJ (qQ Tf 19 [0,1,0,1,1,1,1]))) K) (fun _ _=>rfl) (fun (i:Nat) (_:Unit)=>hGw ws (i:Int) (cntF ws i)) (fun _ _=>True) (fun (i:Nat) _=>obG ws i) (fun _ _=>()) (c:=ws.no) (fun _=>(K (.exit 0) ⟨[(4,.v (.n .i64 (cntF ws ws.no)))],[]⟩)) (fun i _=>(K .ret ⟨[(2,.v (.n .i64 3402)),(4,.v (.n .i64 (cntF ws i)))],[]⟩)) (fun G i f hi _ => ?_) (fun _ _ _ _ _=>trivial) (fun G f _ => ?_) ws.no 0 60 () (by omega) (by omega) trivial).trans ((zG _ _ _ _ _).trans (kK _ _ _ _ _))
 ·have h1:(ws.ob i).ns≤9223372036854775807:=Nat.le_trans (ho i hi) (by decide);refine (rdGw G K ws i (cntF ws i)).trans ?_;rw [vYJ (show (i:Int) < (ws.no:Int) by omega),jZ (by omega),zJ hi,toN,yYU hi,jH (C:=ccf) (t:=(i - 0,(fun v=>ws.ob (v + 0)),ws.ob i)) (show i - 0≤50 by omega),jH (C:=cso) (t:=ws.ob i) h1];unfold obG;show _=bif nmB (ws.ob i).name && (!dupO (fun v=>ws.ob (v + 0)) (ws.ob i) (i - 0) && soOk (ws.ob i)) then _ else _
  cases nmB (ws.ob i).name <;> cases dupO (fun v=>ws.ob (v + 0)) (ws.ob i) (i - 0) <;> cases soOk (ws.ob i) <;> rfl
 ·refine (rdGw G K ws (ws.no:Int) (cntF ws ws.no)).trans ?_;rw [vYY (show ¬ (ws.no:Int) < (ws.no:Int) by omega)];rfl
noncomputable def yVW (ws:Wsp):List (List Nat × yU):=[([0,1,0,1,1,1,1],sumF (fun _:Unit=>(hGw ws 0 (ws.c:Int))) (fun _=>()) (fun _ K=>(bif gP (ws.no≤50∧okW ws) then (bif obA ws then (K (.exit 0) ⟨[(4,.v (.n .i64 (cntF ws ws.no)))],[]⟩) else (K .ret ⟨[(2,.v (.n .i64 3402)),(4,.v (.n .i64 (cntF ws (Rx.firstK (fun j:Nat=>obG ws j) ws.no 0))))],[]⟩)) else none)))]
set_option maxRecDepth 100000 in
theorem kQK (ws:Wsp):kH Tf (orGw ws) (qZ (yVW ws)) 60 19 [.a (wP ws)] =
 (bif (gF1 csk_ esk_ (ws.js,ws.ms,ws.sh,ws.sk,ws.n,ws.m,ws.c,ws.d)) then (bif (!decide ((sErr ws.js ws.ms ws.sh ws.sk ws.n ws.m ws.c ws.d)=0)) then some (.v (.n .i64 (sErr ws.js ws.ms ws.sh ws.sk ws.n ws.m ws.c ws.d)),[])
 else (bif (gF1 cfi efi ws) then (bif (fiB ws) then (bif (gSt (hGw ws 0 (ws.c:Int)) (hGw ws 0 (ws.c:Int))) then (bif gP (ws.no≤50∧okW ws) then (bif (obA ws) then (bif (decide (24 < (cntF ws ws.no))) then some (.v (.n .i64 3401),[])
 else some (.v (.n .i64 0),[]))
 else some (.v (.n .i64 3402),[]))
 else none)
 else none)
 else some (.v (.n .i64 3401),[]))
 else none))
 else none):=by kernel_rfl
theorem jQD (ws:Wsp) (ho:okW ws):qH Tryz.prog 19 [.a (wP ws)] (.v (.n .i64 (wErr ws))):=by
 refine qX (N:=60) (LO:=qZ (yVW ws)) yG qG (yH (l:=[(58,jJA),(59,o_fi),(61,o_nm),(62,o_cf),(63,o_so)]) (m:=[]) ⟨jXE,kZF,jXA,kYY,kZX,trivial⟩ trivial) (fun p S hp => ?_) ?_
 ·refine qK (L:=qQ Tf 19) (l:=(yVW ws)) (show AllP _ (yVW ws) from ⟨?_,trivial⟩) p S hp
  ·dsimp only;refine yQ (T:=Tf) (o:=(orGw ws)) (f:=19) (LO:=qZ []) (p:=[0,1,0,1,1,1,1]) yV ?_;intro t K r hr;obtain ⟨hg,hr⟩:=qY hr
   skip
   exact (lpGw K ws (zX hg).1 (zX hg).2).trans hr
 ·refine (kQK ws).trans ?_;unfold wErr;rw [jH (C:=csk_) (t:=(ws.js,ws.ms,ws.sh,ws.sk,ws.n,ws.m,ws.c,ws.d)) trivial];show (bif true then (bif !decide (sEW ws=0) then some (Ret.v (.n .i64 (sEW ws)),([]:Mem)) else _) else none)=_;by_cases h:sEW ws=0
  ·rw [vYJ h,jH (C:=cfi) (t:=ws) trivial];cases hf:fiB ws with
   | false=>rfl
   | true =>
    have hn:=(zHY hf).1;simp only [zQ,qYH (show ws.no≤50∧okW ws from ⟨by omega,ho⟩),vYQ,Bool.not_true,vYZ];cases obA ws with
    | false=>rfl
    | true=>cases decide (24 < cntF ws ws.no) <;> rfl
  ·rw [vYY h]; rfl
def cgk:Wsp→Prop:=fun t=>match t with | ws=>okW ws
def egk:Wsp→List PV:=fun t=>match t with | ws=>[.a (wP ws)]
noncomputable def rgk:Wsp→Ret:=fun t=>match t with | ws=>.v (.n .i64 (wErr ws))
def dgk:List PV→Wsp:=fun ps=>match ps with
 | [.a r]=>unW r
 | _=>(unW [])
noncomputable def o_gk:List PV→Option (Bool × Ret):=o_fm dgk cgk egk rgk
theorem jWW:jG Tryz.prog 19 o_gk:=qQU fun t h=>by
 revert h; revert t; intro ws h
 exact jQD ws h
end Go.Proofs.YtmeldddgjfocdaaGreat.Hc
namespace Go.Proofs.YtmeldddgjfocdaaGreat.Hd
end Go.Proofs.YtmeldddgjfocdaaGreat.Hd
namespace Go.Rx
open Go.RowKit Go.Sx
theorem qWC {P:Program} {f:Nat} {r:Ret} (h1:qH P f [.nz] r) (h2:qH P f [.ne] r):qH P f [.l []] r:=by
 refine ⟨h1.1,fun w F vals hF hal => ?_⟩;obtain ⟨v,vs,rfl,hv,ha⟩:=zJE hal;obtain rfl:=yGX ha;cases hv with
 | l0 ad c =>
  cases ad with
  | none=>exact h1.2 w F _ hF (qJF (.nz c) qHY)
  | some a=>exact h2.2 w F _ hF (qJF (.ne a c) qHY)
 | l _ b off n c sz g hn => 
  subst hn;exact h2.2 w F _ hF (qJF (.ne _ c) qHY)
end Go.Rx

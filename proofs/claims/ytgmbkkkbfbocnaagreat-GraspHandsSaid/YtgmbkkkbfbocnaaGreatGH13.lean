/- Part 13 of the texts behind the last one: rules and contracts. No condition. -/
import Derived.Test.YtgmbkkkbfbocnaaGreatGH12
open Option renaming bind_eq_some_iff → vQQ
open Option.some renaming injEq → vQZ
open Prod.mk renaming injEq → vQY
open Bool renaming and_eq_true → vQJ, and_self → vZJ, true_and → vZH
open Go.IntKind renaming wrap → vJJ
namespace Go.Proofs.YtgmbkkkbfbocnaaGreat.Gb
open Go.Rx Rt Go.Sx Go.RowKit Od Na Nb Nc Nx Nf Ga
def yUB (s:Shp):Bool:=allN (fun i:Nat=>zOk 4194304 (s.pts i)) s.np 0
def shE (n:Nat) (s:Shp):Int:=bif !isLk n s.link || (decide (s.rad < 1) || (decide (1048576 < s.rad) || (decide ((s.np:Int) < 1) || decide (8 < (s.np:Int))))) then 902 else bif yUB s then 0 else 805
noncomputable def orCs (_:Nat→J) (_:Nat→Ms) (_:Nat→Shp) (_:Nat→Skp) (n m c d:Nat) (s:Shp):OrS:=orS [(98,o_il)] []
noncomputable def hCs (_:Nat→J) (_:Nat→Ms) (_:Nat→Shp) (_:Nat→Skp) (n m c d:Nat) (s:Shp) (i:Int):St:=⟨[(37,.v (.lf s.np (fZ s.pts))),(38,.v (.n .i64 (s.np:Int))),(39,.v (.n .i64 i))],[]⟩
set_option maxRecDepth 100000 in
theorem rdCs (G:St→Option (Ret × Mem)) (K:Cont) (js:Nat→J) (ms:Nat→Ms) (sh:Nat→Shp) (sk:Nat→Skp) (n m c d:Nat) (s:Shp) (i:Int):kQ 60 (cxS Tf (orCs js ms sh sk n m c d s) 60 97 (ntmF Tf 97)) (evX Tf (orCs js ms sh sk n m c d s) 60 97 (ntmF Tf 97)) (qZ []) (qQ Tf 97 [0,1,0,1,1,1]) [0,1,0,1,1,1] (Tf.hint 97 (qJ (qQ Tf 97 [0,1,0,1,1,1]))) K G (hCs js ms sh sk n m c d s i) =
 (bif (decide (i < (s.np:Int))) then (bif (inB i s.np) then (bif (decide ((s.pts (i).toNat).x < (-4194304))) then (K .ret ⟨[(4,.v (.n .i64 805))],[]⟩)
 else (bif (decide (4194304 < (s.pts (i).toNat).x)) then (K .ret ⟨[(4,.v (.n .i64 805))],[]⟩)
 else (bif (decide ((s.pts (i).toNat).y < (-4194304))) then (K .ret ⟨[(4,.v (.n .i64 805))],[]⟩)
 else (bif (decide (4194304 < (s.pts (i).toNat).y)) then (K .ret ⟨[(4,.v (.n .i64 805))],[]⟩)
 else (bif (decide ((s.pts (i).toNat).z < (-4194304))) then (K .ret ⟨[(4,.v (.n .i64 805))],[]⟩)
 else (bif (decide (4194304 < (s.pts (i).toNat).z)) then (K .ret ⟨[(4,.v (.n .i64 805))],[]⟩)
 else (G (hCs js ms sh sk n m c d s (vJJ .i64 (i + 1))))))))))
 else none)
 else (K (.exit 0) ⟨[],[]⟩)):=by kernel_rfl
theorem lpCs (K:Cont) (js:Nat→J) (ms:Nat→Ms) (sh:Nat→Shp) (sk:Nat→Skp) (n m c d:Nat) (s:Shp) (_:s.np≤50):LFX 60 (cxS Tf (orCs js ms sh sk n m c d s) 60 97 (ntmF Tf 97)) (evX Tf (orCs js ms sh sk n m c d s) 60 97 (ntmF Tf 97)) (qZ []) (qQ Tf 97 [0,1,0,1,1,1]) [0,1,0,1,1,1] (Tf.hint 97 (qJ (qQ Tf 97 [0,1,0,1,1,1]))) K 60 (hCs js ms sh sk n m c d s 0)=bif (allN (fun i:Nat=>zOk 4194304 (s.pts i)) s.np 0) then (K (.exit 0) ⟨[],[]⟩) else (K .ret ⟨[(4,.v (.n .i64 805))],[]⟩):=by
 refine (uH (L:=LFX 60 (cxS Tf (orCs js ms sh sk n m c d s) 60 97 (ntmF Tf 97)) (evX Tf (orCs js ms sh sk n m c d s) 60 97 (ntmF Tf 97)) (qZ []) (qQ Tf 97 [0,1,0,1,1,1]) [0,1,0,1,1,1] (Tf.hint 97 (qJ (qQ Tf 97 [0,1,0,1,1,1]))) K) (stp:=kQ 60 (cxS Tf (orCs js ms sh sk n m c d s) 60 97 (ntmF Tf 97)) (evX Tf (orCs js ms sh sk n m c d s) 60 97 (ntmF Tf 97)) (qZ []) (qQ Tf 97 [0,1,0,1,1,1]) [0,1,0,1,1,1] (Tf.hint 97 (qJ (qQ Tf 97 [0,1,0,1,1,1]))) K) (fun _ _=>rfl) (fun (i:Nat) (_:Unit)=>hCs js ms sh sk n m c d s (i:Int)) (fun _ _=>True) (fun (i:Nat) _=>zOk 4194304 (s.pts i)) (fun _ _=>()) (c:=s.np) (fun _=>(K (.exit 0) ⟨[],[]⟩)) (fun i _=>(K .ret ⟨[(4,.v (.n .i64 805))],[]⟩)) (fun G i f hi _ => ?_) (fun _ _ _ _ _=>trivial) (fun G f _ => ?_) s.np 0 60 () (by omega) (by omega) trivial).trans ((jV _ _ _ _ _).trans (jK _ _ _ _ _))
 ·refine (rdCs G K js ms sh sk n m c d s i).trans ?_;rw [vJQ (show (i:Int) < (s.np:Int) by omega),uJ (by omega),yV (show i < s.np by omega),toN];unfold zOk;cases decide ((s.pts i).x < -4194304) <;> cases decide (4194304 < (s.pts i).x) <;> cases decide ((s.pts i).y < -4194304) <;> cases decide (4194304 < (s.pts i).y) <;> cases decide ((s.pts i).z < -4194304) <;> cases decide (4194304 < (s.pts i).z) <;> rfl
 ·refine (rdCs G K js ms sh sk n m c d s s.np).trans ?_;rw [vYH (show ¬ (s.np:Int) < (s.np:Int) by omega)];rfl
noncomputable def kUG (js:Nat→J) (ms:Nat→Ms) (sh:Nat→Shp) (sk:Nat→Skp) (n m c d:Nat) (s:Shp):List (List Nat × jG):=[([0,1,0,1,1,1],sumF (fun _:Unit=>(hCs js ms sh sk n m c d s 0)) (fun _=>()) (fun _ K=>(bif (decide (s.np≤50)) then (bif (allN (fun i:Nat=>zOk 4194304 (s.pts i)) s.np 0) then (K (.exit 0) ⟨[],[]⟩) else (K .ret ⟨[(4,.v (.n .i64 805))],[]⟩)) else none)))]
set_option maxRecDepth 100000 in
theorem xWC (js:Nat→J) (ms:Nat→Ms) (sh:Nat→Shp) (sk:Nat→Skp) (n m c d:Nat) (s:Shp):qYU Tf (orCs js ms sh sk n m c d s) (qZ (kUG js ms sh sk n m c d s)) 60 97 [.a [.lf n (fJ js),.lf m (fM ms),.lf c (fS sh),.lf d (fK sk)],.a (sP s)] =
 (bif (gF1 cil eil (js,ms,sh,sk,n,m,c,d,s.link)) then (bif (isLk n s.link) then (bif (decide (s.rad < 1)) then some (.v (.n .i64 902),[])
 else (bif (decide (1048576 < s.rad)) then some (.v (.n .i64 902),[])
 else (bif (decide ((s.np:Int) < 1)) then some (.v (.n .i64 902),[])
 else (bif (decide (8 < (s.np:Int))) then some (.v (.n .i64 902),[])
 else (bif (gSt (hCs js ms sh sk n m c d s 0) (hCs js ms sh sk n m c d s 0)) then (bif (decide (s.np≤50)) then (bif (allN (fun i:Nat=>zOk 4194304 (s.pts i)) s.np 0) then some (.v (.n .i64 0),[])
 else some (.v (.n .i64 805),[]))
 else none)
 else none)))))
 else some (.v (.n .i64 902),[]))
 else none):=by kernel_rfl
theorem uZJ (js:Nat→J) (ms:Nat→Ms) (sh:Nat→Shp) (sk:Nat→Skp) (n m c d:Nat) (s:Shp):yK Tryz.prog 97 [.a [.lf n (fJ js),.lf m (fM ms),.lf c (fS sh),.lf d (fK sk)],.a (sP s)] (.v (.n .i64 (shE n s))):=by
 refine yQ (N:=60) (LO:=qZ (kUG js ms sh sk n m c d s)) kX zW (uK (l:=[(98,o_il)]) (m:=[]) ⟨xQX,trivial⟩ trivial) (fun p S hp => ?_) ?_
 ·refine zG (L:=qQ Tf 97) (l:=(kUG js ms sh sk n m c d s)) (show AllP _ (kUG js ms sh sk n m c d s) from ⟨?_,trivial⟩) p S hp
  ·dsimp only;refine kZ (T:=Tf) (o:=(orCs js ms sh sk n m c d s)) (f:=97) (LO:=qZ []) (p:=[0,1,0,1,1,1]) kW ?_;intro t K r hr;obtain ⟨hg,hr⟩:=qY hr;have hk:=vJZ hg;exact (lpCs K js ms sh sk n m c d s hk).trans hr
 ·refine (xWC js ms sh sk n m c d s).trans ?_;unfold shE yUB;rw [kV (C:=cil) (t:=(js,ms,sh,sk,n,m,c,d,s.link)) trivial,yU];by_cases h:8 < (s.np:Int)
  ·rw [vJQ h];cases isLk n s.link <;> cases decide (s.rad < 1) <;> cases decide (1048576 < s.rad) <;> cases decide ((s.np:Int) < 1) <;> rfl
  ·rw [vYH h,vJQ (show s.np≤50 by omega)];cases isLk n s.link <;> cases decide (s.rad < 1) <;> cases decide (1048576 < s.rad) <;> cases decide ((s.np:Int) < 1) <;> cases allN (fun i:Nat=>zOk 4194304 (s.pts i)) s.np 0 <;> rfl
def ccs:(Nat→J) × (Nat→Ms) × (Nat→Shp) × (Nat→Skp) × Nat × Nat × Nat × Nat × Shp→Prop:=fun t=>match t with | (_,_,_,_,_,_,_,_,_)=>True
def ecs:(Nat→J) × (Nat→Ms) × (Nat→Shp) × (Nat→Skp) × Nat × Nat × Nat × Nat × Shp→List PV:=fun t=>match t with | (js,ms,sh,sk,n,m,c,d,s)=>[.a [.lf n (fJ js),.lf m (fM ms),.lf c (fS sh),.lf d (fK sk)],.a (sP s)]
noncomputable def rcs:(Nat→J) × (Nat→Ms) × (Nat→Shp) × (Nat→Skp) × Nat × Nat × Nat × Nat × Shp→Ret:=fun t=>match t with | (_,_,_,_,n,_,_,_,s)=>.v (.n .i64 (shE n s))
def dcs:List PV→(Nat→J) × (Nat→Ms) × (Nat→Shp) × (Nat→Skp) × Nat × Nat × Nat × Nat × Shp:=fun ps=>match ps with
 | [.a [.lf n js,.lf m ms,.lf c sh,.lf d sk],.a r]=>(unFJ js,unFM ms,unFS sh,unFK sk,n,m,c,d,unS r)
 | _=>(fun _=>⟨ByteArray.empty,0,0,⟨0,0,0⟩,0,0,0,0,0,0⟩,fun _=>⟨0,0,⟨0,0,0⟩⟩,fun _=>⟨0,0,0,fun _=>⟨0,0,0⟩⟩,fun _=>⟨0,0⟩,0,0,0,0,⟨0,0,0,fun _=>⟨0,0,0⟩⟩)
noncomputable def o_cs:List PV→Option (Bool × Ret):=o_fm dcs ccs ecs rcs
theorem xGA:zJ Tryz.prog 97 o_cs:=qYX fun t h=>by
 obtain ⟨js,ms,sh,sk,n,m,c,d,s⟩:=t;exact uZJ js ms sh sk n m c d s
def shOk (s:Shp):Bool:=!(decide (s.rad < 1) || (decide (1048576 < s.rad) || (decide ((s.np:Int) < 1) || decide (8 < (s.np:Int))))) && yUB s
noncomputable def orPc (s:Shp):OrS:=orS [] []
noncomputable def hPc (s:Shp) (i:Int):St:=⟨[(28,.v (.lf s.np (fZ s.pts))),(29,.v (.n .i64 (s.np:Int))),(30,.v (.n .i64 i))],[]⟩
set_option maxRecDepth 100000 in
theorem rdPc (G:St→Option (Ret × Mem)) (K:Cont) (s:Shp) (i:Int):kQ 60 (cxS Tf (orPc s) 60 103 (ntmF Tf 103)) (evX Tf (orPc s) 60 103 (ntmF Tf 103)) (qZ []) (qQ Tf 103 [0,1,0,1,1]) [0,1,0,1,1] (Tf.hint 103 (qJ (qQ Tf 103 [0,1,0,1,1]))) K G (hPc s i) =
 (bif (decide (i < (s.np:Int))) then (bif (inB i s.np) then (bif (decide ((s.pts (i).toNat).x < (-4194304))) then (K .ret ⟨[(2,.v (.b false))],[]⟩)
 else (bif (decide (4194304 < (s.pts (i).toNat).x)) then (K .ret ⟨[(2,.v (.b false))],[]⟩)
 else (bif (decide ((s.pts (i).toNat).y < (-4194304))) then (K .ret ⟨[(2,.v (.b false))],[]⟩)
 else (bif (decide (4194304 < (s.pts (i).toNat).y)) then (K .ret ⟨[(2,.v (.b false))],[]⟩)
 else (bif (decide ((s.pts (i).toNat).z < (-4194304))) then (K .ret ⟨[(2,.v (.b false))],[]⟩)
 else (bif (decide (4194304 < (s.pts (i).toNat).z)) then (K .ret ⟨[(2,.v (.b false))],[]⟩)
 else (G (hPc s (vJJ .i64 (i + 1))))))))))
 else none)
 else (K (.exit 0) ⟨[],[]⟩)):=by kernel_rfl
theorem lpPc (K:Cont) (s:Shp) (_:s.np≤50):LFX 60 (cxS Tf (orPc s) 60 103 (ntmF Tf 103)) (evX Tf (orPc s) 60 103 (ntmF Tf 103)) (qZ []) (qQ Tf 103 [0,1,0,1,1]) [0,1,0,1,1] (Tf.hint 103 (qJ (qQ Tf 103 [0,1,0,1,1]))) K 60 (hPc s 0)=bif (allN (fun i:Nat=>zOk 4194304 (s.pts i)) s.np 0) then (K (.exit 0) ⟨[],[]⟩) else (K .ret ⟨[(2,.v (.b false))],[]⟩):=by
 refine (uH (L:=LFX 60 (cxS Tf (orPc s) 60 103 (ntmF Tf 103)) (evX Tf (orPc s) 60 103 (ntmF Tf 103)) (qZ []) (qQ Tf 103 [0,1,0,1,1]) [0,1,0,1,1] (Tf.hint 103 (qJ (qQ Tf 103 [0,1,0,1,1]))) K) (stp:=kQ 60 (cxS Tf (orPc s) 60 103 (ntmF Tf 103)) (evX Tf (orPc s) 60 103 (ntmF Tf 103)) (qZ []) (qQ Tf 103 [0,1,0,1,1]) [0,1,0,1,1] (Tf.hint 103 (qJ (qQ Tf 103 [0,1,0,1,1]))) K) (fun _ _=>rfl) (fun (i:Nat) (_:Unit)=>hPc s (i:Int)) (fun _ _=>True) (fun (i:Nat) _=>zOk 4194304 (s.pts i)) (fun _ _=>()) (c:=s.np) (fun _=>(K (.exit 0) ⟨[],[]⟩)) (fun i _=>(K .ret ⟨[(2,.v (.b false))],[]⟩)) (fun G i f hi _ => ?_) (fun _ _ _ _ _=>trivial) (fun G f _ => ?_) s.np 0 60 () (by omega) (by omega) trivial).trans ((jV _ _ _ _ _).trans (jK _ _ _ _ _))
 ·refine (rdPc G K s i).trans ?_;rw [vJQ (show (i:Int) < (s.np:Int) by omega),uJ (by omega),yV (show i < s.np by omega),toN];unfold zOk;cases decide ((s.pts i).x < -4194304) <;> cases decide (4194304 < (s.pts i).x) <;> cases decide ((s.pts i).y < -4194304) <;> cases decide (4194304 < (s.pts i).y) <;> cases decide ((s.pts i).z < -4194304) <;> cases decide (4194304 < (s.pts i).z) <;> rfl
 ·refine (rdPc G K s s.np).trans ?_;rw [vYH (show ¬ (s.np:Int) < (s.np:Int) by omega)];rfl
noncomputable def kKB (s:Shp):List (List Nat × jG):=[([0,1,0,1,1],sumF (fun _:Unit=>(hPc s 0)) (fun _=>()) (fun _ K=>(bif (decide (s.np≤50)) then (bif (allN (fun i:Nat=>zOk 4194304 (s.pts i)) s.np 0) then (K (.exit 0) ⟨[],[]⟩) else (K .ret ⟨[(2,.v (.b false))],[]⟩)) else none)))]
set_option maxRecDepth 100000 in
theorem xXE (s:Shp):qYU Tf (orPc s) (qZ (kKB s)) 60 103 [.a (sP s)] =
 (bif (decide (s.rad < 1)) then some (.v (.b false),[])
 else (bif (decide (1048576 < s.rad)) then some (.v (.b false),[])
 else (bif (decide ((s.np:Int) < 1)) then some (.v (.b false),[])
 else (bif (decide (8 < (s.np:Int))) then some (.v (.b false),[])
 else (bif (gSt (hPc s 0) (hPc s 0)) then (bif (decide (s.np≤50)) then (bif (allN (fun i:Nat=>zOk 4194304 (s.pts i)) s.np 0) then some (.v (.b true),[])
 else some (.v (.b false),[]))
 else none)
 else none))))):=by kernel_rfl
theorem uQJ (s:Shp):yK Tryz.prog 103 [.a (sP s)] (.v (.b (shOk s))):=by
 refine yQ (N:=60) (LO:=qZ (kKB s)) kX zW (uK (l:=[]) (m:=[]) trivial trivial) (fun p S hp => ?_) ?_
 ·refine zG (L:=qQ Tf 103) (l:=(kKB s)) (show AllP _ (kKB s) from ⟨?_,trivial⟩) p S hp
  ·dsimp only;refine kZ (T:=Tf) (o:=(orPc s)) (f:=103) (LO:=qZ []) (p:=[0,1,0,1,1]) kW ?_;intro t K r hr;obtain ⟨hg,hr⟩:=qY hr;have hk:=vJZ hg;exact (lpPc K s hk).trans hr
 ·refine (xXE s).trans ?_;unfold shOk yUB;rw [yU];by_cases h:8 < (s.np:Int)
  ·rw [vJQ h];cases decide (s.rad < 1) <;> cases decide (1048576 < s.rad) <;> cases decide ((s.np:Int) < 1) <;> rfl
  ·rw [vYH h,vJQ (show s.np≤50 by omega)];cases decide (s.rad < 1) <;> cases decide (1048576 < s.rad) <;> cases decide ((s.np:Int) < 1) <;> cases allN (fun i:Nat=>zOk 4194304 (s.pts i)) s.np 0 <;> rfl
def cpk:Shp→Prop:=fun t=>match t with | _=>True
def epk:Shp→List PV:=fun t=>match t with | s=>[.a (sP s)]
noncomputable def rpk:Shp→Ret:=fun t=>match t with | s=>.v (.b (shOk s))
def dpk:List PV→Shp:=fun ps=>match ps with
 | [.a r]=>unS r
 | _=>⟨0,0,0,fun _=>⟨0,0,0⟩⟩
noncomputable def o_pk:List PV→Option (Bool × Ret):=o_fm dpk cpk epk rpk
theorem xGJ:zJ Tryz.prog 103 o_pk:=qYX fun t h=>by
 revert h; revert t; intro s h
 exact uQJ s
noncomputable def orRk (s:Shp):OrS:=orS [(57,o_nr)] []
noncomputable def hRk (s:Shp) (i:Int):St:=⟨[(1,.p 1 0),(3,.v (.n .i64 i))],[(1,.blk [.v (.n .i64 s.link),.v (.n .i64 s.rad),.v (.lf s.np (fZ s.pts))])]⟩
set_option maxRecDepth 100000 in
theorem rdRk (G:St→Option (Ret × Mem)) (K:Cont) (s:Shp) (i:Int):kQ 60 (cxS Tf (orRk s) 60 107 (ntmF Tf 107)) (evX Tf (orRk s) 60 107 (ntmF Tf 107)) (qZ []) (qQ Tf 107 [0,1,0,1,1]) [0,1,0,1,1] (Tf.hint 107 (qJ (qQ Tf 107 [0,1,0,1,1]))) K G (hRk s i) =
 (bif (decide (i < (s.np:Int))) then (bif (inB i s.np) then (bif (gF1 cnr enr (s.pts (i).toNat)) then (bif (zOk 4194304 (s.pts (i).toNat)) then (G (hRk s (vJJ .i64 (i + 1))))
 else (K .ret ⟨[(2,.v (.b false))],[]⟩))
 else none)
 else none)
 else (K (.exit 0) ⟨[],[]⟩)):=by kernel_rfl
theorem lpRk (K:Cont) (s:Shp) (_:s.np≤50):LFX 60 (cxS Tf (orRk s) 60 107 (ntmF Tf 107)) (evX Tf (orRk s) 60 107 (ntmF Tf 107)) (qZ []) (qQ Tf 107 [0,1,0,1,1]) [0,1,0,1,1] (Tf.hint 107 (qJ (qQ Tf 107 [0,1,0,1,1]))) K 60 (hRk s 0)=bif (allN (fun i:Nat=>zOk 4194304 (s.pts i)) s.np 0) then (K (.exit 0) ⟨[],[]⟩) else (K .ret ⟨[(2,.v (.b false))],[]⟩):=by
 refine (uH (L:=LFX 60 (cxS Tf (orRk s) 60 107 (ntmF Tf 107)) (evX Tf (orRk s) 60 107 (ntmF Tf 107)) (qZ []) (qQ Tf 107 [0,1,0,1,1]) [0,1,0,1,1] (Tf.hint 107 (qJ (qQ Tf 107 [0,1,0,1,1]))) K) (stp:=kQ 60 (cxS Tf (orRk s) 60 107 (ntmF Tf 107)) (evX Tf (orRk s) 60 107 (ntmF Tf 107)) (qZ []) (qQ Tf 107 [0,1,0,1,1]) [0,1,0,1,1] (Tf.hint 107 (qJ (qQ Tf 107 [0,1,0,1,1]))) K) (fun _ _=>rfl) (fun (i:Nat) (_:Unit)=>hRk s (i:Int)) (fun _ _=>True) (fun (i:Nat) _=>zOk 4194304 (s.pts i)) (fun _ _=>()) (c:=s.np) (fun _=>(K (.exit 0) ⟨[],[]⟩)) (fun i _=>(K .ret ⟨[(2,.v (.b false))],[]⟩)) (fun G i f hi _ => ?_) (fun _ _ _ _ _=>trivial) (fun G f _ => ?_) s.np 0 60 () (by omega) (by omega) trivial).trans ((jV _ _ _ _ _).trans (jK _ _ _ _ _))
 ·refine (rdRk G K s i).trans ?_;rw [vJQ (show (i:Int) < (s.np:Int) by omega),uJ (by omega),yV (show i < s.np by omega),toN,kV (C:=cnr) (t:=s.pts i) trivial];cases zOk 4194304 (s.pts i) <;> rfl
 ·refine (rdRk G K s s.np).trans ?_;rw [vYH (show ¬ (s.np:Int) < (s.np:Int) by omega)];rfl
noncomputable def kKG (s:Shp):List (List Nat × jG):=[([0,1,0,1,1],sumF (fun _:Unit=>(hRk s 0)) (fun _=>()) (fun _ K=>(bif (decide (s.np≤50)) then (bif (allN (fun i:Nat=>zOk 4194304 (s.pts i)) s.np 0) then (K (.exit 0) ⟨[],[]⟩) else (K .ret ⟨[(2,.v (.b false))],[]⟩)) else none)))]
set_option maxRecDepth 100000 in
theorem xXB (s:Shp):qYU Tf (orRk s) (qZ (kKG s)) 60 107 [.a (sP s)] =
 (bif (decide (s.rad < 1)) then some (.v (.b false),[])
 else (bif (decide (1048576 < s.rad)) then some (.v (.b false),[])
 else (bif (decide ((s.np:Int) < 1)) then some (.v (.b false),[])
 else (bif (decide (8 < (s.np:Int))) then some (.v (.b false),[])
 else (bif (gSt (hRk s 0) (hRk s 0)) then (bif (decide (s.np≤50)) then (bif (allN (fun i:Nat=>zOk 4194304 (s.pts i)) s.np 0) then some (.v (.b true),[])
 else some (.v (.b false),[]))
 else none)
 else none))))):=by kernel_rfl
theorem kHL (s:Shp):yK Tryz.prog 107 [.a (sP s)] (.v (.b (shOk s))):=by
 refine yQ (N:=60) (LO:=qZ (kKG s)) kX zW (uK (l:=[(57,o_nr)]) (m:=[]) ⟨uHB,trivial⟩ trivial) (fun p S hp => ?_) ?_
 ·refine zG (L:=qQ Tf 107) (l:=(kKG s)) (show AllP _ (kKG s) from ⟨?_,trivial⟩) p S hp
  ·dsimp only;refine kZ (T:=Tf) (o:=(orRk s)) (f:=107) (LO:=qZ []) (p:=[0,1,0,1,1]) kW ?_;intro t K r hr;obtain ⟨hg,hr⟩:=qY hr;have hk:=vJZ hg;exact (lpRk K s hk).trans hr
 ·refine (xXB s).trans ?_;unfold shOk yUB;rw [yU];by_cases h:8 < (s.np:Int)
  ·rw [vJQ h];cases decide (s.rad < 1) <;> cases decide (1048576 < s.rad) <;> cases decide ((s.np:Int) < 1) <;> rfl
  ·rw [vYH h,vJQ (show s.np≤50 by omega)];cases decide (s.rad < 1) <;> cases decide (1048576 < s.rad) <;> cases decide ((s.np:Int) < 1) <;> cases allN (fun i:Nat=>zOk 4194304 (s.pts i)) s.np 0 <;> rfl
def crk:Shp→Prop:=fun t=>match t with | _=>True
def erk:Shp→List PV:=fun t=>match t with | s=>[.a (sP s)]
noncomputable def rrk:Shp→Ret:=fun t=>match t with | s=>.v (.b (shOk s))
def drk:List PV→Shp:=fun ps=>match ps with
 | [.a r]=>unS r
 | _=>⟨0,0,0,fun _=>⟨0,0,0⟩⟩
noncomputable def o_rk:List PV→Option (Bool × Ret):=o_fm drk crk erk rrk
theorem xGZ:zJ Tryz.prog 107 o_rk:=qYX fun t h=>by
 revert h; revert t; intro s h
 exact kHL s
end Go.Proofs.YtgmbkkkbfbocnaaGreat.Gb
namespace Go.Proofs.YtgmbkkkbfbocnaaGreat.Gc
open Go.Rx Rt Go.Sx Go.RowKit Od Na Nb Nc Nx Nf Ga Gb
def shG (sh:Nat→Shp) (n c:Nat):Bool:=allN (fun i:Nat=>decide (shE n (sh i)=0)) c 0
def skG (sk:Nat→Skp) (n d:Nat):Bool:=allN (fun i:Nat=>isLk n (sk i).a && isLk n (sk i).b) d 0
def sErr (js:Nat→J) (ms:Nat→Ms) (sh:Nat→Shp) (sk:Nat→Skp) (n m c d:Nat):Int:=bif decide (rErr js ms n m=0) then (bif decide (24 < (c:Int)) then 901 else bif shG sh n c then (bif decide (64 < (d:Int)) then 903 else bif skG sk n d then 0 else 903) else shE n (sh (Rx.firstK (fun i:Nat=>decide (shE n (sh i)=0)) c 0))) else rErr js ms n m
noncomputable def orSa (js:Nat→J) (ms:Nat→Ms) (_:Nat→Shp) (_:Nat→Skp) (n m c d:Nat):OrS:=orS [(85,o_cr [.a [.lf n (fJ js),.lf m (fM ms)]] (.v (.n .i64 (rErr js ms n m)))),(97,o_cs),(98,o_il)] []
noncomputable def hSa (js:Nat→J) (ms:Nat→Ms) (sh:Nat→Shp) (sk:Nat→Skp) (n m c d:Nat) (i:Int):St:=⟨[(1,.p 1 0),(20,.v (.lf c (fS sh))),(21,.v (.n .i64 (c:Int))),(22,.v (.n .i64 i))],[(1,.blk [.v (.lf n (fJ js)),.v (.lf m (fM ms)),.v (.lf c (fS sh)),.v (.lf d (fK sk))])]⟩
set_option maxRecDepth 100000 in
theorem rdSa (G:St→Option (Ret × Mem)) (K:Cont) (js:Nat→J) (ms:Nat→Ms) (sh:Nat→Shp) (sk:Nat→Skp) (n m c d:Nat) (i:Int):kQ 100 (cxS Tf (orSa js ms sh sk n m c d) 100 50 (ntmF Tf 50)) (evX Tf (orSa js ms sh sk n m c d) 100 50 (ntmF Tf 50)) (qZ []) (qQ Tf 50 [0,1,0,1,1,1]) [0,1,0,1,1,1] (Tf.hint 50 (qJ (qQ Tf 50 [0,1,0,1,1,1]))) K G (hSa js ms sh sk n m c d i) =
 (bif (decide (i < (c:Int))) then (bif (inB i c) then (bif (gF1 ccs ecs (js,ms,sh,sk,n,m,c,d,(sh (i).toNat))) then (bif (!decide ((shE n (sh (i).toNat))=0)) then (K .ret ⟨[(1,.p 1 0),(2,.v (.n .i64 (shE n (sh (i).toNat))))],[(1,.blk [.v (.lf n (fJ js)),.v (.lf m (fM ms)),.v (.lf c (fS sh)),.v (.lf d (fK sk))])]⟩)
 else (G (hSa js ms sh sk n m c d (vJJ .i64 (i + 1)))))
 else none)
 else none)
 else (K (.exit 0) ⟨[(1,.p 1 0)],[(1,.blk [.v (.lf n (fJ js)),.v (.lf m (fM ms)),.v (.lf c (fS sh)),.v (.lf d (fK sk))])]⟩)):=by kernel_rfl
theorem lpSa (K:Cont) (js:Nat→J) (ms:Nat→Ms) (sh:Nat→Shp) (sk:Nat→Skp) (n m c d:Nat) (_:c≤50):LFX 100 (cxS Tf (orSa js ms sh sk n m c d) 100 50 (ntmF Tf 50)) (evX Tf (orSa js ms sh sk n m c d) 100 50 (ntmF Tf 50)) (qZ []) (qQ Tf 50 [0,1,0,1,1,1]) [0,1,0,1,1,1] (Tf.hint 50 (qJ (qQ Tf 50 [0,1,0,1,1,1]))) K 100 (hSa js ms sh sk n m c d 0)=bif (allN (fun i:Nat=>decide (shE n (sh i)=0)) c 0) then (K (.exit 0) ⟨[(1,.p 1 0)],[(1,.blk [.v (.lf n (fJ js)),.v (.lf m (fM ms)),.v (.lf c (fS sh)),.v (.lf d (fK sk))])]⟩) else (K .ret ⟨[(1,.p 1 0),(2,.v (.n .i64 (shE n (sh (((Rx.firstK (fun i:Nat=>decide (shE n (sh i)=0)) c 0:Nat):Int)).toNat))))],[(1,.blk [.v (.lf n (fJ js)),.v (.lf m (fM ms)),.v (.lf c (fS sh)),.v (.lf d (fK sk))])]⟩):=by
 refine (uH (L:=LFX 100 (cxS Tf (orSa js ms sh sk n m c d) 100 50 (ntmF Tf 50)) (evX Tf (orSa js ms sh sk n m c d) 100 50 (ntmF Tf 50)) (qZ []) (qQ Tf 50 [0,1,0,1,1,1]) [0,1,0,1,1,1] (Tf.hint 50 (qJ (qQ Tf 50 [0,1,0,1,1,1]))) K) (stp:=kQ 100 (cxS Tf (orSa js ms sh sk n m c d) 100 50 (ntmF Tf 50)) (evX Tf (orSa js ms sh sk n m c d) 100 50 (ntmF Tf 50)) (qZ []) (qQ Tf 50 [0,1,0,1,1,1]) [0,1,0,1,1,1] (Tf.hint 50 (qJ (qQ Tf 50 [0,1,0,1,1,1]))) K) (fun _ _=>rfl) (fun (i:Nat) (_:Unit)=>hSa js ms sh sk n m c d (i:Int)) (fun _ _=>True) (fun (i:Nat) _=>decide (shE n (sh i)=0)) (fun _ _=>()) (c:=c) (fun _=>(K (.exit 0) ⟨[(1,.p 1 0)],[(1,.blk [.v (.lf n (fJ js)),.v (.lf m (fM ms)),.v (.lf c (fS sh)),.v (.lf d (fK sk))])]⟩)) (fun i _=>(K .ret ⟨[(1,.p 1 0),(2,.v (.n .i64 (shE n (sh ((i:Int)).toNat))))],[(1,.blk [.v (.lf n (fJ js)),.v (.lf m (fM ms)),.v (.lf c (fS sh)),.v (.lf d (fK sk))])]⟩)) (fun G i f hi _ => ?_) (fun _ _ _ _ _=>trivial) (fun G f _ => ?_) c 0 100 () (by omega) (by omega) trivial).trans ((jV _ _ _ _ _).trans (qQL _ _ _ _ _))
 ·refine (rdSa G K js ms sh sk n m c d i).trans ?_;rw [vJQ (show (i:Int) < (c:Int) by omega),uJ (by omega),yV (show i < c by omega),toN,kV (C:=ccs) (t:=(js,ms,sh,sk,n,m,c,d,sh i)) trivial];cases decide (shE n (sh i)=0) <;> rfl
 ·refine (rdSa G K js ms sh sk n m c d c).trans ?_;rw [vYH (show ¬ (c:Int) < (c:Int) by omega)];rfl
noncomputable def hSb (js:Nat→J) (ms:Nat→Ms) (sh:Nat→Shp) (sk:Nat→Skp) (n m c d:Nat) (i:Int):St:=⟨[(1,.p 1 0),(38,.v (.lf d (fK sk))),(39,.v (.n .i64 (d:Int))),(40,.v (.n .i64 i))],[(1,.blk [.v (.lf n (fJ js)),.v (.lf m (fM ms)),.v (.lf c (fS sh)),.v (.lf d (fK sk))])]⟩
set_option maxRecDepth 100000 in
theorem rdSb (G:St→Option (Ret × Mem)) (K:Cont) (js:Nat→J) (ms:Nat→Ms) (sh:Nat→Shp) (sk:Nat→Skp) (n m c d:Nat) (i:Int):kQ 100 (cxS Tf (orSa js ms sh sk n m c d) 100 50 (ntmF Tf 50)) (evX Tf (orSa js ms sh sk n m c d) 100 50 (ntmF Tf 50)) (qZ []) (qQ Tf 50 [0,1,0,1,1,1,1,1]) [0,1,0,1,1,1,1,1] (Tf.hint 50 (qJ (qQ Tf 50 [0,1,0,1,1,1,1,1]))) K G (hSb js ms sh sk n m c d i) =
 (bif (decide (i < (d:Int))) then (bif (inB i d) then (bif (gF1 cil eil (js,ms,sh,sk,n,m,c,d,(sk (i).toNat).a)) then (bif (isLk n ((sk (i).toNat).a)) then (bif (gF1 cil eil (js,ms,sh,sk,n,m,c,d,(sk (i).toNat).b)) then (bif (isLk n ((sk (i).toNat).b)) then (G (hSb js ms sh sk n m c d (vJJ .i64 (i + 1))))
 else (K .ret ⟨[(2,.v (.n .i64 903))],[]⟩))
 else none)
 else (K .ret ⟨[(2,.v (.n .i64 903))],[]⟩))
 else none)
 else none)
 else (K (.exit 2) ⟨[],[]⟩)):=by kernel_rfl
theorem lpSb (K:Cont) (js:Nat→J) (ms:Nat→Ms) (sh:Nat→Shp) (sk:Nat→Skp) (n m c d:Nat) (_:d≤70):LFX 100 (cxS Tf (orSa js ms sh sk n m c d) 100 50 (ntmF Tf 50)) (evX Tf (orSa js ms sh sk n m c d) 100 50 (ntmF Tf 50)) (qZ []) (qQ Tf 50 [0,1,0,1,1,1,1,1]) [0,1,0,1,1,1,1,1] (Tf.hint 50 (qJ (qQ Tf 50 [0,1,0,1,1,1,1,1]))) K 100 (hSb js ms sh sk n m c d 0)=bif (allN (fun i:Nat=>isLk n (sk i).a && isLk n (sk i).b) d 0) then (K (.exit 2) ⟨[],[]⟩) else (K .ret ⟨[(2,.v (.n .i64 903))],[]⟩):=by
 refine (uH (L:=LFX 100 (cxS Tf (orSa js ms sh sk n m c d) 100 50 (ntmF Tf 50)) (evX Tf (orSa js ms sh sk n m c d) 100 50 (ntmF Tf 50)) (qZ []) (qQ Tf 50 [0,1,0,1,1,1,1,1]) [0,1,0,1,1,1,1,1] (Tf.hint 50 (qJ (qQ Tf 50 [0,1,0,1,1,1,1,1]))) K) (stp:=kQ 100 (cxS Tf (orSa js ms sh sk n m c d) 100 50 (ntmF Tf 50)) (evX Tf (orSa js ms sh sk n m c d) 100 50 (ntmF Tf 50)) (qZ []) (qQ Tf 50 [0,1,0,1,1,1,1,1]) [0,1,0,1,1,1,1,1] (Tf.hint 50 (qJ (qQ Tf 50 [0,1,0,1,1,1,1,1]))) K) (fun _ _=>rfl) (fun (i:Nat) (_:Unit)=>hSb js ms sh sk n m c d (i:Int)) (fun _ _=>True) (fun (i:Nat) _=>isLk n (sk i).a && isLk n (sk i).b) (fun _ _=>()) (c:=d) (fun _=>(K (.exit 2) ⟨[],[]⟩)) (fun i _=>(K .ret ⟨[(2,.v (.n .i64 903))],[]⟩)) (fun G i f hi _ => ?_) (fun _ _ _ _ _=>trivial) (fun G f _ => ?_) d 0 100 () (by omega) (by omega) trivial).trans ((jV _ _ _ _ _).trans (jK _ _ _ _ _))
 ·refine (rdSb G K js ms sh sk n m c d i).trans ?_;rw [vJQ (show (i:Int) < (d:Int) by omega),uJ (by omega),yV (show i < d by omega),toN,kV (C:=cil) (t:=(js,ms,sh,sk,n,m,c,d,(sk i).a)) trivial,kV (C:=cil) (t:=(js,ms,sh,sk,n,m,c,d,(sk i).b)) trivial];cases isLk n (sk i).a <;> cases isLk n (sk i).b <;> rfl
 ·refine (rdSb G K js ms sh sk n m c d d).trans ?_;rw [vYH (show ¬ (d:Int) < (d:Int) by omega)];rfl
noncomputable def kKK (js:Nat→J) (ms:Nat→Ms) (sh:Nat→Shp) (sk:Nat→Skp) (n m c d:Nat):List (List Nat × jG):=[([0,1,0,1,1,1],sumF (fun _:Unit=>(hSa js ms sh sk n m c d 0)) (fun _=>()) (fun _ K=>(bif (decide (c≤50)) then (bif (allN (fun i:Nat=>decide (shE n (sh i)=0)) c 0) then (K (.exit 0) ⟨[(1,.p 1 0)],[(1,.blk [.v (.lf n (fJ js)),.v (.lf m (fM ms)),.v (.lf c (fS sh)),.v (.lf d (fK sk))])]⟩) else (K .ret ⟨[(1,.p 1 0),(2,.v (.n .i64 (shE n (sh (((Rx.firstK (fun i:Nat=>decide (shE n (sh i)=0)) c 0:Nat):Int)).toNat))))],[(1,.blk [.v (.lf n (fJ js)),.v (.lf m (fM ms)),.v (.lf c (fS sh)),.v (.lf d (fK sk))])]⟩)) else none))),([0,1,0,1,1,1,1,1],sumF (fun _:Unit=>(hSb js ms sh sk n m c d 0)) (fun _=>()) (fun _ K=>(bif (decide (d≤70)) then (bif (allN (fun i:Nat=>isLk n (sk i).a && isLk n (sk i).b) d 0) then (K (.exit 2) ⟨[],[]⟩) else (K .ret ⟨[(2,.v (.n .i64 903))],[]⟩)) else none)))]
set_option maxRecDepth 100000 in
theorem xXX (js:Nat→J) (ms:Nat→Ms) (sh:Nat→Shp) (sk:Nat→Skp) (n m c d:Nat):qYU Tf (orSa js ms sh sk n m c d) (qZ (kKK js ms sh sk n m c d)) 100 50 [.a [.lf n (fJ js),.lf m (fM ms),.lf c (fS sh),.lf d (fK sk)]] =
 (bif (g1 [.a [.lf n (fJ js),.lf m (fM ms)]]) then (bif (!decide ((rErr js ms n m)=0)) then some (.v (.n .i64 (rErr js ms n m)),[])
 else (bif (decide (24 < (c:Int))) then some (.v (.n .i64 901),[])
 else (bif (gSt (hSa js ms sh sk n m c d 0) (hSa js ms sh sk n m c d 0)) then (bif (decide (c≤50)) then (bif (allN (fun i:Nat=>decide (shE n (sh i)=0)) c 0) then (bif (decide (64 < (d:Int))) then some (.v (.n .i64 903),[])
 else (bif (gSt (hSb js ms sh sk n m c d 0) (hSb js ms sh sk n m c d 0)) then (bif (decide (d≤70)) then (bif (allN (fun i:Nat=>isLk n (sk i).a && isLk n (sk i).b) d 0) then some (.v (.n .i64 0),[])
 else some (.v (.n .i64 903),[]))
 else none)
 else none))
 else some (.v (.n .i64 (shE n (sh (((Rx.firstK (fun i:Nat=>decide (shE n (sh i)=0)) c 0:Nat):Int)).toNat))),[]))
 else none)
 else none)))
 else none):=by kernel_rfl
theorem kHD (js:Nat→J) (ms:Nat→Ms) (sh:Nat→Shp) (sk:Nat→Skp) (n m c d:Nat):yK Tryz.prog 50 [.a [.lf n (fJ js),.lf m (fM ms),.lf c (fS sh),.lf d (fK sk)]] (.v (.n .i64 (sErr js ms sh sk n m c d))):=by
 refine yQ (N:=100) (LO:=qZ (kKK js ms sh sk n m c d)) kX zW (uK (l:=[(85,o_cr [.a [.lf n (fJ js),.lf m (fM ms)]] (.v (.n .i64 (rErr js ms n m)))),(97,o_cs),(98,o_il)]) (m:=[]) ⟨qWU (yUQ js ms n m),xGA,xQX,trivial⟩ trivial) (fun p S hp => ?_) ?_
 ·refine zG (L:=qQ Tf 50) (l:=(kKK js ms sh sk n m c d)) (show AllP _ (kKK js ms sh sk n m c d) from ⟨?_,?_,trivial⟩) p S hp
  ·dsimp only;refine kZ (T:=Tf) (o:=(orSa js ms sh sk n m c d)) (f:=50) (LO:=qZ []) (p:=[0,1,0,1,1,1]) kW ?_;intro t K r hr;obtain ⟨hg,hr⟩:=qY hr;have hc:=vJZ hg;exact (lpSa K js ms sh sk n m c d hc).trans hr
  ·dsimp only;refine kZ (T:=Tf) (o:=(orSa js ms sh sk n m c d)) (f:=50) (LO:=qZ []) (p:=[0,1,0,1,1,1,1,1]) kW ?_;intro t K r hr;obtain ⟨hg,hr⟩:=qY hr;have hd:=vJZ hg;exact (lpSb K js ms sh sk n m c d hd).trans hr
 ·refine (xXX js ms sh sk n m c d).trans ?_;unfold sErr shG skG;rw [g1_t];by_cases h:rErr js ms n m=0
  ·rw [vJQ h];by_cases hc:24 < (c:Int)
   ·rw [vJQ hc]; rfl
   rw [vYH hc,yU,vJQ (show c≤50 by omega)];cases allN (fun i:Nat=>decide (shE n (sh i)=0)) c 0 with
   | false=>simp only [Bool.not_true,Bool.not_false,vYV,vYG,toN]
   | true =>
    by_cases hd:64 < (d:Int)
    ·rw [vJQ hd]; rfl
    rw [vYH hd,yU,vJQ (show d≤70 by omega)];cases allN (fun i:Nat=>isLk n (sk i).a && isLk n (sk i).b) d 0 <;> rfl
  ·rw [vYH h]; rfl
noncomputable def orRo (js:Nat→J) (ms:Nat→Ms) (_:Nat→Shp) (_:Nat→Skp) (n m c d:Nat):OrS:=orS [(65,o_cr [.a [.lf n (fJ js),.lf m (fM ms)]] (.v (.n .i64 (rErr js ms n m)))),(104,o_ir),(105,o_bt),(57,o_nr)] []
noncomputable def hRi (js:Nat→J) (ms:Nat→Ms) (sh:Nat→Shp) (sk:Nat→Skp) (n m c d:Nat) (i:Int) (s:Shp) (k:Int):St:=⟨[(1,.p 1 0),(4,.v (.n .i64 i)),(5,.p 5 0),(6,.v (.n .i64 k))],[(1,.blk [.v (.lf n (fJ js)),.v (.lf m (fM ms)),.v (.lf c (fS sh)),.v (.lf d (fK sk))]),(5,.blk [.v (.n .i64 s.link),.v (.n .i64 s.rad),.v (.lf s.np (fZ s.pts))])]⟩
set_option maxRecDepth 100000 in
theorem rdRi (G:St→Option (Ret × Mem)) (K:Cont) (js:Nat→J) (ms:Nat→Ms) (sh:Nat→Shp) (sk:Nat→Skp) (n m c d:Nat) (i:Int) (s:Shp) (k:Int):kQ 100 (cxS Tf (orRo js ms sh sk n m c d) 100 56 (ntmF Tf 56)) (evX Tf (orRo js ms sh sk n m c d) 100 56 (ntmF Tf 56)) (qZ []) (qQ Tf 56 [0,1,1,1,0,0,1,0,0,1,0,1,1,1]) [0,1,1,1,0,0,1,0,0,1,0,1,1,1] (Tf.hint 56 (qJ (qQ Tf 56 [0,1,1,1,0,0,1,0,0,1,0,1,1,1]))) K G (hRi js ms sh sk n m c d i s k) =
 (bif (decide (k < (s.np:Int))) then (bif (inB k s.np) then (bif (gF1 cnr enr (s.pts (k).toNat)) then (bif (zOk 4194304 (s.pts (k).toNat)) then (G (hRi js ms sh sk n m c d i s (vJJ .i64 (k + 1))))
 else (K .ret ⟨[(1,.p 1 0),(2,.v (.n .i64 805)),(4,.v (.n .i64 i))],[(1,.blk [.v (.lf n (fJ js)),.v (.lf m (fM ms)),.v (.lf c (fS sh)),.v (.lf d (fK sk))])]⟩))
 else none)
 else none)
 else (K (.exit 2) ⟨[(1,.p 1 0),(4,.v (.n .i64 i))],[(1,.blk [.v (.lf n (fJ js)),.v (.lf m (fM ms)),.v (.lf c (fS sh)),.v (.lf d (fK sk))])]⟩)):=by kernel_rfl
theorem lpRi (K:Cont) (js:Nat→J) (ms:Nat→Ms) (sh:Nat→Shp) (sk:Nat→Skp) (n m c d:Nat) (i:Int) (s:Shp) (_:s.np≤50):LFX 100 (cxS Tf (orRo js ms sh sk n m c d) 100 56 (ntmF Tf 56)) (evX Tf (orRo js ms sh sk n m c d) 100 56 (ntmF Tf 56)) (qZ []) (qQ Tf 56 [0,1,1,1,0,0,1,0,0,1,0,1,1,1]) [0,1,1,1,0,0,1,0,0,1,0,1,1,1] (Tf.hint 56 (qJ (qQ Tf 56 [0,1,1,1,0,0,1,0,0,1,0,1,1,1]))) K 100 (hRi js ms sh sk n m c d i s 0)=bif (allN (fun k:Nat=>zOk 4194304 (s.pts k)) s.np 0) then (K (.exit 2) ⟨[(1,.p 1 0),(4,.v (.n .i64 i))],[(1,.blk [.v (.lf n (fJ js)),.v (.lf m (fM ms)),.v (.lf c (fS sh)),.v (.lf d (fK sk))])]⟩) else (K .ret ⟨[(1,.p 1 0),(2,.v (.n .i64 805)),(4,.v (.n .i64 i))],[(1,.blk [.v (.lf n (fJ js)),.v (.lf m (fM ms)),.v (.lf c (fS sh)),.v (.lf d (fK sk))])]⟩):=by
 refine (uH (L:=LFX 100 (cxS Tf (orRo js ms sh sk n m c d) 100 56 (ntmF Tf 56)) (evX Tf (orRo js ms sh sk n m c d) 100 56 (ntmF Tf 56)) (qZ []) (qQ Tf 56 [0,1,1,1,0,0,1,0,0,1,0,1,1,1]) [0,1,1,1,0,0,1,0,0,1,0,1,1,1] (Tf.hint 56 (qJ (qQ Tf 56 [0,1,1,1,0,0,1,0,0,1,0,1,1,1]))) K) (stp:=kQ 100 (cxS Tf (orRo js ms sh sk n m c d) 100 56 (ntmF Tf 56)) (evX Tf (orRo js ms sh sk n m c d) 100 56 (ntmF Tf 56)) (qZ []) (qQ Tf 56 [0,1,1,1,0,0,1,0,0,1,0,1,1,1]) [0,1,1,1,0,0,1,0,0,1,0,1,1,1] (Tf.hint 56 (qJ (qQ Tf 56 [0,1,1,1,0,0,1,0,0,1,0,1,1,1]))) K) (fun _ _=>rfl) (fun (k:Nat) (_:Unit)=>hRi js ms sh sk n m c d i s (k:Int)) (fun _ _=>True) (fun (k:Nat) _=>zOk 4194304 (s.pts k)) (fun _ _=>()) (c:=s.np) (fun _=>(K (.exit 2) ⟨[(1,.p 1 0),(4,.v (.n .i64 i))],[(1,.blk [.v (.lf n (fJ js)),.v (.lf m (fM ms)),.v (.lf c (fS sh)),.v (.lf d (fK sk))])]⟩)) (fun k _=>(K .ret ⟨[(1,.p 1 0),(2,.v (.n .i64 805)),(4,.v (.n .i64 i))],[(1,.blk [.v (.lf n (fJ js)),.v (.lf m (fM ms)),.v (.lf c (fS sh)),.v (.lf d (fK sk))])]⟩)) (fun G k f hi _ => ?_) (fun _ _ _ _ _=>trivial) (fun G f _ => ?_) (s.np) 0 100 () (by omega) (by omega) trivial).trans ((jV _ _ _ _ _).trans (jK _ _ _ _ _))
 ·refine (rdRi G K js ms sh sk n m c d i s k).trans ?_;rw [vJQ (show (k:Int) < (s.np:Int) by omega),uJ (by omega),yV (show k < s.np by omega),toN,kV (C:=cnr) (t:=s.pts k) trivial];cases zOk 4194304 (s.pts k) <;> rfl
 ·refine (rdRi G K js ms sh sk n m c d i s (s.np:Int)).trans ?_;rw [vYH (show ¬ (s.np:Int) < (s.np:Int) by omega)];rfl
def bkS (σ:St) (k:Nat):Shp:=match yY σ.M k with
 | some (.blk [.v (.n _ l),.v (.n _ r),.v (.lf n f)])=>⟨l,r,n,unFZ f⟩
 | _=>⟨0,0,0,fun _=>⟨0,0,0⟩⟩
theorem okRi (js:Nat→J) (ms:Nat→Ms) (sh:Nat→Shp) (sk:Nat→Skp) (n m c d:Nat):∀ p S,qZ [([0,1,1,1,0,0,1,0,0,1,0,1,1,1],sumF (fun t:Int × Shp=>(hRi js ms sh sk n m c d t.1 t.2 0)) (fun σ=>(slI σ 4,bkS σ 5)) (fun t K=>(bif (decide (t.2.np≤50)) then (bif (allN (fun k:Nat=>zOk 4194304 (t.2.pts k)) t.2.np 0) then (K (.exit 2) ⟨[(1,.p 1 0),(4,.v (.n .i64 t.1))],[(1,.blk [.v (.lf n (fJ js)),.v (.lf m (fM ms)),.v (.lf c (fS sh)),.v (.lf d (fK sk))])]⟩) else (K .ret ⟨[(1,.p 1 0),(2,.v (.n .i64 805)),(4,.v (.n .i64 t.1))],[(1,.blk [.v (.lf n (fJ js)),.v (.lf m (fM ms)),.v (.lf c (fS sh)),.v (.lf d (fK sk))])]⟩)) else none)))] p=some S→qQH 100 (cxS Tf (orRo js ms sh sk n m c d) 100 56 (ntmF Tf 56)) (qQ Tf 56 p) S:=fun p S hp=>by
 refine zG (L:=qQ Tf 56) (l:=[([0,1,1,1,0,0,1,0,0,1,0,1,1,1],sumF (fun t:Int × Shp=>(hRi js ms sh sk n m c d t.1 t.2 0)) (fun σ=>(slI σ 4,bkS σ 5)) (fun t K=>(bif (decide (t.2.np≤50)) then (bif (allN (fun k:Nat=>zOk 4194304 (t.2.pts k)) t.2.np 0) then (K (.exit 2) ⟨[(1,.p 1 0),(4,.v (.n .i64 t.1))],[(1,.blk [.v (.lf n (fJ js)),.v (.lf m (fM ms)),.v (.lf c (fS sh)),.v (.lf d (fK sk))])]⟩) else (K .ret ⟨[(1,.p 1 0),(2,.v (.n .i64 805)),(4,.v (.n .i64 t.1))],[(1,.blk [.v (.lf n (fJ js)),.v (.lf m (fM ms)),.v (.lf c (fS sh)),.v (.lf d (fK sk))])]⟩)) else none)))]) ⟨?_,trivial⟩ p S hp;dsimp only;refine kZ (T:=Tf) (o:=(orRo js ms sh sk n m c d)) (f:=56) (LO:=qZ []) (p:=[0,1,1,1,0,0,1,0,0,1,0,1,1,1]) kW ?_;intro t K r hr;obtain ⟨hg,hr⟩:=qY hr
 skip
 exact (lpRi K js ms sh sk n m c d t.1 t.2 (vJZ hg)).trans hr
noncomputable def hRo (js:Nat→J) (ms:Nat→Ms) (sh:Nat→Shp) (sk:Nat→Skp) (n m c d:Nat) (i:Int):St:=⟨[(1,.p 1 0),(4,.v (.n .i64 i))],[(1,.blk [.v (.lf n (fJ js)),.v (.lf m (fM ms)),.v (.lf c (fS sh)),.v (.lf d (fK sk))])]⟩
set_option maxRecDepth 100000 in
theorem rdRo (G:St→Option (Ret × Mem)) (K:Cont) (js:Nat→J) (ms:Nat→Ms) (sh:Nat→Shp) (sk:Nat→Skp) (n m c d:Nat) (i:Int):kQ 100 (cxS Tf (orRo js ms sh sk n m c d) 100 56 (ntmF Tf 56)) (evX Tf (orRo js ms sh sk n m c d) 100 56 (ntmF Tf 56)) (qZ [([0,1,1,1,0,0,1,0,0,1,0,1,1,1],sumF (fun t:Int × Shp=>(hRi js ms sh sk n m c d t.1 t.2 0)) (fun σ=>(slI σ 4,bkS σ 5)) (fun t K=>(bif (decide (t.2.np≤50)) then (bif (allN (fun k:Nat=>zOk 4194304 (t.2.pts k)) t.2.np 0) then (K (.exit 2) ⟨[(1,.p 1 0),(4,.v (.n .i64 t.1))],[(1,.blk [.v (.lf n (fJ js)),.v (.lf m (fM ms)),.v (.lf c (fS sh)),.v (.lf d (fK sk))])]⟩) else (K .ret ⟨[(1,.p 1 0),(2,.v (.n .i64 805)),(4,.v (.n .i64 t.1))],[(1,.blk [.v (.lf n (fJ js)),.v (.lf m (fM ms)),.v (.lf c (fS sh)),.v (.lf d (fK sk))])]⟩)) else none)))]) (qQ Tf 56 [0,1,0,1,1,1]) [0,1,0,1,1,1] (Tf.hint 56 (qJ (qQ Tf 56 [0,1,0,1,1,1]))) K G (hRo js ms sh sk n m c d i) =
 (bif (decide (i < (c:Int))) then (bif (inB i c) then (bif (gF1 cir eir (js,ms,n,m,(sh (i).toNat).link)) then (bif (isLk n ((sh (i).toNat).link)) then (bif (gF1 cbt ebt (((sh (i).toNat).rad),1,1048576)) then (bif (decide (1≤((sh (i).toNat).rad)) && decide (((sh (i).toNat).rad)≤1048576)) then (bif (decide (((sh (i).toNat).np:Int) < 1)) then (K .ret ⟨[(1,.p 1 0),(2,.v (.n .i64 902))],[(1,.blk [.v (.lf n (fJ js)),.v (.lf m (fM ms)),.v (.lf c (fS sh)),.v (.lf d (fK sk))])]⟩)
 else (bif (decide (8 < ((sh (i).toNat).np:Int))) then (K .ret ⟨[(1,.p 1 0),(2,.v (.n .i64 902))],[(1,.blk [.v (.lf n (fJ js)),.v (.lf m (fM ms)),.v (.lf c (fS sh)),.v (.lf d (fK sk))])]⟩)
 else (bif (gSt (hRi js ms sh sk n m c d i (sh (i).toNat) 0) (hRi js ms sh sk n m c d i (sh (i).toNat) 0)) then (bif (decide ((sh (i).toNat).np≤50)) then (bif (allN (fun k:Nat=>zOk 4194304 ((sh (i).toNat).pts k)) (sh (i).toNat).np 0) then (G (hRo js ms sh sk n m c d (vJJ .i64 (i + 1))))
 else (K .ret ⟨[(1,.p 1 0),(2,.v (.n .i64 805))],[(1,.blk [.v (.lf n (fJ js)),.v (.lf m (fM ms)),.v (.lf c (fS sh)),.v (.lf d (fK sk))])]⟩))
 else none)
 else none)))
 else (K .ret ⟨[(1,.p 1 0),(2,.v (.n .i64 902))],[(1,.blk [.v (.lf n (fJ js)),.v (.lf m (fM ms)),.v (.lf c (fS sh)),.v (.lf d (fK sk))])]⟩))
 else none)
 else (K .ret ⟨[(1,.p 1 0),(2,.v (.n .i64 902))],[(1,.blk [.v (.lf n (fJ js)),.v (.lf m (fM ms)),.v (.lf c (fS sh)),.v (.lf d (fK sk))])]⟩))
 else none)
 else none)
 else (K (.exit 0) ⟨[(1,.p 1 0)],[(1,.blk [.v (.lf n (fJ js)),.v (.lf m (fM ms)),.v (.lf c (fS sh)),.v (.lf d (fK sk))])]⟩)):=by kernel_rfl
theorem nle (a b:Int):decide (a≤b) = !decide (b < a):=by by_cases h:b < a <;> simp [h] <;> omega
theorem lpRo (K:Cont) (js:Nat→J) (ms:Nat→Ms) (sh:Nat→Shp) (sk:Nat→Skp) (n m c d:Nat) (_:c≤50):LFX 100 (cxS Tf (orRo js ms sh sk n m c d) 100 56 (ntmF Tf 56)) (evX Tf (orRo js ms sh sk n m c d) 100 56 (ntmF Tf 56)) (qZ [([0,1,1,1,0,0,1,0,0,1,0,1,1,1],sumF (fun t:Int × Shp=>(hRi js ms sh sk n m c d t.1 t.2 0)) (fun σ=>(slI σ 4,bkS σ 5)) (fun t K=>(bif (decide (t.2.np≤50)) then (bif (allN (fun k:Nat=>zOk 4194304 (t.2.pts k)) t.2.np 0) then (K (.exit 2) ⟨[(1,.p 1 0),(4,.v (.n .i64 t.1))],[(1,.blk [.v (.lf n (fJ js)),.v (.lf m (fM ms)),.v (.lf c (fS sh)),.v (.lf d (fK sk))])]⟩) else (K .ret ⟨[(1,.p 1 0),(2,.v (.n .i64 805)),(4,.v (.n .i64 t.1))],[(1,.blk [.v (.lf n (fJ js)),.v (.lf m (fM ms)),.v (.lf c (fS sh)),.v (.lf d (fK sk))])]⟩)) else none)))]) (qQ Tf 56 [0,1,0,1,1,1]) [0,1,0,1,1,1] (Tf.hint 56 (qJ (qQ Tf 56 [0,1,0,1,1,1]))) K 100 (hRo js ms sh sk n m c d 0)=bif shG sh n c then (K (.exit 0) ⟨[(1,.p 1 0)],[(1,.blk [.v (.lf n (fJ js)),.v (.lf m (fM ms)),.v (.lf c (fS sh)),.v (.lf d (fK sk))])]⟩) else (K .ret ⟨[(1,.p 1 0),(2,.v (.n .i64 (shE n (sh (Rx.firstK (fun i:Nat=>decide (shE n (sh i)=0)) c 0)))))],[(1,.blk [.v (.lf n (fJ js)),.v (.lf m (fM ms)),.v (.lf c (fS sh)),.v (.lf d (fK sk))])]⟩):=by
 refine (uH (L:=LFX 100 (cxS Tf (orRo js ms sh sk n m c d) 100 56 (ntmF Tf 56)) (evX Tf (orRo js ms sh sk n m c d) 100 56 (ntmF Tf 56)) (qZ [([0,1,1,1,0,0,1,0,0,1,0,1,1,1],sumF (fun t:Int × Shp=>(hRi js ms sh sk n m c d t.1 t.2 0)) (fun σ=>(slI σ 4,bkS σ 5)) (fun t K=>(bif (decide (t.2.np≤50)) then (bif (allN (fun k:Nat=>zOk 4194304 (t.2.pts k)) t.2.np 0) then (K (.exit 2) ⟨[(1,.p 1 0),(4,.v (.n .i64 t.1))],[(1,.blk [.v (.lf n (fJ js)),.v (.lf m (fM ms)),.v (.lf c (fS sh)),.v (.lf d (fK sk))])]⟩) else (K .ret ⟨[(1,.p 1 0),(2,.v (.n .i64 805)),(4,.v (.n .i64 t.1))],[(1,.blk [.v (.lf n (fJ js)),.v (.lf m (fM ms)),.v (.lf c (fS sh)),.v (.lf d (fK sk))])]⟩)) else none)))]) (qQ Tf 56 [0,1,0,1,1,1]) [0,1,0,1,1,1] (Tf.hint 56 (qJ (qQ Tf 56 [0,1,0,1,1,1]))) K) (stp:=kQ 100 (cxS Tf (orRo js ms sh sk n m c d) 100 56 (ntmF Tf 56)) (evX Tf (orRo js ms sh sk n m c d) 100 56 (ntmF Tf 56)) (qZ [([0,1,1,1,0,0,1,0,0,1,0,1,1,1],sumF (fun t:Int × Shp=>(hRi js ms sh sk n m c d t.1 t.2 0)) (fun σ=>(slI σ 4,bkS σ 5)) (fun t K=>(bif (decide (t.2.np≤50)) then (bif (allN (fun k:Nat=>zOk 4194304 (t.2.pts k)) t.2.np 0) then (K (.exit 2) ⟨[(1,.p 1 0),(4,.v (.n .i64 t.1))],[(1,.blk [.v (.lf n (fJ js)),.v (.lf m (fM ms)),.v (.lf c (fS sh)),.v (.lf d (fK sk))])]⟩) else (K .ret ⟨[(1,.p 1 0),(2,.v (.n .i64 805)),(4,.v (.n .i64 t.1))],[(1,.blk [.v (.lf n (fJ js)),.v (.lf m (fM ms)),.v (.lf c (fS sh)),.v (.lf d (fK sk))])]⟩)) else none)))]) (qQ Tf 56 [0,1,0,1,1,1]) [0,1,0,1,1,1] (Tf.hint 56 (qJ (qQ Tf 56 [0,1,0,1,1,1]))) K) (fun _ _=>rfl) (fun (i:Nat) (_:Unit)=>hRo js ms sh sk n m c d (i:Int)) (fun _ _=>True) (fun (i:Nat) _=>decide (shE n (sh i)=0)) (fun _ _=>()) (c:=c) (fun _=>(K (.exit 0) ⟨[(1,.p 1 0)],[(1,.blk [.v (.lf n (fJ js)),.v (.lf m (fM ms)),.v (.lf c (fS sh)),.v (.lf d (fK sk))])]⟩)) (fun i _=>(K .ret ⟨[(1,.p 1 0),(2,.v (.n .i64 (shE n (sh i))))],[(1,.blk [.v (.lf n (fJ js)),.v (.lf m (fM ms)),.v (.lf c (fS sh)),.v (.lf d (fK sk))])]⟩)) (fun G i f hi _ => ?_) (fun _ _ _ _ _=>trivial) (fun G f _ => ?_) c 0 100 () (by omega) (by omega) trivial).trans ((jV _ _ _ _ _).trans (qQL _ _ _ _ _))
 ·refine (rdRo G K js ms sh sk n m c d i).trans ?_;rw [vJQ (show (i:Int) < (c:Int) by omega),yV (show i < c by omega),toN,uJ (by omega),kV (C:=cir) (t:=(js,ms,n,m,(sh i).link)) trivial,kV (C:=cbt) (t:=((sh i).rad,1,1048576)) trivial,yU,nle 1,nle _ 1048576];unfold shE yUB;by_cases h:8 < ((sh i).np:Int)
  ·rw [vJQ h];cases isLk n (sh i).link <;> cases decide ((sh i).rad < 1) <;> cases decide (1048576 < (sh i).rad) <;> cases decide (((sh i).np:Int) < 1) <;> rfl
  ·rw [vYH h,vJQ (show (sh i).np≤50 by omega)];cases isLk n (sh i).link <;> cases decide ((sh i).rad < 1) <;> cases decide (1048576 < (sh i).rad) <;> cases decide (((sh i).np:Int) < 1) <;> cases allN (fun k:Nat=>zOk 4194304 ((sh i).pts k)) (sh i).np 0 <;> rfl
 ·refine (rdRo G K js ms sh sk n m c d (c:Int)).trans ?_;rw [vYH (show ¬ (c:Int) < (c:Int) by omega)];rfl
noncomputable def hRs (js:Nat→J) (ms:Nat→Ms) (sh:Nat→Shp) (sk:Nat→Skp) (n m c d:Nat) (i:Int):St:=⟨[(1,.p 1 0),(7,.v (.n .i64 i))],[(1,.blk [.v (.lf n (fJ js)),.v (.lf m (fM ms)),.v (.lf c (fS sh)),.v (.lf d (fK sk))])]⟩
set_option maxRecDepth 100000 in
theorem rdRs (G:St→Option (Ret × Mem)) (K:Cont) (js:Nat→J) (ms:Nat→Ms) (sh:Nat→Shp) (sk:Nat→Skp) (n m c d:Nat) (i:Int):kQ 100 (cxS Tf (orRo js ms sh sk n m c d) 100 56 (ntmF Tf 56)) (evX Tf (orRo js ms sh sk n m c d) 100 56 (ntmF Tf 56)) (qZ []) (qQ Tf 56 [0,1,0,1,1,1,1,1]) [0,1,0,1,1,1,1,1] (Tf.hint 56 (qJ (qQ Tf 56 [0,1,0,1,1,1,1,1]))) K G (hRs js ms sh sk n m c d i) =
 (bif (decide (i < (d:Int))) then (bif (inB i d) then (bif (gF1 cir eir (js,ms,n,m,(sk (i).toNat).a)) then (bif (isLk n ((sk (i).toNat).a)) then (bif (inB i d) then (bif (gF1 cir eir (js,ms,n,m,(sk (i).toNat).b)) then (bif (isLk n ((sk (i).toNat).b)) then (G (hRs js ms sh sk n m c d (vJJ .i64 (i + 1))))
 else (K .ret ⟨[(2,.v (.n .i64 903))],[]⟩))
 else none)
 else none)
 else (K .ret ⟨[(2,.v (.n .i64 903))],[]⟩))
 else none)
 else none)
 else (K (.exit 4) ⟨[],[]⟩)):=by kernel_rfl
theorem lpRs (K:Cont) (js:Nat→J) (ms:Nat→Ms) (sh:Nat→Shp) (sk:Nat→Skp) (n m c d:Nat) (_:d≤70):LFX 100 (cxS Tf (orRo js ms sh sk n m c d) 100 56 (ntmF Tf 56)) (evX Tf (orRo js ms sh sk n m c d) 100 56 (ntmF Tf 56)) (qZ []) (qQ Tf 56 [0,1,0,1,1,1,1,1]) [0,1,0,1,1,1,1,1] (Tf.hint 56 (qJ (qQ Tf 56 [0,1,0,1,1,1,1,1]))) K 100 (hRs js ms sh sk n m c d 0)=bif (allN (fun i:Nat=>isLk n (sk i).a && isLk n (sk i).b) d 0) then (K (.exit 4) ⟨[],[]⟩) else (K .ret ⟨[(2,.v (.n .i64 903))],[]⟩):=by
 refine (uH (L:=LFX 100 (cxS Tf (orRo js ms sh sk n m c d) 100 56 (ntmF Tf 56)) (evX Tf (orRo js ms sh sk n m c d) 100 56 (ntmF Tf 56)) (qZ []) (qQ Tf 56 [0,1,0,1,1,1,1,1]) [0,1,0,1,1,1,1,1] (Tf.hint 56 (qJ (qQ Tf 56 [0,1,0,1,1,1,1,1]))) K) (stp:=kQ 100 (cxS Tf (orRo js ms sh sk n m c d) 100 56 (ntmF Tf 56)) (evX Tf (orRo js ms sh sk n m c d) 100 56 (ntmF Tf 56)) (qZ []) (qQ Tf 56 [0,1,0,1,1,1,1,1]) [0,1,0,1,1,1,1,1] (Tf.hint 56 (qJ (qQ Tf 56 [0,1,0,1,1,1,1,1]))) K) (fun _ _=>rfl) (fun (i:Nat) (_:Unit)=>hRs js ms sh sk n m c d (i:Int)) (fun _ _=>True) (fun (i:Nat) _=>isLk n (sk i).a && isLk n (sk i).b) (fun _ _=>()) (c:=d) (fun _=>(K (.exit 4) ⟨[],[]⟩)) (fun i _=>(K .ret ⟨[(2,.v (.n .i64 903))],[]⟩)) (fun G i f hi _ => ?_) (fun _ _ _ _ _=>trivial) (fun G f _ => ?_) d 0 100 () (by omega) (by omega) trivial).trans ((jV _ _ _ _ _).trans (jK _ _ _ _ _))
 ·refine (rdRs G K js ms sh sk n m c d i).trans ?_;rw [vJQ (show (i:Int) < (d:Int) by omega),uJ (by omega),yV (show i < d by omega),toN,kV (C:=cir) (t:=(js,ms,n,m,(sk i).a)) trivial,kV (C:=cir) (t:=(js,ms,n,m,(sk i).b)) trivial];cases isLk n (sk i).a <;> cases isLk n (sk i).b <;> rfl
 ·refine (rdRs G K js ms sh sk n m c d d).trans ?_;rw [vYH (show ¬ (d:Int) < (d:Int) by omega)];rfl
noncomputable def kKV (js:Nat→J) (ms:Nat→Ms) (sh:Nat→Shp) (sk:Nat→Skp) (n m c d:Nat):List (List Nat × jG):=[([0,1,0,1,1,1],sumF (fun _:Unit=>(hRo js ms sh sk n m c d 0)) (fun _=>()) (fun _ K=>(bif (decide (c≤50)) then (bif shG sh n c then (K (.exit 0) ⟨[(1,.p 1 0)],[(1,.blk [.v (.lf n (fJ js)),.v (.lf m (fM ms)),.v (.lf c (fS sh)),.v (.lf d (fK sk))])]⟩) else (K .ret ⟨[(1,.p 1 0),(2,.v (.n .i64 (shE n (sh (Rx.firstK (fun i:Nat=>decide (shE n (sh i)=0)) c 0)))))],[(1,.blk [.v (.lf n (fJ js)),.v (.lf m (fM ms)),.v (.lf c (fS sh)),.v (.lf d (fK sk))])]⟩)) else none))),([0,1,0,1,1,1,1,1],sumF (fun _:Unit=>(hRs js ms sh sk n m c d 0)) (fun _=>()) (fun _ K=>(bif (decide (d≤70)) then (bif (allN (fun i:Nat=>isLk n (sk i).a && isLk n (sk i).b) d 0) then (K (.exit 4) ⟨[],[]⟩) else (K .ret ⟨[(2,.v (.n .i64 903))],[]⟩)) else none)))]
set_option maxRecDepth 100000 in
theorem xXA (js:Nat→J) (ms:Nat→Ms) (sh:Nat→Shp) (sk:Nat→Skp) (n m c d:Nat):qYU Tf (orRo js ms sh sk n m c d) (qZ (kKV js ms sh sk n m c d)) 100 56 [.a [.lf n (fJ js),.lf m (fM ms),.lf c (fS sh),.lf d (fK sk)]] =
 (bif (g1 [.a [.lf n (fJ js),.lf m (fM ms)]]) then (bif (!decide ((rErr js ms n m)=0)) then some (.v (.n .i64 (rErr js ms n m)),[])
 else (bif (decide (24 < (c:Int))) then some (.v (.n .i64 901),[])
 else (bif (gSt (hRo js ms sh sk n m c d 0) (hRo js ms sh sk n m c d 0)) then (bif (decide (c≤50)) then (bif (shG sh n c) then (bif (decide (64 < (d:Int))) then some (.v (.n .i64 903),[])
 else (bif (gSt (hRs js ms sh sk n m c d 0) (hRs js ms sh sk n m c d 0)) then (bif (decide (d≤70)) then (bif (allN (fun i:Nat=>isLk n (sk i).a && isLk n (sk i).b) d 0) then some (.v (.n .i64 0),[])
 else some (.v (.n .i64 903),[]))
 else none)
 else none))
 else some (.v (.n .i64 (shE n (sh (Rx.firstK (fun i:Nat=>decide (shE n (sh i)=0)) c 0)))),[]))
 else none)
 else none)))
 else none):=by kernel_rfl
theorem kHI (js:Nat→J) (ms:Nat→Ms) (sh:Nat→Shp) (sk:Nat→Skp) (n m c d:Nat):yK Tryz.prog 56 [.a [.lf n (fJ js),.lf m (fM ms),.lf c (fS sh),.lf d (fK sk)]] (.v (.n .i64 (sErr js ms sh sk n m c d))):=by
 refine yQ (N:=100) (LO:=qZ (kKV js ms sh sk n m c d)) kX zW (uK (l:=[(65,o_cr [.a [.lf n (fJ js),.lf m (fM ms)]] (.v (.n .i64 (rErr js ms n m)))),(104,o_ir),(105,o_bt),(57,o_nr)]) (m:=[]) ⟨qWU (zVL js ms n m),xGG,xGF,uHB,trivial⟩ trivial) (fun p S hp => ?_) ?_
 ·refine zG (L:=qQ Tf 56) (l:=(kKV js ms sh sk n m c d)) (show AllP _ (kKV js ms sh sk n m c d) from ⟨?_,?_,trivial⟩) p S hp
  ·dsimp only;refine kZ (T:=Tf) (o:=(orRo js ms sh sk n m c d)) (f:=56) (LO:=(qZ [([0,1,1,1,0,0,1,0,0,1,0,1,1,1],sumF (fun t:Int × Shp=>(hRi js ms sh sk n m c d t.1 t.2 0)) (fun σ=>(slI σ 4,bkS σ 5)) (fun t K=>(bif (decide (t.2.np≤50)) then (bif (allN (fun k:Nat=>zOk 4194304 (t.2.pts k)) t.2.np 0) then (K (.exit 2) ⟨[(1,.p 1 0),(4,.v (.n .i64 t.1))],[(1,.blk [.v (.lf n (fJ js)),.v (.lf m (fM ms)),.v (.lf c (fS sh)),.v (.lf d (fK sk))])]⟩) else (K .ret ⟨[(1,.p 1 0),(2,.v (.n .i64 805)),(4,.v (.n .i64 t.1))],[(1,.blk [.v (.lf n (fJ js)),.v (.lf m (fM ms)),.v (.lf c (fS sh)),.v (.lf d (fK sk))])]⟩)) else none)))])) (p:=[0,1,0,1,1,1]) (okRi js ms sh sk n m c d) ?_;intro t K r hr;obtain ⟨hg,hr⟩:=qY hr
   skip
   exact (lpRo K js ms sh sk n m c d (vJZ hg)).trans hr
  ·dsimp only;refine kZ (T:=Tf) (o:=(orRo js ms sh sk n m c d)) (f:=56) (LO:=qZ []) (p:=[0,1,0,1,1,1,1,1]) kW ?_;intro t K r hr;obtain ⟨hg,hr⟩:=qY hr;have hd:=vJZ hg;exact (lpRs K js ms sh sk n m c d hd).trans hr
 ·refine (xXA js ms sh sk n m c d).trans ?_;unfold sErr skG;rw [g1_t];by_cases h:rErr js ms n m=0
  ·rw [vJQ h];by_cases hc:24 < (c:Int)
   ·rw [vJQ hc]; rfl
   rw [vYH hc,yU,vJQ (show c≤50 by omega)];cases shG sh n c with
   | false=>rfl
   | true =>
    by_cases hd:64 < (d:Int)
    ·rw [vJQ hd]; rfl
    rw [vYH hd,yU,vJQ (show d≤70 by omega)];cases allN (fun i:Nat=>isLk n (sk i).a && isLk n (sk i).b) d 0 <;> rfl
  ·rw [vYH h]; rfl
end Go.Proofs.YtgmbkkkbfbocnaaGreat.Gc
namespace Go.Proofs.YtgmbkkkbfbocnaaGreat.Gd
open Go.Rx Rt Go.Sx Go.RowKit Od Na Nb Nc Nx Nf Ga Gb Gc
noncomputable def qXE:List PV→Option (Bool × Ret):=fun ps=>match ps with
 | [.a z']=>(z3D z').bind fun z=>some (true,.v (.a (v3C (V3.of z))))
 | _=>none
theorem zKL:zJ Tryz.prog 36 qXE:=by
 intro ps r h;unfold qXE at h;split at h
 ·simp only [vQQ,vQZ,vQY] at h;obtain ⟨z,hz,hg,rfl⟩:=h;rw [yVW hz];exact qX (qW Tryz.func36 (by kernel_rfl) (by kernel_rfl)) rfl rfl (fun w=>kVI _ _ _ w)
 ·cases h
noncomputable def L6:OrL:=(36,qXE) :: L5
theorem uWX:AllP (fun x:Nat × (List PV→Option (Bool × Ret))=>zJ Tryz.prog x.1 x.2) L6:=⟨zKL,xUQ⟩
noncomputable def zGL:List PV→Option (Bool × Ret):=fun ps=>match ps with
 | [.a p',.a v']=>(poD p').bind fun p=>(v3D v').bind fun v=>some (true,.v (.a (v3C (Po.app p v))))
 | _=>none
theorem jXX:zJ Tryz.prog 35 zGL:=by
 intro ps r h;unfold zGL at h;split at h
 ·simp only [vQQ,vQZ,vQY] at h;obtain ⟨p,hp,v,hv,hg,rfl⟩:=h;rw [zWX hp];rw [qWH hv];exact qX (qW Tryz.func35 (by kernel_rfl) (by kernel_rfl)) rfl rfl (fun w=>uGW _ _ _ _ _ _ _ _ _ _ _ _ _ _ _ _ _ _ _ _ _ _ _ _ _ _ _ _ _ _ w)
 ·cases h
noncomputable def L7:OrL:=(35,zGL) :: L6
theorem jHB:AllP (fun x:Nat × (List PV→Option (Bool × Ret))=>zJ Tryz.prog x.1 x.2) L7:=⟨jXX,uWX⟩
noncomputable def qJA:List PV→Option (Bool × Ret):=fun ps=>match ps with
 | []=>some (true,.v (.a (poC (Po.rest))))
 | _=>none
theorem qWE:zJ Tryz.prog 88 qJA:=by
 intro ps r h;unfold qJA at h;split at h
 ·simp only [vQZ,vQY] at h;obtain ⟨hg,rfl⟩:=h;exact qX (qW Tryz.func88 (by kernel_rfl) (by kernel_rfl)) rfl rfl (fun w=>yZI  w)
 ·cases h
noncomputable def L8:OrL:=(88,qJA) :: L7
theorem uWU:AllP (fun x:Nat × (List PV→Option (Bool × Ret))=>zJ Tryz.prog x.1 x.2) L8:=⟨qWE,jHB⟩
noncomputable def qGX:List PV→Option (Bool × Ret):=fun ps=>match ps with
 | []=>some (true,.v (.a (poC (Po.rest))))
 | _=>none
theorem zGA:zJ Tryz.prog 90 qGX:=by
 intro ps r h;unfold qGX at h;split at h
 ·simp only [vQZ,vQY] at h;obtain ⟨hg,rfl⟩:=h;exact qX (qW Tryz.func90 (by kernel_rfl) (by kernel_rfl)) rfl rfl (fun w=>uGX  w)
 ·cases h
noncomputable def L9:OrL:=(90,qGX) :: L8
theorem xKL:AllP (fun x:Nat × (List PV→Option (Bool × Ret))=>zJ Tryz.prog x.1 x.2) L9:=⟨zGA,uWU⟩
def fV (g:Nat→V3):Nat→List PV:=fun v=>Rx.v3C (g v)
theorem jKW {s:Shp} (h:shOk s=true):1≤s.np∧s.np≤8:=by
 unfold shOk at h;simp only [vQJ,Bool.not_eq_true',Bool.or_eq_false_iff,decide_eq_false_iff_not] at h;omega
end Go.Proofs.YtgmbkkkbfbocnaaGreat.Gd
namespace Go.Proofs.YtgmbkkkbfbocnaaGreat.Ge
open Go.Rx Rt Go.Sx Go.RowKit Od Na Nb Nc Nx Nf Ga Gb Gc Gd
theorem xZV {js:Nat→J} {ms:Nat→Ms} {bx:Nat→Iv} {n m k:Nat} (h:(decide (rErr js ms n m=0) && isB bx n k)=true):rErr js ms n m=0∧k=n∧allV bx n=true:=by
 unfold isB at h;simp only [vQJ,decide_eq_true_eq] at h;obtain ⟨h1,h2,h3⟩:=h;have e:k=n:=by omega
 exact ⟨h1,e,e ▸ h3⟩
theorem fQF {js:Nat→J} {ms:Nat→Ms} {bx:Nat→Iv} {n m k:Nat} (h:(decide (rErr js ms n m=0) && isB bx n k)=true):yK Tryz.prog 86 [.a [.lf n (fJ js),.lf m (fM ms)],.lf k (fB bx)] (.v (.lf n (fP (LP js bx n)))):=by
 obtain ⟨h1,rfl,h3⟩:=xZV h;exact uVZ js ms bx k m (by have:=zKH h1; omega) (yVL h1)
theorem xUE {js:Nat→J} {ms:Nat→Ms} {bx:Nat→Iv} {n m k:Nat} (h:(decide (rErr js ms n m=0) && isB bx n k)=true):yK Tryz.prog 22 [.a [.lf n (fJ js),.lf m (fM ms)],.lf k (fB bx)] (.v (.lf n (fP (LP js bx n)))):=by
 obtain ⟨h1,rfl,h3⟩:=xZV h;exact kVA js ms bx k m h1 h3
end Go.Proofs.YtgmbkkkbfbocnaaGreat.Ge
namespace Go.Proofs.YtgmbkkkbfbocnaaGreat.Gf
open Go.Rx Rt Go.Sx Go.RowKit Od Na Nb Nc Nx Nf Ga Gb Gc Gd Ge
noncomputable def hsp (q:Nat→Po) (n:Nat) (i:Int):St:=⟨[(0,.v (.lf n (fP q))),(1,.v (.lf n (fP q))),(5,.v (.n .i64 i))],[]⟩
def fVV (g:Nat→Nat) (x:Nat→Nat→V3):Nat→List PV:=fun v=>[.lf (g v) (fV (x v))]
noncomputable def hsl (g:Nat→Nat) (x:Nat→Nat→V3) (c:Nat) (i:Int):St:=⟨[(0,.v (.lf c (fVV g x))),(1,.v (.lf c (fVV g x))),(5,.v (.n .i64 i))],[]⟩
end Go.Proofs.YtgmbkkkbfbocnaaGreat.Gf
namespace Go.Proofs.YtgmbkkkbfbocnaaGreat.Gg
open Go.Rx Rt Go.Sx Go.RowKit Od Na Nb Nc Nx Nf Ga Gb Gc Gd Ge Gf
noncomputable def xVX (js:Nat→J) (ms:Nat→Ms) (bx:Nat→Iv) (n m k:Nat):OrS:=orS [(84,o_lk [.a [.lf n (fJ js),.lf m (fM ms)],.lf k (fB bx)] (decide (k≤9223372036854775807)) (.v (.b (isB bx n k)))),(85,o_cr [.a [.lf n (fJ js),.lf m (fM ms)]] (.v (.n .i64 (rErr js ms n m)))),(86,o_lk [.a [.lf n (fJ js),.lf m (fM ms)],.lf k (fB bx)] (decide (rErr js ms n m=0) && isB bx n k) (.v (.lf n (fP (LP js bx n)))))] []
noncomputable def kKL (_:Nat→J) (_:Nat→Ms) (_:Nat→Iv) (n m k:Nat):List (List Nat × jG):=[]
set_option maxRecDepth 100000 in
theorem xWY (js:Nat→J) (ms:Nat→Ms) (bx:Nat→Iv) (n m k:Nat):qYU Tf (xVX js ms bx n m k) (qZ (kKL js ms bx n m k)) 60 38 [.a [.lf n (fJ js),.lf m (fM ms)],.lf k (fB bx)] =
 (bif (g1 [.a [.lf n (fJ js),.lf m (fM ms)],.lf k (fB bx)] && decide (k≤9223372036854775807)) then (bif (isB bx n k) then (bif (g1 [.a [.lf n (fJ js),.lf m (fM ms)]]) then (bif (!decide ((rErr js ms n m)=0)) then some (.v (.l []),[])
 else (bif (g1 [.a [.lf n (fJ js),.lf m (fM ms)],.lf k (fB bx)] && (decide (rErr js ms n m=0) && isB bx n k)) then some (.v (.lf n (fP (LP js bx n))),[])
 else none))
 else none)
 else some (.v (.l []),[]))
 else none):=by kernel_rfl
theorem uQH (js:Nat→J) (ms:Nat→Ms) (bx:Nat→Iv) (n m k:Nat) (hk:k≤9223372036854775807):yK Tryz.prog 38 [.a [.lf n (fJ js),.lf m (fM ms)],.lf k (fB bx)] (.v (bif (decide (rErr js ms n m=0) && isB bx n k) then .lf n (fP (LP js bx n)) else .l [])):=by
 refine yQ (N:=60) (LO:=qZ (kKL js ms bx n m k)) kX zW (uK (l:=[(84,o_lk [.a [.lf n (fJ js),.lf m (fM ms)],.lf k (fB bx)] (decide (k≤9223372036854775807)) (.v (.b (isB bx n k)))),(85,o_cr [.a [.lf n (fJ js),.lf m (fM ms)]] (.v (.n .i64 (rErr js ms n m)))),(86,o_lk [.a [.lf n (fJ js),.lf m (fM ms)],.lf k (fB bx)] (decide (rErr js ms n m=0) && isB bx n k) (.v (.lf n (fP (LP js bx n)))))]) (m:=[]) ⟨yXW (fun h=>uQD js ms bx n m k (vJZ h)),qWU (yUQ js ms n m),yXW (fun h=>fQF h),trivial⟩ trivial) (fun p S hp => ?_) ?_
 ·refine zG (L:=qQ Tf 38) (l:=(kKL js ms bx n m k)) (show AllP _ (kKL js ms bx n m k) from trivial) p S hp
 ·refine (xWY js ms bx n m k).trans ?_;rw [g1_t,vJQ hk];cases hb:isB bx n k with
  | false=>rw [Bool.and_false]; rfl
  | true =>
   rw [g1_t];by_cases h:rErr js ms n m=0
   ·simp only [vJQ h,g1_t,vZJ,vYV,Bool.not_true,vYG]
   ·rw [vYH h]; rfl
theorem uQA (js:Nat→J) (ms:Nat→Ms) (bx:Nat→Iv) (n m k:Nat) (hk:k≤9223372036854775807):yK Tryz.prog 38 [.a [.lf n (fJ js),.lf m (fM ms)],.lf k (fB bx)] (.v (.lf (bif (decide (rErr js ms n m=0) && isB bx n k) then n else 0) (fP (LP js bx n)))):=by
 have h0:=uQH js ms bx n m k hk;cases h:(decide (rErr js ms n m=0) && isB bx n k) with
 | true=>rw [h] at h0; exact h0
 | false=>rw [h] at h0; exact qJZ (Same.lf rfl) h0
noncomputable def xVZ (js:Nat→J) (ms:Nat→Ms) (bx:Nat→Iv) (n m k:Nat):OrS:=orS [(65,o_cr [.a [.lf n (fJ js),.lf m (fM ms)]] (.v (.n .i64 (rErr js ms n m)))),(66,o_lk [.a [.lf n (fJ js),.lf m (fM ms)],.lf k (fB bx)] (decide (n≤50)) (.v (.b (isB bx n k))))] []
noncomputable def kKX:List (List Nat × jG):=[([0,1,0,1,1,1],fun _ _=>none)]
set_option maxRecDepth 100000 in
theorem xXG (js:Nat→J) (ms:Nat→Ms) (bx:Nat→Iv) (n m k:Nat):qYU Tf (xVZ js ms bx n m k) (qZ kKX) 60 22 [.a [.lf n (fJ js),.lf m (fM ms)],.lf k (fB bx)] =
 (bif (g1 [.a [.lf n (fJ js),.lf m (fM ms)]]) then (bif (!decide ((rErr js ms n m)=0)) then some (.v (.l []),[])
 else (bif (g1 [.a [.lf n (fJ js),.lf m (fM ms)],.lf k (fB bx)] && decide (n≤50)) then (bif (isB bx n k) then none
 else some (.v (.l []),[]))
 else none))
 else none):=by kernel_rfl
theorem jJI (js:Nat→J) (ms:Nat→Ms) (bx:Nat→Iv) (n m k:Nat):yK Tryz.prog 22 [.a [.lf n (fJ js),.lf m (fM ms)],.lf k (fB bx)] (.v (.lf (bif (decide (rErr js ms n m=0) && isB bx n k) then n else 0) (fP (LP js bx n)))):=by
 cases h:(decide (rErr js ms n m=0) && isB bx n k) with
 | true=>exact xUE h
 | false =>
  refine qJZ (x:=.l []) (Same.lf rfl) ?_;refine yQ (N:=60) (LO:=qZ kKX) kX zW (uK (l:=[(65,o_cr [.a [.lf n (fJ js),.lf m (fM ms)]] (.v (.n .i64 (rErr js ms n m)))),(66,o_lk [.a [.lf n (fJ js),.lf m (fM ms)],.lf k (fB bx)] (decide (n≤50)) (.v (.b (isB bx n k))))]) (m:=[]) ⟨qWU (zVL js ms n m),yXW (fun h=>jKQ js ms bx n m k (vJZ h)),trivial⟩ trivial) (fun p S hp => ?_) ?_
  ·refine zG (L:=qQ Tf 22) (l:=kKX) (show AllP _ kKX from ⟨?_,trivial⟩) p S hp;intro K K' K0 σ r hK hs;cases hs
  ·refine (xXG js ms bx n m k).trans ?_;rw [g1_t];by_cases h1:rErr js ms n m=0
   ·have hn:=zKH h1;rw [vJQ h1,vZH] at h;rw [vJQ h1,g1_t,vJQ (show n≤50 by omega),h];rfl
   ·rw [vYH h1]; rfl
end Go.Proofs.YtgmbkkkbfbocnaaGreat.Gg
namespace Go.Proofs.YtgmbkkkbfbocnaaGreat.Ha
open Go.Rx Rt Go.Sx Go.RowKit Od Na Nb Nc Nx Nf Ga Gb Gc Gd Ge Gf Gg
structure ObT where
 name:ByteArray
 ns:Nat
 shs:Nat→Shp
structure Hnd where
 link:Int
 off:Z3
structure Grp where
 hand:Int
 place:Int
 na:Nat
 cf:Nat→Int
structure Wsp where
 js:Nat→J
 ms:Nat→Ms
 sh:Nat→Shp
 sk:Nat→Skp
 n:Nat
 m:Nat
 c:Nat
 d:Nat
 ob:Nat→ObT
 pl:Nat→Z3
 hd:Nat→Hnd
 gr:Nat→Grp
 no:Nat
 np:Nat
 nh:Nat
 ng:Nat
 slack:Int
def oP (o:ObT):List PV:=[.s o.name,.lf o.ns (fS o.shs)]
def fO (ob:Nat→ObT):Nat→List PV:=fun v=>oP (ob v)
def hP (h:Hnd):List PV:=[.n .i64 h.link,.n .i64 h.off.x,.n .i64 h.off.y,.n .i64 h.off.z]
def fH (hd:Nat→Hnd):Nat→List PV:=fun v=>hP (hd v)
def gPv (g:Grp):List PV:=[.n .i64 g.hand,.n .i64 g.place,.lf g.na (fQ g.cf)]
def fG (gr:Nat→Grp):Nat→List PV:=fun v=>gPv (gr v)
def wP (ws:Wsp):List PV:=[.lf ws.n (fJ ws.js),.lf ws.m (fM ws.ms),.lf ws.c (fS ws.sh),.lf ws.d (fK ws.sk),.lf ws.no (fO ws.ob),.lf ws.np (fZ ws.pl),.lf ws.nh (fH ws.hd),.lf ws.ng (fG ws.gr),.n .i64 ws.slack]
def unO (r:List PV):ObT:=match r with
 | [.s a,.lf k f]=>⟨a,k,unFS f⟩
 | _=>⟨ByteArray.empty,0,fun _=>⟨0,0,0,fun _=>⟨0,0,0⟩⟩⟩
def unH (r:List PV):Hnd:=match r with
 | [.n _ a,.n _ x,.n _ y,.n _ z]=>⟨a,⟨x,y,z⟩⟩
 | _=>⟨0,⟨0,0,0⟩⟩
def unG (r:List PV):Grp:=match r with
 | [.n _ a,.n _ b,.lf k f]=>⟨a,b,k,unFQ f⟩
 | _=>⟨0,0,0,fun _=>0⟩
def unW (r:List PV):Wsp:=match r with
 | [.lf n js,.lf m ms,.lf c sh,.lf d sk,.lf no ob,.lf np pl,.lf nh hd,.lf ng gr,.n _ s]=>⟨unFJ js,unFM ms,unFS sh,unFK sk,n,m,c,d,fun v=>unO (ob v),unFZ pl,fun v=>unH (hd v),fun v=>unG (gr v),no,np,nh,ng,s⟩
 | _=>⟨fun _=>⟨ByteArray.empty,0,0,⟨0,0,0⟩,0,0,0,0,0,0⟩,fun _=>⟨0,0,⟨0,0,0⟩⟩,fun _=>⟨0,0,0,fun _=>⟨0,0,0⟩⟩,fun _=>⟨0,0⟩,0,0,0,0,fun _=>⟨ByteArray.empty,0,fun _=>⟨0,0,0,fun _=>⟨0,0,0⟩⟩⟩,fun _=>⟨0,0,0⟩,fun _=>⟨0,⟨0,0,0⟩⟩,fun _=>⟨0,0,0,fun _=>0⟩,0,0,0,0,0⟩
theorem mmz (x:Int):decide (min (max x (-2097152)) 2097152=x)=(!decide (x < -2097152) && !decide (2097152 < x)):=by
 by_cases h1:x < -2097152
 ·rw [vJQ h1,vYH (show ¬ min (max x (-2097152)) 2097152=x by omega)]; rfl
 ·rw [vYH h1];by_cases h2:2097152 < x
  ·rw [vJQ h2,vYH (show ¬ min (max x (-2097152)) 2097152=x by omega)]; rfl
  ·rw [vYH h2,vJQ (show min (max x (-2097152)) 2097152=x by omega)]; rfl
noncomputable def xVJ (_:Z3):OrS:=orS [] []
noncomputable def kKD (_:Z3):List (List Nat × jG):=[]
set_option maxRecDepth 100000 in
theorem xXI (z:Z3):qYU Tf (xVJ z) (qZ (kKD z)) 60 99 [.a [.n .i64 z.x,.n .i64 z.y,.n .i64 z.z]] =
 (bif ((decide ((min (max z.x (-2097152)) 2097152)=z.x)) && ((decide ((min (max z.y (-2097152)) 2097152)=z.y)) && ((decide ((min (max z.z (-2097152)) 2097152)=z.z)) && true))) then some (.v (.b true),[])
 else some (.v (.b false),[])):=by kernel_rfl
theorem uQU (z:Z3):yK Tryz.prog 99 [.a [.n .i64 z.x,.n .i64 z.y,.n .i64 z.z]] (.v (.b (zOk 2097152 z))):=by
 refine yQ (N:=60) (LO:=qZ (kKD z)) kX zW (uK (l:=[]) (m:=[]) trivial trivial) (fun p S hp => ?_) ?_
 ·refine zG (L:=qQ Tf 99) (l:=(kKD z)) (show AllP _ (kKD z) from trivial) p S hp
 ·refine (xXI z).trans ?_;have e:((decide ((min (max z.x (-2097152)) 2097152)=z.x)) && ((decide ((min (max z.y (-2097152)) 2097152)=z.y)) && ((decide ((min (max z.z (-2097152)) 2097152)=z.z)) && true)))=zOk 2097152 z:=by
   unfold zOk;simp only [mmz,Bool.and_true]
  rw [e];cases zOk 2097152 z <;> rfl
def cne:Z3→Prop:=fun t=>match t with | _=>True
def ene:Z3→List PV:=fun t=>match t with | z=>[.a (zP z)]
noncomputable def rne:Z3→Ret:=fun t=>match t with | z=>.v (.b (zOk 2097152 z))
def dne:List PV→Z3:=fun ps=>match ps with
 | [.a r]=>unZ r
 | _=>⟨0,0,0⟩
noncomputable def o_ne:List PV→Option (Bool × Ret):=o_fm dne cne ene rne
theorem uHI:zJ Tryz.prog 99 o_ne:=qYX fun t h=>by
 revert h; revert t; intro z h
 exact uQU z
noncomputable def ornq (_:Z3):OrS:=orS [] []
noncomputable def lsnq (_:Z3):List (List Nat × jG):=[]
set_option maxRecDepth 100000 in
theorem pxnq (z:Z3):qYU Tf (ornq z) (qZ (lsnq z)) 60 57 [.a [.n .i64 z.x,.n .i64 z.y,.n .i64 z.z],.n .i64 2097152] =
 (bif (decide (z.x < (-2097152))) then some (.v (.b false),[])
 else (bif (decide (2097152 < z.x)) then some (.v (.b false),[])
 else (bif (decide (z.y < (-2097152))) then some (.v (.b false),[])
 else (bif (decide (2097152 < z.y)) then some (.v (.b false),[])
 else (bif (decide (z.z < (-2097152))) then some (.v (.b false),[])
 else (bif (decide (2097152 < z.z)) then some (.v (.b false),[])
 else some (.v (.b true),[]))))))):=by kernel_rfl
theorem uVQ (z:Z3):yK Tryz.prog 57 [.a [.n .i64 z.x,.n .i64 z.y,.n .i64 z.z],.n .i64 2097152] (.v (.b (zOk 2097152 z))):=by
 refine yQ (N:=60) (LO:=qZ (lsnq z)) kX zW (uK (l:=[]) (m:=[]) trivial trivial) (fun p S hp => ?_) ?_
 ·refine zG (L:=qQ Tf 57) (l:=(lsnq z)) (show AllP _ (lsnq z) from trivial) p S hp
 ·refine (pxnq z).trans ?_;unfold zOk;cases decide (z.x < -2097152) <;> cases decide (2097152 < z.x) <;> cases decide (z.y < -2097152) <;> cases decide (2097152 < z.y) <;> cases decide (z.z < -2097152) <;> cases decide (2097152 < z.z) <;> rfl
def cnq:Z3→Prop:=fun t=>match t with | _=>True
def enq:Z3→List PV:=fun t=>match t with | z=>[.a (zP z),.n .i64 2097152]
noncomputable def rnq:Z3→Ret:=fun t=>match t with | z=>.v (.b (zOk 2097152 z))
def dnq:List PV→Z3:=fun ps=>match ps with
 | [.a r,.n _ _]=>(unZ r)
 | _=>⟨0,0,0⟩
noncomputable def o_nq:List PV→Option (Bool × Ret):=o_fm dnq cnq enq rnq
theorem uHC:zJ Tryz.prog 57 o_nq:=qYX fun t h=>by
 revert h; revert t; intro z h
 exact uVQ z
def sOk (s:Shp):Bool:=shOk s && (decide (s.link=0) && allN (fun k:Nat=>zOk 2097152 (s.pts k)) s.np 0)
def soOk (o:ObT):Bool:=allN (fun i:Nat=>sOk (o.shs i)) o.ns 0 && decide (0 < (o.ns:Int))
def slS (σ:St) (k:Nat):Shp:=match qQD σ.S k with
 | some (.v (.lf n f))=>⟨0,0,n,unFZ f⟩
 | _=>⟨0,0,0,fun _=>⟨0,0,0⟩⟩
noncomputable def orSo (o:ObT):OrS:=orS [(103,o_pk),(99,o_ne)] []
noncomputable def hSi (o:ObT) (i:Int) (s:Shp) (k:Int):St:=⟨[(1,.p 1 0),(8,.v (.lf o.ns (fS o.shs))),(9,.v (.n .i64 (o.ns:Int))),(10,.v (.n .i64 i)),(23,.v (.lf s.np (fZ s.pts))),(24,.v (.n .i64 (s.np:Int))),(25,.v (.n .i64 k))],[(1,.blk [.v (.s o.name),.v (.lf o.ns (fS o.shs))])]⟩
set_option maxRecDepth 100000 in
theorem rdSi (G:St→Option (Ret × Mem)) (K:Cont) (o:ObT) (i:Int) (s:Shp) (k:Int):kQ (o.ns + 100) (cxS Tf (orSo o) (o.ns + 100) 55 (ntmF Tf 55)) (evX Tf (orSo o) (o.ns + 100) 55 (ntmF Tf 55)) (qZ []) (qQ Tf 55 [0,1,1,1,0,0,1,1,0,0,1,0,1]) [0,1,1,1,0,0,1,1,0,0,1,0,1] (Tf.hint 55 (qJ (qQ Tf 55 [0,1,1,1,0,0,1,1,0,0,1,0,1]))) K G (hSi o i s k) =
 (bif (decide (k < (s.np:Int))) then (bif (inB k s.np) then (bif (gF1 cne ene (s.pts (k).toNat)) then (bif (zOk 2097152 (s.pts (k).toNat)) then (G (hSi o i s (vJJ .i64 (k + 1))))
 else (K .ret ⟨[(1,.p 1 0),(2,.v (.b false)),(8,.v (.lf o.ns (fS o.shs))),(9,.v (.n .i64 (o.ns:Int))),(10,.v (.n .i64 i))],[(1,.blk [.v (.s o.name),.v (.lf o.ns (fS o.shs))])]⟩))
 else none)
 else none)
 else (K (.exit 2) ⟨[(1,.p 1 0),(8,.v (.lf o.ns (fS o.shs))),(9,.v (.n .i64 (o.ns:Int))),(10,.v (.n .i64 i))],[(1,.blk [.v (.s o.name),.v (.lf o.ns (fS o.shs))])]⟩)):=by kernel_rfl
theorem lpSi (K:Cont) (o:ObT) (i:Int) (s:Shp) (_:s.np≤50):LFX (o.ns + 100) (cxS Tf (orSo o) (o.ns + 100) 55 (ntmF Tf 55)) (evX Tf (orSo o) (o.ns + 100) 55 (ntmF Tf 55)) (qZ []) (qQ Tf 55 [0,1,1,1,0,0,1,1,0,0,1,0,1]) [0,1,1,1,0,0,1,1,0,0,1,0,1] (Tf.hint 55 (qJ (qQ Tf 55 [0,1,1,1,0,0,1,1,0,0,1,0,1]))) K (o.ns + 100) (hSi o i s 0)=bif (allN (fun k:Nat=>zOk 2097152 (s.pts k)) s.np 0) then (K (.exit 2) ⟨[(1,.p 1 0),(8,.v (.lf o.ns (fS o.shs))),(9,.v (.n .i64 (o.ns:Int))),(10,.v (.n .i64 i))],[(1,.blk [.v (.s o.name),.v (.lf o.ns (fS o.shs))])]⟩) else (K .ret ⟨[(1,.p 1 0),(2,.v (.b false)),(8,.v (.lf o.ns (fS o.shs))),(9,.v (.n .i64 (o.ns:Int))),(10,.v (.n .i64 i))],[(1,.blk [.v (.s o.name),.v (.lf o.ns (fS o.shs))])]⟩):=by
 refine (uH (L:=LFX (o.ns + 100) (cxS Tf (orSo o) (o.ns + 100) 55 (ntmF Tf 55)) (evX Tf (orSo o) (o.ns + 100) 55 (ntmF Tf 55)) (qZ []) (qQ Tf 55 [0,1,1,1,0,0,1,1,0,0,1,0,1]) [0,1,1,1,0,0,1,1,0,0,1,0,1] (Tf.hint 55 (qJ (qQ Tf 55 [0,1,1,1,0,0,1,1,0,0,1,0,1]))) K) (stp:=kQ (o.ns + 100) (cxS Tf (orSo o) (o.ns + 100) 55 (ntmF Tf 55)) (evX Tf (orSo o) (o.ns + 100) 55 (ntmF Tf 55)) (qZ []) (qQ Tf 55 [0,1,1,1,0,0,1,1,0,0,1,0,1]) [0,1,1,1,0,0,1,1,0,0,1,0,1] (Tf.hint 55 (qJ (qQ Tf 55 [0,1,1,1,0,0,1,1,0,0,1,0,1]))) K) (fun _ _=>rfl) (fun (k:Nat) (_:Unit)=>hSi o i s (k:Int)) (fun _ _=>True) (fun (k:Nat) _=>zOk 2097152 (s.pts k)) (fun _ _=>()) (c:=s.np) (fun _=>(K (.exit 2) ⟨[(1,.p 1 0),(8,.v (.lf o.ns (fS o.shs))),(9,.v (.n .i64 (o.ns:Int))),(10,.v (.n .i64 i))],[(1,.blk [.v (.s o.name),.v (.lf o.ns (fS o.shs))])]⟩)) (fun k _=>(K .ret ⟨[(1,.p 1 0),(2,.v (.b false)),(8,.v (.lf o.ns (fS o.shs))),(9,.v (.n .i64 (o.ns:Int))),(10,.v (.n .i64 i))],[(1,.blk [.v (.s o.name),.v (.lf o.ns (fS o.shs))])]⟩)) (fun G k f hi _ => ?_) (fun _ _ _ _ _=>trivial) (fun G f _ => ?_) (s.np) 0 (o.ns + 100) () (by omega) (by omega) trivial).trans ((jV _ _ _ _ _).trans (jK _ _ _ _ _))
 ·refine (rdSi G K o i s k).trans ?_;rw [vJQ (show (k:Int) < (s.np:Int) by omega),uJ (by omega),yV (show k < s.np by omega),toN,kV (C:=cne) (t:=s.pts k) trivial];cases zOk 2097152 (s.pts k) <;> rfl
 ·refine (rdSi G K o i s (s.np:Int)).trans ?_;rw [vYH (show ¬ (s.np:Int) < (s.np:Int) by omega)];rfl
theorem okSi (o:ObT):∀ p S,qZ [([0,1,1,1,0,0,1,1,0,0,1,0,1],sumF (fun t:Int × Shp=>(hSi o t.1 t.2 0)) (fun σ=>(slI σ 10,slS σ 23)) (fun t K=>(bif (decide (t.2.np≤50)) then (bif (allN (fun k:Nat=>zOk 2097152 (t.2.pts k)) t.2.np 0) then (K (.exit 2) ⟨[(1,.p 1 0),(8,.v (.lf o.ns (fS o.shs))),(9,.v (.n .i64 (o.ns:Int))),(10,.v (.n .i64 t.1))],[(1,.blk [.v (.s o.name),.v (.lf o.ns (fS o.shs))])]⟩) else (K .ret ⟨[(1,.p 1 0),(2,.v (.b false)),(8,.v (.lf o.ns (fS o.shs))),(9,.v (.n .i64 (o.ns:Int))),(10,.v (.n .i64 t.1))],[(1,.blk [.v (.s o.name),.v (.lf o.ns (fS o.shs))])]⟩)) else none)))] p=some S→qQH (o.ns + 100) (cxS Tf (orSo o) (o.ns + 100) 55 (ntmF Tf 55)) (qQ Tf 55 p) S:=fun p S hp=>by
 refine zG (L:=qQ Tf 55) (l:=[([0,1,1,1,0,0,1,1,0,0,1,0,1],sumF (fun t:Int × Shp=>(hSi o t.1 t.2 0)) (fun σ=>(slI σ 10,slS σ 23)) (fun t K=>(bif (decide (t.2.np≤50)) then (bif (allN (fun k:Nat=>zOk 2097152 (t.2.pts k)) t.2.np 0) then (K (.exit 2) ⟨[(1,.p 1 0),(8,.v (.lf o.ns (fS o.shs))),(9,.v (.n .i64 (o.ns:Int))),(10,.v (.n .i64 t.1))],[(1,.blk [.v (.s o.name),.v (.lf o.ns (fS o.shs))])]⟩) else (K .ret ⟨[(1,.p 1 0),(2,.v (.b false)),(8,.v (.lf o.ns (fS o.shs))),(9,.v (.n .i64 (o.ns:Int))),(10,.v (.n .i64 t.1))],[(1,.blk [.v (.s o.name),.v (.lf o.ns (fS o.shs))])]⟩)) else none)))]) ⟨?_,trivial⟩ p S hp;dsimp only;refine kZ (T:=Tf) (o:=(orSo o)) (f:=55) (LO:=qZ []) (p:=[0,1,1,1,0,0,1,1,0,0,1,0,1]) kW ?_;intro t K r hr;obtain ⟨hg,hr⟩:=qY hr
 skip
 exact (lpSi K o t.1 t.2 (vJZ hg)).trans hr
noncomputable def hSo (o:ObT) (i:Int):St:=⟨[(1,.p 1 0),(8,.v (.lf o.ns (fS o.shs))),(9,.v (.n .i64 (o.ns:Int))),(10,.v (.n .i64 i))],[(1,.blk [.v (.s o.name),.v (.lf o.ns (fS o.shs))])]⟩
set_option maxRecDepth 100000 in
theorem rdSo (G:St→Option (Ret × Mem)) (K:Cont) (o:ObT) (i:Int):kQ (o.ns + 100) (cxS Tf (orSo o) (o.ns + 100) 55 (ntmF Tf 55)) (evX Tf (orSo o) (o.ns + 100) 55 (ntmF Tf 55)) (qZ [([0,1,1,1,0,0,1,1,0,0,1,0,1],sumF (fun t:Int × Shp=>(hSi o t.1 t.2 0)) (fun σ=>(slI σ 10,slS σ 23)) (fun t K=>(bif (decide (t.2.np≤50)) then (bif (allN (fun k:Nat=>zOk 2097152 (t.2.pts k)) t.2.np 0) then (K (.exit 2) ⟨[(1,.p 1 0),(8,.v (.lf o.ns (fS o.shs))),(9,.v (.n .i64 (o.ns:Int))),(10,.v (.n .i64 t.1))],[(1,.blk [.v (.s o.name),.v (.lf o.ns (fS o.shs))])]⟩) else (K .ret ⟨[(1,.p 1 0),(2,.v (.b false)),(8,.v (.lf o.ns (fS o.shs))),(9,.v (.n .i64 (o.ns:Int))),(10,.v (.n .i64 t.1))],[(1,.blk [.v (.s o.name),.v (.lf o.ns (fS o.shs))])]⟩)) else none)))]) (qQ Tf 55 [0,1,0,1]) [0,1,0,1] (Tf.hint 55 (qJ (qQ Tf 55 [0,1,0,1]))) K G (hSo o i) =
 (bif (decide (i < (o.ns:Int))) then (bif (inB i o.ns) then (bif (gF1 cpk epk (o.shs (i).toNat)) then (bif (shOk (o.shs (i).toNat)) then (bif (!decide ((o.shs (i).toNat).link=0)) then (K .ret ⟨[(1,.p 1 0),(2,.v (.b false))],[(1,.blk [.v (.s o.name),.v (.lf o.ns (fS o.shs))])]⟩)
 else (bif (gSt (hSi o i (o.shs (i).toNat) 0) (hSi o i (o.shs (i).toNat) 0)) then (bif (decide ((o.shs (i).toNat).np≤50)) then (bif (allN (fun k:Nat=>zOk 2097152 ((o.shs (i).toNat).pts k)) (o.shs (i).toNat).np 0) then (G (hSo o (vJJ .i64 (i + 1))))
 else (K .ret ⟨[(1,.p 1 0),(2,.v (.b false))],[(1,.blk [.v (.s o.name),.v (.lf o.ns (fS o.shs))])]⟩))
 else none)
 else none))
 else (K .ret ⟨[(1,.p 1 0),(2,.v (.b false))],[(1,.blk [.v (.s o.name),.v (.lf o.ns (fS o.shs))])]⟩))
 else none)
 else none)
 else (K (.exit 0) ⟨[(1,.p 1 0)],[(1,.blk [.v (.s o.name),.v (.lf o.ns (fS o.shs))])]⟩)):=by kernel_rfl
theorem lpSo (K:Cont) (o:ObT) (_:o.ns≤9223372036854775807):LFX (o.ns + 100) (cxS Tf (orSo o) (o.ns + 100) 55 (ntmF Tf 55)) (evX Tf (orSo o) (o.ns + 100) 55 (ntmF Tf 55)) (qZ [([0,1,1,1,0,0,1,1,0,0,1,0,1],sumF (fun t:Int × Shp=>(hSi o t.1 t.2 0)) (fun σ=>(slI σ 10,slS σ 23)) (fun t K=>(bif (decide (t.2.np≤50)) then (bif (allN (fun k:Nat=>zOk 2097152 (t.2.pts k)) t.2.np 0) then (K (.exit 2) ⟨[(1,.p 1 0),(8,.v (.lf o.ns (fS o.shs))),(9,.v (.n .i64 (o.ns:Int))),(10,.v (.n .i64 t.1))],[(1,.blk [.v (.s o.name),.v (.lf o.ns (fS o.shs))])]⟩) else (K .ret ⟨[(1,.p 1 0),(2,.v (.b false)),(8,.v (.lf o.ns (fS o.shs))),(9,.v (.n .i64 (o.ns:Int))),(10,.v (.n .i64 t.1))],[(1,.blk [.v (.s o.name),.v (.lf o.ns (fS o.shs))])]⟩)) else none)))]) (qQ Tf 55 [0,1,0,1]) [0,1,0,1] (Tf.hint 55 (qJ (qQ Tf 55 [0,1,0,1]))) K (o.ns + 100) (hSo o 0)=bif (allN (fun i:Nat=>sOk (o.shs i)) o.ns 0) then (K (.exit 0) ⟨[(1,.p 1 0)],[(1,.blk [.v (.s o.name),.v (.lf o.ns (fS o.shs))])]⟩) else (K .ret ⟨[(1,.p 1 0),(2,.v (.b false))],[(1,.blk [.v (.s o.name),.v (.lf o.ns (fS o.shs))])]⟩):=by
 refine (uH (L:=LFX (o.ns + 100) (cxS Tf (orSo o) (o.ns + 100) 55 (ntmF Tf 55)) (evX Tf (orSo o) (o.ns + 100) 55 (ntmF Tf 55)) (qZ [([0,1,1,1,0,0,1,1,0,0,1,0,1],sumF (fun t:Int × Shp=>(hSi o t.1 t.2 0)) (fun σ=>(slI σ 10,slS σ 23)) (fun t K=>(bif (decide (t.2.np≤50)) then (bif (allN (fun k:Nat=>zOk 2097152 (t.2.pts k)) t.2.np 0) then (K (.exit 2) ⟨[(1,.p 1 0),(8,.v (.lf o.ns (fS o.shs))),(9,.v (.n .i64 (o.ns:Int))),(10,.v (.n .i64 t.1))],[(1,.blk [.v (.s o.name),.v (.lf o.ns (fS o.shs))])]⟩) else (K .ret ⟨[(1,.p 1 0),(2,.v (.b false)),(8,.v (.lf o.ns (fS o.shs))),(9,.v (.n .i64 (o.ns:Int))),(10,.v (.n .i64 t.1))],[(1,.blk [.v (.s o.name),.v (.lf o.ns (fS o.shs))])]⟩)) else none)))]) (qQ Tf 55 [0,1,0,1]) [0,1,0,1] (Tf.hint 55 (qJ (qQ Tf 55 [0,1,0,1]))) K) (stp:=kQ (o.ns + 100) (cxS Tf (orSo o) (o.ns + 100) 55 (ntmF Tf 55)) (evX Tf (orSo o) (o.ns + 100) 55 (ntmF Tf 55)) (qZ [([0,1,1,1,0,0,1,1,0,0,1,0,1],sumF (fun t:Int × Shp=>(hSi o t.1 t.2 0)) (fun σ=>(slI σ 10,slS σ 23)) (fun t K=>(bif (decide (t.2.np≤50)) then (bif (allN (fun k:Nat=>zOk 2097152 (t.2.pts k)) t.2.np 0) then (K (.exit 2) ⟨[(1,.p 1 0),(8,.v (.lf o.ns (fS o.shs))),(9,.v (.n .i64 (o.ns:Int))),(10,.v (.n .i64 t.1))],[(1,.blk [.v (.s o.name),.v (.lf o.ns (fS o.shs))])]⟩) else (K .ret ⟨[(1,.p 1 0),(2,.v (.b false)),(8,.v (.lf o.ns (fS o.shs))),(9,.v (.n .i64 (o.ns:Int))),(10,.v (.n .i64 t.1))],[(1,.blk [.v (.s o.name),.v (.lf o.ns (fS o.shs))])]⟩)) else none)))]) (qQ Tf 55 [0,1,0,1]) [0,1,0,1] (Tf.hint 55 (qJ (qQ Tf 55 [0,1,0,1]))) K) (fun _ _=>rfl) (fun (i:Nat) (_:Unit)=>hSo o (i:Int)) (fun _ _=>True) (fun (i:Nat) _=>sOk (o.shs i)) (fun _ _=>()) (c:=o.ns) (fun _=>(K (.exit 0) ⟨[(1,.p 1 0)],[(1,.blk [.v (.s o.name),.v (.lf o.ns (fS o.shs))])]⟩)) (fun i _=>(K .ret ⟨[(1,.p 1 0),(2,.v (.b false))],[(1,.blk [.v (.s o.name),.v (.lf o.ns (fS o.shs))])]⟩)) (fun G i f hi _ => ?_) (fun _ _ _ _ _=>trivial) (fun G f _ => ?_) o.ns 0 (o.ns + 100) () (by omega) (by omega) trivial).trans ((jV _ _ _ _ _).trans (jK _ _ _ _ _))
 ·refine (rdSo G K o i).trans ?_;rw [vJQ (show (i:Int) < (o.ns:Int) by omega),yKH (by omega),yV (show i < o.ns by omega),toN,kV (C:=cpk) (t:=o.shs i) trivial];unfold sOk;cases h:shOk (o.shs i) with
  | false=>rfl
  | true =>
   have hb:=jKW h;by_cases hl:(o.shs i).link=0
   ·rw [vJQ hl,yU,vJQ (show (o.shs i).np≤50 by omega)];cases allN (fun k:Nat=>zOk 2097152 ((o.shs i).pts k)) (o.shs i).np 0 <;> rfl
   ·rw [vYH hl]; rfl
 ·refine (rdSo G K o o.ns).trans ?_;rw [vYH (show ¬ (o.ns:Int) < (o.ns:Int) by omega)];rfl
noncomputable def kKJ (o:ObT):List (List Nat × jG):=[([0,1,0,1],sumF (fun _:Unit=>(hSo o 0)) (fun _=>()) (fun _ K=>(bif (decide (o.ns≤9223372036854775807)) then (bif (allN (fun i:Nat=>sOk (o.shs i)) o.ns 0) then (K (.exit 0) ⟨[(1,.p 1 0)],[(1,.blk [.v (.s o.name),.v (.lf o.ns (fS o.shs))])]⟩) else (K .ret ⟨[(1,.p 1 0),(2,.v (.b false))],[(1,.blk [.v (.s o.name),.v (.lf o.ns (fS o.shs))])]⟩)) else none)))]
set_option maxRecDepth 100000 in
theorem xXU (o:ObT):qYU Tf (orSo o) (qZ (kKJ o)) (o.ns + 100) 55 [.a [.s o.name,.lf o.ns (fS o.shs)]] =
 (bif (gSt (hSo o 0) (hSo o 0)) then (bif (decide (o.ns≤9223372036854775807)) then (bif (allN (fun i:Nat=>sOk (o.shs i)) o.ns 0) then (bif (decide (0 < (o.ns:Int))) then some (.v (.b true),[])
 else some (.v (.b false),[]))
 else some (.v (.b false),[]))
 else none)
 else none):=by kernel_rfl
theorem kHB (o:ObT) (ho:o.ns≤9223372036854775807):yK Tryz.prog 55 [.a [.s o.name,.lf o.ns (fS o.shs)]] (.v (.b (soOk o))):=by
 refine yQ (N:=(o.ns + 100)) (LO:=qZ (kKJ o)) kX zW (uK (l:=[(103,o_pk),(99,o_ne)]) (m:=[]) ⟨xGJ,uHI,trivial⟩ trivial) (fun p S hp => ?_) ?_
 ·refine zG (L:=qQ Tf 55) (l:=(kKJ o)) (show AllP _ (kKJ o) from ⟨?_,trivial⟩) p S hp
  ·dsimp only;refine kZ (T:=Tf) (o:=(orSo o)) (f:=55) (LO:=(qZ [([0,1,1,1,0,0,1,1,0,0,1,0,1],sumF (fun t:Int × Shp=>(hSi o t.1 t.2 0)) (fun σ=>(slI σ 10,slS σ 23)) (fun t K=>(bif (decide (t.2.np≤50)) then (bif (allN (fun k:Nat=>zOk 2097152 (t.2.pts k)) t.2.np 0) then (K (.exit 2) ⟨[(1,.p 1 0),(8,.v (.lf o.ns (fS o.shs))),(9,.v (.n .i64 (o.ns:Int))),(10,.v (.n .i64 t.1))],[(1,.blk [.v (.s o.name),.v (.lf o.ns (fS o.shs))])]⟩) else (K .ret ⟨[(1,.p 1 0),(2,.v (.b false)),(8,.v (.lf o.ns (fS o.shs))),(9,.v (.n .i64 (o.ns:Int))),(10,.v (.n .i64 t.1))],[(1,.blk [.v (.s o.name),.v (.lf o.ns (fS o.shs))])]⟩)) else none)))])) (p:=[0,1,0,1]) (okSi o) ?_;intro t K r hr;obtain ⟨hg,hr⟩:=qY hr;have ho:=vJZ hg;exact (lpSo K o ho).trans hr
 ·refine (xXU o).trans ?_;unfold soOk;rw [yU,vJQ ho];cases allN (fun i:Nat=>sOk (o.shs i)) o.ns 0 <;> cases decide (0 < (o.ns:Int)) <;> rfl
def cso:ObT→Prop:=fun t=>match t with | o=>o.ns≤9223372036854775807
def eso:ObT→List PV:=fun t=>match t with | o=>[.a (oP o)]
noncomputable def rso:ObT→Ret:=fun t=>match t with | o=>.v (.b (soOk o))
def dso:List PV→ObT:=fun ps=>match ps with
 | [.a r]=>unO r
 | _=>⟨ByteArray.empty,0,fun _=>⟨0,0,0,fun _=>⟨0,0,0⟩⟩⟩
noncomputable def o_so:List PV→Option (Bool × Ret):=o_fm dso cso eso rso
theorem xVF:zJ Tryz.prog 55 o_so:=qYX fun t h=>by
 revert h; revert t; intro o h
 exact kHB o h
def obOk (o:ObT):Bool:=nmB o.name && soOk o
noncomputable def orOb (o:ObT):OrS:=orS [(106,o_nm),(107,o_rk),(57,o_nq)] []
noncomputable def hOi (o:ObT) (i:Int) (s:Shp) (k:Int):St:=⟨[(1,.p 1 0),(3,.v (.n .i64 i)),(4,.p 4 0),(5,.v (.n .i64 k))],[(1,.blk [.v (.s o.name),.v (.lf o.ns (fS o.shs))]),(4,.blk [.v (.n .i64 s.link),.v (.n .i64 s.rad),.v (.lf s.np (fZ s.pts))])]⟩
set_option maxRecDepth 100000 in
theorem rdOi (G:St→Option (Ret × Mem)) (K:Cont) (o:ObT) (i:Int) (s:Shp) (k:Int):kQ (o.ns + 100) (cxS Tf (orOb o) (o.ns + 100) 59 (ntmF Tf 59)) (evX Tf (orOb o) (o.ns + 100) 59 (ntmF Tf 59)) (qZ []) (qQ Tf 59 [0,1,1,1,0,0,1,0,0,1,0,1,1]) [0,1,1,1,0,0,1,0,0,1,0,1,1] (Tf.hint 59 (qJ (qQ Tf 59 [0,1,1,1,0,0,1,0,0,1,0,1,1]))) K G (hOi o i s k) =
 (bif (decide (k < (s.np:Int))) then (bif (inB k s.np) then (bif (gF1 cnq enq (s.pts (k).toNat)) then (bif (zOk 2097152 (s.pts (k).toNat)) then (G (hOi o i s (vJJ .i64 (k + 1))))
 else (K .ret ⟨[(1,.p 1 0),(2,.v (.b false)),(3,.v (.n .i64 i))],[(1,.blk [.v (.s o.name),.v (.lf o.ns (fS o.shs))])]⟩))
 else none)
 else none)
 else (K (.exit 2) ⟨[(1,.p 1 0),(3,.v (.n .i64 i))],[(1,.blk [.v (.s o.name),.v (.lf o.ns (fS o.shs))])]⟩)):=by kernel_rfl
theorem lpOi (K:Cont) (o:ObT) (i:Int) (s:Shp) (_:s.np≤50):LFX (o.ns + 100) (cxS Tf (orOb o) (o.ns + 100) 59 (ntmF Tf 59)) (evX Tf (orOb o) (o.ns + 100) 59 (ntmF Tf 59)) (qZ []) (qQ Tf 59 [0,1,1,1,0,0,1,0,0,1,0,1,1]) [0,1,1,1,0,0,1,0,0,1,0,1,1] (Tf.hint 59 (qJ (qQ Tf 59 [0,1,1,1,0,0,1,0,0,1,0,1,1]))) K (o.ns + 100) (hOi o i s 0)=bif (allN (fun k:Nat=>zOk 2097152 (s.pts k)) s.np 0) then (K (.exit 2) ⟨[(1,.p 1 0),(3,.v (.n .i64 i))],[(1,.blk [.v (.s o.name),.v (.lf o.ns (fS o.shs))])]⟩) else (K .ret ⟨[(1,.p 1 0),(2,.v (.b false)),(3,.v (.n .i64 i))],[(1,.blk [.v (.s o.name),.v (.lf o.ns (fS o.shs))])]⟩):=by
 refine (uH (L:=LFX (o.ns + 100) (cxS Tf (orOb o) (o.ns + 100) 59 (ntmF Tf 59)) (evX Tf (orOb o) (o.ns + 100) 59 (ntmF Tf 59)) (qZ []) (qQ Tf 59 [0,1,1,1,0,0,1,0,0,1,0,1,1]) [0,1,1,1,0,0,1,0,0,1,0,1,1] (Tf.hint 59 (qJ (qQ Tf 59 [0,1,1,1,0,0,1,0,0,1,0,1,1]))) K) (stp:=kQ (o.ns + 100) (cxS Tf (orOb o) (o.ns + 100) 59 (ntmF Tf 59)) (evX Tf (orOb o) (o.ns + 100) 59 (ntmF Tf 59)) (qZ []) (qQ Tf 59 [0,1,1,1,0,0,1,0,0,1,0,1,1]) [0,1,1,1,0,0,1,0,0,1,0,1,1] (Tf.hint 59 (qJ (qQ Tf 59 [0,1,1,1,0,0,1,0,0,1,0,1,1]))) K) (fun _ _=>rfl) (fun (k:Nat) (_:Unit)=>hOi o i s (k:Int)) (fun _ _=>True) (fun (k:Nat) _=>zOk 2097152 (s.pts k)) (fun _ _=>()) (c:=s.np) (fun _=>(K (.exit 2) ⟨[(1,.p 1 0),(3,.v (.n .i64 i))],[(1,.blk [.v (.s o.name),.v (.lf o.ns (fS o.shs))])]⟩)) (fun k _=>(K .ret ⟨[(1,.p 1 0),(2,.v (.b false)),(3,.v (.n .i64 i))],[(1,.blk [.v (.s o.name),.v (.lf o.ns (fS o.shs))])]⟩)) (fun G k f hi _ => ?_) (fun _ _ _ _ _=>trivial) (fun G f _ => ?_) (s.np) 0 (o.ns + 100) () (by omega) (by omega) trivial).trans ((jV _ _ _ _ _).trans (jK _ _ _ _ _))
 ·refine (rdOi G K o i s k).trans ?_;rw [vJQ (show (k:Int) < (s.np:Int) by omega),uJ (by omega),yV (show k < s.np by omega),toN,kV (C:=cnq) (t:=s.pts k) trivial];cases zOk 2097152 (s.pts k) <;> rfl
 ·refine (rdOi G K o i s (s.np:Int)).trans ?_;rw [vYH (show ¬ (s.np:Int) < (s.np:Int) by omega)];rfl
theorem okOi (o:ObT):∀ p S,qZ [([0,1,1,1,0,0,1,0,0,1,0,1,1],sumF (fun t:Int × Shp=>(hOi o t.1 t.2 0)) (fun σ=>(slI σ 3,bkS σ 4)) (fun t K=>(bif (decide (t.2.np≤50)) then (bif (allN (fun k:Nat=>zOk 2097152 (t.2.pts k)) t.2.np 0) then (K (.exit 2) ⟨[(1,.p 1 0),(3,.v (.n .i64 t.1))],[(1,.blk [.v (.s o.name),.v (.lf o.ns (fS o.shs))])]⟩) else (K .ret ⟨[(1,.p 1 0),(2,.v (.b false)),(3,.v (.n .i64 t.1))],[(1,.blk [.v (.s o.name),.v (.lf o.ns (fS o.shs))])]⟩)) else none)))] p=some S→qQH (o.ns + 100) (cxS Tf (orOb o) (o.ns + 100) 59 (ntmF Tf 59)) (qQ Tf 59 p) S:=fun p S hp=>by
 refine zG (L:=qQ Tf 59) (l:=[([0,1,1,1,0,0,1,0,0,1,0,1,1],sumF (fun t:Int × Shp=>(hOi o t.1 t.2 0)) (fun σ=>(slI σ 3,bkS σ 4)) (fun t K=>(bif (decide (t.2.np≤50)) then (bif (allN (fun k:Nat=>zOk 2097152 (t.2.pts k)) t.2.np 0) then (K (.exit 2) ⟨[(1,.p 1 0),(3,.v (.n .i64 t.1))],[(1,.blk [.v (.s o.name),.v (.lf o.ns (fS o.shs))])]⟩) else (K .ret ⟨[(1,.p 1 0),(2,.v (.b false)),(3,.v (.n .i64 t.1))],[(1,.blk [.v (.s o.name),.v (.lf o.ns (fS o.shs))])]⟩)) else none)))]) ⟨?_,trivial⟩ p S hp;dsimp only;refine kZ (T:=Tf) (o:=(orOb o)) (f:=59) (LO:=qZ []) (p:=[0,1,1,1,0,0,1,0,0,1,0,1,1]) kW ?_;intro t K r hr;obtain ⟨hg,hr⟩:=qY hr
 skip
 exact (lpOi K o t.1 t.2 (vJZ hg)).trans hr
noncomputable def hOb (o:ObT) (i:Int):St:=⟨[(1,.p 1 0),(3,.v (.n .i64 i))],[(1,.blk [.v (.s o.name),.v (.lf o.ns (fS o.shs))])]⟩
set_option maxRecDepth 100000 in
theorem rdOb (G:St→Option (Ret × Mem)) (K:Cont) (o:ObT) (i:Int):kQ (o.ns + 100) (cxS Tf (orOb o) (o.ns + 100) 59 (ntmF Tf 59)) (evX Tf (orOb o) (o.ns + 100) 59 (ntmF Tf 59)) (qZ [([0,1,1,1,0,0,1,0,0,1,0,1,1],sumF (fun t:Int × Shp=>(hOi o t.1 t.2 0)) (fun σ=>(slI σ 3,bkS σ 4)) (fun t K=>(bif (decide (t.2.np≤50)) then (bif (allN (fun k:Nat=>zOk 2097152 (t.2.pts k)) t.2.np 0) then (K (.exit 2) ⟨[(1,.p 1 0),(3,.v (.n .i64 t.1))],[(1,.blk [.v (.s o.name),.v (.lf o.ns (fS o.shs))])]⟩) else (K .ret ⟨[(1,.p 1 0),(2,.v (.b false)),(3,.v (.n .i64 t.1))],[(1,.blk [.v (.s o.name),.v (.lf o.ns (fS o.shs))])]⟩)) else none)))]) (qQ Tf 59 [0,1,0,1,1]) [0,1,0,1,1] (Tf.hint 59 (qJ (qQ Tf 59 [0,1,0,1,1]))) K G (hOb o i) =
 (bif (decide (i < (o.ns:Int))) then (bif (inB i o.ns) then (bif (gF1 crk erk (o.shs (i).toNat)) then (bif (shOk (o.shs (i).toNat)) then (bif (!decide ((o.shs (i).toNat).link=0)) then (K .ret ⟨[(2,.v (.b false))],[]⟩)
 else (bif (gSt (hOi o i (o.shs (i).toNat) 0) (hOi o i (o.shs (i).toNat) 0)) then (bif (decide ((o.shs (i).toNat).np≤50)) then (bif (allN (fun k:Nat=>zOk 2097152 ((o.shs (i).toNat).pts k)) (o.shs (i).toNat).np 0) then (G (hOb o (vJJ .i64 (i + 1))))
 else (K .ret ⟨[(2,.v (.b false))],[]⟩))
 else none)
 else none))
 else (K .ret ⟨[(2,.v (.b false))],[]⟩))
 else none)
 else none)
 else (K (.exit 0) ⟨[],[]⟩)):=by kernel_rfl
theorem lpOb (K:Cont) (o:ObT) (_:o.ns≤9223372036854775807):LFX (o.ns + 100) (cxS Tf (orOb o) (o.ns + 100) 59 (ntmF Tf 59)) (evX Tf (orOb o) (o.ns + 100) 59 (ntmF Tf 59)) (qZ [([0,1,1,1,0,0,1,0,0,1,0,1,1],sumF (fun t:Int × Shp=>(hOi o t.1 t.2 0)) (fun σ=>(slI σ 3,bkS σ 4)) (fun t K=>(bif (decide (t.2.np≤50)) then (bif (allN (fun k:Nat=>zOk 2097152 (t.2.pts k)) t.2.np 0) then (K (.exit 2) ⟨[(1,.p 1 0),(3,.v (.n .i64 t.1))],[(1,.blk [.v (.s o.name),.v (.lf o.ns (fS o.shs))])]⟩) else (K .ret ⟨[(1,.p 1 0),(2,.v (.b false)),(3,.v (.n .i64 t.1))],[(1,.blk [.v (.s o.name),.v (.lf o.ns (fS o.shs))])]⟩)) else none)))]) (qQ Tf 59 [0,1,0,1,1]) [0,1,0,1,1] (Tf.hint 59 (qJ (qQ Tf 59 [0,1,0,1,1]))) K (o.ns + 100) (hOb o 0)=bif (allN (fun i:Nat=>sOk (o.shs i)) o.ns 0) then (K (.exit 0) ⟨[],[]⟩) else (K .ret ⟨[(2,.v (.b false))],[]⟩):=by
 refine (uH (L:=LFX (o.ns + 100) (cxS Tf (orOb o) (o.ns + 100) 59 (ntmF Tf 59)) (evX Tf (orOb o) (o.ns + 100) 59 (ntmF Tf 59)) (qZ [([0,1,1,1,0,0,1,0,0,1,0,1,1],sumF (fun t:Int × Shp=>(hOi o t.1 t.2 0)) (fun σ=>(slI σ 3,bkS σ 4)) (fun t K=>(bif (decide (t.2.np≤50)) then (bif (allN (fun k:Nat=>zOk 2097152 (t.2.pts k)) t.2.np 0) then (K (.exit 2) ⟨[(1,.p 1 0),(3,.v (.n .i64 t.1))],[(1,.blk [.v (.s o.name),.v (.lf o.ns (fS o.shs))])]⟩) else (K .ret ⟨[(1,.p 1 0),(2,.v (.b false)),(3,.v (.n .i64 t.1))],[(1,.blk [.v (.s o.name),.v (.lf o.ns (fS o.shs))])]⟩)) else none)))]) (qQ Tf 59 [0,1,0,1,1]) [0,1,0,1,1] (Tf.hint 59 (qJ (qQ Tf 59 [0,1,0,1,1]))) K) (stp:=kQ (o.ns + 100) (cxS Tf (orOb o) (o.ns + 100) 59 (ntmF Tf 59)) (evX Tf (orOb o) (o.ns + 100) 59 (ntmF Tf 59)) (qZ [([0,1,1,1,0,0,1,0,0,1,0,1,1],sumF (fun t:Int × Shp=>(hOi o t.1 t.2 0)) (fun σ=>(slI σ 3,bkS σ 4)) (fun t K=>(bif (decide (t.2.np≤50)) then (bif (allN (fun k:Nat=>zOk 2097152 (t.2.pts k)) t.2.np 0) then (K (.exit 2) ⟨[(1,.p 1 0),(3,.v (.n .i64 t.1))],[(1,.blk [.v (.s o.name),.v (.lf o.ns (fS o.shs))])]⟩) else (K .ret ⟨[(1,.p 1 0),(2,.v (.b false)),(3,.v (.n .i64 t.1))],[(1,.blk [.v (.s o.name),.v (.lf o.ns (fS o.shs))])]⟩)) else none)))]) (qQ Tf 59 [0,1,0,1,1]) [0,1,0,1,1] (Tf.hint 59 (qJ (qQ Tf 59 [0,1,0,1,1]))) K) (fun _ _=>rfl) (fun (i:Nat) (_:Unit)=>hOb o (i:Int)) (fun _ _=>True) (fun (i:Nat) _=>sOk (o.shs i)) (fun _ _=>()) (c:=o.ns) (fun _=>(K (.exit 0) ⟨[],[]⟩)) (fun i _=>(K .ret ⟨[(2,.v (.b false))],[]⟩)) (fun G i f hi _ => ?_) (fun _ _ _ _ _=>trivial) (fun G f _ => ?_) o.ns 0 (o.ns + 100) () (by omega) (by omega) trivial).trans ((jV _ _ _ _ _).trans (jK _ _ _ _ _))
 ·refine (rdOb G K o i).trans ?_;rw [vJQ (show (i:Int) < (o.ns:Int) by omega),yKH (by omega),yV (show i < o.ns by omega),toN,kV (C:=crk) (t:=o.shs i) trivial];unfold sOk;cases h:shOk (o.shs i) with
  | false=>rfl
  | true =>
   have hb:=jKW h;by_cases hl:(o.shs i).link=0
   ·rw [vJQ hl,yU,vJQ (show (o.shs i).np≤50 by omega)];cases allN (fun k:Nat=>zOk 2097152 ((o.shs i).pts k)) (o.shs i).np 0 <;> rfl
   ·rw [vYH hl]; rfl
 ·refine (rdOb G K o o.ns).trans ?_;rw [vYH (show ¬ (o.ns:Int) < (o.ns:Int) by omega)];rfl
noncomputable def kKC (o:ObT):List (List Nat × jG):=[([0,1,0,1,1],sumF (fun _:Unit=>(hOb o 0)) (fun _=>()) (fun _ K=>(bif (decide (o.ns≤9223372036854775807)) then (bif (allN (fun i:Nat=>sOk (o.shs i)) o.ns 0) then (K (.exit 0) ⟨[],[]⟩) else (K .ret ⟨[(2,.v (.b false))],[]⟩)) else none)))]
set_option maxRecDepth 100000 in
theorem xXF (o:ObT):qYU Tf (orOb o) (qZ (kKC o)) (o.ns + 100) 59 [.a [.s o.name,.lf o.ns (fS o.shs)]] =
 (bif (nmB o.name) then (bif (decide ((o.ns:Int)=0)) then some (.v (.b false),[])
 else (bif (gSt (hOb o 0) (hOb o 0)) then (bif (decide (o.ns≤9223372036854775807)) then (bif (allN (fun i:Nat=>sOk (o.shs i)) o.ns 0) then some (.v (.b true),[])
 else some (.v (.b false),[]))
 else none)
 else none))
 else some (.v (.b false),[])):=by kernel_rfl
theorem uQK (o:ObT) (ho:o.ns≤9223372036854775807):yK Tryz.prog 59 [.a [.s o.name,.lf o.ns (fS o.shs)]] (.v (.b (obOk o))):=by
 refine yQ (N:=(o.ns + 100)) (LO:=qZ (kKC o)) kX zW (uK (l:=[(106,o_nm),(107,o_rk),(57,o_nq)]) (m:=[]) ⟨ok_rn,xGZ,uHC,trivial⟩ trivial) (fun p S hp => ?_) ?_
 ·refine zG (L:=qQ Tf 59) (l:=(kKC o)) (show AllP _ (kKC o) from ⟨?_,trivial⟩) p S hp
  ·dsimp only;refine kZ (T:=Tf) (o:=(orOb o)) (f:=59) (LO:=(qZ [([0,1,1,1,0,0,1,0,0,1,0,1,1],sumF (fun t:Int × Shp=>(hOi o t.1 t.2 0)) (fun σ=>(slI σ 3,bkS σ 4)) (fun t K=>(bif (decide (t.2.np≤50)) then (bif (allN (fun k:Nat=>zOk 2097152 (t.2.pts k)) t.2.np 0) then (K (.exit 2) ⟨[(1,.p 1 0),(3,.v (.n .i64 t.1))],[(1,.blk [.v (.s o.name),.v (.lf o.ns (fS o.shs))])]⟩) else (K .ret ⟨[(1,.p 1 0),(2,.v (.b false)),(3,.v (.n .i64 t.1))],[(1,.blk [.v (.s o.name),.v (.lf o.ns (fS o.shs))])]⟩)) else none)))])) (p:=[0,1,0,1,1]) (okOi o) ?_;intro t K r hr;obtain ⟨hg,hr⟩:=qY hr;have ho:=vJZ hg;exact (lpOb K o ho).trans hr
 ·refine (xXF o).trans ?_;unfold obOk soOk;cases nmB o.name with
  | false=>rfl
  | true =>
   by_cases h0:(o.ns:Int)=0
   ·rw [vJQ h0,vYH (show ¬ 0 < (o.ns:Int) by omega),Bool.and_false]; rfl
   ·rw [vYH h0,vJQ (show 0 < (o.ns:Int) by omega),yU,vJQ ho];cases allN (fun i:Nat=>sOk (o.shs i)) o.ns 0 <;> rfl
def cob:ObT→Prop:=fun t=>match t with | o=>o.ns≤9223372036854775807
def eob:ObT→List PV:=fun t=>match t with | o=>[.a (oP o)]
noncomputable def rob:ObT→Ret:=fun t=>match t with | o=>.v (.b (obOk o))
def dob:List PV→ObT:=fun ps=>match ps with
 | [.a r]=>unO r
 | _=>⟨ByteArray.empty,0,fun _=>⟨0,0,0,fun _=>⟨0,0,0⟩⟩⟩
noncomputable def o_ob:List PV→Option (Bool × Ret):=o_fm dob cob eob rob
theorem xGK:zJ Tryz.prog 59 o_ob:=qYX fun t h=>by
 revert h; revert t; intro o h
 exact uQK o h
end Go.Proofs.YtgmbkkkbfbocnaaGreat.Ha

/- Part 13 of the texts behind the last one: rules and contracts. No condition. -/
import Derived.Test.YtmeldddgjfocdaaGreatGL12
open Option renaming bind_eq_some_iff → vQQ
open Option.some renaming injEq → vQZ
open Prod.mk renaming injEq → vQY
open Bool renaming and_eq_true → vQJ, and_self → vZJ, true_and → vZH
open Go.IntKind renaming wrap → vJJ
namespace Go.Proofs.YtmeldddgjfocdaaGreat.Gb
open Go.Rx Rt Go.Sx Go.RowKit Od Na Nb Nc Nx Nf Ga
def zUD (s:Shp):Bool:=allN (fun i:Nat=>zOk 4194304 (s.pts i)) s.np 0
def shE (n:Nat) (s:Shp):Int:=bif !isLk n s.link || (decide (s.rad < 1) || (decide (1048576 < s.rad) || (decide ((s.np:Int) < 1) || decide (8 < (s.np:Int))))) then 902 else bif zUD s then 0 else 805
noncomputable def orCs (_:Nat→J) (_:Nat→Ms) (_:Nat→Shp) (_:Nat→Skp) (n m c d:Nat) (s:Shp):OrS:=orS [(110,o_il)] []
noncomputable def hCs (_:Nat→J) (_:Nat→Ms) (_:Nat→Shp) (_:Nat→Skp) (n m c d:Nat) (s:Shp) (i:Int):St:=⟨[(37,.v (.lf s.np (fZ s.pts))),(38,.v (.n .i64 (s.np:Int))),(39,.v (.n .i64 i))],[]⟩
set_option maxRecDepth 100000 in
theorem rdCs (G:St→Option (Ret × Mem)) (K:Cont) (js:Nat→J) (ms:Nat→Ms) (sh:Nat→Shp) (sk:Nat→Skp) (n m c d:Nat) (s:Shp) (i:Int):stpT Tf 109 (orCs js ms sh sk n m c d s) 60 [] [0,1,0,1,1,1] K G (hCs js ms sh sk n m c d s i) =
 (bif (decide (i < (s.np:Int))) then (bif (inB i s.np) then (bif (decide ((s.pts (i).toNat).x < (-4194304))) then (K .ret ⟨[(4,.v (.n .i64 805))],[]⟩)
 else (bif (decide (4194304 < (s.pts (i).toNat).x)) then (K .ret ⟨[(4,.v (.n .i64 805))],[]⟩)
 else (bif (decide ((s.pts (i).toNat).y < (-4194304))) then (K .ret ⟨[(4,.v (.n .i64 805))],[]⟩)
 else (bif (decide (4194304 < (s.pts (i).toNat).y)) then (K .ret ⟨[(4,.v (.n .i64 805))],[]⟩)
 else (bif (decide ((s.pts (i).toNat).z < (-4194304))) then (K .ret ⟨[(4,.v (.n .i64 805))],[]⟩)
 else (bif (decide (4194304 < (s.pts (i).toNat).z)) then (K .ret ⟨[(4,.v (.n .i64 805))],[]⟩)
 else (G (hCs js ms sh sk n m c d s (vJJ .i64 (i + 1))))))))))
 else none)
 else (K (.exit 0) ⟨[],[]⟩)):=by kernel_rfl
theorem lpCs (K:Cont) (js:Nat→J) (ms:Nat→Ms) (sh:Nat→Shp) (sk:Nat→Skp) (n m c d:Nat) (s:Shp) (_:s.np≤50):LFT Tf 109 (orCs js ms sh sk n m c d s) 60 [] [0,1,0,1,1,1] K 60 (hCs js ms sh sk n m c d s 0)=bif (allN (fun i:Nat=>zOk 4194304 (s.pts i)) s.np 0) then (K (.exit 0) ⟨[],[]⟩) else (K .ret ⟨[(4,.v (.n .i64 805))],[]⟩):=by
 refine (kV (L:=LFT Tf 109 (orCs js ms sh sk n m c d s) 60 [] [0,1,0,1,1,1] K) (stp:=stpT Tf 109 (orCs js ms sh sk n m c d s) 60 [] [0,1,0,1,1,1] K) (fun _ _=>rfl) (fun (i:Nat) (_:Unit)=>hCs js ms sh sk n m c d s (i:Int)) (fun _ _=>True) (fun (i:Nat) _=>zOk 4194304 (s.pts i)) (fun _ _=>()) (c:=s.np) (fun _=>(K (.exit 0) ⟨[],[]⟩)) (fun i _=>(K .ret ⟨[(4,.v (.n .i64 805))],[]⟩)) (fun G i f hi _ => ?_) (fun _ _ _ _ _=>trivial) (fun G f _ => ?_) s.np 0 60 () (by omega) (by omega) trivial).trans ((jY _ _ _ _ _).trans (jZ _ _ _ _ _))
 ·refine (rdCs G K js ms sh sk n m c d s i).trans ?_;rw [vJQ (show (i:Int) < (s.np:Int) by omega),kK (by omega),yU (show i < s.np by omega),toN];unfold zOk;cases decide ((s.pts i).x < -4194304) <;> cases decide (4194304 < (s.pts i).x) <;> cases decide ((s.pts i).y < -4194304) <;> cases decide (4194304 < (s.pts i).y) <;> cases decide ((s.pts i).z < -4194304) <;> cases decide (4194304 < (s.pts i).z) <;> rfl
 ·refine (rdCs G K js ms sh sk n m c d s s.np).trans ?_;rw [vYH (show ¬ (s.np:Int) < (s.np:Int) by omega)];rfl
noncomputable def kVE (js:Nat→J) (ms:Nat→Ms) (sh:Nat→Shp) (sk:Nat→Skp) (n m c d:Nat) (s:Shp):List (List Nat × yG):=[([0,1,0,1,1,1],sumF (fun _:Unit=>(hCs js ms sh sk n m c d s 0)) (fun _=>()) (fun _ K=>(bif (decide (s.np≤50)) then (bif (allN (fun i:Nat=>zOk 4194304 (s.pts i)) s.np 0) then (K (.exit 0) ⟨[],[]⟩) else (K .ret ⟨[(4,.v (.n .i64 805))],[]⟩)) else none)))]
set_option maxRecDepth 100000 in
theorem fJE (js:Nat→J) (ms:Nat→Ms) (sh:Nat→Shp) (sk:Nat→Skp) (n m c d:Nat) (s:Shp):qQZ Tf (orCs js ms sh sk n m c d s) (qK (kVE js ms sh sk n m c d s)) 60 109 [.a [.lf n (fJ js),.lf m (fM ms),.lf c (fS sh),.lf d (fK sk)],.a (sP s)] =
 (bif (gF1 cil eil (js,ms,sh,sk,n,m,c,d,s.link)) then (bif (isLk n s.link) then (bif (decide (s.rad < 1)) then some (.v (.n .i64 902),[])
 else (bif (decide (1048576 < s.rad)) then some (.v (.n .i64 902),[])
 else (bif (decide ((s.np:Int) < 1)) then some (.v (.n .i64 902),[])
 else (bif (decide (8 < (s.np:Int))) then some (.v (.n .i64 902),[])
 else (bif (gSt (hCs js ms sh sk n m c d s 0) (hCs js ms sh sk n m c d s 0)) then (bif (decide (s.np≤50)) then (bif (allN (fun i:Nat=>zOk 4194304 (s.pts i)) s.np 0) then some (.v (.n .i64 0),[])
 else some (.v (.n .i64 805),[]))
 else none)
 else none)))))
 else some (.v (.n .i64 902),[]))
 else none):=by kernel_rfl
theorem uUU (js:Nat→J) (ms:Nat→Ms) (sh:Nat→Shp) (sk:Nat→Skp) (n m c d:Nat) (s:Shp):zG Tryz.prog 109 [.a [.lf n (fJ js),.lf m (fM ms),.lf c (fS sh),.lf d (fK sk)],.a (sP s)] (.v (.n .i64 (shE n s))):=by
 refine zK (N:=60) (LO:=qK (kVE js ms sh sk n m c d s)) jV yQ (kQ (l:=[(110,o_il)]) (m:=[]) ⟨xWY,trivial⟩ trivial) (fun p S hp => ?_) ?_
 ·refine zQ (L:=qY Tf 109) (l:=(kVE js ms sh sk n m c d s)) (show AllP _ (kVE js ms sh sk n m c d s) from ⟨?_,trivial⟩) p S hp
  ·dsimp only;refine jK (T:=Tf) (o:=(orCs js ms sh sk n m c d s)) (f:=109) (LO:=qK []) (p:=[0,1,0,1,1,1]) kU ?_;intro t K r hr;obtain ⟨hg,hr⟩:=qQ hr;have hk:=vJZ hg;exact (lpCs K js ms sh sk n m c d s hk).trans hr
 ·refine (fJE js ms sh sk n m c d s).trans ?_;unfold shE zUD;rw [jX (C:=cil) (t:=(js,ms,sh,sk,n,m,c,d,s.link)) trivial,yJ];by_cases h:8 < (s.np:Int)
  ·rw [vJQ h];cases isLk n s.link <;> cases decide (s.rad < 1) <;> cases decide (1048576 < s.rad) <;> cases decide ((s.np:Int) < 1) <;> rfl
  ·rw [vYH h,vJQ (show s.np≤50 by omega)];cases isLk n s.link <;> cases decide (s.rad < 1) <;> cases decide (1048576 < s.rad) <;> cases decide ((s.np:Int) < 1) <;> cases allN (fun i:Nat=>zOk 4194304 (s.pts i)) s.np 0 <;> rfl
def ccs:(Nat→J) × (Nat→Ms) × (Nat→Shp) × (Nat→Skp) × Nat × Nat × Nat × Nat × Shp→Prop:=fun t=>match t with | (_,_,_,_,_,_,_,_,_)=>True
def ecs:(Nat→J) × (Nat→Ms) × (Nat→Shp) × (Nat→Skp) × Nat × Nat × Nat × Nat × Shp→List PV:=fun t=>match t with | (js,ms,sh,sk,n,m,c,d,s)=>[.a [.lf n (fJ js),.lf m (fM ms),.lf c (fS sh),.lf d (fK sk)],.a (sP s)]
noncomputable def rcs:(Nat→J) × (Nat→Ms) × (Nat→Shp) × (Nat→Skp) × Nat × Nat × Nat × Nat × Shp→Ret:=fun t=>match t with | (_,_,_,_,n,_,_,_,s)=>.v (.n .i64 (shE n s))
def dcs:List PV→(Nat→J) × (Nat→Ms) × (Nat→Shp) × (Nat→Skp) × Nat × Nat × Nat × Nat × Shp:=fun ps=>match ps with
 | [.a [.lf n js,.lf m ms,.lf c sh,.lf d sk],.a r]=>(unFJ js,unFM ms,unFS sh,unFK sk,n,m,c,d,unS r)
 | _=>(fun _=>⟨ByteArray.empty,0,0,⟨0,0,0⟩,0,0,0,0,0,0⟩,fun _=>⟨0,0,⟨0,0,0⟩⟩,fun _=>⟨0,0,0,fun _=>⟨0,0,0⟩⟩,fun _=>⟨0,0⟩,0,0,0,0,⟨0,0,0,fun _=>⟨0,0,0⟩⟩)
noncomputable def o_cs:List PV→Option (Bool × Ret):=o_fm dcs ccs ecs rcs
theorem fUB:zZ Tryz.prog 109 o_cs:=qQV fun t h=>by
 obtain ⟨js,ms,sh,sk,n,m,c,d,s⟩:=t;exact uUU js ms sh sk n m c d s
def shOk (s:Shp):Bool:=!(decide (s.rad < 1) || (decide (1048576 < s.rad) || (decide ((s.np:Int) < 1) || decide (8 < (s.np:Int))))) && zUD s
noncomputable def orPc (s:Shp):OrS:=orS [] []
noncomputable def hPc (s:Shp) (i:Int):St:=⟨[(28,.v (.lf s.np (fZ s.pts))),(29,.v (.n .i64 (s.np:Int))),(30,.v (.n .i64 i))],[]⟩
set_option maxRecDepth 100000 in
theorem rdPc (G:St→Option (Ret × Mem)) (K:Cont) (s:Shp) (i:Int):stpT Tf 115 (orPc s) 60 [] [0,1,0,1,1] K G (hPc s i) =
 (bif (decide (i < (s.np:Int))) then (bif (inB i s.np) then (bif (decide ((s.pts (i).toNat).x < (-4194304))) then (K .ret ⟨[(2,.v (.b false))],[]⟩)
 else (bif (decide (4194304 < (s.pts (i).toNat).x)) then (K .ret ⟨[(2,.v (.b false))],[]⟩)
 else (bif (decide ((s.pts (i).toNat).y < (-4194304))) then (K .ret ⟨[(2,.v (.b false))],[]⟩)
 else (bif (decide (4194304 < (s.pts (i).toNat).y)) then (K .ret ⟨[(2,.v (.b false))],[]⟩)
 else (bif (decide ((s.pts (i).toNat).z < (-4194304))) then (K .ret ⟨[(2,.v (.b false))],[]⟩)
 else (bif (decide (4194304 < (s.pts (i).toNat).z)) then (K .ret ⟨[(2,.v (.b false))],[]⟩)
 else (G (hPc s (vJJ .i64 (i + 1))))))))))
 else none)
 else (K (.exit 0) ⟨[],[]⟩)):=by kernel_rfl
theorem lpPc (K:Cont) (s:Shp) (_:s.np≤50):LFT Tf 115 (orPc s) 60 [] [0,1,0,1,1] K 60 (hPc s 0)=bif (allN (fun i:Nat=>zOk 4194304 (s.pts i)) s.np 0) then (K (.exit 0) ⟨[],[]⟩) else (K .ret ⟨[(2,.v (.b false))],[]⟩):=by
 refine (kV (L:=LFT Tf 115 (orPc s) 60 [] [0,1,0,1,1] K) (stp:=stpT Tf 115 (orPc s) 60 [] [0,1,0,1,1] K) (fun _ _=>rfl) (fun (i:Nat) (_:Unit)=>hPc s (i:Int)) (fun _ _=>True) (fun (i:Nat) _=>zOk 4194304 (s.pts i)) (fun _ _=>()) (c:=s.np) (fun _=>(K (.exit 0) ⟨[],[]⟩)) (fun i _=>(K .ret ⟨[(2,.v (.b false))],[]⟩)) (fun G i f hi _ => ?_) (fun _ _ _ _ _=>trivial) (fun G f _ => ?_) s.np 0 60 () (by omega) (by omega) trivial).trans ((jY _ _ _ _ _).trans (jZ _ _ _ _ _))
 ·refine (rdPc G K s i).trans ?_;rw [vJQ (show (i:Int) < (s.np:Int) by omega),kK (by omega),yU (show i < s.np by omega),toN];unfold zOk;cases decide ((s.pts i).x < -4194304) <;> cases decide (4194304 < (s.pts i).x) <;> cases decide ((s.pts i).y < -4194304) <;> cases decide (4194304 < (s.pts i).y) <;> cases decide ((s.pts i).z < -4194304) <;> cases decide (4194304 < (s.pts i).z) <;> rfl
 ·refine (rdPc G K s s.np).trans ?_;rw [vYH (show ¬ (s.np:Int) < (s.np:Int) by omega)];rfl
noncomputable def kWI (s:Shp):List (List Nat × yG):=[([0,1,0,1,1],sumF (fun _:Unit=>(hPc s 0)) (fun _=>()) (fun _ K=>(bif (decide (s.np≤50)) then (bif (allN (fun i:Nat=>zOk 4194304 (s.pts i)) s.np 0) then (K (.exit 0) ⟨[],[]⟩) else (K .ret ⟨[(2,.v (.b false))],[]⟩)) else none)))]
set_option maxRecDepth 100000 in
theorem fYF (s:Shp):qQZ Tf (orPc s) (qK (kWI s)) 60 115 [.a (sP s)] =
 (bif (decide (s.rad < 1)) then some (.v (.b false),[])
 else (bif (decide (1048576 < s.rad)) then some (.v (.b false),[])
 else (bif (decide ((s.np:Int) < 1)) then some (.v (.b false),[])
 else (bif (decide (8 < (s.np:Int))) then some (.v (.b false),[])
 else (bif (gSt (hPc s 0) (hPc s 0)) then (bif (decide (s.np≤50)) then (bif (allN (fun i:Nat=>zOk 4194304 (s.pts i)) s.np 0) then some (.v (.b true),[])
 else some (.v (.b false),[]))
 else none)
 else none))))):=by kernel_rfl
theorem uKJ (s:Shp):zG Tryz.prog 115 [.a (sP s)] (.v (.b (shOk s))):=by
 refine zK (N:=60) (LO:=qK (kWI s)) jV yQ (kQ (l:=[]) (m:=[]) trivial trivial) (fun p S hp => ?_) ?_
 ·refine zQ (L:=qY Tf 115) (l:=(kWI s)) (show AllP _ (kWI s) from ⟨?_,trivial⟩) p S hp
  ·dsimp only;refine jK (T:=Tf) (o:=(orPc s)) (f:=115) (LO:=qK []) (p:=[0,1,0,1,1]) kU ?_;intro t K r hr;obtain ⟨hg,hr⟩:=qQ hr;have hk:=vJZ hg;exact (lpPc K s hk).trans hr
 ·refine (fYF s).trans ?_;unfold shOk zUD;rw [yJ];by_cases h:8 < (s.np:Int)
  ·rw [vJQ h];cases decide (s.rad < 1) <;> cases decide (1048576 < s.rad) <;> cases decide ((s.np:Int) < 1) <;> rfl
  ·rw [vYH h,vJQ (show s.np≤50 by omega)];cases decide (s.rad < 1) <;> cases decide (1048576 < s.rad) <;> cases decide ((s.np:Int) < 1) <;> cases allN (fun i:Nat=>zOk 4194304 (s.pts i)) s.np 0 <;> rfl
def cpk:Shp→Prop:=fun t=>match t with | _=>True
def epk:Shp→List PV:=fun t=>match t with | s=>[.a (sP s)]
noncomputable def rpk:Shp→Ret:=fun t=>match t with | s=>.v (.b (shOk s))
def dpk:List PV→Shp:=fun ps=>match ps with
 | [.a r]=>unS r
 | _=>⟨0,0,0,fun _=>⟨0,0,0⟩⟩
noncomputable def o_pk:List PV→Option (Bool × Ret):=o_fm dpk cpk epk rpk
theorem fUK:zZ Tryz.prog 115 o_pk:=qQV fun t h=>by
 revert h; revert t; intro s h
 exact uKJ s
noncomputable def orRk (s:Shp):OrS:=orS [(64,o_nr)] []
noncomputable def hRk (s:Shp) (i:Int):St:=⟨[(1,.p 1 0),(3,.v (.n .i64 i))],[(1,.blk [.v (.n .i64 s.link),.v (.n .i64 s.rad),.v (.lf s.np (fZ s.pts))])]⟩
set_option maxRecDepth 100000 in
theorem rdRk (G:St→Option (Ret × Mem)) (K:Cont) (s:Shp) (i:Int):stpT Tf 117 (orRk s) 60 [] [0,1,0,1,1] K G (hRk s i) =
 (bif (decide (i < (s.np:Int))) then (bif (inB i s.np) then (bif (gF1 cnr enr (s.pts (i).toNat)) then (bif (zOk 4194304 (s.pts (i).toNat)) then (G (hRk s (vJJ .i64 (i + 1))))
 else (K .ret ⟨[(2,.v (.b false))],[]⟩))
 else none)
 else none)
 else (K (.exit 0) ⟨[],[]⟩)):=by kernel_rfl
theorem lpRk (K:Cont) (s:Shp) (_:s.np≤50):LFT Tf 117 (orRk s) 60 [] [0,1,0,1,1] K 60 (hRk s 0)=bif (allN (fun i:Nat=>zOk 4194304 (s.pts i)) s.np 0) then (K (.exit 0) ⟨[],[]⟩) else (K .ret ⟨[(2,.v (.b false))],[]⟩):=by
 refine (kV (L:=LFT Tf 117 (orRk s) 60 [] [0,1,0,1,1] K) (stp:=stpT Tf 117 (orRk s) 60 [] [0,1,0,1,1] K) (fun _ _=>rfl) (fun (i:Nat) (_:Unit)=>hRk s (i:Int)) (fun _ _=>True) (fun (i:Nat) _=>zOk 4194304 (s.pts i)) (fun _ _=>()) (c:=s.np) (fun _=>(K (.exit 0) ⟨[],[]⟩)) (fun i _=>(K .ret ⟨[(2,.v (.b false))],[]⟩)) (fun G i f hi _ => ?_) (fun _ _ _ _ _=>trivial) (fun G f _ => ?_) s.np 0 60 () (by omega) (by omega) trivial).trans ((jY _ _ _ _ _).trans (jZ _ _ _ _ _))
 ·refine (rdRk G K s i).trans ?_;rw [vJQ (show (i:Int) < (s.np:Int) by omega),kK (by omega),yU (show i < s.np by omega),toN,jX (C:=cnr) (t:=s.pts i) trivial];cases zOk 4194304 (s.pts i) <;> rfl
 ·refine (rdRk G K s s.np).trans ?_;rw [vYH (show ¬ (s.np:Int) < (s.np:Int) by omega)];rfl
noncomputable def kWF (s:Shp):List (List Nat × yG):=[([0,1,0,1,1],sumF (fun _:Unit=>(hRk s 0)) (fun _=>()) (fun _ K=>(bif (decide (s.np≤50)) then (bif (allN (fun i:Nat=>zOk 4194304 (s.pts i)) s.np 0) then (K (.exit 0) ⟨[],[]⟩) else (K .ret ⟨[(2,.v (.b false))],[]⟩)) else none)))]
set_option maxRecDepth 100000 in
theorem fYE (s:Shp):qQZ Tf (orRk s) (qK (kWF s)) 60 117 [.a (sP s)] =
 (bif (decide (s.rad < 1)) then some (.v (.b false),[])
 else (bif (decide (1048576 < s.rad)) then some (.v (.b false),[])
 else (bif (decide ((s.np:Int) < 1)) then some (.v (.b false),[])
 else (bif (decide (8 < (s.np:Int))) then some (.v (.b false),[])
 else (bif (gSt (hRk s 0) (hRk s 0)) then (bif (decide (s.np≤50)) then (bif (allN (fun i:Nat=>zOk 4194304 (s.pts i)) s.np 0) then some (.v (.b true),[])
 else some (.v (.b false),[]))
 else none)
 else none))))):=by kernel_rfl
theorem uJL (s:Shp):zG Tryz.prog 117 [.a (sP s)] (.v (.b (shOk s))):=by
 refine zK (N:=60) (LO:=qK (kWF s)) jV yQ (kQ (l:=[(64,o_nr)]) (m:=[]) ⟨xXV,trivial⟩ trivial) (fun p S hp => ?_) ?_
 ·refine zQ (L:=qY Tf 117) (l:=(kWF s)) (show AllP _ (kWF s) from ⟨?_,trivial⟩) p S hp
  ·dsimp only;refine jK (T:=Tf) (o:=(orRk s)) (f:=117) (LO:=qK []) (p:=[0,1,0,1,1]) kU ?_;intro t K r hr;obtain ⟨hg,hr⟩:=qQ hr;have hk:=vJZ hg;exact (lpRk K s hk).trans hr
 ·refine (fYE s).trans ?_;unfold shOk zUD;rw [yJ];by_cases h:8 < (s.np:Int)
  ·rw [vJQ h];cases decide (s.rad < 1) <;> cases decide (1048576 < s.rad) <;> cases decide ((s.np:Int) < 1) <;> rfl
  ·rw [vYH h,vJQ (show s.np≤50 by omega)];cases decide (s.rad < 1) <;> cases decide (1048576 < s.rad) <;> cases decide ((s.np:Int) < 1) <;> cases allN (fun i:Nat=>zOk 4194304 (s.pts i)) s.np 0 <;> rfl
def crk:Shp→Prop:=fun t=>match t with | _=>True
def erk:Shp→List PV:=fun t=>match t with | s=>[.a (sP s)]
noncomputable def rrk:Shp→Ret:=fun t=>match t with | s=>.v (.b (shOk s))
def drk:List PV→Shp:=fun ps=>match ps with
 | [.a r]=>unS r
 | _=>⟨0,0,0,fun _=>⟨0,0,0⟩⟩
noncomputable def o_rk:List PV→Option (Bool × Ret):=o_fm drk crk erk rrk
theorem xXJ:zZ Tryz.prog 117 o_rk:=qQV fun t h=>by
 revert h; revert t; intro s h
 exact uJL s
end Go.Proofs.YtmeldddgjfocdaaGreat.Gb
namespace Go.Proofs.YtmeldddgjfocdaaGreat.Gc
open Go.Rx Rt Go.Sx Go.RowKit Od Na Nb Nc Nx Nf Ga Gb
def shG (sh:Nat→Shp) (n c:Nat):Bool:=allN (fun i:Nat=>decide (shE n (sh i)=0)) c 0
def skG (sk:Nat→Skp) (n d:Nat):Bool:=allN (fun i:Nat=>isLk n (sk i).a && isLk n (sk i).b) d 0
def sErr (js:Nat→J) (ms:Nat→Ms) (sh:Nat→Shp) (sk:Nat→Skp) (n m c d:Nat):Int:=bif decide (rErr js ms n m=0) then (bif decide (24 < (c:Int)) then 901 else bif shG sh n c then (bif decide (64 < (d:Int)) then 903 else bif skG sk n d then 0 else 903) else shE n (sh (Rx.firstK (fun i:Nat=>decide (shE n (sh i)=0)) c 0))) else rErr js ms n m
noncomputable def orSa (js:Nat→J) (ms:Nat→Ms) (_:Nat→Shp) (_:Nat→Skp) (n m c d:Nat):OrS:=orS [(104,o_cr [.a [.lf n (fJ js),.lf m (fM ms)]] (.v (.n .i64 (rErr js ms n m)))),(109,o_cs),(110,o_il)] []
noncomputable def hSa (js:Nat→J) (ms:Nat→Ms) (sh:Nat→Shp) (sk:Nat→Skp) (n m c d:Nat) (i:Int):St:=⟨[(1,.p 1 0),(20,.v (.lf c (fS sh))),(21,.v (.n .i64 (c:Int))),(22,.v (.n .i64 i))],[(1,.blk [.v (.lf n (fJ js)),.v (.lf m (fM ms)),.v (.lf c (fS sh)),.v (.lf d (fK sk))])]⟩
set_option maxRecDepth 100000 in
theorem rdSa (G:St→Option (Ret × Mem)) (K:Cont) (js:Nat→J) (ms:Nat→Ms) (sh:Nat→Shp) (sk:Nat→Skp) (n m c d:Nat) (i:Int):stpT Tf 58 (orSa js ms sh sk n m c d) 100 [] [0,1,0,1,1,1] K G (hSa js ms sh sk n m c d i) =
 (bif (decide (i < (c:Int))) then (bif (inB i c) then (bif (gF1 ccs ecs (js,ms,sh,sk,n,m,c,d,(sh (i).toNat))) then (bif (!decide ((shE n (sh (i).toNat))=0)) then (K .ret ⟨[(1,.p 1 0),(2,.v (.n .i64 (shE n (sh (i).toNat))))],[(1,.blk [.v (.lf n (fJ js)),.v (.lf m (fM ms)),.v (.lf c (fS sh)),.v (.lf d (fK sk))])]⟩)
 else (G (hSa js ms sh sk n m c d (vJJ .i64 (i + 1)))))
 else none)
 else none)
 else (K (.exit 0) ⟨[(1,.p 1 0)],[(1,.blk [.v (.lf n (fJ js)),.v (.lf m (fM ms)),.v (.lf c (fS sh)),.v (.lf d (fK sk))])]⟩)):=by kernel_rfl
theorem lpSa (K:Cont) (js:Nat→J) (ms:Nat→Ms) (sh:Nat→Shp) (sk:Nat→Skp) (n m c d:Nat) (_:c≤50):LFT Tf 58 (orSa js ms sh sk n m c d) 100 [] [0,1,0,1,1,1] K 100 (hSa js ms sh sk n m c d 0)=bif (allN (fun i:Nat=>decide (shE n (sh i)=0)) c 0) then (K (.exit 0) ⟨[(1,.p 1 0)],[(1,.blk [.v (.lf n (fJ js)),.v (.lf m (fM ms)),.v (.lf c (fS sh)),.v (.lf d (fK sk))])]⟩) else (K .ret ⟨[(1,.p 1 0),(2,.v (.n .i64 (shE n (sh (((Rx.firstK (fun i:Nat=>decide (shE n (sh i)=0)) c 0:Nat):Int)).toNat))))],[(1,.blk [.v (.lf n (fJ js)),.v (.lf m (fM ms)),.v (.lf c (fS sh)),.v (.lf d (fK sk))])]⟩):=by
 refine (kV (L:=LFT Tf 58 (orSa js ms sh sk n m c d) 100 [] [0,1,0,1,1,1] K) (stp:=stpT Tf 58 (orSa js ms sh sk n m c d) 100 [] [0,1,0,1,1,1] K) (fun _ _=>rfl) (fun (i:Nat) (_:Unit)=>hSa js ms sh sk n m c d (i:Int)) (fun _ _=>True) (fun (i:Nat) _=>decide (shE n (sh i)=0)) (fun _ _=>()) (c:=c) (fun _=>(K (.exit 0) ⟨[(1,.p 1 0)],[(1,.blk [.v (.lf n (fJ js)),.v (.lf m (fM ms)),.v (.lf c (fS sh)),.v (.lf d (fK sk))])]⟩)) (fun i _=>(K .ret ⟨[(1,.p 1 0),(2,.v (.n .i64 (shE n (sh ((i:Int)).toNat))))],[(1,.blk [.v (.lf n (fJ js)),.v (.lf m (fM ms)),.v (.lf c (fS sh)),.v (.lf d (fK sk))])]⟩)) (fun G i f hi _ => ?_) (fun _ _ _ _ _=>trivial) (fun G f _ => ?_) c 0 100 () (by omega) (by omega) trivial).trans ((jY _ _ _ _ _).trans (qQQ _ _ _ _ _))
 ·refine (rdSa G K js ms sh sk n m c d i).trans ?_;rw [vJQ (show (i:Int) < (c:Int) by omega),kK (by omega),yU (show i < c by omega),toN,jX (C:=ccs) (t:=(js,ms,sh,sk,n,m,c,d,sh i)) trivial];cases decide (shE n (sh i)=0) <;> rfl
 ·refine (rdSa G K js ms sh sk n m c d c).trans ?_;rw [vYH (show ¬ (c:Int) < (c:Int) by omega)];rfl
noncomputable def hSb (js:Nat→J) (ms:Nat→Ms) (sh:Nat→Shp) (sk:Nat→Skp) (n m c d:Nat) (i:Int):St:=⟨[(1,.p 1 0),(38,.v (.lf d (fK sk))),(39,.v (.n .i64 (d:Int))),(40,.v (.n .i64 i))],[(1,.blk [.v (.lf n (fJ js)),.v (.lf m (fM ms)),.v (.lf c (fS sh)),.v (.lf d (fK sk))])]⟩
set_option maxRecDepth 100000 in
theorem rdSb (G:St→Option (Ret × Mem)) (K:Cont) (js:Nat→J) (ms:Nat→Ms) (sh:Nat→Shp) (sk:Nat→Skp) (n m c d:Nat) (i:Int):stpT Tf 58 (orSa js ms sh sk n m c d) 100 [] [0,1,0,1,1,1,1,1] K G (hSb js ms sh sk n m c d i) =
 (bif (decide (i < (d:Int))) then (bif (inB i d) then (bif (gF1 cil eil (js,ms,sh,sk,n,m,c,d,(sk (i).toNat).a)) then (bif (isLk n ((sk (i).toNat).a)) then (bif (gF1 cil eil (js,ms,sh,sk,n,m,c,d,(sk (i).toNat).b)) then (bif (isLk n ((sk (i).toNat).b)) then (G (hSb js ms sh sk n m c d (vJJ .i64 (i + 1))))
 else (K .ret ⟨[(2,.v (.n .i64 903))],[]⟩))
 else none)
 else (K .ret ⟨[(2,.v (.n .i64 903))],[]⟩))
 else none)
 else none)
 else (K (.exit 2) ⟨[],[]⟩)):=by kernel_rfl
theorem lpSb (K:Cont) (js:Nat→J) (ms:Nat→Ms) (sh:Nat→Shp) (sk:Nat→Skp) (n m c d:Nat) (_:d≤70):LFT Tf 58 (orSa js ms sh sk n m c d) 100 [] [0,1,0,1,1,1,1,1] K 100 (hSb js ms sh sk n m c d 0)=bif (allN (fun i:Nat=>isLk n (sk i).a && isLk n (sk i).b) d 0) then (K (.exit 2) ⟨[],[]⟩) else (K .ret ⟨[(2,.v (.n .i64 903))],[]⟩):=by
 refine (kV (L:=LFT Tf 58 (orSa js ms sh sk n m c d) 100 [] [0,1,0,1,1,1,1,1] K) (stp:=stpT Tf 58 (orSa js ms sh sk n m c d) 100 [] [0,1,0,1,1,1,1,1] K) (fun _ _=>rfl) (fun (i:Nat) (_:Unit)=>hSb js ms sh sk n m c d (i:Int)) (fun _ _=>True) (fun (i:Nat) _=>isLk n (sk i).a && isLk n (sk i).b) (fun _ _=>()) (c:=d) (fun _=>(K (.exit 2) ⟨[],[]⟩)) (fun i _=>(K .ret ⟨[(2,.v (.n .i64 903))],[]⟩)) (fun G i f hi _ => ?_) (fun _ _ _ _ _=>trivial) (fun G f _ => ?_) d 0 100 () (by omega) (by omega) trivial).trans ((jY _ _ _ _ _).trans (jZ _ _ _ _ _))
 ·refine (rdSb G K js ms sh sk n m c d i).trans ?_;rw [vJQ (show (i:Int) < (d:Int) by omega),kK (by omega),yU (show i < d by omega),toN,jX (C:=cil) (t:=(js,ms,sh,sk,n,m,c,d,(sk i).a)) trivial,jX (C:=cil) (t:=(js,ms,sh,sk,n,m,c,d,(sk i).b)) trivial];cases isLk n (sk i).a <;> cases isLk n (sk i).b <;> rfl
 ·refine (rdSb G K js ms sh sk n m c d d).trans ?_;rw [vYH (show ¬ (d:Int) < (d:Int) by omega)];rfl
noncomputable def kWH (js:Nat→J) (ms:Nat→Ms) (sh:Nat→Shp) (sk:Nat→Skp) (n m c d:Nat):List (List Nat × yG):=[([0,1,0,1,1,1],sumF (fun _:Unit=>(hSa js ms sh sk n m c d 0)) (fun _=>()) (fun _ K=>(bif (decide (c≤50)) then (bif (allN (fun i:Nat=>decide (shE n (sh i)=0)) c 0) then (K (.exit 0) ⟨[(1,.p 1 0)],[(1,.blk [.v (.lf n (fJ js)),.v (.lf m (fM ms)),.v (.lf c (fS sh)),.v (.lf d (fK sk))])]⟩) else (K .ret ⟨[(1,.p 1 0),(2,.v (.n .i64 (shE n (sh (((Rx.firstK (fun i:Nat=>decide (shE n (sh i)=0)) c 0:Nat):Int)).toNat))))],[(1,.blk [.v (.lf n (fJ js)),.v (.lf m (fM ms)),.v (.lf c (fS sh)),.v (.lf d (fK sk))])]⟩)) else none))),([0,1,0,1,1,1,1,1],sumF (fun _:Unit=>(hSb js ms sh sk n m c d 0)) (fun _=>()) (fun _ K=>(bif (decide (d≤70)) then (bif (allN (fun i:Nat=>isLk n (sk i).a && isLk n (sk i).b) d 0) then (K (.exit 2) ⟨[],[]⟩) else (K .ret ⟨[(2,.v (.n .i64 903))],[]⟩)) else none)))]
set_option maxRecDepth 100000 in
theorem fYV (js:Nat→J) (ms:Nat→Ms) (sh:Nat→Shp) (sk:Nat→Skp) (n m c d:Nat):qQZ Tf (orSa js ms sh sk n m c d) (qK (kWH js ms sh sk n m c d)) 100 58 [.a [.lf n (fJ js),.lf m (fM ms),.lf c (fS sh),.lf d (fK sk)]] =
 (bif (g1 [.a [.lf n (fJ js),.lf m (fM ms)]]) then (bif (!decide ((rErr js ms n m)=0)) then some (.v (.n .i64 (rErr js ms n m)),[])
 else (bif (decide (24 < (c:Int))) then some (.v (.n .i64 901),[])
 else (bif (gSt (hSa js ms sh sk n m c d 0) (hSa js ms sh sk n m c d 0)) then (bif (decide (c≤50)) then (bif (allN (fun i:Nat=>decide (shE n (sh i)=0)) c 0) then (bif (decide (64 < (d:Int))) then some (.v (.n .i64 903),[])
 else (bif (gSt (hSb js ms sh sk n m c d 0) (hSb js ms sh sk n m c d 0)) then (bif (decide (d≤70)) then (bif (allN (fun i:Nat=>isLk n (sk i).a && isLk n (sk i).b) d 0) then some (.v (.n .i64 0),[])
 else some (.v (.n .i64 903),[]))
 else none)
 else none))
 else some (.v (.n .i64 (shE n (sh (((Rx.firstK (fun i:Nat=>decide (shE n (sh i)=0)) c 0:Nat):Int)).toNat))),[]))
 else none)
 else none)))
 else none):=by kernel_rfl
theorem uJA (js:Nat→J) (ms:Nat→Ms) (sh:Nat→Shp) (sk:Nat→Skp) (n m c d:Nat):zG Tryz.prog 58 [.a [.lf n (fJ js),.lf m (fM ms),.lf c (fS sh),.lf d (fK sk)]] (.v (.n .i64 (sErr js ms sh sk n m c d))):=by
 refine zK (N:=100) (LO:=qK (kWH js ms sh sk n m c d)) jV yQ (kQ (l:=[(104,o_cr [.a [.lf n (fJ js),.lf m (fM ms)]] (.v (.n .i64 (rErr js ms n m)))),(109,o_cs),(110,o_il)]) (m:=[]) ⟨qVK (yXJ js ms n m),fUB,xWY,trivial⟩ trivial) (fun p S hp => ?_) ?_
 ·refine zQ (L:=qY Tf 58) (l:=(kWH js ms sh sk n m c d)) (show AllP _ (kWH js ms sh sk n m c d) from ⟨?_,?_,trivial⟩) p S hp
  ·dsimp only;refine jK (T:=Tf) (o:=(orSa js ms sh sk n m c d)) (f:=58) (LO:=qK []) (p:=[0,1,0,1,1,1]) kU ?_;intro t K r hr;obtain ⟨hg,hr⟩:=qQ hr;have hc:=vJZ hg;exact (lpSa K js ms sh sk n m c d hc).trans hr
  ·dsimp only;refine jK (T:=Tf) (o:=(orSa js ms sh sk n m c d)) (f:=58) (LO:=qK []) (p:=[0,1,0,1,1,1,1,1]) kU ?_;intro t K r hr;obtain ⟨hg,hr⟩:=qQ hr;have hd:=vJZ hg;exact (lpSb K js ms sh sk n m c d hd).trans hr
 ·refine (fYV js ms sh sk n m c d).trans ?_;unfold sErr shG skG;rw [g1_t];by_cases h:rErr js ms n m=0
  ·rw [vJQ h];by_cases hc:24 < (c:Int)
   ·rw [vJQ hc]; rfl
   rw [vYH hc,yJ,vJQ (show c≤50 by omega)];cases allN (fun i:Nat=>decide (shE n (sh i)=0)) c 0 with
   | false=>simp only [Bool.not_true,Bool.not_false,vYV,vYG,toN]
   | true =>
    by_cases hd:64 < (d:Int)
    ·rw [vJQ hd]; rfl
    rw [vYH hd,yJ,vJQ (show d≤70 by omega)];cases allN (fun i:Nat=>isLk n (sk i).a && isLk n (sk i).b) d 0 <;> rfl
  ·rw [vYH h]; rfl
noncomputable def orRo (js:Nat→J) (ms:Nat→Ms) (_:Nat→Shp) (_:Nat→Skp) (n m c d:Nat):OrS:=orS [(70,o_cr [.a [.lf n (fJ js),.lf m (fM ms)]] (.v (.n .i64 (rErr js ms n m)))),(88,o_ir),(89,o_bt),(64,o_nr)] []
noncomputable def hRi (js:Nat→J) (ms:Nat→Ms) (sh:Nat→Shp) (sk:Nat→Skp) (n m c d:Nat) (i:Int) (s:Shp) (k:Int):St:=⟨[(1,.p 1 0),(4,.v (.n .i64 i)),(5,.p 5 0),(6,.v (.n .i64 k))],[(1,.blk [.v (.lf n (fJ js)),.v (.lf m (fM ms)),.v (.lf c (fS sh)),.v (.lf d (fK sk))]),(5,.blk [.v (.n .i64 s.link),.v (.n .i64 s.rad),.v (.lf s.np (fZ s.pts))])]⟩
set_option maxRecDepth 100000 in
theorem rdRi (G:St→Option (Ret × Mem)) (K:Cont) (js:Nat→J) (ms:Nat→Ms) (sh:Nat→Shp) (sk:Nat→Skp) (n m c d:Nat) (i:Int) (s:Shp) (k:Int):stpT Tf 37 (orRo js ms sh sk n m c d) 100 [] [0,1,1,1,0,0,1,0,0,1,0,1,1,1] K G (hRi js ms sh sk n m c d i s k) =
 (bif (decide (k < (s.np:Int))) then (bif (inB k s.np) then (bif (gF1 cnr enr (s.pts (k).toNat)) then (bif (zOk 4194304 (s.pts (k).toNat)) then (G (hRi js ms sh sk n m c d i s (vJJ .i64 (k + 1))))
 else (K .ret ⟨[(1,.p 1 0),(2,.v (.n .i64 805)),(4,.v (.n .i64 i))],[(1,.blk [.v (.lf n (fJ js)),.v (.lf m (fM ms)),.v (.lf c (fS sh)),.v (.lf d (fK sk))])]⟩))
 else none)
 else none)
 else (K (.exit 2) ⟨[(1,.p 1 0),(4,.v (.n .i64 i))],[(1,.blk [.v (.lf n (fJ js)),.v (.lf m (fM ms)),.v (.lf c (fS sh)),.v (.lf d (fK sk))])]⟩)):=by kernel_rfl
theorem lpRi (K:Cont) (js:Nat→J) (ms:Nat→Ms) (sh:Nat→Shp) (sk:Nat→Skp) (n m c d:Nat) (i:Int) (s:Shp) (_:s.np≤50):LFT Tf 37 (orRo js ms sh sk n m c d) 100 [] [0,1,1,1,0,0,1,0,0,1,0,1,1,1] K 100 (hRi js ms sh sk n m c d i s 0)=bif (allN (fun k:Nat=>zOk 4194304 (s.pts k)) s.np 0) then (K (.exit 2) ⟨[(1,.p 1 0),(4,.v (.n .i64 i))],[(1,.blk [.v (.lf n (fJ js)),.v (.lf m (fM ms)),.v (.lf c (fS sh)),.v (.lf d (fK sk))])]⟩) else (K .ret ⟨[(1,.p 1 0),(2,.v (.n .i64 805)),(4,.v (.n .i64 i))],[(1,.blk [.v (.lf n (fJ js)),.v (.lf m (fM ms)),.v (.lf c (fS sh)),.v (.lf d (fK sk))])]⟩):=by
 refine (kV (L:=LFT Tf 37 (orRo js ms sh sk n m c d) 100 [] [0,1,1,1,0,0,1,0,0,1,0,1,1,1] K) (stp:=stpT Tf 37 (orRo js ms sh sk n m c d) 100 [] [0,1,1,1,0,0,1,0,0,1,0,1,1,1] K) (fun _ _=>rfl) (fun (k:Nat) (_:Unit)=>hRi js ms sh sk n m c d i s (k:Int)) (fun _ _=>True) (fun (k:Nat) _=>zOk 4194304 (s.pts k)) (fun _ _=>()) (c:=s.np) (fun _=>(K (.exit 2) ⟨[(1,.p 1 0),(4,.v (.n .i64 i))],[(1,.blk [.v (.lf n (fJ js)),.v (.lf m (fM ms)),.v (.lf c (fS sh)),.v (.lf d (fK sk))])]⟩)) (fun k _=>(K .ret ⟨[(1,.p 1 0),(2,.v (.n .i64 805)),(4,.v (.n .i64 i))],[(1,.blk [.v (.lf n (fJ js)),.v (.lf m (fM ms)),.v (.lf c (fS sh)),.v (.lf d (fK sk))])]⟩)) (fun G k f hi _ => ?_) (fun _ _ _ _ _=>trivial) (fun G f _ => ?_) (s.np) 0 100 () (by omega) (by omega) trivial).trans ((jY _ _ _ _ _).trans (jZ _ _ _ _ _))
 ·refine (rdRi G K js ms sh sk n m c d i s k).trans ?_;rw [vJQ (show (k:Int) < (s.np:Int) by omega),kK (by omega),yU (show k < s.np by omega),toN,jX (C:=cnr) (t:=s.pts k) trivial];cases zOk 4194304 (s.pts k) <;> rfl
 ·refine (rdRi G K js ms sh sk n m c d i s (s.np:Int)).trans ?_;rw [vYH (show ¬ (s.np:Int) < (s.np:Int) by omega)];rfl
def bkS (σ:St) (k:Nat):Shp:=match yK σ.M k with
 | some (.blk [.v (.n _ l),.v (.n _ r),.v (.lf n f)])=>⟨l,r,n,unFZ f⟩
 | _=>⟨0,0,0,fun _=>⟨0,0,0⟩⟩
noncomputable def liRi (js:Nat→J) (ms:Nat→Ms) (sh:Nat→Shp) (sk:Nat→Skp) (n m c d:Nat):List (List Nat × yG):=[([0,1,1,1,0,0,1,0,0,1,0,1,1,1],sumF (fun t:Int × Shp=>(hRi js ms sh sk n m c d t.1 t.2 0)) (fun σ=>(slI σ 4,bkS σ 5)) (fun t K=>(bif (decide (t.2.np≤50)) then (bif (allN (fun k:Nat=>zOk 4194304 (t.2.pts k)) t.2.np 0) then (K (.exit 2) ⟨[(1,.p 1 0),(4,.v (.n .i64 t.1))],[(1,.blk [.v (.lf n (fJ js)),.v (.lf m (fM ms)),.v (.lf c (fS sh)),.v (.lf d (fK sk))])]⟩) else (K .ret ⟨[(1,.p 1 0),(2,.v (.n .i64 805)),(4,.v (.n .i64 t.1))],[(1,.blk [.v (.lf n (fJ js)),.v (.lf m (fM ms)),.v (.lf c (fS sh)),.v (.lf d (fK sk))])]⟩)) else none)))]
theorem okRi (js:Nat→J) (ms:Nat→Ms) (sh:Nat→Shp) (sk:Nat→Skp) (n m c d:Nat):∀ p S,qK (liRi js ms sh sk n m c d) p=some S→uX 100 (cxS Tf (orRo js ms sh sk n m c d) 100 37 (ntmF Tf 37)) (qY Tf 37 p) S:=fun p S hp=>by
 refine zQ (L:=qY Tf 37) (l:=(liRi js ms sh sk n m c d)) (show AllP _ (liRi js ms sh sk n m c d) from ⟨?_,trivial⟩) p S hp;dsimp only;refine jK (T:=Tf) (o:=(orRo js ms sh sk n m c d)) (f:=37) (LO:=qK []) (p:=[0,1,1,1,0,0,1,0,0,1,0,1,1,1]) kU ?_;intro t K r hr;obtain ⟨hg,hr⟩:=qQ hr
 skip
 exact (lpRi K js ms sh sk n m c d t.1 t.2 (vJZ hg)).trans hr
noncomputable def hRo (js:Nat→J) (ms:Nat→Ms) (sh:Nat→Shp) (sk:Nat→Skp) (n m c d:Nat) (i:Int):St:=⟨[(1,.p 1 0),(4,.v (.n .i64 i))],[(1,.blk [.v (.lf n (fJ js)),.v (.lf m (fM ms)),.v (.lf c (fS sh)),.v (.lf d (fK sk))])]⟩
set_option maxRecDepth 100000 in
theorem rdRo (G:St→Option (Ret × Mem)) (K:Cont) (js:Nat→J) (ms:Nat→Ms) (sh:Nat→Shp) (sk:Nat→Skp) (n m c d:Nat) (i:Int):stpT Tf 37 (orRo js ms sh sk n m c d) 100 (liRi js ms sh sk n m c d) [0,1,0,1,1,1] K G (hRo js ms sh sk n m c d i) =
 (bif (decide (i < (c:Int))) then (bif (inB i c) then (bif (gF1 cir eir (js,ms,n,m,(sh (i).toNat).link)) then (bif (isLk n ((sh (i).toNat).link)) then (bif (gF1 cbt ebt (((sh (i).toNat).rad),1,1048576)) then (bif (decide (1≤((sh (i).toNat).rad)) && decide (((sh (i).toNat).rad)≤1048576)) then (bif (decide (((sh (i).toNat).np:Int) < 1)) then (K .ret ⟨[(1,.p 1 0),(2,.v (.n .i64 902))],[(1,.blk [.v (.lf n (fJ js)),.v (.lf m (fM ms)),.v (.lf c (fS sh)),.v (.lf d (fK sk))])]⟩)
 else (bif (decide (8 < ((sh (i).toNat).np:Int))) then (K .ret ⟨[(1,.p 1 0),(2,.v (.n .i64 902))],[(1,.blk [.v (.lf n (fJ js)),.v (.lf m (fM ms)),.v (.lf c (fS sh)),.v (.lf d (fK sk))])]⟩)
 else (bif (gSt (hRi js ms sh sk n m c d i (sh (i).toNat) 0) (hRi js ms sh sk n m c d i (sh (i).toNat) 0)) then (bif (decide ((sh (i).toNat).np≤50)) then (bif (allN (fun k:Nat=>zOk 4194304 ((sh (i).toNat).pts k)) (sh (i).toNat).np 0) then (G (hRo js ms sh sk n m c d (vJJ .i64 (i + 1))))
 else (K .ret ⟨[(1,.p 1 0),(2,.v (.n .i64 805))],[(1,.blk [.v (.lf n (fJ js)),.v (.lf m (fM ms)),.v (.lf c (fS sh)),.v (.lf d (fK sk))])]⟩))
 else none)
 else none)))
 else (K .ret ⟨[(1,.p 1 0),(2,.v (.n .i64 902))],[(1,.blk [.v (.lf n (fJ js)),.v (.lf m (fM ms)),.v (.lf c (fS sh)),.v (.lf d (fK sk))])]⟩))
 else none)
 else (K .ret ⟨[(1,.p 1 0),(2,.v (.n .i64 902))],[(1,.blk [.v (.lf n (fJ js)),.v (.lf m (fM ms)),.v (.lf c (fS sh)),.v (.lf d (fK sk))])]⟩))
 else none)
 else none)
 else (K (.exit 0) ⟨[(1,.p 1 0)],[(1,.blk [.v (.lf n (fJ js)),.v (.lf m (fM ms)),.v (.lf c (fS sh)),.v (.lf d (fK sk))])]⟩)):=by kernel_rfl
theorem nle (a b:Int):decide (a≤b) = !decide (b < a):=by by_cases h:b < a <;> simp [h] <;> omega
theorem lpRo (K:Cont) (js:Nat→J) (ms:Nat→Ms) (sh:Nat→Shp) (sk:Nat→Skp) (n m c d:Nat) (_:c≤50):LFT Tf 37 (orRo js ms sh sk n m c d) 100 (liRi js ms sh sk n m c d) [0,1,0,1,1,1] K 100 (hRo js ms sh sk n m c d 0)=bif shG sh n c then (K (.exit 0) ⟨[(1,.p 1 0)],[(1,.blk [.v (.lf n (fJ js)),.v (.lf m (fM ms)),.v (.lf c (fS sh)),.v (.lf d (fK sk))])]⟩) else (K .ret ⟨[(1,.p 1 0),(2,.v (.n .i64 (shE n (sh (Rx.firstK (fun i:Nat=>decide (shE n (sh i)=0)) c 0)))))],[(1,.blk [.v (.lf n (fJ js)),.v (.lf m (fM ms)),.v (.lf c (fS sh)),.v (.lf d (fK sk))])]⟩):=by
 refine (kV (L:=LFT Tf 37 (orRo js ms sh sk n m c d) 100 (liRi js ms sh sk n m c d) [0,1,0,1,1,1] K) (stp:=stpT Tf 37 (orRo js ms sh sk n m c d) 100 (liRi js ms sh sk n m c d) [0,1,0,1,1,1] K) (fun _ _=>rfl) (fun (i:Nat) (_:Unit)=>hRo js ms sh sk n m c d (i:Int)) (fun _ _=>True) (fun (i:Nat) _=>decide (shE n (sh i)=0)) (fun _ _=>()) (c:=c) (fun _=>(K (.exit 0) ⟨[(1,.p 1 0)],[(1,.blk [.v (.lf n (fJ js)),.v (.lf m (fM ms)),.v (.lf c (fS sh)),.v (.lf d (fK sk))])]⟩)) (fun i _=>(K .ret ⟨[(1,.p 1 0),(2,.v (.n .i64 (shE n (sh i))))],[(1,.blk [.v (.lf n (fJ js)),.v (.lf m (fM ms)),.v (.lf c (fS sh)),.v (.lf d (fK sk))])]⟩)) (fun G i f hi _ => ?_) (fun _ _ _ _ _=>trivial) (fun G f _ => ?_) c 0 100 () (by omega) (by omega) trivial).trans ((jY _ _ _ _ _).trans (qQQ _ _ _ _ _))
 ·refine (rdRo G K js ms sh sk n m c d i).trans ?_;rw [vJQ (show (i:Int) < (c:Int) by omega),yU (show i < c by omega),toN,kK (by omega),jX (C:=cir) (t:=(js,ms,n,m,(sh i).link)) trivial,jX (C:=cbt) (t:=((sh i).rad,1,1048576)) trivial,yJ,nle 1,nle _ 1048576];unfold shE zUD;by_cases h:8 < ((sh i).np:Int)
  ·rw [vJQ h];cases isLk n (sh i).link <;> cases decide ((sh i).rad < 1) <;> cases decide (1048576 < (sh i).rad) <;> cases decide (((sh i).np:Int) < 1) <;> rfl
  ·rw [vYH h,vJQ (show (sh i).np≤50 by omega)];cases isLk n (sh i).link <;> cases decide ((sh i).rad < 1) <;> cases decide (1048576 < (sh i).rad) <;> cases decide (((sh i).np:Int) < 1) <;> cases allN (fun k:Nat=>zOk 4194304 ((sh i).pts k)) (sh i).np 0 <;> rfl
 ·refine (rdRo G K js ms sh sk n m c d (c:Int)).trans ?_;rw [vYH (show ¬ (c:Int) < (c:Int) by omega)];rfl
noncomputable def hRs (js:Nat→J) (ms:Nat→Ms) (sh:Nat→Shp) (sk:Nat→Skp) (n m c d:Nat) (i:Int):St:=⟨[(1,.p 1 0),(7,.v (.n .i64 i))],[(1,.blk [.v (.lf n (fJ js)),.v (.lf m (fM ms)),.v (.lf c (fS sh)),.v (.lf d (fK sk))])]⟩
set_option maxRecDepth 100000 in
theorem rdRs (G:St→Option (Ret × Mem)) (K:Cont) (js:Nat→J) (ms:Nat→Ms) (sh:Nat→Shp) (sk:Nat→Skp) (n m c d:Nat) (i:Int):stpT Tf 37 (orRo js ms sh sk n m c d) 100 [] [0,1,0,1,1,1,1,1] K G (hRs js ms sh sk n m c d i) =
 (bif (decide (i < (d:Int))) then (bif (inB i d) then (bif (gF1 cir eir (js,ms,n,m,(sk (i).toNat).a)) then (bif (isLk n ((sk (i).toNat).a)) then (bif (inB i d) then (bif (gF1 cir eir (js,ms,n,m,(sk (i).toNat).b)) then (bif (isLk n ((sk (i).toNat).b)) then (G (hRs js ms sh sk n m c d (vJJ .i64 (i + 1))))
 else (K .ret ⟨[(2,.v (.n .i64 903))],[]⟩))
 else none)
 else none)
 else (K .ret ⟨[(2,.v (.n .i64 903))],[]⟩))
 else none)
 else none)
 else (K (.exit 4) ⟨[],[]⟩)):=by kernel_rfl
theorem lpRs (K:Cont) (js:Nat→J) (ms:Nat→Ms) (sh:Nat→Shp) (sk:Nat→Skp) (n m c d:Nat) (_:d≤70):LFT Tf 37 (orRo js ms sh sk n m c d) 100 [] [0,1,0,1,1,1,1,1] K 100 (hRs js ms sh sk n m c d 0)=bif (allN (fun i:Nat=>isLk n (sk i).a && isLk n (sk i).b) d 0) then (K (.exit 4) ⟨[],[]⟩) else (K .ret ⟨[(2,.v (.n .i64 903))],[]⟩):=by
 refine (kV (L:=LFT Tf 37 (orRo js ms sh sk n m c d) 100 [] [0,1,0,1,1,1,1,1] K) (stp:=stpT Tf 37 (orRo js ms sh sk n m c d) 100 [] [0,1,0,1,1,1,1,1] K) (fun _ _=>rfl) (fun (i:Nat) (_:Unit)=>hRs js ms sh sk n m c d (i:Int)) (fun _ _=>True) (fun (i:Nat) _=>isLk n (sk i).a && isLk n (sk i).b) (fun _ _=>()) (c:=d) (fun _=>(K (.exit 4) ⟨[],[]⟩)) (fun i _=>(K .ret ⟨[(2,.v (.n .i64 903))],[]⟩)) (fun G i f hi _ => ?_) (fun _ _ _ _ _=>trivial) (fun G f _ => ?_) d 0 100 () (by omega) (by omega) trivial).trans ((jY _ _ _ _ _).trans (jZ _ _ _ _ _))
 ·refine (rdRs G K js ms sh sk n m c d i).trans ?_;rw [vJQ (show (i:Int) < (d:Int) by omega),kK (by omega),yU (show i < d by omega),toN,jX (C:=cir) (t:=(js,ms,n,m,(sk i).a)) trivial,jX (C:=cir) (t:=(js,ms,n,m,(sk i).b)) trivial];cases isLk n (sk i).a <;> cases isLk n (sk i).b <;> rfl
 ·refine (rdRs G K js ms sh sk n m c d d).trans ?_;rw [vYH (show ¬ (d:Int) < (d:Int) by omega)];rfl
noncomputable def kWE (js:Nat→J) (ms:Nat→Ms) (sh:Nat→Shp) (sk:Nat→Skp) (n m c d:Nat):List (List Nat × yG):=[([0,1,0,1,1,1],sumF (fun _:Unit=>(hRo js ms sh sk n m c d 0)) (fun _=>()) (fun _ K=>(bif (decide (c≤50)) then (bif shG sh n c then (K (.exit 0) ⟨[(1,.p 1 0)],[(1,.blk [.v (.lf n (fJ js)),.v (.lf m (fM ms)),.v (.lf c (fS sh)),.v (.lf d (fK sk))])]⟩) else (K .ret ⟨[(1,.p 1 0),(2,.v (.n .i64 (shE n (sh (Rx.firstK (fun i:Nat=>decide (shE n (sh i)=0)) c 0)))))],[(1,.blk [.v (.lf n (fJ js)),.v (.lf m (fM ms)),.v (.lf c (fS sh)),.v (.lf d (fK sk))])]⟩)) else none))),([0,1,0,1,1,1,1,1],sumF (fun _:Unit=>(hRs js ms sh sk n m c d 0)) (fun _=>()) (fun _ K=>(bif (decide (d≤70)) then (bif (allN (fun i:Nat=>isLk n (sk i).a && isLk n (sk i).b) d 0) then (K (.exit 4) ⟨[],[]⟩) else (K .ret ⟨[(2,.v (.n .i64 903))],[]⟩)) else none)))]
set_option maxRecDepth 100000 in
theorem fYD (js:Nat→J) (ms:Nat→Ms) (sh:Nat→Shp) (sk:Nat→Skp) (n m c d:Nat):qQZ Tf (orRo js ms sh sk n m c d) (qK (kWE js ms sh sk n m c d)) 100 37 [.a [.lf n (fJ js),.lf m (fM ms),.lf c (fS sh),.lf d (fK sk)]] =
 (bif (g1 [.a [.lf n (fJ js),.lf m (fM ms)]]) then (bif (!decide ((rErr js ms n m)=0)) then some (.v (.n .i64 (rErr js ms n m)),[])
 else (bif (decide (24 < (c:Int))) then some (.v (.n .i64 901),[])
 else (bif (gSt (hRo js ms sh sk n m c d 0) (hRo js ms sh sk n m c d 0)) then (bif (decide (c≤50)) then (bif (shG sh n c) then (bif (decide (64 < (d:Int))) then some (.v (.n .i64 903),[])
 else (bif (gSt (hRs js ms sh sk n m c d 0) (hRs js ms sh sk n m c d 0)) then (bif (decide (d≤70)) then (bif (allN (fun i:Nat=>isLk n (sk i).a && isLk n (sk i).b) d 0) then some (.v (.n .i64 0),[])
 else some (.v (.n .i64 903),[]))
 else none)
 else none))
 else some (.v (.n .i64 (shE n (sh (Rx.firstK (fun i:Nat=>decide (shE n (sh i)=0)) c 0)))),[]))
 else none)
 else none)))
 else none):=by kernel_rfl
theorem jUD (js:Nat→J) (ms:Nat→Ms) (sh:Nat→Shp) (sk:Nat→Skp) (n m c d:Nat):zG Tryz.prog 37 [.a [.lf n (fJ js),.lf m (fM ms),.lf c (fS sh),.lf d (fK sk)]] (.v (.n .i64 (sErr js ms sh sk n m c d))):=by
 refine zK (N:=100) (LO:=qK (kWE js ms sh sk n m c d)) jV yQ (kQ (l:=[(70,o_cr [.a [.lf n (fJ js),.lf m (fM ms)]] (.v (.n .i64 (rErr js ms n m)))),(88,o_ir),(89,o_bt),(64,o_nr)]) (m:=[]) ⟨qVK (zHY js ms n m),fUG,fUI,xXV,trivial⟩ trivial) (fun p S hp => ?_) ?_
 ·refine zQ (L:=qY Tf 37) (l:=(kWE js ms sh sk n m c d)) (show AllP _ (kWE js ms sh sk n m c d) from ⟨?_,?_,trivial⟩) p S hp
  ·dsimp only;refine jK (T:=Tf) (o:=(orRo js ms sh sk n m c d)) (f:=37) (LO:=(qK (liRi js ms sh sk n m c d))) (p:=[0,1,0,1,1,1]) (okRi js ms sh sk n m c d) ?_;intro t K r hr;obtain ⟨hg,hr⟩:=qQ hr
   skip
   exact (lpRo K js ms sh sk n m c d (vJZ hg)).trans hr
  ·dsimp only;refine jK (T:=Tf) (o:=(orRo js ms sh sk n m c d)) (f:=37) (LO:=qK []) (p:=[0,1,0,1,1,1,1,1]) kU ?_;intro t K r hr;obtain ⟨hg,hr⟩:=qQ hr;have hd:=vJZ hg;exact (lpRs K js ms sh sk n m c d hd).trans hr
 ·refine (fYD js ms sh sk n m c d).trans ?_;unfold sErr skG;rw [g1_t];by_cases h:rErr js ms n m=0
  ·rw [vJQ h];by_cases hc:24 < (c:Int)
   ·rw [vJQ hc]; rfl
   rw [vYH hc,yJ,vJQ (show c≤50 by omega)];cases shG sh n c with
   | false=>rfl
   | true =>
    by_cases hd:64 < (d:Int)
    ·rw [vJQ hd]; rfl
    rw [vYH hd,yJ,vJQ (show d≤70 by omega)];cases allN (fun i:Nat=>isLk n (sk i).a && isLk n (sk i).b) d 0 <;> rfl
  ·rw [vYH h]; rfl
end Go.Proofs.YtmeldddgjfocdaaGreat.Gc
namespace Go.Proofs.YtmeldddgjfocdaaGreat.Gd
open Go.Rx Rt Go.Sx Go.RowKit Od Na Nb Nc Nx Nf Ga Gb Gc
noncomputable def qWJ:List PV→Option (Bool × Ret):=fun ps=>match ps with
 | [.a z']=>(z3D z').bind fun z=>some (true,.v (.a (v3C (V3.of z))))
 | _=>none
theorem zXZ:zZ Tryz.prog 49 qWJ:=by
 intro ps r h;unfold qWJ at h;split at h
 ·simp only [vQQ,vQZ,vQY] at h;obtain ⟨z,hz,hg,rfl⟩:=h;rw [yGD hz];exact qU (qW Tryz.func49 (by kernel_rfl) (by kernel_rfl)) rfl rfl (fun w=>uZX _ _ _ w)
 ·cases h
noncomputable def L6:OrL:=(49,qWJ) :: L5
theorem xZG:AllP (fun x:Nat × (List PV→Option (Bool × Ret))=>zZ Tryz.prog x.1 x.2) L6:=⟨zXZ,fZX⟩
noncomputable def yQJ:List PV→Option (Bool × Ret):=fun ps=>match ps with
 | [.a p',.a v']=>(poD p').bind fun p=>(v3D v').bind fun v=>some (true,.v (.a (v3C (Po.app p v))))
 | _=>none
theorem jWI:zZ Tryz.prog 48 yQJ:=by
 intro ps r h;unfold yQJ at h;split at h
 ·simp only [vQQ,vQZ,vQY] at h;obtain ⟨p,hp,v,hv,hg,rfl⟩:=h;rw [zVH hp];rw [qWI hv];exact qU (qW Tryz.func48 (by kernel_rfl) (by kernel_rfl)) rfl rfl (fun w=>xJD _ _ _ _ _ _ _ _ _ _ _ _ _ _ _ _ _ _ _ _ _ _ _ _ _ _ _ _ _ _ w)
 ·cases h
noncomputable def L7:OrL:=(48,yQJ) :: L6
theorem kZC:AllP (fun x:Nat × (List PV→Option (Bool × Ret))=>zZ Tryz.prog x.1 x.2) L7:=⟨jWI,xZG⟩
noncomputable def qJV:List PV→Option (Bool × Ret):=fun ps=>match ps with
 | []=>some (true,.v (.a (poC (Po.rest))))
 | _=>none
theorem qVJ:zZ Tryz.prog 107 qJV:=by
 intro ps r h;unfold qJV at h;split at h
 ·simp only [vQZ,vQY] at h;obtain ⟨hg,rfl⟩:=h;exact qU (qW Tryz.func107 (by kernel_rfl) (by kernel_rfl)) rfl rfl (fun w=>yJY  w)
 ·cases h
noncomputable def L8:OrL:=(107,qJV) :: L7
theorem xZV:AllP (fun x:Nat × (List PV→Option (Bool × Ret))=>zZ Tryz.prog x.1 x.2) L8:=⟨qVJ,kZC⟩
noncomputable def qGC:List PV→Option (Bool × Ret):=fun ps=>match ps with
 | []=>some (true,.v (.a (poC (Po.rest))))
 | _=>none
theorem zHD:zZ Tryz.prog 94 qGC:=by
 intro ps r h;unfold qGC at h;split at h
 ·simp only [vQZ,vQY] at h;obtain ⟨hg,rfl⟩:=h;exact qU (qW Tryz.func94 (by kernel_rfl) (by kernel_rfl)) rfl rfl (fun w=>xJC  w)
 ·cases h
noncomputable def L9:OrL:=(94,qGC) :: L8
theorem uQE:AllP (fun x:Nat × (List PV→Option (Bool × Ret))=>zZ Tryz.prog x.1 x.2) L9:=⟨zHD,xZV⟩
def fV (g:Nat→V3):Nat→List PV:=fun v=>Rx.v3C (g v)
def plF (s:Shp) (po:Po):Nat→V3:=fun i=>Po.app po (V3.of (s.pts i))
def unPo (r:List PV):Po:=match r with
 | [.n _ a0,.n _ a1,.n _ a2,.n _ a3,.n _ a4,.n _ a5,.n _ a6,.n _ a7,.n _ a8,.n _ a9,.n _ a10,.n _ a11,.n _ a12,.n _ a13,.n _ a14,.n _ a15,.n _ a16,.n _ a17,.n _ a18,.n _ a19,.n _ a20,.n _ a21,.n _ a22,.n _ a23]=>⟨⟨⟨⟨a0,a1⟩,⟨a2,a3⟩,⟨a4,a5⟩⟩,⟨⟨a6,a7⟩,⟨a8,a9⟩,⟨a10,a11⟩⟩,⟨⟨a12,a13⟩,⟨a14,a15⟩,⟨a16,a17⟩⟩⟩,⟨⟨a18,a19⟩,⟨a20,a21⟩,⟨a22,a23⟩⟩⟩
 | _=>Po.rest
def plN (s:Shp):Nat:=bif shOk s then s.np else 0
theorem zUU {s:Shp} (h:shOk s=true):1≤s.np∧s.np≤8:=by
 unfold shOk at h;simp only [vQJ,Bool.not_eq_true',Bool.or_eq_false_iff,decide_eq_false_iff_not] at h;omega
noncomputable def orPr (s:Shp) (_:Po):OrS:=orS ((117,o_rk) :: L9) []
noncomputable def hPr (s:Shp) (po:Po) (i:Int) (r:Nat) (q:Nat→Nat→Int):St:=⟨[(2,.p 2 0),(3,.p 3 0),(5,.o 27),(6,.v (.n .i64 i))],[(2,.blk [.v (.n .i64 s.link),.v (.n .i64 s.rad),.v (.lf s.np (fZ s.pts))]),(3,.blk [.v (.n .i64 (po).r.x.x.lo),.v (.n .i64 (po).r.x.x.hi),.v (.n .i64 (po).r.x.y.lo),.v (.n .i64 (po).r.x.y.hi),.v (.n .i64 (po).r.x.z.lo),.v (.n .i64 (po).r.x.z.hi),.v (.n .i64 (po).r.y.x.lo),.v (.n .i64 (po).r.y.x.hi),.v (.n .i64 (po).r.y.y.lo),.v (.n .i64 (po).r.y.y.hi),.v (.n .i64 (po).r.y.z.lo),.v (.n .i64 (po).r.y.z.hi),.v (.n .i64 (po).r.z.x.lo),.v (.n .i64 (po).r.z.x.hi),.v (.n .i64 (po).r.z.y.lo),.v (.n .i64 (po).r.z.y.hi),.v (.n .i64 (po).r.z.z.lo),.v (.n .i64 (po).r.z.z.hi),.v (.n .i64 (po).t.x.lo),.v (.n .i64 (po).t.x.hi),.v (.n .i64 (po).t.y.lo),.v (.n .i64 (po).t.y.hi),.v (.n .i64 (po).t.z.lo),.v (.n .i64 (po).t.z.hi)]),(27,.reg 66 6 (.fo r (fun v=>[.n .i64 (q v 0),.n .i64 (q v 1),.n .i64 (q v 2),.n .i64 (q v 3),.n .i64 (q v 4),.n .i64 (q v 5)])))]⟩
set_option maxRecDepth 100000 in
theorem rdPr (G:St→Option (Ret × Mem)) (K:Cont) (s:Shp) (po:Po) (i:Int) (r:Nat) (q:Nat→Nat→Int):stpT Tf 95 (orPr s po) 60 [] [0,1,0,1,1,1] K G (hPr s po i r q) =
 (bif (decide (i < (s.np:Int))) then (bif (inB i s.np) then (bif (decide (r + 1≤1000000)) then (G (hPr s po (vJJ .i64 (i + 1)) (r + 1) (fun v k=>List.getD [(bif (Nat.beq v r) then (Po.app (po) (V3.of (s.pts (i).toNat))).x.lo else (q v 0)),(bif (Nat.beq v r) then (Po.app (po) (V3.of (s.pts (i).toNat))).x.hi else (q v 1)),(bif (Nat.beq v r) then (Po.app (po) (V3.of (s.pts (i).toNat))).y.lo else (q v 2)),(bif (Nat.beq v r) then (Po.app (po) (V3.of (s.pts (i).toNat))).y.hi else (q v 3)),(bif (Nat.beq v r) then (Po.app (po) (V3.of (s.pts (i).toNat))).z.lo else (q v 4)),(bif (Nat.beq v r) then (Po.app (po) (V3.of (s.pts (i).toNat))).z.hi else (q v 5))] k 0)))
 else none)
 else none)
 else (K (.exit 0) ⟨[(5,.o 27)],[(27,.reg 66 6 (.fo r (fun v=>[.n .i64 (q v 0),.n .i64 (q v 1),.n .i64 (q v 2),.n .i64 (q v 3),.n .i64 (q v 4),.n .i64 (q v 5)])))]⟩)):=by kernel_rfl
def nxPr (s:Shp) (po:Po) (i:Nat) (q:Nat→Nat→Int):Nat→Nat→Int:=fun v k=>List.getD [bif Nat.beq v i then (plF s po i).x.lo else q v 0,bif Nat.beq v i then (plF s po i).x.hi else q v 1,bif Nat.beq v i then (plF s po i).y.lo else q v 2,bif Nat.beq v i then (plF s po i).y.hi else q v 3,bif Nat.beq v i then (plF s po i).z.lo else q v 4,bif Nat.beq v i then (plF s po i).z.hi else q v 5] k 0
theorem lpPr (K:Cont) (s:Shp) (po:Po) (_:s.np≤50):LFT Tf 95 (orPr s po) 60 [] [0,1,0,1,1,1] K 60 (hPr s po 0 0 (fun v k=>List.getD [0,0,0,0,0,0] k 0))=(K (.exit 0) ⟨[(5,.o 27)],[(27,.reg 66 6 (.fo s.np (fun v=>[.n .i64 ((qQX (nxPr s po) s.np 0 (fun v k=>List.getD [0,0,0,0,0,0] k 0)) v 0),.n .i64 ((qQX (nxPr s po) s.np 0 (fun v k=>List.getD [0,0,0,0,0,0] k 0)) v 1),.n .i64 ((qQX (nxPr s po) s.np 0 (fun v k=>List.getD [0,0,0,0,0,0] k 0)) v 2),.n .i64 ((qQX (nxPr s po) s.np 0 (fun v k=>List.getD [0,0,0,0,0,0] k 0)) v 3),.n .i64 ((qQX (nxPr s po) s.np 0 (fun v k=>List.getD [0,0,0,0,0,0] k 0)) v 4),.n .i64 ((qQX (nxPr s po) s.np 0 (fun v k=>List.getD [0,0,0,0,0,0] k 0)) v 5)])))]⟩):=by
 refine (kV (L:=LFT Tf 95 (orPr s po) 60 [] [0,1,0,1,1,1] K) (stp:=stpT Tf 95 (orPr s po) 60 [] [0,1,0,1,1,1] K) (fun _ _=>rfl) (fun (i:Nat) (q:Nat→Nat→Int)=>hPr s po (i:Int) i q) (fun _ _=>True) (fun _ _=>true) (nxPr s po) (c:=s.np) (fun q=>(K (.exit 0) ⟨[(5,.o 27)],[(27,.reg 66 6 (.fo s.np (fun v=>[.n .i64 (q v 0),.n .i64 (q v 1),.n .i64 (q v 2),.n .i64 (q v 3),.n .i64 (q v 4),.n .i64 (q v 5)])))]⟩)) (fun _ _=>none) (fun G i q hi _ => ?_) (fun _ _ _ _ _=>trivial) (fun G q _ => ?_) s.np 0 60 _ (by omega) (by omega) trivial).trans (qZH s.np 0 _)
 ·refine (rdPr G K s po i i q).trans ?_;simp only [vJQ (show (i:Int) < (s.np:Int) by omega),kK (show i < 1000000 by omega),yU (show i < s.np by omega),toN,vYV,vJQ (show i + 1≤1000000 by omega)]
  all_goals rfl
 ·refine (rdPr G K s po (s.np:Int) s.np q).trans ?_;rw [vYH (show ¬ (s.np:Int) < (s.np:Int) by omega)];rfl
theorem rwPr (s:Shp) (po:Po):∀ v,v < s.np→(qQX (nxPr s po) s.np 0 (fun v k=>List.getD [0,0,0,0,0,0] k 0)) v 0=(plF s po v).x.lo∧(qQX (nxPr s po) s.np 0 (fun v k=>List.getD [0,0,0,0,0,0] k 0)) v 1=(plF s po v).x.hi∧(qQX (nxPr s po) s.np 0 (fun v k=>List.getD [0,0,0,0,0,0] k 0)) v 2=(plF s po v).y.lo∧(qQX (nxPr s po) s.np 0 (fun v k=>List.getD [0,0,0,0,0,0] k 0)) v 3=(plF s po v).y.hi∧(qQX (nxPr s po) s.np 0 (fun v k=>List.getD [0,0,0,0,0,0] k 0)) v 4=(plF s po v).z.lo∧(qQX (nxPr s po) s.np 0 (fun v k=>List.getD [0,0,0,0,0,0] k 0)) v 5=(plF s po v).z.hi:=by
 refine qQG (Q:=fun (i:Nat) (q:Nat→Nat→Int)=>∀ v,v < i→q v 0=(plF s po v).x.lo∧q v 1=(plF s po v).x.hi∧q v 2=(plF s po v).y.lo∧q v 3=(plF s po v).y.hi∧q v 4=(plF s po v).z.lo∧q v 5=(plF s po v).z.hi) (c:=s.np) (fun i q hi h v hv => ?_) s.np 0 _ (by omega) (fun v hv=>absurd hv (by omega));by_cases e:v=i
 ·subst e;refine ⟨?_,?_,?_,?_,?_,?_⟩ <;> (show (bif Nat.beq v v then _ else _)=_; rw [qXK,vJQ rfl]; rfl)
 ·have h':=h v (by omega);have eb:Nat.beq v i=false:=by rw [qXK,vYH e]
  refine ⟨?_,?_,?_,?_,?_,?_⟩ <;> (show (bif Nat.beq v i then _ else _)=_; rw [eb])
  ·exact h'.1
  ·exact h'.2.1
  ·exact h'.2.2.1
  ·exact h'.2.2.2.1
  ·exact h'.2.2.2.2.1
  ·exact h'.2.2.2.2.2
def prR (s:Shp) (po:Po):Nat→List PV:=(fun v=>[.n .i64 ((qQX (nxPr s po) s.np 0 (fun v k=>List.getD [0,0,0,0,0,0] k 0)) v 0),.n .i64 ((qQX (nxPr s po) s.np 0 (fun v k=>List.getD [0,0,0,0,0,0] k 0)) v 1),.n .i64 ((qQX (nxPr s po) s.np 0 (fun v k=>List.getD [0,0,0,0,0,0] k 0)) v 2),.n .i64 ((qQX (nxPr s po) s.np 0 (fun v k=>List.getD [0,0,0,0,0,0] k 0)) v 3),.n .i64 ((qQX (nxPr s po) s.np 0 (fun v k=>List.getD [0,0,0,0,0,0] k 0)) v 4),.n .i64 ((qQX (nxPr s po) s.np 0 (fun v k=>List.getD [0,0,0,0,0,0] k 0)) v 5)])
noncomputable def jQK (s:Shp) (po:Po):List (List Nat × yG):=[([0,1,0,1,1,1],sumF (fun _:Unit=>(hPr s po 0 0 (fun v k=>List.getD [0,0,0,0,0,0] k 0))) (fun _=>()) (fun _ K=>(bif (decide (s.np≤50)) then (K (.exit 0) ⟨[(5,.o 27)],[(27,.reg 66 6 (.fo s.np (fun v=>[.n .i64 ((qQX (nxPr s po) s.np 0 (fun v k=>List.getD [0,0,0,0,0,0] k 0)) v 0),.n .i64 ((qQX (nxPr s po) s.np 0 (fun v k=>List.getD [0,0,0,0,0,0] k 0)) v 1),.n .i64 ((qQX (nxPr s po) s.np 0 (fun v k=>List.getD [0,0,0,0,0,0] k 0)) v 2),.n .i64 ((qQX (nxPr s po) s.np 0 (fun v k=>List.getD [0,0,0,0,0,0] k 0)) v 3),.n .i64 ((qQX (nxPr s po) s.np 0 (fun v k=>List.getD [0,0,0,0,0,0] k 0)) v 4),.n .i64 ((qQX (nxPr s po) s.np 0 (fun v k=>List.getD [0,0,0,0,0,0] k 0)) v 5)])))]⟩) else none)))]
set_option maxRecDepth 100000 in
theorem xKQ (s:Shp) (po:Po):qQZ Tf (orPr s po) (qK (jQK s po)) 60 95 [.a (sP s),.a (Rx.poC (po))] =
 (bif (gF1 crk erk s) then (bif (shOk s) then (bif (gSt (hPr s po 0 0 (fun v k=>List.getD [0,0,0,0,0,0] k 0)) (hPr s po 0 0 (fun v k=>List.getD [0,0,0,0,0,0] k 0))) then (bif (decide (s.np≤50)) then some (.ow 66 6 (.fo s.np (prR s po)),[])
 else none)
 else none)
 else some (.v (.l []),[]))
 else none):=by kernel_rfl
theorem kYF (s:Shp) (po:Po):zG Tryz.prog 95 [.a (sP s),.a (Rx.poC (po))] (bif shOk s then .ow 66 6 (.fo s.np (prR s po)) else .v (.l [])):=by
 refine zK (N:=60) (LO:=qK (jQK s po)) jV yQ (kQ (l:=((117,o_rk) :: L9)) (m:=[]) ⟨xXJ,uQE⟩ trivial) (fun p S hp => ?_) ?_
 ·refine zQ (L:=qY Tf 95) (l:=(jQK s po)) (show AllP _ (jQK s po) from ⟨?_,trivial⟩) p S hp
  ·dsimp only;refine jK (T:=Tf) (o:=(orPr s po)) (f:=95) (LO:=qK []) (p:=[0,1,0,1,1,1]) kU ?_;intro t K r hr;obtain ⟨hg,hr⟩:=qQ hr;have hk:=vJZ hg;exact (lpPr K s po hk).trans hr
 ·refine (xKQ s po).trans ?_;rw [jX (C:=crk) (t:=s) trivial];cases h:shOk s with
  | false=>rfl
  | true =>
   have hb:=zUU h;simp only [vYV,Bool.not_true,vYG,yJ,vJQ (show s.np≤50 by omega),toN]
   all_goals rfl
theorem uJE (s:Shp) (po:Po):zG Tryz.prog 95 [.a (sP s),.a (Rx.poC po)] (.v (.lf (plN s) (fV (plF s po)))):=by
 have h0:=kYF s po;unfold plN;cases h:shOk s with
 | true =>
  rw [h] at h0;refine qQU (zXB fun j (hj:j < s.np) => ?_) (qXB h0);obtain ⟨h1,h2,h3,h4,h5,h6⟩:=rwPr s po j hj;show [PV.n .i64 ((qQX (nxPr s po) s.np 0 (fun v k=>List.getD [0,0,0,0,0,0] k 0)) j 0),PV.n .i64 ((qQX (nxPr s po) s.np 0 (fun v k=>List.getD [0,0,0,0,0,0] k 0)) j 1),PV.n .i64 ((qQX (nxPr s po) s.np 0 (fun v k=>List.getD [0,0,0,0,0,0] k 0)) j 2),PV.n .i64 ((qQX (nxPr s po) s.np 0 (fun v k=>List.getD [0,0,0,0,0,0] k 0)) j 3),PV.n .i64 ((qQX (nxPr s po) s.np 0 (fun v k=>List.getD [0,0,0,0,0,0] k 0)) j 4),PV.n .i64 ((qQX (nxPr s po) s.np 0 (fun v k=>List.getD [0,0,0,0,0,0] k 0)) j 5)]=_;rw [h1,h2,h3,h4,h5,h6];rfl
 | false =>
  rw [h] at h0;exact qQU (Same.lf rfl) h0
def cpr:Shp × Po→Prop:=fun t=>match t with | (_,_)=>True
def epr:Shp × Po→List PV:=fun t=>match t with | (s,po)=>[.a (sP s),.a (Rx.poC po)]
noncomputable def rpr:Shp × Po→Ret:=fun t=>match t with | (s,po)=>.v (.lf (plN s) (fV (plF s po)))
def dpr:List PV→Shp × Po:=fun ps=>match ps with
 | [.a r,.a q]=>(unS r,unPo q)
 | _=>(⟨0,0,0,fun _=>⟨0,0,0⟩⟩,Po.rest)
noncomputable def o_pr:List PV→Option (Bool × Ret):=o_fm dpr cpr epr rpr
theorem fUY:zZ Tryz.prog 95 o_pr:=qQV fun t h=>by
 obtain ⟨s,po⟩:=t;exact uJE s po
end Go.Proofs.YtmeldddgjfocdaaGreat.Gd
namespace Go.Proofs.YtmeldddgjfocdaaGreat.Ge
open Go.Rx Rt Go.Sx Go.RowKit Od Na Nb Nc Nx Nf Ga Gb Gc Gd
def pzF (js:Nat→J) (bx:Nat→Iv) (n:Nat) (l:Int):Po:=bif decide (l = -1) then Po.rest else LP js bx n l.toNat
def ptR (js:Nat→J) (bx:Nat→Iv) (sh:Nat→Shp) (n:Nat):Nat→List PV:=fun i=>[.lf (plN (sh i)) (fV (plF (sh i) (pzF js bx n (sh i).link)))]
theorem qKK {js:Nat→J} {ms:Nat→Ms} {sh:Nat→Shp} {sk:Nat→Skp} {n m c d:Nat} (h:sErr js ms sh sk n m c d=0):rErr js ms n m=0∧c≤24∧∀ i,i < c→shE n (sh i)=0:=by
 unfold sErr at h;by_cases h1:rErr js ms n m=0
 ·rw [vJQ h1,vYV] at h;by_cases h2:24 < (c:Int)
  ·rw [vJQ h2,vYV] at h; exact absurd h (by decide)
  ·rw [vYH h2,vYG] at h;cases h3:shG sh n c with
   | true=>exact ⟨h1,by omega,fun i hi=>vJZ (allN_iff.1 h3 i (Nat.zero_le _) (by omega))⟩
   | false =>
    rw [h3,vYG] at h;have hf:∀ k p,allN (fun i:Nat=>decide (shE n (sh i)=0)) k p=false→shE n (sh (Rx.firstK (fun i:Nat=>decide (shE n (sh i)=0)) k p)) ≠ 0:=by
     intro k;induction k with
     | zero=>intro p hp; cases hp
     | succ k ih =>
      intro p hp;unfold allN at hp;unfold Rx.firstK;by_cases h0:shE n (sh p)=0
      ·rw [vJQ h0] at hp ⊢;exact ih _ (by simpa using hp)
      ·rw [vYH h0];exact h0
    exact absurd h (hf c 0 h3)
 ·rw [vYH h1,vYG] at h; exact absurd h h1
theorem qHY {n:Nat} {s:Shp} (h:shE n s=0):(-1≤s.link∧s.link < (n:Int))∧shOk s=true:=by
 unfold shE at h;cases h1:isLk n s.link with
 | false=>rw [h1] at h; exact absurd (show (902:Int)=0 from h) (by decide)
 | true =>
  rw [h1,Bool.not_true,Bool.false_or] at h;unfold isLk at h1;rw [vQJ,decide_eq_true_eq,decide_eq_true_eq] at h1;refine ⟨h1,?_⟩;unfold shOk;cases h2:(decide (s.rad < 1) || (decide (1048576 < s.rad) || (decide ((s.np:Int) < 1) || decide (8 < (s.np:Int))))) with
  | true=>rw [h2] at h; exact absurd (show (902:Int)=0 from h) (by decide)
  | false =>
   rw [h2,vYG] at h;cases h3:zUD s with
   | true=>rfl
   | false=>rw [h3] at h; exact absurd (show (805:Int)=0 from h) (by decide)
theorem xVA {js:Nat→J} {ms:Nat→Ms} {bx:Nat→Iv} {n m k:Nat} (h:(decide (rErr js ms n m=0) && isB bx n k)=true):rErr js ms n m=0∧k=n∧allV bx n=true:=by
 unfold isB at h;simp only [vQJ,decide_eq_true_eq] at h;obtain ⟨h1,h2,h3⟩:=h;have e:k=n:=by omega
 exact ⟨h1,e,e ▸ h3⟩
theorem fXG {js:Nat→J} {ms:Nat→Ms} {bx:Nat→Iv} {n m k:Nat} (h:(decide (rErr js ms n m=0) && isB bx n k)=true):zG Tryz.prog 105 [.a [.lf n (fJ js),.lf m (fM ms)],.lf k (fB bx)] (.v (.lf n (fP (LP js bx n)))):=by
 obtain ⟨h1,rfl,h3⟩:=xVA h;exact xYK js ms bx k m (by have:=qHA h1; omega) (yHW h1)
theorem xJJ {js:Nat→J} {ms:Nat→Ms} {bx:Nat→Iv} {n m k:Nat} (h:(decide (rErr js ms n m=0) && isB bx n k)=true):zG Tryz.prog 25 [.a [.lf n (fJ js),.lf m (fM ms)],.lf k (fB bx)] (.v (.lf n (fP (LP js bx n)))):=by
 obtain ⟨h1,rfl,h3⟩:=xVA h;exact uZQ js ms bx k m h1 h3
noncomputable def orRq (js:Nat→J) (ms:Nat→Ms) (sh:Nat→Shp) (sk:Nat→Skp) (n m c d:Nat) (bx:Nat→Iv) (k:Nat):OrS:=orS ((71,o_lk [.a [.lf n (fJ js),.lf m (fM ms)],.lf k (fB bx)] (decide (n≤50)) (.v (.b (isB bx n k)))) :: (37,o_cr [.a [.lf n (fJ js),.lf m (fM ms),.lf c (fS sh),.lf d (fK sk)]] (.v (.n .i64 (sErr js ms sh sk n m c d)))) :: (25,o_lk [.a [.lf n (fJ js),.lf m (fM ms)],.lf k (fB bx)] (decide (rErr js ms n m=0) && isB bx n k) (.v (.lf n (fP (LP js bx n))))) :: (95,o_pr) :: L9) []
noncomputable def hRq (js:Nat→J) (ms:Nat→Ms) (sh:Nat→Shp) (sk:Nat→Skp) (n m c d:Nat) (bx:Nat→Iv) (k:Nat) (i:Int) (r:Nat) (g:Nat→PV):St:=⟨[(2,.p 2 0),(5,.v (.lf n (fP (LP js bx n)))),(6,.o 56),(7,.v (.n .i64 i))],[(2,.blk [.v (.lf n (fJ js)),.v (.lf m (fM ms)),.v (.lf c (fS sh)),.v (.lf d (fK sk))]),(56,.reg 92 1 (.fo r (fun v=>[(g v)])))]⟩
set_option maxRecDepth 100000 in
theorem rdRq (G:St→Option (Ret × Mem)) (K:Cont) (js:Nat→J) (ms:Nat→Ms) (sh:Nat→Shp) (sk:Nat→Skp) (n m c d:Nat) (bx:Nat→Iv) (k:Nat) (i:Int) (r:Nat) (g:Nat→PV):stpT Tf 40 (orRq js ms sh sk n m c d bx k) 60 [] [0,1,0,1,1,1,1] K G (hRq js ms sh sk n m c d bx k i r g) =
 (bif (decide (i < (c:Int))) then (bif (inB i c) then (bif (!decide ((sh (i).toNat).link=(-1))) then (bif (inB i c) then (bif (inB (sh (i).toNat).link n) then (bif (inB i c) then (bif (gF1 cpr epr ((sh (i).toNat),(LP js bx n ((sh (i).toNat).link).toNat))) then (bif (decide (r + 1≤1000000)) then (G (hRq js ms sh sk n m c d bx k (vJJ .i64 (i + 1)) (r + 1) (fun v=>(qHL (Nat.beq v r) (.lf (plN (sh (i).toNat)) (fV (plF (sh (i).toNat) (LP js bx n ((sh (i).toNat).link).toNat)))) (g v)))))
 else none)
 else none)
 else none)
 else none)
 else none)
 else (bif (inB i c) then (bif (gF1 cpr epr ((sh (i).toNat),(Po.rest))) then (bif (decide (r + 1≤1000000)) then (G (hRq js ms sh sk n m c d bx k (vJJ .i64 (i + 1)) (r + 1) (fun v=>(qHL (Nat.beq v r) (.lf (plN (sh (i).toNat)) (fV (plF (sh (i).toNat) (Po.rest)))) (g v)))))
 else none)
 else none)
 else none))
 else none)
 else (K (.exit 0) ⟨[(6,.o 56)],[(56,.reg 92 1 (.fo r (fun v=>[(g v)])))]⟩)):=by kernel_rfl
noncomputable def nxRq (js:Nat→J) (_:Nat→Ms) (sh:Nat→Shp) (_:Nat→Skp) (n m c d:Nat) (bx:Nat→Iv) (k:Nat) (i:Nat) (g:Nat→PV):Nat→PV:=fun v=>qHL (Nat.beq v i) (.lf (plN (sh i)) (fV (plF (sh i) (pzF js bx n (sh i).link)))) (g v)
theorem lpRq (K:Cont) (js:Nat→J) (ms:Nat→Ms) (sh:Nat→Shp) (sk:Nat→Skp) (n m c d:Nat) (bx:Nat→Iv) (k:Nat) (_:c≤24) (hL:∀ i,i < c → -1≤(sh i).link∧(sh i).link < (n:Int)):LFT Tf 40 (orRq js ms sh sk n m c d bx k) 60 [] [0,1,0,1,1,1,1] K 60 (hRq js ms sh sk n m c d bx k 0 0 (fun _=>.zs))=(K (.exit 0) ⟨[(6,.o 56)],[(56,.reg 92 1 (.fo c (fun v=>[((qQX (nxRq js ms sh sk n m c d bx k) c 0 (fun _=>.zs)) v)])))]⟩):=by
 refine (kV (L:=LFT Tf 40 (orRq js ms sh sk n m c d bx k) 60 [] [0,1,0,1,1,1,1] K) (stp:=stpT Tf 40 (orRq js ms sh sk n m c d bx k) 60 [] [0,1,0,1,1,1,1] K) (fun _ _=>rfl) (fun (i:Nat) (g:Nat→PV)=>hRq js ms sh sk n m c d bx k (i:Int) i g) (fun _ _=>True) (fun _ _=>true) (nxRq js ms sh sk n m c d bx k) (c:=c) (fun g=>(K (.exit 0) ⟨[(6,.o 56)],[(56,.reg 92 1 (.fo c (fun v=>[(g v)])))]⟩)) (fun _ _=>none) (fun G i g hi _ => ?_) (fun _ _ _ _ _=>trivial) (fun G g _ => ?_) c 0 60 _ (by omega) (by omega) trivial).trans (qZH c 0 _)
 ·refine (rdRq G K js ms sh sk n m c d bx k i i g).trans ?_;simp only [vJQ (show (i:Int) < (c:Int) by omega),kK (show i < 1000000 by omega),yU (show i < c by omega),toN,vYV,vJQ (show i + 1≤1000000 by omega)];have hl:=hL i hi;by_cases h:(sh i).link = -1
  ·rw [vJQ h,Bool.not_true,vYG,jX (C:=cpr) (t:=(sh i,Po.rest)) trivial,vYV];unfold nxRq pzF;rw [vJQ h];rfl
  ·have hb:inB (sh i).link n=true:=by
    unfold inB;rw [vJQ (show 0≤(sh i).link by omega),vJQ (show (sh i).link.toNat < n by omega)];rfl
   rw [vYH h,Bool.not_false,vYV,hb,vYV,jX (C:=cpr) (t:=(sh i,LP js bx n (sh i).link.toNat)) trivial,vYV];unfold nxRq pzF;rw [vYH h];rfl
 ·refine (rdRq G K js ms sh sk n m c d bx k (c:Int) c g).trans ?_;rw [vYH (show ¬ (c:Int) < (c:Int) by omega)];rfl
theorem rwRq (js:Nat→J) (ms:Nat→Ms) (sh:Nat→Shp) (sk:Nat→Skp) (n m c d:Nat) (bx:Nat→Iv) (k:Nat):∀ v,v < c→(qQX (nxRq js ms sh sk n m c d bx k) c 0 (fun _=>.zs)) v=.lf (plN (sh v)) (fV (plF (sh v) (pzF js bx n (sh v).link))):=by
 refine qQG (Q:=fun (i:Nat) (g:Nat→PV)=>∀ v,v < i→g v=.lf (plN (sh v)) (fV (plF (sh v) (pzF js bx n (sh v).link)))) (c:=c) (fun i g hi h v hv => ?_) c 0 _ (by omega) (fun v hv=>absurd hv (by omega));show qHL (Nat.beq v i) _ (g v)=_;by_cases e:v=i
 ·subst e;rw [qXK,vJQ rfl,yHL]
 ·rw [qXK,vYH e,jQQ];exact h v (by omega)
noncomputable def rqR (js:Nat→J) (ms:Nat→Ms) (sh:Nat→Shp) (sk:Nat→Skp) (n m c d:Nat) (bx:Nat→Iv) (k:Nat):Nat→List PV:=fun v=>[((qQX (nxRq js ms sh sk n m c d bx k) c 0 (fun _=>.zs)) v)]
noncomputable def zQQ (js:Nat→J) (ms:Nat→Ms) (sh:Nat→Shp) (sk:Nat→Skp) (n m c d:Nat) (bx:Nat→Iv) (k:Nat):List (List Nat × yG):=[([0,1,0,1,1,1,1],sumF (fun _:Unit=>(hRq js ms sh sk n m c d bx k 0 0 (fun _=>.zs))) (fun _=>()) (fun _ K=>(bif gP (sErr js ms sh sk n m c d=0) then (K (.exit 0) ⟨[(6,.o 56)],[(56,.reg 92 1 (.fo c (fun v=>[((qQX (nxRq js ms sh sk n m c d bx k) c 0 (fun _=>.zs)) v)])))]⟩) else none)))]
set_option maxRecDepth 100000 in
theorem jWK (js:Nat→J) (ms:Nat→Ms) (sh:Nat→Shp) (sk:Nat→Skp) (n m c d:Nat) (bx:Nat→Iv) (k:Nat):qQZ Tf (orRq js ms sh sk n m c d bx k) (qK (zQQ js ms sh sk n m c d bx k)) 60 40 [.a [.lf n (fJ js),.lf m (fM ms),.lf c (fS sh),.lf d (fK sk)],.lf k (fB bx)] =
 (bif (g1 [.a [.lf n (fJ js),.lf m (fM ms),.lf c (fS sh),.lf d (fK sk)]]) then (bif (!decide ((sErr js ms sh sk n m c d)=0)) then some (.v (.l []),[])
 else (bif (g1 [.a [.lf n (fJ js),.lf m (fM ms)],.lf k (fB bx)] && decide (n≤50)) then (bif (isB bx n k) then (bif (g1 [.a [.lf n (fJ js),.lf m (fM ms)],.lf k (fB bx)] && (decide (rErr js ms n m=0) && isB bx n k)) then (bif (gSt (hRq js ms sh sk n m c d bx k 0 0 (fun _=>.zs)) (hRq js ms sh sk n m c d bx k 0 0 (fun _=>.zs))) then (bif gP (sErr js ms sh sk n m c d=0) then some (.ow 92 1 (.fo c (rqR js ms sh sk n m c d bx k)),[])
 else none)
 else none)
 else none)
 else some (.v (.l []),[]))
 else none))
 else none):=by kernel_rfl
theorem zHZ (js:Nat→J) (ms:Nat→Ms) (sh:Nat→Shp) (sk:Nat→Skp) (n m c d:Nat) (bx:Nat→Iv) (k:Nat) (_:k≤9223372036854775807):zG Tryz.prog 40 [.a [.lf n (fJ js),.lf m (fM ms),.lf c (fS sh),.lf d (fK sk)],.lf k (fB bx)] (bif isB bx n k && decide (sErr js ms sh sk n m c d=0) then .ow 92 1 (.fo c (rqR js ms sh sk n m c d bx k)) else .v (.l [])):=by
 refine zK (N:=60) (LO:=qK (zQQ js ms sh sk n m c d bx k)) jV yQ (kQ (l:=((71,o_lk [.a [.lf n (fJ js),.lf m (fM ms)],.lf k (fB bx)] (decide (n≤50)) (.v (.b (isB bx n k)))) :: (37,o_cr [.a [.lf n (fJ js),.lf m (fM ms),.lf c (fS sh),.lf d (fK sk)]] (.v (.n .i64 (sErr js ms sh sk n m c d)))) :: (25,o_lk [.a [.lf n (fJ js),.lf m (fM ms)],.lf k (fB bx)] (decide (rErr js ms n m=0) && isB bx n k) (.v (.lf n (fP (LP js bx n))))) :: (95,o_pr) :: L9)) (m:=[]) ⟨zHE (fun h=>yXY js ms bx n m k (vJZ h)),qVK (jUD js ms sh sk n m c d),zHE (fun h=>xJJ h),fUY,uQE⟩ trivial) (fun p S hp => ?_) ?_
 ·refine zQ (L:=qY Tf 40) (l:=(zQQ js ms sh sk n m c d bx k)) (show AllP _ (zQQ js ms sh sk n m c d bx k) from ⟨?_,trivial⟩) p S hp
  ·dsimp only;refine jK (T:=Tf) (o:=(orRq js ms sh sk n m c d bx k)) (f:=40) (LO:=qK []) (p:=[0,1,0,1,1,1,1]) kU ?_;intro t K r hr;obtain ⟨hg,hr⟩:=qQ hr
   skip
   exact (lpRq K js ms sh sk n m c d bx k (qKK (jH hg)).2.1 (fun i hi=>(qHY ((qKK (jH hg)).2.2 i hi)).1)).trans hr
 ·refine (jWK js ms sh sk n m c d bx k).trans ?_;rw [g1_t];by_cases h:sErr js ms sh sk n m c d=0
  ·obtain ⟨h1,h2,_⟩:=qKK h;rw [g1_t,vJQ (show n≤50 by have:=qHA h1; omega),vJQ h];cases hb:isB bx n k with
   | false=>rfl
   | true =>
    simp only [g1_t,vJQ h1,vZJ,vYV,Bool.not_true,vYG,yJ,qXJ h]
    all_goals rfl
  ·rw [vYH h,Bool.and_false]; rfl
theorem jUB (js:Nat→J) (ms:Nat→Ms) (sh:Nat→Shp) (sk:Nat→Skp) (n m c d:Nat) (bx:Nat→Iv) (k:Nat) (hk:k≤9223372036854775807):zG Tryz.prog 40 [.a [.lf n (fJ js),.lf m (fM ms),.lf c (fS sh),.lf d (fK sk)],.lf k (fB bx)] (.v (.lf (bif isB bx n k && decide (sErr js ms sh sk n m c d=0) then c else 0) (ptR js bx sh n))):=by
 have h0:=zHZ js ms sh sk n m c d bx k hk;cases h:(isB bx n k && decide (sErr js ms sh sk n m c d=0)) with
 | true =>
  rw [h] at h0;refine qQU (zXB fun j (hj:j < c) => ?_) (qXB h0);show [((qQX (nxRq js ms sh sk n m c d bx k) c 0 (fun _=>.zs)) j)]=_;rw [rwRq js ms sh sk n m c d bx k j hj];rfl
 | false =>
  rw [h] at h0;exact qQU (Same.lf rfl) h0
end Go.Proofs.YtmeldddgjfocdaaGreat.Ge
namespace Go.Proofs.YtmeldddgjfocdaaGreat.Gf
open Go.Rx Rt Go.Sx Go.RowKit Od Na Nb Nc Nx Nf Ga Gb Gc Gd Ge
theorem xHC {n:Nat}:allN (fun _:Nat=>true) n 0=true:=allN_iff.2 fun _ _ _=>rfl
def unV (r:List PV):V3:=match r with
 | [.n _ a,.n _ b,.n _ c,.n _ d,.n _ e,.n _ f]=>⟨⟨a,b⟩,⟨c,d⟩,⟨e,f⟩⟩
 | _=>⟨⟨0,0⟩,⟨0,0⟩,⟨0,0⟩⟩
def unFV (f:Nat→List PV):Nat→V3:=fun v=>unV (f v)
noncomputable def hsp (q:Nat→Po) (n:Nat) (i:Int):St:=⟨[(0,.v (.lf n (fP q))),(1,.v (.lf n (fP q))),(5,.v (.n .i64 i))],[]⟩
noncomputable def orsv (q:Nat→V3) (n:Nat):OrS:=orS [] []
noncomputable def hsv (q:Nat→V3) (n:Nat) (i:Int):St:=⟨[(0,.v (.lf n (fV q))),(1,.v (.lf n (fV q))),(5,.v (.n .i64 i))],[]⟩
set_option maxRecDepth 100000 in
theorem rdsv (G:St→Option (Ret × Mem)) (K:Cont) (q:Nat→V3) (n:Nat) (i:Int):stpT Tf 106 (orsv q n) 60 [] [0,1,0,1,1] K G (hsv q n i) =
 (bif (decide (i < (n:Int))) then (bif (inB i n) then (bif (inB i n) then (bif (!((decide ((q (i).toNat).x.lo=(q (i).toNat).x.lo)) && ((decide ((q (i).toNat).x.hi=(q (i).toNat).x.hi)) && ((decide ((q (i).toNat).y.lo=(q (i).toNat).y.lo)) && ((decide ((q (i).toNat).y.hi=(q (i).toNat).y.hi)) && ((decide ((q (i).toNat).z.lo=(q (i).toNat).z.lo)) && ((decide ((q (i).toNat).z.hi=(q (i).toNat).z.hi)) && true))))))) then (K .ret ⟨[(4,.v (.b false))],[]⟩)
 else (G (hsv q n (vJJ .i64 (i + 1)))))
 else none)
 else none)
 else (K (.exit 0) ⟨[],[]⟩)):=by kernel_rfl
theorem lpsv (K:Cont) (q:Nat→V3) (n:Nat) (_:n≤50):LFT Tf 106 (orsv q n) 60 [] [0,1,0,1,1] K 60 (hsv q n 0)=bif (allN (fun i:Nat=>true) n 0) then (K (.exit 0) ⟨[],[]⟩) else (K .ret ⟨[(4,.v (.b false))],[]⟩):=by
 refine (kV (L:=LFT Tf 106 (orsv q n) 60 [] [0,1,0,1,1] K) (stp:=stpT Tf 106 (orsv q n) 60 [] [0,1,0,1,1] K) (fun _ _=>rfl) (fun (i:Nat) (_:Unit)=>hsv q n (i:Int)) (fun _ _=>True) (fun (i:Nat) _=>true) (fun _ _=>()) (c:=n) (fun _=>(K (.exit 0) ⟨[],[]⟩)) (fun i _=>(K .ret ⟨[(4,.v (.b false))],[]⟩)) (fun G i f hi _ => ?_) (fun _ _ _ _ _=>trivial) (fun G f _ => ?_) n 0 60 () (by omega) (by omega) trivial).trans ((jY _ _ _ _ _).trans (jZ _ _ _ _ _))
 ·refine (rdsv G K q n i).trans ?_;rw [vJQ (show (i:Int) < (n:Int) by omega),kK (by omega),yU (show i < n by omega),toN];simp only [eq_self,decide_true,vZJ,Bool.not_true,vYG,vYV]
  all_goals rfl
 ·refine (rdsv G K q n n).trans ?_;rw [vYH (show ¬ (n:Int) < (n:Int) by omega)];rfl
noncomputable def kWV (q:Nat→V3) (n:Nat):List (List Nat × yG):=[([0,1,0,1,1],sumF (fun _:Unit=>(hsv q n 0)) (fun _=>()) (fun _ K=>(bif (decide (n≤50)) then (bif (allN (fun i:Nat=>true) n 0) then (K (.exit 0) ⟨[],[]⟩) else (K .ret ⟨[(4,.v (.b false))],[]⟩)) else none)))]
set_option maxRecDepth 100000 in
theorem fYX (q:Nat→V3) (n:Nat):qQZ Tf (orsv q n) (qK (kWV q n)) 60 106 [.lf n (fV q),.lf n (fV q)] =
 (bif (!decide ((n:Int)=(n:Int))) then some (.v (.b false),[])
 else (bif (gSt (hsv q n 0) (hsv q n 0)) then (bif (decide (n≤50)) then (bif (allN (fun i:Nat=>true) n 0) then some (.v (.b true),[])
 else some (.v (.b false),[]))
 else none)
 else none)):=by kernel_rfl
theorem uJW (q:Nat→V3) (n:Nat) (hn:n≤50):zG Tryz.prog 106 [.lf n (fV q),.lf n (fV q)] (.v (.b true)):=by
 refine zK (N:=60) (LO:=qK (kWV q n)) jV yQ (kQ (l:=[]) (m:=[]) trivial trivial) (fun p S hp => ?_) ?_
 ·refine zQ (L:=qY Tf 106) (l:=(kWV q n)) (show AllP _ (kWV q n) from ⟨?_,trivial⟩) p S hp
  ·dsimp only;refine jK (T:=Tf) (o:=(orsv q n)) (f:=106) (LO:=qK []) (p:=[0,1,0,1,1]) kU ?_;intro t K r hr;obtain ⟨hg,hr⟩:=qQ hr;have hn:=vJZ hg;exact (lpsv K q n hn).trans hr
 ·refine (fYX q n).trans ?_;rw [vJQ (show (n:Int)=(n:Int) from rfl),yJ,vJQ hn,xHC];rfl
def csv:Nat × (Nat→V3)→Prop:=fun t=>match t with | (n,_)=>n≤50
def esv:Nat × (Nat→V3)→List PV:=fun t=>match t with | (n,q)=>[.lf n (fV q),.lf n (fV q)]
noncomputable def rsv:Nat × (Nat→V3)→Ret:=fun t=>match t with | (_,_)=>.v (.b true)
def dsv:List PV→Nat × (Nat→V3):=fun ps=>match ps with
 | [.lf n f,_]=>(n,unFV f)
 | _=>(0,fun _=>⟨⟨0,0⟩,⟨0,0⟩,⟨0,0⟩⟩)
noncomputable def o_sv:List PV→Option (Bool × Ret):=o_fm dsv csv esv rsv
theorem xUC:zZ Tryz.prog 106 o_sv:=qQV fun t h=>by
 obtain ⟨n,q⟩:=t;exact uJW q n h
def fVV (g:Nat→Nat) (x:Nat→Nat→V3):Nat→List PV:=fun v=>[.lf (g v) (fV (x v))]
noncomputable def hsl (g:Nat→Nat) (x:Nat→Nat→V3) (c:Nat) (i:Int):St:=⟨[(0,.v (.lf c (fVV g x))),(1,.v (.lf c (fVV g x))),(5,.v (.n .i64 i))],[]⟩
end Go.Proofs.YtmeldddgjfocdaaGreat.Gf
namespace Go.Proofs.YtmeldddgjfocdaaGreat.Gg
open Go.Rx Rt Go.Sx Go.RowKit Od Na Nb Nc Nx Nf Ga Gb Gc Gd Ge Gf
noncomputable def fKG (js:Nat→J) (ms:Nat→Ms) (bx:Nat→Iv) (n m k:Nat):OrS:=orS [(103,o_lk [.a [.lf n (fJ js),.lf m (fM ms)],.lf k (fB bx)] (decide (k≤9223372036854775807)) (.v (.b (isB bx n k)))),(104,o_cr [.a [.lf n (fJ js),.lf m (fM ms)]] (.v (.n .i64 (rErr js ms n m)))),(105,o_lk [.a [.lf n (fJ js),.lf m (fM ms)],.lf k (fB bx)] (decide (rErr js ms n m=0) && isB bx n k) (.v (.lf n (fP (LP js bx n)))))] []
noncomputable def kVU (_:Nat→J) (_:Nat→Ms) (_:Nat→Iv) (n m k:Nat):List (List Nat × yG):=[]
set_option maxRecDepth 100000 in
theorem fJK (js:Nat→J) (ms:Nat→Ms) (bx:Nat→Iv) (n m k:Nat):qQZ Tf (fKG js ms bx n m k) (qK (kVU js ms bx n m k)) 60 51 [.a [.lf n (fJ js),.lf m (fM ms)],.lf k (fB bx)] =
 (bif (g1 [.a [.lf n (fJ js),.lf m (fM ms)],.lf k (fB bx)] && decide (k≤9223372036854775807)) then (bif (isB bx n k) then (bif (g1 [.a [.lf n (fJ js),.lf m (fM ms)]]) then (bif (!decide ((rErr js ms n m)=0)) then some (.v (.l []),[])
 else (bif (g1 [.a [.lf n (fJ js),.lf m (fM ms)],.lf k (fB bx)] && (decide (rErr js ms n m=0) && isB bx n k)) then some (.v (.lf n (fP (LP js bx n))),[])
 else none))
 else none)
 else some (.v (.l []),[]))
 else none):=by kernel_rfl
theorem uKA (js:Nat→J) (ms:Nat→Ms) (bx:Nat→Iv) (n m k:Nat) (hk:k≤9223372036854775807):zG Tryz.prog 51 [.a [.lf n (fJ js),.lf m (fM ms)],.lf k (fB bx)] (.v (bif (decide (rErr js ms n m=0) && isB bx n k) then .lf n (fP (LP js bx n)) else .l [])):=by
 refine zK (N:=60) (LO:=qK (kVU js ms bx n m k)) jV yQ (kQ (l:=[(103,o_lk [.a [.lf n (fJ js),.lf m (fM ms)],.lf k (fB bx)] (decide (k≤9223372036854775807)) (.v (.b (isB bx n k)))),(104,o_cr [.a [.lf n (fJ js),.lf m (fM ms)]] (.v (.n .i64 (rErr js ms n m)))),(105,o_lk [.a [.lf n (fJ js),.lf m (fM ms)],.lf k (fB bx)] (decide (rErr js ms n m=0) && isB bx n k) (.v (.lf n (fP (LP js bx n)))))]) (m:=[]) ⟨zHE (fun h=>uKE js ms bx n m k (vJZ h)),qVK (yXJ js ms n m),zHE (fun h=>fXG h),trivial⟩ trivial) (fun p S hp => ?_) ?_
 ·refine zQ (L:=qY Tf 51) (l:=(kVU js ms bx n m k)) (show AllP _ (kVU js ms bx n m k) from trivial) p S hp
 ·refine (fJK js ms bx n m k).trans ?_;rw [g1_t,vJQ hk];cases hb:isB bx n k with
  | false=>rw [Bool.and_false]; rfl
  | true =>
   rw [g1_t];by_cases h:rErr js ms n m=0
   ·simp only [vJQ h,g1_t,vZJ,vYV,Bool.not_true,vYG]
   ·rw [vYH h]; rfl
theorem uKB (js:Nat→J) (ms:Nat→Ms) (bx:Nat→Iv) (n m k:Nat) (hk:k≤9223372036854775807):zG Tryz.prog 51 [.a [.lf n (fJ js),.lf m (fM ms)],.lf k (fB bx)] (.v (.lf (bif (decide (rErr js ms n m=0) && isB bx n k) then n else 0) (fP (LP js bx n)))):=by
 have h0:=uKA js ms bx n m k hk;cases h:(decide (rErr js ms n m=0) && isB bx n k) with
 | true=>rw [h] at h0; exact h0
 | false=>rw [h] at h0; exact qQU (Same.lf rfl) h0
noncomputable def fKX (js:Nat→J) (ms:Nat→Ms) (bx:Nat→Iv) (n m k:Nat):OrS:=orS [(70,o_cr [.a [.lf n (fJ js),.lf m (fM ms)]] (.v (.n .i64 (rErr js ms n m)))),(71,o_lk [.a [.lf n (fJ js),.lf m (fM ms)],.lf k (fB bx)] (decide (n≤50)) (.v (.b (isB bx n k))))] []
noncomputable def kWC:List (List Nat × yG):=[([0,1,0,1,1,1],fun _ _=>none)]
set_option maxRecDepth 100000 in
theorem fYB (js:Nat→J) (ms:Nat→Ms) (bx:Nat→Iv) (n m k:Nat):qQZ Tf (fKX js ms bx n m k) (qK kWC) 60 25 [.a [.lf n (fJ js),.lf m (fM ms)],.lf k (fB bx)] =
 (bif (g1 [.a [.lf n (fJ js),.lf m (fM ms)]]) then (bif (!decide ((rErr js ms n m)=0)) then some (.v (.l []),[])
 else (bif (g1 [.a [.lf n (fJ js),.lf m (fM ms)],.lf k (fB bx)] && decide (n≤50)) then (bif (isB bx n k) then none
 else some (.v (.l []),[]))
 else none))
 else none):=by kernel_rfl
theorem uJF (js:Nat→J) (ms:Nat→Ms) (bx:Nat→Iv) (n m k:Nat):zG Tryz.prog 25 [.a [.lf n (fJ js),.lf m (fM ms)],.lf k (fB bx)] (.v (.lf (bif (decide (rErr js ms n m=0) && isB bx n k) then n else 0) (fP (LP js bx n)))):=by
 cases h:(decide (rErr js ms n m=0) && isB bx n k) with
 | true=>exact xJJ h
 | false =>
  refine qQU (x:=.l []) (Same.lf rfl) ?_;refine zK (N:=60) (LO:=qK kWC) jV yQ (kQ (l:=[(70,o_cr [.a [.lf n (fJ js),.lf m (fM ms)]] (.v (.n .i64 (rErr js ms n m)))),(71,o_lk [.a [.lf n (fJ js),.lf m (fM ms)],.lf k (fB bx)] (decide (n≤50)) (.v (.b (isB bx n k))))]) (m:=[]) ⟨qVK (zHY js ms n m),zHE (fun h=>yXY js ms bx n m k (vJZ h)),trivial⟩ trivial) (fun p S hp => ?_) ?_
  ·refine zQ (L:=qY Tf 25) (l:=kWC) (show AllP _ kWC from ⟨?_,trivial⟩) p S hp;intro K K' K0 σ r hK hs;cases hs
  ·refine (fYB js ms bx n m k).trans ?_;rw [g1_t];by_cases h1:rErr js ms n m=0
   ·have hn:=qHA h1;rw [vJQ h1,vZH] at h;rw [vJQ h1,g1_t,vJQ (show n≤50 by omega),h];rfl
   ·rw [vYH h1]; rfl
end Go.Proofs.YtmeldddgjfocdaaGreat.Gg

/- Part 14 of the texts behind the last one: rules and contracts. No condition. -/
import Derived.Test.YtgmbkkkbfbocnaaGreatGS13
open Bool renaming and_eq_true → vQJ, true_and → vZH
open Go.IntKind renaming wrap → vJJ
namespace Go.Proofs.YtgmbkkkbfbocnaaGreat.Hc
open Go.Rx Rt Go.Sx Go.RowKit Od Na Nb Nc Nx Nf Nl Nm Ga Gb Gc Gd Ge Gf Gg Ha Hb
def unOf (f:Nat→List PV):Nat→ObT:=fun v=>unO (f v)
def dupO (ob:Nat→ObT) (o:ObT) (k:Nat):Bool:=!allN (fun i:Nat => !((ob i).name.toList == o.name.toList)) k 0
noncomputable def fQQ (e o:ObT):OrS:=orS [] []
noncomputable def kXA (e o:ObT):List (List Nat × jG):=[]
set_option maxRecDepth 100000 in
theorem xHW (e o:ObT):uJ Tf (fQQ e o) (qZ (kXA e o)) 60 52 [.a (oP e),.c (oP o) 0] =
 (bif (e.name.toList == o.name.toList) then some (.v (.b true),[])
 else some (.v (.b false),[])):=by kernel_rfl
theorem uYX (e o:ObT):yK Tryz.prog 52 [.a (oP e),.c (oP o) 0] (.v (.b (e.name.toList == o.name.toList))):=by
 refine zZ (N:=60) (LO:=qZ (kXA e o)) jU zW (jW (l:=[]) (m:=[]) trivial trivial) (fun p S hp => ?_) ?_
 ·refine qH (L:=qQ Tf 52) (l:=(kXA e o)) (show AllP _ (kXA e o) from trivial) p S hp
 ·refine (xHW e o).trans ?_;cases (e.name.toList == o.name.toList) <;> rfl
def cc1:ObT × ObT→Prop:=fun t=>match t with | (_,_)=>True
def ec1:ObT × ObT→List PV:=fun t=>match t with | (e,o)=>[.a (oP e),.c (oP o) 0]
noncomputable def rc1:ObT × ObT→Ret:=fun t=>match t with | (e,o)=>.v (.b (e.name.toList == o.name.toList))
def dc1:List PV→ObT × ObT:=fun ps=>match ps with
 | [.a r,.c q _]=>(unO r,unO q)
 | _=>(⟨ByteArray.empty,0,fun _=>⟨0,0,0,fun _=>⟨0,0,0⟩⟩⟩,⟨ByteArray.empty,0,fun _=>⟨0,0,0,fun _=>⟨0,0,0⟩⟩⟩)
noncomputable def o_c1:List PV→Option (Bool × Ret):=o_fm dc1 cc1 ec1 rc1
theorem fZH:zY Tryz.prog 52 o_c1:=uK fun t h=>by
 obtain ⟨e,o⟩:=t;exact uYX e o
noncomputable def orIx (k:Nat) (_:Nat→ObT) (o:ObT):OrS:=orS [(52,o_c1)] []
noncomputable def hIx (k:Nat) (ob:Nat→ObT) (o:ObT) (i:Int):St:=⟨[(0,.v (.lf k (fO ob))),(1,.v (.f 52 [] [.c (oP o) 0])),(7,.v (.n .i64 (k:Int))),(8,.v (.n .i64 i))],[]⟩
set_option maxRecDepth 100000 in
theorem rdIx (G:St→Option (Ret × Mem)) (K:Cont) (k:Nat) (ob:Nat→ObT) (o:ObT) (i:Int):jJ 60 (cxS Tf (orIx k ob o) 60 102 (ntmF Tf 102)) (evX Tf (orIx k ob o) 60 102 (ntmF Tf 102)) (qZ []) (qQ Tf 102 [0,1,0,1]) [0,1,0,1] (Tf.hint 102 (qJ (qQ Tf 102 [0,1,0,1]))) K G (hIx k ob o i) =
 (bif (decide (i < (k:Int))) then (bif (inB i k) then (bif (gF1 cc1 ec1 ((ob (i).toNat),o)) then (bif ((ob (i).toNat).name.toList == o.name.toList) then (K .ret ⟨[(4,.v (.n .i64 i))],[]⟩)
 else (G (hIx k ob o (vJJ .i64 (i + 1)))))
 else none)
 else none)
 else (K (.exit 0) ⟨[],[]⟩)):=by kernel_rfl
theorem lpIx (K:Cont) (k:Nat) (ob:Nat→ObT) (o:ObT) (_:k≤50):LFX 60 (cxS Tf (orIx k ob o) 60 102 (ntmF Tf 102)) (evX Tf (orIx k ob o) 60 102 (ntmF Tf 102)) (qZ []) (qQ Tf 102 [0,1,0,1]) [0,1,0,1] (Tf.hint 102 (qJ (qQ Tf 102 [0,1,0,1]))) K 60 (hIx k ob o 0)=bif (allN (fun i:Nat => !((ob i).name.toList == o.name.toList)) k 0) then (K (.exit 0) ⟨[],[]⟩) else (K .ret ⟨[(4,.v (.n .i64 ((Rx.firstK (fun i:Nat => !((ob i).name.toList == o.name.toList)) k 0:Nat):Int)))],[]⟩):=by
 refine (kW (L:=LFX 60 (cxS Tf (orIx k ob o) 60 102 (ntmF Tf 102)) (evX Tf (orIx k ob o) 60 102 (ntmF Tf 102)) (qZ []) (qQ Tf 102 [0,1,0,1]) [0,1,0,1] (Tf.hint 102 (qJ (qQ Tf 102 [0,1,0,1]))) K) (stp:=jJ 60 (cxS Tf (orIx k ob o) 60 102 (ntmF Tf 102)) (evX Tf (orIx k ob o) 60 102 (ntmF Tf 102)) (qZ []) (qQ Tf 102 [0,1,0,1]) [0,1,0,1] (Tf.hint 102 (qJ (qQ Tf 102 [0,1,0,1]))) K) (fun _ _=>rfl) (fun (i:Nat) (_:Unit)=>hIx k ob o (i:Int)) (fun _ _=>True) (fun (i:Nat) _ => !((ob i).name.toList == o.name.toList)) (fun _ _=>()) (c:=k) (fun _=>(K (.exit 0) ⟨[],[]⟩)) (fun i _=>(K .ret ⟨[(4,.v (.n .i64 (i:Int)))],[]⟩)) (fun G i f hi _ => ?_) (fun _ _ _ _ _=>trivial) (fun G f _ => ?_) k 0 60 () (by omega) (by omega) trivial).trans ((yH _ _ _ _ _).trans (qQV _ _ _ _ _))
 ·refine (rdIx G K k ob o i).trans ?_;rw [vJQ (show (i:Int) < (k:Int) by omega),kY (by omega),yZ (show i < k by omega),toN,jQ (C:=cc1) (t:=(ob i,o)) trivial];cases ((ob i).name.toList == o.name.toList) <;> rfl
 ·refine (rdIx G K k ob o k).trans ?_;rw [vYH (show ¬ (k:Int) < (k:Int) by omega)];rfl
noncomputable def kXJ (k:Nat) (ob:Nat→ObT) (o:ObT):List (List Nat × jG):=[([0,1,0,1],sumF (fun _:Unit=>(hIx k ob o 0)) (fun _=>()) (fun _ K=>(bif (decide (k≤50)) then (bif (allN (fun i:Nat => !((ob i).name.toList == o.name.toList)) k 0) then (K (.exit 0) ⟨[],[]⟩) else (K .ret ⟨[(4,.v (.n .i64 ((Rx.firstK (fun i:Nat => !((ob i).name.toList == o.name.toList)) k 0:Nat):Int)))],[]⟩)) else none)))]
set_option maxRecDepth 100000 in
theorem xGL (k:Nat) (ob:Nat→ObT) (o:ObT):uJ Tf (orIx k ob o) (qZ (kXJ k ob o)) 60 102 [.lf k (fO ob),.f 52 [] [.c (oP o) 0]] =
 (bif (gSt (hIx k ob o 0) (hIx k ob o 0)) then (bif (decide (k≤50)) then (bif (allN (fun i:Nat => !((ob i).name.toList == o.name.toList)) k 0) then some (.v (.n .i64 (-1)),[])
 else some (.v (.n .i64 ((Rx.firstK (fun i:Nat => !((ob i).name.toList == o.name.toList)) k 0:Nat):Int)),[]))
 else none)
 else none):=by kernel_rfl
theorem uZF (k:Nat) (ob:Nat→ObT) (o:ObT) (hk:k≤50):yK Tryz.prog 102 [.lf k (fO ob),.f 52 [] [.c (oP o) 0]] (.v (.n .i64 (bif dupO ob o k then ((Rx.firstK (fun i:Nat => !((ob i).name.toList == o.name.toList)) k 0:Nat):Int) else -1))):=by
 refine zZ (N:=60) (LO:=qZ (kXJ k ob o)) jU zW (jW (l:=[(52,o_c1)]) (m:=[]) ⟨fZH,trivial⟩ trivial) (fun p S hp => ?_) ?_
 ·refine qH (L:=qQ Tf 102) (l:=(kXJ k ob o)) (show AllP _ (kXJ k ob o) from ⟨?_,trivial⟩) p S hp
  ·dsimp only;refine jY (T:=Tf) (o:=(orIx k ob o)) (f:=102) (LO:=qZ []) (p:=[0,1,0,1]) kK ?_;intro t K r hr;obtain ⟨hg,hr⟩:=qY hr;have hk:=vJZ hg;exact (lpIx K k ob o hk).trans hr
 ·refine (xGL k ob o).trans ?_;unfold dupO;rw [yU,vJQ hk];cases allN (fun i:Nat => !((ob i).name.toList == o.name.toList)) k 0 <;> rfl
def cix:Nat × (Nat→ObT) × ObT→Prop:=fun t=>match t with | (k,_,_)=>k≤50
def eix:Nat × (Nat→ObT) × ObT→List PV:=fun t=>match t with | (k,ob,o)=>[.lf k (fO ob),.f 52 [] [.c (oP o) 0]]
noncomputable def rix:Nat × (Nat→ObT) × ObT→Ret:=fun t=>match t with | (k,ob,o)=>.v (.n .i64 (bif dupO ob o k then ((Rx.firstK (fun i:Nat => !((ob i).name.toList == o.name.toList)) k 0:Nat):Int) else -1))
def dix:List PV→Nat × (Nat→ObT) × ObT:=fun ps=>match ps with
 | [.lf k f,.f _ _ [.c q _]]=>(k,unOf f,unO q)
 | _=>(0,fun _=>⟨ByteArray.empty,0,fun _=>⟨0,0,0,fun _=>⟨0,0,0⟩⟩⟩,⟨ByteArray.empty,0,fun _=>⟨0,0,0,fun _=>⟨0,0,0⟩⟩⟩)
noncomputable def o_ix:List PV→Option (Bool × Ret):=o_fm dix cix eix rix
theorem fZQ:zY Tryz.prog 102 o_ix:=uK fun t h=>by
 obtain ⟨k,ob,o⟩:=t;exact uZF k ob o h
noncomputable def fQZ (k:Nat) (_:Nat→ObT) (o:ObT):OrS:=orS [(102,o_ix)] []
noncomputable def kXB (k:Nat) (_:Nat→ObT) (o:ObT):List (List Nat × jG):=[]
set_option maxRecDepth 100000 in
theorem xHV (k:Nat) (ob:Nat→ObT) (o:ObT):uJ Tf (fQZ k ob o) (qZ (kXB k ob o)) 60 54 [.lf k (fO ob),.f 52 [] [.c (oP o) 0]] =
 (bif (gF1 cix eix (k,ob,o)) then (bif (decide (0≤(bif dupO ob o k then ((Rx.firstK (fun i:Nat => !((ob i).name.toList == o.name.toList)) k 0:Nat):Int) else -1))) then some (.v (.b true),[])
 else some (.v (.b false),[]))
 else none):=by kernel_rfl
theorem uYG (k:Nat) (ob:Nat→ObT) (o:ObT) (hk:k≤50):yK Tryz.prog 54 [.lf k (fO ob),.f 52 [] [.c (oP o) 0]] (.v (.b (dupO ob o k))):=by
 refine zZ (N:=60) (LO:=qZ (kXB k ob o)) jU zW (jW (l:=[(102,o_ix)]) (m:=[]) ⟨fZQ,trivial⟩ trivial) (fun p S hp => ?_) ?_
 ·refine qH (L:=qQ Tf 54) (l:=(kXB k ob o)) (show AllP _ (kXB k ob o) from trivial) p S hp
 ·refine (xHV k ob o).trans ?_;rw [jQ (C:=cix) (t:=(k,ob,o)) hk];cases dupO ob o k with
  | false=>rfl
  | true =>
   rw [vYV,vYV,vJQ (show 0≤((Rx.firstK (fun i:Nat => !((ob i).name.toList == o.name.toList)) k 0:Nat):Int) by omega)];rfl
def ccf:Nat × (Nat→ObT) × ObT→Prop:=fun t=>match t with | (k,_,_)=>k≤50
def ecf:Nat × (Nat→ObT) × ObT→List PV:=fun t=>match t with | (k,ob,o)=>[.lf k (fO ob),.f 52 [] [.c (oP o) 0]]
noncomputable def rcf:Nat × (Nat→ObT) × ObT→Ret:=fun t=>match t with | (k,ob,o)=>.v (.b (dupO ob o k))
def dcf:List PV→Nat × (Nat→ObT) × ObT:=fun ps=>match ps with
 | [.lf k f,.f _ _ [.c q _]]=>(k,unOf f,unO q)
 | _=>(0,fun _=>⟨ByteArray.empty,0,fun _=>⟨0,0,0,fun _=>⟨0,0,0⟩⟩⟩,⟨ByteArray.empty,0,fun _=>⟨0,0,0,fun _=>⟨0,0,0⟩⟩⟩)
noncomputable def o_cf:List PV→Option (Bool × Ret):=o_fm dcf ccf ecf rcf
theorem fZG:zY Tryz.prog 54 o_cf:=uK fun t h=>by
 obtain ⟨k,ob,o⟩:=t;exact uYG k ob o h
def csk_:(Nat→J) × (Nat→Ms) × (Nat→Shp) × (Nat→Skp) × Nat × Nat × Nat × Nat→Prop:=fun t=>match t with | (_,_,_,_,_,_,_,_)=>True
def esk_:(Nat→J) × (Nat→Ms) × (Nat→Shp) × (Nat→Skp) × Nat × Nat × Nat × Nat→List PV:=fun t=>match t with | (js,ms,sh,sk,n,m,c,d)=>[.a [.lf n (fJ js),.lf m (fM ms),.lf c (fS sh),.lf d (fK sk)]]
noncomputable def rsk_:(Nat→J) × (Nat→Ms) × (Nat→Shp) × (Nat→Skp) × Nat × Nat × Nat × Nat→Ret:=fun t=>match t with | (js,ms,sh,sk,n,m,c,d)=>.v (.n .i64 (sErr js ms sh sk n m c d))
def dsk_:List PV→(Nat→J) × (Nat→Ms) × (Nat→Shp) × (Nat→Skp) × Nat × Nat × Nat × Nat:=fun ps=>match ps with
 | [.a [.lf n js,.lf m ms,.lf c sh,.lf d sk]]=>(unFJ js,unFM ms,unFS sh,unFK sk,n,m,c,d)
 | _=>(fun _=>⟨ByteArray.empty,0,0,⟨0,0,0⟩,0,0,0,0,0,0⟩,fun _=>⟨0,0,⟨0,0,0⟩⟩,fun _=>⟨0,0,0,fun _=>⟨0,0,0⟩⟩,fun _=>⟨0,0⟩,0,0,0,0)
noncomputable def uUI:List PV→Option (Bool × Ret):=o_fm dsk_ csk_ esk_ rsk_
theorem xZC:zY Tryz.prog 50 uUI:=uK fun t h=>by
 obtain ⟨js,ms,sh,sk,n,m,c,d⟩:=t;exact uZJ js ms sh sk n m c d
def crc_:(Nat→J) × (Nat→Ms) × (Nat→Shp) × (Nat→Skp) × Nat × Nat × Nat × Nat→Prop:=fun t=>match t with | (_,_,_,_,_,_,_,_)=>True
def erc_:(Nat→J) × (Nat→Ms) × (Nat→Shp) × (Nat→Skp) × Nat × Nat × Nat × Nat→List PV:=fun t=>match t with | (js,ms,sh,sk,n,m,c,d)=>[.a [.lf n (fJ js),.lf m (fM ms),.lf c (fS sh),.lf d (fK sk)]]
noncomputable def rrc_:(Nat→J) × (Nat→Ms) × (Nat→Shp) × (Nat→Skp) × Nat × Nat × Nat × Nat→Ret:=fun t=>match t with | (js,ms,sh,sk,n,m,c,d)=>.v (.n .i64 (sErr js ms sh sk n m c d))
def drc_:List PV→(Nat→J) × (Nat→Ms) × (Nat→Shp) × (Nat→Skp) × Nat × Nat × Nat × Nat:=fun ps=>match ps with
 | [.a [.lf n js,.lf m ms,.lf c sh,.lf d sk]]=>(unFJ js,unFM ms,unFS sh,unFK sk,n,m,c,d)
 | _=>(fun _=>⟨ByteArray.empty,0,0,⟨0,0,0⟩,0,0,0,0,0,0⟩,fun _=>⟨0,0,⟨0,0,0⟩⟩,fun _=>⟨0,0,0,fun _=>⟨0,0,0⟩⟩,fun _=>⟨0,0⟩,0,0,0,0)
noncomputable def uUL:List PV→Option (Bool × Ret):=o_fm drc_ crc_ erc_ rrc_
theorem xZF:zY Tryz.prog 56 uUL:=uK fun t h=>by
 obtain ⟨js,ms,sh,sk,n,m,c,d⟩:=t;exact uZX js ms sh sk n m c d
noncomputable def orGw (_:Wsp):OrS:=orS [(50,uUI),(51,o_fi),(53,o_nm),(54,o_cf),(55,o_so)] []
noncomputable def hGw (ws:Wsp) (i:Int) (s:Int):St:=⟨[(1,.p 1 0),(4,.v (.n .i64 s)),(22,.v (.lf ws.no (fO ws.ob))),(23,.v (.n .i64 (ws.no:Int))),(24,.v (.n .i64 i))],[(1,.blk ((wP ws).map .v))]⟩
set_option maxRecDepth 100000 in
theorem rdGw (G:St→Option (Ret × Mem)) (K:Cont) (ws:Wsp) (i:Int) (s:Int):jJ 60 (cxS Tf (orGw ws) 60 16 (ntmF Tf 16)) (evX Tf (orGw ws) 60 16 (ntmF Tf 16)) (qZ []) (qQ Tf 16 [0,1,0,1,1,1,1]) [0,1,0,1,1,1,1] (Tf.hint 16 (qJ (qQ Tf 16 [0,1,0,1,1,1,1]))) K G (hGw ws i s) =
 (bif (decide (i < (ws.no:Int))) then (bif (inB i ws.no) then (bif (nmB (ws.ob (i).toNat).name) then (bif (inS none (some i) ws.no) then (bif (gF1 ccf ecf (((i).toNat - 0),(fun v=>(ws.ob (v + 0))),(ws.ob (i).toNat))) then (bif (dupO (fun v=>(ws.ob (v + 0))) (ws.ob (i).toNat) ((i).toNat - 0)) then (K .ret ⟨[(2,.v (.n .i64 3402)),(4,.v (.n .i64 s))],[]⟩)
 else (bif (gF1 cso eso (ws.ob (i).toNat)) then (bif (soOk (ws.ob (i).toNat)) then (G (hGw ws (vJJ .i64 (i + 1)) (vJJ .i64 (s + ((ws.ob (i).toNat).ns:Int)))))
 else (K .ret ⟨[(2,.v (.n .i64 3402)),(4,.v (.n .i64 s))],[]⟩))
 else none))
 else none)
 else none)
 else (K .ret ⟨[(2,.v (.n .i64 3402)),(4,.v (.n .i64 s))],[]⟩))
 else none)
 else (K (.exit 0) ⟨[(4,.v (.n .i64 s))],[]⟩)):=by kernel_rfl
def obG (ws:Wsp) (i:Nat):Bool:=nmB (ws.ob i).name && (!dupO ws.ob (ws.ob i) i && soOk (ws.ob i))
def cntF (ws:Wsp):Nat→Int
 | 0=>(ws.c:Int)
 | i + 1=>vJJ .i64 (cntF ws i + ((ws.ob i).ns:Int))
def obA (ws:Wsp):Bool:=allN (fun i:Nat=>obG ws i) ws.no 0
def sEW (ws:Wsp):Int:=sErr ws.js ws.ms ws.sh ws.sk ws.n ws.m ws.c ws.d
def wErr (ws:Wsp):Int:=bif decide (sEW ws=0) then (bif fiB ws then (bif obA ws then (bif decide (24 < cntF ws ws.no) then 3401 else 0) else 3402) else 3401) else sEW ws
def okW (ws:Wsp):Prop:=∀ i,i < ws.no→(ws.ob i).ns≤8796093021952
theorem yWJ {ws:Wsp} (h:fiB ws=true):ws.no≤6∧ws.np≤8∧ws.nh≤3∧ws.ng≤32:=by
 unfold fiB szG at h;simp only [vQJ,Bool.not_eq_true',decide_eq_false_iff_not] at h;omega
theorem jVG {i n:Nat} (_:i < n):inS none (some (i:Int)) n=true:=by
 simp [inS,loOf,hiOf];exact vJQ (by omega)
theorem lpGw (K:Cont) (ws:Wsp) (_:ws.no≤50) (ho:okW ws):LFX 60 (cxS Tf (orGw ws) 60 16 (ntmF Tf 16)) (evX Tf (orGw ws) 60 16 (ntmF Tf 16)) (qZ []) (qQ Tf 16 [0,1,0,1,1,1,1]) [0,1,0,1,1,1,1] (Tf.hint 16 (qJ (qQ Tf 16 [0,1,0,1,1,1,1]))) K 60 (hGw ws 0 (ws.c:Int))=bif obA ws then (K (.exit 0) ⟨[(4,.v (.n .i64 (cntF ws ws.no)))],[]⟩) else (K .ret ⟨[(2,.v (.n .i64 3402)),(4,.v (.n .i64 (cntF ws (Rx.firstK (fun j:Nat=>obG ws j) ws.no 0))))],[]⟩):=by
 refine (kW (L:=LFX 60 (cxS Tf (orGw ws) 60 16 (ntmF Tf 16)) (evX Tf (orGw ws) 60 16 (ntmF Tf 16)) (qZ []) (qQ Tf 16 [0,1,0,1,1,1,1]) [0,1,0,1,1,1,1] (Tf.hint 16 (qJ (qQ Tf 16 [0,1,0,1,1,1,1]))) K) (stp:=jJ 60 (cxS Tf (orGw ws) 60 16 (ntmF Tf 16)) (evX Tf (orGw ws) 60 16 (ntmF Tf 16)) (qZ []) (qQ Tf 16 [0,1,0,1,1,1,1]) [0,1,0,1,1,1,1] (Tf.hint 16 (qJ (qQ Tf 16 [0,1,0,1,1,1,1]))) K) (fun _ _=>rfl) (fun (i:Nat) (_:Unit)=>hGw ws (i:Int) (cntF ws i)) (fun _ _=>True) (fun (i:Nat) _=>obG ws i) (fun _ _=>()) (c:=ws.no) (fun _=>(K (.exit 0) ⟨[(4,.v (.n .i64 (cntF ws ws.no)))],[]⟩)) (fun i _=>(K .ret ⟨[(2,.v (.n .i64 3402)),(4,.v (.n .i64 (cntF ws i)))],[]⟩)) (fun G i f hi _ => ?_) (fun _ _ _ _ _=>trivial) (fun G f _ => ?_) ws.no 0 60 () (by omega) (by omega) trivial).trans ((yH _ _ _ _ _).trans (qQV _ _ _ _ _))
 ·have h1:(ws.ob i).ns≤9223372036854775807:=Nat.le_trans (ho i hi) (by decide);refine (rdGw G K ws i (cntF ws i)).trans ?_;rw [vJQ (show (i:Int) < (ws.no:Int) by omega),kY (by omega),yZ hi,toN,jVG hi,jQ (C:=ccf) (t:=(i - 0,(fun v=>ws.ob (v + 0)),ws.ob i)) (show i - 0≤50 by omega),jQ (C:=cso) (t:=ws.ob i) h1];unfold obG;show _=bif nmB (ws.ob i).name && (!dupO (fun v=>ws.ob (v + 0)) (ws.ob i) (i - 0) && soOk (ws.ob i)) then _ else _
  cases nmB (ws.ob i).name <;> cases dupO (fun v=>ws.ob (v + 0)) (ws.ob i) (i - 0) <;> cases soOk (ws.ob i) <;> rfl
 ·refine (rdGw G K ws (ws.no:Int) (cntF ws ws.no)).trans ?_;rw [vYH (show ¬ (ws.no:Int) < (ws.no:Int) by omega)];rfl
noncomputable def kXW (ws:Wsp):List (List Nat × jG):=[([0,1,0,1,1,1,1],sumF (fun _:Unit=>(hGw ws 0 (ws.c:Int))) (fun _=>()) (fun _ K=>(bif gP (ws.no≤50∧okW ws) then (bif obA ws then (K (.exit 0) ⟨[(4,.v (.n .i64 (cntF ws ws.no)))],[]⟩) else (K .ret ⟨[(2,.v (.n .i64 3402)),(4,.v (.n .i64 (cntF ws (Rx.firstK (fun j:Nat=>obG ws j) ws.no 0))))],[]⟩)) else none)))]
set_option maxRecDepth 100000 in
theorem xHJ (ws:Wsp):uJ Tf (orGw ws) (qZ (kXW ws)) 60 16 [.a (wP ws)] =
 (bif (gF1 csk_ esk_ (ws.js,ws.ms,ws.sh,ws.sk,ws.n,ws.m,ws.c,ws.d)) then (bif (!decide ((sErr ws.js ws.ms ws.sh ws.sk ws.n ws.m ws.c ws.d)=0)) then some (.v (.n .i64 (sErr ws.js ws.ms ws.sh ws.sk ws.n ws.m ws.c ws.d)),[])
 else (bif (gF1 cfi efi ws) then (bif (fiB ws) then (bif (gSt (hGw ws 0 (ws.c:Int)) (hGw ws 0 (ws.c:Int))) then (bif gP (ws.no≤50∧okW ws) then (bif (obA ws) then (bif (decide (24 < (cntF ws ws.no))) then some (.v (.n .i64 3401),[])
 else some (.v (.n .i64 0),[]))
 else some (.v (.n .i64 3402),[]))
 else none)
 else none)
 else some (.v (.n .i64 3401),[]))
 else none))
 else none):=by kernel_rfl
theorem uYY (ws:Wsp) (ho:okW ws):yK Tryz.prog 16 [.a (wP ws)] (.v (.n .i64 (wErr ws))):=by
 refine zZ (N:=60) (LO:=qZ (kXW ws)) jU zW (jW (l:=[(50,uUI),(51,o_fi),(53,o_nm),(54,o_cf),(55,o_so)]) (m:=[]) ⟨xZC,fZK,xZV,fZG,fQV,trivial⟩ trivial) (fun p S hp => ?_) ?_
 ·refine qH (L:=qQ Tf 16) (l:=(kXW ws)) (show AllP _ (kXW ws) from ⟨?_,trivial⟩) p S hp
  ·dsimp only;refine jY (T:=Tf) (o:=(orGw ws)) (f:=16) (LO:=qZ []) (p:=[0,1,0,1,1,1,1]) kK ?_;intro t K r hr;obtain ⟨hg,hr⟩:=qY hr
   skip
   exact (lpGw K ws (jK hg).1 (jK hg).2).trans hr
 ·refine (xHJ ws).trans ?_;unfold wErr;rw [jQ (C:=csk_) (t:=(ws.js,ws.ms,ws.sh,ws.sk,ws.n,ws.m,ws.c,ws.d)) trivial];show (bif true then (bif !decide (sEW ws=0) then some (Ret.v (.n .i64 (sEW ws)),([]:Mem)) else _) else none)=_;by_cases h:sEW ws=0
  ·rw [vJQ h,jQ (C:=cfi) (t:=ws) trivial];cases hf:fiB ws with
   | false=>rfl
   | true =>
    have hn:=(yWJ hf).1;simp only [yU,qUJ (show ws.no≤50∧okW ws from ⟨by omega,ho⟩),vYV,Bool.not_true,vYG];cases obA ws with
    | false=>rfl
    | true=>cases decide (24 < cntF ws ws.no) <;> rfl
  ·rw [vYH h]; rfl
def cgk:Wsp→Prop:=fun t=>match t with | ws=>okW ws
def egk:Wsp→List PV:=fun t=>match t with | ws=>[.a (wP ws)]
noncomputable def rgk:Wsp→Ret:=fun t=>match t with | ws=>.v (.n .i64 (wErr ws))
def dgk:List PV→Wsp:=fun ps=>match ps with
 | [.a r]=>unW r
 | _=>(unW [])
noncomputable def o_gk:List PV→Option (Bool × Ret):=o_fm dgk cgk egk rgk
theorem xYH:zY Tryz.prog 16 o_gk:=uK fun t h=>by
 revert h; revert t; intro ws h
 exact uYY ws h
end Go.Proofs.YtgmbkkkbfbocnaaGreat.Hc
namespace Go.Proofs.YtgmbkkkbfbocnaaGreat.Hd
open Go.Rx Rt Go.Sx Go.RowKit Od Na Nb Nc Nx Nf Nl Nm Ga Gb Gc Gd Ge Gf Gg Ha Hb Hc
noncomputable def orWp (_:Wsp):OrS:=orS [(56,uUL),(57,o_nq),(58,o_ri),(59,o_ob)] []
noncomputable def hWp (ws:Wsp) (i:Int):St:=⟨[(1,.p 1 0),(4,.v (.n .i64 i))],[(1,.blk ((wP ws).map .v))]⟩
set_option maxRecDepth 100000 in
theorem rdWp (G:St→Option (Ret × Mem)) (K:Cont) (ws:Wsp) (i:Int):jJ 60 (cxS Tf (orWp ws) 60 17 (ntmF Tf 17)) (evX Tf (orWp ws) 60 17 (ntmF Tf 17)) (qZ []) (qQ Tf 17 [0,1,0,1,1,1]) [0,1,0,1,1,1] (Tf.hint 17 (qJ (qQ Tf 17 [0,1,0,1,1,1]))) K G (hWp ws i) =
 (bif (decide (i < (ws.np:Int))) then (bif (inB i ws.np) then (bif (gF1 cnq enq (ws.pl (i).toNat)) then (bif (zOk 2097152 (ws.pl (i).toNat)) then (G (hWp ws (vJJ .i64 (i + 1))))
 else (K .ret ⟨[(1,.p 1 0),(2,.v (.n .i64 3401))],[(1,.blk ((wP ws).map .v))]⟩))
 else none)
 else none)
 else (K (.exit 0) ⟨[(1,.p 1 0)],[(1,.blk ((wP ws).map .v))]⟩)):=by kernel_rfl
theorem lpWp (K:Cont) (ws:Wsp) (_:ws.np≤50):LFX 60 (cxS Tf (orWp ws) 60 17 (ntmF Tf 17)) (evX Tf (orWp ws) 60 17 (ntmF Tf 17)) (qZ []) (qQ Tf 17 [0,1,0,1,1,1]) [0,1,0,1,1,1] (Tf.hint 17 (qJ (qQ Tf 17 [0,1,0,1,1,1]))) K 60 (hWp ws 0)=bif (allN (fun i:Nat=>zOk 2097152 (ws.pl i)) ws.np 0) then (K (.exit 0) ⟨[(1,.p 1 0)],[(1,.blk ((wP ws).map .v))]⟩) else (K .ret ⟨[(1,.p 1 0),(2,.v (.n .i64 3401))],[(1,.blk ((wP ws).map .v))]⟩):=by
 refine (kW (L:=LFX 60 (cxS Tf (orWp ws) 60 17 (ntmF Tf 17)) (evX Tf (orWp ws) 60 17 (ntmF Tf 17)) (qZ []) (qQ Tf 17 [0,1,0,1,1,1]) [0,1,0,1,1,1] (Tf.hint 17 (qJ (qQ Tf 17 [0,1,0,1,1,1]))) K) (stp:=jJ 60 (cxS Tf (orWp ws) 60 17 (ntmF Tf 17)) (evX Tf (orWp ws) 60 17 (ntmF Tf 17)) (qZ []) (qQ Tf 17 [0,1,0,1,1,1]) [0,1,0,1,1,1] (Tf.hint 17 (qJ (qQ Tf 17 [0,1,0,1,1,1]))) K) (fun _ _=>rfl) (fun (i:Nat) (_:Unit)=>hWp ws (i:Int)) (fun _ _=>True) (fun (i:Nat) _=>zOk 2097152 (ws.pl i)) (fun _ _=>()) (c:=ws.np) (fun _=>(K (.exit 0) ⟨[(1,.p 1 0)],[(1,.blk ((wP ws).map .v))]⟩)) (fun i _=>(K .ret ⟨[(1,.p 1 0),(2,.v (.n .i64 3401))],[(1,.blk ((wP ws).map .v))]⟩)) (fun G i f hi _ => ?_) (fun _ _ _ _ _=>trivial) (fun G f _ => ?_) ws.np 0 60 () (by omega) (by omega) trivial).trans ((yH _ _ _ _ _).trans (yW _ _ _ _ _))
 ·refine (rdWp G K ws i).trans ?_;rw [vJQ (show (i:Int) < (ws.np:Int) by omega),kY (by omega),yZ (show i < ws.np by omega),toN,jQ (C:=cnq) (t:=ws.pl i) trivial];cases zOk 2097152 (ws.pl i) <;> rfl
 ·refine (rdWp G K ws ws.np).trans ?_;rw [vYH (show ¬ (ws.np:Int) < (ws.np:Int) by omega)];rfl
noncomputable def hWq (ws:Wsp) (i:Int):St:=⟨[(1,.p 1 0),(5,.v (.n .i64 i))],[(1,.blk ((wP ws).map .v))]⟩
set_option maxRecDepth 100000 in
theorem rdWq (G:St→Option (Ret × Mem)) (K:Cont) (ws:Wsp) (i:Int):jJ 60 (cxS Tf (orWp ws) 60 17 (ntmF Tf 17)) (evX Tf (orWp ws) 60 17 (ntmF Tf 17)) (qZ []) (qQ Tf 17 [0,1,0,1,1,1,1]) [0,1,0,1,1,1,1] (Tf.hint 17 (qJ (qQ Tf 17 [0,1,0,1,1,1,1]))) K G (hWq ws i) =
 (bif (decide (i < (ws.nh:Int))) then (bif (inB i ws.nh) then (bif (decide ((ws.hd (i).toNat).link < 0)) then (K .ret ⟨[(1,.p 1 0),(2,.v (.n .i64 3401))],[(1,.blk ((wP ws).map .v))]⟩)
 else (bif (decide ((ws.n:Int)≤(ws.hd (i).toNat).link)) then (K .ret ⟨[(1,.p 1 0),(2,.v (.n .i64 3401))],[(1,.blk ((wP ws).map .v))]⟩)
 else (bif (gF1 cnq enq ((ws.hd (i).toNat).off)) then (bif (zOk 2097152 ((ws.hd (i).toNat).off)) then (G (hWq ws (vJJ .i64 (i + 1))))
 else (K .ret ⟨[(1,.p 1 0),(2,.v (.n .i64 3401))],[(1,.blk ((wP ws).map .v))]⟩))
 else none)))
 else none)
 else (K (.exit 2) ⟨[(1,.p 1 0)],[(1,.blk ((wP ws).map .v))]⟩)):=by kernel_rfl
theorem lpWq (K:Cont) (ws:Wsp) (_:ws.nh≤50):LFX 60 (cxS Tf (orWp ws) 60 17 (ntmF Tf 17)) (evX Tf (orWp ws) 60 17 (ntmF Tf 17)) (qZ []) (qQ Tf 17 [0,1,0,1,1,1,1]) [0,1,0,1,1,1,1] (Tf.hint 17 (qJ (qQ Tf 17 [0,1,0,1,1,1,1]))) K 60 (hWq ws 0)=bif (allN (fun i:Nat=>hdOk ws.n (ws.hd i)) ws.nh 0) then (K (.exit 2) ⟨[(1,.p 1 0)],[(1,.blk ((wP ws).map .v))]⟩) else (K .ret ⟨[(1,.p 1 0),(2,.v (.n .i64 3401))],[(1,.blk ((wP ws).map .v))]⟩):=by
 refine (kW (L:=LFX 60 (cxS Tf (orWp ws) 60 17 (ntmF Tf 17)) (evX Tf (orWp ws) 60 17 (ntmF Tf 17)) (qZ []) (qQ Tf 17 [0,1,0,1,1,1,1]) [0,1,0,1,1,1,1] (Tf.hint 17 (qJ (qQ Tf 17 [0,1,0,1,1,1,1]))) K) (stp:=jJ 60 (cxS Tf (orWp ws) 60 17 (ntmF Tf 17)) (evX Tf (orWp ws) 60 17 (ntmF Tf 17)) (qZ []) (qQ Tf 17 [0,1,0,1,1,1,1]) [0,1,0,1,1,1,1] (Tf.hint 17 (qJ (qQ Tf 17 [0,1,0,1,1,1,1]))) K) (fun _ _=>rfl) (fun (i:Nat) (_:Unit)=>hWq ws (i:Int)) (fun _ _=>True) (fun (i:Nat) _=>hdOk ws.n (ws.hd i)) (fun _ _=>()) (c:=ws.nh) (fun _=>(K (.exit 2) ⟨[(1,.p 1 0)],[(1,.blk ((wP ws).map .v))]⟩)) (fun i _=>(K .ret ⟨[(1,.p 1 0),(2,.v (.n .i64 3401))],[(1,.blk ((wP ws).map .v))]⟩)) (fun G i f hi _ => ?_) (fun _ _ _ _ _=>trivial) (fun G f _ => ?_) ws.nh 0 60 () (by omega) (by omega) trivial).trans ((yH _ _ _ _ _).trans (yW _ _ _ _ _))
 ·refine (rdWq G K ws i).trans ?_;rw [vJQ (show (i:Int) < (ws.nh:Int) by omega),kY (by omega),yZ (show i < ws.nh by omega),toN,jQ (C:=cnq) (t:=(ws.hd i).off) trivial];unfold hdOk;cases decide ((ws.hd i).link < 0) <;> cases decide ((ws.n:Int)≤(ws.hd i).link) <;> cases zOk 2097152 (ws.hd i).off <;> rfl
 ·refine (rdWq G K ws ws.nh).trans ?_;rw [vYH (show ¬ (ws.nh:Int) < (ws.nh:Int) by omega)];rfl
noncomputable def hWr (ws:Wsp) (i:Int):St:=⟨[(1,.p 1 0),(7,.v (.n .i64 i))],[(1,.blk ((wP ws).map .v))]⟩
set_option maxRecDepth 100000 in
theorem rdWr (G:St→Option (Ret × Mem)) (K:Cont) (ws:Wsp) (i:Int):jJ 60 (cxS Tf (orWp ws) 60 17 (ntmF Tf 17)) (evX Tf (orWp ws) 60 17 (ntmF Tf 17)) (qZ []) (qQ Tf 17 [0,1,0,1,1,1,1,1]) [0,1,0,1,1,1,1,1] (Tf.hint 17 (qJ (qQ Tf 17 [0,1,0,1,1,1,1,1]))) K G (hWr ws i) =
 (bif (decide (i < (ws.ng:Int))) then (bif (inB i ws.ng) then (bif (decide ((ws.gr (i).toNat).hand < 0)) then (K .ret ⟨[(1,.p 1 0),(2,.v (.n .i64 3401))],[(1,.blk ((wP ws).map .v))]⟩)
 else (bif (decide ((ws.nh:Int)≤(ws.gr (i).toNat).hand)) then (K .ret ⟨[(1,.p 1 0),(2,.v (.n .i64 3401))],[(1,.blk ((wP ws).map .v))]⟩)
 else (bif (decide ((ws.gr (i).toNat).place < 0)) then (K .ret ⟨[(1,.p 1 0),(2,.v (.n .i64 3401))],[(1,.blk ((wP ws).map .v))]⟩)
 else (bif (decide ((ws.np:Int)≤(ws.gr (i).toNat).place)) then (K .ret ⟨[(1,.p 1 0),(2,.v (.n .i64 3401))],[(1,.blk ((wP ws).map .v))]⟩)
 else (bif (gF1 cri eri (ws.js,ws.ms,ws.n,ws.m,((ws.gr (i).toNat).na),((ws.gr (i).toNat).cf))) then (bif (qIn ws.js ws.ms ((ws.gr (i).toNat).cf) ws.n ws.m ((ws.gr (i).toNat).na)) then (G (hWr ws (vJJ .i64 (i + 1))))
 else (K .ret ⟨[(1,.p 1 0),(2,.v (.n .i64 3401))],[(1,.blk ((wP ws).map .v))]⟩))
 else none)))))
 else none)
 else (K (.exit 4) ⟨[(1,.p 1 0)],[(1,.blk ((wP ws).map .v))]⟩)):=by kernel_rfl
theorem nlt0 (a b:Int):(!decide (b≤a))=decide (a < b):=by by_cases h:b≤a <;> simp [h] <;> omega
theorem lpWr (K:Cont) (ws:Wsp) (_:ws.ng≤50):LFX 60 (cxS Tf (orWp ws) 60 17 (ntmF Tf 17)) (evX Tf (orWp ws) 60 17 (ntmF Tf 17)) (qZ []) (qQ Tf 17 [0,1,0,1,1,1,1,1]) [0,1,0,1,1,1,1,1] (Tf.hint 17 (qJ (qQ Tf 17 [0,1,0,1,1,1,1,1]))) K 60 (hWr ws 0)=bif (allN (fun i:Nat=>grOk ws (ws.gr i)) ws.ng 0) then (K (.exit 4) ⟨[(1,.p 1 0)],[(1,.blk ((wP ws).map .v))]⟩) else (K .ret ⟨[(1,.p 1 0),(2,.v (.n .i64 3401))],[(1,.blk ((wP ws).map .v))]⟩):=by
 refine (kW (L:=LFX 60 (cxS Tf (orWp ws) 60 17 (ntmF Tf 17)) (evX Tf (orWp ws) 60 17 (ntmF Tf 17)) (qZ []) (qQ Tf 17 [0,1,0,1,1,1,1,1]) [0,1,0,1,1,1,1,1] (Tf.hint 17 (qJ (qQ Tf 17 [0,1,0,1,1,1,1,1]))) K) (stp:=jJ 60 (cxS Tf (orWp ws) 60 17 (ntmF Tf 17)) (evX Tf (orWp ws) 60 17 (ntmF Tf 17)) (qZ []) (qQ Tf 17 [0,1,0,1,1,1,1,1]) [0,1,0,1,1,1,1,1] (Tf.hint 17 (qJ (qQ Tf 17 [0,1,0,1,1,1,1,1]))) K) (fun _ _=>rfl) (fun (i:Nat) (_:Unit)=>hWr ws (i:Int)) (fun _ _=>True) (fun (i:Nat) _=>grOk ws (ws.gr i)) (fun _ _=>()) (c:=ws.ng) (fun _=>(K (.exit 4) ⟨[(1,.p 1 0)],[(1,.blk ((wP ws).map .v))]⟩)) (fun i _=>(K .ret ⟨[(1,.p 1 0),(2,.v (.n .i64 3401))],[(1,.blk ((wP ws).map .v))]⟩)) (fun G i f hi _ => ?_) (fun _ _ _ _ _=>trivial) (fun G f _ => ?_) ws.ng 0 60 () (by omega) (by omega) trivial).trans ((yH _ _ _ _ _).trans (yW _ _ _ _ _))
 ·refine (rdWr G K ws i).trans ?_;rw [vJQ (show (i:Int) < (ws.ng:Int) by omega),kY (by omega),yZ (show i < ws.ng by omega),toN,jQ (C:=cri) (t:=(ws.js,ws.ms,ws.n,ws.m,(ws.gr i).na,(ws.gr i).cf)) trivial];unfold grOk knB;rw [nle 0 (ws.gr i).hand,nle 0 (ws.gr i).place,← nlt0 (ws.gr i).hand (ws.nh:Int),← nlt0 (ws.gr i).place (ws.np:Int)];cases decide ((ws.gr i).hand < 0) <;> cases decide ((ws.nh:Int)≤(ws.gr i).hand) <;> cases decide ((ws.gr i).place < 0) <;> cases decide ((ws.np:Int)≤(ws.gr i).place) <;> cases qIn ws.js ws.ms (ws.gr i).cf ws.n ws.m (ws.gr i).na <;> rfl
 ·refine (rdWr G K ws ws.ng).trans ?_;rw [vYH (show ¬ (ws.ng:Int) < (ws.ng:Int) by omega)];rfl
noncomputable def hWi (ws:Wsp) (s:Int) (i:Int) (k:Int):St:=⟨[(1,.p 1 0),(9,.v (.n .i64 s)),(10,.v (.n .i64 i)),(11,.v (.n .i64 k))],[(1,.blk ((wP ws).map .v))]⟩
set_option maxRecDepth 100000 in
theorem rdWi (G:St→Option (Ret × Mem)) (K:Cont) (ws:Wsp) (s:Int) (i:Int) (k:Int):jJ 60 (cxS Tf (orWp ws) 60 17 (ntmF Tf 17)) (evX Tf (orWp ws) 60 17 (ntmF Tf 17)) (qZ []) (qQ Tf 17 [0,1,0,1,0,0,1,0,0,1,0,1,1,1,1,1,1,1]) [0,1,0,1,0,0,1,0,0,1,0,1,1,1,1,1,1,1] (Tf.hint 17 (qJ (qQ Tf 17 [0,1,0,1,0,0,1,0,0,1,0,1,1,1,1,1,1,1]))) K G (hWi ws s i k) =
 (bif (decide (k < i)) then (bif (inB k ws.no) then (bif (inB i ws.no) then (bif ((ws.ob (k).toNat).name.toList == (ws.ob (i).toNat).name.toList) then (K .ret ⟨[(1,.p 1 0),(2,.v (.n .i64 3402)),(9,.v (.n .i64 s)),(10,.v (.n .i64 i))],[(1,.blk ((wP ws).map .v))]⟩)
 else (G (hWi ws s i (vJJ .i64 (k + 1)))))
 else none)
 else none)
 else (K (.exit 8) ⟨[(1,.p 1 0),(9,.v (.n .i64 s)),(10,.v (.n .i64 i))],[(1,.blk ((wP ws).map .v))]⟩)):=by kernel_rfl
theorem lpWi (K:Cont) (ws:Wsp) (s:Int) (i:Nat) (hI:i < ws.no) (hN:ws.no≤50):LFX 60 (cxS Tf (orWp ws) 60 17 (ntmF Tf 17)) (evX Tf (orWp ws) 60 17 (ntmF Tf 17)) (qZ []) (qQ Tf 17 [0,1,0,1,0,0,1,0,0,1,0,1,1,1,1,1,1,1]) [0,1,0,1,0,0,1,0,0,1,0,1,1,1,1,1,1,1] (Tf.hint 17 (qJ (qQ Tf 17 [0,1,0,1,0,0,1,0,0,1,0,1,1,1,1,1,1,1]))) K 60 (hWi ws s i 0)=bif (allN (fun k:Nat => !((ws.ob k).name.toList == (ws.ob i).name.toList)) i 0) then (K (.exit 8) ⟨[(1,.p 1 0),(9,.v (.n .i64 s)),(10,.v (.n .i64 i))],[(1,.blk ((wP ws).map .v))]⟩) else (K .ret ⟨[(1,.p 1 0),(2,.v (.n .i64 3402)),(9,.v (.n .i64 s)),(10,.v (.n .i64 i))],[(1,.blk ((wP ws).map .v))]⟩):=by
 refine (kW (L:=LFX 60 (cxS Tf (orWp ws) 60 17 (ntmF Tf 17)) (evX Tf (orWp ws) 60 17 (ntmF Tf 17)) (qZ []) (qQ Tf 17 [0,1,0,1,0,0,1,0,0,1,0,1,1,1,1,1,1,1]) [0,1,0,1,0,0,1,0,0,1,0,1,1,1,1,1,1,1] (Tf.hint 17 (qJ (qQ Tf 17 [0,1,0,1,0,0,1,0,0,1,0,1,1,1,1,1,1,1]))) K) (stp:=jJ 60 (cxS Tf (orWp ws) 60 17 (ntmF Tf 17)) (evX Tf (orWp ws) 60 17 (ntmF Tf 17)) (qZ []) (qQ Tf 17 [0,1,0,1,0,0,1,0,0,1,0,1,1,1,1,1,1,1]) [0,1,0,1,0,0,1,0,0,1,0,1,1,1,1,1,1,1] (Tf.hint 17 (qJ (qQ Tf 17 [0,1,0,1,0,0,1,0,0,1,0,1,1,1,1,1,1,1]))) K) (fun _ _=>rfl) (fun (k:Nat) (_:Unit)=>hWi ws s i (k:Int)) (fun _ _=>True) (fun (k:Nat) _ => !((ws.ob k).name.toList == (ws.ob i).name.toList)) (fun _ _=>()) (c:=i) (fun _=>(K (.exit 8) ⟨[(1,.p 1 0),(9,.v (.n .i64 s)),(10,.v (.n .i64 i))],[(1,.blk ((wP ws).map .v))]⟩)) (fun k _=>(K .ret ⟨[(1,.p 1 0),(2,.v (.n .i64 3402)),(9,.v (.n .i64 s)),(10,.v (.n .i64 i))],[(1,.blk ((wP ws).map .v))]⟩)) (fun G k f hi _ => ?_) (fun _ _ _ _ _=>trivial) (fun G f _ => ?_) (i) 0 60 () (by omega) (by omega) trivial).trans ((yH _ _ _ _ _).trans (yW _ _ _ _ _))
 ·refine (rdWi G K ws s i k).trans ?_;rw [vJQ (show (k:Int) < (i:Int) by omega),kY (by omega),yZ (show k < ws.no by omega),yZ hI,toN,toN];cases ((ws.ob k).name.toList == (ws.ob i).name.toList) <;> rfl
 ·refine (rdWi G K ws s i (i:Int)).trans ?_;rw [vYH (show ¬ (i:Int) < (i:Int) by omega)];rfl
theorem okWi (ws:Wsp):∀ p S,qZ [([0,1,0,1,0,0,1,0,0,1,0,1,1,1,1,1,1,1],sumF (fun t:Int × Nat=>(hWi ws t.1 ((t.2:Nat):Int) 0)) (fun σ=>(slI σ 9,(slI σ 10).toNat)) (fun t K=>(bif (decide (t.2 < ws.no∧ws.no≤50)) then (bif (allN (fun k:Nat => !((ws.ob k).name.toList == (ws.ob t.2).name.toList)) t.2 0) then (K (.exit 8) ⟨[(1,.p 1 0),(9,.v (.n .i64 t.1)),(10,.v (.n .i64 t.2))],[(1,.blk ((wP ws).map .v))]⟩) else (K .ret ⟨[(1,.p 1 0),(2,.v (.n .i64 3402)),(9,.v (.n .i64 t.1)),(10,.v (.n .i64 t.2))],[(1,.blk ((wP ws).map .v))]⟩)) else none)))] p=some S→qQF 60 (cxS Tf (orWp ws) 60 17 (ntmF Tf 17)) (qQ Tf 17 p) S:=fun p S hp=>by
 refine qH (L:=qQ Tf 17) (l:=[([0,1,0,1,0,0,1,0,0,1,0,1,1,1,1,1,1,1],sumF (fun t:Int × Nat=>(hWi ws t.1 ((t.2:Nat):Int) 0)) (fun σ=>(slI σ 9,(slI σ 10).toNat)) (fun t K=>(bif (decide (t.2 < ws.no∧ws.no≤50)) then (bif (allN (fun k:Nat => !((ws.ob k).name.toList == (ws.ob t.2).name.toList)) t.2 0) then (K (.exit 8) ⟨[(1,.p 1 0),(9,.v (.n .i64 t.1)),(10,.v (.n .i64 t.2))],[(1,.blk ((wP ws).map .v))]⟩) else (K .ret ⟨[(1,.p 1 0),(2,.v (.n .i64 3402)),(9,.v (.n .i64 t.1)),(10,.v (.n .i64 t.2))],[(1,.blk ((wP ws).map .v))]⟩)) else none)))]) ⟨?_,trivial⟩ p S hp;dsimp only;refine jY (T:=Tf) (o:=(orWp ws)) (f:=17) (LO:=qZ []) (p:=[0,1,0,1,0,0,1,0,0,1,0,1,1,1,1,1,1,1]) kK ?_;intro t K r hr;obtain ⟨hg,hr⟩:=qY hr
 skip
 exact (lpWi K ws t.1 t.2 (vJZ hg).1 (vJZ hg).2).trans hr
noncomputable def hWo (ws:Wsp) (i:Int) (s:Int):St:=⟨[(1,.p 1 0),(9,.v (.n .i64 s)),(10,.v (.n .i64 i))],[(1,.blk ((wP ws).map .v))]⟩
set_option maxRecDepth 100000 in
theorem rdWo (G:St→Option (Ret × Mem)) (K:Cont) (ws:Wsp) (i:Int) (s:Int):jJ 60 (cxS Tf (orWp ws) 60 17 (ntmF Tf 17)) (evX Tf (orWp ws) 60 17 (ntmF Tf 17)) (qZ [([0,1,0,1,0,0,1,0,0,1,0,1,1,1,1,1,1,1],sumF (fun t:Int × Nat=>(hWi ws t.1 ((t.2:Nat):Int) 0)) (fun σ=>(slI σ 9,(slI σ 10).toNat)) (fun t K=>(bif (decide (t.2 < ws.no∧ws.no≤50)) then (bif (allN (fun k:Nat => !((ws.ob k).name.toList == (ws.ob t.2).name.toList)) t.2 0) then (K (.exit 8) ⟨[(1,.p 1 0),(9,.v (.n .i64 t.1)),(10,.v (.n .i64 t.2))],[(1,.blk ((wP ws).map .v))]⟩) else (K .ret ⟨[(1,.p 1 0),(2,.v (.n .i64 3402)),(9,.v (.n .i64 t.1)),(10,.v (.n .i64 t.2))],[(1,.blk ((wP ws).map .v))]⟩)) else none)))]) (qQ Tf 17 [0,1,0,1,1,1,1,1,1,1]) [0,1,0,1,1,1,1,1,1,1] (Tf.hint 17 (qJ (qQ Tf 17 [0,1,0,1,1,1,1,1,1,1]))) K G (hWo ws i s) =
 (bif (decide (i < (ws.no:Int))) then (bif (inB i ws.no) then (bif (gF1 cob eob (ws.ob (i).toNat)) then (bif (obOk (ws.ob (i).toNat)) then (bif (gSt (hWi ws s i 0) (hWi ws s (((i).toNat:Nat):Int) 0)) then (bif (decide ((i).toNat < ws.no∧ws.no≤50)) then (bif (allN (fun k:Nat => !((ws.ob k).name.toList == (ws.ob (i).toNat).name.toList)) (i).toNat 0) then (bif (inB (((i).toNat:Nat):Int) ws.no) then (G (hWo ws (vJJ .i64 ((((i).toNat:Nat):Int) + 1)) (vJJ .i64 (s + ((ws.ob ((((i).toNat:Nat):Int)).toNat).ns:Int)))))
 else none)
 else (K .ret ⟨[(2,.v (.n .i64 3402)),(9,.v (.n .i64 s))],[]⟩))
 else none)
 else none)
 else (K .ret ⟨[(2,.v (.n .i64 3402)),(9,.v (.n .i64 s))],[]⟩))
 else none)
 else none)
 else (K (.exit 6) ⟨[(9,.v (.n .i64 s))],[]⟩)):=by kernel_rfl
theorem lpWo (K:Cont) (ws:Wsp) (hn:ws.no≤50) (ho:okW ws):LFX 60 (cxS Tf (orWp ws) 60 17 (ntmF Tf 17)) (evX Tf (orWp ws) 60 17 (ntmF Tf 17)) (qZ [([0,1,0,1,0,0,1,0,0,1,0,1,1,1,1,1,1,1],sumF (fun t:Int × Nat=>(hWi ws t.1 ((t.2:Nat):Int) 0)) (fun σ=>(slI σ 9,(slI σ 10).toNat)) (fun t K=>(bif (decide (t.2 < ws.no∧ws.no≤50)) then (bif (allN (fun k:Nat => !((ws.ob k).name.toList == (ws.ob t.2).name.toList)) t.2 0) then (K (.exit 8) ⟨[(1,.p 1 0),(9,.v (.n .i64 t.1)),(10,.v (.n .i64 t.2))],[(1,.blk ((wP ws).map .v))]⟩) else (K .ret ⟨[(1,.p 1 0),(2,.v (.n .i64 3402)),(9,.v (.n .i64 t.1)),(10,.v (.n .i64 t.2))],[(1,.blk ((wP ws).map .v))]⟩)) else none)))]) (qQ Tf 17 [0,1,0,1,1,1,1,1,1,1]) [0,1,0,1,1,1,1,1,1,1] (Tf.hint 17 (qJ (qQ Tf 17 [0,1,0,1,1,1,1,1,1,1]))) K 60 (hWo ws 0 (ws.c:Int))=bif obA ws then (K (.exit 6) ⟨[(9,.v (.n .i64 (cntF ws ws.no)))],[]⟩) else (K .ret ⟨[(2,.v (.n .i64 3402)),(9,.v (.n .i64 (cntF ws (Rx.firstK (fun j:Nat=>obG ws j) ws.no 0))))],[]⟩):=by
 refine (kW (L:=LFX 60 (cxS Tf (orWp ws) 60 17 (ntmF Tf 17)) (evX Tf (orWp ws) 60 17 (ntmF Tf 17)) (qZ [([0,1,0,1,0,0,1,0,0,1,0,1,1,1,1,1,1,1],sumF (fun t:Int × Nat=>(hWi ws t.1 ((t.2:Nat):Int) 0)) (fun σ=>(slI σ 9,(slI σ 10).toNat)) (fun t K=>(bif (decide (t.2 < ws.no∧ws.no≤50)) then (bif (allN (fun k:Nat => !((ws.ob k).name.toList == (ws.ob t.2).name.toList)) t.2 0) then (K (.exit 8) ⟨[(1,.p 1 0),(9,.v (.n .i64 t.1)),(10,.v (.n .i64 t.2))],[(1,.blk ((wP ws).map .v))]⟩) else (K .ret ⟨[(1,.p 1 0),(2,.v (.n .i64 3402)),(9,.v (.n .i64 t.1)),(10,.v (.n .i64 t.2))],[(1,.blk ((wP ws).map .v))]⟩)) else none)))]) (qQ Tf 17 [0,1,0,1,1,1,1,1,1,1]) [0,1,0,1,1,1,1,1,1,1] (Tf.hint 17 (qJ (qQ Tf 17 [0,1,0,1,1,1,1,1,1,1]))) K) (stp:=jJ 60 (cxS Tf (orWp ws) 60 17 (ntmF Tf 17)) (evX Tf (orWp ws) 60 17 (ntmF Tf 17)) (qZ [([0,1,0,1,0,0,1,0,0,1,0,1,1,1,1,1,1,1],sumF (fun t:Int × Nat=>(hWi ws t.1 ((t.2:Nat):Int) 0)) (fun σ=>(slI σ 9,(slI σ 10).toNat)) (fun t K=>(bif (decide (t.2 < ws.no∧ws.no≤50)) then (bif (allN (fun k:Nat => !((ws.ob k).name.toList == (ws.ob t.2).name.toList)) t.2 0) then (K (.exit 8) ⟨[(1,.p 1 0),(9,.v (.n .i64 t.1)),(10,.v (.n .i64 t.2))],[(1,.blk ((wP ws).map .v))]⟩) else (K .ret ⟨[(1,.p 1 0),(2,.v (.n .i64 3402)),(9,.v (.n .i64 t.1)),(10,.v (.n .i64 t.2))],[(1,.blk ((wP ws).map .v))]⟩)) else none)))]) (qQ Tf 17 [0,1,0,1,1,1,1,1,1,1]) [0,1,0,1,1,1,1,1,1,1] (Tf.hint 17 (qJ (qQ Tf 17 [0,1,0,1,1,1,1,1,1,1]))) K) (fun _ _=>rfl) (fun (i:Nat) (_:Unit)=>hWo ws (i:Int) (cntF ws i)) (fun _ _=>True) (fun (i:Nat) _=>obG ws i) (fun _ _=>()) (c:=ws.no) (fun _=>(K (.exit 6) ⟨[(9,.v (.n .i64 (cntF ws ws.no)))],[]⟩)) (fun i _=>(K .ret ⟨[(2,.v (.n .i64 3402)),(9,.v (.n .i64 (cntF ws i)))],[]⟩)) (fun G i f hi _ => ?_) (fun _ _ _ _ _=>trivial) (fun G f _ => ?_) ws.no 0 60 () (by omega) (by omega) trivial).trans ((yH _ _ _ _ _).trans (qQV _ _ _ _ _))
 ·have h1:(ws.ob i).ns≤9223372036854775807:=Nat.le_trans (ho i hi) (by decide);refine (rdWo G K ws i (cntF ws i)).trans ?_;rw [vJQ (show (i:Int) < (ws.no:Int) by omega),kY (by omega),yZ hi,toN,jQ (C:=cob) (t:=ws.ob i) h1,yU,vJQ (show i < ws.no∧ws.no≤50 from ⟨hi,hn⟩)];unfold obG obOk;rw [yZ hi,show allN (fun k:Nat => !((ws.ob k).name.toList == (ws.ob i).name.toList)) i 0 = !dupO ws.ob (ws.ob i) i from by unfold dupO; rw [Bool.not_not]];cases nmB (ws.ob i).name <;> cases dupO ws.ob (ws.ob i) i <;> cases soOk (ws.ob i) <;> rfl
 ·refine (rdWo G K ws (ws.no:Int) (cntF ws ws.no)).trans ?_;rw [vYH (show ¬ (ws.no:Int) < (ws.no:Int) by omega)];rfl
noncomputable def kUC (ws:Wsp):List (List Nat × jG):=[([0,1,0,1,1,1],sumF (fun _:Unit=>(hWp ws 0)) (fun _=>()) (fun _ K=>(bif (decide (ws.np≤50)) then (bif (allN (fun i:Nat=>zOk 2097152 (ws.pl i)) ws.np 0) then (K (.exit 0) ⟨[(1,.p 1 0)],[(1,.blk ((wP ws).map .v))]⟩) else (K .ret ⟨[(1,.p 1 0),(2,.v (.n .i64 3401))],[(1,.blk ((wP ws).map .v))]⟩)) else none))),([0,1,0,1,1,1,1],sumF (fun _:Unit=>(hWq ws 0)) (fun _=>()) (fun _ K=>(bif (decide (ws.nh≤50)) then (bif (allN (fun i:Nat=>hdOk ws.n (ws.hd i)) ws.nh 0) then (K (.exit 2) ⟨[(1,.p 1 0)],[(1,.blk ((wP ws).map .v))]⟩) else (K .ret ⟨[(1,.p 1 0),(2,.v (.n .i64 3401))],[(1,.blk ((wP ws).map .v))]⟩)) else none))),([0,1,0,1,1,1,1,1],sumF (fun _:Unit=>(hWr ws 0)) (fun _=>()) (fun _ K=>(bif (decide (ws.ng≤50)) then (bif (allN (fun i:Nat=>grOk ws (ws.gr i)) ws.ng 0) then (K (.exit 4) ⟨[(1,.p 1 0)],[(1,.blk ((wP ws).map .v))]⟩) else (K .ret ⟨[(1,.p 1 0),(2,.v (.n .i64 3401))],[(1,.blk ((wP ws).map .v))]⟩)) else none))),([0,1,0,1,1,1,1,1,1,1],sumF (fun _:Unit=>(hWo ws 0 (ws.c:Int))) (fun _=>()) (fun _ K=>(bif gP (ws.no≤50∧okW ws) then (bif obA ws then (K (.exit 6) ⟨[(9,.v (.n .i64 (cntF ws ws.no)))],[]⟩) else (K .ret ⟨[(2,.v (.n .i64 3402)),(9,.v (.n .i64 (cntF ws (Rx.firstK (fun j:Nat=>obG ws j) ws.no 0))))],[]⟩)) else none)))]
set_option maxRecDepth 100000 in
theorem xGG (ws:Wsp):uJ Tf (orWp ws) (qZ (kUC ws)) 60 17 [.a (wP ws)] =
 (bif (gF1 crc_ erc_ (ws.js,ws.ms,ws.sh,ws.sk,ws.n,ws.m,ws.c,ws.d)) then (bif (!decide ((sErr ws.js ws.ms ws.sh ws.sk ws.n ws.m ws.c ws.d)=0)) then some (.v (.n .i64 (sErr ws.js ws.ms ws.sh ws.sk ws.n ws.m ws.c ws.d)),[])
 else (bif (decide (6 < (ws.no:Int))) then some (.v (.n .i64 3401),[])
 else (bif (decide (8 < (ws.np:Int))) then some (.v (.n .i64 3401),[])
 else (bif (decide (3 < (ws.nh:Int))) then some (.v (.n .i64 3401),[])
 else (bif (decide (32 < (ws.ng:Int))) then some (.v (.n .i64 3401),[])
 else (bif (decide (ws.slack < 0)) then some (.v (.n .i64 3401),[])
 else (bif (decide (65536 < ws.slack)) then some (.v (.n .i64 3401),[])
 else (bif (gSt (hWp ws 0) (hWp ws 0)) then (bif (decide (ws.np≤50)) then (bif (allN (fun i:Nat=>zOk 2097152 (ws.pl i)) ws.np 0) then (bif (gSt (hWq ws 0) (hWq ws 0)) then (bif (decide (ws.nh≤50)) then (bif (allN (fun i:Nat=>hdOk ws.n (ws.hd i)) ws.nh 0) then (bif (gSt (hWr ws 0) (hWr ws 0)) then (bif (decide (ws.ng≤50)) then (bif (allN (fun i:Nat=>grOk ws (ws.gr i)) ws.ng 0) then (bif (gSt (hWo ws 0 (ws.c:Int)) (hWo ws 0 (ws.c:Int))) then (bif gP (ws.no≤50∧okW ws) then (bif (obA ws) then (bif (decide (24 < (cntF ws ws.no))) then some (.v (.n .i64 3401),[])
 else some (.v (.n .i64 0),[]))
 else some (.v (.n .i64 3402),[]))
 else none)
 else none)
 else some (.v (.n .i64 3401),[]))
 else none)
 else none)
 else some (.v (.n .i64 3401),[]))
 else none)
 else none)
 else some (.v (.n .i64 3401),[]))
 else none)
 else none))))))))
 else none):=by kernel_rfl
theorem uZU (ws:Wsp) (ho:okW ws):yK Tryz.prog 17 [.a (wP ws)] (.v (.n .i64 (wErr ws))):=by
 refine zZ (N:=60) (LO:=qZ (kUC ws)) jU zW (jW (l:=[(56,uUL),(57,o_nq),(58,o_ri),(59,o_ob)]) (m:=[]) ⟨xZF,xZL,fQB,fQE,trivial⟩ trivial) (fun p S hp => ?_) ?_
 ·refine qH (L:=qQ Tf 17) (l:=(kUC ws)) (show AllP _ (kUC ws) from ⟨?_,?_,?_,?_,trivial⟩) p S hp
  ·dsimp only;refine jY (T:=Tf) (o:=(orWp ws)) (f:=17) (LO:=qZ []) (p:=[0,1,0,1,1,1]) kK ?_;intro t K r hr;obtain ⟨hg,hr⟩:=qY hr;have hk:=vJZ hg;exact (lpWp K ws hk).trans hr
  ·dsimp only;refine jY (T:=Tf) (o:=(orWp ws)) (f:=17) (LO:=qZ []) (p:=[0,1,0,1,1,1,1]) kK ?_;intro t K r hr;obtain ⟨hg,hr⟩:=qY hr;have hk:=vJZ hg;exact (lpWq K ws hk).trans hr
  ·dsimp only;refine jY (T:=Tf) (o:=(orWp ws)) (f:=17) (LO:=qZ []) (p:=[0,1,0,1,1,1,1,1]) kK ?_;intro t K r hr;obtain ⟨hg,hr⟩:=qY hr;have hk:=vJZ hg;exact (lpWr K ws hk).trans hr
  ·dsimp only;refine jY (T:=Tf) (o:=(orWp ws)) (f:=17) (LO:=(qZ [([0,1,0,1,0,0,1,0,0,1,0,1,1,1,1,1,1,1],sumF (fun t:Int × Nat=>(hWi ws t.1 ((t.2:Nat):Int) 0)) (fun σ=>(slI σ 9,(slI σ 10).toNat)) (fun t K=>(bif (decide (t.2 < ws.no∧ws.no≤50)) then (bif (allN (fun k:Nat => !((ws.ob k).name.toList == (ws.ob t.2).name.toList)) t.2 0) then (K (.exit 8) ⟨[(1,.p 1 0),(9,.v (.n .i64 t.1)),(10,.v (.n .i64 t.2))],[(1,.blk ((wP ws).map .v))]⟩) else (K .ret ⟨[(1,.p 1 0),(2,.v (.n .i64 3402)),(9,.v (.n .i64 t.1)),(10,.v (.n .i64 t.2))],[(1,.blk ((wP ws).map .v))]⟩)) else none)))])) (p:=[0,1,0,1,1,1,1,1,1,1]) (okWi ws) ?_;intro t K r hr;obtain ⟨hg,hr⟩:=qY hr
   skip
   exact (lpWo K ws (jK hg).1 (jK hg).2).trans hr
 ·refine (xGG ws).trans ?_;unfold wErr;rw [jQ (C:=crc_) (t:=(ws.js,ws.ms,ws.sh,ws.sk,ws.n,ws.m,ws.c,ws.d)) trivial];show (bif true then (bif !decide (sEW ws=0) then some (Ret.v (.n .i64 (sEW ws)),([]:Mem)) else _) else none)=_;by_cases h:sEW ws=0
  ·rw [vJQ h];unfold fiB szG plG hdG grG;by_cases h1:6 < (ws.no:Int)
   ·rw [vJQ h1]; rfl
   by_cases h2:8 < (ws.np:Int)
   ·rw [vYH h1,vJQ h2]; rfl
   by_cases h3:3 < (ws.nh:Int)
   ·rw [vYH h1,vYH h2,vJQ h3]; rfl
   by_cases h4:32 < (ws.ng:Int)
   ·rw [vYH h1,vYH h2,vYH h3,vJQ h4]; rfl
   rw [vYH h1,vYH h2,vYH h3,vYH h4];simp only [yU,vJQ (show ws.np≤50 by omega),vJQ (show ws.nh≤50 by omega),vJQ (show ws.ng≤50 by omega),qUJ (show ws.no≤50∧okW ws from ⟨by omega,ho⟩),vYV];cases decide (ws.slack < 0) with
   | true=>rfl
   | false =>
    cases decide (65536 < ws.slack) with
    | true=>rfl
    | false =>
     cases allN (fun i:Nat=>zOk 2097152 (ws.pl i)) ws.np 0 with
     | false=>rfl
     | true =>
      cases allN (fun i:Nat=>hdOk ws.n (ws.hd i)) ws.nh 0 with
      | false=>rfl
      | true =>
       cases allN (fun i:Nat=>grOk ws (ws.gr i)) ws.ng 0 with
       | false=>rfl
       | true =>
        cases obA ws with
        | false=>rfl
        | true =>
         cases decide (24 < cntF ws ws.no) <;> rfl
  ·rw [vYH h]; rfl
def crw:Wsp→Prop:=fun t=>match t with | ws=>okW ws
def erw:Wsp→List PV:=fun t=>match t with | ws=>[.a (wP ws)]
noncomputable def rrw:Wsp→Ret:=fun t=>match t with | ws=>.v (.n .i64 (wErr ws))
def drw:List PV→Wsp:=fun ps=>match ps with
 | [.a r]=>unW r
 | _=>(unW [])
noncomputable def o_rw:List PV→Option (Bool × Ret):=o_fm drw crw erw rrw
theorem xZD:zY Tryz.prog 17 o_rw:=uK fun t h=>by
 revert h; revert t; intro ws h
 exact uZU ws h
end Go.Proofs.YtgmbkkkbfbocnaaGreat.Hd
namespace Go.Rx
open Go.RowKit Go.Sx
theorem zJX {P:Program} {f:Nat} {r:Ret} (h1:yK P f [.nz] r) (h2:yK P f [.ne] r):yK P f [.l []] r:=by
 refine ⟨h1.1,fun w F vals hF hal => ?_⟩;obtain ⟨v,vs,rfl,hv,ha⟩:=qUA hal;obtain rfl:=yQY ha;cases hv with
 | l0 ad c =>
  cases ad with
  | none=>exact h1.2 w F _ hF (qYD (.nz c) qWL)
  | some a=>exact h2.2 w F _ hF (qYD (.ne a c) qWL)
 | l _ b off n c sz g hn => 
  subst hn;exact h2.2 w F _ hF (qYD (.ne _ c) qWL)
end Go.Rx
namespace Go.Proofs.YtgmbkkkbfbocnaaGreat.He
open Go.Rx Rt Go.Sx Go.RowKit Od Na Nb Nc Nx Nf Nl Nm Ga Gb Gc Gd Ge Gf Gg Ha Hb Hc Hd
def hasQ (q:Nat→Int) (k:Nat) (x:Int):Bool:=!allN (fun i:Nat => !decide (q i=x)) k 0
def ixQ (q:Nat→Int) (k:Nat) (x:Int):Int:=bif hasQ q k x then ((Rx.firstK (fun i:Nat => !decide (q i=x)) k 0:Nat):Int) else -1
theorem deq (a b:Int):decide (a=b)=decide (b=a):=by by_cases h:a=b <;> simp [h] <;> omega
theorem yJQ {g:Nat→Bool}:∀ {k p:Nat},allN g k p=false→p≤Rx.firstK g k p∧Rx.firstK g k p < p + k∧g (Rx.firstK g k p)=false
 | 0,_,h=>by cases h
 | k + 1,p,h=>by
  unfold allN at h;unfold Rx.firstK;cases hp:g p with
  | true =>
   rw [hp,vZH] at h;obtain ⟨a,b,c⟩:=yJQ (k:=k) (p:=p + 1) h;rw [vYV];exact ⟨by omega,by omega,c⟩
  | false=>rw [vYG]; exact ⟨Nat.le_refl _,by omega,hp⟩
theorem jYG {q:Nat→Int} {k:Nat} {x:Int} (h:hasQ q k x=true):∃ i,i < k∧ixQ q k x=(i:Int)∧q i=x:=by
 have h':allN (fun i:Nat => !decide (q i=x)) k 0=false:=by unfold hasQ at h; simpa using h
 obtain ⟨_,h2,h3⟩:=yJQ h';exact ⟨Rx.firstK (fun i:Nat => !decide (q i=x)) k 0,by omega,by unfold ixQ; rw [h]; rfl,by simpa using h3⟩
theorem uXE {q:Nat→Int} {k:Nat} {x:Int}:decide (0≤ixQ q k x)=hasQ q k x:=by
 cases h:hasQ q k x with
 | true=>obtain ⟨i,_,h2,_⟩:=jYG h; rw [h2,vJQ (by omega)]
 | false=>unfold ixQ; rw [h]; rfl
noncomputable def orIq (k:Nat) (q:Nat→Int) (x:Int):OrS:=orS [] []
noncomputable def hIq (k:Nat) (q:Nat→Int) (x:Int) (i:Int):St:=⟨[(0,.v (.lf k (fQ q))),(1,.v (.n .i64 x)),(7,.v (.n .i64 (k:Int))),(8,.v (.n .i64 i))],[]⟩
set_option maxRecDepth 100000 in
theorem rdIq (G:St→Option (Ret × Mem)) (K:Cont) (k:Nat) (q:Nat→Int) (x:Int) (i:Int):jJ 60 (cxS Tf (orIq k q x) 60 142 (ntmF Tf 142)) (evX Tf (orIq k q x) 60 142 (ntmF Tf 142)) (qZ []) (qQ Tf 142 [0,1,0,1]) [0,1,0,1] (Tf.hint 142 (qJ (qQ Tf 142 [0,1,0,1]))) K G (hIq k q x i) =
 (bif (decide (i < (k:Int))) then (bif (inB i k) then (bif (decide (x=(q (i).toNat))) then (K .ret ⟨[(4,.v (.n .i64 i))],[]⟩)
 else (G (hIq k q x (vJJ .i64 (i + 1)))))
 else none)
 else (K (.exit 0) ⟨[],[]⟩)):=by kernel_rfl
theorem lpIq (K:Cont) (k:Nat) (q:Nat→Int) (x:Int) (_:k≤50):LFX 60 (cxS Tf (orIq k q x) 60 142 (ntmF Tf 142)) (evX Tf (orIq k q x) 60 142 (ntmF Tf 142)) (qZ []) (qQ Tf 142 [0,1,0,1]) [0,1,0,1] (Tf.hint 142 (qJ (qQ Tf 142 [0,1,0,1]))) K 60 (hIq k q x 0)=bif (allN (fun i:Nat => !decide (q i=x)) k 0) then (K (.exit 0) ⟨[],[]⟩) else (K .ret ⟨[(4,.v (.n .i64 ((Rx.firstK (fun i:Nat => !decide (q i=x)) k 0:Nat):Int)))],[]⟩):=by
 refine (kW (L:=LFX 60 (cxS Tf (orIq k q x) 60 142 (ntmF Tf 142)) (evX Tf (orIq k q x) 60 142 (ntmF Tf 142)) (qZ []) (qQ Tf 142 [0,1,0,1]) [0,1,0,1] (Tf.hint 142 (qJ (qQ Tf 142 [0,1,0,1]))) K) (stp:=jJ 60 (cxS Tf (orIq k q x) 60 142 (ntmF Tf 142)) (evX Tf (orIq k q x) 60 142 (ntmF Tf 142)) (qZ []) (qQ Tf 142 [0,1,0,1]) [0,1,0,1] (Tf.hint 142 (qJ (qQ Tf 142 [0,1,0,1]))) K) (fun _ _=>rfl) (fun (i:Nat) (_:Unit)=>hIq k q x (i:Int)) (fun _ _=>True) (fun (i:Nat) _ => !decide (q i=x)) (fun _ _=>()) (c:=k) (fun _=>(K (.exit 0) ⟨[],[]⟩)) (fun i _=>(K .ret ⟨[(4,.v (.n .i64 (i:Int)))],[]⟩)) (fun G i f hi _ => ?_) (fun _ _ _ _ _=>trivial) (fun G f _ => ?_) k 0 60 () (by omega) (by omega) trivial).trans ((yH _ _ _ _ _).trans (qQV _ _ _ _ _))
 ·refine (rdIq G K k q x i).trans ?_;rw [vJQ (show (i:Int) < (k:Int) by omega),kY (by omega),yZ (show i < k by omega),toN,deq x (q i)];cases decide (q i=x) <;> rfl
 ·refine (rdIq G K k q x k).trans ?_;rw [vYH (show ¬ (k:Int) < (k:Int) by omega)];rfl
noncomputable def kXK (k:Nat) (q:Nat→Int) (x:Int):List (List Nat × jG):=[([0,1,0,1],sumF (fun _:Unit=>(hIq k q x 0)) (fun _=>()) (fun _ K=>(bif (decide (k≤50)) then (bif (allN (fun i:Nat => !decide (q i=x)) k 0) then (K (.exit 0) ⟨[],[]⟩) else (K .ret ⟨[(4,.v (.n .i64 ((Rx.firstK (fun i:Nat => !decide (q i=x)) k 0:Nat):Int)))],[]⟩)) else none)))]
set_option maxRecDepth 100000 in
theorem xHQ (k:Nat) (q:Nat→Int) (x:Int):uJ Tf (orIq k q x) (qZ (kXK k q x)) 60 142 [.lf k (fQ q),.n .i64 x] =
 (bif (gSt (hIq k q x 0) (hIq k q x 0)) then (bif (decide (k≤50)) then (bif (allN (fun i:Nat => !decide (q i=x)) k 0) then some (.v (.n .i64 (-1)),[])
 else some (.v (.n .i64 ((Rx.firstK (fun i:Nat => !decide (q i=x)) k 0:Nat):Int)),[]))
 else none)
 else none):=by kernel_rfl
theorem uZI (k:Nat) (q:Nat→Int) (x:Int) (hk:k≤50):yK Tryz.prog 142 [.lf k (fQ q),.n .i64 x] (.v (.n .i64 (ixQ q k x))):=by
 refine zZ (N:=60) (LO:=qZ (kXK k q x)) jU zW (jW (l:=[]) (m:=[]) trivial trivial) (fun p S hp => ?_) ?_
 ·refine qH (L:=qQ Tf 142) (l:=(kXK k q x)) (show AllP _ (kXK k q x) from ⟨?_,trivial⟩) p S hp
  ·dsimp only;refine jY (T:=Tf) (o:=(orIq k q x)) (f:=142) (LO:=qZ []) (p:=[0,1,0,1]) kK ?_;intro t K r hr;obtain ⟨hg,hr⟩:=qY hr;have hk:=vJZ hg;exact (lpIq K k q x hk).trans hr
 ·refine (xHQ k q x).trans ?_;unfold ixQ hasQ;rw [yU,vJQ hk];cases allN (fun i:Nat => !decide (q i=x)) k 0 <;> rfl
def ciq:Nat × (Nat→Int) × Int→Prop:=fun t=>match t with | (k,_,_)=>k≤50
def eiq:Nat × (Nat→Int) × Int→List PV:=fun t=>match t with | (k,q,x)=>[.lf k (fQ q),.n .i64 x]
noncomputable def riq:Nat × (Nat→Int) × Int→Ret:=fun t=>match t with | (k,q,x)=>.v (.n .i64 (ixQ q k x))
def diq:List PV→Nat × (Nat→Int) × Int:=fun ps=>match ps with
 | [.lf k f,.n _ x]=>(k,unFQ f,x)
 | _=>(0,fun _=>0,0)
noncomputable def o_iq:List PV→Option (Bool × Ret):=o_fm diq ciq eiq riq
theorem fZY:zY Tryz.prog 142 o_iq:=uK fun t h=>by
 obtain ⟨k,q,x⟩:=t;exact uZI k q x h
noncomputable def xHL (k:Nat) (q:Nat→Int) (x:Int):OrS:=orS [(142,o_iq)] []
noncomputable def kXG (k:Nat) (q:Nat→Int) (x:Int):List (List Nat × jG):=[]
set_option maxRecDepth 100000 in
theorem xHU (k:Nat) (q:Nat→Int) (x:Int):uJ Tf (xHL k q x) (qZ (kXG k q x)) 60 112 [.lf k (fQ q),.n .i64 x] =
 (bif (gF1 ciq eiq (k,q,x)) then (bif (decide (0≤(ixQ q k x))) then some (.v (.b true),[])
 else some (.v (.b false),[]))
 else none):=by kernel_rfl
theorem uYK (k:Nat) (q:Nat→Int) (x:Int) (hk:k≤50):yK Tryz.prog 112 [.lf k (fQ q),.n .i64 x] (.v (.b (hasQ q k x))):=by
 refine zZ (N:=60) (LO:=qZ (kXG k q x)) jU zW (jW (l:=[(142,o_iq)]) (m:=[]) ⟨fZY,trivial⟩ trivial) (fun p S hp => ?_) ?_
 ·refine qH (L:=qQ Tf 112) (l:=(kXG k q x)) (show AllP _ (kXG k q x) from trivial) p S hp
 ·refine (xHU k q x).trans ?_;rw [jQ (C:=ciq) (t:=(k,q,x)) hk,uXE];cases hasQ q k x <;> rfl
def cct:Nat × (Nat→Int) × Int→Prop:=fun t=>match t with | (k,_,_)=>k≤50
def ect:Nat × (Nat→Int) × Int→List PV:=fun t=>match t with | (k,q,x)=>[.lf k (fQ q),.n .i64 x]
noncomputable def rct:Nat × (Nat→Int) × Int→Ret:=fun t=>match t with | (k,q,x)=>.v (.b (hasQ q k x))
def dct:List PV→Nat × (Nat→Int) × Int:=fun ps=>match ps with
 | [.lf k f,.n _ x]=>(k,unFQ f,x)
 | _=>(0,fun _=>0,0)
noncomputable def o_ct:List PV→Option (Bool × Ret):=o_fm dct cct ect rct
theorem fZX:zY Tryz.prog 112 o_ct:=uK fun t h=>by
 obtain ⟨k,q,x⟩:=t;exact uYK k q x h
def inM (ws:Wsp) (x:Int):Bool:=!decide (x < vJJ .i64 (0 - (ws.nh:Int))) && !decide ((ws.np:Int)≤x)
def mdG (ws:Wsp) (q:Nat→Int) (i:Nat):Bool:=inM ws (q i) && !hasQ q i (q i)
def vlB (ws:Wsp) (k:Nat) (q:Nat→Int):Bool:=decide (wErr ws=0) && (decide ((k:Int)=(ws.no:Int)) && allN (fun i:Nat=>mdG ws q i) k 0)
noncomputable def orVa (_:Wsp) (k:Nat) (q:Nat→Int):OrS:=orS [(16,o_gk),(112,o_ct)] []
noncomputable def hVa (ws:Wsp) (k:Nat) (q:Nat→Int) (i:Int):St:=⟨[(2,.p 2 0),(3,.p 3 0),(20,.v (.lf k (fQ q))),(21,.v (.n .i64 (k:Int))),(22,.v (.n .i64 i))],[(2,.blk [.v (.lf ws.n (fJ ws.js)),.v (.lf ws.m (fM ws.ms)),.v (.lf ws.c (fS ws.sh)),.v (.lf ws.d (fK ws.sk)),.v (.lf ws.no (fO ws.ob)),.v (.lf ws.np (fZ ws.pl)),.v (.lf ws.nh (fH ws.hd)),.v (.lf ws.ng (fG ws.gr)),.v (.n .i64 ws.slack)]),(3,.blk [.v (.lf k (fQ q))])]⟩
set_option maxRecDepth 100000 in
theorem rdVa (G:St→Option (Ret × Mem)) (K:Cont) (ws:Wsp) (k:Nat) (q:Nat→Int) (i:Int):jJ 60 (cxS Tf (orVa ws k q) 60 62 (ntmF Tf 62)) (evX Tf (orVa ws k q) 60 62 (ntmF Tf 62)) (qZ []) (qQ Tf 62 [0,1,0,1,1]) [0,1,0,1,1] (Tf.hint 62 (qJ (qQ Tf 62 [0,1,0,1,1]))) K G (hVa ws k q i) =
 (bif (decide (i < (k:Int))) then (bif (inB i k) then (bif (decide ((q (i).toNat) < (vJJ .i64 (0 - (ws.nh:Int))))) then (K .ret ⟨[(4,.v (.b false))],[]⟩)
 else (bif (decide ((ws.np:Int)≤(q (i).toNat))) then (K .ret ⟨[(4,.v (.b false))],[]⟩)
 else (bif (inS none (some i) k) then (bif (gF1 cct ect (((i).toNat - 0),(fun v=>(q (v + 0))),(q (i).toNat))) then (bif (hasQ (fun v=>(q (v + 0))) ((i).toNat - 0) (q (i).toNat)) then (K .ret ⟨[(4,.v (.b false))],[]⟩)
 else (G (hVa ws k q (vJJ .i64 (i + 1)))))
 else none)
 else none)))
 else none)
 else (K (.exit 0) ⟨[],[]⟩)):=by kernel_rfl
theorem lpVa (K:Cont) (ws:Wsp) (k:Nat) (q:Nat→Int) (_:k≤50):LFX 60 (cxS Tf (orVa ws k q) 60 62 (ntmF Tf 62)) (evX Tf (orVa ws k q) 60 62 (ntmF Tf 62)) (qZ []) (qQ Tf 62 [0,1,0,1,1]) [0,1,0,1,1] (Tf.hint 62 (qJ (qQ Tf 62 [0,1,0,1,1]))) K 60 (hVa ws k q 0)=bif (allN (fun i:Nat=>mdG ws q i) k 0) then (K (.exit 0) ⟨[],[]⟩) else (K .ret ⟨[(4,.v (.b false))],[]⟩):=by
 refine (kW (L:=LFX 60 (cxS Tf (orVa ws k q) 60 62 (ntmF Tf 62)) (evX Tf (orVa ws k q) 60 62 (ntmF Tf 62)) (qZ []) (qQ Tf 62 [0,1,0,1,1]) [0,1,0,1,1] (Tf.hint 62 (qJ (qQ Tf 62 [0,1,0,1,1]))) K) (stp:=jJ 60 (cxS Tf (orVa ws k q) 60 62 (ntmF Tf 62)) (evX Tf (orVa ws k q) 60 62 (ntmF Tf 62)) (qZ []) (qQ Tf 62 [0,1,0,1,1]) [0,1,0,1,1] (Tf.hint 62 (qJ (qQ Tf 62 [0,1,0,1,1]))) K) (fun _ _=>rfl) (fun (i:Nat) (_:Unit)=>hVa ws k q (i:Int)) (fun _ _=>True) (fun (i:Nat) _=>mdG ws q i) (fun _ _=>()) (c:=k) (fun _=>(K (.exit 0) ⟨[],[]⟩)) (fun i _=>(K .ret ⟨[(4,.v (.b false))],[]⟩)) (fun G i f hi _ => ?_) (fun _ _ _ _ _=>trivial) (fun G f _ => ?_) k 0 60 () (by omega) (by omega) trivial).trans ((yH _ _ _ _ _).trans (yW _ _ _ _ _))
 ·refine (rdVa G K ws k q i).trans ?_;rw [vJQ (show (i:Int) < (k:Int) by omega),kY (by omega),yZ (show i < k by omega),toN,jVG (show i < k by omega),jQ (C:=cct) (t:=(i - 0,(fun v=>q (v + 0)),q i)) (show i - 0≤50 by omega)];unfold mdG inM;show _=bif (!decide (q i < vJJ .i64 (0 - (ws.nh:Int))) && !decide ((ws.np:Int)≤q i)) && !hasQ (fun v=>q (v + 0)) (i - 0) (q i) then _ else _
  cases decide (q i < vJJ .i64 (0 - (ws.nh:Int))) <;> cases decide ((ws.np:Int)≤q i) <;> cases hasQ (fun v=>q (v + 0)) (i - 0) (q i) <;> rfl
 ·refine (rdVa G K ws k q k).trans ?_;rw [vYH (show ¬ (k:Int) < (k:Int) by omega)];rfl
theorem qYI {ws:Wsp} (h:wErr ws=0):sEW ws=0∧fiB ws=true∧obA ws=true∧cntF ws ws.no≤24:=by
 unfold wErr at h;by_cases h1:sEW ws=0
 ·rw [vJQ h1,vYV] at h;cases h2:fiB ws with
  | false=>rw [h2] at h; exact absurd (show (3401:Int)=0 from h) (by decide)
  | true =>
   rw [h2,vYV] at h;cases h3:obA ws with
   | false=>rw [h3] at h; exact absurd (show (3402:Int)=0 from h) (by decide)
   | true =>
    rw [h3,vYV] at h;by_cases h4:24 < cntF ws ws.no
    ·rw [vJQ h4] at h; exact absurd (show (3401:Int)=0 from h) (by decide)
    ·exact ⟨h1,rfl,rfl,by omega⟩
 ·rw [vYH h1,vYG] at h; exact absurd h h1
theorem uGC {ws:Wsp} (h:wErr ws=0):ws.no≤6:=(yWJ (qYI h).2.1).1
noncomputable def kUU (ws:Wsp) (k:Nat) (q:Nat→Int):List (List Nat × jG):=[([0,1,0,1,1],sumF (fun _:Unit=>(hVa ws k q 0)) (fun _=>()) (fun _ K=>(bif (decide (k≤50)) then (bif (allN (fun i:Nat=>mdG ws q i) k 0) then (K (.exit 0) ⟨[],[]⟩) else (K .ret ⟨[(4,.v (.b false))],[]⟩)) else none)))]
set_option maxRecDepth 100000 in
theorem xGZ (ws:Wsp) (k:Nat) (q:Nat→Int):uJ Tf (orVa ws k q) (qZ (kUU ws k q)) 60 62 [.a (wP ws),.a [.lf k (fQ q)]] =
 (bif (gF1 cgk egk ws) then (bif (!decide ((wErr ws)=0)) then some (.v (.b false),[])
 else (bif (!decide ((k:Int)=(ws.no:Int))) then some (.v (.b false),[])
 else (bif (gSt (hVa ws k q 0) (hVa ws k q 0)) then (bif (decide (k≤50)) then (bif (allN (fun i:Nat=>mdG ws q i) k 0) then some (.v (.b true),[])
 else some (.v (.b false),[]))
 else none)
 else none)))
 else none):=by kernel_rfl
theorem uQC (ws:Wsp) (k:Nat) (q:Nat→Int) (ho:okW ws):yK Tryz.prog 62 [.a (wP ws),.a [.lf k (fQ q)]] (.v (.b (vlB ws k q))):=by
 refine zZ (N:=60) (LO:=qZ (kUU ws k q)) jU zW (jW (l:=[(16,o_gk),(112,o_ct)]) (m:=[]) ⟨xYH,fZX,trivial⟩ trivial) (fun p S hp => ?_) ?_
 ·refine qH (L:=qQ Tf 62) (l:=(kUU ws k q)) (show AllP _ (kUU ws k q) from ⟨?_,trivial⟩) p S hp
  ·dsimp only;refine jY (T:=Tf) (o:=(orVa ws k q)) (f:=62) (LO:=qZ []) (p:=[0,1,0,1,1]) kK ?_;intro t K r hr;obtain ⟨hg,hr⟩:=qY hr;have hk:=vJZ hg;exact (lpVa K ws k q hk).trans hr
 ·refine (xGZ ws k q).trans ?_;unfold vlB;rw [jQ (C:=cgk) (t:=ws) ho];by_cases h:wErr ws=0
  ·rw [vJQ h];by_cases hk:(k:Int)=(ws.no:Int)
   ·have h6:=uGC h;rw [vJQ hk,yU,vJQ (show k≤50 by omega)];cases allN (fun i:Nat=>mdG ws q i) k 0 <;> rfl
   ·rw [vYH hk]; rfl
  ·rw [vYH h]; rfl
noncomputable def orRv (_:Wsp) (k:Nat) (q:Nat→Int):OrS:=orS [(17,o_rw)] []
noncomputable def hRx (ws:Wsp) (k:Nat) (q:Nat→Int) (i:Int) (j:Int):St:=⟨[(2,.p 2 0),(3,.p 3 0),(5,.v (.n .i64 i)),(6,.v (.n .i64 j))],[(2,.blk [.v (.lf ws.n (fJ ws.js)),.v (.lf ws.m (fM ws.ms)),.v (.lf ws.c (fS ws.sh)),.v (.lf ws.d (fK ws.sk)),.v (.lf ws.no (fO ws.ob)),.v (.lf ws.np (fZ ws.pl)),.v (.lf ws.nh (fH ws.hd)),.v (.lf ws.ng (fG ws.gr)),.v (.n .i64 ws.slack)]),(3,.blk [.v (.lf k (fQ q))])]⟩
set_option maxRecDepth 100000 in
theorem rdRx (G:St→Option (Ret × Mem)) (K:Cont) (ws:Wsp) (k:Nat) (q:Nat→Int) (i:Int) (j:Int):jJ 60 (cxS Tf (orRv ws k q) 60 63 (ntmF Tf 63)) (evX Tf (orRv ws k q) 60 63 (ntmF Tf 63)) (qZ []) (qQ Tf 63 [0,1,1,0,0,1,0,0,1,0,1,1]) [0,1,1,0,0,1,0,0,1,0,1,1] (Tf.hint 63 (qJ (qQ Tf 63 [0,1,1,0,0,1,0,0,1,0,1,1]))) K G (hRx ws k q i j) =
 (bif (decide (j < i)) then (bif (inB j k) then (bif (inB i k) then (bif (decide ((q (j).toNat)=(q (i).toNat))) then (K .ret ⟨[(2,.p 2 0),(3,.p 3 0),(4,.v (.b false)),(5,.v (.n .i64 i))],[(2,.blk [.v (.lf ws.n (fJ ws.js)),.v (.lf ws.m (fM ws.ms)),.v (.lf ws.c (fS ws.sh)),.v (.lf ws.d (fK ws.sk)),.v (.lf ws.no (fO ws.ob)),.v (.lf ws.np (fZ ws.pl)),.v (.lf ws.nh (fH ws.hd)),.v (.lf ws.ng (fG ws.gr)),.v (.n .i64 ws.slack)]),(3,.blk [.v (.lf k (fQ q))])]⟩)
 else (G (hRx ws k q i (vJJ .i64 (j + 1)))))
 else none)
 else none)
 else (K (.exit 2) ⟨[(2,.p 2 0),(3,.p 3 0),(5,.v (.n .i64 i))],[(2,.blk [.v (.lf ws.n (fJ ws.js)),.v (.lf ws.m (fM ws.ms)),.v (.lf ws.c (fS ws.sh)),.v (.lf ws.d (fK ws.sk)),.v (.lf ws.no (fO ws.ob)),.v (.lf ws.np (fZ ws.pl)),.v (.lf ws.nh (fH ws.hd)),.v (.lf ws.ng (fG ws.gr)),.v (.n .i64 ws.slack)]),(3,.blk [.v (.lf k (fQ q))])]⟩)):=by kernel_rfl
theorem lpRx (K:Cont) (ws:Wsp) (k:Nat) (q:Nat→Int) (i:Nat) (hI:i < k) (hN:k≤50):LFX 60 (cxS Tf (orRv ws k q) 60 63 (ntmF Tf 63)) (evX Tf (orRv ws k q) 60 63 (ntmF Tf 63)) (qZ []) (qQ Tf 63 [0,1,1,0,0,1,0,0,1,0,1,1]) [0,1,1,0,0,1,0,0,1,0,1,1] (Tf.hint 63 (qJ (qQ Tf 63 [0,1,1,0,0,1,0,0,1,0,1,1]))) K 60 (hRx ws k q i 0)=bif (allN (fun j:Nat => !decide (q j=q i)) i 0) then (K (.exit 2) ⟨[(2,.p 2 0),(3,.p 3 0),(5,.v (.n .i64 i))],[(2,.blk [.v (.lf ws.n (fJ ws.js)),.v (.lf ws.m (fM ws.ms)),.v (.lf ws.c (fS ws.sh)),.v (.lf ws.d (fK ws.sk)),.v (.lf ws.no (fO ws.ob)),.v (.lf ws.np (fZ ws.pl)),.v (.lf ws.nh (fH ws.hd)),.v (.lf ws.ng (fG ws.gr)),.v (.n .i64 ws.slack)]),(3,.blk [.v (.lf k (fQ q))])]⟩) else (K .ret ⟨[(2,.p 2 0),(3,.p 3 0),(4,.v (.b false)),(5,.v (.n .i64 i))],[(2,.blk [.v (.lf ws.n (fJ ws.js)),.v (.lf ws.m (fM ws.ms)),.v (.lf ws.c (fS ws.sh)),.v (.lf ws.d (fK ws.sk)),.v (.lf ws.no (fO ws.ob)),.v (.lf ws.np (fZ ws.pl)),.v (.lf ws.nh (fH ws.hd)),.v (.lf ws.ng (fG ws.gr)),.v (.n .i64 ws.slack)]),(3,.blk [.v (.lf k (fQ q))])]⟩):=by
 refine (kW (L:=LFX 60 (cxS Tf (orRv ws k q) 60 63 (ntmF Tf 63)) (evX Tf (orRv ws k q) 60 63 (ntmF Tf 63)) (qZ []) (qQ Tf 63 [0,1,1,0,0,1,0,0,1,0,1,1]) [0,1,1,0,0,1,0,0,1,0,1,1] (Tf.hint 63 (qJ (qQ Tf 63 [0,1,1,0,0,1,0,0,1,0,1,1]))) K) (stp:=jJ 60 (cxS Tf (orRv ws k q) 60 63 (ntmF Tf 63)) (evX Tf (orRv ws k q) 60 63 (ntmF Tf 63)) (qZ []) (qQ Tf 63 [0,1,1,0,0,1,0,0,1,0,1,1]) [0,1,1,0,0,1,0,0,1,0,1,1] (Tf.hint 63 (qJ (qQ Tf 63 [0,1,1,0,0,1,0,0,1,0,1,1]))) K) (fun _ _=>rfl) (fun (j:Nat) (_:Unit)=>hRx ws k q i (j:Int)) (fun _ _=>True) (fun (j:Nat) _ => !decide (q j=q i)) (fun _ _=>()) (c:=i) (fun _=>(K (.exit 2) ⟨[(2,.p 2 0),(3,.p 3 0),(5,.v (.n .i64 i))],[(2,.blk [.v (.lf ws.n (fJ ws.js)),.v (.lf ws.m (fM ws.ms)),.v (.lf ws.c (fS ws.sh)),.v (.lf ws.d (fK ws.sk)),.v (.lf ws.no (fO ws.ob)),.v (.lf ws.np (fZ ws.pl)),.v (.lf ws.nh (fH ws.hd)),.v (.lf ws.ng (fG ws.gr)),.v (.n .i64 ws.slack)]),(3,.blk [.v (.lf k (fQ q))])]⟩)) (fun j _=>(K .ret ⟨[(2,.p 2 0),(3,.p 3 0),(4,.v (.b false)),(5,.v (.n .i64 i))],[(2,.blk [.v (.lf ws.n (fJ ws.js)),.v (.lf ws.m (fM ws.ms)),.v (.lf ws.c (fS ws.sh)),.v (.lf ws.d (fK ws.sk)),.v (.lf ws.no (fO ws.ob)),.v (.lf ws.np (fZ ws.pl)),.v (.lf ws.nh (fH ws.hd)),.v (.lf ws.ng (fG ws.gr)),.v (.n .i64 ws.slack)]),(3,.blk [.v (.lf k (fQ q))])]⟩)) (fun G j f hi _ => ?_) (fun _ _ _ _ _=>trivial) (fun G f _ => ?_) (i) 0 60 () (by omega) (by omega) trivial).trans ((yH _ _ _ _ _).trans (yW _ _ _ _ _))
 ·refine (rdRx G K ws k q i j).trans ?_;rw [vJQ (show (j:Int) < (i:Int) by omega),kY (by omega),yZ (show j < k by omega),yZ hI,toN,toN];cases decide (q j=q i) <;> rfl
 ·refine (rdRx G K ws k q i (i:Int)).trans ?_;rw [vYH (show ¬ (i:Int) < (i:Int) by omega)];rfl
theorem okRx (ws:Wsp) (k:Nat) (q:Nat→Int):∀ p S,qZ [([0,1,1,0,0,1,0,0,1,0,1,1],sumF (fun t:Nat=>(hRx ws k q ((t:Nat):Int) 0)) (fun σ=>((slI σ 5).toNat)) (fun t K=>(bif (decide (t < k∧k≤50)) then (bif (allN (fun j:Nat => !decide (q j=q t)) t 0) then (K (.exit 2) ⟨[(2,.p 2 0),(3,.p 3 0),(5,.v (.n .i64 t))],[(2,.blk [.v (.lf ws.n (fJ ws.js)),.v (.lf ws.m (fM ws.ms)),.v (.lf ws.c (fS ws.sh)),.v (.lf ws.d (fK ws.sk)),.v (.lf ws.no (fO ws.ob)),.v (.lf ws.np (fZ ws.pl)),.v (.lf ws.nh (fH ws.hd)),.v (.lf ws.ng (fG ws.gr)),.v (.n .i64 ws.slack)]),(3,.blk [.v (.lf k (fQ q))])]⟩) else (K .ret ⟨[(2,.p 2 0),(3,.p 3 0),(4,.v (.b false)),(5,.v (.n .i64 t))],[(2,.blk [.v (.lf ws.n (fJ ws.js)),.v (.lf ws.m (fM ws.ms)),.v (.lf ws.c (fS ws.sh)),.v (.lf ws.d (fK ws.sk)),.v (.lf ws.no (fO ws.ob)),.v (.lf ws.np (fZ ws.pl)),.v (.lf ws.nh (fH ws.hd)),.v (.lf ws.ng (fG ws.gr)),.v (.n .i64 ws.slack)]),(3,.blk [.v (.lf k (fQ q))])]⟩)) else none)))] p=some S→qQF 60 (cxS Tf (orRv ws k q) 60 63 (ntmF Tf 63)) (qQ Tf 63 p) S:=fun p S hp=>by
 refine qH (L:=qQ Tf 63) (l:=[([0,1,1,0,0,1,0,0,1,0,1,1],sumF (fun t:Nat=>(hRx ws k q ((t:Nat):Int) 0)) (fun σ=>((slI σ 5).toNat)) (fun t K=>(bif (decide (t < k∧k≤50)) then (bif (allN (fun j:Nat => !decide (q j=q t)) t 0) then (K (.exit 2) ⟨[(2,.p 2 0),(3,.p 3 0),(5,.v (.n .i64 t))],[(2,.blk [.v (.lf ws.n (fJ ws.js)),.v (.lf ws.m (fM ws.ms)),.v (.lf ws.c (fS ws.sh)),.v (.lf ws.d (fK ws.sk)),.v (.lf ws.no (fO ws.ob)),.v (.lf ws.np (fZ ws.pl)),.v (.lf ws.nh (fH ws.hd)),.v (.lf ws.ng (fG ws.gr)),.v (.n .i64 ws.slack)]),(3,.blk [.v (.lf k (fQ q))])]⟩) else (K .ret ⟨[(2,.p 2 0),(3,.p 3 0),(4,.v (.b false)),(5,.v (.n .i64 t))],[(2,.blk [.v (.lf ws.n (fJ ws.js)),.v (.lf ws.m (fM ws.ms)),.v (.lf ws.c (fS ws.sh)),.v (.lf ws.d (fK ws.sk)),.v (.lf ws.no (fO ws.ob)),.v (.lf ws.np (fZ ws.pl)),.v (.lf ws.nh (fH ws.hd)),.v (.lf ws.ng (fG ws.gr)),.v (.n .i64 ws.slack)]),(3,.blk [.v (.lf k (fQ q))])]⟩)) else none)))]) ⟨?_,trivial⟩ p S hp;dsimp only;refine jY (T:=Tf) (o:=(orRv ws k q)) (f:=63) (LO:=qZ []) (p:=[0,1,1,0,0,1,0,0,1,0,1,1]) kK ?_;intro t K r hr;obtain ⟨hg,hr⟩:=qY hr
 skip
 exact (lpRx K ws k q t (vJZ hg).1 (vJZ hg).2).trans hr
noncomputable def hRv (ws:Wsp) (k:Nat) (q:Nat→Int) (i:Int):St:=⟨[(2,.p 2 0),(3,.p 3 0),(5,.v (.n .i64 i))],[(2,.blk [.v (.lf ws.n (fJ ws.js)),.v (.lf ws.m (fM ws.ms)),.v (.lf ws.c (fS ws.sh)),.v (.lf ws.d (fK ws.sk)),.v (.lf ws.no (fO ws.ob)),.v (.lf ws.np (fZ ws.pl)),.v (.lf ws.nh (fH ws.hd)),.v (.lf ws.ng (fG ws.gr)),.v (.n .i64 ws.slack)]),(3,.blk [.v (.lf k (fQ q))])]⟩
set_option maxRecDepth 100000 in
theorem rdRv (G:St→Option (Ret × Mem)) (K:Cont) (ws:Wsp) (k:Nat) (q:Nat→Int) (i:Int):jJ 60 (cxS Tf (orRv ws k q) 60 63 (ntmF Tf 63)) (evX Tf (orRv ws k q) 60 63 (ntmF Tf 63)) (qZ [([0,1,1,0,0,1,0,0,1,0,1,1],sumF (fun t:Nat=>(hRx ws k q ((t:Nat):Int) 0)) (fun σ=>((slI σ 5).toNat)) (fun t K=>(bif (decide (t < k∧k≤50)) then (bif (allN (fun j:Nat => !decide (q j=q t)) t 0) then (K (.exit 2) ⟨[(2,.p 2 0),(3,.p 3 0),(5,.v (.n .i64 t))],[(2,.blk [.v (.lf ws.n (fJ ws.js)),.v (.lf ws.m (fM ws.ms)),.v (.lf ws.c (fS ws.sh)),.v (.lf ws.d (fK ws.sk)),.v (.lf ws.no (fO ws.ob)),.v (.lf ws.np (fZ ws.pl)),.v (.lf ws.nh (fH ws.hd)),.v (.lf ws.ng (fG ws.gr)),.v (.n .i64 ws.slack)]),(3,.blk [.v (.lf k (fQ q))])]⟩) else (K .ret ⟨[(2,.p 2 0),(3,.p 3 0),(4,.v (.b false)),(5,.v (.n .i64 t))],[(2,.blk [.v (.lf ws.n (fJ ws.js)),.v (.lf ws.m (fM ws.ms)),.v (.lf ws.c (fS ws.sh)),.v (.lf ws.d (fK ws.sk)),.v (.lf ws.no (fO ws.ob)),.v (.lf ws.np (fZ ws.pl)),.v (.lf ws.nh (fH ws.hd)),.v (.lf ws.ng (fG ws.gr)),.v (.n .i64 ws.slack)]),(3,.blk [.v (.lf k (fQ q))])]⟩)) else none)))]) (qQ Tf 63 [0,1,0,1,1]) [0,1,0,1,1] (Tf.hint 63 (qJ (qQ Tf 63 [0,1,0,1,1]))) K G (hRv ws k q i) =
 (bif (decide (i < (k:Int))) then (bif (inB i k) then (bif (decide ((q (i).toNat) < (vJJ .i64 (0 - (ws.nh:Int))))) then (K .ret ⟨[(4,.v (.b false))],[]⟩)
 else (bif (inB i k) then (bif (decide ((ws.np:Int)≤(q (i).toNat))) then (K .ret ⟨[(4,.v (.b false))],[]⟩)
 else (bif (gSt (hRx ws k q i 0) (hRx ws k q (((i).toNat:Nat):Int) 0)) then (bif (decide ((i).toNat < k∧k≤50)) then (bif (allN (fun j:Nat => !decide (q j=q (i).toNat)) (i).toNat 0) then (G (hRv ws k q (vJJ .i64 ((((i).toNat:Nat):Int) + 1))))
 else (K .ret ⟨[(4,.v (.b false))],[]⟩))
 else none)
 else none))
 else none))
 else none)
 else (K (.exit 0) ⟨[],[]⟩)):=by kernel_rfl
theorem lpRv (K:Cont) (ws:Wsp) (k:Nat) (q:Nat→Int) (hk:k≤50):LFX 60 (cxS Tf (orRv ws k q) 60 63 (ntmF Tf 63)) (evX Tf (orRv ws k q) 60 63 (ntmF Tf 63)) (qZ [([0,1,1,0,0,1,0,0,1,0,1,1],sumF (fun t:Nat=>(hRx ws k q ((t:Nat):Int) 0)) (fun σ=>((slI σ 5).toNat)) (fun t K=>(bif (decide (t < k∧k≤50)) then (bif (allN (fun j:Nat => !decide (q j=q t)) t 0) then (K (.exit 2) ⟨[(2,.p 2 0),(3,.p 3 0),(5,.v (.n .i64 t))],[(2,.blk [.v (.lf ws.n (fJ ws.js)),.v (.lf ws.m (fM ws.ms)),.v (.lf ws.c (fS ws.sh)),.v (.lf ws.d (fK ws.sk)),.v (.lf ws.no (fO ws.ob)),.v (.lf ws.np (fZ ws.pl)),.v (.lf ws.nh (fH ws.hd)),.v (.lf ws.ng (fG ws.gr)),.v (.n .i64 ws.slack)]),(3,.blk [.v (.lf k (fQ q))])]⟩) else (K .ret ⟨[(2,.p 2 0),(3,.p 3 0),(4,.v (.b false)),(5,.v (.n .i64 t))],[(2,.blk [.v (.lf ws.n (fJ ws.js)),.v (.lf ws.m (fM ws.ms)),.v (.lf ws.c (fS ws.sh)),.v (.lf ws.d (fK ws.sk)),.v (.lf ws.no (fO ws.ob)),.v (.lf ws.np (fZ ws.pl)),.v (.lf ws.nh (fH ws.hd)),.v (.lf ws.ng (fG ws.gr)),.v (.n .i64 ws.slack)]),(3,.blk [.v (.lf k (fQ q))])]⟩)) else none)))]) (qQ Tf 63 [0,1,0,1,1]) [0,1,0,1,1] (Tf.hint 63 (qJ (qQ Tf 63 [0,1,0,1,1]))) K 60 (hRv ws k q 0)=bif (allN (fun i:Nat=>mdG ws q i) k 0) then (K (.exit 0) ⟨[],[]⟩) else (K .ret ⟨[(4,.v (.b false))],[]⟩):=by
 refine (kW (L:=LFX 60 (cxS Tf (orRv ws k q) 60 63 (ntmF Tf 63)) (evX Tf (orRv ws k q) 60 63 (ntmF Tf 63)) (qZ [([0,1,1,0,0,1,0,0,1,0,1,1],sumF (fun t:Nat=>(hRx ws k q ((t:Nat):Int) 0)) (fun σ=>((slI σ 5).toNat)) (fun t K=>(bif (decide (t < k∧k≤50)) then (bif (allN (fun j:Nat => !decide (q j=q t)) t 0) then (K (.exit 2) ⟨[(2,.p 2 0),(3,.p 3 0),(5,.v (.n .i64 t))],[(2,.blk [.v (.lf ws.n (fJ ws.js)),.v (.lf ws.m (fM ws.ms)),.v (.lf ws.c (fS ws.sh)),.v (.lf ws.d (fK ws.sk)),.v (.lf ws.no (fO ws.ob)),.v (.lf ws.np (fZ ws.pl)),.v (.lf ws.nh (fH ws.hd)),.v (.lf ws.ng (fG ws.gr)),.v (.n .i64 ws.slack)]),(3,.blk [.v (.lf k (fQ q))])]⟩) else (K .ret ⟨[(2,.p 2 0),(3,.p 3 0),(4,.v (.b false)),(5,.v (.n .i64 t))],[(2,.blk [.v (.lf ws.n (fJ ws.js)),.v (.lf ws.m (fM ws.ms)),.v (.lf ws.c (fS ws.sh)),.v (.lf ws.d (fK ws.sk)),.v (.lf ws.no (fO ws.ob)),.v (.lf ws.np (fZ ws.pl)),.v (.lf ws.nh (fH ws.hd)),.v (.lf ws.ng (fG ws.gr)),.v (.n .i64 ws.slack)]),(3,.blk [.v (.lf k (fQ q))])]⟩)) else none)))]) (qQ Tf 63 [0,1,0,1,1]) [0,1,0,1,1] (Tf.hint 63 (qJ (qQ Tf 63 [0,1,0,1,1]))) K) (stp:=jJ 60 (cxS Tf (orRv ws k q) 60 63 (ntmF Tf 63)) (evX Tf (orRv ws k q) 60 63 (ntmF Tf 63)) (qZ [([0,1,1,0,0,1,0,0,1,0,1,1],sumF (fun t:Nat=>(hRx ws k q ((t:Nat):Int) 0)) (fun σ=>((slI σ 5).toNat)) (fun t K=>(bif (decide (t < k∧k≤50)) then (bif (allN (fun j:Nat => !decide (q j=q t)) t 0) then (K (.exit 2) ⟨[(2,.p 2 0),(3,.p 3 0),(5,.v (.n .i64 t))],[(2,.blk [.v (.lf ws.n (fJ ws.js)),.v (.lf ws.m (fM ws.ms)),.v (.lf ws.c (fS ws.sh)),.v (.lf ws.d (fK ws.sk)),.v (.lf ws.no (fO ws.ob)),.v (.lf ws.np (fZ ws.pl)),.v (.lf ws.nh (fH ws.hd)),.v (.lf ws.ng (fG ws.gr)),.v (.n .i64 ws.slack)]),(3,.blk [.v (.lf k (fQ q))])]⟩) else (K .ret ⟨[(2,.p 2 0),(3,.p 3 0),(4,.v (.b false)),(5,.v (.n .i64 t))],[(2,.blk [.v (.lf ws.n (fJ ws.js)),.v (.lf ws.m (fM ws.ms)),.v (.lf ws.c (fS ws.sh)),.v (.lf ws.d (fK ws.sk)),.v (.lf ws.no (fO ws.ob)),.v (.lf ws.np (fZ ws.pl)),.v (.lf ws.nh (fH ws.hd)),.v (.lf ws.ng (fG ws.gr)),.v (.n .i64 ws.slack)]),(3,.blk [.v (.lf k (fQ q))])]⟩)) else none)))]) (qQ Tf 63 [0,1,0,1,1]) [0,1,0,1,1] (Tf.hint 63 (qJ (qQ Tf 63 [0,1,0,1,1]))) K) (fun _ _=>rfl) (fun (i:Nat) (_:Unit)=>hRv ws k q (i:Int)) (fun _ _=>True) (fun (i:Nat) _=>mdG ws q i) (fun _ _=>()) (c:=k) (fun _=>(K (.exit 0) ⟨[],[]⟩)) (fun i _=>(K .ret ⟨[(4,.v (.b false))],[]⟩)) (fun G i f hi _ => ?_) (fun _ _ _ _ _=>trivial) (fun G f _ => ?_) k 0 60 () (by omega) (by omega) trivial).trans ((yH _ _ _ _ _).trans (yW _ _ _ _ _))
 ·refine (rdRv G K ws k q i).trans ?_;rw [vJQ (show (i:Int) < (k:Int) by omega),kY (by omega),yZ (show i < k by omega),toN,yU,vJQ (show i < k∧k≤50 from ⟨hi,hk⟩)];unfold mdG inM;rw [show allN (fun j:Nat => !decide (q j=q i)) i 0 = !hasQ q i (q i) from by unfold hasQ; rw [Bool.not_not]];cases decide (q i < vJJ .i64 (0 - (ws.nh:Int))) <;> cases decide ((ws.np:Int)≤q i) <;> cases hasQ q i (q i) <;> rfl
 ·refine (rdRv G K ws k q k).trans ?_;rw [vYH (show ¬ (k:Int) < (k:Int) by omega)];rfl
noncomputable def kUA (ws:Wsp) (k:Nat) (q:Nat→Int):List (List Nat × jG):=[([0,1,0,1,1],sumF (fun _:Unit=>(hRv ws k q 0)) (fun _=>()) (fun _ K=>(bif (decide (k≤50)) then (bif (allN (fun i:Nat=>mdG ws q i) k 0) then (K (.exit 0) ⟨[],[]⟩) else (K .ret ⟨[(4,.v (.b false))],[]⟩)) else none)))]
set_option maxRecDepth 100000 in
theorem xGW (ws:Wsp) (k:Nat) (q:Nat→Int):uJ Tf (orRv ws k q) (qZ (kUA ws k q)) 60 63 [.a (wP ws),.a [.lf k (fQ q)]] =
 (bif (gF1 crw erw ws) then (bif (!decide ((wErr ws)=0)) then some (.v (.b false),[])
 else (bif (!decide ((k:Int)=(ws.no:Int))) then some (.v (.b false),[])
 else (bif (gSt (hRv ws k q 0) (hRv ws k q 0)) then (bif (decide (k≤50)) then (bif (allN (fun i:Nat=>mdG ws q i) k 0) then some (.v (.b true),[])
 else some (.v (.b false),[]))
 else none)
 else none)))
 else none):=by kernel_rfl
theorem uZK (ws:Wsp) (k:Nat) (q:Nat→Int) (ho:okW ws):yK Tryz.prog 63 [.a (wP ws),.a [.lf k (fQ q)]] (.v (.b (vlB ws k q))):=by
 refine zZ (N:=60) (LO:=qZ (kUA ws k q)) jU zW (jW (l:=[(17,o_rw)]) (m:=[]) ⟨xZD,trivial⟩ trivial) (fun p S hp => ?_) ?_
 ·refine qH (L:=qQ Tf 63) (l:=(kUA ws k q)) (show AllP _ (kUA ws k q) from ⟨?_,trivial⟩) p S hp
  ·dsimp only;refine jY (T:=Tf) (o:=(orRv ws k q)) (f:=63) (LO:=(qZ [([0,1,1,0,0,1,0,0,1,0,1,1],sumF (fun t:Nat=>(hRx ws k q ((t:Nat):Int) 0)) (fun σ=>((slI σ 5).toNat)) (fun t K=>(bif (decide (t < k∧k≤50)) then (bif (allN (fun j:Nat => !decide (q j=q t)) t 0) then (K (.exit 2) ⟨[(2,.p 2 0),(3,.p 3 0),(5,.v (.n .i64 t))],[(2,.blk [.v (.lf ws.n (fJ ws.js)),.v (.lf ws.m (fM ws.ms)),.v (.lf ws.c (fS ws.sh)),.v (.lf ws.d (fK ws.sk)),.v (.lf ws.no (fO ws.ob)),.v (.lf ws.np (fZ ws.pl)),.v (.lf ws.nh (fH ws.hd)),.v (.lf ws.ng (fG ws.gr)),.v (.n .i64 ws.slack)]),(3,.blk [.v (.lf k (fQ q))])]⟩) else (K .ret ⟨[(2,.p 2 0),(3,.p 3 0),(4,.v (.b false)),(5,.v (.n .i64 t))],[(2,.blk [.v (.lf ws.n (fJ ws.js)),.v (.lf ws.m (fM ws.ms)),.v (.lf ws.c (fS ws.sh)),.v (.lf ws.d (fK ws.sk)),.v (.lf ws.no (fO ws.ob)),.v (.lf ws.np (fZ ws.pl)),.v (.lf ws.nh (fH ws.hd)),.v (.lf ws.ng (fG ws.gr)),.v (.n .i64 ws.slack)]),(3,.blk [.v (.lf k (fQ q))])]⟩)) else none)))])) (p:=[0,1,0,1,1]) (okRx ws k q) ?_;intro t K r hr;obtain ⟨hg,hr⟩:=qY hr;have hk:=vJZ hg;exact (lpRv K ws k q hk).trans hr
 ·refine (xGW ws k q).trans ?_;unfold vlB;rw [jQ (C:=crw) (t:=ws) ho];by_cases h:wErr ws=0
  ·rw [vJQ h];by_cases hk:(k:Int)=(ws.no:Int)
   ·have h6:=uGC h;rw [vJQ hk,yU,vJQ (show k≤50 by omega)];cases allN (fun i:Nat=>mdG ws q i) k 0 <;> rfl
   ·rw [vYH hk]; rfl
  ·rw [vYH h]; rfl
def cvl:Wsp × Nat × (Nat→Int)→Prop:=fun t=>match t with | (ws,_,_)=>okW ws
def evl:Wsp × Nat × (Nat→Int)→List PV:=fun t=>match t with | (ws,k,q)=>[.a (wP ws),.a [.lf k (fQ q)]]
noncomputable def rvl:Wsp × Nat × (Nat→Int)→Ret:=fun t=>match t with | (ws,k,q)=>.v (.b (vlB ws k q))
def dvl:List PV→Wsp × Nat × (Nat→Int):=fun ps=>match ps with
 | [.a r,.a [.lf k f]]=>(unW r,k,unFQ f)
 | _=>(unW [],0,fun _=>0)
noncomputable def o_vl:List PV→Option (Bool × Ret):=o_fm dvl cvl evl rvl
theorem xZX:zY Tryz.prog 62 o_vl:=uK fun t h=>by
 obtain ⟨ws,k,q⟩:=t;exact uQC ws k q h
def crv:Wsp × Nat × (Nat→Int)→Prop:=fun t=>match t with | (ws,_,_)=>okW ws
def erv:Wsp × Nat × (Nat→Int)→List PV:=fun t=>match t with | (ws,k,q)=>[.a (wP ws),.a [.lf k (fQ q)]]
noncomputable def rrv:Wsp × Nat × (Nat→Int)→Ret:=fun t=>match t with | (ws,k,q)=>.v (.b (vlB ws k q))
def drv:List PV→Wsp × Nat × (Nat→Int):=fun ps=>match ps with
 | [.a r,.a [.lf k f]]=>(unW r,k,unFQ f)
 | _=>(unW [],0,fun _=>0)
noncomputable def o_rv:List PV→Option (Bool × Ret):=o_fm drv crv erv rrv
theorem xZE:zY Tryz.prog 63 o_rv:=uK fun t h=>by
 obtain ⟨ws,k,q⟩:=t;exact uZK ws k q h
end Go.Proofs.YtgmbkkkbfbocnaaGreat.He
namespace Go.Proofs.YtgmbkkkbfbocnaaGreat.Hf
open Go.Rx Rt Go.Sx Go.RowKit Od Na Nb Nc Nx Nf Nl Nm Ga Gb Gc Gd Ge Gf Gg Ha Hb Hc Hd He
theorem bz {c:Bool} {x y:Int} (h:(bif c then x else y)=0) (hx:x ≠ 0):c=false∧y=0:=by
 cases c with
 | true=>exact absurd h hx
 | false=>exact ⟨rfl,h⟩
def unFB (f:Nat→List PV):Nat→Iv:=fun v=>match f v with
 | [.n _ a,.n _ b]=>⟨a,b⟩
 | _=>⟨0,0⟩
theorem jVA {i:Int} {n:Nat} (h:0≤i∧i < (n:Int)):inB i n=true:=by
 unfold inB;rw [vJQ h.1,vJQ (show i.toNat < n by omega)]; rfl
theorem uWY {ws:Wsp} (h:wErr ws=0) {i:Nat} (_:i < ws.nh):0≤(ws.hd i).link∧(ws.hd i).link < (ws.n:Int):=by
 have h2:=(qYI h).2.1;unfold fiB at h2;simp only [vQJ] at h2;have h3:=allN_iff.1 h2.2.2.1 i (Nat.zero_le _) (by omega);unfold hdOk at h3;simp only [vQJ,Bool.not_eq_true',decide_eq_false_iff_not] at h3;omega
def cat:Wsp × Int × Int × Nat × (Nat→Int)→Prop:=fun t=>match t with | (ws,_,_,_,_)=>okW ws
end Go.Proofs.YtgmbkkkbfbocnaaGreat.Hf
namespace Go.Proofs.YtgmbkkkbfbocnaaGreat.Hg
end Go.Proofs.YtgmbkkkbfbocnaaGreat.Hg

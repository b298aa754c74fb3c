/- Part 30 of the texts behind the last one: rules and contracts. No condition. -/
import Derived.Test.YtgmbkkkbfbocnaaGreatKL29
open Go.IntKind renaming wrap → vJJ
namespace Go.Proofs.YtgmbkkkbfbocnaaGreat.Gb
open Go.Rx Rt Go.Sx Go.RowKit Od Na Nb Nc Nx Nf Ga
def jZK (s:Shp):Bool:=allN (fun i:Nat=>zOk 4194304 (s.pts i)) s.np 0
def shE (n:Nat) (s:Shp):Int:=bif !isLk n s.link || (decide (s.rad < 1) || (decide (1048576 < s.rad) || (decide ((s.np:Int) < 1) || decide (8 < (s.np:Int))))) then 902 else bif jZK s then 0 else 805
noncomputable def orCs (js:Nat→J) (ms:Nat→Ms) (sh:Nat→Shp) (sk:Nat→Skp) (n m c d:Nat) (s:Shp):OrS:=orS [(98,o_il)] []
noncomputable def hCs (js:Nat→J) (ms:Nat→Ms) (sh:Nat→Shp) (sk:Nat→Skp) (n m c d:Nat) (s:Shp) (i:Int):St:=⟨[(37,.v (.lf s.np (fZ s.pts))),(38,.v (.n .i64 (s.np:Int))),(39,.v (.n .i64 i))],[]⟩
set_option maxRecDepth 100000 in
theorem rdCs (G:St→Option (Ret × Mem)) (K:Cont) (js:Nat→J) (ms:Nat→Ms) (sh:Nat→Shp) (sk:Nat→Skp) (n m c d:Nat) (s:Shp) (i:Int):uX 60 (cxS Tf (orCs js ms sh sk n m c d s) 60 97 (ntmF Tf 97)) (evX Tf (orCs js ms sh sk n m c d s) 60 97 (ntmF Tf 97)) (qX []) (qQ Tf 97 [0,1,0,1,1,1]) [0,1,0,1,1,1] (Tf.hint 97 (qG (qQ Tf 97 [0,1,0,1,1,1]))) K G (hCs js ms sh sk n m c d s i) =
 (bif (decide (i < (s.np:Int))) then (bif (inB i s.np) then (bif (decide ((s.pts (i).toNat).x < (-4194304))) then (K .ret ⟨[(4,.v (.n .i64 805))],[]⟩)
 else (bif (decide (4194304 < (s.pts (i).toNat).x)) then (K .ret ⟨[(4,.v (.n .i64 805))],[]⟩)
 else (bif (decide ((s.pts (i).toNat).y < (-4194304))) then (K .ret ⟨[(4,.v (.n .i64 805))],[]⟩)
 else (bif (decide (4194304 < (s.pts (i).toNat).y)) then (K .ret ⟨[(4,.v (.n .i64 805))],[]⟩)
 else (bif (decide ((s.pts (i).toNat).z < (-4194304))) then (K .ret ⟨[(4,.v (.n .i64 805))],[]⟩)
 else (bif (decide (4194304 < (s.pts (i).toNat).z)) then (K .ret ⟨[(4,.v (.n .i64 805))],[]⟩)
 else (G (hCs js ms sh sk n m c d s (vJJ .i64 (i + 1))))))))))
 else none)
 else (K (.exit 0) ⟨[],[]⟩)):=by kernel_rfl
theorem lpCs (K:Cont) (js:Nat→J) (ms:Nat→Ms) (sh:Nat→Shp) (sk:Nat→Skp) (n m c d:Nat) (s:Shp) (hk:s.np≤50):LFX 60 (cxS Tf (orCs js ms sh sk n m c d s) 60 97 (ntmF Tf 97)) (evX Tf (orCs js ms sh sk n m c d s) 60 97 (ntmF Tf 97)) (qX []) (qQ Tf 97 [0,1,0,1,1,1]) [0,1,0,1,1,1] (Tf.hint 97 (qG (qQ Tf 97 [0,1,0,1,1,1]))) K 60 (hCs js ms sh sk n m c d s 0)=bif (allN (fun i:Nat=>zOk 4194304 (s.pts i)) s.np 0) then (K (.exit 0) ⟨[],[]⟩) else (K .ret ⟨[(4,.v (.n .i64 805))],[]⟩):=by
 refine (qJU (L:=LFX 60 (cxS Tf (orCs js ms sh sk n m c d s) 60 97 (ntmF Tf 97)) (evX Tf (orCs js ms sh sk n m c d s) 60 97 (ntmF Tf 97)) (qX []) (qQ Tf 97 [0,1,0,1,1,1]) [0,1,0,1,1,1] (Tf.hint 97 (qG (qQ Tf 97 [0,1,0,1,1,1]))) K) (stp:=uX 60 (cxS Tf (orCs js ms sh sk n m c d s) 60 97 (ntmF Tf 97)) (evX Tf (orCs js ms sh sk n m c d s) 60 97 (ntmF Tf 97)) (qX []) (qQ Tf 97 [0,1,0,1,1,1]) [0,1,0,1,1,1] (Tf.hint 97 (qG (qQ Tf 97 [0,1,0,1,1,1]))) K) (fun _ _=>rfl) (fun (i:Nat) (_:Unit)=>hCs js ms sh sk n m c d s (i:Int)) (fun _ _=>True) (fun (i:Nat) _=>zOk 4194304 (s.pts i)) (fun _ _=>()) (c:=s.np) (fun _=>(K (.exit 0) ⟨[],[]⟩)) (fun i _=>(K .ret ⟨[(4,.v (.n .i64 805))],[]⟩)) (fun G i f hi _ => ?_) (fun _ _ _ _ _=>trivial) (fun G f _ => ?_) s.np 0 60 () (by omega) (by omega) trivial).trans ((qYV _ _ _ _ _).trans (qYJ _ _ _ _ _))
 ·refine (rdCs G K js ms sh sk n m c d s i).trans ?_;rw [vJQ (show (i:Int) < (s.np:Int) by omega),qZH (by omega),kX (show i < s.np by omega),toN];unfold zOk;cases decide ((s.pts i).x < -4194304) <;> cases decide (4194304 < (s.pts i).x) <;> cases decide ((s.pts i).y < -4194304) <;> cases decide (4194304 < (s.pts i).y) <;> cases decide ((s.pts i).z < -4194304) <;> cases decide (4194304 < (s.pts i).z) <;> rfl
 ·refine (rdCs G K js ms sh sk n m c d s s.np).trans ?_;rw [vYH (show ¬ (s.np:Int) < (s.np:Int) by omega)];rfl
noncomputable def kYZ (js:Nat→J) (ms:Nat→Ms) (sh:Nat→Shp) (sk:Nat→Skp) (n m c d:Nat) (s:Shp):List (List Nat × kV):=[([0,1,0,1,1,1],sumF (fun _:Unit=>(hCs js ms sh sk n m c d s 0)) (fun _=>()) (fun _ K=>(bif (decide (s.np≤50)) then (bif (allN (fun i:Nat=>zOk 4194304 (s.pts i)) s.np 0) then (K (.exit 0) ⟨[],[]⟩) else (K .ret ⟨[(4,.v (.n .i64 805))],[]⟩)) else none)))]
set_option maxRecDepth 100000 in
theorem pxcsh (js:Nat→J) (ms:Nat→Ms) (sh:Nat→Shp) (sk:Nat→Skp) (n m c d:Nat) (s:Shp):qWH Tf (orCs js ms sh sk n m c d s) (qX (kYZ js ms sh sk n m c d s)) 60 97 [.a [.lf n (fJ js),.lf m (fM ms),.lf c (fS sh),.lf d (fK sk)],.a (sP s)] =
 (bif (gF1 cil eil (js,ms,sh,sk,n,m,c,d,s.link)) then (bif (isLk n s.link) then (bif (decide (s.rad < 1)) then some (.v (.n .i64 902),[])
 else (bif (decide (1048576 < s.rad)) then some (.v (.n .i64 902),[])
 else (bif (decide ((s.np:Int) < 1)) then some (.v (.n .i64 902),[])
 else (bif (decide (8 < (s.np:Int))) then some (.v (.n .i64 902),[])
 else (bif (gSt (hCs js ms sh sk n m c d s 0) (hCs js ms sh sk n m c d s 0)) then (bif (decide (s.np≤50)) then (bif (allN (fun i:Nat=>zOk 4194304 (s.pts i)) s.np 0) then some (.v (.n .i64 0),[])
 else some (.v (.n .i64 805),[]))
 else none)
 else none)))))
 else some (.v (.n .i64 902),[]))
 else none):=by kernel_rfl
theorem snd_csh (js:Nat→J) (ms:Nat→Ms) (sh:Nat→Shp) (sk:Nat→Skp) (n m c d:Nat) (s:Shp):yH Tryz.prog 97 [.a [.lf n (fJ js),.lf m (fM ms),.lf c (fS sh),.lf d (fK sk)],.a (sP s)] (.v (.n .i64 (shE n s))):=by
 refine yU (N:=60) (LO:=qX (kYZ js ms sh sk n m c d s)) qQV yJ (qQH (l:=[(98,o_il)]) (m:=[]) ⟨ok_il,trivial⟩ trivial) (fun p S hp => ?_) ?_
 ·refine yY (L:=qQ Tf 97) (l:=(kYZ js ms sh sk n m c d s)) (show AllP _ (kYZ js ms sh sk n m c d s) from ⟨?_,trivial⟩) p S hp
  ·dsimp only;refine qQU (T:=Tf) (o:=(orCs js ms sh sk n m c d s)) (f:=97) (LO:=qX []) (p:=[0,1,0,1,1,1]) qZY ?_;intro t K r hr;obtain ⟨hg,hr⟩:=qY hr;have hk:=vJZ hg;exact (lpCs K js ms sh sk n m c d s hk).trans hr
 ·refine (pxcsh js ms sh sk n m c d s).trans ?_;unfold shE jZK;rw [qGQ (C:=cil) (t:=(js,ms,sh,sk,n,m,c,d,s.link)) trivial,jK];by_cases h:8 < (s.np:Int)
  ·rw [vJQ h];cases isLk n s.link <;> cases decide (s.rad < 1) <;> cases decide (1048576 < s.rad) <;> cases decide ((s.np:Int) < 1) <;> rfl
  ·rw [vYH h,vJQ (show s.np≤50 by omega)];cases isLk n s.link <;> cases decide (s.rad < 1) <;> cases decide (1048576 < s.rad) <;> cases decide ((s.np:Int) < 1) <;> cases allN (fun i:Nat=>zOk 4194304 (s.pts i)) s.np 0 <;> rfl
def ccs:(Nat→J) × (Nat→Ms) × (Nat→Shp) × (Nat→Skp) × Nat × Nat × Nat × Nat × Shp→Prop:=fun t=>match t with | (js,ms,sh,sk,n,m,c,d,s)=>True
def ecs:(Nat→J) × (Nat→Ms) × (Nat→Shp) × (Nat→Skp) × Nat × Nat × Nat × Nat × Shp→List PV:=fun t=>match t with | (js,ms,sh,sk,n,m,c,d,s)=>[.a [.lf n (fJ js),.lf m (fM ms),.lf c (fS sh),.lf d (fK sk)],.a (sP s)]
noncomputable def rcs:(Nat→J) × (Nat→Ms) × (Nat→Shp) × (Nat→Skp) × Nat × Nat × Nat × Nat × Shp→Ret:=fun t=>match t with | (js,ms,sh,sk,n,m,c,d,s)=>.v (.n .i64 (shE n s))
def dcs:List PV→(Nat→J) × (Nat→Ms) × (Nat→Shp) × (Nat→Skp) × Nat × Nat × Nat × Nat × Shp:=fun ps=>match ps with
 | [.a [.lf n js,.lf m ms,.lf c sh,.lf d sk],.a r]=>(unFJ js,unFM ms,unFS sh,unFK sk,n,m,c,d,unS r)
 | _=>(fun _=>⟨ByteArray.empty,0,0,⟨0,0,0⟩,0,0,0,0,0,0⟩,fun _=>⟨0,0,⟨0,0,0⟩⟩,fun _=>⟨0,0,0,fun _=>⟨0,0,0⟩⟩,fun _=>⟨0,0⟩,0,0,0,0,⟨0,0,0,fun _=>⟨0,0,0⟩⟩)
noncomputable def o_cs:List PV→Option (Bool × Ret):=o_fm dcs ccs ecs rcs
theorem ok_cs:zX Tryz.prog 97 o_cs:=zGW fun t h=>by
 obtain ⟨js,ms,sh,sk,n,m,c,d,s⟩:=t;exact snd_csh js ms sh sk n m c d s
def shOk (s:Shp):Bool:=!(decide (s.rad < 1) || (decide (1048576 < s.rad) || (decide ((s.np:Int) < 1) || decide (8 < (s.np:Int))))) && jZK s
noncomputable def orPc (s:Shp):OrS:=orS [] []
noncomputable def hPc (s:Shp) (i:Int):St:=⟨[(28,.v (.lf s.np (fZ s.pts))),(29,.v (.n .i64 (s.np:Int))),(30,.v (.n .i64 i))],[]⟩
set_option maxRecDepth 100000 in
theorem rdPc (G:St→Option (Ret × Mem)) (K:Cont) (s:Shp) (i:Int):uX 60 (cxS Tf (orPc s) 60 103 (ntmF Tf 103)) (evX Tf (orPc s) 60 103 (ntmF Tf 103)) (qX []) (qQ Tf 103 [0,1,0,1,1]) [0,1,0,1,1] (Tf.hint 103 (qG (qQ Tf 103 [0,1,0,1,1]))) K G (hPc s i) =
 (bif (decide (i < (s.np:Int))) then (bif (inB i s.np) then (bif (decide ((s.pts (i).toNat).x < (-4194304))) then (K .ret ⟨[(2,.v (.b false))],[]⟩)
 else (bif (decide (4194304 < (s.pts (i).toNat).x)) then (K .ret ⟨[(2,.v (.b false))],[]⟩)
 else (bif (decide ((s.pts (i).toNat).y < (-4194304))) then (K .ret ⟨[(2,.v (.b false))],[]⟩)
 else (bif (decide (4194304 < (s.pts (i).toNat).y)) then (K .ret ⟨[(2,.v (.b false))],[]⟩)
 else (bif (decide ((s.pts (i).toNat).z < (-4194304))) then (K .ret ⟨[(2,.v (.b false))],[]⟩)
 else (bif (decide (4194304 < (s.pts (i).toNat).z)) then (K .ret ⟨[(2,.v (.b false))],[]⟩)
 else (G (hPc s (vJJ .i64 (i + 1))))))))))
 else none)
 else (K (.exit 0) ⟨[],[]⟩)):=by kernel_rfl
theorem lpPc (K:Cont) (s:Shp) (hk:s.np≤50):LFX 60 (cxS Tf (orPc s) 60 103 (ntmF Tf 103)) (evX Tf (orPc s) 60 103 (ntmF Tf 103)) (qX []) (qQ Tf 103 [0,1,0,1,1]) [0,1,0,1,1] (Tf.hint 103 (qG (qQ Tf 103 [0,1,0,1,1]))) K 60 (hPc s 0)=bif (allN (fun i:Nat=>zOk 4194304 (s.pts i)) s.np 0) then (K (.exit 0) ⟨[],[]⟩) else (K .ret ⟨[(2,.v (.b false))],[]⟩):=by
 refine (qJU (L:=LFX 60 (cxS Tf (orPc s) 60 103 (ntmF Tf 103)) (evX Tf (orPc s) 60 103 (ntmF Tf 103)) (qX []) (qQ Tf 103 [0,1,0,1,1]) [0,1,0,1,1] (Tf.hint 103 (qG (qQ Tf 103 [0,1,0,1,1]))) K) (stp:=uX 60 (cxS Tf (orPc s) 60 103 (ntmF Tf 103)) (evX Tf (orPc s) 60 103 (ntmF Tf 103)) (qX []) (qQ Tf 103 [0,1,0,1,1]) [0,1,0,1,1] (Tf.hint 103 (qG (qQ Tf 103 [0,1,0,1,1]))) K) (fun _ _=>rfl) (fun (i:Nat) (_:Unit)=>hPc s (i:Int)) (fun _ _=>True) (fun (i:Nat) _=>zOk 4194304 (s.pts i)) (fun _ _=>()) (c:=s.np) (fun _=>(K (.exit 0) ⟨[],[]⟩)) (fun i _=>(K .ret ⟨[(2,.v (.b false))],[]⟩)) (fun G i f hi _ => ?_) (fun _ _ _ _ _=>trivial) (fun G f _ => ?_) s.np 0 60 () (by omega) (by omega) trivial).trans ((qYV _ _ _ _ _).trans (qYJ _ _ _ _ _))
 ·refine (rdPc G K s i).trans ?_;rw [vJQ (show (i:Int) < (s.np:Int) by omega),qZH (by omega),kX (show i < s.np by omega),toN];unfold zOk;cases decide ((s.pts i).x < -4194304) <;> cases decide (4194304 < (s.pts i).x) <;> cases decide ((s.pts i).y < -4194304) <;> cases decide (4194304 < (s.pts i).y) <;> cases decide ((s.pts i).z < -4194304) <;> cases decide (4194304 < (s.pts i).z) <;> rfl
 ·refine (rdPc G K s s.np).trans ?_;rw [vYH (show ¬ (s.np:Int) < (s.np:Int) by omega)];rfl
noncomputable def kZX (s:Shp):List (List Nat × kV):=[([0,1,0,1,1],sumF (fun _:Unit=>(hPc s 0)) (fun _=>()) (fun _ K=>(bif (decide (s.np≤50)) then (bif (allN (fun i:Nat=>zOk 4194304 (s.pts i)) s.np 0) then (K (.exit 0) ⟨[],[]⟩) else (K .ret ⟨[(2,.v (.b false))],[]⟩)) else none)))]
set_option maxRecDepth 100000 in
theorem pxpck (s:Shp):qWH Tf (orPc s) (qX (kZX s)) 60 103 [.a (sP s)] =
 (bif (decide (s.rad < 1)) then some (.v (.b false),[])
 else (bif (decide (1048576 < s.rad)) then some (.v (.b false),[])
 else (bif (decide ((s.np:Int) < 1)) then some (.v (.b false),[])
 else (bif (decide (8 < (s.np:Int))) then some (.v (.b false),[])
 else (bif (gSt (hPc s 0) (hPc s 0)) then (bif (decide (s.np≤50)) then (bif (allN (fun i:Nat=>zOk 4194304 (s.pts i)) s.np 0) then some (.v (.b true),[])
 else some (.v (.b false),[]))
 else none)
 else none))))):=by kernel_rfl
theorem snd_pck (s:Shp):yH Tryz.prog 103 [.a (sP s)] (.v (.b (shOk s))):=by
 refine yU (N:=60) (LO:=qX (kZX s)) qQV yJ (qQH (l:=[]) (m:=[]) trivial trivial) (fun p S hp => ?_) ?_
 ·refine yY (L:=qQ Tf 103) (l:=(kZX s)) (show AllP _ (kZX s) from ⟨?_,trivial⟩) p S hp
  ·dsimp only;refine qQU (T:=Tf) (o:=(orPc s)) (f:=103) (LO:=qX []) (p:=[0,1,0,1,1]) qZY ?_;intro t K r hr;obtain ⟨hg,hr⟩:=qY hr;have hk:=vJZ hg;exact (lpPc K s hk).trans hr
 ·refine (pxpck s).trans ?_;unfold shOk jZK;rw [jK];by_cases h:8 < (s.np:Int)
  ·rw [vJQ h];cases decide (s.rad < 1) <;> cases decide (1048576 < s.rad) <;> cases decide ((s.np:Int) < 1) <;> rfl
  ·rw [vYH h,vJQ (show s.np≤50 by omega)];cases decide (s.rad < 1) <;> cases decide (1048576 < s.rad) <;> cases decide ((s.np:Int) < 1) <;> cases allN (fun i:Nat=>zOk 4194304 (s.pts i)) s.np 0 <;> rfl
def cpk:Shp→Prop:=fun t=>match t with | s=>True
def epk:Shp→List PV:=fun t=>match t with | s=>[.a (sP s)]
noncomputable def rpk:Shp→Ret:=fun t=>match t with | s=>.v (.b (shOk s))
def dpk:List PV→Shp:=fun ps=>match ps with
 | [.a r]=>unS r
 | _=>⟨0,0,0,fun _=>⟨0,0,0⟩⟩
noncomputable def o_pk:List PV→Option (Bool × Ret):=o_fm dpk cpk epk rpk
theorem ok_pk:zX Tryz.prog 103 o_pk:=zGW fun t h=>by
 revert h; revert t; intro s h
 exact snd_pck s
noncomputable def orRk (s:Shp):OrS:=orS [(57,o_nr)] []
noncomputable def hRk (s:Shp) (i:Int):St:=⟨[(1,.p 1 0),(3,.v (.n .i64 i))],[(1,.blk [.v (.n .i64 s.link),.v (.n .i64 s.rad),.v (.lf s.np (fZ s.pts))])]⟩
set_option maxRecDepth 100000 in
theorem rdRk (G:St→Option (Ret × Mem)) (K:Cont) (s:Shp) (i:Int):uX 60 (cxS Tf (orRk s) 60 107 (ntmF Tf 107)) (evX Tf (orRk s) 60 107 (ntmF Tf 107)) (qX []) (qQ Tf 107 [0,1,0,1,1]) [0,1,0,1,1] (Tf.hint 107 (qG (qQ Tf 107 [0,1,0,1,1]))) K G (hRk s i) =
 (bif (decide (i < (s.np:Int))) then (bif (inB i s.np) then (bif (gF1 cnr enr (s.pts (i).toNat)) then (bif (zOk 4194304 (s.pts (i).toNat)) then (G (hRk s (vJJ .i64 (i + 1))))
 else (K .ret ⟨[(2,.v (.b false))],[]⟩))
 else none)
 else none)
 else (K (.exit 0) ⟨[],[]⟩)):=by kernel_rfl
theorem lpRk (K:Cont) (s:Shp) (hk:s.np≤50):LFX 60 (cxS Tf (orRk s) 60 107 (ntmF Tf 107)) (evX Tf (orRk s) 60 107 (ntmF Tf 107)) (qX []) (qQ Tf 107 [0,1,0,1,1]) [0,1,0,1,1] (Tf.hint 107 (qG (qQ Tf 107 [0,1,0,1,1]))) K 60 (hRk s 0)=bif (allN (fun i:Nat=>zOk 4194304 (s.pts i)) s.np 0) then (K (.exit 0) ⟨[],[]⟩) else (K .ret ⟨[(2,.v (.b false))],[]⟩):=by
 refine (qJU (L:=LFX 60 (cxS Tf (orRk s) 60 107 (ntmF Tf 107)) (evX Tf (orRk s) 60 107 (ntmF Tf 107)) (qX []) (qQ Tf 107 [0,1,0,1,1]) [0,1,0,1,1] (Tf.hint 107 (qG (qQ Tf 107 [0,1,0,1,1]))) K) (stp:=uX 60 (cxS Tf (orRk s) 60 107 (ntmF Tf 107)) (evX Tf (orRk s) 60 107 (ntmF Tf 107)) (qX []) (qQ Tf 107 [0,1,0,1,1]) [0,1,0,1,1] (Tf.hint 107 (qG (qQ Tf 107 [0,1,0,1,1]))) K) (fun _ _=>rfl) (fun (i:Nat) (_:Unit)=>hRk s (i:Int)) (fun _ _=>True) (fun (i:Nat) _=>zOk 4194304 (s.pts i)) (fun _ _=>()) (c:=s.np) (fun _=>(K (.exit 0) ⟨[],[]⟩)) (fun i _=>(K .ret ⟨[(2,.v (.b false))],[]⟩)) (fun G i f hi _ => ?_) (fun _ _ _ _ _=>trivial) (fun G f _ => ?_) s.np 0 60 () (by omega) (by omega) trivial).trans ((qYV _ _ _ _ _).trans (qYJ _ _ _ _ _))
 ·refine (rdRk G K s i).trans ?_;rw [vJQ (show (i:Int) < (s.np:Int) by omega),qZH (by omega),kX (show i < s.np by omega),toN,qGQ (C:=cnr) (t:=s.pts i) trivial];cases zOk 4194304 (s.pts i) <;> rfl
 ·refine (rdRk G K s s.np).trans ?_;rw [vYH (show ¬ (s.np:Int) < (s.np:Int) by omega)];rfl
noncomputable def kZK (s:Shp):List (List Nat × kV):=[([0,1,0,1,1],sumF (fun _:Unit=>(hRk s 0)) (fun _=>()) (fun _ K=>(bif (decide (s.np≤50)) then (bif (allN (fun i:Nat=>zOk 4194304 (s.pts i)) s.np 0) then (K (.exit 0) ⟨[],[]⟩) else (K .ret ⟨[(2,.v (.b false))],[]⟩)) else none)))]
set_option maxRecDepth 100000 in
theorem pxrck (s:Shp):qWH Tf (orRk s) (qX (kZK s)) 60 107 [.a (sP s)] =
 (bif (decide (s.rad < 1)) then some (.v (.b false),[])
 else (bif (decide (1048576 < s.rad)) then some (.v (.b false),[])
 else (bif (decide ((s.np:Int) < 1)) then some (.v (.b false),[])
 else (bif (decide (8 < (s.np:Int))) then some (.v (.b false),[])
 else (bif (gSt (hRk s 0) (hRk s 0)) then (bif (decide (s.np≤50)) then (bif (allN (fun i:Nat=>zOk 4194304 (s.pts i)) s.np 0) then some (.v (.b true),[])
 else some (.v (.b false),[]))
 else none)
 else none))))):=by kernel_rfl
theorem snd_rck (s:Shp):yH Tryz.prog 107 [.a (sP s)] (.v (.b (shOk s))):=by
 refine yU (N:=60) (LO:=qX (kZK s)) qQV yJ (qQH (l:=[(57,o_nr)]) (m:=[]) ⟨ok_nr,trivial⟩ trivial) (fun p S hp => ?_) ?_
 ·refine yY (L:=qQ Tf 107) (l:=(kZK s)) (show AllP _ (kZK s) from ⟨?_,trivial⟩) p S hp
  ·dsimp only;refine qQU (T:=Tf) (o:=(orRk s)) (f:=107) (LO:=qX []) (p:=[0,1,0,1,1]) qZY ?_;intro t K r hr;obtain ⟨hg,hr⟩:=qY hr;have hk:=vJZ hg;exact (lpRk K s hk).trans hr
 ·refine (pxrck s).trans ?_;unfold shOk jZK;rw [jK];by_cases h:8 < (s.np:Int)
  ·rw [vJQ h];cases decide (s.rad < 1) <;> cases decide (1048576 < s.rad) <;> cases decide ((s.np:Int) < 1) <;> rfl
  ·rw [vYH h,vJQ (show s.np≤50 by omega)];cases decide (s.rad < 1) <;> cases decide (1048576 < s.rad) <;> cases decide ((s.np:Int) < 1) <;> cases allN (fun i:Nat=>zOk 4194304 (s.pts i)) s.np 0 <;> rfl
def crk:Shp→Prop:=fun t=>match t with | s=>True
def erk:Shp→List PV:=fun t=>match t with | s=>[.a (sP s)]
noncomputable def rrk:Shp→Ret:=fun t=>match t with | s=>.v (.b (shOk s))
def drk:List PV→Shp:=fun ps=>match ps with
 | [.a r]=>unS r
 | _=>⟨0,0,0,fun _=>⟨0,0,0⟩⟩
noncomputable def o_rk:List PV→Option (Bool × Ret):=o_fm drk crk erk rrk
theorem ok_rk:zX Tryz.prog 107 o_rk:=zGW fun t h=>by
 revert h; revert t; intro s h
 exact snd_rck s
end Go.Proofs.YtgmbkkkbfbocnaaGreat.Gb

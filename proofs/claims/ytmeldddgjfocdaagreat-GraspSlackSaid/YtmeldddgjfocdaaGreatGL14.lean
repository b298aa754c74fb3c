/- Part 14 of the texts behind the last one: rules and contracts. No condition. -/
import Derived.Test.YtmeldddgjfocdaaGreatGL13
open Bool renaming and_eq_true → vQJ, and_self → vZJ
open Go.IntKind renaming wrap → vJJ
namespace Go.Proofs.YtmeldddgjfocdaaGreat.Ha
open Go.Rx Rt Go.Sx Go.RowKit Od Na Nb Nc Nx Nf Ga Gb Gc Gd Ge Gf Gg
structure ObT where
 name:ByteArray
 ns:Nat
 shs:Nat→Shp
structure Hnd where
 link:Int
 off:Z3
structure Grp where
 hand:Int
 place:Int
 na:Nat
 cf:Nat→Int
structure Wsp where
 js:Nat→J
 ms:Nat→Ms
 sh:Nat→Shp
 sk:Nat→Skp
 n:Nat
 m:Nat
 c:Nat
 d:Nat
 ob:Nat→ObT
 pl:Nat→Z3
 hd:Nat→Hnd
 gr:Nat→Grp
 no:Nat
 np:Nat
 nh:Nat
 ng:Nat
 slack:Int
def oP (o:ObT):List PV:=[.s o.name,.lf o.ns (fS o.shs)]
def fO (ob:Nat→ObT):Nat→List PV:=fun v=>oP (ob v)
def hP (h:Hnd):List PV:=[.n .i64 h.link,.n .i64 h.off.x,.n .i64 h.off.y,.n .i64 h.off.z]
def fH (hd:Nat→Hnd):Nat→List PV:=fun v=>hP (hd v)
def gPv (g:Grp):List PV:=[.n .i64 g.hand,.n .i64 g.place,.lf g.na (fQ g.cf)]
def fG (gr:Nat→Grp):Nat→List PV:=fun v=>gPv (gr v)
def wP (ws:Wsp):List PV:=[.lf ws.n (fJ ws.js),.lf ws.m (fM ws.ms),.lf ws.c (fS ws.sh),.lf ws.d (fK ws.sk),.lf ws.no (fO ws.ob),.lf ws.np (fZ ws.pl),.lf ws.nh (fH ws.hd),.lf ws.ng (fG ws.gr),.n .i64 ws.slack]
def unO (r:List PV):ObT:=match r with
 | [.s a,.lf k f]=>⟨a,k,unFS f⟩
 | _=>⟨ByteArray.empty,0,fun _=>⟨0,0,0,fun _=>⟨0,0,0⟩⟩⟩
def unH (r:List PV):Hnd:=match r with
 | [.n _ a,.n _ x,.n _ y,.n _ z]=>⟨a,⟨x,y,z⟩⟩
 | _=>⟨0,⟨0,0,0⟩⟩
def unG (r:List PV):Grp:=match r with
 | [.n _ a,.n _ b,.lf k f]=>⟨a,b,k,unFQ f⟩
 | _=>⟨0,0,0,fun _=>0⟩
def unW (r:List PV):Wsp:=match r with
 | [.lf n js,.lf m ms,.lf c sh,.lf d sk,.lf no ob,.lf np pl,.lf nh hd,.lf ng gr,.n _ s]=>⟨unFJ js,unFM ms,unFS sh,unFK sk,n,m,c,d,fun v=>unO (ob v),unFZ pl,fun v=>unH (hd v),fun v=>unG (gr v),no,np,nh,ng,s⟩
 | _=>⟨fun _=>⟨ByteArray.empty,0,0,⟨0,0,0⟩,0,0,0,0,0,0⟩,fun _=>⟨0,0,⟨0,0,0⟩⟩,fun _=>⟨0,0,0,fun _=>⟨0,0,0⟩⟩,fun _=>⟨0,0⟩,0,0,0,0,fun _=>⟨ByteArray.empty,0,fun _=>⟨0,0,0,fun _=>⟨0,0,0⟩⟩⟩,fun _=>⟨0,0,0⟩,fun _=>⟨0,⟨0,0,0⟩⟩,fun _=>⟨0,0,0,fun _=>0⟩,0,0,0,0,0⟩
theorem mmz (x:Int):decide (min (max x (-2097152)) 2097152=x)=(!decide (x < -2097152) && !decide (2097152 < x)):=by
 by_cases h1:x < -2097152
 ·rw [vJQ h1,vYH (show ¬ min (max x (-2097152)) 2097152=x by omega)]; rfl
 ·rw [vYH h1];by_cases h2:2097152 < x
  ·rw [vJQ h2,vYH (show ¬ min (max x (-2097152)) 2097152=x by omega)]; rfl
  ·rw [vYH h2,vJQ (show min (max x (-2097152)) 2097152=x by omega)]; rfl
noncomputable def fKW (_:Z3):OrS:=orS [] []
noncomputable def kVZ (_:Z3):List (List Nat × yG):=[]
set_option maxRecDepth 100000 in
theorem fJQ (z:Z3):qQZ Tf (fKW z) (qK (kVZ z)) 60 111 [.a [.n .i64 z.x,.n .i64 z.y,.n .i64 z.z]] =
 (bif ((decide ((min (max z.x (-2097152)) 2097152)=z.x)) && ((decide ((min (max z.y (-2097152)) 2097152)=z.y)) && ((decide ((min (max z.z (-2097152)) 2097152)=z.z)) && true))) then some (.v (.b true),[])
 else some (.v (.b false),[])):=by kernel_rfl
theorem uKX (z:Z3):zG Tryz.prog 111 [.a [.n .i64 z.x,.n .i64 z.y,.n .i64 z.z]] (.v (.b (zOk 2097152 z))):=by
 refine zK (N:=60) (LO:=qK (kVZ z)) jV yQ (kQ (l:=[]) (m:=[]) trivial trivial) (fun p S hp => ?_) ?_
 ·refine zQ (L:=qY Tf 111) (l:=(kVZ z)) (show AllP _ (kVZ z) from trivial) p S hp
 ·refine (fJQ z).trans ?_;have e:((decide ((min (max z.x (-2097152)) 2097152)=z.x)) && ((decide ((min (max z.y (-2097152)) 2097152)=z.y)) && ((decide ((min (max z.z (-2097152)) 2097152)=z.z)) && true)))=zOk 2097152 z:=by
   unfold zOk;simp only [mmz,Bool.and_true]
  rw [e];cases zOk 2097152 z <;> rfl
def cne:Z3→Prop:=fun t=>match t with | _=>True
def ene:Z3→List PV:=fun t=>match t with | z=>[.a (zP z)]
noncomputable def rne:Z3→Ret:=fun t=>match t with | z=>.v (.b (zOk 2097152 z))
def dne:List PV→Z3:=fun ps=>match ps with
 | [.a r]=>unZ r
 | _=>⟨0,0,0⟩
noncomputable def o_ne:List PV→Option (Bool × Ret):=o_fm dne cne ene rne
theorem xXC:zZ Tryz.prog 111 o_ne:=qQV fun t h=>by
 revert h; revert t; intro z h
 exact uKX z
noncomputable def ornq (_:Z3):OrS:=orS [] []
noncomputable def lsnq (_:Z3):List (List Nat × yG):=[]
set_option maxRecDepth 100000 in
theorem pxnq (z:Z3):qQZ Tf (ornq z) (qK (lsnq z)) 60 64 [.a [.n .i64 z.x,.n .i64 z.y,.n .i64 z.z],.n .i64 2097152] =
 (bif (decide (z.x < (-2097152))) then some (.v (.b false),[])
 else (bif (decide (2097152 < z.x)) then some (.v (.b false),[])
 else (bif (decide (z.y < (-2097152))) then some (.v (.b false),[])
 else (bif (decide (2097152 < z.y)) then some (.v (.b false),[])
 else (bif (decide (z.z < (-2097152))) then some (.v (.b false),[])
 else (bif (decide (2097152 < z.z)) then some (.v (.b false),[])
 else some (.v (.b true),[]))))))):=by kernel_rfl
theorem xYJ (z:Z3):zG Tryz.prog 64 [.a [.n .i64 z.x,.n .i64 z.y,.n .i64 z.z],.n .i64 2097152] (.v (.b (zOk 2097152 z))):=by
 refine zK (N:=60) (LO:=qK (lsnq z)) jV yQ (kQ (l:=[]) (m:=[]) trivial trivial) (fun p S hp => ?_) ?_
 ·refine zQ (L:=qY Tf 64) (l:=(lsnq z)) (show AllP _ (lsnq z) from trivial) p S hp
 ·refine (pxnq z).trans ?_;unfold zOk;cases decide (z.x < -2097152) <;> cases decide (2097152 < z.x) <;> cases decide (z.y < -2097152) <;> cases decide (2097152 < z.y) <;> cases decide (z.z < -2097152) <;> cases decide (2097152 < z.z) <;> rfl
def cnq:Z3→Prop:=fun t=>match t with | _=>True
def enq:Z3→List PV:=fun t=>match t with | z=>[.a (zP z),.n .i64 2097152]
noncomputable def rnq:Z3→Ret:=fun t=>match t with | z=>.v (.b (zOk 2097152 z))
def dnq:List PV→Z3:=fun ps=>match ps with
 | [.a r,.n _ _]=>(unZ r)
 | _=>⟨0,0,0⟩
noncomputable def o_nq:List PV→Option (Bool × Ret):=o_fm dnq cnq enq rnq
theorem xXG:zZ Tryz.prog 64 o_nq:=qQV fun t h=>by
 revert h; revert t; intro z h
 exact xYJ z
def sOk (s:Shp):Bool:=shOk s && (decide (s.link=0) && allN (fun k:Nat=>zOk 2097152 (s.pts k)) s.np 0)
def soOk (o:ObT):Bool:=allN (fun i:Nat=>sOk (o.shs i)) o.ns 0 && decide (0 < (o.ns:Int))
def slS (σ:St) (k:Nat):Shp:=match qQB σ.S k with
 | some (.v (.lf n f))=>⟨0,0,n,unFZ f⟩
 | _=>⟨0,0,0,fun _=>⟨0,0,0⟩⟩
noncomputable def orSo (o:ObT):OrS:=orS [(115,o_pk),(111,o_ne)] []
noncomputable def hSi (o:ObT) (i:Int) (s:Shp) (k:Int):St:=⟨[(1,.p 1 0),(8,.v (.lf o.ns (fS o.shs))),(9,.v (.n .i64 (o.ns:Int))),(10,.v (.n .i64 i)),(23,.v (.lf s.np (fZ s.pts))),(24,.v (.n .i64 (s.np:Int))),(25,.v (.n .i64 k))],[(1,.blk [.v (.s o.name),.v (.lf o.ns (fS o.shs))])]⟩
set_option maxRecDepth 100000 in
theorem rdSi (G:St→Option (Ret × Mem)) (K:Cont) (o:ObT) (i:Int) (s:Shp) (k:Int):stpT Tf 63 (orSo o) (o.ns + 100) [] [0,1,1,1,0,0,1,1,0,0,1,0,1] K G (hSi o i s k) =
 (bif (decide (k < (s.np:Int))) then (bif (inB k s.np) then (bif (gF1 cne ene (s.pts (k).toNat)) then (bif (zOk 2097152 (s.pts (k).toNat)) then (G (hSi o i s (vJJ .i64 (k + 1))))
 else (K .ret ⟨[(1,.p 1 0),(2,.v (.b false)),(8,.v (.lf o.ns (fS o.shs))),(9,.v (.n .i64 (o.ns:Int))),(10,.v (.n .i64 i))],[(1,.blk [.v (.s o.name),.v (.lf o.ns (fS o.shs))])]⟩))
 else none)
 else none)
 else (K (.exit 2) ⟨[(1,.p 1 0),(8,.v (.lf o.ns (fS o.shs))),(9,.v (.n .i64 (o.ns:Int))),(10,.v (.n .i64 i))],[(1,.blk [.v (.s o.name),.v (.lf o.ns (fS o.shs))])]⟩)):=by kernel_rfl
theorem lpSi (K:Cont) (o:ObT) (i:Int) (s:Shp) (_:s.np≤50):LFT Tf 63 (orSo o) (o.ns + 100) [] [0,1,1,1,0,0,1,1,0,0,1,0,1] K (o.ns + 100) (hSi o i s 0)=bif (allN (fun k:Nat=>zOk 2097152 (s.pts k)) s.np 0) then (K (.exit 2) ⟨[(1,.p 1 0),(8,.v (.lf o.ns (fS o.shs))),(9,.v (.n .i64 (o.ns:Int))),(10,.v (.n .i64 i))],[(1,.blk [.v (.s o.name),.v (.lf o.ns (fS o.shs))])]⟩) else (K .ret ⟨[(1,.p 1 0),(2,.v (.b false)),(8,.v (.lf o.ns (fS o.shs))),(9,.v (.n .i64 (o.ns:Int))),(10,.v (.n .i64 i))],[(1,.blk [.v (.s o.name),.v (.lf o.ns (fS o.shs))])]⟩):=by
 refine (kV (L:=LFT Tf 63 (orSo o) (o.ns + 100) [] [0,1,1,1,0,0,1,1,0,0,1,0,1] K) (stp:=stpT Tf 63 (orSo o) (o.ns + 100) [] [0,1,1,1,0,0,1,1,0,0,1,0,1] K) (fun _ _=>rfl) (fun (k:Nat) (_:Unit)=>hSi o i s (k:Int)) (fun _ _=>True) (fun (k:Nat) _=>zOk 2097152 (s.pts k)) (fun _ _=>()) (c:=s.np) (fun _=>(K (.exit 2) ⟨[(1,.p 1 0),(8,.v (.lf o.ns (fS o.shs))),(9,.v (.n .i64 (o.ns:Int))),(10,.v (.n .i64 i))],[(1,.blk [.v (.s o.name),.v (.lf o.ns (fS o.shs))])]⟩)) (fun k _=>(K .ret ⟨[(1,.p 1 0),(2,.v (.b false)),(8,.v (.lf o.ns (fS o.shs))),(9,.v (.n .i64 (o.ns:Int))),(10,.v (.n .i64 i))],[(1,.blk [.v (.s o.name),.v (.lf o.ns (fS o.shs))])]⟩)) (fun G k f hi _ => ?_) (fun _ _ _ _ _=>trivial) (fun G f _ => ?_) (s.np) 0 (o.ns + 100) () (by omega) (by omega) trivial).trans ((jY _ _ _ _ _).trans (jZ _ _ _ _ _))
 ·refine (rdSi G K o i s k).trans ?_;rw [vJQ (show (k:Int) < (s.np:Int) by omega),kK (by omega),yU (show k < s.np by omega),toN,jX (C:=cne) (t:=s.pts k) trivial];cases zOk 2097152 (s.pts k) <;> rfl
 ·refine (rdSi G K o i s (s.np:Int)).trans ?_;rw [vYH (show ¬ (s.np:Int) < (s.np:Int) by omega)];rfl
noncomputable def liSi (o:ObT):List (List Nat × yG):=[([0,1,1,1,0,0,1,1,0,0,1,0,1],sumF (fun t:Int × Shp=>(hSi o t.1 t.2 0)) (fun σ=>(slI σ 10,slS σ 23)) (fun t K=>(bif (decide (t.2.np≤50)) then (bif (allN (fun k:Nat=>zOk 2097152 (t.2.pts k)) t.2.np 0) then (K (.exit 2) ⟨[(1,.p 1 0),(8,.v (.lf o.ns (fS o.shs))),(9,.v (.n .i64 (o.ns:Int))),(10,.v (.n .i64 t.1))],[(1,.blk [.v (.s o.name),.v (.lf o.ns (fS o.shs))])]⟩) else (K .ret ⟨[(1,.p 1 0),(2,.v (.b false)),(8,.v (.lf o.ns (fS o.shs))),(9,.v (.n .i64 (o.ns:Int))),(10,.v (.n .i64 t.1))],[(1,.blk [.v (.s o.name),.v (.lf o.ns (fS o.shs))])]⟩)) else none)))]
theorem okSi (o:ObT):∀ p S,qK (liSi o) p=some S→uX (o.ns + 100) (cxS Tf (orSo o) (o.ns + 100) 63 (ntmF Tf 63)) (qY Tf 63 p) S:=fun p S hp=>by
 refine zQ (L:=qY Tf 63) (l:=(liSi o)) (show AllP _ (liSi o) from ⟨?_,trivial⟩) p S hp;dsimp only;refine jK (T:=Tf) (o:=(orSo o)) (f:=63) (LO:=qK []) (p:=[0,1,1,1,0,0,1,1,0,0,1,0,1]) kU ?_;intro t K r hr;obtain ⟨hg,hr⟩:=qQ hr
 skip
 exact (lpSi K o t.1 t.2 (vJZ hg)).trans hr
noncomputable def hSo (o:ObT) (i:Int):St:=⟨[(1,.p 1 0),(8,.v (.lf o.ns (fS o.shs))),(9,.v (.n .i64 (o.ns:Int))),(10,.v (.n .i64 i))],[(1,.blk [.v (.s o.name),.v (.lf o.ns (fS o.shs))])]⟩
set_option maxRecDepth 100000 in
theorem rdSo (G:St→Option (Ret × Mem)) (K:Cont) (o:ObT) (i:Int):stpT Tf 63 (orSo o) (o.ns + 100) (liSi o) [0,1,0,1] K G (hSo o i) =
 (bif (decide (i < (o.ns:Int))) then (bif (inB i o.ns) then (bif (gF1 cpk epk (o.shs (i).toNat)) then (bif (shOk (o.shs (i).toNat)) then (bif (!decide ((o.shs (i).toNat).link=0)) then (K .ret ⟨[(1,.p 1 0),(2,.v (.b false))],[(1,.blk [.v (.s o.name),.v (.lf o.ns (fS o.shs))])]⟩)
 else (bif (gSt (hSi o i (o.shs (i).toNat) 0) (hSi o i (o.shs (i).toNat) 0)) then (bif (decide ((o.shs (i).toNat).np≤50)) then (bif (allN (fun k:Nat=>zOk 2097152 ((o.shs (i).toNat).pts k)) (o.shs (i).toNat).np 0) then (G (hSo o (vJJ .i64 (i + 1))))
 else (K .ret ⟨[(1,.p 1 0),(2,.v (.b false))],[(1,.blk [.v (.s o.name),.v (.lf o.ns (fS o.shs))])]⟩))
 else none)
 else none))
 else (K .ret ⟨[(1,.p 1 0),(2,.v (.b false))],[(1,.blk [.v (.s o.name),.v (.lf o.ns (fS o.shs))])]⟩))
 else none)
 else none)
 else (K (.exit 0) ⟨[(1,.p 1 0)],[(1,.blk [.v (.s o.name),.v (.lf o.ns (fS o.shs))])]⟩)):=by kernel_rfl
theorem lpSo (K:Cont) (o:ObT) (_:o.ns≤9223372036854775807):LFT Tf 63 (orSo o) (o.ns + 100) (liSi o) [0,1,0,1] K (o.ns + 100) (hSo o 0)=bif (allN (fun i:Nat=>sOk (o.shs i)) o.ns 0) then (K (.exit 0) ⟨[(1,.p 1 0)],[(1,.blk [.v (.s o.name),.v (.lf o.ns (fS o.shs))])]⟩) else (K .ret ⟨[(1,.p 1 0),(2,.v (.b false))],[(1,.blk [.v (.s o.name),.v (.lf o.ns (fS o.shs))])]⟩):=by
 refine (kV (L:=LFT Tf 63 (orSo o) (o.ns + 100) (liSi o) [0,1,0,1] K) (stp:=stpT Tf 63 (orSo o) (o.ns + 100) (liSi o) [0,1,0,1] K) (fun _ _=>rfl) (fun (i:Nat) (_:Unit)=>hSo o (i:Int)) (fun _ _=>True) (fun (i:Nat) _=>sOk (o.shs i)) (fun _ _=>()) (c:=o.ns) (fun _=>(K (.exit 0) ⟨[(1,.p 1 0)],[(1,.blk [.v (.s o.name),.v (.lf o.ns (fS o.shs))])]⟩)) (fun i _=>(K .ret ⟨[(1,.p 1 0),(2,.v (.b false))],[(1,.blk [.v (.s o.name),.v (.lf o.ns (fS o.shs))])]⟩)) (fun G i f hi _ => ?_) (fun _ _ _ _ _=>trivial) (fun G f _ => ?_) o.ns 0 (o.ns + 100) () (by omega) (by omega) trivial).trans ((jY _ _ _ _ _).trans (jZ _ _ _ _ _))
 ·refine (rdSo G K o i).trans ?_;rw [vJQ (show (i:Int) < (o.ns:Int) by omega),yUC (by omega),yU (show i < o.ns by omega),toN,jX (C:=cpk) (t:=o.shs i) trivial];unfold sOk;cases h:shOk (o.shs i) with
  | false=>rfl
  | true =>
   have hb:=zUU h;by_cases hl:(o.shs i).link=0
   ·rw [vJQ hl,yJ,vJQ (show (o.shs i).np≤50 by omega)];cases allN (fun k:Nat=>zOk 2097152 ((o.shs i).pts k)) (o.shs i).np 0 <;> rfl
   ·rw [vYH hl]; rfl
 ·refine (rdSo G K o o.ns).trans ?_;rw [vYH (show ¬ (o.ns:Int) < (o.ns:Int) by omega)];rfl
noncomputable def kWG (o:ObT):List (List Nat × yG):=[([0,1,0,1],sumF (fun _:Unit=>(hSo o 0)) (fun _=>()) (fun _ K=>(bif (decide (o.ns≤9223372036854775807)) then (bif (allN (fun i:Nat=>sOk (o.shs i)) o.ns 0) then (K (.exit 0) ⟨[(1,.p 1 0)],[(1,.blk [.v (.s o.name),.v (.lf o.ns (fS o.shs))])]⟩) else (K .ret ⟨[(1,.p 1 0),(2,.v (.b false))],[(1,.blk [.v (.s o.name),.v (.lf o.ns (fS o.shs))])]⟩)) else none)))]
set_option maxRecDepth 100000 in
theorem fYW (o:ObT):qQZ Tf (orSo o) (qK (kWG o)) (o.ns + 100) 63 [.a [.s o.name,.lf o.ns (fS o.shs)]] =
 (bif (gSt (hSo o 0) (hSo o 0)) then (bif (decide (o.ns≤9223372036854775807)) then (bif (allN (fun i:Nat=>sOk (o.shs i)) o.ns 0) then (bif (decide (0 < (o.ns:Int))) then some (.v (.b true),[])
 else some (.v (.b false),[]))
 else some (.v (.b false),[]))
 else none)
 else none):=by kernel_rfl
theorem uJV (o:ObT) (ho:o.ns≤9223372036854775807):zG Tryz.prog 63 [.a [.s o.name,.lf o.ns (fS o.shs)]] (.v (.b (soOk o))):=by
 refine zK (N:=(o.ns + 100)) (LO:=qK (kWG o)) jV yQ (kQ (l:=[(115,o_pk),(111,o_ne)]) (m:=[]) ⟨fUK,xXC,trivial⟩ trivial) (fun p S hp => ?_) ?_
 ·refine zQ (L:=qY Tf 63) (l:=(kWG o)) (show AllP _ (kWG o) from ⟨?_,trivial⟩) p S hp
  ·dsimp only;refine jK (T:=Tf) (o:=(orSo o)) (f:=63) (LO:=(qK (liSi o))) (p:=[0,1,0,1]) (okSi o) ?_;intro t K r hr;obtain ⟨hg,hr⟩:=qQ hr;have ho:=vJZ hg;exact (lpSo K o ho).trans hr
 ·refine (fYW o).trans ?_;unfold soOk;rw [yJ,vJQ ho];cases allN (fun i:Nat=>sOk (o.shs i)) o.ns 0 <;> cases decide (0 < (o.ns:Int)) <;> rfl
def cso:ObT→Prop:=fun t=>match t with | o=>o.ns≤9223372036854775807
def eso:ObT→List PV:=fun t=>match t with | o=>[.a (oP o)]
noncomputable def rso:ObT→Ret:=fun t=>match t with | o=>.v (.b (soOk o))
def dso:List PV→ObT:=fun ps=>match ps with
 | [.a r]=>unO r
 | _=>⟨ByteArray.empty,0,fun _=>⟨0,0,0,fun _=>⟨0,0,0⟩⟩⟩
noncomputable def o_so:List PV→Option (Bool × Ret):=o_fm dso cso eso rso
theorem fUQ:zZ Tryz.prog 63 o_so:=qQV fun t h=>by
 revert h; revert t; intro o h
 exact uJV o h
def obOk (o:ObT):Bool:=nmB o.name && soOk o
noncomputable def orOb (o:ObT):OrS:=orS [(116,o_nm),(117,o_rk),(64,o_nq)] []
noncomputable def hOi (o:ObT) (i:Int) (s:Shp) (k:Int):St:=⟨[(1,.p 1 0),(3,.v (.n .i64 i)),(4,.p 4 0),(5,.v (.n .i64 k))],[(1,.blk [.v (.s o.name),.v (.lf o.ns (fS o.shs))]),(4,.blk [.v (.n .i64 s.link),.v (.n .i64 s.rad),.v (.lf s.np (fZ s.pts))])]⟩
set_option maxRecDepth 100000 in
theorem rdOi (G:St→Option (Ret × Mem)) (K:Cont) (o:ObT) (i:Int) (s:Shp) (k:Int):stpT Tf 66 (orOb o) (o.ns + 100) [] [0,1,1,1,0,0,1,0,0,1,0,1,1] K G (hOi o i s k) =
 (bif (decide (k < (s.np:Int))) then (bif (inB k s.np) then (bif (gF1 cnq enq (s.pts (k).toNat)) then (bif (zOk 2097152 (s.pts (k).toNat)) then (G (hOi o i s (vJJ .i64 (k + 1))))
 else (K .ret ⟨[(1,.p 1 0),(2,.v (.b false)),(3,.v (.n .i64 i))],[(1,.blk [.v (.s o.name),.v (.lf o.ns (fS o.shs))])]⟩))
 else none)
 else none)
 else (K (.exit 2) ⟨[(1,.p 1 0),(3,.v (.n .i64 i))],[(1,.blk [.v (.s o.name),.v (.lf o.ns (fS o.shs))])]⟩)):=by kernel_rfl
theorem lpOi (K:Cont) (o:ObT) (i:Int) (s:Shp) (_:s.np≤50):LFT Tf 66 (orOb o) (o.ns + 100) [] [0,1,1,1,0,0,1,0,0,1,0,1,1] K (o.ns + 100) (hOi o i s 0)=bif (allN (fun k:Nat=>zOk 2097152 (s.pts k)) s.np 0) then (K (.exit 2) ⟨[(1,.p 1 0),(3,.v (.n .i64 i))],[(1,.blk [.v (.s o.name),.v (.lf o.ns (fS o.shs))])]⟩) else (K .ret ⟨[(1,.p 1 0),(2,.v (.b false)),(3,.v (.n .i64 i))],[(1,.blk [.v (.s o.name),.v (.lf o.ns (fS o.shs))])]⟩):=by
 refine (kV (L:=LFT Tf 66 (orOb o) (o.ns + 100) [] [0,1,1,1,0,0,1,0,0,1,0,1,1] K) (stp:=stpT Tf 66 (orOb o) (o.ns + 100) [] [0,1,1,1,0,0,1,0,0,1,0,1,1] K) (fun _ _=>rfl) (fun (k:Nat) (_:Unit)=>hOi o i s (k:Int)) (fun _ _=>True) (fun (k:Nat) _=>zOk 2097152 (s.pts k)) (fun _ _=>()) (c:=s.np) (fun _=>(K (.exit 2) ⟨[(1,.p 1 0),(3,.v (.n .i64 i))],[(1,.blk [.v (.s o.name),.v (.lf o.ns (fS o.shs))])]⟩)) (fun k _=>(K .ret ⟨[(1,.p 1 0),(2,.v (.b false)),(3,.v (.n .i64 i))],[(1,.blk [.v (.s o.name),.v (.lf o.ns (fS o.shs))])]⟩)) (fun G k f hi _ => ?_) (fun _ _ _ _ _=>trivial) (fun G f _ => ?_) (s.np) 0 (o.ns + 100) () (by omega) (by omega) trivial).trans ((jY _ _ _ _ _).trans (jZ _ _ _ _ _))
 ·refine (rdOi G K o i s k).trans ?_;rw [vJQ (show (k:Int) < (s.np:Int) by omega),kK (by omega),yU (show k < s.np by omega),toN,jX (C:=cnq) (t:=s.pts k) trivial];cases zOk 2097152 (s.pts k) <;> rfl
 ·refine (rdOi G K o i s (s.np:Int)).trans ?_;rw [vYH (show ¬ (s.np:Int) < (s.np:Int) by omega)];rfl
noncomputable def liOi (o:ObT):List (List Nat × yG):=[([0,1,1,1,0,0,1,0,0,1,0,1,1],sumF (fun t:Int × Shp=>(hOi o t.1 t.2 0)) (fun σ=>(slI σ 3,bkS σ 4)) (fun t K=>(bif (decide (t.2.np≤50)) then (bif (allN (fun k:Nat=>zOk 2097152 (t.2.pts k)) t.2.np 0) then (K (.exit 2) ⟨[(1,.p 1 0),(3,.v (.n .i64 t.1))],[(1,.blk [.v (.s o.name),.v (.lf o.ns (fS o.shs))])]⟩) else (K .ret ⟨[(1,.p 1 0),(2,.v (.b false)),(3,.v (.n .i64 t.1))],[(1,.blk [.v (.s o.name),.v (.lf o.ns (fS o.shs))])]⟩)) else none)))]
theorem okOi (o:ObT):∀ p S,qK (liOi o) p=some S→uX (o.ns + 100) (cxS Tf (orOb o) (o.ns + 100) 66 (ntmF Tf 66)) (qY Tf 66 p) S:=fun p S hp=>by
 refine zQ (L:=qY Tf 66) (l:=(liOi o)) (show AllP _ (liOi o) from ⟨?_,trivial⟩) p S hp;dsimp only;refine jK (T:=Tf) (o:=(orOb o)) (f:=66) (LO:=qK []) (p:=[0,1,1,1,0,0,1,0,0,1,0,1,1]) kU ?_;intro t K r hr;obtain ⟨hg,hr⟩:=qQ hr
 skip
 exact (lpOi K o t.1 t.2 (vJZ hg)).trans hr
noncomputable def hOb (o:ObT) (i:Int):St:=⟨[(1,.p 1 0),(3,.v (.n .i64 i))],[(1,.blk [.v (.s o.name),.v (.lf o.ns (fS o.shs))])]⟩
set_option maxRecDepth 100000 in
theorem rdOb (G:St→Option (Ret × Mem)) (K:Cont) (o:ObT) (i:Int):stpT Tf 66 (orOb o) (o.ns + 100) (liOi o) [0,1,0,1,1] K G (hOb o i) =
 (bif (decide (i < (o.ns:Int))) then (bif (inB i o.ns) then (bif (gF1 crk erk (o.shs (i).toNat)) then (bif (shOk (o.shs (i).toNat)) then (bif (!decide ((o.shs (i).toNat).link=0)) then (K .ret ⟨[(2,.v (.b false))],[]⟩)
 else (bif (gSt (hOi o i (o.shs (i).toNat) 0) (hOi o i (o.shs (i).toNat) 0)) then (bif (decide ((o.shs (i).toNat).np≤50)) then (bif (allN (fun k:Nat=>zOk 2097152 ((o.shs (i).toNat).pts k)) (o.shs (i).toNat).np 0) then (G (hOb o (vJJ .i64 (i + 1))))
 else (K .ret ⟨[(2,.v (.b false))],[]⟩))
 else none)
 else none))
 else (K .ret ⟨[(2,.v (.b false))],[]⟩))
 else none)
 else none)
 else (K (.exit 0) ⟨[],[]⟩)):=by kernel_rfl
theorem lpOb (K:Cont) (o:ObT) (_:o.ns≤9223372036854775807):LFT Tf 66 (orOb o) (o.ns + 100) (liOi o) [0,1,0,1,1] K (o.ns + 100) (hOb o 0)=bif (allN (fun i:Nat=>sOk (o.shs i)) o.ns 0) then (K (.exit 0) ⟨[],[]⟩) else (K .ret ⟨[(2,.v (.b false))],[]⟩):=by
 refine (kV (L:=LFT Tf 66 (orOb o) (o.ns + 100) (liOi o) [0,1,0,1,1] K) (stp:=stpT Tf 66 (orOb o) (o.ns + 100) (liOi o) [0,1,0,1,1] K) (fun _ _=>rfl) (fun (i:Nat) (_:Unit)=>hOb o (i:Int)) (fun _ _=>True) (fun (i:Nat) _=>sOk (o.shs i)) (fun _ _=>()) (c:=o.ns) (fun _=>(K (.exit 0) ⟨[],[]⟩)) (fun i _=>(K .ret ⟨[(2,.v (.b false))],[]⟩)) (fun G i f hi _ => ?_) (fun _ _ _ _ _=>trivial) (fun G f _ => ?_) o.ns 0 (o.ns + 100) () (by omega) (by omega) trivial).trans ((jY _ _ _ _ _).trans (jZ _ _ _ _ _))
 ·refine (rdOb G K o i).trans ?_;rw [vJQ (show (i:Int) < (o.ns:Int) by omega),yUC (by omega),yU (show i < o.ns by omega),toN,jX (C:=crk) (t:=o.shs i) trivial];unfold sOk;cases h:shOk (o.shs i) with
  | false=>rfl
  | true =>
   have hb:=zUU h;by_cases hl:(o.shs i).link=0
   ·rw [vJQ hl,yJ,vJQ (show (o.shs i).np≤50 by omega)];cases allN (fun k:Nat=>zOk 2097152 ((o.shs i).pts k)) (o.shs i).np 0 <;> rfl
   ·rw [vYH hl]; rfl
 ·refine (rdOb G K o o.ns).trans ?_;rw [vYH (show ¬ (o.ns:Int) < (o.ns:Int) by omega)];rfl
noncomputable def kWL (o:ObT):List (List Nat × yG):=[([0,1,0,1,1],sumF (fun _:Unit=>(hOb o 0)) (fun _=>()) (fun _ K=>(bif (decide (o.ns≤9223372036854775807)) then (bif (allN (fun i:Nat=>sOk (o.shs i)) o.ns 0) then (K (.exit 0) ⟨[],[]⟩) else (K .ret ⟨[(2,.v (.b false))],[]⟩)) else none)))]
set_option maxRecDepth 100000 in
theorem fYI (o:ObT):qQZ Tf (orOb o) (qK (kWL o)) (o.ns + 100) 66 [.a [.s o.name,.lf o.ns (fS o.shs)]] =
 (bif (nmB o.name) then (bif (decide ((o.ns:Int)=0)) then some (.v (.b false),[])
 else (bif (gSt (hOb o 0) (hOb o 0)) then (bif (decide (o.ns≤9223372036854775807)) then (bif (allN (fun i:Nat=>sOk (o.shs i)) o.ns 0) then some (.v (.b true),[])
 else some (.v (.b false),[]))
 else none)
 else none))
 else some (.v (.b false),[])):=by kernel_rfl
theorem uKK (o:ObT) (ho:o.ns≤9223372036854775807):zG Tryz.prog 66 [.a [.s o.name,.lf o.ns (fS o.shs)]] (.v (.b (obOk o))):=by
 refine zK (N:=(o.ns + 100)) (LO:=qK (kWL o)) jV yQ (kQ (l:=[(116,o_nm),(117,o_rk),(64,o_nq)]) (m:=[]) ⟨ok_rn,xXJ,xXG,trivial⟩ trivial) (fun p S hp => ?_) ?_
 ·refine zQ (L:=qY Tf 66) (l:=(kWL o)) (show AllP _ (kWL o) from ⟨?_,trivial⟩) p S hp
  ·dsimp only;refine jK (T:=Tf) (o:=(orOb o)) (f:=66) (LO:=(qK (liOi o))) (p:=[0,1,0,1,1]) (okOi o) ?_;intro t K r hr;obtain ⟨hg,hr⟩:=qQ hr;have ho:=vJZ hg;exact (lpOb K o ho).trans hr
 ·refine (fYI o).trans ?_;unfold obOk soOk;cases nmB o.name with
  | false=>rfl
  | true =>
   by_cases h0:(o.ns:Int)=0
   ·rw [vJQ h0,vYH (show ¬ 0 < (o.ns:Int) by omega),Bool.and_false]; rfl
   ·rw [vYH h0,vJQ (show 0 < (o.ns:Int) by omega),yJ,vJQ ho];cases allN (fun i:Nat=>sOk (o.shs i)) o.ns 0 <;> rfl
def cob:ObT→Prop:=fun t=>match t with | o=>o.ns≤9223372036854775807
def eob:ObT→List PV:=fun t=>match t with | o=>[.a (oP o)]
noncomputable def rob:ObT→Ret:=fun t=>match t with | o=>.v (.b (obOk o))
def dob:List PV→ObT:=fun ps=>match ps with
 | [.a r]=>unO r
 | _=>⟨ByteArray.empty,0,fun _=>⟨0,0,0,fun _=>⟨0,0,0⟩⟩⟩
noncomputable def o_ob:List PV→Option (Bool × Ret):=o_fm dob cob eob rob
theorem fUU:zZ Tryz.prog 66 o_ob:=qQV fun t h=>by
 revert h; revert t; intro o h
 exact uKK o h
end Go.Proofs.YtmeldddgjfocdaaGreat.Ha
namespace Go.Proofs.YtmeldddgjfocdaaGreat.Nl
open Go.Rx Rt Go.Sx Go.RowKit Od Na Nb Nc Nx
def hEq (js:Nat→J) (q:Nat→Int) (n k:Nat) (i:Int):St:=⟨[(1,.v (.lf k (fQ q))),(2,.v (.f 125 [] [])),(14,.v (.lf n (fJ js))),(15,.v (.n .i64 (n:Int))),(16,.v (.n .i64 i))],[]⟩
set_option maxRecDepth 100000 in
theorem rdEq (G:St→Option (Ret × Mem)) (K:Cont) (js:Nat→J) (q:Nat→Int) (n k:Nat) (i:Int):zGI 60 (cxF T (OrL.k ([]:OrL)) 60 124 (ntmF T 124)) (ckF T (OrL.k ([]:OrL)) 60) (qY T 124 [0,1,0,1,1]) ((cxF T (OrL.k ([]:OrL)) 60 124 (ntmF T 124)).T.hint (cxF T (OrL.k ([]:OrL)) 60 124 (ntmF T 124)).me (yZ (qY T 124 [0,1,0,1,1]))) K G (hEq js q n k i) =
 (bif (decide (i < (n:Int))) then (bif (inB i n) then (bif (inB i k) then (bif (decide ((js (i).toNat).lo≤(q (i).toNat))) then (bif (decide ((q (i).toNat)≤(js (i).toNat).hi)) then (G (hEq js q n k (vJJ .i64 (i + 1))))
 else (K .ret ⟨[(6,.v (.b false))],[]⟩))
 else (K .ret ⟨[(6,.v (.b false))],[]⟩))
 else none)
 else none)
 else (K (.exit 0) ⟨[],[]⟩)):=by kernel_rfl
theorem lpEq (K:Cont) (js:Nat→J) (q:Nat→Int) (n k:Nat) (_:n≤50) (_:n=k):LF 60 (cxF T (OrL.k ([]:OrL)) 60 124 (ntmF T 124)) (ckF T (OrL.k ([]:OrL)) 60) (qY T 124 [0,1,0,1,1]) ((cxF T (OrL.k ([]:OrL)) 60 124 (ntmF T 124)).T.hint (cxF T (OrL.k ([]:OrL)) 60 124 (ntmF T 124)).me (yZ (qY T 124 [0,1,0,1,1]))) K 60 (hEq js q n k 0)=bif (allN (fun i:Nat=>decide ((js i).lo≤q i) && decide (q i≤(js i).hi)) n 0) then (K (.exit 0) ⟨[],[]⟩) else (K .ret ⟨[(6,.v (.b false))],[]⟩):=by
 refine (zXG (c:=n) (hEq js q n k) (fun i:Nat=>decide ((js i).lo≤q i) && decide (q i≤(js i).hi)) (K (.exit 0) ⟨[],[]⟩) (fun i:Nat=>(K .ret ⟨[(6,.v (.b false))],[]⟩)) (fun G i hi => ?_) (fun G => ?_) n 0 60 (by omega) (by omega)).trans (jZ _ _ _ _ _)
 ·refine (rdEq G K js q n k i).trans ?_;rw [vJQ (show (i:Int) < (n:Int) by omega),kK (by omega),yU (show i < n by omega),yU (show i < k by omega),toN];cases decide ((js i).lo≤q i) <;> cases decide (q i≤(js i).hi) <;> rfl
 ·refine (rdEq G K js q n k n).trans ?_;rw [vYH (show ¬ (n:Int) < (n:Int) by omega)];rfl
def insQ (js:Nat→J) (q:Nat→Int) (n k:Nat):Bool:=decide ((n:Int)=(k:Int)) && (allN (fun i:Nat=>decide ((js i).lo≤q i) && decide (q i≤(js i).hi)) n 0)
set_option maxRecDepth 100000 in
theorem kUQ (js:Nat→J) (q:Nat→Int) (n k:Nat):qXD T (OrL.k ([]:OrL)) (qK [([0,1,0,1,1],uU (hEq js q n k 0) (fun K=>(bif (decide ((n:Int)=(k:Int)) && decide (n≤50)) then (bif (allN (fun i:Nat=>decide ((js i).lo≤q i) && decide (q i≤(js i).hi)) n 0) then (K (.exit 0) ⟨[],[]⟩) else (K .ret ⟨[(6,.v (.b false))],[]⟩)) else none)))]) 60 124 [.lf n (fJ js),.lf k (fQ q),.f 125 [] []] =
 (bif (!decide ((n:Int)=(k:Int))) then some (.v (.b false),[])
 else (bif (gSt (hEq js q n k 0) (hEq js q n k 0)) then (bif (decide ((n:Int)=(k:Int)) && decide (n≤50)) then (bif (allN (fun i:Nat=>decide ((js i).lo≤q i) && decide (q i≤(js i).hi)) n 0) then some (.v (.b true),[])
 else some (.v (.b false),[]))
 else none)
 else none)):=by kernel_rfl
theorem jYF (js:Nat→J) (q:Nat→Int) (n k:Nat) (hn:n≤50):zG Tryz.prog 124 [.lf n (fJ js),.lf k (fQ q),.f 125 [] []] (.v (.b (insQ js q n k))):=by
 refine uW (N:=60) (LO:=qK [([0,1,0,1,1],uU (hEq js q n k 0) (fun K=>(bif (decide ((n:Int)=(k:Int)) && decide (n≤50)) then (bif (allN (fun i:Nat=>decide ((js i).lo≤q i) && decide (q i≤(js i).hi)) n 0) then (K (.exit 0) ⟨[],[]⟩) else (K .ret ⟨[(6,.v (.b false))],[]⟩)) else none)))]) jQ yQ (OrL.ok (l:=([]:OrL)) trivial) (fun p S hp => ?_) ?_
 ·refine qZQ (L:=qY T 124) (l:=[([0,1,0,1,1],uU (hEq js q n k 0) (fun K=>(bif (decide ((n:Int)=(k:Int)) && decide (n≤50)) then (bif (allN (fun i:Nat=>decide ((js i).lo≤q i) && decide (q i≤(js i).hi)) n 0) then (K (.exit 0) ⟨[],[]⟩) else (K .ret ⟨[(6,.v (.b false))],[]⟩)) else none)))]) (show AllP _ [([0,1,0,1,1],uU (hEq js q n k 0) (fun K=>(bif (decide ((n:Int)=(k:Int)) && decide (n≤50)) then (bif (allN (fun i:Nat=>decide ((js i).lo≤q i) && decide (q i≤(js i).hi)) n 0) then (K (.exit 0) ⟨[],[]⟩) else (K .ret ⟨[(6,.v (.b false))],[]⟩)) else none)))] from ⟨qYH fun K r hr => ?_,trivial⟩) p S hp
  ·obtain ⟨hg,hr⟩:=qQ hr;rw [vQJ] at hg;have hn:=vJZ hg.2;have hk:n=k:=by have:=vJZ hg.1; omega
   exact (lpEq K js q n k hn hk).trans hr
 ·refine (kUQ js q n k).trans ?_;unfold insQ;rw [yJ,vJQ hn];cases decide ((n:Int)=(k:Int)) <;> cases (allN (fun i:Nat=>decide ((js i).lo≤q i) && decide (q i≤(js i).hi)) n 0) <;> rfl
def qIn (js:Nat→J) (ms:Nat→Ms) (q:Nat→Int) (n m k:Nat):Bool:=decide (rErr js ms n m=0) && insQ js q n k
theorem uKZ (js:Nat→J) (ms:Nat→Ms) (q:Nat→Int) (n m k:Nat):zG Tryz.prog 76 [.a [.lf n (fJ js),.lf m (fM ms)],.lf k (fQ q)] (.v (.b (qIn js ms q n m k))):=by
 refine qH (N:=60) jQ yQ (OrL.ok (l:=[(104,o_cr [.a [.lf n (fJ js),.lf m (fM ms)]] (.v (.n .i64 (rErr js ms n m)))),(124,o_lk [.lf n (fJ js),.lf k (fQ q),.f 125 [] []] (decide (n≤50)) (.v (.b (insQ js q n k))))]) ⟨qVK (yXJ js ms n m),zHE (fun h=>jYF js q n k (vJZ h)),trivial⟩) ?_;refine (by kernel_rfl:_=bif (g1 [.a [.lf n (fJ js),.lf m (fM ms)]]) then (bif (decide ((rErr js ms n m)=0)) then (bif (g1 [.lf n (fJ js),.lf k (fQ q),.f 125 [] []] && decide (n≤50)) then (bif (insQ js q n k) then some (.v (.b true),[])
 else some (.v (.b false),[]))
 else none)
 else some (.v (.b false),[]))
 else none).trans ?_
 unfold qIn;rw [g1_t,g1_t];by_cases h:rErr js ms n m=0
 ·have:=qHA h
  rw [vJQ h,vJQ (show n≤50 by omega)];cases insQ js q n k <;> rfl
 ·rw [vYH h]; rfl
def hRi (js:Nat→J) (ms:Nat→Ms) (q:Nat→Int) (n m k:Nat) (i:Int):St:=⟨[(1,.v (.lf k (fQ q))),(2,.p 2 0),(5,.v (.n .i64 i))],[(2,.blk [.v (.lf n (fJ js)),.v (.lf m (fM ms))])]⟩
set_option maxRecDepth 100000 in
theorem rdRi (G:St→Option (Ret × Mem)) (K:Cont) (js:Nat→J) (ms:Nat→Ms) (q:Nat→Int) (n m k:Nat) (i:Int):zGI 60 (cxF T (OrL.k [(70,o_cr [.a [.lf n (fJ js),.lf m (fM ms)]] (.v (.n .i64 (rErr js ms n m))))]) 60 65 (ntmF T 65)) (ckF T (OrL.k [(70,o_cr [.a [.lf n (fJ js),.lf m (fM ms)]] (.v (.n .i64 (rErr js ms n m))))]) 60) (qY T 65 [0,1,0,1,1]) ((cxF T (OrL.k [(70,o_cr [.a [.lf n (fJ js),.lf m (fM ms)]] (.v (.n .i64 (rErr js ms n m))))]) 60 65 (ntmF T 65)).T.hint (cxF T (OrL.k [(70,o_cr [.a [.lf n (fJ js),.lf m (fM ms)]] (.v (.n .i64 (rErr js ms n m))))]) 60 65 (ntmF T 65)).me (yZ (qY T 65 [0,1,0,1,1]))) K G (hRi js ms q n m k i) =
 (bif (decide (i < (k:Int))) then (bif (inB i k) then (bif (inB i n) then (bif (decide ((q (i).toNat) < (js (i).toNat).lo)) then (K .ret ⟨[(4,.v (.b false))],[]⟩)
 else (bif (inB i k) then (bif (inB i n) then (bif (decide ((js (i).toNat).hi < (q (i).toNat))) then (K .ret ⟨[(4,.v (.b false))],[]⟩)
 else (G (hRi js ms q n m k (vJJ .i64 (i + 1)))))
 else none)
 else none))
 else none)
 else none)
 else (K (.exit 0) ⟨[],[]⟩)):=by kernel_rfl
theorem lpRi (K:Cont) (js:Nat→J) (ms:Nat→Ms) (q:Nat→Int) (n m k:Nat) (_:k≤50) (_:n=k):LF 60 (cxF T (OrL.k [(70,o_cr [.a [.lf n (fJ js),.lf m (fM ms)]] (.v (.n .i64 (rErr js ms n m))))]) 60 65 (ntmF T 65)) (ckF T (OrL.k [(70,o_cr [.a [.lf n (fJ js),.lf m (fM ms)]] (.v (.n .i64 (rErr js ms n m))))]) 60) (qY T 65 [0,1,0,1,1]) ((cxF T (OrL.k [(70,o_cr [.a [.lf n (fJ js),.lf m (fM ms)]] (.v (.n .i64 (rErr js ms n m))))]) 60 65 (ntmF T 65)).T.hint (cxF T (OrL.k [(70,o_cr [.a [.lf n (fJ js),.lf m (fM ms)]] (.v (.n .i64 (rErr js ms n m))))]) 60 65 (ntmF T 65)).me (yZ (qY T 65 [0,1,0,1,1]))) K 60 (hRi js ms q n m k 0)=bif (allN (fun i:Nat => !decide (q i < (js i).lo) && !decide ((js i).hi < q i)) k 0) then (K (.exit 0) ⟨[],[]⟩) else (K .ret ⟨[(4,.v (.b false))],[]⟩):=by
 refine (zXG (c:=k) (hRi js ms q n m k) (fun i:Nat => !decide (q i < (js i).lo) && !decide ((js i).hi < q i)) (K (.exit 0) ⟨[],[]⟩) (fun i:Nat=>(K .ret ⟨[(4,.v (.b false))],[]⟩)) (fun G i hi => ?_) (fun G => ?_) k 0 60 (by omega) (by omega)).trans (jZ _ _ _ _ _)
 ·refine (rdRi G K js ms q n m k i).trans ?_;rw [vJQ (show (i:Int) < (k:Int) by omega),kK (by omega),yU (show i < k by omega),yU (show i < n by omega),toN];cases decide (q i < (js i).lo) <;> cases decide ((js i).hi < q i) <;> rfl
 ·refine (rdRi G K js ms q n m k k).trans ?_;rw [vYH (show ¬ (k:Int) < (k:Int) by omega)];rfl
def rqIn (js:Nat→J) (ms:Nat→Ms) (q:Nat→Int) (n m k:Nat):Bool:=decide (rErr js ms n m=0) && (decide ((k:Int)=(n:Int)) && (allN (fun i:Nat => !decide (q i < (js i).lo) && !decide ((js i).hi < q i)) k 0))
set_option maxRecDepth 100000 in
theorem uXL (js:Nat→J) (ms:Nat→Ms) (q:Nat→Int) (n m k:Nat):qXD T (OrL.k [(70,o_cr [.a [.lf n (fJ js),.lf m (fM ms)]] (.v (.n .i64 (rErr js ms n m))))]) (qK [([0,1,0,1,1],uU (hRi js ms q n m k 0) (fun K=>(bif (decide (k≤50) && decide (n=k)) then (bif (allN (fun i:Nat => !decide (q i < (js i).lo) && !decide ((js i).hi < q i)) k 0) then (K (.exit 0) ⟨[],[]⟩) else (K .ret ⟨[(4,.v (.b false))],[]⟩)) else none)))]) 60 65 [.a [.lf n (fJ js),.lf m (fM ms)],.lf k (fQ q)] =
 (bif (g1 [.a [.lf n (fJ js),.lf m (fM ms)]]) then (bif (!decide ((rErr js ms n m)=0)) then some (.v (.b false),[])
 else (bif (!decide ((k:Int)=(n:Int))) then some (.v (.b false),[])
 else (bif (gSt (hRi js ms q n m k 0) (hRi js ms q n m k 0)) then (bif (decide (k≤50) && decide (n=k)) then (bif (allN (fun i:Nat => !decide (q i < (js i).lo) && !decide ((js i).hi < q i)) k 0) then some (.v (.b true),[])
 else some (.v (.b false),[]))
 else none)
 else none)))
 else none):=by kernel_rfl
theorem jUA (js:Nat→J) (ms:Nat→Ms) (q:Nat→Int) (n m k:Nat):zG Tryz.prog 65 [.a [.lf n (fJ js),.lf m (fM ms)],.lf k (fQ q)] (.v (.b (rqIn js ms q n m k))):=by
 refine uW (N:=60) (LO:=qK [([0,1,0,1,1],uU (hRi js ms q n m k 0) (fun K=>(bif (decide (k≤50) && decide (n=k)) then (bif (allN (fun i:Nat => !decide (q i < (js i).lo) && !decide ((js i).hi < q i)) k 0) then (K (.exit 0) ⟨[],[]⟩) else (K .ret ⟨[(4,.v (.b false))],[]⟩)) else none)))]) jQ yQ (OrL.ok (l:=[(70,o_cr [.a [.lf n (fJ js),.lf m (fM ms)]] (.v (.n .i64 (rErr js ms n m))))]) ⟨qVK (zHY js ms n m),trivial⟩) (fun p S hp => ?_) ?_
 ·refine qZQ (L:=qY T 65) (l:=[([0,1,0,1,1],uU (hRi js ms q n m k 0) (fun K=>(bif (decide (k≤50) && decide (n=k)) then (bif (allN (fun i:Nat => !decide (q i < (js i).lo) && !decide ((js i).hi < q i)) k 0) then (K (.exit 0) ⟨[],[]⟩) else (K .ret ⟨[(4,.v (.b false))],[]⟩)) else none)))]) (show AllP _ [([0,1,0,1,1],uU (hRi js ms q n m k 0) (fun K=>(bif (decide (k≤50) && decide (n=k)) then (bif (allN (fun i:Nat => !decide (q i < (js i).lo) && !decide ((js i).hi < q i)) k 0) then (K (.exit 0) ⟨[],[]⟩) else (K .ret ⟨[(4,.v (.b false))],[]⟩)) else none)))] from ⟨qYH fun K r hr => ?_,trivial⟩) p S hp
  ·obtain ⟨hg,hr⟩:=qQ hr;rw [vQJ] at hg;have hk:=vJZ hg.1;have hn:=vJZ hg.2;exact (lpRi K js ms q n m k hk hn).trans hr
 ·refine (uXL js ms q n m k).trans ?_;unfold rqIn;rw [g1_t];by_cases h:rErr js ms n m=0
  ·have:=qHA h
   rw [vJQ h];by_cases e:k=n
   ·subst e;rw [yJ,vJQ (show k≤50 by omega),vJQ (show k=k from rfl),vJQ (show (k:Int)=(k:Int) from rfl)];cases (allN (fun i:Nat => !decide (q i < (js i).lo) && !decide ((js i).hi < q i)) k 0) <;> rfl
   ·rw [vYH (show ¬ (k:Int)=(n:Int) by omega)];rfl
  ·rw [vYH h]; rfl
theorem nlt (a b:Int):(!decide (a < b))=decide (b≤a):=by by_cases h:a < b <;> simp [h] <;> omega
theorem uXY (js:Nat→J) (ms:Nat→Ms) (q:Nat→Int) (n m k:Nat):rqIn js ms q n m k=qIn js ms q n m k:=by
 unfold rqIn qIn insQ;by_cases e:n=k
 ·subst e;simp only [nlt]
 ·rw [vYH (show ¬ (n:Int)=(k:Int) by omega),vYH (show ¬ (k:Int)=(n:Int) by omega)]; rfl
theorem kYE (js:Nat→J) (ms:Nat→Ms) (q:Nat→Int) (n m k:Nat):zG Tryz.prog 65 [.a [.lf n (fJ js),.lf m (fM ms)],.lf k (fQ q)] (.v (.b (qIn js ms q n m k))):=by
 have h:=jUA js ms q n m k;rw [uXY] at h;exact h
theorem yHH {js:Nat→J} {ms:Nat→Ms} {q:Nat→Int} {n m k:Nat} (h:qIn js ms q n m k=true):rErr js ms n m=0∧n=k∧∀ i,i < n→(js i).lo≤q i∧q i≤(js i).hi:=by
 unfold qIn insQ at h;simp only [vQJ,decide_eq_true_eq] at h;refine ⟨h.1,by omega,fun i hi => ?_⟩
 have:=allN_iff.1 h.2.2 i (Nat.zero_le _) (by omega)
 simpa [vQJ,decide_eq_true_eq] using this
end Go.Proofs.YtmeldddgjfocdaaGreat.Nl
namespace Go.Proofs.YtmeldddgjfocdaaGreat.Nm
open Go.Rx Rt Go.Sx Go.RowKit Od Na Nb Nc Nx Nl
def hSx (q:Nat→Int) (k:Nat) (i:Int):St:=⟨[(0,.v (.lf k (fQ q))),(1,.v (.f 155 [] [])),(7,.v (.n .i64 (k:Int))),(8,.v (.n .i64 i))],[]⟩
set_option maxRecDepth 100000 in
theorem rdSx (G:St→Option (Ret × Mem)) (K:Cont) (q:Nat→Int) (k:Nat) (i:Int):zGI 60 (cxF T (OrL.k ([]:OrL)) 60 176 (ntmF T 176)) (ckF T (OrL.k ([]:OrL)) 60) (qY T 176 [0,1,0,1]) ((cxF T (OrL.k ([]:OrL)) 60 176 (ntmF T 176)).T.hint (cxF T (OrL.k ([]:OrL)) 60 176 (ntmF T 176)).me (yZ (qY T 176 [0,1,0,1]))) K G (hSx q k i) =
 (bif (decide (i < (k:Int))) then (bif (inB i k) then (bif (decide ((q (i).toNat) < (-2147483648))) then (K .ret ⟨[(4,.v (.n .i64 i))],[]⟩)
 else (bif (decide (2147483648 < (q (i).toNat))) then (K .ret ⟨[(4,.v (.n .i64 i))],[]⟩)
 else (G (hSx q k (vJJ .i64 (i + 1))))))
 else none)
 else (K (.exit 0) ⟨[],[]⟩)):=by kernel_rfl
theorem lpSx (K:Cont) (q:Nat→Int) (k:Nat) (_:k≤50):LF 60 (cxF T (OrL.k ([]:OrL)) 60 176 (ntmF T 176)) (ckF T (OrL.k ([]:OrL)) 60) (qY T 176 [0,1,0,1]) ((cxF T (OrL.k ([]:OrL)) 60 176 (ntmF T 176)).T.hint (cxF T (OrL.k ([]:OrL)) 60 176 (ntmF T 176)).me (yZ (qY T 176 [0,1,0,1]))) K 60 (hSx q k 0)=bif (allN (fun i:Nat => !decide (q i < -2147483648) && !decide (2147483648 < q i)) k 0) then (K (.exit 0) ⟨[],[]⟩) else (K .ret ⟨[(4,.v (.n .i64 ((Rx.firstK (fun i:Nat => !decide (q i < -2147483648) && !decide (2147483648 < q i)) k 0:Nat):Int)))],[]⟩):=by
 refine (zXG (c:=k) (hSx q k) (fun i:Nat => !decide (q i < -2147483648) && !decide (2147483648 < q i)) (K (.exit 0) ⟨[],[]⟩) (fun i:Nat=>(K .ret ⟨[(4,.v (.n .i64 (i:Int)))],[]⟩)) (fun G i hi => ?_) (fun G => ?_) k 0 60 (by omega) (by omega)).trans (qQQ _ _ _ _ _)
 ·refine (rdSx G K q k i).trans ?_;rw [vJQ (show (i:Int) < (k:Int) by omega),kK (by omega),yU (show i < k by omega),toN];cases decide (q i < -2147483648) <;> cases decide (2147483648 < q i) <;> rfl
 ·refine (rdSx G K q k k).trans ?_;rw [vYH (show ¬ (k:Int) < (k:Int) by omega)];rfl
def smQ (q:Nat→Int) (k:Nat):Bool:=(allN (fun i:Nat => !decide (q i < -2147483648) && !decide (2147483648 < q i)) k 0)
set_option maxRecDepth 100000 in
theorem xJF (q:Nat→Int) (k:Nat):qXD T (OrL.k ([]:OrL)) (qK [([0,1,0,1],uU (hSx q k 0) (fun K=>(bif (decide (k≤50)) then (bif (allN (fun i:Nat => !decide (q i < -2147483648) && !decide (2147483648 < q i)) k 0) then (K (.exit 0) ⟨[],[]⟩) else (K .ret ⟨[(4,.v (.n .i64 ((Rx.firstK (fun i:Nat => !decide (q i < -2147483648) && !decide (2147483648 < q i)) k 0:Nat):Int)))],[]⟩)) else none)))]) 60 176 [.lf k (fQ q),.f 155 [] []] =
 (bif (gSt (hSx q k 0) (hSx q k 0)) then (bif (decide (k≤50)) then (bif (allN (fun i:Nat => !decide (q i < -2147483648) && !decide (2147483648 < q i)) k 0) then some (.v (.n .i64 (-1)),[])
 else some (.v (.n .i64 ((Rx.firstK (fun i:Nat => !decide (q i < -2147483648) && !decide (2147483648 < q i)) k 0:Nat):Int)),[]))
 else none)
 else none):=by kernel_rfl
theorem kYA (q:Nat→Int) (k:Nat) (hk:k≤50):zG Tryz.prog 176 [.lf k (fQ q),.f 155 [] []] (.v (.n .i64 (bif smQ q k then -1 else ((Rx.firstK (fun i:Nat => !decide (q i < -2147483648) && !decide (2147483648 < q i)) k 0:Nat):Int)))):=by
 refine uW (N:=60) (LO:=qK [([0,1,0,1],uU (hSx q k 0) (fun K=>(bif (decide (k≤50)) then (bif (allN (fun i:Nat => !decide (q i < -2147483648) && !decide (2147483648 < q i)) k 0) then (K (.exit 0) ⟨[],[]⟩) else (K .ret ⟨[(4,.v (.n .i64 ((Rx.firstK (fun i:Nat => !decide (q i < -2147483648) && !decide (2147483648 < q i)) k 0:Nat):Int)))],[]⟩)) else none)))]) jQ yQ (OrL.ok (l:=([]:OrL)) trivial) (fun p S hp => ?_) ?_
 ·refine qZQ (L:=qY T 176) (l:=[([0,1,0,1],uU (hSx q k 0) (fun K=>(bif (decide (k≤50)) then (bif (allN (fun i:Nat => !decide (q i < -2147483648) && !decide (2147483648 < q i)) k 0) then (K (.exit 0) ⟨[],[]⟩) else (K .ret ⟨[(4,.v (.n .i64 ((Rx.firstK (fun i:Nat => !decide (q i < -2147483648) && !decide (2147483648 < q i)) k 0:Nat):Int)))],[]⟩)) else none)))]) (show AllP _ [([0,1,0,1],uU (hSx q k 0) (fun K=>(bif (decide (k≤50)) then (bif (allN (fun i:Nat => !decide (q i < -2147483648) && !decide (2147483648 < q i)) k 0) then (K (.exit 0) ⟨[],[]⟩) else (K .ret ⟨[(4,.v (.n .i64 ((Rx.firstK (fun i:Nat => !decide (q i < -2147483648) && !decide (2147483648 < q i)) k 0:Nat):Int)))],[]⟩)) else none)))] from ⟨qYH fun K r hr => ?_,trivial⟩) p S hp
  ·obtain ⟨hg,hr⟩:=qQ hr;have hk:=vJZ hg;exact (lpSx K q k hk).trans hr
 ·refine (xJF q k).trans ?_;unfold smQ;rw [yJ,vJQ hk];cases (allN (fun i:Nat => !decide (q i < -2147483648) && !decide (2147483648 < q i)) k 0) <;> rfl
theorem kYC (q:Nat→Int) (k:Nat) (hk:k≤50):zG Tryz.prog 154 [.lf k (fQ q),.f 155 [] []] (.v (.b (!smQ q k))):=by
 refine qH (N:=60) jQ yQ (OrL.ok (l:=[(176,o_cr [.lf k (fQ q),.f 155 [] []] (.v (.n .i64 (bif smQ q k then -1 else ((Rx.firstK (fun i:Nat => !decide (q i < -2147483648) && !decide (2147483648 < q i)) k 0:Nat):Int)))))]) ⟨qVK (kYA q k hk),trivial⟩) ?_;refine (by kernel_rfl:_=bif (g1 [.lf k (fQ q),.f 155 [] []]) then (bif (decide (0≤(bif smQ q k then -1 else ((Rx.firstK (fun i:Nat => !decide (q i < -2147483648) && !decide (2147483648 < q i)) k 0:Nat):Int)))) then some (.v (.b true),[])
 else some (.v (.b false),[]))
 else none).trans ?_
 rw [g1_t];cases smQ q k with
 | true=>rfl
 | false =>
  rw [vYG,vJQ (show 0≤((Rx.firstK (fun i:Nat => !decide (q i < -2147483648) && !decide (2147483648 < q i)) k 0:Nat):Int) by omega)];rfl
theorem xYQ (q:Nat→Int) (k:Nat) (hk:k≤50):zG Tryz.prog 126 [.lf k (fQ q)] (.v (.b (smQ q k))):=by
 refine qH (N:=60) jQ yQ (OrL.ok (l:=[(154,o_cr [.lf k (fQ q),.f 155 [] []] (.v (.b (!smQ q k))))]) ⟨qVK (kYC q k hk),trivial⟩) ?_;refine (by kernel_rfl:_=bif (g1 [.lf k (fQ q),.f 155 [] []]) then (bif (!smQ q k) then some (.v (.b false),[])
 else some (.v (.b true),[]))
 else none).trans ?_
 rw [g1_t];cases smQ q k <;> rfl
def hSr (q:Nat→Int) (k:Nat) (i:Int):St:=⟨[(0,.v (.lf k (fQ q))),(3,.v (.n .i64 i))],[]⟩
set_option maxRecDepth 100000 in
theorem rdSr (G:St→Option (Ret × Mem)) (K:Cont) (q:Nat→Int) (k:Nat) (i:Int):zGI 60 (cxF T (OrL.k ([]:OrL)) 60 74 (ntmF T 74)) (ckF T (OrL.k ([]:OrL)) 60) (qY T 74 [0,1,0,1]) ((cxF T (OrL.k ([]:OrL)) 60 74 (ntmF T 74)).T.hint (cxF T (OrL.k ([]:OrL)) 60 74 (ntmF T 74)).me (yZ (qY T 74 [0,1,0,1]))) K G (hSr q k i) =
 (bif (decide (i < (k:Int))) then (bif (inB i k) then (bif (decide ((q (i).toNat) < (-2147483648))) then (K .ret ⟨[(2,.v (.b false))],[]⟩)
 else (bif (inB i k) then (bif (decide (2147483648 < (q (i).toNat))) then (K .ret ⟨[(2,.v (.b false))],[]⟩)
 else (G (hSr q k (vJJ .i64 (i + 1)))))
 else none))
 else none)
 else (K (.exit 0) ⟨[],[]⟩)):=by kernel_rfl
theorem lpSr (K:Cont) (q:Nat→Int) (k:Nat) (_:k≤50):LF 60 (cxF T (OrL.k ([]:OrL)) 60 74 (ntmF T 74)) (ckF T (OrL.k ([]:OrL)) 60) (qY T 74 [0,1,0,1]) ((cxF T (OrL.k ([]:OrL)) 60 74 (ntmF T 74)).T.hint (cxF T (OrL.k ([]:OrL)) 60 74 (ntmF T 74)).me (yZ (qY T 74 [0,1,0,1]))) K 60 (hSr q k 0)=bif (allN (fun i:Nat => !decide (q i < -2147483648) && !decide (2147483648 < q i)) k 0) then (K (.exit 0) ⟨[],[]⟩) else (K .ret ⟨[(2,.v (.b false))],[]⟩):=by
 refine (zXG (c:=k) (hSr q k) (fun i:Nat => !decide (q i < -2147483648) && !decide (2147483648 < q i)) (K (.exit 0) ⟨[],[]⟩) (fun i:Nat=>(K .ret ⟨[(2,.v (.b false))],[]⟩)) (fun G i hi => ?_) (fun G => ?_) k 0 60 (by omega) (by omega)).trans (jZ _ _ _ _ _)
 ·refine (rdSr G K q k i).trans ?_;rw [vJQ (show (i:Int) < (k:Int) by omega),kK (by omega),yU (show i < k by omega),toN];cases decide (q i < -2147483648) <;> cases decide (2147483648 < q i) <;> rfl
 ·refine (rdSr G K q k k).trans ?_;rw [vYH (show ¬ (k:Int) < (k:Int) by omega)];rfl
set_option maxRecDepth 100000 in
theorem fYH (q:Nat→Int) (k:Nat):qXD T (OrL.k ([]:OrL)) (qK [([0,1,0,1],uU (hSr q k 0) (fun K=>(bif (decide (k≤50)) then (bif (allN (fun i:Nat => !decide (q i < -2147483648) && !decide (2147483648 < q i)) k 0) then (K (.exit 0) ⟨[],[]⟩) else (K .ret ⟨[(2,.v (.b false))],[]⟩)) else none)))]) 60 74 [.lf k (fQ q)] =
 (bif (gSt (hSr q k 0) (hSr q k 0)) then (bif (decide (k≤50)) then (bif (allN (fun i:Nat => !decide (q i < -2147483648) && !decide (2147483648 < q i)) k 0) then some (.v (.b true),[])
 else some (.v (.b false),[]))
 else none)
 else none):=by kernel_rfl
theorem uJD (q:Nat→Int) (k:Nat) (hk:k≤50):zG Tryz.prog 74 [.lf k (fQ q)] (.v (.b (smQ q k))):=by
 refine uW (N:=60) (LO:=qK [([0,1,0,1],uU (hSr q k 0) (fun K=>(bif (decide (k≤50)) then (bif (allN (fun i:Nat => !decide (q i < -2147483648) && !decide (2147483648 < q i)) k 0) then (K (.exit 0) ⟨[],[]⟩) else (K .ret ⟨[(2,.v (.b false))],[]⟩)) else none)))]) jQ yQ (OrL.ok (l:=([]:OrL)) trivial) (fun p S hp => ?_) ?_
 ·refine qZQ (L:=qY T 74) (l:=[([0,1,0,1],uU (hSr q k 0) (fun K=>(bif (decide (k≤50)) then (bif (allN (fun i:Nat => !decide (q i < -2147483648) && !decide (2147483648 < q i)) k 0) then (K (.exit 0) ⟨[],[]⟩) else (K .ret ⟨[(2,.v (.b false))],[]⟩)) else none)))]) (show AllP _ [([0,1,0,1],uU (hSr q k 0) (fun K=>(bif (decide (k≤50)) then (bif (allN (fun i:Nat => !decide (q i < -2147483648) && !decide (2147483648 < q i)) k 0) then (K (.exit 0) ⟨[],[]⟩) else (K .ret ⟨[(2,.v (.b false))],[]⟩)) else none)))] from ⟨qYH fun K r hr => ?_,trivial⟩) p S hp
  ·obtain ⟨hg,hr⟩:=qQ hr;have hk:=vJZ hg;exact (lpSr K q k hk).trans hr
 ·refine (fYH q k).trans ?_;unfold smQ;rw [yJ,vJQ hk];cases (allN (fun i:Nat => !decide (q i < -2147483648) && !decide (2147483648 < q i)) k 0) <;> rfl
theorem zVX {β:Type} {g h:Nat→Int} {KX:(Nat→Int) × (Nat→Int)→β} {KR:Nat→(Nat→Int) × (Nat→Int)→β}:∀ k p t,runS (fun _ _=>true) (fun (i:Nat) (t:(Nat→Int) × (Nat→Int))=>((fun v=>bif Nat.beq v i then g i else t.1 v),(fun v=>bif Nat.beq v i then h i else t.2 v))) KX KR k p t=KX (qUH g k p t.1,qUH h k p t.2)
 | 0,_,_=>rfl
 | k + 1,p,t=>by
  simp only [runS,vYV];exact zVX k (p + 1) _
noncomputable def orMp (q:Nat→Int) (k:Nat):OrL:=([]:OrL)
noncomputable def hMp (q:Nat→Int) (k:Nat) (i:Int) (a:Nat→Int) (b:Nat→Int):St:=⟨[(1,.v (.f 128 [] [])),(5,.o 10),(11,.v (.lf k (fQ q))),(12,.v (.n .i64 (k:Int))),(13,.v (.n .i64 i))],[(10,.reg 62 2 (.fo (k:Int).toNat (fun v=>[.n .i64 (a v),.n .i64 (b v)])))]⟩
set_option maxRecDepth 100000 in
theorem rdMp (G:St→Option (Ret × Mem)) (K:Cont) (q:Nat→Int) (k:Nat) (i:Int) (a:Nat→Int) (b:Nat→Int):jYC 60 (cxF Tf (OrL.k (orMp q k)) 60 127 (ntmF Tf 127)) (ckF Tf (OrL.k (orMp q k)) 60) (qK []) (qY Tf 127 [0,1,0,1,1]) [0,1,0,1,1] (Tf.hint 127 (yZ (qY Tf 127 [0,1,0,1,1]))) K G (hMp q k i a b) =
 (bif (decide (i < (k:Int))) then (bif (inB i k) then (bif (inB i (k:Int).toNat) then (G (hMp q k (vJJ .i64 (i + 1)) (fun v=>(bif (Nat.beq v (i).toNat) then (min (max (q (i).toNat) (-2147483648)) 2147483648) else (a v))) (fun v=>(bif (Nat.beq v (i).toNat) then (min (max (q (i).toNat) (-2147483648)) 2147483648) else (b v)))))
 else none)
 else none)
 else (K (.exit 0) ⟨[(5,.o 10)],[(10,.reg 62 2 (.fo (k:Int).toNat (fun v=>[.n .i64 (a v),.n .i64 (b v)])))]⟩)):=by kernel_rfl
theorem lpMp (K:Cont) (q:Nat→Int) (k:Nat) (_:k≤50):LFL 60 (cxF Tf (OrL.k (orMp q k)) 60 127 (ntmF Tf 127)) (ckF Tf (OrL.k (orMp q k)) 60) (qK []) (qY Tf 127 [0,1,0,1,1]) [0,1,0,1,1] (Tf.hint 127 (yZ (qY Tf 127 [0,1,0,1,1]))) K 60 (hMp q k 0 (fun _=>0) (fun _=>0))=(K (.exit 0) ⟨[(5,.o 10)],[(10,.reg 62 2 (.fo (k:Int).toNat (fun v=>[.n .i64 ((qUH (fun i:Nat=>min (max (q i) (-2147483648)) 2147483648) k 0 (fun _=>0)) v),.n .i64 ((qUH (fun i:Nat=>min (max (q i) (-2147483648)) 2147483648) k 0 (fun _=>0)) v)])))]⟩):=by
 refine (kV (L:=LFL 60 (cxF Tf (OrL.k (orMp q k)) 60 127 (ntmF Tf 127)) (ckF Tf (OrL.k (orMp q k)) 60) (qK []) (qY Tf 127 [0,1,0,1,1]) [0,1,0,1,1] (Tf.hint 127 (yZ (qY Tf 127 [0,1,0,1,1]))) K) (stp:=jYC 60 (cxF Tf (OrL.k (orMp q k)) 60 127 (ntmF Tf 127)) (ckF Tf (OrL.k (orMp q k)) 60) (qK []) (qY Tf 127 [0,1,0,1,1]) [0,1,0,1,1] (Tf.hint 127 (yZ (qY Tf 127 [0,1,0,1,1]))) K) (fun _ _=>rfl) (fun (i:Nat) (t:((Nat→Int) × (Nat→Int)))=>hMp q k (i:Int) t.1 t.2) (fun _ _=>True) (fun _ _=>true) (fun (i:Nat) t=>((fun v=>bif Nat.beq v i then min (max (q i) (-2147483648)) 2147483648 else t.1 v),(fun v=>bif Nat.beq v i then min (max (q i) (-2147483648)) 2147483648 else t.2 v))) (c:=k) (fun t=>(K (.exit 0) ⟨[(5,.o 10)],[(10,.reg 62 2 (.fo (k:Int).toNat (fun v=>[.n .i64 (t.1 v),.n .i64 (t.2 v)])))]⟩)) (fun _ _=>none) (fun G i t hi _ => ?_) (fun _ _ _ _ _=>trivial) (fun G t _ => ?_) k 0 60 ((fun _=>0),(fun _=>0)) (by omega) (by omega) trivial).trans (zVX k 0 _)
 ·refine (rdMp G K q k i t.1 t.2).trans ?_;simp only [vJQ (show (i:Int) < (k:Int) by omega),kK (show i < 1000000 by omega),yU (show i < k by omega),toN,vYV]
  all_goals rfl
 ·refine (rdMp G K q k k t.1 t.2).trans ?_;rw [vYH (show ¬ (k:Int) < (k:Int) by omega)];rfl
noncomputable def kVY (q:Nat→Int) (k:Nat):List (List Nat × yG):=[([0,1,0,1,1],sumF (fun _:Unit=>(hMp q k 0 (fun _=>0) (fun _=>0))) (fun _=>()) (fun _ K=>(bif (decide (k≤50)) then (K (.exit 0) ⟨[(5,.o 10)],[(10,.reg 62 2 (.fo (k:Int).toNat (fun v=>[.n .i64 ((qUH (fun i:Nat=>min (max (q i) (-2147483648)) 2147483648) k 0 (fun _=>0)) v),.n .i64 ((qUH (fun i:Nat=>min (max (q i) (-2147483648)) 2147483648) k 0 (fun _=>0)) v)])))]⟩) else none)))]
set_option maxRecDepth 100000 in
theorem fJZ (q:Nat→Int) (k:Nat):qXD Tf (OrL.k (orMp q k)) (qK (kVY q k)) 60 127 [.lf k (fQ q),.f 128 [] []] =
 (bif (decide (0≤(k:Int))) then (bif (decide ((k:Int)≤(k:Int))) then (bif (decide ((k:Int)≤1000000)) then (bif (gSt (hMp q k 0 (fun _=>0) (fun _=>0)) (hMp q k 0 (fun _=>0) (fun _=>0))) then (bif (decide (k≤50)) then some (.ow 62 2 (.fo (k:Int).toNat (fun v=>[.n .i64 ((qUH (fun i:Nat=>min (max (q i) (-2147483648)) 2147483648) k 0 (fun _=>0)) v),.n .i64 ((qUH (fun i:Nat=>min (max (q i) (-2147483648)) 2147483648) k 0 (fun _=>0)) v)])),[])
 else none)
 else none)
 else none)
 else none)
 else none):=by kernel_rfl
theorem uKV (q:Nat→Int) (k:Nat) (hk:k≤50):zG Tryz.prog 127 [.lf k (fQ q),.f 128 [] []] (.ow 62 2 (.fo k (fun v=>[.n .i64 ((qUH (fun i:Nat=>min (max (q i) (-2147483648)) 2147483648) k 0 (fun _=>0)) v),.n .i64 ((qUH (fun i:Nat=>min (max (q i) (-2147483648)) 2147483648) k 0 (fun _=>0)) v)]))):=by
 refine zYL (N:=60) (LO:=qK (kVY q k)) jV yQ (OrL.ok (l:=(orMp q k)) trivial) (fun p S hp => ?_) ?_
 ·refine zQ (L:=qY Tf 127) (l:=(kVY q k)) (show AllP _ (kVY q k) from ⟨?_,trivial⟩) p S hp
  ·dsimp only;refine jUX (T:=Tf) (ok:=(OrL.k (orMp q k))) (f:=127) (LO:=qK []) (p:=[0,1,0,1,1]) kU ?_;intro _ K r hr;obtain ⟨hg,hr⟩:=qQ hr;have hk:=vJZ hg;exact (lpMp K q k hk).trans hr
 ·refine (fJZ q k).trans ?_;simp only [yJ,vJQ hk,vJQ (show (0:Int)≤(k:Int) by omega),vJQ (show (k:Int)≤(k:Int) by omega),vJQ (show (k:Int)≤1000000 by omega),toN,vYV]
noncomputable def orRb (q:Nat→Int) (k:Nat):OrL:=[(74,o_lk [.lf k (fQ q)] (decide (k≤50)) (.v (.b (smQ q k))))]
noncomputable def hRb (q:Nat→Int) (k:Nat) (i:Int) (r:Nat) (f:Nat→List PV):St:=⟨[(0,.v (.lf k (fQ q))),(3,.o 25),(4,.v (.n .i64 i))],[(25,.reg 62 2 (.fo r f))]⟩
set_option maxRecDepth 100000 in
theorem rdRb (G:St→Option (Ret × Mem)) (K:Cont) (q:Nat→Int) (k:Nat) (i:Int) (r:Nat) (f:Nat→List PV):jYC 60 (cxF Tf (OrL.k (orRb q k)) 60 26 (ntmF Tf 26)) (ckF Tf (OrL.k (orRb q k)) 60) (qK []) (qY Tf 26 [0,1,0,1,1,1]) [0,1,0,1,1,1] (Tf.hint 26 (yZ (qY Tf 26 [0,1,0,1,1,1]))) K G (hRb q k i r f) =
 (bif (decide (i < (k:Int))) then (bif (inB i k) then (bif (inB i k) then (bif (decide (r + 1≤8796093022208)) then (G (hRb q k (vJJ .i64 (i + 1)) (r + 1) (fun v=>qZV (Nat.beq v r) [.n .i64 (q (i).toNat),.n .i64 (q (i).toNat)] (f v))))
 else none)
 else none)
 else none)
 else (K (.exit 0) ⟨[(3,.o 25)],[(25,.reg 62 2 (.fo r f))]⟩)):=by kernel_rfl
theorem lpRb (K:Cont) (q:Nat→Int) (k:Nat) (_:k≤50):LFL 60 (cxF Tf (OrL.k (orRb q k)) 60 26 (ntmF Tf 26)) (ckF Tf (OrL.k (orRb q k)) 60) (qK []) (qY Tf 26 [0,1,0,1,1,1]) [0,1,0,1,1,1] (Tf.hint 26 (yZ (qY Tf 26 [0,1,0,1,1,1]))) K 60 (hRb q k 0 0 (fun _=>[.n .i64 0,.n .i64 0]))=(K (.exit 0) ⟨[(3,.o 25)],[(25,.reg 62 2 (.fo k (zQW (fun i:Nat=>[.n .i64 (q i),.n .i64 (q i)]) k 0 (fun _=>[.n .i64 0,.n .i64 0]))))]⟩):=by
 refine (kV (L:=LFL 60 (cxF Tf (OrL.k (orRb q k)) 60 26 (ntmF Tf 26)) (ckF Tf (OrL.k (orRb q k)) 60) (qK []) (qY Tf 26 [0,1,0,1,1,1]) [0,1,0,1,1,1] (Tf.hint 26 (yZ (qY Tf 26 [0,1,0,1,1,1]))) K) (stp:=jYC 60 (cxF Tf (OrL.k (orRb q k)) 60 26 (ntmF Tf 26)) (ckF Tf (OrL.k (orRb q k)) 60) (qK []) (qY Tf 26 [0,1,0,1,1,1]) [0,1,0,1,1,1] (Tf.hint 26 (yZ (qY Tf 26 [0,1,0,1,1,1]))) K) (fun _ _=>rfl) (fun (i:Nat) (f:Nat→List PV)=>hRb q k (i:Int) i f) (fun _ _=>True) (fun _ _=>true) (fun (i:Nat) f v=>qZV (Nat.beq v i) ([.n .i64 (q i),.n .i64 (q i)]) (f v)) (c:=k) (fun f=>(K (.exit 0) ⟨[(3,.o 25)],[(25,.reg 62 2 (.fo k f))]⟩)) (fun _ _=>none) (fun G i f hi _ => ?_) (fun _ _ _ _ _=>trivial) (fun G f _ => ?_) k 0 60 (fun _=>[.n .i64 0,.n .i64 0]) (by omega) (by omega) trivial).trans (zUG k 0 (fun _=>[.n .i64 0,.n .i64 0]))
 ·refine (rdRb G K q k (i:Int) i f).trans ?_;simp only [vJQ (show (i:Int) < (k:Int) by omega),kK (show i < 1000000 by omega),yU (show i < k by omega),toN,vJQ (show i + 1≤8796093022208 by omega),vYV]
  all_goals rfl
 ·refine (rdRb G K q k (k:Int) k f).trans ?_;rw [vYH (show ¬ (k:Int) < (k:Int) by omega)];rfl
noncomputable def jQX (q:Nat→Int) (k:Nat):List (List Nat × yG):=[([0,1,0,1,1,1],sumF (fun _:Unit=>(hRb q k 0 0 (fun _=>[.n .i64 0,.n .i64 0]))) (fun _=>()) (fun _ K=>(bif (decide (k≤50)) then (K (.exit 0) ⟨[(3,.o 25)],[(25,.reg 62 2 (.fo k (zQW (fun i:Nat=>[.n .i64 (q i),.n .i64 (q i)]) k 0 (fun _=>[.n .i64 0,.n .i64 0]))))]⟩) else none)))]
set_option maxRecDepth 100000 in
theorem xKY (q:Nat→Int) (k:Nat):qXD Tf (OrL.k (orRb q k)) (qK (jQX q k)) 60 26 [.lf k (fQ q)] =
 (bif (g1 [.lf k (fQ q)] && decide (k≤50)) then (bif (smQ q k) then (bif (gSt (hRb q k 0 0 (fun _=>[.n .i64 0,.n .i64 0])) (hRb q k 0 0 (fun _=>[.n .i64 0,.n .i64 0]))) then (bif (decide (k≤50)) then some (.ow 62 2 (.fo k (zQW (fun i:Nat=>[.n .i64 (q i),.n .i64 (q i)]) k 0 (fun _=>[.n .i64 0,.n .i64 0]))),[])
 else none)
 else none)
 else some (.v (.l []),[]))
 else none):=by kernel_rfl
theorem kJQ (q:Nat→Int) (k:Nat) (hk:k≤50):zG Tryz.prog 26 [.lf k (fQ q)] (bif smQ q k then .ow 62 2 (.fo k (zQW (fun i:Nat=>[.n .i64 (q i),.n .i64 (q i)]) k 0 (fun _=>[.n .i64 0,.n .i64 0]))) else .v (.l [])):=by
 refine zYL (N:=60) (LO:=qK (jQX q k)) jV yQ (OrL.ok (l:=(orRb q k)) ⟨zHE (fun h=>uJD q k (vJZ h)),trivial⟩) (fun p S hp => ?_) ?_
 ·refine zQ (L:=qY Tf 26) (l:=(jQX q k)) (show AllP _ (jQX q k) from ⟨?_,trivial⟩) p S hp
  ·dsimp only;refine jUX (T:=Tf) (ok:=(OrL.k (orRb q k))) (f:=26) (LO:=qK []) (p:=[0,1,0,1,1,1]) kU ?_;intro _ K r hr;obtain ⟨hg,hr⟩:=qQ hr;have hk:=vJZ hg;exact (lpRb K q k hk).trans hr
 ·refine (xKY q k).trans ?_;rw [g1_t,yJ,vJQ hk];cases smQ q k <;> rfl
def ptB (q:Nat→Int):Nat→Iv:=fun i=>⟨q i,q i⟩
theorem uKQ (q:Nat→Int) (k:Nat) (hk:k≤50):zG Tryz.prog 26 [.lf k (fQ q)] (.v (.lf (bif smQ q k then k else 0) (fB (ptB q)))):=by
 have h0:=kJQ q k hk;cases h:smQ q k with
 | true =>
  rw [h] at h0;exact qQU jXJ (qXB h0)
 | false =>
  rw [h] at h0;exact qQU (Same.lf rfl) h0
theorem xYB {q:Nat→Int} {k i:Nat} (h:smQ q k=true) (_:i < k) : -2147483648≤q i∧q i≤2147483648:=by
 have:=allN_iff.1 h i (Nat.zero_le _) (by omega)
 simp only [vQJ,Bool.not_eq_true',decide_eq_false_iff_not] at this;omega
theorem xYV (q:Nat→Int) (k:Nat) (hk:k≤50):zG Tryz.prog 77 [.lf k (fQ q)] (.v (.lf (bif smQ q k then k else 0) (fB (ptB q)))):=by
 have h0:zG Tryz.prog 77 [.lf k (fQ q)] (bif smQ q k then .v (.lf k (fun v=>[.n .i64 ((qUH (fun i:Nat=>min (max (q i) (-2147483648)) 2147483648) k 0 (fun _=>0)) v),.n .i64 ((qUH (fun i:Nat=>min (max (q i) (-2147483648)) 2147483648) k 0 (fun _=>0)) v)])) else .v (.l [])):=by
  refine qH (T:=Tf) (N:=60) jV yQ (OrL.ok (l:=[(126,o_lk [.lf k (fQ q)] (decide (k≤50)) (.v (.b (smQ q k)))),(127,o_lk [.lf k (fQ q),.f 128 [] []] (decide (k≤50)) (.ow 62 2 (.fo k (fun v=>[.n .i64 ((qUH (fun i:Nat=>min (max (q i) (-2147483648)) 2147483648) k 0 (fun _=>0)) v),.n .i64 ((qUH (fun i:Nat=>min (max (q i) (-2147483648)) 2147483648) k 0 (fun _=>0)) v)]))))]) ⟨zHE (fun h=>xYQ q k (vJZ h)),zHE (fun h=>uKV q k (vJZ h)),trivial⟩) ?_;refine (by kernel_rfl:_=bif (g1 [.lf k (fQ q)] && decide (k≤50)) then (bif (smQ q k) then (bif (g1 [.lf k (fQ q),.f 128 [] []] && decide (k≤50)) then some (.v (.lf k (fun v=>[.n .i64 ((qUH (fun i:Nat=>min (max (q i) (-2147483648)) 2147483648) k 0 (fun _=>0)) v),.n .i64 ((qUH (fun i:Nat=>min (max (q i) (-2147483648)) 2147483648) k 0 (fun _=>0)) v)])),[])
 else none)
 else some (.v (.l []),[]))
 else none).trans ?_
  simp only [g1_t,vJQ hk,vZJ,vYV];cases smQ q k <;> rfl
 cases h:smQ q k with
 | true =>
  rw [h] at h0;refine qQU (zXB fun j (hj:j < k) => ?_) h0
  have:=xYB h hj
  show [PV.n .i64 (qUH _ k 0 _ j),PV.n .i64 (qUH _ k 0 _ j)]=[PV.n .i64 (q j),PV.n .i64 (q j)];rw [kQX hj,show min (max (q j) (-2147483648)) 2147483648=q j by omega]
 | false =>
  rw [h] at h0;exact qQU (Same.lf rfl) h0
end Go.Proofs.YtmeldddgjfocdaaGreat.Nm
namespace Go.Proofs.YtmeldddgjfocdaaGreat.Hb
open Go.Rx Rt Go.Sx Go.RowKit Od Na Nb Nc Nx Nf Nl Nm Ga Gb Gc Gd Ge Gf Gg Ha
def knB (ws:Wsp) (h q:Int):Bool:=decide (0≤h) && (decide (h < (ws.nh:Int)) && (decide (0≤q) && decide (q < (ws.np:Int))))
noncomputable def fKV (_:Wsp) (_ q:Int):OrS:=orS [] []
noncomputable def kVK (_:Wsp) (_ q:Int):List (List Nat × yG):=[]
set_option maxRecDepth 100000 in
theorem fJJ (ws:Wsp) (h q:Int):qQZ Tf (fKV ws h q) (qK (kVK ws h q)) 60 75 [.a (wP ws),.n .i64 h,.n .i64 q] =
 (bif (decide (0≤h)) then (bif (decide (h < (ws.nh:Int))) then (bif (decide (0≤q)) then (bif (decide (q < (ws.np:Int))) then some (.v (.b true),[])
 else some (.v (.b false),[]))
 else some (.v (.b false),[]))
 else some (.v (.b false),[]))
 else some (.v (.b false),[])):=by kernel_rfl
theorem uKH (ws:Wsp) (h q:Int):zG Tryz.prog 75 [.a (wP ws),.n .i64 h,.n .i64 q] (.v (.b (knB ws h q))):=by
 refine zK (N:=60) (LO:=qK (kVK ws h q)) jV yQ (kQ (l:=[]) (m:=[]) trivial trivial) (fun p S hp => ?_) ?_
 ·refine zQ (L:=qY Tf 75) (l:=(kVK ws h q)) (show AllP _ (kVK ws h q) from trivial) p S hp
 ·refine (fJJ ws h q).trans ?_;unfold knB;cases decide (0≤h) <;> cases decide (h < (ws.nh:Int)) <;> cases decide (0≤q) <;> cases decide (q < (ws.np:Int)) <;> rfl
def ckn:Wsp × Int × Int→Prop:=fun t=>match t with | (_,_,_)=>True
def ekn:Wsp × Int × Int→List PV:=fun t=>match t with | (ws,a,b)=>[.a (wP ws),.n .i64 a,.n .i64 b]
noncomputable def rkn:Wsp × Int × Int→Ret:=fun t=>match t with | (ws,a,b)=>.v (.b (knB ws a b))
def dkn:List PV→Wsp × Int × Int:=fun ps=>match ps with
 | [.a r,.n _ h,.n _ q]=>(unW r,h,q)
 | _=>(unW [],0,0)
noncomputable def o_kn:List PV→Option (Bool × Ret):=o_fm dkn ckn ekn rkn
theorem xXL:zZ Tryz.prog 75 o_kn:=qQV fun t h=>by
 obtain ⟨ws,a,b⟩:=t;exact uKH ws a b
def cin:(Nat→J) × (Nat→Ms) × Nat × Nat × Nat × (Nat→Int)→Prop:=fun t=>match t with | (_,_,_,_,_,_)=>True
def ein:(Nat→J) × (Nat→Ms) × Nat × Nat × Nat × (Nat→Int)→List PV:=fun t=>match t with | (js,ms,n,m,k,q)=>[.a [.lf n (fJ js),.lf m (fM ms)],.lf k (fQ q)]
noncomputable def rin:(Nat→J) × (Nat→Ms) × Nat × Nat × Nat × (Nat→Int)→Ret:=fun t=>match t with | (js,ms,n,m,k,q)=>.v (.b (qIn js ms q n m k))
def din:List PV→(Nat→J) × (Nat→Ms) × Nat × Nat × Nat × (Nat→Int):=fun ps=>match ps with
 | [.a [.lf n js,.lf m ms],.lf k f]=>(unFJ js,unFM ms,n,m,k,unFQ f)
 | _=>(fun _=>⟨ByteArray.empty,0,0,⟨0,0,0⟩,0,0,0,0,0,0⟩,fun _=>⟨0,0,⟨0,0,0⟩⟩,0,0,0,fun _=>0)
noncomputable def o_in:List PV→Option (Bool × Ret):=o_fm din cin ein rin
theorem xWZ:zZ Tryz.prog 76 o_in:=qQV fun t h=>by
 obtain ⟨js,ms,n,m,k,q⟩:=t;exact uKZ js ms q n m k
def cri:(Nat→J) × (Nat→Ms) × Nat × Nat × Nat × (Nat→Int)→Prop:=fun t=>match t with | (_,_,_,_,_,_)=>True
def eri:(Nat→J) × (Nat→Ms) × Nat × Nat × Nat × (Nat→Int)→List PV:=fun t=>match t with | (js,ms,n,m,k,q)=>[.a [.lf n (fJ js),.lf m (fM ms)],.lf k (fQ q)]
noncomputable def rri:(Nat→J) × (Nat→Ms) × Nat × Nat × Nat × (Nat→Int)→Ret:=fun t=>match t with | (js,ms,n,m,k,q)=>.v (.b (qIn js ms q n m k))
def dri:List PV→(Nat→J) × (Nat→Ms) × Nat × Nat × Nat × (Nat→Int):=fun ps=>match ps with
 | [.a [.lf n js,.lf m ms],.lf k f]=>(unFJ js,unFM ms,n,m,k,unFQ f)
 | _=>(fun _=>⟨ByteArray.empty,0,0,⟨0,0,0⟩,0,0,0,0,0,0⟩,fun _=>⟨0,0,⟨0,0,0⟩⟩,0,0,0,fun _=>0)
noncomputable def o_ri:List PV→Option (Bool × Ret):=o_fm dri cri eri rri
theorem xXK:zZ Tryz.prog 65 o_ri:=qQV fun t h=>by
 obtain ⟨js,ms,n,m,k,q⟩:=t;exact kYE js ms q n m k
noncomputable def orFp (_:Wsp):OrS:=orS [(111,o_ne),(75,o_kn),(76,o_in)] []
noncomputable def hFp (ws:Wsp) (i:Int):St:=⟨[(1,.p 1 0),(40,.v (.lf ws.np (fZ ws.pl))),(41,.v (.n .i64 (ws.np:Int))),(42,.v (.n .i64 i))],[(1,.blk ((wP ws).map .v))]⟩
set_option maxRecDepth 100000 in
theorem rdFp (G:St→Option (Ret × Mem)) (K:Cont) (ws:Wsp) (i:Int):stpT Tf 59 (orFp ws) 60 [] [0,1,0,1,1,1] K G (hFp ws i) =
 (bif (decide (i < (ws.np:Int))) then (bif (inB i ws.np) then (bif (gF1 cne ene (ws.pl (i).toNat)) then (bif (zOk 2097152 (ws.pl (i).toNat)) then (G (hFp ws (vJJ .i64 (i + 1))))
 else (K .ret ⟨[(1,.p 1 0),(2,.v (.b false))],[(1,.blk ((wP ws).map .v))]⟩))
 else none)
 else none)
 else (K (.exit 0) ⟨[(1,.p 1 0)],[(1,.blk ((wP ws).map .v))]⟩)):=by kernel_rfl
def hdOk (n:Nat) (h:Hnd):Bool:=!decide (h.link < 0) && (!decide ((n:Int)≤h.link) && zOk 2097152 h.off)
def grOk (ws:Wsp) (g:Grp):Bool:=knB ws g.hand g.place && qIn ws.js ws.ms g.cf ws.n ws.m g.na
def plG (ws:Wsp):Bool:=allN (fun i:Nat=>zOk 2097152 (ws.pl i)) ws.np 0
def hdG (ws:Wsp):Bool:=allN (fun i:Nat=>hdOk ws.n (ws.hd i)) ws.nh 0
def grG (ws:Wsp):Bool:=allN (fun i:Nat=>grOk ws (ws.gr i)) ws.ng 0
def szG (ws:Wsp):Bool:=!decide (6 < (ws.no:Int)) && (!decide (8 < (ws.np:Int)) && (!decide (3 < (ws.nh:Int)) && (!decide (32 < (ws.ng:Int)) && (!decide (ws.slack < 0) && !decide (65536 < ws.slack)))))
def fiB (ws:Wsp):Bool:=szG ws && (plG ws && (hdG ws && grG ws))
theorem lpFp (K:Cont) (ws:Wsp) (_:ws.np≤50):LFT Tf 59 (orFp ws) 60 [] [0,1,0,1,1,1] K 60 (hFp ws 0)=bif (allN (fun i:Nat=>zOk 2097152 (ws.pl i)) ws.np 0) then (K (.exit 0) ⟨[(1,.p 1 0)],[(1,.blk ((wP ws).map .v))]⟩) else (K .ret ⟨[(1,.p 1 0),(2,.v (.b false))],[(1,.blk ((wP ws).map .v))]⟩):=by
 refine (kV (L:=LFT Tf 59 (orFp ws) 60 [] [0,1,0,1,1,1] K) (stp:=stpT Tf 59 (orFp ws) 60 [] [0,1,0,1,1,1] K) (fun _ _=>rfl) (fun (i:Nat) (_:Unit)=>hFp ws (i:Int)) (fun _ _=>True) (fun (i:Nat) _=>zOk 2097152 (ws.pl i)) (fun _ _=>()) (c:=ws.np) (fun _=>(K (.exit 0) ⟨[(1,.p 1 0)],[(1,.blk ((wP ws).map .v))]⟩)) (fun i _=>(K .ret ⟨[(1,.p 1 0),(2,.v (.b false))],[(1,.blk ((wP ws).map .v))]⟩)) (fun G i f hi _ => ?_) (fun _ _ _ _ _=>trivial) (fun G f _ => ?_) ws.np 0 60 () (by omega) (by omega) trivial).trans ((jY _ _ _ _ _).trans (jZ _ _ _ _ _))
 ·refine (rdFp G K ws i).trans ?_;rw [vJQ (show (i:Int) < (ws.np:Int) by omega),kK (by omega),yU (show i < ws.np by omega),toN,jX (C:=cne) (t:=ws.pl i) trivial];cases zOk 2097152 (ws.pl i) <;> rfl
 ·refine (rdFp G K ws ws.np).trans ?_;rw [vYH (show ¬ (ws.np:Int) < (ws.np:Int) by omega)];rfl
noncomputable def hFq (ws:Wsp) (i:Int):St:=⟨[(1,.p 1 0),(51,.v (.lf ws.nh (fH ws.hd))),(52,.v (.n .i64 (ws.nh:Int))),(53,.v (.n .i64 i))],[(1,.blk ((wP ws).map .v))]⟩
set_option maxRecDepth 100000 in
theorem rdFq (G:St→Option (Ret × Mem)) (K:Cont) (ws:Wsp) (i:Int):stpT Tf 59 (orFp ws) 60 [] [0,1,0,1,1,1,1] K G (hFq ws i) =
 (bif (decide (i < (ws.nh:Int))) then (bif (inB i ws.nh) then (bif (decide ((ws.hd (i).toNat).link < 0)) then (K .ret ⟨[(1,.p 1 0),(2,.v (.b false))],[(1,.blk ((wP ws).map .v))]⟩)
 else (bif (decide ((ws.n:Int)≤(ws.hd (i).toNat).link)) then (K .ret ⟨[(1,.p 1 0),(2,.v (.b false))],[(1,.blk ((wP ws).map .v))]⟩)
 else (bif (gF1 cne ene ((ws.hd (i).toNat).off)) then (bif (zOk 2097152 ((ws.hd (i).toNat).off)) then (G (hFq ws (vJJ .i64 (i + 1))))
 else (K .ret ⟨[(1,.p 1 0),(2,.v (.b false))],[(1,.blk ((wP ws).map .v))]⟩))
 else none)))
 else none)
 else (K (.exit 2) ⟨[(1,.p 1 0)],[(1,.blk ((wP ws).map .v))]⟩)):=by kernel_rfl
theorem lpFq (K:Cont) (ws:Wsp) (_:ws.nh≤50):LFT Tf 59 (orFp ws) 60 [] [0,1,0,1,1,1,1] K 60 (hFq ws 0)=bif (allN (fun i:Nat=>hdOk ws.n (ws.hd i)) ws.nh 0) then (K (.exit 2) ⟨[(1,.p 1 0)],[(1,.blk ((wP ws).map .v))]⟩) else (K .ret ⟨[(1,.p 1 0),(2,.v (.b false))],[(1,.blk ((wP ws).map .v))]⟩):=by
 refine (kV (L:=LFT Tf 59 (orFp ws) 60 [] [0,1,0,1,1,1,1] K) (stp:=stpT Tf 59 (orFp ws) 60 [] [0,1,0,1,1,1,1] K) (fun _ _=>rfl) (fun (i:Nat) (_:Unit)=>hFq ws (i:Int)) (fun _ _=>True) (fun (i:Nat) _=>hdOk ws.n (ws.hd i)) (fun _ _=>()) (c:=ws.nh) (fun _=>(K (.exit 2) ⟨[(1,.p 1 0)],[(1,.blk ((wP ws).map .v))]⟩)) (fun i _=>(K .ret ⟨[(1,.p 1 0),(2,.v (.b false))],[(1,.blk ((wP ws).map .v))]⟩)) (fun G i f hi _ => ?_) (fun _ _ _ _ _=>trivial) (fun G f _ => ?_) ws.nh 0 60 () (by omega) (by omega) trivial).trans ((jY _ _ _ _ _).trans (jZ _ _ _ _ _))
 ·refine (rdFq G K ws i).trans ?_;rw [vJQ (show (i:Int) < (ws.nh:Int) by omega),kK (by omega),yU (show i < ws.nh by omega),toN,jX (C:=cne) (t:=(ws.hd i).off) trivial];unfold hdOk;cases decide ((ws.hd i).link < 0) <;> cases decide ((ws.n:Int)≤(ws.hd i).link) <;> cases zOk 2097152 (ws.hd i).off <;> rfl
 ·refine (rdFq G K ws ws.nh).trans ?_;rw [vYH (show ¬ (ws.nh:Int) < (ws.nh:Int) by omega)];rfl
noncomputable def hFr (ws:Wsp) (i:Int):St:=⟨[(1,.p 1 0),(78,.v (.lf ws.ng (fG ws.gr))),(79,.v (.n .i64 (ws.ng:Int))),(80,.v (.n .i64 i))],[(1,.blk ((wP ws).map .v))]⟩
set_option maxRecDepth 100000 in
theorem rdFr (G:St→Option (Ret × Mem)) (K:Cont) (ws:Wsp) (i:Int):stpT Tf 59 (orFp ws) 60 [] [0,1,0,1,1,1,1,1] K G (hFr ws i) =
 (bif (decide (i < (ws.ng:Int))) then (bif (inB i ws.ng) then (bif (gF1 ckn ekn (ws,((ws.gr (i).toNat).hand),((ws.gr (i).toNat).place))) then (bif (knB ws ((ws.gr (i).toNat).hand) ((ws.gr (i).toNat).place)) then (bif (gF1 cin ein (ws.js,ws.ms,ws.n,ws.m,((ws.gr (i).toNat).na),((ws.gr (i).toNat).cf))) then (bif (qIn ws.js ws.ms ((ws.gr (i).toNat).cf) ws.n ws.m ((ws.gr (i).toNat).na)) then (G (hFr ws (vJJ .i64 (i + 1))))
 else (K .ret ⟨[(2,.v (.b false))],[]⟩))
 else none)
 else (K .ret ⟨[(2,.v (.b false))],[]⟩))
 else none)
 else none)
 else (K (.exit 4) ⟨[],[]⟩)):=by kernel_rfl
theorem lpFr (K:Cont) (ws:Wsp) (_:ws.ng≤50):LFT Tf 59 (orFp ws) 60 [] [0,1,0,1,1,1,1,1] K 60 (hFr ws 0)=bif (allN (fun i:Nat=>grOk ws (ws.gr i)) ws.ng 0) then (K (.exit 4) ⟨[],[]⟩) else (K .ret ⟨[(2,.v (.b false))],[]⟩):=by
 refine (kV (L:=LFT Tf 59 (orFp ws) 60 [] [0,1,0,1,1,1,1,1] K) (stp:=stpT Tf 59 (orFp ws) 60 [] [0,1,0,1,1,1,1,1] K) (fun _ _=>rfl) (fun (i:Nat) (_:Unit)=>hFr ws (i:Int)) (fun _ _=>True) (fun (i:Nat) _=>grOk ws (ws.gr i)) (fun _ _=>()) (c:=ws.ng) (fun _=>(K (.exit 4) ⟨[],[]⟩)) (fun i _=>(K .ret ⟨[(2,.v (.b false))],[]⟩)) (fun G i f hi _ => ?_) (fun _ _ _ _ _=>trivial) (fun G f _ => ?_) ws.ng 0 60 () (by omega) (by omega) trivial).trans ((jY _ _ _ _ _).trans (jZ _ _ _ _ _))
 ·refine (rdFr G K ws i).trans ?_;rw [vJQ (show (i:Int) < (ws.ng:Int) by omega),kK (by omega),yU (show i < ws.ng by omega),toN,jX (C:=ckn) (t:=(ws,(ws.gr i).hand,(ws.gr i).place)) trivial,jX (C:=cin) (t:=(ws.js,ws.ms,ws.n,ws.m,(ws.gr i).na,(ws.gr i).cf)) trivial];unfold grOk;cases knB ws (ws.gr i).hand (ws.gr i).place <;> cases qIn ws.js ws.ms (ws.gr i).cf ws.n ws.m (ws.gr i).na <;> rfl
 ·refine (rdFr G K ws ws.ng).trans ?_;rw [vYH (show ¬ (ws.ng:Int) < (ws.ng:Int) by omega)];rfl
noncomputable def kVC (ws:Wsp):List (List Nat × yG):=[([0,1,0,1,1,1],sumF (fun _:Unit=>(hFp ws 0)) (fun _=>()) (fun _ K=>(bif (decide (ws.np≤50)) then (bif (allN (fun i:Nat=>zOk 2097152 (ws.pl i)) ws.np 0) then (K (.exit 0) ⟨[(1,.p 1 0)],[(1,.blk ((wP ws).map .v))]⟩) else (K .ret ⟨[(1,.p 1 0),(2,.v (.b false))],[(1,.blk ((wP ws).map .v))]⟩)) else none))),([0,1,0,1,1,1,1],sumF (fun _:Unit=>(hFq ws 0)) (fun _=>()) (fun _ K=>(bif (decide (ws.nh≤50)) then (bif (allN (fun i:Nat=>hdOk ws.n (ws.hd i)) ws.nh 0) then (K (.exit 2) ⟨[(1,.p 1 0)],[(1,.blk ((wP ws).map .v))]⟩) else (K .ret ⟨[(1,.p 1 0),(2,.v (.b false))],[(1,.blk ((wP ws).map .v))]⟩)) else none))),([0,1,0,1,1,1,1,1],sumF (fun _:Unit=>(hFr ws 0)) (fun _=>()) (fun _ K=>(bif (decide (ws.ng≤50)) then (bif (allN (fun i:Nat=>grOk ws (ws.gr i)) ws.ng 0) then (K (.exit 4) ⟨[],[]⟩) else (K .ret ⟨[(2,.v (.b false))],[]⟩)) else none)))]
set_option maxRecDepth 100000 in
theorem fJC (ws:Wsp):qQZ Tf (orFp ws) (qK (kVC ws)) 60 59 [.a (wP ws)] =
 (bif (decide (6 < (ws.no:Int))) then some (.v (.b false),[])
 else (bif (decide (8 < (ws.np:Int))) then some (.v (.b false),[])
 else (bif (decide (3 < (ws.nh:Int))) then some (.v (.b false),[])
 else (bif (decide (32 < (ws.ng:Int))) then some (.v (.b false),[])
 else (bif (decide (ws.slack < 0)) then some (.v (.b false),[])
 else (bif (decide (65536 < ws.slack)) then some (.v (.b false),[])
 else (bif (gSt (hFp ws 0) (hFp ws 0)) then (bif (decide (ws.np≤50)) then (bif (allN (fun i:Nat=>zOk 2097152 (ws.pl i)) ws.np 0) then (bif (gSt (hFq ws 0) (hFq ws 0)) then (bif (decide (ws.nh≤50)) then (bif (allN (fun i:Nat=>hdOk ws.n (ws.hd i)) ws.nh 0) then (bif (gSt (hFr ws 0) (hFr ws 0)) then (bif (decide (ws.ng≤50)) then (bif (allN (fun i:Nat=>grOk ws (ws.gr i)) ws.ng 0) then some (.v (.b true),[])
 else some (.v (.b false),[]))
 else none)
 else none)
 else some (.v (.b false),[]))
 else none)
 else none)
 else some (.v (.b false),[]))
 else none)
 else none))))))):=by kernel_rfl
theorem uUJ (ws:Wsp):zG Tryz.prog 59 [.a (wP ws)] (.v (.b (fiB ws))):=by
 refine zK (N:=60) (LO:=qK (kVC ws)) jV yQ (kQ (l:=[(111,o_ne),(75,o_kn),(76,o_in)]) (m:=[]) ⟨xXC,xXL,xWZ,trivial⟩ trivial) (fun p S hp => ?_) ?_
 ·refine zQ (L:=qY Tf 59) (l:=(kVC ws)) (show AllP _ (kVC ws) from ⟨?_,?_,?_,trivial⟩) p S hp
  ·dsimp only;refine jK (T:=Tf) (o:=(orFp ws)) (f:=59) (LO:=qK []) (p:=[0,1,0,1,1,1]) kU ?_;intro t K r hr;obtain ⟨hg,hr⟩:=qQ hr;have hk:=vJZ hg;exact (lpFp K ws hk).trans hr
  ·dsimp only;refine jK (T:=Tf) (o:=(orFp ws)) (f:=59) (LO:=qK []) (p:=[0,1,0,1,1,1,1]) kU ?_;intro t K r hr;obtain ⟨hg,hr⟩:=qQ hr;have hk:=vJZ hg;exact (lpFq K ws hk).trans hr
  ·dsimp only;refine jK (T:=Tf) (o:=(orFp ws)) (f:=59) (LO:=qK []) (p:=[0,1,0,1,1,1,1,1]) kU ?_;intro t K r hr;obtain ⟨hg,hr⟩:=qQ hr;have hk:=vJZ hg;exact (lpFr K ws hk).trans hr
 ·refine (fJC ws).trans ?_;unfold fiB szG plG hdG grG;by_cases h1:6 < (ws.no:Int)
  ·rw [vJQ h1]; rfl
  by_cases h2:8 < (ws.np:Int)
  ·rw [vYH h1,vJQ h2]; rfl
  by_cases h3:3 < (ws.nh:Int)
  ·rw [vYH h1,vYH h2,vJQ h3]; rfl
  by_cases h4:32 < (ws.ng:Int)
  ·rw [vYH h1,vYH h2,vYH h3,vJQ h4]; rfl
  rw [vYH h1,vYH h2,vYH h3,vYH h4];simp only [yJ,vJQ (show ws.np≤50 by omega),vJQ (show ws.nh≤50 by omega),vJQ (show ws.ng≤50 by omega)];cases decide (ws.slack < 0) <;> cases decide (65536 < ws.slack) <;> cases allN (fun i:Nat=>zOk 2097152 (ws.pl i)) ws.np 0 <;> cases allN (fun i:Nat=>hdOk ws.n (ws.hd i)) ws.nh 0 <;> cases allN (fun i:Nat=>grOk ws (ws.gr i)) ws.ng 0 <;> rfl
def cfi:Wsp→Prop:=fun t=>match t with | _=>True
def efi:Wsp→List PV:=fun t=>match t with | ws=>[.a (wP ws)]
noncomputable def rfi:Wsp→Ret:=fun t=>match t with | ws=>.v (.b (fiB ws))
def dfi:List PV→Wsp:=fun ps=>match ps with
 | [.a r]=>unW r
 | _=>(unW [])
noncomputable def o_fi:List PV→Option (Bool × Ret):=o_fm dfi cfi efi rfi
theorem fUH:zZ Tryz.prog 59 o_fi:=qQV fun t h=>by
 revert h; revert t; intro ws h
 exact uUJ ws
end Go.Proofs.YtmeldddgjfocdaaGreat.Hb
namespace Go.Proofs.YtmeldddgjfocdaaGreat.Hc
open Go.Rx Rt Go.Sx Go.RowKit Od Na Nb Nc Nx Nf Nl Nm Ga Gb Gc Gd Ge Gf Gg Ha Hb
def unOf (f:Nat→List PV):Nat→ObT:=fun v=>unO (f v)
def dupO (ob:Nat→ObT) (o:ObT) (k:Nat):Bool:=!allN (fun i:Nat => !((ob i).name.toList == o.name.toList)) k 0
noncomputable def fKE (e o:ObT):OrS:=orS [] []
noncomputable def kVF (e o:ObT):List (List Nat × yG):=[]
set_option maxRecDepth 100000 in
theorem fJF (e o:ObT):qQZ Tf (fKE e o) (qK (kVF e o)) 60 60 [.a (oP e),.c (oP o) 0] =
 (bif (e.name.toList == o.name.toList) then some (.v (.b true),[])
 else some (.v (.b false),[])):=by kernel_rfl
theorem uUX (e o:ObT):zG Tryz.prog 60 [.a (oP e),.c (oP o) 0] (.v (.b (e.name.toList == o.name.toList))):=by
 refine zK (N:=60) (LO:=qK (kVF e o)) jV yQ (kQ (l:=[]) (m:=[]) trivial trivial) (fun p S hp => ?_) ?_
 ·refine zQ (L:=qY Tf 60) (l:=(kVF e o)) (show AllP _ (kVF e o) from trivial) p S hp
 ·refine (fJF e o).trans ?_;cases (e.name.toList == o.name.toList) <;> rfl
def cc1:ObT × ObT→Prop:=fun t=>match t with | (_,_)=>True
def ec1:ObT × ObT→List PV:=fun t=>match t with | (e,o)=>[.a (oP e),.c (oP o) 0]
noncomputable def rc1:ObT × ObT→Ret:=fun t=>match t with | (e,o)=>.v (.b (e.name.toList == o.name.toList))
def dc1:List PV→ObT × ObT:=fun ps=>match ps with
 | [.a r,.c q _]=>(unO r,unO q)
 | _=>(⟨ByteArray.empty,0,fun _=>⟨0,0,0,fun _=>⟨0,0,0⟩⟩⟩,⟨ByteArray.empty,0,fun _=>⟨0,0,0,fun _=>⟨0,0,0⟩⟩⟩)
noncomputable def o_c1:List PV→Option (Bool × Ret):=o_fm dc1 cc1 ec1 rc1
theorem fUE:zZ Tryz.prog 60 o_c1:=qQV fun t h=>by
 obtain ⟨e,o⟩:=t;exact uUX e o
noncomputable def orIx (k:Nat) (_:Nat→ObT) (o:ObT):OrS:=orS [(60,o_c1)] []
noncomputable def hIx (k:Nat) (ob:Nat→ObT) (o:ObT) (i:Int):St:=⟨[(0,.v (.lf k (fO ob))),(1,.v (.f 60 [] [.c (oP o) 0])),(7,.v (.n .i64 (k:Int))),(8,.v (.n .i64 i))],[]⟩
set_option maxRecDepth 100000 in
theorem rdIx (G:St→Option (Ret × Mem)) (K:Cont) (k:Nat) (ob:Nat→ObT) (o:ObT) (i:Int):stpT Tf 114 (orIx k ob o) 60 [] [0,1,0,1] K G (hIx k ob o i) =
 (bif (decide (i < (k:Int))) then (bif (inB i k) then (bif (gF1 cc1 ec1 ((ob (i).toNat),o)) then (bif ((ob (i).toNat).name.toList == o.name.toList) then (K .ret ⟨[(4,.v (.n .i64 i))],[]⟩)
 else (G (hIx k ob o (vJJ .i64 (i + 1)))))
 else none)
 else none)
 else (K (.exit 0) ⟨[],[]⟩)):=by kernel_rfl
theorem lpIx (K:Cont) (k:Nat) (ob:Nat→ObT) (o:ObT) (_:k≤50):LFT Tf 114 (orIx k ob o) 60 [] [0,1,0,1] K 60 (hIx k ob o 0)=bif (allN (fun i:Nat => !((ob i).name.toList == o.name.toList)) k 0) then (K (.exit 0) ⟨[],[]⟩) else (K .ret ⟨[(4,.v (.n .i64 ((Rx.firstK (fun i:Nat => !((ob i).name.toList == o.name.toList)) k 0:Nat):Int)))],[]⟩):=by
 refine (kV (L:=LFT Tf 114 (orIx k ob o) 60 [] [0,1,0,1] K) (stp:=stpT Tf 114 (orIx k ob o) 60 [] [0,1,0,1] K) (fun _ _=>rfl) (fun (i:Nat) (_:Unit)=>hIx k ob o (i:Int)) (fun _ _=>True) (fun (i:Nat) _ => !((ob i).name.toList == o.name.toList)) (fun _ _=>()) (c:=k) (fun _=>(K (.exit 0) ⟨[],[]⟩)) (fun i _=>(K .ret ⟨[(4,.v (.n .i64 (i:Int)))],[]⟩)) (fun G i f hi _ => ?_) (fun _ _ _ _ _=>trivial) (fun G f _ => ?_) k 0 60 () (by omega) (by omega) trivial).trans ((jY _ _ _ _ _).trans (qQQ _ _ _ _ _))
 ·refine (rdIx G K k ob o i).trans ?_;rw [vJQ (show (i:Int) < (k:Int) by omega),kK (by omega),yU (show i < k by omega),toN,jX (C:=cc1) (t:=(ob i,o)) trivial];cases ((ob i).name.toList == o.name.toList) <;> rfl
 ·refine (rdIx G K k ob o k).trans ?_;rw [vYH (show ¬ (k:Int) < (k:Int) by omega)];rfl
noncomputable def kVX (k:Nat) (ob:Nat→ObT) (o:ObT):List (List Nat × yG):=[([0,1,0,1],sumF (fun _:Unit=>(hIx k ob o 0)) (fun _=>()) (fun _ K=>(bif (decide (k≤50)) then (bif (allN (fun i:Nat => !((ob i).name.toList == o.name.toList)) k 0) then (K (.exit 0) ⟨[],[]⟩) else (K .ret ⟨[(4,.v (.n .i64 ((Rx.firstK (fun i:Nat => !((ob i).name.toList == o.name.toList)) k 0:Nat):Int)))],[]⟩)) else none)))]
set_option maxRecDepth 100000 in
theorem fJU (k:Nat) (ob:Nat→ObT) (o:ObT):qQZ Tf (orIx k ob o) (qK (kVX k ob o)) 60 114 [.lf k (fO ob),.f 60 [] [.c (oP o) 0]] =
 (bif (gSt (hIx k ob o 0) (hIx k ob o 0)) then (bif (decide (k≤50)) then (bif (allN (fun i:Nat => !((ob i).name.toList == o.name.toList)) k 0) then some (.v (.n .i64 (-1)),[])
 else some (.v (.n .i64 ((Rx.firstK (fun i:Nat => !((ob i).name.toList == o.name.toList)) k 0:Nat):Int)),[]))
 else none)
 else none):=by kernel_rfl
theorem uKC (k:Nat) (ob:Nat→ObT) (o:ObT) (hk:k≤50):zG Tryz.prog 114 [.lf k (fO ob),.f 60 [] [.c (oP o) 0]] (.v (.n .i64 (bif dupO ob o k then ((Rx.firstK (fun i:Nat => !((ob i).name.toList == o.name.toList)) k 0:Nat):Int) else -1))):=by
 refine zK (N:=60) (LO:=qK (kVX k ob o)) jV yQ (kQ (l:=[(60,o_c1)]) (m:=[]) ⟨fUE,trivial⟩ trivial) (fun p S hp => ?_) ?_
 ·refine zQ (L:=qY Tf 114) (l:=(kVX k ob o)) (show AllP _ (kVX k ob o) from ⟨?_,trivial⟩) p S hp
  ·dsimp only;refine jK (T:=Tf) (o:=(orIx k ob o)) (f:=114) (LO:=qK []) (p:=[0,1,0,1]) kU ?_;intro t K r hr;obtain ⟨hg,hr⟩:=qQ hr;have hk:=vJZ hg;exact (lpIx K k ob o hk).trans hr
 ·refine (fJU k ob o).trans ?_;unfold dupO;rw [yJ,vJQ hk];cases allN (fun i:Nat => !((ob i).name.toList == o.name.toList)) k 0 <;> rfl
def cix:Nat × (Nat→ObT) × ObT→Prop:=fun t=>match t with | (k,_,_)=>k≤50
def eix:Nat × (Nat→ObT) × ObT→List PV:=fun t=>match t with | (k,ob,o)=>[.lf k (fO ob),.f 60 [] [.c (oP o) 0]]
noncomputable def rix:Nat × (Nat→ObT) × ObT→Ret:=fun t=>match t with | (k,ob,o)=>.v (.n .i64 (bif dupO ob o k then ((Rx.firstK (fun i:Nat => !((ob i).name.toList == o.name.toList)) k 0:Nat):Int) else -1))
def dix:List PV→Nat × (Nat→ObT) × ObT:=fun ps=>match ps with
 | [.lf k f,.f _ _ [.c q _]]=>(k,unOf f,unO q)
 | _=>(0,fun _=>⟨ByteArray.empty,0,fun _=>⟨0,0,0,fun _=>⟨0,0,0⟩⟩⟩,⟨ByteArray.empty,0,fun _=>⟨0,0,0,fun _=>⟨0,0,0⟩⟩⟩)
noncomputable def o_ix:List PV→Option (Bool × Ret):=o_fm dix cix eix rix
theorem fUV:zZ Tryz.prog 114 o_ix:=qQV fun t h=>by
 obtain ⟨k,ob,o⟩:=t;exact uKC k ob o h
noncomputable def fKF (k:Nat) (_:Nat→ObT) (o:ObT):OrS:=orS [(114,o_ix)] []
noncomputable def kVI (k:Nat) (_:Nat→ObT) (o:ObT):List (List Nat × yG):=[]
set_option maxRecDepth 100000 in
theorem fJI (k:Nat) (ob:Nat→ObT) (o:ObT):qQZ Tf (fKF k ob o) (qK (kVI k ob o)) 60 62 [.lf k (fO ob),.f 60 [] [.c (oP o) 0]] =
 (bif (gF1 cix eix (k,ob,o)) then (bif (decide (0≤(bif dupO ob o k then ((Rx.firstK (fun i:Nat => !((ob i).name.toList == o.name.toList)) k 0:Nat):Int) else -1))) then some (.v (.b true),[])
 else some (.v (.b false),[]))
 else none):=by kernel_rfl
theorem uUG (k:Nat) (ob:Nat→ObT) (o:ObT) (hk:k≤50):zG Tryz.prog 62 [.lf k (fO ob),.f 60 [] [.c (oP o) 0]] (.v (.b (dupO ob o k))):=by
 refine zK (N:=60) (LO:=qK (kVI k ob o)) jV yQ (kQ (l:=[(114,o_ix)]) (m:=[]) ⟨fUV,trivial⟩ trivial) (fun p S hp => ?_) ?_
 ·refine zQ (L:=qY Tf 62) (l:=(kVI k ob o)) (show AllP _ (kVI k ob o) from trivial) p S hp
 ·refine (fJI k ob o).trans ?_;rw [jX (C:=cix) (t:=(k,ob,o)) hk];cases dupO ob o k with
  | false=>rfl
  | true =>
   rw [vYV,vYV,vJQ (show 0≤((Rx.firstK (fun i:Nat => !((ob i).name.toList == o.name.toList)) k 0:Nat):Int) by omega)];rfl
def ccf:Nat × (Nat→ObT) × ObT→Prop:=fun t=>match t with | (k,_,_)=>k≤50
def ecf:Nat × (Nat→ObT) × ObT→List PV:=fun t=>match t with | (k,ob,o)=>[.lf k (fO ob),.f 60 [] [.c (oP o) 0]]
noncomputable def rcf:Nat × (Nat→ObT) × ObT→Ret:=fun t=>match t with | (k,ob,o)=>.v (.b (dupO ob o k))
def dcf:List PV→Nat × (Nat→ObT) × ObT:=fun ps=>match ps with
 | [.lf k f,.f _ _ [.c q _]]=>(k,unOf f,unO q)
 | _=>(0,fun _=>⟨ByteArray.empty,0,fun _=>⟨0,0,0,fun _=>⟨0,0,0⟩⟩⟩,⟨ByteArray.empty,0,fun _=>⟨0,0,0,fun _=>⟨0,0,0⟩⟩⟩)
noncomputable def o_cf:List PV→Option (Bool × Ret):=o_fm dcf ccf ecf rcf
theorem fUD:zZ Tryz.prog 62 o_cf:=qQV fun t h=>by
 obtain ⟨k,ob,o⟩:=t;exact uUG k ob o h
def csk_:(Nat→J) × (Nat→Ms) × (Nat→Shp) × (Nat→Skp) × Nat × Nat × Nat × Nat→Prop:=fun t=>match t with | (_,_,_,_,_,_,_,_)=>True
def esk_:(Nat→J) × (Nat→Ms) × (Nat→Shp) × (Nat→Skp) × Nat × Nat × Nat × Nat→List PV:=fun t=>match t with | (js,ms,sh,sk,n,m,c,d)=>[.a [.lf n (fJ js),.lf m (fM ms),.lf c (fS sh),.lf d (fK sk)]]
noncomputable def rsk_:(Nat→J) × (Nat→Ms) × (Nat→Shp) × (Nat→Skp) × Nat × Nat × Nat × Nat→Ret:=fun t=>match t with | (js,ms,sh,sk,n,m,c,d)=>.v (.n .i64 (sErr js ms sh sk n m c d))
def dsk_:List PV→(Nat→J) × (Nat→Ms) × (Nat→Shp) × (Nat→Skp) × Nat × Nat × Nat × Nat:=fun ps=>match ps with
 | [.a [.lf n js,.lf m ms,.lf c sh,.lf d sk]]=>(unFJ js,unFM ms,unFS sh,unFK sk,n,m,c,d)
 | _=>(fun _=>⟨ByteArray.empty,0,0,⟨0,0,0⟩,0,0,0,0,0,0⟩,fun _=>⟨0,0,⟨0,0,0⟩⟩,fun _=>⟨0,0,0,fun _=>⟨0,0,0⟩⟩,fun _=>⟨0,0⟩,0,0,0,0)
noncomputable def uVB:List PV→Option (Bool × Ret):=o_fm dsk_ csk_ esk_ rsk_
theorem xUF:zZ Tryz.prog 58 uVB:=qQV fun t h=>by
 obtain ⟨js,ms,sh,sk,n,m,c,d⟩:=t;exact uJA js ms sh sk n m c d
def crc_:(Nat→J) × (Nat→Ms) × (Nat→Shp) × (Nat→Skp) × Nat × Nat × Nat × Nat→Prop:=fun t=>match t with | (_,_,_,_,_,_,_,_)=>True
def erc_:(Nat→J) × (Nat→Ms) × (Nat→Shp) × (Nat→Skp) × Nat × Nat × Nat × Nat→List PV:=fun t=>match t with | (js,ms,sh,sk,n,m,c,d)=>[.a [.lf n (fJ js),.lf m (fM ms),.lf c (fS sh),.lf d (fK sk)]]
noncomputable def rrc_:(Nat→J) × (Nat→Ms) × (Nat→Shp) × (Nat→Skp) × Nat × Nat × Nat × Nat→Ret:=fun t=>match t with | (js,ms,sh,sk,n,m,c,d)=>.v (.n .i64 (sErr js ms sh sk n m c d))
def drc_:List PV→(Nat→J) × (Nat→Ms) × (Nat→Shp) × (Nat→Skp) × Nat × Nat × Nat × Nat:=fun ps=>match ps with
 | [.a [.lf n js,.lf m ms,.lf c sh,.lf d sk]]=>(unFJ js,unFM ms,unFS sh,unFK sk,n,m,c,d)
 | _=>(fun _=>⟨ByteArray.empty,0,0,⟨0,0,0⟩,0,0,0,0,0,0⟩,fun _=>⟨0,0,⟨0,0,0⟩⟩,fun _=>⟨0,0,0,fun _=>⟨0,0,0⟩⟩,fun _=>⟨0,0⟩,0,0,0,0)
noncomputable def uVD:List PV→Option (Bool × Ret):=o_fm drc_ crc_ erc_ rrc_
theorem xXU:zZ Tryz.prog 37 uVD:=qQV fun t h=>by
 obtain ⟨js,ms,sh,sk,n,m,c,d⟩:=t;exact jUD js ms sh sk n m c d
noncomputable def orGw (_:Wsp):OrS:=orS [(58,uVB),(59,o_fi),(61,o_nm),(62,o_cf),(63,o_so)] []
noncomputable def hGw (ws:Wsp) (i:Int) (s:Int):St:=⟨[(1,.p 1 0),(4,.v (.n .i64 s)),(22,.v (.lf ws.no (fO ws.ob))),(23,.v (.n .i64 (ws.no:Int))),(24,.v (.n .i64 i))],[(1,.blk ((wP ws).map .v))]⟩
set_option maxRecDepth 100000 in
theorem rdGw (G:St→Option (Ret × Mem)) (K:Cont) (ws:Wsp) (i:Int) (s:Int):stpT Tf 19 (orGw ws) 60 [] [0,1,0,1,1,1,1] K G (hGw ws i s) =
 (bif (decide (i < (ws.no:Int))) then (bif (inB i ws.no) then (bif (nmB (ws.ob (i).toNat).name) then (bif (inS none (some i) ws.no) then (bif (gF1 ccf ecf (((i).toNat - 0),(fun v=>(ws.ob (v + 0))),(ws.ob (i).toNat))) then (bif (dupO (fun v=>(ws.ob (v + 0))) (ws.ob (i).toNat) ((i).toNat - 0)) then (K .ret ⟨[(2,.v (.n .i64 3402)),(4,.v (.n .i64 s))],[]⟩)
 else (bif (gF1 cso eso (ws.ob (i).toNat)) then (bif (soOk (ws.ob (i).toNat)) then (G (hGw ws (vJJ .i64 (i + 1)) (vJJ .i64 (s + ((ws.ob (i).toNat).ns:Int)))))
 else (K .ret ⟨[(2,.v (.n .i64 3402)),(4,.v (.n .i64 s))],[]⟩))
 else none))
 else none)
 else none)
 else (K .ret ⟨[(2,.v (.n .i64 3402)),(4,.v (.n .i64 s))],[]⟩))
 else none)
 else (K (.exit 0) ⟨[(4,.v (.n .i64 s))],[]⟩)):=by kernel_rfl
def obG (ws:Wsp) (i:Nat):Bool:=nmB (ws.ob i).name && (!dupO ws.ob (ws.ob i) i && soOk (ws.ob i))
def cntF (ws:Wsp):Nat→Int
 | 0=>(ws.c:Int)
 | i + 1=>vJJ .i64 (cntF ws i + ((ws.ob i).ns:Int))
def obA (ws:Wsp):Bool:=allN (fun i:Nat=>obG ws i) ws.no 0
def sEW (ws:Wsp):Int:=sErr ws.js ws.ms ws.sh ws.sk ws.n ws.m ws.c ws.d
def wErr (ws:Wsp):Int:=bif decide (sEW ws=0) then (bif fiB ws then (bif obA ws then (bif decide (24 < cntF ws ws.no) then 3401 else 0) else 3402) else 3401) else sEW ws
def okW (ws:Wsp):Prop:=∀ i,i < ws.no→(ws.ob i).ns≤8796093021952
theorem jKW {ws:Wsp} (h:fiB ws=true):ws.no≤6∧ws.np≤8∧ws.nh≤3∧ws.ng≤32:=by
 unfold fiB szG at h;simp only [vQJ,Bool.not_eq_true',decide_eq_false_iff_not] at h;omega
theorem jHH {i n:Nat} (_:i < n):inS none (some (i:Int)) n=true:=by
 simp [inS,loOf,hiOf];exact vJQ (by omega)
theorem lpGw (K:Cont) (ws:Wsp) (_:ws.no≤50) (ho:okW ws):LFT Tf 19 (orGw ws) 60 [] [0,1,0,1,1,1,1] K 60 (hGw ws 0 (ws.c:Int))=bif obA ws then (K (.exit 0) ⟨[(4,.v (.n .i64 (cntF ws ws.no)))],[]⟩) else (K .ret ⟨[(2,.v (.n .i64 3402)),(4,.v (.n .i64 (cntF ws (Rx.firstK (fun j:Nat=>obG ws j) ws.no 0))))],[]⟩):=by
 refine (kV (L:=LFT Tf 19 (orGw ws) 60 [] [0,1,0,1,1,1,1] K) (stp:=stpT Tf 19 (orGw ws) 60 [] [0,1,0,1,1,1,1] K) (fun _ _=>rfl) (fun (i:Nat) (_:Unit)=>hGw ws (i:Int) (cntF ws i)) (fun _ _=>True) (fun (i:Nat) _=>obG ws i) (fun _ _=>()) (c:=ws.no) (fun _=>(K (.exit 0) ⟨[(4,.v (.n .i64 (cntF ws ws.no)))],[]⟩)) (fun i _=>(K .ret ⟨[(2,.v (.n .i64 3402)),(4,.v (.n .i64 (cntF ws i)))],[]⟩)) (fun G i f hi _ => ?_) (fun _ _ _ _ _=>trivial) (fun G f _ => ?_) ws.no 0 60 () (by omega) (by omega) trivial).trans ((jY _ _ _ _ _).trans (qQQ _ _ _ _ _))
 ·have h1:(ws.ob i).ns≤9223372036854775807:=Nat.le_trans (ho i hi) (by decide);refine (rdGw G K ws i (cntF ws i)).trans ?_;rw [vJQ (show (i:Int) < (ws.no:Int) by omega),kK (by omega),yU hi,toN,jHH hi,jX (C:=ccf) (t:=(i - 0,(fun v=>ws.ob (v + 0)),ws.ob i)) (show i - 0≤50 by omega),jX (C:=cso) (t:=ws.ob i) h1];unfold obG;show _=bif nmB (ws.ob i).name && (!dupO (fun v=>ws.ob (v + 0)) (ws.ob i) (i - 0) && soOk (ws.ob i)) then _ else _
  cases nmB (ws.ob i).name <;> cases dupO (fun v=>ws.ob (v + 0)) (ws.ob i) (i - 0) <;> cases soOk (ws.ob i) <;> rfl
 ·refine (rdGw G K ws (ws.no:Int) (cntF ws ws.no)).trans ?_;rw [vYH (show ¬ (ws.no:Int) < (ws.no:Int) by omega)];rfl
noncomputable def kVB (ws:Wsp):List (List Nat × yG):=[([0,1,0,1,1,1,1],sumF (fun _:Unit=>(hGw ws 0 (ws.c:Int))) (fun _=>()) (fun _ K=>(bif gP (ws.no≤50∧okW ws) then (bif obA ws then (K (.exit 0) ⟨[(4,.v (.n .i64 (cntF ws ws.no)))],[]⟩) else (K .ret ⟨[(2,.v (.n .i64 3402)),(4,.v (.n .i64 (cntF ws (Rx.firstK (fun j:Nat=>obG ws j) ws.no 0))))],[]⟩)) else none)))]
set_option maxRecDepth 100000 in
theorem fJB (ws:Wsp):qQZ Tf (orGw ws) (qK (kVB ws)) 60 19 [.a (wP ws)] =
 (bif (gF1 csk_ esk_ (ws.js,ws.ms,ws.sh,ws.sk,ws.n,ws.m,ws.c,ws.d)) then (bif (!decide ((sErr ws.js ws.ms ws.sh ws.sk ws.n ws.m ws.c ws.d)=0)) then some (.v (.n .i64 (sErr ws.js ws.ms ws.sh ws.sk ws.n ws.m ws.c ws.d)),[])
 else (bif (gF1 cfi efi ws) then (bif (fiB ws) then (bif (gSt (hGw ws 0 (ws.c:Int)) (hGw ws 0 (ws.c:Int))) then (bif gP (ws.no≤50∧okW ws) then (bif (obA ws) then (bif (decide (24 < (cntF ws ws.no))) then some (.v (.n .i64 3401),[])
 else some (.v (.n .i64 0),[]))
 else some (.v (.n .i64 3402),[]))
 else none)
 else none)
 else some (.v (.n .i64 3401),[]))
 else none))
 else none):=by kernel_rfl
theorem uUY (ws:Wsp) (ho:okW ws):zG Tryz.prog 19 [.a (wP ws)] (.v (.n .i64 (wErr ws))):=by
 refine zK (N:=60) (LO:=qK (kVB ws)) jV yQ (kQ (l:=[(58,uVB),(59,o_fi),(61,o_nm),(62,o_cf),(63,o_so)]) (m:=[]) ⟨xUF,fUH,xUA,fUD,fUQ,trivial⟩ trivial) (fun p S hp => ?_) ?_
 ·refine zQ (L:=qY Tf 19) (l:=(kVB ws)) (show AllP _ (kVB ws) from ⟨?_,trivial⟩) p S hp
  ·dsimp only;refine jK (T:=Tf) (o:=(orGw ws)) (f:=19) (LO:=qK []) (p:=[0,1,0,1,1,1,1]) kU ?_;intro t K r hr;obtain ⟨hg,hr⟩:=qQ hr
   skip
   exact (lpGw K ws (jH hg).1 (jH hg).2).trans hr
 ·refine (fJB ws).trans ?_;unfold wErr;rw [jX (C:=csk_) (t:=(ws.js,ws.ms,ws.sh,ws.sk,ws.n,ws.m,ws.c,ws.d)) trivial];show (bif true then (bif !decide (sEW ws=0) then some (Ret.v (.n .i64 (sEW ws)),([]:Mem)) else _) else none)=_;by_cases h:sEW ws=0
  ·rw [vJQ h,jX (C:=cfi) (t:=ws) trivial];cases hf:fiB ws with
   | false=>rfl
   | true =>
    have hn:=(jKW hf).1;simp only [yJ,qXJ (show ws.no≤50∧okW ws from ⟨by omega,ho⟩),vYV,Bool.not_true,vYG];cases obA ws with
    | false=>rfl
    | true=>cases decide (24 < cntF ws ws.no) <;> rfl
  ·rw [vYH h]; rfl
def cgk:Wsp→Prop:=fun t=>match t with | ws=>okW ws
def egk:Wsp→List PV:=fun t=>match t with | ws=>[.a (wP ws)]
noncomputable def rgk:Wsp→Ret:=fun t=>match t with | ws=>.v (.n .i64 (wErr ws))
def dgk:List PV→Wsp:=fun ps=>match ps with
 | [.a r]=>unW r
 | _=>(unW [])
noncomputable def o_gk:List PV→Option (Bool × Ret):=o_fm dgk cgk egk rgk
theorem uVK:zZ Tryz.prog 19 o_gk:=qQV fun t h=>by
 revert h; revert t; intro ws h
 exact uUY ws h
end Go.Proofs.YtmeldddgjfocdaaGreat.Hc

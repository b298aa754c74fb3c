/- Part 18 of the texts behind the last one: rules and contracts. No condition. -/
import Derived.Test.YtmeldddgjfocdaaGreatGL17
open Bool renaming and_eq_true → vQJ, and_self → vZJ, true_and → vZH
open Go.IntKind renaming wrap → vJJ
namespace Go.Proofs.YtmeldddgjfocdaaGreat.Hn
open Go.Rx Rt Go.Sx Go.RowKit Od Na Nb Nc Nx Nf Nl Nm Ga Gb Gc Gd Ge Gf Gg Sn Ha Hb Hc Hd He Hf Hg Hh Hi Hj Hk Hm
noncomputable def orUs (k:Nat) (q:Nat→Int) (x:Int):OrS:=orS [] []
noncomputable def hUs (k:Nat) (q:Nat→Int) (x:Int) (i:Int):St:=⟨[(0,.v (.lf k (fQ q))),(1,.v (.n .i64 x)),(5,.v (.n .i64 i))],[]⟩
set_option maxRecDepth 100000 in
theorem rdUs (G:St→Option (Ret × Mem)) (K:Cont) (k:Nat) (q:Nat→Int) (x:Int) (i:Int):stpT Tf 69 (orUs k q x) 60 [] [0,1,0,1] K G (hUs k q x i) =
 (bif (decide (i < (k:Int))) then (bif (inB i k) then (bif (decide ((q (i).toNat)=x)) then (K .ret ⟨[(4,.v (.b true))],[]⟩)
 else (G (hUs k q x (vJJ .i64 (i + 1)))))
 else none)
 else (K (.exit 0) ⟨[],[]⟩)):=by kernel_rfl
theorem lpUs (K:Cont) (k:Nat) (q:Nat→Int) (x:Int) (_:k≤50):LFT Tf 69 (orUs k q x) 60 [] [0,1,0,1] K 60 (hUs k q x 0)=bif (allN (fun i:Nat => !decide (q i=x)) k 0) then (K (.exit 0) ⟨[],[]⟩) else (K .ret ⟨[(4,.v (.b true))],[]⟩):=by
 refine (kV (L:=LFT Tf 69 (orUs k q x) 60 [] [0,1,0,1] K) (stp:=stpT Tf 69 (orUs k q x) 60 [] [0,1,0,1] K) (fun _ _=>rfl) (fun (i:Nat) (_:Unit)=>hUs k q x (i:Int)) (fun _ _=>True) (fun (i:Nat) _ => !decide (q i=x)) (fun _ _=>()) (c:=k) (fun _=>(K (.exit 0) ⟨[],[]⟩)) (fun i _=>(K .ret ⟨[(4,.v (.b true))],[]⟩)) (fun G i f hi _ => ?_) (fun _ _ _ _ _=>trivial) (fun G f _ => ?_) k 0 60 () (by omega) (by omega) trivial).trans ((jY _ _ _ _ _).trans (qQQ _ _ _ _ _))
 ·refine (rdUs G K k q x i).trans ?_;rw [vJQ (show (i:Int) < (k:Int) by omega),kK (by omega),yU (show i < k by omega),toN];cases decide (q i=x) <;> rfl
 ·refine (rdUs G K k q x k).trans ?_;rw [vYH (show ¬ (k:Int) < (k:Int) by omega)];rfl
noncomputable def kWU (k:Nat) (q:Nat→Int) (x:Int):List (List Nat × yG):=[([0,1,0,1],sumF (fun _:Unit=>(hUs k q x 0)) (fun _=>()) (fun _ K=>(bif (decide (k≤50)) then (bif (allN (fun i:Nat => !decide (q i=x)) k 0) then (K (.exit 0) ⟨[],[]⟩) else (K .ret ⟨[(4,.v (.b true))],[]⟩)) else none)))]
set_option maxRecDepth 100000 in
theorem fYJ (k:Nat) (q:Nat→Int) (x:Int):qQZ Tf (orUs k q x) (qK (kWU k q x)) 60 69 [.lf k (fQ q),.n .i64 x] =
 (bif (gSt (hUs k q x 0) (hUs k q x 0)) then (bif (decide (k≤50)) then (bif (allN (fun i:Nat => !decide (q i=x)) k 0) then some (.v (.b false),[])
 else some (.v (.b true),[]))
 else none)
 else none):=by kernel_rfl
theorem uJK (k:Nat) (q:Nat→Int) (x:Int) (hk:k≤50):zG Tryz.prog 69 [.lf k (fQ q),.n .i64 x] (.v (.b (hasQ q k x))):=by
 refine zK (N:=60) (LO:=qK (kWU k q x)) jV yQ (kQ (l:=[]) (m:=[]) trivial trivial) (fun p S hp => ?_) ?_
 ·refine zQ (L:=qY Tf 69) (l:=(kWU k q x)) (show AllP _ (kWU k q x) from ⟨?_,trivial⟩) p S hp
  ·dsimp only;refine jK (T:=Tf) (o:=(orUs k q x)) (f:=69) (LO:=qK []) (p:=[0,1,0,1]) kU ?_;intro t K r hr;obtain ⟨hg,hr⟩:=qQ hr;have hk:=vJZ hg;exact (lpUs K k q x hk).trans hr
 ·refine (fYJ k q x).trans ?_;unfold hasQ;rw [yJ,vJQ hk];cases allN (fun i:Nat => !decide (q i=x)) k 0 <;> rfl
def cus:Nat × (Nat→Int) × Int→Prop:=fun t=>match t with | (k,_,_)=>k≤50
def eus:Nat × (Nat→Int) × Int→List PV:=fun t=>match t with | (k,q,x)=>[.lf k (fQ q),.n .i64 x]
noncomputable def rus:Nat × (Nat→Int) × Int→Ret:=fun t=>match t with | (k,q,x)=>.v (.b (hasQ q k x))
def dus:List PV→Nat × (Nat→Int) × Int:=fun ps=>match ps with
 | [.lf k f,.n _ x]=>(k,unFQ f,x)
 | _=>(0,fun _=>0,0)
noncomputable def o_us:List PV→Option (Bool × Ret):=o_fm dus cus eus rus
theorem xUH:zZ Tryz.prog 69 o_us:=qQV fun t h=>by
 obtain ⟨k,q,x⟩:=t;exact uJK k q x h
noncomputable def orMd (_:Wsp) (_ _:Nat) (e:Nat→Int):OrS:=orS [(69,o_us)] [(43,o_nx)]
noncomputable def hMd (ws:Wsp) (no wl:Nat) (e:Nat→Int) (i:Int) (k:Int) (m2:Nat) (r:Nat) (q:Nat→Int):St:=⟨[(2,.p 2 0),(4,.p 4 0),(5,.p 10 0),(6,.p 6 0),(7,.v (.n .i64 i)),(8,.v (.n .i64 k))],[(2,.blk [.v (.lf ws.n (fJ ws.js)),.v (.lf ws.m (fM ws.ms)),.v (.lf ws.c (fS ws.sh)),.v (.lf ws.d (fK ws.sk)),.v (.lf no (fO ws.ob)),.v (.lf ws.np (fZ ws.pl)),.v (.lf ws.nh (fH ws.hd)),.v (.lf ws.ng (fG ws.gr)),.v (.n .i64 ws.slack)]),(4,.blk [.nl]),(6,.blk [.o 57]),(10,.blk [.v (.lf wl (fQ e)),.v (.n .i64 (m2:Int))]),(57,.reg 3 1 (.fo r (fQ q)))]⟩
set_option maxRecDepth 100000 in
theorem rdMd (G:St→Option (Ret × Mem)) (K:Cont) (ws:Wsp) (no wl:Nat) (e:Nat→Int) (i:Int) (k:Int) (m2:Nat) (r:Nat) (q:Nat→Int):stpT Tf 22 (orMd ws no wl e) 60 [] [0,0,1,0,0,1,0,0,1,0,1,1,1] K G (hMd ws no wl e i k m2 r q) =
 (bif (gF1 cus eus (r,q,k)) then (bif (hasQ q r k) then (bif (decide ((vJJ .i64 ((ws.np:Int) + (ws.nh:Int)))=0)) then none
 else (G (hMd ws no wl e i (vJJ .i64 (((vJJ .i64 ((vJJ .i64 (k + 1)) + (ws.nh:Int))).tmod (vJJ .i64 ((ws.np:Int) + (ws.nh:Int)))) - (ws.nh:Int))) m2 r q)))
 else (K (.exit 2) ⟨[(2,.p 2 0),(4,.p 4 0),(5,.p 10 0),(6,.p 6 0),(7,.v (.n .i64 i)),(8,.v (.n .i64 k))],[(2,.blk [.v (.lf ws.n (fJ ws.js)),.v (.lf ws.m (fM ws.ms)),.v (.lf ws.c (fS ws.sh)),.v (.lf ws.d (fK ws.sk)),.v (.lf no (fO ws.ob)),.v (.lf ws.np (fZ ws.pl)),.v (.lf ws.nh (fH ws.hd)),.v (.lf ws.ng (fG ws.gr)),.v (.n .i64 ws.slack)]),(4,.blk [.nl]),(6,.blk [.o 57]),(10,.blk [.v (.lf wl (fQ e)),.v (.n .i64 (m2:Int))]),(57,.reg 3 1 (.fo r (fQ q)))]⟩))
 else none):=by kernel_rfl
def mdK (ws:Wsp) (k:Int):Int:=vJJ .i64 (((vJJ .i64 ((vJJ .i64 (k + 1)) + (ws.nh:Int))).tmod (vJJ .i64 ((ws.np:Int) + (ws.nh:Int)))) - (ws.nh:Int))
def mdS (ws:Wsp) (r:Nat) (q:Nat→Int) (k:Int):Int:=bif hasQ q r k then mdK ws k else k
theorem lpMd (K:Cont) (ws:Wsp) (no wl:Nat) (e:Nat→Int) (i k:Int) (m2 r:Nat) (q:Nat→Int) (h:(r≤50∧¬ vJJ .i64 ((ws.np:Int) + (ws.nh:Int))=0∧hasQ q r (mdS ws r q k)=false)):LFT Tf 22 (orMd ws no wl e) 60 [] [0,0,1,0,0,1,0,0,1,0,1,1,1] K 60 (hMd ws no wl e i k m2 r q)=(K (.exit 2) ⟨[(2,.p 2 0),(4,.p 4 0),(5,.p 10 0),(6,.p 6 0),(7,.v (.n .i64 i)),(8,.v (.n .i64 (mdS ws r q k)))],[(2,.blk [.v (.lf ws.n (fJ ws.js)),.v (.lf ws.m (fM ws.ms)),.v (.lf ws.c (fS ws.sh)),.v (.lf ws.d (fK ws.sk)),.v (.lf no (fO ws.ob)),.v (.lf ws.np (fZ ws.pl)),.v (.lf ws.nh (fH ws.hd)),.v (.lf ws.ng (fG ws.gr)),.v (.n .i64 ws.slack)]),(4,.blk [.nl]),(6,.blk [.o 57]),(10,.blk [.v (.lf wl (fQ e)),.v (.n .i64 (m2:Int))]),(57,.reg 3 1 (.fo r (fQ q)))]⟩):=by
 obtain ⟨hr,hz,hq⟩:=h;refine (rdMd (LFT Tf 22 (orMd ws no wl e) 60 [] [0,0,1,0,0,1,0,0,1,0,1,1,1] K 59) K ws no wl e i k m2 r q).trans ?_;rw [jX (C:=cus) (t:=(r,q,k)) hr,vYV,vYH hz,vYG];unfold mdS at hq ⊢;cases hk:hasQ q r k with
 | false=>rfl
 | true =>
  rw [hk,vYV] at hq;rw [vYV,vYV];refine (rdMd (LFT Tf 22 (orMd ws no wl e) 60 [] [0,0,1,0,0,1,0,0,1,0,1,1,1] K 58) K ws no wl e i (mdK ws k) m2 r q).trans ?_;rw [jX (C:=cus) (t:=(r,q,mdK ws k)) hr,hq];rfl
theorem zKW {q:Nat→Int} {x:Int}:hasQ q 1 x=decide (q 0=x):=by
 show (!((!decide (q 0=x)) && true))=_;cases decide (q 0=x) <;> rfl
def inR (ws:Wsp) (k:Int):Prop:=-(ws.nh:Int)≤k∧k < (ws.np:Int)
theorem jHA {ws:Wsp} {k:Int} (h:inR ws k) (_:ws.nh≤50):inM ws k=true:=by
 unfold inR at h;unfold inM;have e:vJJ .i64 (0 - (ws.nh:Int)) = -(ws.nh:Int):=by rw [qX (by omega)]; omega
 rw [e,vYH (show ¬ k < -(ws.nh:Int) by omega),vYH (show ¬ (ws.np:Int)≤k by omega)]; rfl
theorem xVX {ws:Wsp} (_:1≤ws.np∧ws.np≤50) (_:1≤ws.nh∧ws.nh≤50) {k:Int} (h:inR ws k):inR ws (mdK ws k)∧mdK ws k ≠ k:=by
 unfold inR at h ⊢;have e:mdK ws k=(k + 1 + (ws.nh:Int)) % ((ws.np:Int) + (ws.nh:Int)) - (ws.nh:Int):=by
  unfold mdK;rw [show vJJ .i64 (k + 1)=k + 1 from qX (by omega),show vJJ .i64 (k + 1 + (ws.nh:Int))=k + 1 + (ws.nh:Int) from qX (by omega),show vJJ .i64 ((ws.np:Int) + (ws.nh:Int))=(ws.np:Int) + (ws.nh:Int) from qX (by omega),Int.tmod_eq_emod_of_nonneg (by omega)];have h1:=Int.emod_nonneg (k + 1 + (ws.nh:Int)) (show (ws.np:Int) + (ws.nh:Int) ≠ 0 by omega);have h2:=Int.emod_lt_of_pos (k + 1 + (ws.nh:Int)) (show (0:Int) < (ws.np:Int) + (ws.nh:Int) by omega);exact qX (by omega)
 rw [e];by_cases hk:k + 1 + (ws.nh:Int)=(ws.np:Int) + (ws.nh:Int)
 ·rw [hk,Int.emod_self]; omega
 ·rw [Int.emod_eq_of_lt (by omega) (by omega)]; omega
theorem uZD {ws:Wsp} (hp:1≤ws.np∧ws.np≤50) (hh:1≤ws.nh∧ws.nh≤50) {q:Nat→Int} {k:Int} (h:inR ws k):hasQ q 1 (mdS ws 1 q k)=false∧inR ws (mdS ws 1 q k):=by
 have h1:=xVX hp hh h;unfold mdS;rw [zKW,zKW];by_cases e:q 0=k
 ·rw [vJQ e,vYV,vYH (by rw [e]; exact fun h=>h1.2 h.symm)];exact ⟨rfl,h1.1⟩
 ·rw [vYH e,vYG,vYH e];exact ⟨rfl,h⟩
noncomputable def mdA (ws:Wsp) (wl:Nat) (e:Nat→Int):Nat→Int:=(fun v=>(bif (Nat.beq v 0) then (mdS ws 0 (fun _=>0) (vJJ .i64 ((nxV e wl 0 (vJJ .i64 ((ws.np:Int) + (ws.nh:Int)))) - (ws.nh:Int)))) else 0))
noncomputable def mdB (ws:Wsp) (wl:Nat) (e:Nat→Int):Nat→Int:=fun v=>(bif (Nat.beq v 1) then (mdS ws 1 (mdA ws wl e) (vJJ .i64 ((nxV e wl (mA wl 0 1) (vJJ .i64 ((ws.np:Int) + (ws.nh:Int)))) - (ws.nh:Int)))) else mdA ws wl e v)
theorem kin {ws:Wsp} (_:1≤ws.np∧ws.np≤50) (_:1≤ws.nh∧ws.nh≤50) (wl:Nat) (e:Nat→Int) (m:Nat):inR ws (vJJ .i64 ((nxV e wl m (vJJ .i64 ((ws.np:Int) + (ws.nh:Int)))) - (ws.nh:Int))):=by
 have hk:(vJJ .i64 ((ws.np:Int) + (ws.nh:Int)))=(ws.np:Int) + (ws.nh:Int):=qX (by omega);have b:=qUG (e:=e) (w:=wl) (m:=m) (k:=(vJJ .i64 ((ws.np:Int) + (ws.nh:Int)))) (by rw [hk]; omega);rw [hk] at b ⊢;unfold inR;rw [qX (by omega)];omega
noncomputable def jQH (ws:Wsp) (wl:Nat) (e:Nat→Int):List (List Nat × yG):=[([0,0,1,0,0,1,0,0,1,0,1,1,1],sumF (fun t:Int × Int × Nat × Nat × (Nat→Int)=>(hMd ws 1 wl e t.1 t.2.1 t.2.2.1 t.2.2.2.1 t.2.2.2.2)) (fun σ=>(slI σ 7,slI σ 8,(bkC σ 10 1).toNat,rgN σ 57,unFQ (rgF σ 57))) (fun t K=>(bif (gP (t.2.2.2.1≤50∧¬ vJJ .i64 ((ws.np:Int) + (ws.nh:Int))=0∧hasQ t.2.2.2.2 t.2.2.2.1 (mdS ws t.2.2.2.1 t.2.2.2.2 t.2.1)=false)) then (K (.exit 2) ⟨[(2,.p 2 0),(4,.p 4 0),(5,.p 10 0),(6,.p 6 0),(7,.v (.n .i64 t.1)),(8,.v (.n .i64 (mdS ws t.2.2.2.1 t.2.2.2.2 t.2.1)))],[(2,.blk [.v (.lf ws.n (fJ ws.js)),.v (.lf ws.m (fM ws.ms)),.v (.lf ws.c (fS ws.sh)),.v (.lf ws.d (fK ws.sk)),.v (.lf 1 (fO ws.ob)),.v (.lf ws.np (fZ ws.pl)),.v (.lf ws.nh (fH ws.hd)),.v (.lf ws.ng (fG ws.gr)),.v (.n .i64 ws.slack)]),(4,.blk [.nl]),(6,.blk [.o 57]),(10,.blk [.v (.lf wl (fQ e)),.v (.n .i64 (t.2.2.1:Int))]),(57,.reg 3 1 (.fo t.2.2.2.1 (fQ t.2.2.2.2)))]⟩) else none)))]
set_option maxRecDepth 100000 in
theorem xKX (ws:Wsp) (wl:Nat) (e:Nat→Int):qQZ Tf (orMd ws 1 wl e) (qK (jQH ws wl e)) 60 22 [.a [.lf ws.n (fJ ws.js),.lf ws.m (fM ws.ms),.lf ws.c (fS ws.sh),.lf ws.d (fK ws.sk),.lf 1 (fO ws.ob),.lf ws.np (fZ ws.pl),.lf ws.nh (fH ws.hd),.lf ws.ng (fG ws.gr),.n .i64 ws.slack],.lf wl (fQ e)] =
 (bif (gB1 cnx hnx enx (wl,0,e,(vJJ .i64 ((ws.np:Int) + (ws.nh:Int))))) then (bif (gSt (hMd ws 1 wl e 0 (vJJ .i64 ((nxV e wl 0 (vJJ .i64 ((ws.np:Int) + (ws.nh:Int)))) - (ws.nh:Int))) (mA wl 0 1) 0 (fun _=>0)) (hMd ws 1 wl e 0 (vJJ .i64 ((nxV e wl 0 (vJJ .i64 ((ws.np:Int) + (ws.nh:Int)))) - (ws.nh:Int))) (mA wl 0 1) 0 (fun _=>0))) then (bif (gP (0≤50∧¬ vJJ .i64 ((ws.np:Int) + (ws.nh:Int))=0∧hasQ (fun _=>0) 0 (mdS ws 0 (fun _=>0) (vJJ .i64 ((nxV e wl 0 (vJJ .i64 ((ws.np:Int) + (ws.nh:Int)))) - (ws.nh:Int))))=false)) then (bif (decide (0 + 1≤1000000)) then some (.v (.a [.lf 1 (fun v=>[.n .i64 (bif (Nat.beq v 0) then (mdS ws 0 (fun _=>0) (vJJ .i64 ((nxV e wl 0 (vJJ .i64 ((ws.np:Int) + (ws.nh:Int)))) - (ws.nh:Int)))) else 0)])]),[])
 else none)
 else none)
 else none)
 else none):=by kernel_rfl
theorem kJK (ws:Wsp) (wl:Nat) (e:Nat→Int) (hw:wl≤9223372036854775807) (hp:1≤ws.np∧ws.np≤50) (hh:1≤ws.nh∧ws.nh≤50):zG Tryz.prog 22 [.a [.lf ws.n (fJ ws.js),.lf ws.m (fM ws.ms),.lf ws.c (fS ws.sh),.lf ws.d (fK ws.sk),.lf 1 (fO ws.ob),.lf ws.np (fZ ws.pl),.lf ws.nh (fH ws.hd),.lf ws.ng (fG ws.gr),.n .i64 ws.slack],.lf wl (fQ e)] (.v (.a [.lf 1 (fQ (mdA ws wl e))])):=by
 refine zK (N:=60) (LO:=qK (jQH ws wl e)) jV yQ (kQ (l:=[(69,o_us)]) (m:=[(43,o_nx)]) ⟨xUH,trivial⟩ ⟨uWF,trivial⟩) (fun p S hp => ?_) ?_
 ·refine zQ (L:=qY Tf 22) (l:=(jQH ws wl e)) (show AllP _ (jQH ws wl e) from ⟨?_,trivial⟩) p S hp
  ·dsimp only;refine jK (T:=Tf) (o:=(orMd ws 1 wl e)) (f:=22) (LO:=qK []) (p:=[0,0,1,0,0,1,0,0,1,0,1,1,1]) kU ?_;intro t K r hr;obtain ⟨hg,hr⟩:=qQ hr
   skip
   exact (lpMd K ws 1 wl e t.1 t.2.1 t.2.2.1 t.2.2.2.1 t.2.2.2.2 (jH hg)).trans hr
 ·refine (xKX ws wl e).trans ?_;have hk:(vJJ .i64 ((ws.np:Int) + (ws.nh:Int)))=(ws.np:Int) + (ws.nh:Int):=qX (by omega);have h0:0 < (vJJ .i64 ((ws.np:Int) + (ws.nh:Int)))∧(vJJ .i64 ((ws.np:Int) + (ws.nh:Int)))≤9223372036854775807:=by rw [hk]; omega
  have hz:¬ (vJJ .i64 ((ws.np:Int) + (ws.nh:Int)))=0:=by rw [hk]; omega
  have b0:=kin hp hh wl e 0;have b1:=kin hp hh wl e (mA wl 0 1);have g0:∀ (q:Nat→Int) (k:Int),gP (0≤50∧¬ (vJJ .i64 ((ws.np:Int) + (ws.nh:Int)))=0∧hasQ q 0 (mdS ws 0 q k)=false)=true:=fun q k=>qXJ ⟨by decide,hz,rfl⟩
  rw [qUE (C:=cnx) (t:=(wl,0,e,(vJJ .i64 ((ws.np:Int) + (ws.nh:Int))))) ⟨Nat.zero_le _,hw,h0.1,h0.2⟩,yJ,g0,vYV,vYV,vYV,vJQ (show 0 + 1≤1000000 by decide),vYV];rfl
noncomputable def jQG (ws:Wsp) (wl:Nat) (e:Nat→Int):List (List Nat × yG):=[([0,0,1,0,0,1,0,0,1,0,1,1,1],sumF (fun t:Int × Int × Nat × Nat × (Nat→Int)=>(hMd ws 2 wl e t.1 t.2.1 t.2.2.1 t.2.2.2.1 t.2.2.2.2)) (fun σ=>(slI σ 7,slI σ 8,(bkC σ 10 1).toNat,rgN σ 57,unFQ (rgF σ 57))) (fun t K=>(bif (gP (t.2.2.2.1≤50∧¬ vJJ .i64 ((ws.np:Int) + (ws.nh:Int))=0∧hasQ t.2.2.2.2 t.2.2.2.1 (mdS ws t.2.2.2.1 t.2.2.2.2 t.2.1)=false)) then (K (.exit 2) ⟨[(2,.p 2 0),(4,.p 4 0),(5,.p 10 0),(6,.p 6 0),(7,.v (.n .i64 t.1)),(8,.v (.n .i64 (mdS ws t.2.2.2.1 t.2.2.2.2 t.2.1)))],[(2,.blk [.v (.lf ws.n (fJ ws.js)),.v (.lf ws.m (fM ws.ms)),.v (.lf ws.c (fS ws.sh)),.v (.lf ws.d (fK ws.sk)),.v (.lf 2 (fO ws.ob)),.v (.lf ws.np (fZ ws.pl)),.v (.lf ws.nh (fH ws.hd)),.v (.lf ws.ng (fG ws.gr)),.v (.n .i64 ws.slack)]),(4,.blk [.nl]),(6,.blk [.o 57]),(10,.blk [.v (.lf wl (fQ e)),.v (.n .i64 (t.2.2.1:Int))]),(57,.reg 3 1 (.fo t.2.2.2.1 (fQ t.2.2.2.2)))]⟩) else none)))]
set_option maxRecDepth 100000 in
theorem xKU (ws:Wsp) (wl:Nat) (e:Nat→Int):qQZ Tf (orMd ws 2 wl e) (qK (jQG ws wl e)) 60 22 [.a [.lf ws.n (fJ ws.js),.lf ws.m (fM ws.ms),.lf ws.c (fS ws.sh),.lf ws.d (fK ws.sk),.lf 2 (fO ws.ob),.lf ws.np (fZ ws.pl),.lf ws.nh (fH ws.hd),.lf ws.ng (fG ws.gr),.n .i64 ws.slack],.lf wl (fQ e)] =
 (bif (gB1 cnx hnx enx (wl,0,e,(vJJ .i64 ((ws.np:Int) + (ws.nh:Int))))) then (bif (gSt (hMd ws 2 wl e 0 (vJJ .i64 ((nxV e wl 0 (vJJ .i64 ((ws.np:Int) + (ws.nh:Int)))) - (ws.nh:Int))) (mA wl 0 1) 0 (fun _=>0)) (hMd ws 2 wl e 0 (vJJ .i64 ((nxV e wl 0 (vJJ .i64 ((ws.np:Int) + (ws.nh:Int)))) - (ws.nh:Int))) (mA wl 0 1) 0 (fun _=>0))) then (bif (gP (0≤50∧¬ vJJ .i64 ((ws.np:Int) + (ws.nh:Int))=0∧hasQ (fun _=>0) 0 (mdS ws 0 (fun _=>0) (vJJ .i64 ((nxV e wl 0 (vJJ .i64 ((ws.np:Int) + (ws.nh:Int)))) - (ws.nh:Int))))=false)) then (bif (decide (0 + 1≤1000000)) then (bif (gB1 cnx hnx enx (wl,(mA wl 0 1),e,(vJJ .i64 ((ws.np:Int) + (ws.nh:Int))))) then (bif (gSt (hMd ws 2 wl e 1 (vJJ .i64 ((nxV e wl (mA wl 0 1) (vJJ .i64 ((ws.np:Int) + (ws.nh:Int)))) - (ws.nh:Int))) (mA wl 0 2) 1 (fun v=>(bif (Nat.beq v 0) then (mdS ws 0 (fun _=>0) (vJJ .i64 ((nxV e wl 0 (vJJ .i64 ((ws.np:Int) + (ws.nh:Int)))) - (ws.nh:Int)))) else 0))) (hMd ws 2 wl e 1 (vJJ .i64 ((nxV e wl (mA wl 0 1) (vJJ .i64 ((ws.np:Int) + (ws.nh:Int)))) - (ws.nh:Int))) (mA wl 0 2) 1 (fun v=>(bif (Nat.beq v 0) then (mdS ws 0 (fun _=>0) (vJJ .i64 ((nxV e wl 0 (vJJ .i64 ((ws.np:Int) + (ws.nh:Int)))) - (ws.nh:Int)))) else 0)))) then (bif (gP (1≤50∧¬ vJJ .i64 ((ws.np:Int) + (ws.nh:Int))=0∧hasQ (fun v=>(bif (Nat.beq v 0) then (mdS ws 0 (fun _=>0) (vJJ .i64 ((nxV e wl 0 (vJJ .i64 ((ws.np:Int) + (ws.nh:Int)))) - (ws.nh:Int)))) else 0)) 1 (mdS ws 1 (fun v=>(bif (Nat.beq v 0) then (mdS ws 0 (fun _=>0) (vJJ .i64 ((nxV e wl 0 (vJJ .i64 ((ws.np:Int) + (ws.nh:Int)))) - (ws.nh:Int)))) else 0)) (vJJ .i64 ((nxV e wl (mA wl 0 1) (vJJ .i64 ((ws.np:Int) + (ws.nh:Int)))) - (ws.nh:Int))))=false)) then (bif (decide (1 + 1≤1000000)) then some (.v (.a [.lf 2 (fun v=>[.n .i64 (bif (Nat.beq v 1) then (mdS ws 1 (fun v=>(bif (Nat.beq v 0) then (mdS ws 0 (fun _=>0) (vJJ .i64 ((nxV e wl 0 (vJJ .i64 ((ws.np:Int) + (ws.nh:Int)))) - (ws.nh:Int)))) else 0)) (vJJ .i64 ((nxV e wl (mA wl 0 1) (vJJ .i64 ((ws.np:Int) + (ws.nh:Int)))) - (ws.nh:Int)))) else (bif (Nat.beq v 0) then (mdS ws 0 (fun _=>0) (vJJ .i64 ((nxV e wl 0 (vJJ .i64 ((ws.np:Int) + (ws.nh:Int)))) - (ws.nh:Int)))) else 0))])]),[])
 else none)
 else none)
 else none)
 else none)
 else none)
 else none)
 else none)
 else none):=by kernel_rfl
theorem kJJ (ws:Wsp) (wl:Nat) (e:Nat→Int) (hw:wl≤9223372036854775807) (hp:1≤ws.np∧ws.np≤50) (hh:1≤ws.nh∧ws.nh≤50):zG Tryz.prog 22 [.a [.lf ws.n (fJ ws.js),.lf ws.m (fM ws.ms),.lf ws.c (fS ws.sh),.lf ws.d (fK ws.sk),.lf 2 (fO ws.ob),.lf ws.np (fZ ws.pl),.lf ws.nh (fH ws.hd),.lf ws.ng (fG ws.gr),.n .i64 ws.slack],.lf wl (fQ e)] (.v (.a [.lf 2 (fQ (mdB ws wl e))])):=by
 refine zK (N:=60) (LO:=qK (jQG ws wl e)) jV yQ (kQ (l:=[(69,o_us)]) (m:=[(43,o_nx)]) ⟨xUH,trivial⟩ ⟨uWF,trivial⟩) (fun p S hp => ?_) ?_
 ·refine zQ (L:=qY Tf 22) (l:=(jQG ws wl e)) (show AllP _ (jQG ws wl e) from ⟨?_,trivial⟩) p S hp
  ·dsimp only;refine jK (T:=Tf) (o:=(orMd ws 2 wl e)) (f:=22) (LO:=qK []) (p:=[0,0,1,0,0,1,0,0,1,0,1,1,1]) kU ?_;intro t K r hr;obtain ⟨hg,hr⟩:=qQ hr
   skip
   exact (lpMd K ws 2 wl e t.1 t.2.1 t.2.2.1 t.2.2.2.1 t.2.2.2.2 (jH hg)).trans hr
 ·refine (xKU ws wl e).trans ?_;have hk:(vJJ .i64 ((ws.np:Int) + (ws.nh:Int)))=(ws.np:Int) + (ws.nh:Int):=qX (by omega);have h0:0 < (vJJ .i64 ((ws.np:Int) + (ws.nh:Int)))∧(vJJ .i64 ((ws.np:Int) + (ws.nh:Int)))≤9223372036854775807:=by rw [hk]; omega
  have hz:¬ (vJJ .i64 ((ws.np:Int) + (ws.nh:Int)))=0:=by rw [hk]; omega
  have b0:=kin hp hh wl e 0;have b1:=kin hp hh wl e (mA wl 0 1);have g0:∀ (q:Nat→Int) (k:Int),gP (0≤50∧¬ (vJJ .i64 ((ws.np:Int) + (ws.nh:Int)))=0∧hasQ q 0 (mdS ws 0 q k)=false)=true:=fun q k=>qXJ ⟨by decide,hz,rfl⟩
  rw [qUE (C:=cnx) (t:=(wl,0,e,(vJJ .i64 ((ws.np:Int) + (ws.nh:Int))))) ⟨Nat.zero_le _,hw,h0.1,h0.2⟩,yJ,g0,vYV,vYV,vYV,vJQ (show 0 + 1≤1000000 by decide),vYV];have h1:=uZD hp hh (q:=mdA ws wl e) b1;have g1:gP (1≤50∧¬ (vJJ .i64 ((ws.np:Int) + (ws.nh:Int)))=0∧hasQ (fun v=>(bif (Nat.beq v 0) then (mdS ws 0 (fun _=>0) (vJJ .i64 ((nxV e wl 0 (vJJ .i64 ((ws.np:Int) + (ws.nh:Int)))) - (ws.nh:Int)))) else 0)) 1 (mdS ws 1 (fun v=>(bif (Nat.beq v 0) then (mdS ws 0 (fun _=>0) (vJJ .i64 ((nxV e wl 0 (vJJ .i64 ((ws.np:Int) + (ws.nh:Int)))) - (ws.nh:Int)))) else 0)) (vJJ .i64 ((nxV e wl (mA wl 0 1) (vJJ .i64 ((ws.np:Int) + (ws.nh:Int)))) - (ws.nh:Int))))=false)=true:=qXJ ⟨by decide,hz,h1.1⟩;rw [qUE (C:=cnx) (t:=(wl,mA wl 0 1,e,(vJJ .i64 ((ws.np:Int) + (ws.nh:Int))))) ⟨qYV (Nat.zero_le _) 1,hw,h0.1,h0.2⟩,yJ,g1,vYV,vYV,vYV,vJQ (show 1 + 1≤1000000 by decide),vYV];rfl
theorem uGK {ws:Wsp} (h:MadeW ws) (wl:Nat) (e:Nat→Int) (hw:wl≤9223372036854775807):∃ q:Nat→Int,vlB ws ws.no q=true∧zG Tryz.prog 22 [.a (wP ws),.lf wl (fQ e)] (.v (.a [.lf ws.no (fQ q)])):=by
 have hp:1≤ws.np∧ws.np≤50:=by have:=h.np; omega
 have hh:1≤ws.nh∧ws.nh≤50:=by have:=h.nh; omega
 have b0:=kin hp hh wl e 0;have b1:=kin hp hh wl e (mA wl 0 1);have hok:=uGU h;have hn:=h.no;by_cases hc:ws.no=1
 ·refine ⟨mdA ws wl e,?_,?_⟩
  ·unfold vlB;rw [hok,hc];show (mdG ws (mdA ws wl e) 0 && true)=true;unfold mdG;rw [show mdA ws wl e 0=vJJ .i64 ((nxV e wl 0 (vJJ .i64 ((ws.np:Int) + (ws.nh:Int)))) - (ws.nh:Int)) from rfl,jHA b0 (by omega)];rfl
  ·have:=kJK ws wl e hw hp hh
   unfold wP;rw [hc];exact this
 ·have hc2:ws.no=2:=by omega
  refine ⟨mdB ws wl e,?_,?_⟩
  ·have h1:=uZD hp hh (q:=mdA ws wl e) b1;unfold vlB;rw [hok,hc2];show (mdG ws (mdB ws wl e) 0 && (mdG ws (mdB ws wl e) 1 && true))=true;unfold mdG;rw [show mdB ws wl e 0=vJJ .i64 ((nxV e wl 0 (vJJ .i64 ((ws.np:Int) + (ws.nh:Int)))) - (ws.nh:Int)) from rfl,jHA b0 (by omega),show mdB ws wl e 1=mdS ws 1 (mdA ws wl e) (vJJ .i64 ((nxV e wl (mA wl 0 1) (vJJ .i64 ((ws.np:Int) + (ws.nh:Int)))) - (ws.nh:Int))) from rfl,jHA h1.2 (by omega)];have h2:hasQ (mdB ws wl e) 1 (mdS ws 1 (mdA ws wl e) (vJJ .i64 ((nxV e wl (mA wl 0 1) (vJJ .i64 ((ws.np:Int) + (ws.nh:Int)))) - (ws.nh:Int))))=false:=by
    rw [zKW];have h3:=h1.1;rw [zKW] at h3;exact h3
   rw [h2];rfl
  ·have:=kJJ ws wl e hw hp hh
   unfold wP;rw [hc2];exact this
end Go.Proofs.YtmeldddgjfocdaaGreat.Hn
namespace Go.Proofs.YtmeldddgjfocdaaGreat.Ho
open Go.Rx Rt Go.Sx Go.RowKit Od Na Nb Nc Nx Nf Nl Nm Ga Gb Gc Gd Ge Gf Gg Sn Ha Hb Hc Hd He Hf Hg Hh Hi Hj Hk Hm Hn
def grQ (ws:Wsp) (k x y:Int):Nat→Int:=bif (decide (0 < (ws.ng:Int)) && decide (0 < (andI .i64 k 3))) then (fun v=>(bif (Nat.beq v 0) then (max 0 (min 64 (vJJ .i64 (((ws.gr ((k % (ws.ng:Int))).toNat).cf 0) + (vJJ .i64 ((x % 5) - 2)))))) else (max 0 (min 64 (vJJ .i64 (((ws.gr ((k % (ws.ng:Int))).toNat).cf 1) + (vJJ .i64 ((y % 5) - 2)))))))) else (fun v=>(bif (Nat.beq v 0) then (x % 65) else (y % 65)))
noncomputable def fKC (_:Wsp) (k x y:Int):OrS:=orS [(23,o_rn)] []
noncomputable def kVA (_:Wsp) (k x y:Int):List (List Nat × yG):=[]
set_option maxRecDepth 100000 in
theorem fJA (ws:Wsp) (k x y:Int):qQZ Tf (fKC ws k x y) (qK (kVA ws k x y)) 60 29 [.a (wP ws),.n .i64 k,.n .i64 x,.n .i64 y] =
 (bif (gF1 crn ern (x,65)) then (bif (gF1 crn ern (y,65)) then (bif (decide (0 < (ws.ng:Int))) then (bif (decide (0 < (andI .i64 k 3))) then (bif (gF1 crn ern (k,(ws.ng:Int))) then (bif (inB (k % (ws.ng:Int)) ws.ng) then (bif (inB 0 (ws.gr ((k % (ws.ng:Int))).toNat).na) then (bif (gF1 crn ern (x,5)) then (bif (inB 1 (ws.gr ((k % (ws.ng:Int))).toNat).na) then (bif (gF1 crn ern (y,5)) then some (.ow 2 1 (.fo 2 (fun v=>[.n .i64 (bif (Nat.beq v 0) then (max 0 (min 64 (vJJ .i64 (((ws.gr ((k % (ws.ng:Int))).toNat).cf 0) + (vJJ .i64 ((x % 5) - 2)))))) else (max 0 (min 64 (vJJ .i64 (((ws.gr ((k % (ws.ng:Int))).toNat).cf 1) + (vJJ .i64 ((y % 5) - 2)))))))])),[])
 else none)
 else none)
 else none)
 else none)
 else none)
 else none)
 else some (.ow 2 1 (.fo 2 (fun v=>[.n .i64 (bif (Nat.beq v 0) then (x % 65) else (y % 65))])),[]))
 else some (.ow 2 1 (.fo 2 (fun v=>[.n .i64 (bif (Nat.beq v 0) then (x % 65) else (y % 65))])),[]))
 else none)
 else none):=by kernel_rfl
theorem uUZ (ws:Wsp) (k x y:Int) (hg:∀ i,i < ws.ng→(ws.gr i).na=2) (_:ws.ng≤9223372036854775807):zG Tryz.prog 29 [.a (wP ws),.n .i64 k,.n .i64 x,.n .i64 y] (.ow 2 1 (.fo 2 (fQ (grQ ws k x y)))):=by
 refine zK (N:=60) (LO:=qK (kVA ws k x y)) jV yQ (kQ (l:=[(23,o_rn)]) (m:=[]) ⟨Sn.ok_rn,trivial⟩ trivial) (fun p S hp => ?_) ?_
 ·refine zQ (L:=qY Tf 29) (l:=(kVA ws k x y)) (show AllP _ (kVA ws k x y) from trivial) p S hp
 ·refine (fJA ws k x y).trans ?_;unfold grQ;rw [jX (C:=crn) (t:=(x,65)) ⟨by decide,by decide⟩,jX (C:=crn) (t:=(y,65)) ⟨by decide,by decide⟩,vYV,vYV];by_cases h:0 < (ws.ng:Int)
  ·rw [vJQ h];cases hk:decide (0 < (andI .i64 k 3)) with
   | false=>rfl
   | true =>
    have h1:=Int.emod_nonneg k (show (ws.ng:Int) ≠ 0 by omega);have h2:=Int.emod_lt_of_pos k h;have h3:=hg (k % (ws.ng:Int)).toNat (by omega);have h4:inB (k % (ws.ng:Int)) ws.ng=true:=by
     have e:k % (ws.ng:Int)=(((k % (ws.ng:Int)).toNat:Nat):Int):=by omega
     rw [e]; exact yU (by omega)
    rw [jX (C:=crn) (t:=(k,(ws.ng:Int))) ⟨h,by omega⟩,h4,h3,jX (C:=crn) (t:=(x,5)) ⟨by decide,by decide⟩,jX (C:=crn) (t:=(y,5)) ⟨by decide,by decide⟩];rfl
  ·rw [vYH h];rfl
theorem xGQ {ws:Wsp} (h:MadeW ws) (k x y:Int):zG Tryz.prog 29 [.a (wP ws),.n .i64 k,.n .i64 x,.n .i64 y] (.v (.lf 2 (fQ (grQ ws k x y)))) :=
 qXB (uUZ ws k x y (fun i hi=>(h.gr i hi).2.2.1) (by have:=h.ng; omega))
theorem uZQ (x k H R:Int) (h:(0 < k∧k≤9223372036854775807)∧(k=9→x % 9=H)∧(k=3→x % 3=R)):zG Tryz.prog 23 [.n .i64 x,.n .i64 k] (.v (.n .i64 (bif decide (k=9) then H else bif decide (k=3) then R else x % k))):=by
 have e:(bif decide (k=9) then H else bif decide (k=3) then R else x % k)=x % k:=by
  by_cases h9:k=9
  ·rw [vJQ h9,vYV,h9]; exact (h.2.1 h9).symm
  ·rw [vYH h9,vYG];by_cases h3:k=3
   ·rw [vJQ h3,vYV,h3]; exact (h.2.2 h3).symm
   ·rw [vYH h3,vYG]
 rw [e]; exact jUC x k h.1
end Go.Proofs.YtmeldddgjfocdaaGreat.Ho
namespace Go.Proofs.YtmeldddgjfocdaaGreat.Hv
open Go.Rx Rt Go.Sx Go.RowKit Od Na Nb Nc Nx Nf Nl Nm Ga Gb Gc Gd Ge Gf Gg Ha Hb Hc Hd He Hf Hg
theorem qGE {q:Nat→Int} {k:Nat} {x:Int} (h:hasQ q k x=false) {i:Nat} (hi:i < k):q i ≠ x:=fun e=>by
 rw [hasQ_iff.2 ⟨i,hi,e⟩] at h; cases h
theorem zXE {q:Nat→Int} {k:Nat} {x:Int} (h:∀ i,i < k→q i ≠ x):hasQ q k x=false:=by
 cases hc:hasQ q k x with
 | false=>rfl
 | true=>obtain ⟨i,hi,e⟩:=hasQ_iff.1 hc; exact absurd e (h i hi)
theorem jUQ {ws:Wsp} {k:Nat} {q:Nat→Int} (h:vlB ws k q=true):wErr ws=0∧(k:Int)=(ws.no:Int)∧∀ i,i < k→inM ws (q i)=true∧hasQ q i (q i)=false:=by
 unfold vlB at h;simp only [vQJ,decide_eq_true_eq] at h;refine ⟨h.1,h.2.1,fun i hi => ?_⟩
 have:=allN_iff.1 h.2.2 i (Nat.zero_le _) (by omega)
 unfold mdG at this
 simpa using this
theorem xZB {ws:Wsp} {k:Nat} {q:Nat→Int} (h1:wErr ws=0) (h2:(k:Int)=(ws.no:Int)) (h3:∀ i,i < k→inM ws (q i)=true∧hasQ q i (q i)=false):vlB ws k q=true:=by
 unfold vlB;rw [vJQ h1,vJQ h2,vZH,vZH];refine allN_iff.2 fun i _ hi => ?_
 have:=h3 i (by omega)
 unfold mdG;rw [this.1,this.2]; rfl
theorem jKL {ws:Wsp} {k:Nat} {q:Nat→Int} (h:vlB ws k q=true) {i j:Nat} (hi:i < k) (hj:j < k) (e:q i=q j):i=j:=by
 have a:=(jUQ h).2.2;rcases Nat.lt_trichotomy i j with h | h | h
 ·exact absurd e (qGE (a j hj).2 h)
 ·exact h
 ·exact absurd e.symm (qGE (a i hi).2 h)
theorem jGG {q:Nat→Int} {k:Nat} {x y:Int} (h:hasQ q k x=true):∃ i,i < k∧q i=x∧∀ v,mvQ q k x y v=if v=i then y else q v:=by
 obtain ⟨i,h1,h2,h3⟩:=qUJ h;refine ⟨i,h1,h3,fun v => ?_⟩;unfold mvQ;rw [h2];show (bif Nat.beq v i then y else q v)=_;by_cases e:v=i
 ·rw [if_pos e,show Nat.beq v i=true from by rw [Nat.beq_eq]; exact e]; rfl
 ·rw [if_neg e,show Nat.beq v i=false from by rw [Bool.eq_false_iff,ne_eq,Nat.beq_eq]; exact e]; rfl
theorem xVJ {ws:Wsp} {k:Nat} {q:Nat→Int} {x y:Int} (hv:vlB ws k q=true) (hc:mvC q k x y=true) (hy:inM ws y=true) :
  vlB ws k (mvQ q k x y)=true∧mvC (mvQ q k x y) k y x=true∧(∀ v,v < k→mvQ (mvQ q k x y) k y x v=q v)∧∃ v,v < k∧mvQ q k x y v ≠ q v:=by
 unfold mvC at hc;rw [vQJ,Bool.not_eq_true'] at hc;obtain ⟨c1,c2⟩:=hc;obtain ⟨i,hi,hx,hm⟩:=jGG (y:=y) c1;have hxy:x ≠ y:=fun e=>qGE c2 hi (hx.trans e)
 obtain ⟨a1,a2,a3⟩:=jUQ hv;have hiy:mvQ q k x y i=y:=by rw [hm,if_pos rfl]
 have d1:hasQ (mvQ q k x y) k y=true:=hasQ_iff.2 ⟨i,hi,hiy⟩;have d2:hasQ (mvQ q k x y) k x=false:=zXE fun j hj e=>by
  rw [hm] at e;by_cases hji:j=i
  ·rw [if_pos hji] at e; exact hxy e.symm
  ·rw [if_neg hji] at e; exact hji (jKL hv hj hi (e.trans hx.symm))
 refine ⟨xZB a1 a2 fun j hj=>⟨?_,zXE fun l hl e => ?_⟩,?_,fun v hv' => ?_,⟨i,hi,?_⟩⟩
 ·rw [hm];by_cases hji:j=i
  ·rw [if_pos hji]; exact hy
  ·rw [if_neg hji]; exact (a3 j hj).1
 ·rw [hm,hm] at e;by_cases hli:l=i
  ·rw [if_pos hli] at e;by_cases hji:j=i
   ·omega
   ·rw [if_neg hji] at e; exact qGE c2 hj e.symm
  ·rw [if_neg hli] at e;by_cases hji:j=i
   ·rw [if_pos hji] at e; exact qGE c2 (by omega) e
   ·rw [if_neg hji] at e
    have:=jKL hv (by omega) hj e
    omega
 ·unfold mvC;rw [d1,d2]; rfl
 ·obtain ⟨i2,hi2,hx2,hm2⟩:=jGG (y:=x) d1;have e2:i2=i:=by
   rw [hm] at hx2;by_cases hc:i2=i
   ·exact hc
   ·rw [if_neg hc] at hx2; exact absurd hx2 (qGE c2 hi2)
  rw [hm2,e2];by_cases hvi:v=i
  ·rw [if_pos hvi,hvi,hx]
  ·rw [if_neg hvi,hm,if_neg hvi]
 ·rw [hiy]; exact fun e=>hxy (hx.symm.trans e.symm)
theorem zGK {q q':Nat→Int} {k:Nat} {x:Int} (h:∀ v,v < k→q v=q' v):hasQ q k x=hasQ q' k x:=by
 cases hc:hasQ q' k x with
 | false=>exact zXE fun i hi e=>qGE hc hi (by rw [← h i hi]; exact e)
 | true=>obtain ⟨i,hi,e⟩:=hasQ_iff.1 hc; exact hasQ_iff.2 ⟨i,hi,(h i hi).trans e⟩
theorem kZL {ws:Wsp} {q q':Nat→Int} {k:Nat} (h:∀ v,v < k→q v=q' v) (hv:vlB ws k q'=true):vlB ws k q=true:=by
 obtain ⟨a1,a2,a3⟩:=jUQ hv;refine xZB a1 a2 fun i hi => ?_
 rw [h i hi,zGK (q':=q') fun v hv=>h v (by omega)];exact a3 i hi
theorem fWG {ws:Wsp} {a b:Int} {k:Nat} {q:Nat→Int} (h:atB ws a b k q=true):wErr ws=0∧(0≤a∧a < (ws.nh:Int))∧0≤b∧b < (ws.np:Int):=by
 unfold atB knB at h;simp only [vQJ,decide_eq_true_eq] at h;obtain ⟨h1,⟨h2,h3,h4,h5⟩,_⟩:=h;exact ⟨h1,⟨h2,h3⟩,h4,h5⟩
theorem uXX {ws:Wsp} {k:Nat} {q:Nat→Int} {k2:Nat} {q2:Nat→Int} {a b:Int} (_:ws.nh≤50) (_:ws.np≤50) (h:tkC ws k q k2 q2 a b b (vJJ .i64 ((-1) - a))=true) :
  tkC ws k (mvQ q k b (vJJ .i64 ((-1) - a))) k2 q2 a b (vJJ .i64 ((-1) - a)) b=true∧(∀ p,tkC ws k (mvQ q k b (vJJ .i64 ((-1) - a))) k2 q2 a p p (vJJ .i64 ((-1) - a))=false) ∧
  tkC ws k (mvQ (mvQ q k b (vJJ .i64 ((-1) - a))) k (vJJ .i64 ((-1) - a)) b) k2 q2 a b (vJJ .i64 ((-1) - a)) b=false∧vlB ws k (mvQ q k b (vJJ .i64 ((-1) - a)))=true ∧
  vlB ws k (mvQ (mvQ q k b (vJJ .i64 ((-1) - a))) k (vJJ .i64 ((-1) - a)) b)=true∧(∀ v,v < k→mvQ (mvQ q k b (vJJ .i64 ((-1) - a))) k (vJJ .i64 ((-1) - a)) b v=q v)∧∃ v,v < k∧mvQ q k b (vJJ .i64 ((-1) - a)) v ≠ q v:=by
 unfold tkC at h;rw [vQJ,vQJ] at h;obtain ⟨hv,hat,hc⟩:=h;obtain ⟨_,ha,hb⟩:=fWG hat;have e:vJJ .i64 ((-1) - a) = -1 - a:=qX (by omega);have hy:inM ws (vJJ .i64 ((-1) - a))=true:=by
  unfold inM;have e0:vJJ .i64 (0 - (ws.nh:Int)) = -(ws.nh:Int):=by rw [qX (by omega)]; omega
  rw [e0,e,vYH (show ¬ -1 - a < -(ws.nh:Int) by omega),vYH (show ¬ (ws.np:Int) ≤ -1 - a by omega)]; rfl
 obtain ⟨m1,m2,m3,m4⟩:=xVJ hv hc hy;have c:=hc;unfold mvC at c;rw [vQJ,Bool.not_eq_true'] at c;have c2:=m2;unfold mvC at c2;rw [vQJ,Bool.not_eq_true'] at c2;refine ⟨?_,fun p => ?_,?_,m1,kZL m3 hv,m3,m4⟩
 ·unfold tkC;rw [m1,hat,m2]; rfl
 ·unfold tkC mvC;rw [c2.1,Bool.not_true,Bool.and_false,Bool.and_false,Bool.and_false]
 ·unfold tkC mvC;rw [zGK m3,c.2,Bool.false_and,Bool.and_false,Bool.and_false]
end Go.Proofs.YtmeldddgjfocdaaGreat.Hv
namespace Go.Proofs.YtmeldddgjfocdaaGreat.Hw
open Go.Rx Rt Go.Sx Go.RowKit Od Na Nb Nc Nx Nf Nl Nm Ga Gb Gc Gd Ge Gf Gg Sn Ha Hb Hc Hd He Hf Hg Hh Hi Hj Hk Hm
theorem uWQ {f:Nat→Shp} {n v:Nat} {x:Shp} (_:v < n):qGZ f n x v=f v:=by
 unfold qGZ;rw [show Nat.beq v n=false from by rw [Bool.eq_false_iff,ne_eq,Nat.beq_eq]; omega]; rfl
theorem uYU {ws:Wsp} (h:MadeW ws) {k:Nat} {q:Nat→Int} (hv:vlB ws k q=true):sErr ws.js ws.ms (scR ws q).2 ws.sk ws.n ws.m (scR ws q).1 ws.d=0:=by
 obtain ⟨_,h2,h3⟩:=kKW (qWW h) hv;rw [h.js,h.ms,h.n,h.m,h.d];rw [h.n] at h3;exact jXK yXK (by omega) h3
theorem xHY {ws:Wsp} (h:MadeW ws) {k:Nat} {q:Nat→Int} (hv:vlB ws k q=true):(scR ws q).1=ws.c + ws.no:=by
 obtain ⟨h1,_,_⟩:=kKW (qWW h) hv;rw [h1]
 have:∀ n,n≤ws.no→sumN (fun j=>(ws.ob j).ns) n=n:=fun n=>by
  induction n with
  | zero=>intro _; rfl
  | succ n ih =>
   intro hn;show sumN (fun j=>(ws.ob j).ns) n + (ws.ob n).ns=n + 1;rw [ih (by omega),(h.ob n (by omega)).2.1]
 rw [this ws.no (Nat.le_refl _)]
end Go.Proofs.YtmeldddgjfocdaaGreat.Hw
namespace Go.Sx
theorem xZI {x y:Int} (h0:0≤x) (h:x≤y):x * x≤y * y:=Int.mul_le_mul h h h0 (by omega)
theorem zKI (x:Int):0≤x * x:=by
 rcases Int.le_total 0 x with h | h
 ·exact Int.mul_nonneg h h
 ·have:=Int.mul_nonneg (a:=-x) (b:=-x) (by omega) (by omega)
  rwa [Int.neg_mul_neg] at this
end Go.Sx
namespace Go.Sx
structure R3 where
 x:Int
 y:Int
 z:Int
structure RM where
 x:R3
 y:R3
 z:R3
def R3.dot (a b:R3):Int:=a.x * b.x + a.y * b.y + a.z * b.z
def RM.tr (m:RM):RM:=⟨⟨m.x.x,m.y.x,m.z.x⟩,⟨m.x.y,m.y.y,m.z.y⟩,⟨m.x.z,m.y.z,m.z.z⟩⟩
def RM.app (m:RM) (v:R3):R3:=⟨R3.dot m.x v,R3.dot m.y v,R3.dot m.z v⟩
def RM.mul (a b:RM):RM:=⟨b.tr.app a.x,b.tr.app a.y,b.tr.app a.z⟩
structure VIn (v:V3) (m:Int) (r:R3):Prop where
 x:In v.x m r.x
 y:In v.y m r.y
 z:In v.z m r.z
structure MIn (v:M3) (m:Int) (r:RM):Prop where
 x:VIn v.x m r.x
 y:VIn v.y m r.y
 z:VIn v.z m r.z
structure VOk (v:V3):Prop where
 x:Ok v.x
 y:Ok v.y
 z:Ok v.z
structure MOk (v:M3):Prop where
 x:VOk v.x
 y:VOk v.y
 z:VOk v.z
structure RB (B:Int) (r:R3):Prop where
 x : -B≤r.x∧r.x≤B
 y : -B≤r.y∧r.y≤B
 z : -B≤r.z∧r.z≤B
structure RMB (B:Int) (r:RM):Prop where
 x:RB B r.x
 y:RB B r.y
 z:RB B r.z
theorem MIn.tr {v:M3} {m:Int} {r:RM} (h:MIn v m r):MIn v.tr m r.tr:=⟨⟨h.x.x,h.y.x,h.z.x⟩,⟨h.x.y,h.y.y,h.z.y⟩,⟨h.x.z,h.y.z,h.z.z⟩⟩
theorem MOk.tr {v:M3} (h:MOk v):MOk v.tr:=⟨⟨h.x.x,h.y.x,h.z.x⟩,⟨h.x.y,h.y.y,h.z.y⟩,⟨h.x.z,h.y.z,h.z.z⟩⟩
theorem RMB.tr {B:Int} {v:RM} (h:RMB B v):RMB B v.tr:=⟨⟨h.x.x,h.y.x,h.z.x⟩,⟨h.x.y,h.y.y,h.z.y⟩,⟨h.x.z,h.y.z,h.z.z⟩⟩
theorem kQG {a b:V3} {m k B C:Int} {x y:R3} (va:VOk a) (vb:VOk b) (hm:0≤m) (hk:0≤k) (hx:VIn a m x) (hy:VIn b k y) (bx:RB (B * m) x) (by':RB (C * k) y) (hB:3 * (B * C)≤140737488355328) :
  In (V3.dot a b) (65536 * (m * k)) (R3.dot x y):=by
 have hmk:0≤m * k:=Int.mul_nonneg hm hk;have p1:=zYC bx.x by'.x;have p2:=zYC bx.y by'.y;have p3:=zYC bx.z by'.z;have e:B * m * (C * k)=B * C * (m * k):=by grind
 rw [e] at p1 p2 p3;have h3:3 * (B * C) * (m * k)≤140737488355328 * (m * k):=Int.mul_le_mul_of_nonneg_right hB hmk;rw [Int.mul_assoc] at h3;have pos:0≤B * C * (m * k):=by omega
 unfold V3.dot R3.dot;have i1:=jGH va.x vb.x hm hk hx.x hy.x (by omega) (by omega);have i2:=jGH va.y vb.y hm hk hx.y hy.y (by omega) (by omega);have i3:=jGH va.z vb.z hm hk hx.z hy.z (by omega) (by omega);have i4:=yUU (zVI _ _) (zVI _ _) (by omega) i1 i2 (by omega) (by omega);exact yUU (xHD _ _) (zVI _ _) (by omega) i4 i3 (by omega) (by omega)
theorem xHB {a:M3} {v:V3} {m k B C:Int} {x:RM} {y:R3} (va:MOk a) (vb:VOk v) (hm:0≤m) (hk:0≤k) (hx:MIn a m x) (hy:VIn v k y) (bx:RMB (B * m) x) (by':RB (C * k) y) (hB:3 * (B * C)≤140737488355328) :
  VIn (M3.apply a v) (65536 * (m * k)) (RM.app x y) :=
 ⟨kQG va.x vb hm hk hx.x hy bx.x by' hB,kQG va.y vb hm hk hx.y hy bx.y by' hB,kQG va.z vb hm hk hx.z hy bx.z by' hB⟩
theorem jGV {a:Iv} {m x:Int} (v:Ok a) (h:In a m x):In (Iv.neg a) m (-x):=by
 have q1:=h.lo;have q2:=h.hi;rw [jGX v]
 constructor <;> simp only [Int.neg_mul] <;> omega
theorem jGW {a:Iv} (v:Ok a):Ok (Iv.neg a):=by rw [jGX v]; unfold Ok at *; simp only; omega
theorem xUW:Ok iv1:=by unfold Ok; decide
theorem qWF:Ok iv0:=by unfold Ok; decide
end Go.Sx
namespace Go.Sx
theorem fXY {n:Int} (_: -2147483648≤n∧n≤2147483648):Iv.of n=⟨n,n⟩:=by
 unfold Iv.of; rw [qZE (by omega)]
structure VNear (a b:R3):Prop where
 x : -((1099511627776:Int) * (340282366920938463463374607431768211456:Int))≤a.x - (340282366920938463463374607431768211456:Int) * b.x∧a.x - (340282366920938463463374607431768211456:Int) * b.x≤(1099511627776:Int) * (340282366920938463463374607431768211456:Int)
 y : -((1099511627776:Int) * (340282366920938463463374607431768211456:Int))≤a.y - (340282366920938463463374607431768211456:Int) * b.y∧a.y - (340282366920938463463374607431768211456:Int) * b.y≤(1099511627776:Int) * (340282366920938463463374607431768211456:Int)
 z : -((1099511627776:Int) * (340282366920938463463374607431768211456:Int))≤a.z - (340282366920938463463374607431768211456:Int) * b.z∧a.z - (340282366920938463463374607431768211456:Int) * b.z≤(1099511627776:Int) * (340282366920938463463374607431768211456:Int)
structure MNear (a b:RM):Prop where
 x:VNear a.x b.x
 y:VNear a.y b.y
 z:VNear a.z b.z
structure VMeet (a b:V3):Prop where
 x:Iv.meetB a.x b.x=true
 y:Iv.meetB a.y b.y=true
 z:Iv.meetB a.z b.z=true
structure MMeet (a b:M3):Prop where
 x:VMeet a.x b.x
 y:VMeet a.y b.y
 z:VMeet a.z b.z
end Go.Sx
namespace Go.Sx
theorem kGF {k b:Int} (hb:0 < b):zW (b * k) b=k:=by
 have h:=zWX (a:=b * k) (b:=b) hb (by rw [Int.mul_ediv_cancel_left _ (by omega)]; exact Int.mul_comm _ _);rw [← h,Int.mul_ediv_cancel_left _ (by omega)]
theorem jYY {a c:Int} (_: -2147483648≤a∧a≤2147483648) (_: -2147483648≤c∧c≤2147483648) (_: -2147483648≤a + c∧a + c≤2147483648):Iv.add ⟨a,a⟩ ⟨c,c⟩=⟨a + c,a + c⟩:=by
 have v1:Iv.valid ⟨a,a⟩=true:=qZX (by simp only; omega);have v2:Iv.valid ⟨c,c⟩=true:=qZX (by simp only; omega);simp only [Iv.add,v1,v2,vZJ,vYV];rw [qZE (by omega)]
end Go.Sx
namespace Go.Sx
structure Dg (P E:Int) (B:RM):Prop where
 x:0≤P - R3.dot B.x B.x∧P - R3.dot B.x B.x≤E
 y:0≤P - R3.dot B.y B.y∧P - R3.dot B.y B.y≤E
 z:0≤P - R3.dot B.z B.z∧P - R3.dot B.z B.z≤E
 xy:R3.dot B.x B.y=0
 xz:R3.dot B.x B.z=0
 yz:R3.dot B.y B.z=0
end Go.Sx
namespace Go.Sx
theorem zWG {x M:Int} (_:0≤M) (_:x * x≤M * M) : -M≤x∧x≤M:=by
 constructor
 ·rcases Int.lt_or_le x (-M) with g | g
  ·have:=xZI (x:=M + 1) (y:=-x) (by omega) (by omega)
   rw [Int.neg_mul_neg] at this;have e:(M + 1) * (M + 1)=M * M + 2 * M + 1:=by grind
   omega
  ·exact g
 ·rcases Int.lt_or_le M x with g | g
  ·have:=xZI (x:=M + 1) (y:=x) (by omega) (by omega)
   have e:(M + 1) * (M + 1)=M * M + 2 * M + 1:=by grind
   omega
  ·exact g
theorem zUC {r:R3} {M:Int} (hM:0≤M) (h:R3.dot r r≤M * M):RB M r:=by
 have s1:=zKI r.x;have s2:=zKI r.y;have s3:=zKI r.z;unfold R3.dot at h;exact ⟨zWG hM (by omega),zWG hM (by omega),zWG hM (by omega)⟩
structure Orth (Q T:Int) (X:RM):Prop where
 x:Q - T≤R3.dot X.x X.x∧R3.dot X.x X.x≤Q
 y:Q - T≤R3.dot X.y X.y∧R3.dot X.y X.y≤Q
 z:Q - T≤R3.dot X.z X.z∧R3.dot X.z X.z≤Q
 xy : -T≤R3.dot X.x X.y∧R3.dot X.x X.y≤T
 xz : -T≤R3.dot X.x X.z∧R3.dot X.x X.z≤T
 yz : -T≤R3.dot X.y X.z∧R3.dot X.y X.z≤T
theorem Orth.rmb {X:RM} {M T:Int} (o:Orth (M * M) T X) (hM:0≤M):RMB M X:=⟨zUC hM o.x.2,zUC hM o.y.2,zUC hM o.z.2⟩
end Go.Sx
namespace Go.Sx
structure Sub (a b:Iv):Prop where
 ok:Ok a
 ok':Ok b
 lo:b.lo≤a.lo
 hi:a.hi≤b.hi
theorem Sub.refl {a:Iv} (h:Ok a):Sub a a:=⟨h,h,Int.le_refl _,Int.le_refl _⟩
theorem Sub.trans {a b c:Iv} (h:Sub a b) (k:Sub b c):Sub a c:=⟨h.ok,k.ok',by have:=h.lo; have:=k.lo; omega,by have:=h.hi; have:=k.hi; omega⟩
theorem in1 {a b:Iv} (h:Sub a b) {x:Int} (_:a.lo≤x) (_:x≤a.hi):In b 1 x:=⟨by have:=h.lo; omega,by have:=h.hi; omega⟩
theorem sub_mul {a a' b b':Iv} (h:Sub a a') (k:Sub b b'):Sub (Iv.mul a b) (Iv.mul a' b'):=by
 refine ⟨zVI _ _,zVI _ _,?_,?_⟩
 all_goals
  have va:=h.ok;have vb:=k.ok;have p1:=qHI (by decide) (by decide) (in1 h (x:=a.lo) (Int.le_refl _) va.2.1) (in1 k (x:=b.lo) (Int.le_refl _) vb.2.1);have p2:=qHI (by decide) (by decide) (in1 h (x:=a.lo) (Int.le_refl _) va.2.1) (in1 k (x:=b.hi) vb.2.1 (Int.le_refl _));have p3:=qHI (by decide) (by decide) (in1 h (x:=a.hi) va.2.1 (Int.le_refl _)) (in1 k (x:=b.lo) (Int.le_refl _) vb.2.1);have p4:=qHI (by decide) (by decide) (in1 h (x:=a.hi) va.2.1 (Int.le_refl _)) (in1 k (x:=b.hi) vb.2.1 (Int.le_refl _));simp only [Iv.mul,qZX h.ok,qZX h.ok',qZX k.ok,qZX k.ok',vZJ,vYV];simp only [Int.mul_one] at p1 p2 p3 p4;refine zYB ?_
 ·have:min4 (a'.lo * b'.lo) (a'.lo * b'.hi) (a'.hi * b'.lo) (a'.hi * b'.hi)≤min4 (a.lo * b.lo) (a.lo * b.hi) (a.hi * b.lo) (a.hi * b.hi):=by
   generalize min4 (a'.lo * b'.lo) (a'.lo * b'.hi) (a'.hi * b'.lo) (a'.hi * b'.hi)=m at *;unfold min4; omega
  omega
 ·have:max4 (a.lo * b.lo) (a.lo * b.hi) (a.hi * b.lo) (a.hi * b.hi)≤max4 (a'.lo * b'.lo) (a'.lo * b'.hi) (a'.hi * b'.lo) (a'.hi * b'.hi):=by
   generalize max4 (a'.lo * b'.lo) (a'.lo * b'.hi) (a'.hi * b'.lo) (a'.hi * b'.hi)=m at *;unfold max4; omega
  unfold zW;omega
structure VSub (a b:V3):Prop where
 x:Sub a.x b.x
 y:Sub a.y b.y
 z:Sub a.z b.z
structure MSub (a b:M3):Prop where
 x:VSub a.x b.x
 y:VSub a.y b.y
 z:VSub a.z b.z
theorem VSub.refl {a:V3} (h:VOk a):VSub a a:=⟨.refl h.x,.refl h.y,.refl h.z⟩
theorem MSub.refl {a:M3} (h:MOk a):MSub a a:=⟨.refl h.x,.refl h.y,.refl h.z⟩
theorem MSub.tr {a b:M3} (h:MSub a b):MSub a.tr b.tr:=⟨⟨h.x.x,h.y.x,h.z.x⟩,⟨h.x.y,h.y.y,h.z.y⟩,⟨h.x.z,h.y.z,h.z.z⟩⟩
end Go.Sx
namespace Go.Sx
def R3.add (a b:R3):R3:=⟨a.x + b.x,a.y + b.y,a.z + b.z⟩
def R3.neg (a:R3):R3:=⟨-a.x,-a.y,-a.z⟩
def Z3.r (z:Z3):R3:=⟨z.x,z.y,z.z⟩
theorem VIn.neg {v:V3} {m:Int} {x:R3} (o:VOk v) (h:VIn v m x):VIn (V3.neg v) m x.neg:=⟨jGV o.x h.x,jGV o.y h.y,jGV o.z h.z⟩
theorem VOk.neg {v:V3} (o:VOk v):VOk (V3.neg v):=⟨jGW o.x,jGW o.y,jGW o.z⟩
theorem VIn.add {a b:V3} {m B:Int} {x y:R3} (va:VOk a) (vb:VOk b) (hm:0≤m) (hx:VIn a m x) (hy:VIn b m y) (h:RB (B * m) (x.add y)) (hB:B≤2147483648):VIn (V3.add a b) m (x.add y):=by
 have hb:=Int.mul_le_mul_of_nonneg_right hB hm;have h1:=h.x;have h2:=h.y;have h3:=h.z;simp only [R3.add] at h1 h2 h3;exact ⟨yUU va.x vb.x hm hx.x hy.x (by omega) (by omega),yUU va.y vb.y hm hx.y hy.y (by omega) (by omega),yUU va.z vb.z hm hx.z hy.z (by omega) (by omega)⟩
theorem RB.add {a b:R3} {B C Z m:Int} (h:RB (B * m) a) (k:RB (C * m) b) (hD:B + C=Z):RB (Z * m) (a.add b):=by
 subst hD;rw [Int.add_mul];have h1:=h.x; have h2:=h.y; have h3:=h.z; have k1:=k.x; have k2:=k.y; have k3:=k.z;exact ⟨by simp only [R3.add]; omega,by simp only [R3.add]; omega,by simp only [R3.add]; omega⟩
theorem RB.neg {a:R3} {B:Int} (h:RB B a):RB B a.neg:=by
 have h1:=h.x; have h2:=h.y; have h3:=h.z;exact ⟨by simp only [R3.neg]; omega,by simp only [R3.neg]; omega,by simp only [R3.neg]; omega⟩
structure Rot (r:M3) (s T:Int) (X:RM):Prop where
 pos:0 < s
 ok:MOk r
 isin:MIn r s X
 o:Orth ((65536 * s) * (65536 * s)) T X
 o':Orth ((65536 * s) * (65536 * s)) T X.tr
 c:∀ a,R3.dot (X.tr.app a) (X.tr.app a)≤(65536 * s) * (65536 * s) * R3.dot a a
 c':∀ a,R3.dot (X.app a) (X.app a)≤(65536 * s) * (65536 * s) * R3.dot a a
 t0:0≤T
 small:T * 1152921504606846976≤(65536 * s) * (65536 * s)
theorem Rot.tr {r:M3} {s T:Int} {X:RM} (h:Rot r s T X):Rot r.tr s T X.tr:=⟨h.pos,h.ok.tr,h.isin.tr,h.o',h.o,h.c',h.c,h.t0,h.small⟩
theorem Rot.rmb {r:M3} {s T:Int} {X:RM} (h:Rot r s T X):RMB (65536 * s) X:=h.o.rmb (by have:=h.pos; omega)
theorem uXK {B C m k:Int} {x y:R3} (hx:RB (B * m) x) (hy:RB (C * k) y) : -(3 * (B * C) * (m * k))≤R3.dot x y∧R3.dot x y≤3 * (B * C) * (m * k):=by
 have p1:=zYC hx.x hy.x;have p2:=zYC hx.y hy.y;have p3:=zYC hx.z hy.z;have e:3 * (B * C) * (m * k)=B * m * (C * k) + B * m * (C * k) + B * m * (C * k):=by grind
 rw [e];unfold R3.dot;omega
theorem Rot.app {r:M3} {s T:Int} {X:RM} (h:Rot r s T X) {v:V3} {k C:Int} {y:R3} (vo:VOk v) (hk:0≤k) (vi:VIn v k y) (vb:RB (C * k) y) (hC:3 * (65536 * C)≤140737488355328) :
  VIn (M3.apply r v) ((65536 * s) * k) (X.app y)∧RB ((3 * C) * ((65536 * s) * k)) (X.app y):=by
 have hs:=h.pos;have rb:=h.rmb;refine ⟨?_,?_⟩
 ·have:=xHB h.ok vo (by omega) hk h.isin vi rb vb hC
  rwa [← Int.mul_assoc] at this
 ·have d:∀ {u:R3},RB (65536 * s) u → -(3 * C * (65536 * s * k))≤R3.dot u y∧R3.dot u y≤3 * C * (65536 * s * k):=fun hu=>by
   have:=uXK hu vb
   have e:3 * (65536 * C) * (s * k)=3 * C * (65536 * s * k):=by grind
   rwa [e] at this
  exact ⟨d rb.x,d rb.y,d rb.z⟩
structure Nearly (S T:Int) (u:R3) (v:Z3):Prop where
 x:v.x * S - T≤u.x∧u.x≤v.x * S + T
 y:v.y * S - T≤u.y∧u.y≤v.y * S + T
 z:v.z * S - T≤u.z∧u.z≤v.z * S + T
structure Lm (a:Iv):Prop where
 ok:Ok a
 lo : -65536≤a.lo
 hi:a.hi≤65536
structure VLm (v:V3):Prop where
 x:Lm v.x
 y:Lm v.y
 z:Lm v.z
structure MLm (v:M3):Prop where
 x:VLm v.x
 y:VLm v.y
 z:VLm v.z
theorem MLm.ok {m:M3} (h:MLm m):MOk m:=⟨⟨h.x.x.ok,h.x.y.ok,h.x.z.ok⟩,⟨h.y.x.ok,h.y.y.ok,h.y.z.ok⟩,⟨h.z.x.ok,h.z.y.ok,h.z.z.ok⟩⟩
theorem jWA:Lm iv1:=⟨xUW,by decide,by decide⟩
theorem zQI:Lm iv0:=⟨qWF,by decide,by decide⟩
theorem kYY:MLm M3.unit:=⟨⟨jWA,zQI,zQI⟩,⟨zQI,jWA,zQI⟩,⟨zQI,zQI,jWA⟩⟩
theorem qYJ {a:Iv} (h:Ok a):Iv.mul a iv1=a∧Iv.mul iv1 a=a:=by
 have v:=qZX h;have v1:Iv.valid ⟨65536,65536⟩=true:=by decide
 unfold Ok at h;have c1:=kGF (k:=a.hi) (b:=65536) (by decide);constructor
 ·simp only [Iv.mul,v,v1,vZJ,vYV,iv1];rw [show min4 (a.lo * 65536) (a.lo * 65536) (a.hi * 65536) (a.hi * 65536)=a.lo * 65536 by unfold min4; omega,show max4 (a.lo * 65536) (a.lo * 65536) (a.hi * 65536) (a.hi * 65536)=65536 * a.hi by unfold max4; omega,c1,Int.mul_ediv_cancel _ (by decide),qZE (by omega),qZE (by omega)]
 ·simp only [Iv.mul,v,v1,vZJ,vYV,iv1];rw [show min4 (65536 * a.lo) (65536 * a.hi) (65536 * a.lo) (65536 * a.hi)=a.lo * 65536 by unfold min4; omega,show max4 (65536 * a.lo) (65536 * a.hi) (65536 * a.lo) (65536 * a.hi)=65536 * a.hi by unfold max4; omega,c1,Int.mul_ediv_cancel _ (by decide),qZE (by omega),qZE (by omega)]
theorem qQL {a:Iv} (h:Ok a):Iv.mul a iv0=iv0∧Iv.mul iv0 a=iv0:=by
 have v:=qZX h;have v1:Iv.valid ⟨0,0⟩=true:=by decide
 constructor
 ·simp only [Iv.mul,v,v1,vZJ,vYV,iv0,Int.mul_zero]; rfl
 ·simp only [Iv.mul,v,v1,vZJ,vYV,iv0,Int.zero_mul]; rfl
theorem yX {a:Iv} (h:Ok a):Iv.add a iv0=a∧Iv.add iv0 a=a:=by
 have v:=qZX h;have v1:Iv.valid ⟨0,0⟩=true:=by decide
 unfold Ok at h;constructor
 ·simp only [Iv.add,v,v1,vZJ,vYV,iv0,Int.add_zero]; rw [qZE (by omega),qZE (by omega)]
 ·simp only [Iv.add,v,v1,vZJ,vYV,iv0,Int.zero_add]; rw [qZE (by omega),qZE (by omega)]
theorem zQJ {a:Iv} (h:Lm a):limV a=a:=by
 have h1:=h.lo; have h2:=h.hi; have h3:=h.ok;unfold Ok at h3;unfold limV limI;have e1:min (max a.lo (-65536)) 65536=a.lo:=by omega
 have e2:min (max a.hi (-65536)) 65536=a.hi:=by omega
 rw [e1,e2]
theorem kYZ {m:M3} (h:MLm m):M3.mul M3.unit m=m:=by
 obtain ⟨⟨⟨_,_⟩,⟨_,_⟩,⟨_,_⟩⟩,⟨⟨_,_⟩,⟨_,_⟩,⟨_,_⟩⟩,⟨⟨_,_⟩,⟨_,_⟩,⟨_,_⟩⟩⟩:=m;simp only [M3.mul,M3.row,V3.dot,M3.tr,M3.unit,(qYJ h.x.x.ok).2,(qYJ h.x.y.ok).2,(qYJ h.x.z.ok).2,(qYJ h.y.x.ok).2,(qYJ h.y.y.ok).2,(qYJ h.y.z.ok).2,(qYJ h.z.x.ok).2,(qYJ h.z.y.ok).2,(qYJ h.z.z.ok).2,
  (qQL h.x.x.ok).2,(qQL h.x.y.ok).2,(qQL h.x.z.ok).2,(qQL h.y.x.ok).2,(qQL h.y.y.ok).2,(qQL h.y.z.ok).2,(qQL h.z.x.ok).2,(qQL h.z.y.ok).2,(qQL h.z.z.ok).2,
  (yX h.x.x.ok).1,(yX h.x.y.ok).1,(yX h.x.z.ok).1,(yX h.y.x.ok).1,(yX h.y.y.ok).1,(yX h.y.z.ok).1,(yX h.z.x.ok).1,(yX h.z.y.ok).1,(yX h.z.z.ok).1,
  (yX h.x.x.ok).2,(yX h.x.y.ok).2,(yX h.x.z.ok).2,(yX h.y.x.ok).2,(yX h.y.y.ok).2,(yX h.y.z.ok).2,(yX h.z.x.ok).2,(yX h.z.y.ok).2,(yX h.z.z.ok).2,(yX qWF).1,
  zQJ h.x.x,zQJ h.x.y,zQJ h.x.z,zQJ h.y.x,zQJ h.y.y,zQJ h.y.z,zQJ h.z.x,zQJ h.z.y,zQJ h.z.z]
theorem zZQ {v:V3} (h:VOk v):M3.apply M3.unit v=v:=by
 obtain ⟨⟨_,_⟩,⟨_,_⟩,⟨_,_⟩⟩:=v;simp only [M3.apply,V3.dot,M3.unit,(qYJ h.x).2,(qYJ h.y).2,(qYJ h.z).2,(qQL h.x).2,(qQL h.y).2,(qQL h.z).2,(yX h.x).1,(yX h.y).1,(yX h.z).1,(yX h.x).2,(yX h.y).2,(yX h.z).2,(yX qWF).1]
theorem yUK {v:V3} (h:VOk v):V3.add v V3.zero=v∧V3.add V3.zero v=v:=by
 obtain ⟨⟨_,_⟩,⟨_,_⟩,⟨_,_⟩⟩:=v;exact ⟨by simp only [V3.add,V3.zero,(yX h.x).1,(yX h.y).1,(yX h.z).1],by simp only [V3.add,V3.zero,(yX h.x).2,(yX h.y).2,(yX h.z).2]⟩
structure PLm (p:Po):Prop where
 r:MLm p.r
 t:VOk p.t
theorem zUK {x y:V3} (hy:VOk y):Po.mul (Po.shift x) (Po.shift y)=Po.shift (V3.add x y):=by
 simp only [Po.mul,Po.shift,Po.app,kYZ kYY,zZQ hy]
end Go.Sx
namespace Go.Sx
theorem kXL:V3.of ⟨0,0,0⟩=V3.zero:=by rfl
theorem uZJ {v:V3} (h:VOk v):Po.mul (Po.shift (V3.of ⟨0,0,0⟩)) (Po.shift v)=Po.shift v:=by
 rw [zUK h,kXL,(yUK h).2]
end Go.Sx
namespace Go.Proofs.YtmeldddgjfocdaaGreat.Ia
open Go.Rx Rt Go.Sx Go.RowKit Od Na Nb Nc Nx Nf Nl Nm Ga Gb Gc Gd Ge Gf Gg Sn Ha Hb Hc Hd He Hf Hg Hh Hi Hj Hk Hm Hw
theorem jVH {x:Int} (_: -100000≤x∧x≤100000):Iv.of x=⟨x,x⟩:=fXY (by omega)
theorem yWZ {x:Int} (_: -100000≤x∧x≤100000):Ok ⟨x,x⟩:=by unfold Ok; dsimp only; omega
def zIn (z:Z3):Prop:=(-10000≤z.x∧z.x≤10000)∧(-10000≤z.y∧z.y≤10000) ∧ -10000≤z.z∧z.z≤10000
def v3p (a b c:Int):V3:=⟨⟨a,a⟩,⟨b,b⟩,⟨c,c⟩⟩
theorem uQL {a b c:Int} (h : -100000≤a∧a≤100000) (h2 : -100000≤b∧b≤100000) (h3 : -100000≤c∧c≤100000):VOk (v3p a b c):=⟨yWZ h,yWZ h2,yWZ h3⟩
theorem of_z {z:Z3} (h:zIn z):V3.of z=v3p z.x z.y z.z:=by
 unfold zIn at h;unfold V3.of v3p;rw [jVH (by omega),jVH (by omega),jVH (by omega)]
theorem jYY {a b:Int} (_: -10000≤a∧a≤10000) (_: -10000≤b∧b≤10000):Iv.add ⟨a,a⟩ ⟨b,b⟩=⟨a + b,a + b⟩:=by
 unfold Iv.add;rw [qZX (yWZ (by omega)),qZX (yWZ (by omega)),vZJ,vYV];dsimp only;rw [qZE (by omega)]
theorem uXV {z:Z3} (h:zIn z):Po.app Po.rest (V3.of z)=v3p z.x z.y z.z:=by
 rw [of_z h];unfold zIn at h;have v:=uQL (a:=z.x) (b:=z.y) (c:=z.z) (by omega) (by omega) (by omega);show V3.add V3.zero (M3.apply M3.unit (v3p z.x z.y z.z))=_;rw [zZQ v,(yUK v).2]
theorem yHZ {a b:Int} {z:Z3} (ha : -10000≤a∧a≤10000) (hb : -10000≤b∧b≤10000) (h:zIn z):Po.app (Po.shift (v3p a b 0)) (V3.of z)=v3p (a + z.x) (b + z.y) z.z:=by
 rw [of_z h];unfold zIn at h;have v:=uQL (a:=z.x) (b:=z.y) (c:=z.z) (by omega) (by omega) (by omega);show V3.add (v3p a b 0) (M3.apply M3.unit (v3p z.x z.y z.z))=_;rw [zZQ v];show V3.mk (Iv.add ⟨a,a⟩ ⟨z.x,z.x⟩) (Iv.add ⟨b,b⟩ ⟨z.y,z.y⟩) (Iv.add ⟨0,0⟩ ⟨z.z,z.z⟩)=_;rw [jYY ha (by omega),jYY hb (by omega),jYY (by decide) (by omega),Int.zero_add];rfl
theorem fZU (q:Nat→Int) (_:0≤q 0∧q 0≤64) (_:0≤q 1∧q 1≤64):LP slJ (ptB q) 2 1=Po.shift (v3p (q 0) (q 1) 0):=by
 have k1:Ok ⟨q 0,q 0⟩:=yWZ (by omega);have k2:Ok ⟨q 1,q 1⟩:=yWZ (by omega);have v1:VOk (V3.put 0 ⟨q 0,q 0⟩):=⟨k1,qWF,qWF⟩
 have v2:VOk (V3.put 1 ⟨q 1,q 1⟩):=⟨qWF,k2,qWF⟩
 have e1:zJA 4 (Z3.mk 0 0 0) (Iv.mk (q 0) (q 0))=Po.shift (V3.put 0 ⟨q 0,q 0⟩):=by
  unfold zJA;rw [uZL (.inl rfl)];exact uZJ v1
 have e2:zJA 5 (Z3.mk 0 0 0) (Iv.mk (q 1) (q 1))=Po.shift (V3.put 1 ⟨q 1,q 1⟩):=by
  unfold zJA;rw [uZL (.inr (.inl rfl))];exact uZJ v2
 show Po.mul (zJA 4 (Z3.mk 0 0 0) (Iv.mk (q 0) (q 0))) (zJA 5 (Z3.mk 0 0 0) (Iv.mk (q 1) (q 1)))=_;rw [e1,e2,zUK v2];refine congrArg Po.shift ?_;show V3.mk (Iv.add ⟨q 0,q 0⟩ iv0) (Iv.add iv0 ⟨q 1,q 1⟩) (Iv.add iv0 iv0)=_;rw [(yX k1).1,(yX k2).2,(yX qWF).1];rfl
def obR (ws:Wsp) (q:Nat→Int) (o:Nat):Shp:=bif decide (0≤q o) then lkS (-1) (sftL (ws.pl (q o).toNat) ((ws.ob o).shs 0)) else lkS (ws.hd (vJJ .i64 ((-1) - (q o))).toNat).link (sftL (ws.hd (vJJ .i64 ((-1) - (q o))).toNat).off ((ws.ob o).shs 0))
theorem uUL (ws:Wsp) (q:Nat→Int) (i:Nat) (t:Nat × (Nat→Shp)) (h:(ws.ob i).ns=1):scN ws q i t=(t.1 + 1,qGZ t.2 t.1 (obR ws q i)):=by
 unfold scN obR addN;rw [h];cases decide (0≤q i) <;> rfl
theorem uWY (f:Nat→Shp) (n:Nat) (x:Shp):qGZ f n x n=x:=by
 unfold qGZ;rw [show Nat.beq n n=true from by rw [Nat.beq_eq]]; rfl
theorem yHY {ws:Wsp} (h:MadeW ws) (q:Nat→Int):∀ o,o < ws.no→(scR ws q).2 (ws.c + o)=obR ws q o :=
 (qQG (Q:=fun (i:Nat) (t:Nat × (Nat→Shp))=>t.1=ws.c + i∧∀ o,o < i→t.2 (ws.c + o)=obR ws q o) (c:=ws.no) (nx:=scN ws q) (fun i t hi h1=>by
  rw [uUL ws q i t (h.ob i hi).2.1];refine ⟨congrArg (· + 1) h1.1,fun o ho => ?_⟩;show qGZ t.2 t.1 (obR ws q i) (ws.c + o)=_;by_cases e:o=i
  ·subst e;rw [h1.1]; exact uWY _ _ _
  ·rw [uWQ (by omega)]; exact h1.2 o (by omega)) ws.no 0 (ws.c,ws.sh) (by omega) ⟨rfl,fun o ho=>absurd ho (Nat.not_lt_zero o)⟩).2
theorem uZK {s:Shp} (hn:s.np=1) (b:Z3):(sftL b s).pts 0=⟨vJJ .i64 ((s.pts 0).x + b.x),vJJ .i64 ((s.pts 0).y + b.y),vJJ .i64 ((s.pts 0).z + b.z)⟩:=by
 unfold sftL sftS sft;rw [hn];rfl
theorem xVZ {ws:Wsp} (h:MadeW ws) (q:Nat→Int) {o:Nat} (ho:o < ws.no):(obR ws q o).np=1:=by
 obtain ⟨_,_,_,_,hn,_⟩:=h.ob o ho;unfold obR;cases decide (0≤q o)
 ·exact hn
 ·exact hn
theorem fXJ {ws:Wsp} (h:MadeW ws) {q:Nat→Int} {o:Nat} (ho:o < ws.no) (h0:0≤q o) (_:q o < (ws.np:Int)):(obR ws q o).link = -1∧(obR ws q o).pts 0=⟨(ws.pl (q o).toNat).x,(ws.pl (q o).toNat).y,(((ws.ob o).shs 0).pts 0).z⟩:=by
 obtain ⟨_,_,_,_,hn,⟨hx,hy⟩,hz⟩:=h.ob o ho;have hp:=h.pl (q o).toNat (by omega);unfold PlOk at hp;unfold obR;rw [vJQ h0,vYV];refine ⟨rfl,?_⟩;show (sftL (ws.pl (q o).toNat) ((ws.ob o).shs 0)).pts 0=_;rw [uZK hn,hx,hy,hp.2.2,qX (by omega),qX (by omega),qX (by omega),Int.zero_add,Int.zero_add,Int.add_zero]
theorem fXK {ws:Wsp} (h:MadeW ws) {q:Nat→Int} {o:Nat} (ho:o < ws.no) (_:q o < 0) (_: -(ws.nh:Int)≤q o):(obR ws q o).link=1∧(obR ws q o).pts 0=⟨0,0,(((ws.ob o).shs 0).pts 0).z + (ws.hd (-1 - q o).toNat).off.z⟩:=by
 obtain ⟨_,_,_,_,hn,⟨hx,hy⟩,hz⟩:=h.ob o ho;have hh:=h.nh;have e:vJJ .i64 ((-1) - q o) = -1 - q o:=qX (by omega);have hd:=h.hd (-1 - q o).toNat (by omega);unfold HdOk at hd;unfold obR;rw [vYH (show ¬ 0≤q o by omega),vYG,e];refine ⟨hd.1,?_⟩;show (sftL (ws.hd (-1 - q o).toNat).off ((ws.ob o).shs 0)).pts 0=_;rw [uZK hn,hx,hy,hd.2.1.1,hd.2.1.2,qX (show _ by omega),qX (by omega)];rfl
theorem xJY {ws:Wsp} (h:MadeW ws) {qq q:Nat→Int} (g0:0≤qq 0∧qq 0≤64) (g1:0≤qq 1∧qq 1≤64) (hv:∀ o,o < ws.no → -(ws.nh:Int)≤q o∧q o < (ws.np:Int)) {o:Nat} (ho:o < ws.no) :
  ∃ a b c:Int,plF (obR ws q o) (pzF ws.js (ptB qq) ws.n (obR ws q o).link) 0=v3p a b c∧((0≤a∧a≤64)∧(0≤b∧b≤64)∧0≤c∧c≤6)∧((0≤((obR ws q o).pts 0).x∧((obR ws q o).pts 0).x≤64)∧(0≤((obR ws q o).pts 0).y∧((obR ws q o).pts 0).y≤64)∧0≤((obR ws q o).pts 0).z∧((obR ws q o).pts 0).z≤6) ∧
   (0≤q o→a=(ws.pl (q o).toNat).x∧b=(ws.pl (q o).toNat).y∧c=(((ws.ob o).shs 0).pts 0).z)∧(q o < 0→a=qq 0∧b=qq 1∧c=(((ws.ob o).shs 0).pts 0).z + (ws.hd (-1 - q o).toNat).off.z):=by
 obtain ⟨q1,q2⟩:=hv o ho;obtain ⟨_,_,_,_,hn,_,hz⟩:=h.ob o ho;by_cases h0:0≤q o
 ·obtain ⟨e1,e2⟩:=fXJ h ho h0 q2;have hp:=h.pl (q o).toNat (by omega);unfold PlOk at hp;refine ⟨(ws.pl (q o).toNat).x,(ws.pl (q o).toNat).y,(((ws.ob o).shs 0).pts 0).z,?_,by omega,?_,fun _=>⟨rfl,rfl,rfl⟩,fun hc=>by omega⟩
  ·rw [e1];show Po.app Po.rest (V3.of ((obR ws q o).pts 0))=_;rw [e2];exact uXV ⟨by dsimp only; omega,by dsimp only; omega,by dsimp only; omega⟩
  ·rw [e2]; dsimp only; omega
 ·obtain ⟨e1,e2⟩:=fXK h ho (by omega) q1;have hd:=h.hd (-1 - q o).toNat (by omega);unfold HdOk at hd;refine ⟨qq 0,qq 1,(((ws.ob o).shs 0).pts 0).z + (ws.hd (-1 - q o).toNat).off.z,?_,by omega,?_,fun hc=>absurd hc h0,fun _=>⟨rfl,rfl,rfl⟩⟩
  ·rw [e1,h.js,h.n];show Po.app (LP slJ (ptB qq) 2 1) (V3.of ((obR ws q o).pts 0))=_;rw [e2,fZU qq g0 g1];refine (yHZ (by omega) (by omega) ⟨by dsimp only; omega,by dsimp only; omega,by dsimp only; omega⟩).trans ?_;dsimp only;rw [Int.add_zero,Int.add_zero]
  ·rw [e2]; dsimp only; omega
end Go.Proofs.YtmeldddgjfocdaaGreat.Ia
namespace Go.Proofs.YtmeldddgjfocdaaGreat.Ib
open Go.Rx Rt Go.Sx Go.RowKit Od Na Nb Nc Nx Nf Nl Nm Ga Gb Gc Gd Ge Gf Gg Sn Ha Hb Hc Hd He Hf Hg Hh Hi Hj Hk Hm Hn Ho Hv Hw Ia
def rtH (ws:Wsp) (k1:Int):Int:=(ws.gr (k1 % (ws.ng:Int)).toNat).hand
def rtP (ws:Wsp) (k1:Int):Int:=(ws.gr (k1 % (ws.ng:Int)).toNat).place
def rtN (ws:Wsp) (k1:Int):Nat:=(ws.gr (k1 % (ws.ng:Int)).toNat).na
def rtF (ws:Wsp) (k1:Int):Nat→Int:=(ws.gr (k1 % (ws.ng:Int)).toNat).cf
def slT (ws:Wsp) (qa:Nat→Int) (kq:Nat) (qq:Nat→Int) (h1 p1:Int):Bool:=tkC ws ws.no qa kq qq h1 p1 p1 (vJJ .i64 ((-1) - h1))
noncomputable def fKJ (ws:Wsp) (wl:Nat) (e:Nat→Int) (wm:Nat) (e2 qa q3:Nat→Int) (k1 x y:Int):OrS:=orS [(17,o_cr [.lf wl (fQ e)] (.v (.a (wP ws)))),(22,o_cr [.a (wP ws),.lf wm (fQ e2)] (.v (.a [.lf ws.no (fQ qa)]))),(29,o_cr [.a (wP ws),.n .i64 k1,.n .i64 x,.n .i64 y] (.v (.lf 2 (fQ q3)))),(23,o_rn),(80,uVC)] []
noncomputable def kWX (_:Wsp) (_:Nat) (e:Nat→Int) (_:Nat) (_ _ _:Nat→Int) (_ x y:Int):List (List Nat × yG):=[]
set_option maxRecDepth 100000 in
theorem fYK (ws:Wsp) (wl:Nat) (e:Nat→Int) (wm:Nat) (e2 qa q3:Nat→Int) (k1 x y:Int):qQZ Tf (fKJ ws wl e wm e2 qa q3 k1 x y) (qK (kWX ws wl e wm e2 qa q3 k1 x y)) 60 31 [.lf wl (fQ e),.lf wm (fQ e2),.n .i64 k1,.n .i64 x,.n .i64 y] =
 (bif (g1 [.lf wl (fQ e)]) then (bif (g1 [.a (wP ws),.lf wm (fQ e2)]) then (bif (decide ((ws.ng:Int)=0)) then some (.v (.t [.a (wP ws),.a [.lf ws.no (fQ qa)],.n .i64 0,.n .i64 0,.l [],.b false]),[])
 else (bif (gF1 crn ern (k1,(ws.ng:Int))) then (bif (inB (k1 % (ws.ng:Int)) ws.ng) then (bif (g1 [.a (wP ws),.n .i64 k1,.n .i64 x,.n .i64 y]) then (bif (decide ((andI .i64 k1 3)=0)) then (bif (gF1 crtk ertk (ws,ws.no,qa,(rtN ws k1),(rtF ws k1),(rtH ws k1),(rtP ws k1))) then (bif (tkC ws ws.no qa (rtN ws k1) (rtF ws k1) (rtH ws k1) (rtP ws k1) (rtP ws k1) (vJJ .i64 ((-1) - (rtH ws k1)))) then some (.v (.t [.a (wP ws),.a [.lf ws.no (fQ qa)],.n .i64 (ws.gr ((k1 % (ws.ng:Int))).toNat).hand,.n .i64 (ws.gr ((k1 % (ws.ng:Int))).toNat).place,.lf (ws.gr ((k1 % (ws.ng:Int))).toNat).na (fQ (ws.gr ((k1 % (ws.ng:Int))).toNat).cf),.b true]),[])
 else some (.v (.t [.a (wP ws),.a [.lf ws.no (fQ qa)],.n .i64 (ws.gr ((k1 % (ws.ng:Int))).toNat).hand,.n .i64 (ws.gr ((k1 % (ws.ng:Int))).toNat).place,.lf (ws.gr ((k1 % (ws.ng:Int))).toNat).na (fQ (ws.gr ((k1 % (ws.ng:Int))).toNat).cf),.b false]),[]))
 else none)
 else (bif (gF1 crtk ertk (ws,ws.no,qa,2,q3,(rtH ws k1),(rtP ws k1))) then (bif (tkC ws ws.no qa 2 q3 (rtH ws k1) (rtP ws k1) (rtP ws k1) (vJJ .i64 ((-1) - (rtH ws k1)))) then some (.v (.t [.a (wP ws),.a [.lf ws.no (fQ qa)],.n .i64 (ws.gr ((k1 % (ws.ng:Int))).toNat).hand,.n .i64 (ws.gr ((k1 % (ws.ng:Int))).toNat).place,.lf 2 (fQ q3),.b true]),[])
 else some (.v (.t [.a (wP ws),.a [.lf ws.no (fQ qa)],.n .i64 (ws.gr ((k1 % (ws.ng:Int))).toNat).hand,.n .i64 (ws.gr ((k1 % (ws.ng:Int))).toNat).place,.lf 2 (fQ q3),.b false]),[]))
 else none))
 else none)
 else none)
 else none))
 else none)
 else none):=by kernel_rfl
theorem uJU (ws:Wsp) (wl:Nat) (e:Nat→Int) (wm:Nat) (e2 qa q3:Nat→Int) (k1 x y:Int) (hW:zG Tryz.prog 17 [.lf wl (fQ e)] (.v (.a (wP ws)))) (hM:zG Tryz.prog 22 [.a (wP ws),.lf wm (fQ e2)] (.v (.a [.lf ws.no (fQ qa)]))) (hG:zG Tryz.prog 29 [.a (wP ws),.n .i64 k1,.n .i64 x,.n .i64 y] (.v (.lf 2 (fQ q3)))) (o2:okW ws) (_:ws.ng≤1000):zG Tryz.prog 31 [.lf wl (fQ e),.lf wm (fQ e2),.n .i64 k1,.n .i64 x,.n .i64 y] (bif decide ((ws.ng:Int)=0) then .v (.t [.a (wP ws),.a [.lf ws.no (fQ qa)],.n .i64 0,.n .i64 0,.l [],.b false]) else bif decide ((andI .i64 k1 3)=0) then .v (.t [.a (wP ws),.a [.lf ws.no (fQ qa)],.n .i64 (rtH ws k1),.n .i64 (rtP ws k1),.lf (rtN ws k1) (fQ (rtF ws k1)),.b (slT ws qa (rtN ws k1) (rtF ws k1) (rtH ws k1) (rtP ws k1))]) else .v (.t [.a (wP ws),.a [.lf ws.no (fQ qa)],.n .i64 (rtH ws k1),.n .i64 (rtP ws k1),.lf 2 (fQ q3),.b (slT ws qa 2 q3 (rtH ws k1) (rtP ws k1))])):=by
 refine zK (N:=60) (LO:=qK (kWX ws wl e wm e2 qa q3 k1 x y)) jV yQ (kQ (l:=[(17,o_cr [.lf wl (fQ e)] (.v (.a (wP ws)))),(22,o_cr [.a (wP ws),.lf wm (fQ e2)] (.v (.a [.lf ws.no (fQ qa)]))),(29,o_cr [.a (wP ws),.n .i64 k1,.n .i64 x,.n .i64 y] (.v (.lf 2 (fQ q3)))),(23,o_rn),(80,uVC)]) (m:=[]) ⟨qVK hW,qVK hM,qVK hG,Sn.ok_rn,xXZ,trivial⟩ trivial) (fun p S hp => ?_) ?_
 ·refine zQ (L:=qY Tf 31) (l:=(kWX ws wl e wm e2 qa q3 k1 x y)) (show AllP _ (kWX ws wl e wm e2 qa q3 k1 x y) from trivial) p S hp
 ·refine (fYK ws wl e wm e2 qa q3 k1 x y).trans ?_;by_cases hng:(ws.ng:Int)=0
  ·rw [vJQ hng];simp only [g1_t,vYV]
  ·have hc1:gF1 crn ern (k1,(ws.ng:Int))=true:=jX (C:=crn) ⟨by omega,by omega⟩;have hm1:=Int.emod_nonneg k1 hng;have hm2:=Int.emod_lt_of_pos k1 (show (0:Int) < (ws.ng:Int) by omega);have hib:inB (k1 % (ws.ng:Int)) ws.ng=true:=by
    have e:k1 % (ws.ng:Int)=(((k1 % (ws.ng:Int)).toNat:Nat):Int):=by omega
    rw [e]; exact yU (by omega)
   have frt:∀ k q k2 q2 a b,gF1 crtk ertk (ws,k,q,k2,q2,a,b)=true:=fun _ _ _ _ _ _=>jX (C:=crtk) o2
   simp only [vYH hng,g1_t,hc1,hib,frt,vYV,vYG];unfold slT;cases hk:decide ((andI .i64 k1 3)=0) with
   | true =>
    simp only [vYV];cases tkC ws ws.no qa (rtN ws k1) (rtF ws k1) (rtH ws k1) (rtP ws k1) (rtP ws k1) (vJJ .i64 ((-1) - (rtH ws k1))) <;> rfl
   | false =>
    simp only [vYG];cases tkC ws ws.no qa 2 q3 (rtH ws k1) (rtP ws k1) (rtP ws k1) (vJJ .i64 ((-1) - (rtH ws k1))) <;> rfl
theorem xZF (ws:Wsp) (wl:Nat) (e:Nat→Int) (wm:Nat) (e2 qa q3:Nat→Int) (k1 x y:Int) (hW:zG Tryz.prog 17 [.lf wl (fQ e)] (.v (.a (wP ws)))) (hM:zG Tryz.prog 22 [.a (wP ws),.lf wm (fQ e2)] (.v (.a [.lf ws.no (fQ qa)]))) (hG:zG Tryz.prog 29 [.a (wP ws),.n .i64 k1,.n .i64 x,.n .i64 y] (.v (.lf 2 (fQ q3)))) (o2:okW ws) (hng1:ws.ng≤1000):∃ (kq:Nat) (qq:Nat→Int) (h1 p1:Int) (okb:Bool),zG Tryz.prog 31 [.lf wl (fQ e),.lf wm (fQ e2),.n .i64 k1,.n .i64 x,.n .i64 y] (.v (.t [.a (wP ws),.a [.lf ws.no (fQ qa)],.n .i64 h1,.n .i64 p1,.lf kq (fQ qq),.b okb]))∧(okb=true→slT ws qa kq qq h1 p1=true):=by
 have h:=uJU ws wl e wm e2 qa q3 k1 x y hW hM hG o2 hng1;cases hb:decide ((ws.ng:Int)=0) with
 | true =>
  rw [hb] at h;exact ⟨0,fun _=>0,0,0,false,qQU (Same.t (xs:=[_,_,_,_,_,_]) ⟨Same.refl _,Same.refl _,Same.refl _,Same.refl _,Same.lf rfl,Same.refl _,trivial⟩) h,fun h=>by cases h⟩
 | false =>
  rw [hb] at h;cases hk:decide ((andI .i64 k1 3)=0) with
  | true =>
   rw [hk] at h;exact ⟨_,_,_,_,_,h,fun h=>h⟩
  | false =>
   rw [hk] at h;exact ⟨_,_,_,_,_,h,fun h=>h⟩
theorem fZH (ws:Wsp) (k:Nat) (q:Nat→Int) (h:okW ws∧vlB ws k q=true):zG Tryz.prog 36 [.a (wP ws),.a [.lf k (fQ q)]] (.v (.t [.a [.lf ws.n (fJ ws.js),.lf ws.m (fM ws.ms),.lf (scR ws q).1 (fS ((scR ws q).2)),.lf ws.d (fK ws.sk)],.n .i64 0])):=by
 have h1:=uJH ws k q h.1;unfold scE at h1;rw [vJQ (zKF h.2).1,h.2] at h1;exact h1
def slV (js:Nat→J) (bx:Nat→Iv) (n:Nat) (sh:Nat→Shp) (v w:Nat):V3:=plF (sh v) (pzF js bx n (sh v).link) w
theorem fKZ (js:Nat→J) (ms:Nat→Ms) (sh:Nat→Shp) (sk:Nat→Skp) (n m c d:Nat) (bx:Nat→Iv) (k:Nat) (h:k≤100∧isB bx n k=true∧sErr js ms sh sk n m c d=0):zG Tryz.prog 40 [.a [.lf n (fJ js),.lf m (fM ms),.lf c (fS sh),.lf d (fK sk)],.lf k (fB bx)] (.v (.lf c (ptR js bx sh n))):=by
 have h1:=jUB js ms sh sk n m c d bx k (by omega);rw [h.2.1,vJQ h.2.2] at h1;exact h1
def csv:Wsp × Nat × (Nat→Int)→Prop:=fun t=>match t with | (ws,k,q)=>okW ws∧vlB ws k q=true
def esv:Wsp × Nat × (Nat→Int)→List PV:=fun t=>match t with | (ws,k,q)=>[.a (wP ws),.a [.lf k (fQ q)]]
noncomputable def rsv:Wsp × Nat × (Nat→Int)→Ret:=fun t=>match t with | (ws,_,q)=>.v (.t [.a [.lf ws.n (fJ ws.js),.lf ws.m (fM ws.ms),.lf (scR ws q).1 (fS ((scR ws q).2)),.lf ws.d (fK ws.sk)],.n .i64 0])
def dsv:List PV→Wsp × Nat × (Nat→Int):=fun ps=>match ps with
 | [.a r,.a [.lf k f]]=>(unW r,k,unFQ f)
 | _=>(unW [],0,fun _=>0)
noncomputable def o_sv:List PV→Option (Bool × Ret):=o_fm dsv csv esv rsv
theorem xUC:zZ Tryz.prog 36 o_sv:=qQV fun t h=>by
 obtain ⟨ws,k,q⟩:=t;exact fZH ws k q h
def cpt9:(Nat→J) × (Nat→Ms) × (Nat→Shp) × (Nat→Skp) × Nat × Nat × Nat × Nat × (Nat→Iv) × Nat→Prop:=fun t=>match t with | (js,ms,sh,sk,n,m,c,d,bx,k)=>k≤100∧isB bx n k=true∧sErr js ms sh sk n m c d=0
def ept9:(Nat→J) × (Nat→Ms) × (Nat→Shp) × (Nat→Skp) × Nat × Nat × Nat × Nat × (Nat→Iv) × Nat→List PV:=fun t=>match t with | (js,ms,sh,sk,n,m,c,d,bx,k)=>[.a [.lf n (fJ js),.lf m (fM ms),.lf c (fS sh),.lf d (fK sk)],.lf k (fB bx)]
noncomputable def rpt9:(Nat→J) × (Nat→Ms) × (Nat→Shp) × (Nat→Skp) × Nat × Nat × Nat × Nat × (Nat→Iv) × Nat→Ret:=fun t=>match t with | (js,_,sh,_,n,_,c,_,bx,_)=>.v (.lf c (ptR js bx sh n))
def dpt9:List PV→(Nat→J) × (Nat→Ms) × (Nat→Shp) × (Nat→Skp) × Nat × Nat × Nat × Nat × (Nat→Iv) × Nat:=fun ps=>match ps with
 | [.a [.lf n js,.lf m ms,.lf c sh,.lf d sk],.lf k f]=>(unFJ js,unFM ms,unFS sh,unFK sk,n,m,c,d,Nx.unFB f,k)
 | _=>(fun _=>⟨ByteArray.empty,0,0,⟨0,0,0⟩,0,0,0,0,0,0⟩,fun _=>⟨0,0,⟨0,0,0⟩⟩,fun _=>⟨0,0,0,fun _=>⟨0,0,0⟩⟩,fun _=>⟨0,0⟩,0,0,0,0,fun _=>⟨0,0⟩,0)
noncomputable def uVE:List PV→Option (Bool × Ret):=o_fm dpt9 cpt9 ept9 rpt9
theorem xXX:zZ Tryz.prog 40 uVE:=qQV fun t h=>by
 obtain ⟨js,ms,sh,sk,n,m,c,d,bx,k⟩:=t;exact fKZ js ms sh sk n m c d bx k h
def slK (ws:Wsp) (qa:Nat→Int) (kq:Nat) (qq:Nat→Int) (h1 p1:Int):Nat:=bif slT ws qa kq qq h1 p1 then ws.no else 0
def slM (ws:Wsp) (qa:Nat→Int) (h1 p1:Int):Nat→Int:=mvQ qa ws.no p1 (vJJ .i64 ((-1) - h1))
def slA (ws:Wsp) (qa:Nat→Int):Nat→Shp:=(scR ws qa).2
def slB (ws:Wsp) (qa:Nat→Int) (h1 p1:Int):Nat→Shp:=(scR ws (slM ws qa h1 p1)).2
def slF (s:Int) (a b:Z3):Int:=(vJJ .i64 ((vJJ .i64 ((vJJ .i64 ((vJJ .i64 (8 + s)) + (vJJ .i64 ((vJJ .i64 (s * (max (vJJ .i64 (a.x - b.x)) (vJJ .i64 (0 - (vJJ .i64 (a.x - b.x))))))).tdiv 65536)))) + (vJJ .i64 ((vJJ .i64 (s * (max (vJJ .i64 (a.y - b.y)) (vJJ .i64 (0 - (vJJ .i64 (a.y - b.y))))))).tdiv 65536)))) + (vJJ .i64 ((vJJ .i64 (s * (max (vJJ .i64 (a.z - b.z)) (vJJ .i64 (0 - (vJJ .i64 (a.z - b.z))))))).tdiv 65536))))
def slQ (s:Int) (u to:Z3) (a b:V3):Prop:=(¬ a.x.lo < vJJ .i64 (b.x.lo - slF s u to)∧¬ vJJ .i64 (b.x.hi + slF s u to) < a.x.hi)∧(¬ a.y.lo < vJJ .i64 (b.y.lo - slF s u to)∧¬ vJJ .i64 (b.y.hi + slF s u to) < a.y.hi)∧¬ a.z.lo < vJJ .i64 (b.z.lo - slF s u to)∧¬ vJJ .i64 (b.z.hi + slF s u to) < a.z.hi
def uUC (ws:Wsp) (qa qq:Nat→Int) (h1 p1:Int) (i:Nat):Prop:=plN (slB ws qa h1 p1 i)=plN (slA ws qa i)∧plN (slA ws qa i)≤(slA ws qa i).np∧plN (slA ws qa i)≤50∧∀ j,j < plN (slA ws qa i)→slQ ws.slack ((slA ws qa i).pts j) (ws.pl p1.toNat) (slV ws.js (ptB qq) ws.n (slB ws qa h1 p1) i j) (slV ws.js (ptB qq) ws.n (slA ws qa) i j)
def kKK (ws:Wsp) (qa qq:Nat→Int) (h1 p1:Int):Prop:=((scR ws (slM ws qa h1 p1)).1=(scR ws qa).1∧ws.c≤(scR ws qa).1∧(scR ws qa).1≤50)∧inB p1 ws.np=true∧∀ i,ws.c≤i→i < (scR ws qa).1→uUC ws qa qq h1 p1 i
noncomputable def orSa (ws:Wsp) (wl:Nat) (e:Nat→Int) (wm:Nat) (e2 qa:Nat→Int) (kq:Nat) (qq:Nat→Int) (h1 p1 k1 x y:Int) (okb:Bool):OrS:=orS [(16,o_cr [] (.v (.b true))),(31,o_cr [.lf wl (fQ e),.lf wm (fQ e2),.n .i64 k1,.n .i64 x,.n .i64 y] (.v (.t [.a (wP ws),.a [.lf ws.no (fQ qa)],.n .i64 h1,.n .i64 p1,.lf kq (fQ qq),.b okb]))),(32,o_tk),(36,o_sv),(26,o_ry),(40,uVE)] []
def bdS (ws:Wsp) (qa qq:Nat→Int) (h1 p1 i:Int):St:=⟨[(10,.v (.b false)),(11,.p 11 0),(14,.v (.n .i64 p1)),(19,.p 19 0),(23,.v (.lf ((scR ws qa).1) (fun v=>[.lf (plN (((slA ws qa)) v)) (fV (slV ws.js (ptB qq) ws.n ((slA ws qa)) v))]))),(24,.v (.lf ((scR ws (slM ws qa h1 p1)).1) (fun v=>[.lf (plN (((slB ws qa h1 p1)) v)) (fV (slV ws.js (ptB qq) ws.n ((slB ws qa h1 p1)) v))]))),(25,.v (.n .i64 i))],[(11,.blk [.v (.lf ws.n (fJ ws.js)),.v (.lf ws.m (fM ws.ms)),.v (.lf ws.c (fS ws.sh)),.v (.lf ws.d (fK ws.sk)),.v (.lf ws.no (fO ws.ob)),.v (.lf ws.np (fZ ws.pl)),.v (.lf ws.nh (fH ws.hd)),.v (.lf ws.ng (fG ws.gr)),.v (.n .i64 ws.slack)]),(19,.blk [.v (.lf ws.n (fJ ws.js)),.v (.lf ws.m (fM ws.ms)),.v (.lf (scR ws qa).1 (fS (slA ws qa))),.v (.lf ws.d (fK ws.sk))])]⟩
def exS (ws:Wsp) (qa qq:Nat→Int) (h1 p1 i:Int):St:=⟨[(11,.p 11 0),(14,.v (.n .i64 p1)),(19,.p 19 0),(23,.v (.lf ((scR ws qa).1) (fun v=>[.lf (plN (((slA ws qa)) v)) (fV (slV ws.js (ptB qq) ws.n ((slA ws qa)) v))]))),(24,.v (.lf ((scR ws (slM ws qa h1 p1)).1) (fun v=>[.lf (plN (((slB ws qa h1 p1)) v)) (fV (slV ws.js (ptB qq) ws.n ((slB ws qa h1 p1)) v))]))),(25,.v (.n .i64 i))],[(11,.blk [.v (.lf ws.n (fJ ws.js)),.v (.lf ws.m (fM ws.ms)),.v (.lf ws.c (fS ws.sh)),.v (.lf ws.d (fK ws.sk)),.v (.lf ws.no (fO ws.ob)),.v (.lf ws.np (fZ ws.pl)),.v (.lf ws.nh (fH ws.hd)),.v (.lf ws.ng (fG ws.gr)),.v (.n .i64 ws.slack)]),(19,.blk [.v (.lf ws.n (fJ ws.js)),.v (.lf ws.m (fM ws.ms)),.v (.lf (scR ws qa).1 (fS (slA ws qa))),.v (.lf ws.d (fK ws.sk))])]⟩
noncomputable def hSb (ws:Wsp) (_:Nat) (e:Nat→Int) (_:Nat) (_ qa:Nat→Int) (_:Nat) (qq:Nat→Int) (h1 p1 _ x y:Int) (_:Bool) (i:Int) (j:Int):St:=⟨[(11,.p 11 0),(14,.v (.n .i64 p1)),(19,.p 19 0),(23,.v (.lf ((scR ws qa).1) (fun v=>[.lf (plN (((slA ws qa)) v)) (fV (slV ws.js (ptB qq) ws.n ((slA ws qa)) v))]))),(24,.v (.lf ((scR ws (slM ws qa h1 p1)).1) (fun v=>[.lf (plN (((slB ws qa h1 p1)) v)) (fV (slV ws.js (ptB qq) ws.n ((slB ws qa h1 p1)) v))]))),(25,.v (.n .i64 i)),(26,.v (.n .i64 j))],[(11,.blk [.v (.lf ws.n (fJ ws.js)),.v (.lf ws.m (fM ws.ms)),.v (.lf ws.c (fS ws.sh)),.v (.lf ws.d (fK ws.sk)),.v (.lf ws.no (fO ws.ob)),.v (.lf ws.np (fZ ws.pl)),.v (.lf ws.nh (fH ws.hd)),.v (.lf ws.ng (fG ws.gr)),.v (.n .i64 ws.slack)]),(19,.blk [.v (.lf ws.n (fJ ws.js)),.v (.lf ws.m (fM ws.ms)),.v (.lf (scR ws qa).1 (fS (slA ws qa))),.v (.lf ws.d (fK ws.sk))])]⟩
set_option maxRecDepth 100000 in
theorem rdSb (G:St→Option (Ret × Mem)) (K:Cont) (ws:Wsp) (wl:Nat) (e:Nat→Int) (wm:Nat) (e2 qa:Nat→Int) (kq:Nat) (qq:Nat→Int) (h1 p1 k1 x y:Int) (okb:Bool) (i:Int) (j:Int):stpT Tf 10 (orSa ws wl e wm e2 qa kq qq h1 p1 k1 x y okb) 60 [] [0,1,1,0,0,1,0,0,1,0,1,1,1,1,1,1,1,1,1] K G (hSb ws wl e wm e2 qa kq qq h1 p1 k1 x y okb i j) =
 (bif (inB i ((scR ws qa).1)) then (bif (decide (j < ((plN (((slA ws qa)) (i).toNat)):Int))) then (bif (inB i (scR ws qa).1) then (bif (inB j ((slA ws qa) (i).toNat).np) then (bif (inB p1 ws.np) then (bif (inB p1 ws.np) then (bif (inB p1 ws.np) then (bif (inB i ((scR ws (slM ws qa h1 p1)).1)) then (bif (inB j (plN (((slB ws qa h1 p1)) (i).toNat))) then (bif (inB i ((scR ws qa).1)) then (bif (inB j (plN (((slA ws qa)) (i).toNat))) then (bif (decide ((slV ws.js (ptB qq) ws.n ((slB ws qa h1 p1)) (i).toNat (j).toNat).x.lo < (vJJ .i64 ((slV ws.js (ptB qq) ws.n ((slA ws qa)) (i).toNat (j).toNat).x.lo - (slF ws.slack (((slA ws qa) (i).toNat).pts (j).toNat) (ws.pl (p1).toNat)))))) then (K .ret (bdS ws qa qq h1 p1 i))
 else (bif (inB i ((scR ws (slM ws qa h1 p1)).1)) then (bif (inB j (plN (((slB ws qa h1 p1)) (i).toNat))) then (bif (inB i ((scR ws qa).1)) then (bif (inB j (plN (((slA ws qa)) (i).toNat))) then (bif (decide ((vJJ .i64 ((slV ws.js (ptB qq) ws.n ((slA ws qa)) (i).toNat (j).toNat).x.hi + (slF ws.slack (((slA ws qa) (i).toNat).pts (j).toNat) (ws.pl (p1).toNat)))) < (slV ws.js (ptB qq) ws.n ((slB ws qa h1 p1)) (i).toNat (j).toNat).x.hi)) then (K .ret (bdS ws qa qq h1 p1 i))
 else (bif (inB i ((scR ws (slM ws qa h1 p1)).1)) then (bif (inB j (plN (((slB ws qa h1 p1)) (i).toNat))) then (bif (inB i ((scR ws qa).1)) then (bif (inB j (plN (((slA ws qa)) (i).toNat))) then (bif (decide ((slV ws.js (ptB qq) ws.n ((slB ws qa h1 p1)) (i).toNat (j).toNat).y.lo < (vJJ .i64 ((slV ws.js (ptB qq) ws.n ((slA ws qa)) (i).toNat (j).toNat).y.lo - (slF ws.slack (((slA ws qa) (i).toNat).pts (j).toNat) (ws.pl (p1).toNat)))))) then (K .ret (bdS ws qa qq h1 p1 i))
 else (bif (inB i ((scR ws (slM ws qa h1 p1)).1)) then (bif (inB j (plN (((slB ws qa h1 p1)) (i).toNat))) then (bif (inB i ((scR ws qa).1)) then (bif (inB j (plN (((slA ws qa)) (i).toNat))) then (bif (decide ((vJJ .i64 ((slV ws.js (ptB qq) ws.n ((slA ws qa)) (i).toNat (j).toNat).y.hi + (slF ws.slack (((slA ws qa) (i).toNat).pts (j).toNat) (ws.pl (p1).toNat)))) < (slV ws.js (ptB qq) ws.n ((slB ws qa h1 p1)) (i).toNat (j).toNat).y.hi)) then (K .ret (bdS ws qa qq h1 p1 i))
 else (bif (inB i ((scR ws (slM ws qa h1 p1)).1)) then (bif (inB j (plN (((slB ws qa h1 p1)) (i).toNat))) then (bif (inB i ((scR ws qa).1)) then (bif (inB j (plN (((slA ws qa)) (i).toNat))) then (bif (decide ((slV ws.js (ptB qq) ws.n ((slB ws qa h1 p1)) (i).toNat (j).toNat).z.lo < (vJJ .i64 ((slV ws.js (ptB qq) ws.n ((slA ws qa)) (i).toNat (j).toNat).z.lo - (slF ws.slack (((slA ws qa) (i).toNat).pts (j).toNat) (ws.pl (p1).toNat)))))) then (K .ret (bdS ws qa qq h1 p1 i))
 else (bif (inB i ((scR ws (slM ws qa h1 p1)).1)) then (bif (inB j (plN (((slB ws qa h1 p1)) (i).toNat))) then (bif (inB i ((scR ws qa).1)) then (bif (inB j (plN (((slA ws qa)) (i).toNat))) then (bif (decide ((vJJ .i64 ((slV ws.js (ptB qq) ws.n ((slA ws qa)) (i).toNat (j).toNat).z.hi + (slF ws.slack (((slA ws qa) (i).toNat).pts (j).toNat) (ws.pl (p1).toNat)))) < (slV ws.js (ptB qq) ws.n ((slB ws qa h1 p1)) (i).toNat (j).toNat).z.hi)) then (K .ret (bdS ws qa qq h1 p1 i))
 else (G (hSb ws wl e wm e2 qa kq qq h1 p1 k1 x y okb i (vJJ .i64 (j + 1)))))
 else none)
 else none)
 else none)
 else none))
 else none)
 else none)
 else none)
 else none))
 else none)
 else none)
 else none)
 else none))
 else none)
 else none)
 else none)
 else none))
 else none)
 else none)
 else none)
 else none))
 else none)
 else none)
 else none)
 else none)
 else none)
 else none)
 else none)
 else none)
 else none)
 else (K (.exit 2) (exS ws qa qq h1 p1 i)))
 else none):=by kernel_rfl
def slRC (ws:Wsp) (qa qq:Nat→Int) (h1 p1 i:Int):Prop:=0≤i∧i < ((scR ws qa).1:Int)∧(scR ws (slM ws qa h1 p1)).1=(scR ws qa).1∧inB p1 ws.np=true∧uUC ws qa qq h1 p1 i.toNat
theorem lpSb (K:Cont) (ws:Wsp) (wl:Nat) (e:Nat→Int) (wm:Nat) (e2 qa:Nat→Int) (kq:Nat) (qq:Nat→Int) (h1 p1 k1 x y:Int) (okb:Bool) (i:Int) (hc:slRC ws qa qq h1 p1 i):LFT Tf 10 (orSa ws wl e wm e2 qa kq qq h1 p1 k1 x y okb) 60 [] [0,1,1,0,0,1,0,0,1,0,1,1,1,1,1,1,1,1,1] K 60 (hSb ws wl e wm e2 qa kq qq h1 p1 k1 x y okb i 0)=(K (.exit 2) (exS ws qa qq h1 p1 i)):=by
 obtain ⟨i0,hi,hl,hp,hr,hn,h50,hq⟩:=hc;have hA:inB i (scR ws qa).1=true:=by
  unfold inB;rw [vJQ i0,vJQ (show i.toNat < (scR ws qa).1 by omega)]; rfl
 have hB:inB i (scR ws (slM ws qa h1 p1)).1=true:=by rw [hl]; exact hA
 refine (kV (L:=LFT Tf 10 (orSa ws wl e wm e2 qa kq qq h1 p1 k1 x y okb) 60 [] [0,1,1,0,0,1,0,0,1,0,1,1,1,1,1,1,1,1,1] K) (stp:=stpT Tf 10 (orSa ws wl e wm e2 qa kq qq h1 p1 k1 x y okb) 60 [] [0,1,1,0,0,1,0,0,1,0,1,1,1,1,1,1,1,1,1] K) (fun _ _=>rfl) (fun (j:Nat) (_:Unit)=>hSb ws wl e wm e2 qa kq qq h1 p1 k1 x y okb i (j:Int)) (fun _ _=>True) (fun _ _=>true) (fun _ _=>()) (c:=plN (slA ws qa i.toNat)) (fun _=>(K (.exit 2) (exS ws qa qq h1 p1 i))) (fun _ _=>none) (fun G j _ hj _ => ?_) (fun _ _ _ _ _=>trivial) (fun G _ _ => ?_) (plN (slA ws qa i.toNat)) 0 60 () (by omega) (by omega) trivial).trans ?_
 ·refine (rdSb G K ws wl e wm e2 qa kq qq h1 p1 k1 x y okb i j).trans ?_;obtain ⟨⟨a1,a2⟩,⟨a3,a4⟩,a5,a6⟩:=hq j hj;simp only [hA,hB,hp,vJQ (show (j:Int) < (plN (slA ws qa i.toNat):Int) by omega),toN,yU (show j < (slA ws qa i.toNat).np by omega),hr,yU hj,vYH a1,vYH a2,vYH a3,vYH a4,vYH a5,vYH a6,kK (show j < 1000000 by omega),vYV,vYG]
 ·refine (rdSb G K ws wl e wm e2 qa kq qq h1 p1 k1 x y okb i (plN (slA ws qa i.toNat))).trans ?_;rw [hA,vYV,vYH (show ¬ (plN (slA ws qa i.toNat):Int) < (plN (slA ws qa i.toNat):Int) by omega)];rfl
 ·exact qZH _ _ _
noncomputable def liSb (ws:Wsp) (wl:Nat) (e:Nat→Int) (wm:Nat) (e2 qa:Nat→Int) (kq:Nat) (qq:Nat→Int) (h1 p1 k1 x y:Int) (okb:Bool):List (List Nat × yG):=[([0,1,1,0,0,1,0,0,1,0,1,1,1,1,1,1,1,1,1],sumF (fun t:Int=>(hSb ws wl e wm e2 qa kq qq h1 p1 k1 x y okb t 0)) (fun σ=>slI σ 25) (fun t K=>(bif gP (slRC ws qa qq h1 p1 t) then (K (.exit 2) (exS ws qa qq h1 p1 t)) else none)))]
theorem okSb (ws:Wsp) (wl:Nat) (e:Nat→Int) (wm:Nat) (e2 qa:Nat→Int) (kq:Nat) (qq:Nat→Int) (h1 p1 k1 x y:Int) (okb:Bool):∀ p S,qK (liSb ws wl e wm e2 qa kq qq h1 p1 k1 x y okb) p=some S→uX 60 (cxS Tf (orSa ws wl e wm e2 qa kq qq h1 p1 k1 x y okb) 60 10 (ntmF Tf 10)) (qY Tf 10 p) S:=fun p S hp=>by
 refine zQ (L:=qY Tf 10) (l:=(liSb ws wl e wm e2 qa kq qq h1 p1 k1 x y okb)) (show AllP _ (liSb ws wl e wm e2 qa kq qq h1 p1 k1 x y okb) from ⟨?_,trivial⟩) p S hp;dsimp only;refine jK (T:=Tf) (o:=(orSa ws wl e wm e2 qa kq qq h1 p1 k1 x y okb)) (f:=10) (LO:=qK []) (p:=[0,1,1,0,0,1,0,0,1,0,1,1,1,1,1,1,1,1,1]) kU ?_;intro t K r hr;obtain ⟨hg,hr⟩:=qQ hr
 skip
 exact (lpSb K ws wl e wm e2 qa kq qq h1 p1 k1 x y okb t (jH hg)).trans hr
noncomputable def hSa (ws:Wsp) (_:Nat) (e:Nat→Int) (_:Nat) (_ qa:Nat→Int) (_:Nat) (qq:Nat→Int) (h1 p1 _ x y:Int) (_:Bool) (i:Int):St:=(exS ws qa qq h1 p1 i)
set_option maxRecDepth 100000 in
theorem rdSa (G:St→Option (Ret × Mem)) (K:Cont) (ws:Wsp) (wl:Nat) (e:Nat→Int) (wm:Nat) (e2 qa:Nat→Int) (kq:Nat) (qq:Nat→Int) (h1 p1 k1 x y:Int) (okb:Bool) (i:Int):stpT Tf 10 (orSa ws wl e wm e2 qa kq qq h1 p1 k1 x y okb) 60 (liSb ws wl e wm e2 qa kq qq h1 p1 k1 x y okb) [0,1,0,1,1,1,1,1,1,1,1,1] K G (hSa ws wl e wm e2 qa kq qq h1 p1 k1 x y okb i) =
 (bif (decide (i < (((scR ws qa).1):Int))) then (bif (inB i ((scR ws qa).1)) then (bif (inB i ((scR ws (slM ws qa h1 p1)).1)) then (bif (!decide (((plN (((slA ws qa)) (i).toNat)):Int)=((plN (((slB ws qa h1 p1)) (i).toNat)):Int))) then (K .ret ⟨[(10,.v (.b false))],[]⟩)
 else (bif (gSt (hSb ws wl e wm e2 qa kq qq h1 p1 k1 x y okb i 0) (hSb ws wl e wm e2 qa kq qq h1 p1 k1 x y okb i 0)) then (bif gP (slRC ws qa qq h1 p1 i) then (G (hSa ws wl e wm e2 qa kq qq h1 p1 k1 x y okb (vJJ .i64 (i + 1))))
 else none)
 else none))
 else none)
 else none)
 else (K (.exit 0) ⟨[],[]⟩)):=by kernel_rfl
theorem lpSa (K:Cont) (ws:Wsp) (wl:Nat) (e:Nat→Int) (wm:Nat) (e2 qa:Nat→Int) (kq:Nat) (qq:Nat→Int) (h1 p1 k1 x y:Int) (okb:Bool) (hS:kKK ws qa qq h1 p1):LFT Tf 10 (orSa ws wl e wm e2 qa kq qq h1 p1 k1 x y okb) 60 (liSb ws wl e wm e2 qa kq qq h1 p1 k1 x y okb) [0,1,0,1,1,1,1,1,1,1,1,1] K 60 (hSa ws wl e wm e2 qa kq qq h1 p1 k1 x y okb (ws.c:Int))=(K (.exit 0) ⟨[],[]⟩):=by
 obtain ⟨⟨hl,hc,h50⟩,hp,hr⟩:=hS;refine (kV (L:=LFT Tf 10 (orSa ws wl e wm e2 qa kq qq h1 p1 k1 x y okb) 60 (liSb ws wl e wm e2 qa kq qq h1 p1 k1 x y okb) [0,1,0,1,1,1,1,1,1,1,1,1] K) (stp:=stpT Tf 10 (orSa ws wl e wm e2 qa kq qq h1 p1 k1 x y okb) 60 (liSb ws wl e wm e2 qa kq qq h1 p1 k1 x y okb) [0,1,0,1,1,1,1,1,1,1,1,1] K) (fun _ _=>rfl) (fun (i:Nat) (_:Unit)=>hSa ws wl e wm e2 qa kq qq h1 p1 k1 x y okb (i:Int)) (fun i _=>ws.c≤i) (fun _ _=>true) (fun _ _=>()) (c:=(scR ws qa).1) (fun _=>(K (.exit 0) ⟨[],[]⟩)) (fun _ _=>none) (fun G i _ hi hv => ?_) (fun _ _ _ hv _=>Nat.le_succ_of_le hv) (fun G _ _ => ?_) ((scR ws qa).1 - ws.c) ws.c 60 () (by omega) (by omega) (Nat.le_refl _)).trans ?_
 ·refine (rdSa G K ws wl e wm e2 qa kq qq h1 p1 k1 x y okb i).trans ?_;have hrow:=hr i hv hi;have hC:slRC ws qa qq h1 p1 (i:Int):=⟨by omega,by omega,hl,hp,by rw [toN]; exact hrow⟩
  simp only [vJQ (show (i:Int) < ((scR ws qa).1:Int) by omega),yU hi,yU (show i < (scR ws (slM ws qa h1 p1)).1 by omega),toN,hrow.1,decide_true,Bool.not_true,yJ,qXJ hC,kK (show i < 1000000 by omega),vYV,vYG]
 ·refine (rdSa G K ws wl e wm e2 qa kq qq h1 p1 k1 x y okb (scR ws qa).1).trans ?_;rw [vYH (show ¬ ((scR ws qa).1:Int) < ((scR ws qa).1:Int) by omega)];rfl
 ·exact qZH _ _ _
theorem slT1 {s d:Int} (_:4≤s∧s≤7) (_: -1000≤d∧d≤1000):vJJ .i64 ((vJJ .i64 (s * (max d (vJJ .i64 (0 - d))))).tdiv 65536)=0:=by
 have e:vJJ .i64 (0 - d) = -d:=by rw [qX (by omega)]; omega
 rw [e];have hm:0≤max d (-d)∧max d (-d)≤1000:=by omega
 generalize max d (-d)=u at hm;have hb:0≤s * u∧s * u≤7000:=by
  have:s=4 ∨ s=5 ∨ s=6 ∨ s=7:=by omega
  rcases this with rfl | rfl | rfl | rfl <;> omega
 rw [qX (x:=s * u) (by omega),Int.tdiv_eq_zero_of_lt hb.1 (by omega)];rfl
theorem xYD {s:Int} {a b:Z3} (hs:4≤s∧s≤7) (h1 : -1000≤a.x - b.x∧a.x - b.x≤1000) (h2 : -1000≤a.y - b.y∧a.y - b.y≤1000) (h3 : -1000≤a.z - b.z∧a.z - b.z≤1000):slF s a b=8 + s:=by
 unfold slF;rw [qX (x:=a.x - b.x) (by omega),qX (x:=a.y - b.y) (by omega),qX (x:=a.z - b.z) (by omega),slT1 hs h1,slT1 hs h2,slT1 hs h3,Int.add_zero,Int.add_zero,Int.add_zero,qX (x:=8 + s) (by omega),qX (x:=8 + s) (by omega),qX (x:=8 + s) (by omega),qX (x:=8 + s) (by omega)]
theorem uZZ {s:Int} {u to:Z3} {a1 a2 a3 b1 b2 b3:Int} (hs:4≤s∧s≤7) (h1 : -1000≤u.x - to.x∧u.x - to.x≤1000) (h2 : -1000≤u.y - to.y∧u.y - to.y≤1000) (h3 : -1000≤u.z - to.z∧u.z - to.z≤1000) (_:(0≤b1∧b1≤100)∧(0≤b2∧b2≤100)∧0≤b3∧b3≤100)
  (hd:(-s≤a1 - b1∧a1 - b1≤s)∧(-s≤a2 - b2∧a2 - b2≤s) ∧ -s≤a3 - b3∧a3 - b3≤s):slQ s u to (v3p a1 a2 a3) (v3p b1 b2 b3):=by
 unfold slQ v3p;rw [xYD hs h1 h2 h3];dsimp only;rw [qX (x:=b1 - (8 + s)) (by omega),qX (x:=b1 + (8 + s)) (by omega),qX (x:=b2 - (8 + s)) (by omega),qX (x:=b2 + (8 + s)) (by omega),qX (x:=b3 - (8 + s)) (by omega),qX (x:=b3 + (8 + s)) (by omega)];omega
theorem uHQ {ws:Wsp} (h:MadeW ws) {h1 p1:Int} {kq:Nat} {qq:Nat→Int} (ha:atB ws h1 p1 kq qq=true):(kq≤50∧smQ qq kq=true∧isB (ptB qq) ws.n kq=true)∧(0≤qq 0∧qq 0≤64)∧(0≤qq 1∧qq 1≤64)∧(0≤h1∧h1 < (ws.nh:Int))∧(0≤p1∧p1 < (ws.np:Int)) ∧
  (-ws.slack≤qq 0 - (ws.pl p1.toNat).x∧qq 0 - (ws.pl p1.toNat).x≤ws.slack)∧(-ws.slack≤qq 1 - (ws.pl p1.toNat).y∧qq 1 - (ws.pl p1.toNat).y≤ws.slack) ∧ -ws.slack≤(ws.hd h1.toNat).off.z∧(ws.hd h1.toNat).off.z≤ws.slack:=by
 unfold atB at ha;simp only [vQJ] at ha;obtain ⟨_,hk,hq,hc⟩:=ha;obtain ⟨k1,k2⟩:=jZZ hk;obtain ⟨s1,s2,s3,s4,s5⟩:=uUA hq;obtain ⟨_,_,q3⟩:=yHH hq;have hn:=h.n;have g0:0≤qq 0∧qq 0≤64:=by have:=q3 0 (by omega); rw [h.js] at this; exact this
 have g1:0≤qq 1∧qq 1≤64:=by have:=q3 1 (by omega); rw [h.js] at this; exact this
 have hd:=h.hd h1.toNat (by omega);have hp:=h.pl p1.toNat (by omega);have hs:=h.slack;unfold HdOk at hd;unfold PlOk at hp;rw [hd.1,h.js,h.n] at hc;change atC ws.slack (ws.hd h1.toNat).off (ws.pl p1.toNat) (LP slJ (ptB qq) 2 1)=true at hc;rw [fZU qq g0 g1] at hc;have hv:Po.app (Po.shift (v3p (qq 0) (qq 1) 0)) (V3.of (ws.hd h1.toNat).off)=v3p (qq 0) (qq 1) (ws.hd h1.toNat).off.z:=by
  refine (yHZ (by omega) (by omega) ⟨by omega,by omega,by omega⟩).trans ?_;rw [hd.2.1.1,hd.2.1.2,Int.add_zero,Int.add_zero]
 unfold atC at hc;rw [hv] at hc;unfold v3p at hc;simp only [vQJ,Bool.not_eq_true',decide_eq_false_iff_not] at hc;rw [qX (x:=(ws.pl p1.toNat).x - ws.slack) (by omega),qX (x:=(ws.pl p1.toNat).x + ws.slack) (by omega),qX (x:=(ws.pl p1.toNat).y - ws.slack) (by omega),qX (x:=(ws.pl p1.toNat).y + ws.slack) (by omega),qX (x:=(ws.pl p1.toNat).z - ws.slack) (by omega),qX (x:=(ws.pl p1.toNat).z + ws.slack) (by omega)] at hc;refine ⟨⟨by omega,s4,s5⟩,g0,g1,k1,k2,?_⟩;omega
theorem xYC {ws:Wsp} (h:MadeW ws) {qa:Nat→Int} {kq:Nat} {qq:Nat→Int} {h1 p1:Int} (ht:slT ws qa kq qq h1 p1=true):vlB ws ws.no qa=true∧vlB ws ws.no (slM ws qa h1 p1)=true∧(kq≤50∧smQ qq kq=true∧isB (ptB qq) ws.n kq=true)∧(scR ws (slM ws qa h1 p1)).1=(scR ws qa).1∧sErr ws.js ws.ms (slA ws qa) ws.sk ws.n ws.m (scR ws qa).1 ws.d=0∧sErr ws.js ws.ms (slB ws qa h1 p1) ws.sk ws.n ws.m (scR ws (slM ws qa h1 p1)).1 ws.d=0∧kKK ws qa qq h1 p1:=by
 have hnh:=h.nh;have hnp:=h.np;have hno:=h.no;have hwc:=h.c;have hsl:=h.slack;have hr:=(uXX (by omega) (by omega) ht).2.2.2.1;unfold slT tkC at ht;rw [vQJ,vQJ] at ht;obtain ⟨hv,hat,hm⟩:=ht;obtain ⟨k1,g0,g1,k2,k3,d1,d2,d3⟩:=uHQ h hat;have hv2:vlB ws ws.no (slM ws qa h1 p1)=true:=hr;have c1:=xHY h hv;have c2:=xHY h hv2;refine ⟨hv,hv2,k1,c2.trans c1.symm,uYU h hv,uYU h hv2,⟨c2.trans c1.symm,by omega,by omega⟩,zQK k3,fun i hi1 hi2 => ?_⟩;obtain ⟨o,rfl⟩:∃ o,i=ws.c + o:=⟨i - ws.c,by omega⟩
 have ho:o < ws.no:=by omega
 have eA:slA ws qa (ws.c + o)=obR ws qa o:=yHY h qa o ho;have eB:slB ws qa h1 p1 (ws.c + o)=obR ws (slM ws qa h1 p1) o:=yHY h _ o ho;have oA:shOk (obR ws qa o)=true:=by
  have:=(kKW (qWW h) hv).2.2 (ws.c + o) (by omega)
  rw [yHY h qa o ho] at this;exact (qHY this).2
 have oB:shOk (obR ws (slM ws qa h1 p1) o)=true:=by
  have:=(kKW (qWW h) hv2).2.2 (ws.c + o) (by omega)
  rw [yHY h _ o ho] at this;exact (qHY this).2
 have nA:=xVZ h qa ho;have nB:=xVZ h (slM ws qa h1 p1) ho;have pA:plN (obR ws qa o)=1:=by unfold plN; rw [oA,vYV]; exact nA
 have pB:plN (obR ws (slM ws qa h1 p1) o)=1:=by unfold plN; rw [oB,vYV]; exact nB
 unfold uUC;rw [eA,eB,pA,pB,nA];refine ⟨rfl,by omega,by omega,fun j hj => ?_⟩;obtain rfl:j=0:=by omega
 unfold slV;rw [eA,eB];have rA:∀ o,o < ws.no → -(ws.nh:Int)≤qa o∧qa o < (ws.np:Int):=(zKF hv).2.2;have rB:∀ o,o < ws.no → -(ws.nh:Int)≤slM ws qa h1 p1 o∧slM ws qa h1 p1 o < (ws.np:Int):=(zKF hv2).2.2;obtain ⟨a1,a2,a3,ea,ba,ua,la,ha⟩:=xJY h g0 g1 rA ho;obtain ⟨b1,b2,b3,eb,bb,ub,lb,hb⟩:=xJY h g0 g1 rB ho;have hp:=h.pl p1.toNat (by omega);unfold PlOk at hp;unfold mvC at hm;rw [vQJ] at hm;obtain ⟨z,hz,hzq,hmv⟩:=jGG (y:=vJJ .i64 ((-1) - h1)) hm.1;have hmo:slM ws qa h1 p1 o=if o=z then vJJ .i64 ((-1) - h1) else qa o:=hmv o
 have eW:vJJ .i64 ((-1) - h1) = -1 - h1:=qX (by omega);by_cases e:o=z
 ·subst e;rw [if_pos rfl,eW] at hmo;obtain ⟨l1,l2,l3⟩:=la (by omega);obtain ⟨l4,l5,l6⟩:=hb (by omega);rw [hzq] at l1 l2;rw [hmo,show (-1 - (-1 - h1)).toNat=h1.toNat by omega] at l6;rw [ea,eb];exact uZZ hsl (by omega) (by omega) (by omega) (by omega) (by omega)
 ·rw [if_neg e] at hmo;have eo:obR ws (slM ws qa h1 p1) o=obR ws qa o:=by unfold obR; rw [hmo]
  rw [eo,ea];exact uZZ hsl (by omega) (by omega) (by omega) (by omega) (by omega)
noncomputable def kVJ (ws:Wsp) (wl:Nat) (e:Nat→Int) (wm:Nat) (e2 qa:Nat→Int) (kq:Nat) (qq:Nat→Int) (h1 p1 k1 x y:Int) (okb:Bool):List (List Nat × yG):=[([0,1,0,1,1,1,1,1,1,1,1,1],sumF (fun _:Unit=>(hSa ws wl e wm e2 qa kq qq h1 p1 k1 x y okb (ws.c:Int))) (fun _=>()) (fun _ K=>(bif gP (kKK ws qa qq h1 p1) then (K (.exit 0) ⟨[],[]⟩) else none)))]
set_option maxRecDepth 100000 in
theorem fJY (ws:Wsp) (wl:Nat) (e:Nat→Int) (wm:Nat) (e2 qa:Nat→Int) (kq:Nat) (qq:Nat→Int) (h1 p1 k1 x y:Int) (okb:Bool):qQZ Tf (orSa ws wl e wm e2 qa kq qq h1 p1 k1 x y okb) (qK (kVJ ws wl e wm e2 qa kq qq h1 p1 k1 x y okb)) 60 10 [.lf wl (fQ e),.lf wm (fQ e2),.n .i64 k1,.n .i64 x,.n .i64 y] =
 (bif (g1 [.lf wl (fQ e),.lf wm (fQ e2),.n .i64 k1,.n .i64 x,.n .i64 y]) then (bif okb then (bif (gF1 ctk etk (ws,ws.no,qa,kq,qq,h1,p1)) then (bif (slT ws qa kq qq h1 p1) then (bif (gF1 csv esv (ws,ws.no,qa)) then (bif (gF1 csv esv (ws,(slK ws qa kq qq h1 p1),(slM ws qa h1 p1))) then (bif (!decide (((scR ws qa).1:Int)=((scR ws (slM ws qa h1 p1)).1:Int))) then some (.v (.b false),[])
 else (bif (gF1 cry ery (kq,qq)) then (bif (gF1 cpt9 ept9 (ws.js,ws.ms,((slA ws qa)),ws.sk,ws.n,ws.m,((scR ws qa).1),ws.d,(ptB qq),(bif smQ qq kq then kq else 0))) then (bif (gF1 cry ery (kq,qq)) then (bif (gF1 cpt9 ept9 (ws.js,ws.ms,((slB ws qa h1 p1)),ws.sk,ws.n,ws.m,((scR ws (slM ws qa h1 p1)).1),ws.d,(ptB qq),(bif smQ qq kq then kq else 0))) then (bif (!decide ((((scR ws qa).1):Int)=(((scR ws (slM ws qa h1 p1)).1):Int))) then some (.v (.b false),[])
 else (bif (gSt (hSa ws wl e wm e2 qa kq qq h1 p1 k1 x y okb (ws.c:Int)) (hSa ws wl e wm e2 qa kq qq h1 p1 k1 x y okb (ws.c:Int))) then (bif gP (kKK ws qa qq h1 p1) then (bif (g1 []) then some (.v (.b true),[])
 else none)
 else none)
 else none))
 else none)
 else none)
 else none)
 else none))
 else none)
 else none)
 else (bif (gF1 csv esv (ws,ws.no,qa)) then (bif (gF1 csv esv (ws,(slK ws qa kq qq h1 p1),(slM ws qa h1 p1))) then some (.v (.b false),[])
 else none)
 else none))
 else none)
 else (bif (g1 []) then some (.v (.b true),[])
 else none))
 else none):=by kernel_rfl
theorem uKG (ws:Wsp) (wl:Nat) (e:Nat→Int) (wm:Nat) (e2 qa:Nat→Int) (kq:Nat) (qq:Nat→Int) (h1 p1 k1 x y:Int) (okb:Bool) (hA:zG Tryz.prog 16 [] (.v (.b true))) (hT:zG Tryz.prog 31 [.lf wl (fQ e),.lf wm (fQ e2),.n .i64 k1,.n .i64 x,.n .i64 y] (.v (.t [.a (wP ws),.a [.lf ws.no (fQ qa)],.n .i64 h1,.n .i64 p1,.lf kq (fQ qq),.b okb]))) (hm:MadeW ws) (hk:okb=true→slT ws qa kq qq h1 p1=true):zG Tryz.prog 10 [.lf wl (fQ e),.lf wm (fQ e2),.n .i64 k1,.n .i64 x,.n .i64 y] (.v (.b true)):=by
 refine zK (N:=60) (LO:=qK (kVJ ws wl e wm e2 qa kq qq h1 p1 k1 x y okb)) jV yQ (kQ (l:=[(16,o_cr [] (.v (.b true))),(31,o_cr [.lf wl (fQ e),.lf wm (fQ e2),.n .i64 k1,.n .i64 x,.n .i64 y] (.v (.t [.a (wP ws),.a [.lf ws.no (fQ qa)],.n .i64 h1,.n .i64 p1,.lf kq (fQ qq),.b okb]))),(32,o_tk),(36,o_sv),(26,o_ry),(40,uVE)]) (m:=[]) ⟨qVK hA,qVK hT,fKL,xUC,xUI,xXX,trivial⟩ trivial) (fun p S hp => ?_) ?_
 ·refine zQ (L:=qY Tf 10) (l:=(kVJ ws wl e wm e2 qa kq qq h1 p1 k1 x y okb)) (show AllP _ (kVJ ws wl e wm e2 qa kq qq h1 p1 k1 x y okb) from ⟨?_,trivial⟩) p S hp
  ·dsimp only;refine jK (T:=Tf) (o:=(orSa ws wl e wm e2 qa kq qq h1 p1 k1 x y okb)) (f:=10) (LO:=(qK (liSb ws wl e wm e2 qa kq qq h1 p1 k1 x y okb))) (p:=[0,1,0,1,1,1,1,1,1,1,1,1]) (okSb ws wl e wm e2 qa kq qq h1 p1 k1 x y okb) ?_;intro t K r hr;obtain ⟨hg,hr⟩:=qQ hr
   skip
   exact (lpSa K ws wl e wm e2 qa kq qq h1 p1 k1 x y okb (jH hg)).trans hr
 ·refine (fJY ws wl e wm e2 qa kq qq h1 p1 k1 x y okb).trans ?_;cases hob:okb with
  | false=>simp only [g1_t,vYV,vYG]
  | true =>
   have ht:=hk hob;obtain ⟨v1,v2,⟨k1,k2,k3⟩,hl,e1,e2,ha⟩:=xYC hm ht;have o2:=qWW hm;have hK:slK ws qa kq qq h1 p1=ws.no:=by unfold slK; rw [ht]; rfl
   simp only [g1_t,jX (C:=ctk) (t:=(ws,ws.no,qa,kq,qq,h1,p1)) o2,ht,jX (C:=csv) (t:=(ws,ws.no,qa)) ⟨o2,v1⟩,hK,jX (C:=csv) (t:=(ws,ws.no,slM ws qa h1 p1)) ⟨o2,v2⟩,hl,decide_true,Bool.not_true,jX (C:=cry) (t:=(kq,qq)) k1,k2,vYV,vYG];rw [jX (C:=cpt9) (t:=(ws.js,ws.ms,slA ws qa,ws.sk,ws.n,ws.m,(scR ws qa).1,ws.d,ptB qq,kq)) ⟨by omega,k3,e1⟩,jX (C:=cpt9) (t:=(ws.js,ws.ms,slB ws qa h1 p1,ws.sk,ws.n,ws.m,(scR ws qa).1,ws.d,ptB qq,kq)) ⟨by omega,k3,hl ▸ e2⟩];simp only [yJ,qXJ ha,vYV]
theorem snd_law (hA:zG Tryz.prog 16 [] (.v (.b true))) (l:List Int) (hl:l.length≤9223372036854775807) (m:List Int) (hm1:m.length≤9223372036854775807) (k1 x y:Int):zG Tryz.prog 10 [yVC l,yVC m,.n .i64 k1,.n .i64 x,.n .i64 y] (.v (.b true)):=by
 obtain ⟨ws,hm,hW⟩:=xZA l.length (iqOf l) hl;obtain ⟨qa,_,hM⟩:=uGK hm m.length (iqOf m) hm1;have hg:=hm.ng;obtain ⟨kq,qq,h1,p1,okb,hT,hk⟩:=xZF ws _ _ _ _ qa _ k1 x y hW hM (xGQ hm k1 x y) (qWW hm) (by omega);refine yHQ (fun F w vals h=>Sames.al (xs:=[yVC l,yVC m,.n .i64 k1,.n .i64 x,.n .i64 y]) (ys:=[.lf l.length (fQ (iqOf l)),.lf m.length (fQ (iqOf m)),.n .i64 k1,.n .i64 x,.n .i64 y]) ⟨yKJ l,yKJ m,fun _ _ _ h=>h,fun _ _ _ h=>h,fun _ _ _ h=>h,trivial⟩ h) ?_;exact uKG ws _ _ _ _ qa kq qq h1 p1 k1 x y okb hA hT hm hk
end Go.Proofs.YtmeldddgjfocdaaGreat.Ib

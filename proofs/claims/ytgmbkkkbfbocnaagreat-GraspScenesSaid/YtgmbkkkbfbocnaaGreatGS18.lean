/- Part 18 of the texts behind the last one: rules and contracts. No condition. -/
import Derived.Test.YtgmbkkkbfbocnaaGreatGS17
open Option renaming bind_eq_some_iff → vQQ
open Option.some renaming injEq → vQZ
open Bool renaming and_eq_true → vQJ
open List renaming getElem?_eq_getElem → vQK, mem_cons_of_mem → vQH, mem_cons_self → vZQ, getElem?_map → vZY, drop_zero → vYW
open Nat renaming eq_of_beq_eq_true → vQX, le_of_ble_eq_true → vZX
open Go.IntKind renaming wrap → vJJ
namespace Go.Proofs.YtgmbkkkbfbocnaaGreat.Hn
open Go.Rx Rt Go.Sx Go.RowKit Od Na Nb Nc Nx Nf Nl Nm Ga Gb Gc Gd Ge Gf Gg Sn Ha Hb Hc Hd He Hf Hg Hh Hi Hj Hk Hm
noncomputable def orUs (k:Nat) (q:Nat→Int) (x:Int):OrS:=orS [] []
noncomputable def hUs (k:Nat) (q:Nat→Int) (x:Int) (i:Int):St:=⟨[(0,.v (.lf k (fQ q))),(1,.v (.n .i64 x)),(5,.v (.n .i64 i))],[]⟩
set_option maxRecDepth 100000 in
theorem rdUs (G:St→Option (Ret × Mem)) (K:Cont) (k:Nat) (q:Nat→Int) (x:Int) (i:Int):jJ 60 (cxS Tf (orUs k q x) 60 64 (ntmF Tf 64)) (evX Tf (orUs k q x) 60 64 (ntmF Tf 64)) (qZ []) (qQ Tf 64 [0,1,0,1]) [0,1,0,1] (Tf.hint 64 (qJ (qQ Tf 64 [0,1,0,1]))) K G (hUs k q x i) =
 (bif (decide (i < (k:Int))) then (bif (inB i k) then (bif (decide ((q (i).toNat)=x)) then (K .ret ⟨[(4,.v (.b true))],[]⟩)
 else (G (hUs k q x (vJJ .i64 (i + 1)))))
 else none)
 else (K (.exit 0) ⟨[],[]⟩)):=by kernel_rfl
theorem lpUs (K:Cont) (k:Nat) (q:Nat→Int) (x:Int) (_:k≤50):LFX 60 (cxS Tf (orUs k q x) 60 64 (ntmF Tf 64)) (evX Tf (orUs k q x) 60 64 (ntmF Tf 64)) (qZ []) (qQ Tf 64 [0,1,0,1]) [0,1,0,1] (Tf.hint 64 (qJ (qQ Tf 64 [0,1,0,1]))) K 60 (hUs k q x 0)=bif (allN (fun i:Nat => !decide (q i=x)) k 0) then (K (.exit 0) ⟨[],[]⟩) else (K .ret ⟨[(4,.v (.b true))],[]⟩):=by
 refine (kW (L:=LFX 60 (cxS Tf (orUs k q x) 60 64 (ntmF Tf 64)) (evX Tf (orUs k q x) 60 64 (ntmF Tf 64)) (qZ []) (qQ Tf 64 [0,1,0,1]) [0,1,0,1] (Tf.hint 64 (qJ (qQ Tf 64 [0,1,0,1]))) K) (stp:=jJ 60 (cxS Tf (orUs k q x) 60 64 (ntmF Tf 64)) (evX Tf (orUs k q x) 60 64 (ntmF Tf 64)) (qZ []) (qQ Tf 64 [0,1,0,1]) [0,1,0,1] (Tf.hint 64 (qJ (qQ Tf 64 [0,1,0,1]))) K) (fun _ _=>rfl) (fun (i:Nat) (_:Unit)=>hUs k q x (i:Int)) (fun _ _=>True) (fun (i:Nat) _ => !decide (q i=x)) (fun _ _=>()) (c:=k) (fun _=>(K (.exit 0) ⟨[],[]⟩)) (fun i _=>(K .ret ⟨[(4,.v (.b true))],[]⟩)) (fun G i f hi _ => ?_) (fun _ _ _ _ _=>trivial) (fun G f _ => ?_) k 0 60 () (by omega) (by omega) trivial).trans ((yH _ _ _ _ _).trans (qQV _ _ _ _ _))
 ·refine (rdUs G K k q x i).trans ?_;rw [vJQ (show (i:Int) < (k:Int) by omega),kY (by omega),yZ (show i < k by omega),toN];cases decide (q i=x) <;> rfl
 ·refine (rdUs G K k q x k).trans ?_;rw [vYH (show ¬ (k:Int) < (k:Int) by omega)];rfl
noncomputable def kUX (k:Nat) (q:Nat→Int) (x:Int):List (List Nat × jG):=[([0,1,0,1],sumF (fun _:Unit=>(hUs k q x 0)) (fun _=>()) (fun _ K=>(bif (decide (k≤50)) then (bif (allN (fun i:Nat => !decide (q i=x)) k 0) then (K (.exit 0) ⟨[],[]⟩) else (K .ret ⟨[(4,.v (.b true))],[]⟩)) else none)))]
set_option maxRecDepth 100000 in
theorem xGY (k:Nat) (q:Nat→Int) (x:Int):uJ Tf (orUs k q x) (qZ (kUX k q x)) 60 64 [.lf k (fQ q),.n .i64 x] =
 (bif (gSt (hUs k q x 0) (hUs k q x 0)) then (bif (decide (k≤50)) then (bif (allN (fun i:Nat => !decide (q i=x)) k 0) then some (.v (.b false),[])
 else some (.v (.b true),[]))
 else none)
 else none):=by kernel_rfl
theorem uQD (k:Nat) (q:Nat→Int) (x:Int) (hk:k≤50):yK Tryz.prog 64 [.lf k (fQ q),.n .i64 x] (.v (.b (hasQ q k x))):=by
 refine zZ (N:=60) (LO:=qZ (kUX k q x)) jU zW (jW (l:=[]) (m:=[]) trivial trivial) (fun p S hp => ?_) ?_
 ·refine qH (L:=qQ Tf 64) (l:=(kUX k q x)) (show AllP _ (kUX k q x) from ⟨?_,trivial⟩) p S hp
  ·dsimp only;refine jY (T:=Tf) (o:=(orUs k q x)) (f:=64) (LO:=qZ []) (p:=[0,1,0,1]) kK ?_;intro t K r hr;obtain ⟨hg,hr⟩:=qY hr;have hk:=vJZ hg;exact (lpUs K k q x hk).trans hr
 ·refine (xGY k q x).trans ?_;unfold hasQ;rw [yU,vJQ hk];cases allN (fun i:Nat => !decide (q i=x)) k 0 <;> rfl
def cus:Nat × (Nat→Int) × Int→Prop:=fun t=>match t with | (k,_,_)=>k≤50
def eus:Nat × (Nat→Int) × Int→List PV:=fun t=>match t with | (k,q,x)=>[.lf k (fQ q),.n .i64 x]
noncomputable def rus:Nat × (Nat→Int) × Int→Ret:=fun t=>match t with | (k,q,x)=>.v (.b (hasQ q k x))
def dus:List PV→Nat × (Nat→Int) × Int:=fun ps=>match ps with
 | [.lf k f,.n _ x]=>(k,unFQ f,x)
 | _=>(0,fun _=>0,0)
noncomputable def o_us:List PV→Option (Bool × Ret):=o_fm dus cus eus rus
theorem xZW:zY Tryz.prog 64 o_us:=uK fun t h=>by
 obtain ⟨k,q,x⟩:=t;exact uQD k q x h
noncomputable def orMd (_:Wsp) (_ _:Nat) (e:Nat→Int):OrS:=orS [(64,o_us)] [(30,o_nx)]
noncomputable def hMd (ws:Wsp) (no wl:Nat) (e:Nat→Int) (i:Int) (k:Int) (m2:Nat) (r:Nat) (q:Nat→Int):St:=⟨[(2,.p 2 0),(4,.p 4 0),(5,.p 10 0),(6,.p 6 0),(7,.v (.n .i64 i)),(8,.v (.n .i64 k))],[(2,.blk [.v (.lf ws.n (fJ ws.js)),.v (.lf ws.m (fM ws.ms)),.v (.lf ws.c (fS ws.sh)),.v (.lf ws.d (fK ws.sk)),.v (.lf no (fO ws.ob)),.v (.lf ws.np (fZ ws.pl)),.v (.lf ws.nh (fH ws.hd)),.v (.lf ws.ng (fG ws.gr)),.v (.n .i64 ws.slack)]),(4,.blk [.nl]),(6,.blk [.o 57]),(10,.blk [.v (.lf wl (fQ e)),.v (.n .i64 (m2:Int))]),(57,.reg 3 1 (.fo r (fQ q)))]⟩
set_option maxRecDepth 100000 in
theorem rdMd (G:St→Option (Ret × Mem)) (K:Cont) (ws:Wsp) (no wl:Nat) (e:Nat→Int) (i:Int) (k:Int) (m2:Nat) (r:Nat) (q:Nat→Int):jJ 60 (cxS Tf (orMd ws no wl e) 60 19 (ntmF Tf 19)) (evX Tf (orMd ws no wl e) 60 19 (ntmF Tf 19)) (qZ []) (qQ Tf 19 [0,0,1,0,0,1,0,0,1,0,1,1,1]) [0,0,1,0,0,1,0,0,1,0,1,1,1] (Tf.hint 19 (qJ (qQ Tf 19 [0,0,1,0,0,1,0,0,1,0,1,1,1]))) K G (hMd ws no wl e i k m2 r q) =
 (bif (gF1 cus eus (r,q,k)) then (bif (hasQ q r k) then (bif (decide ((vJJ .i64 ((ws.np:Int) + (ws.nh:Int)))=0)) then none
 else (G (hMd ws no wl e i (vJJ .i64 (((vJJ .i64 ((vJJ .i64 (k + 1)) + (ws.nh:Int))).tmod (vJJ .i64 ((ws.np:Int) + (ws.nh:Int)))) - (ws.nh:Int))) m2 r q)))
 else (K (.exit 2) ⟨[(2,.p 2 0),(4,.p 4 0),(5,.p 10 0),(6,.p 6 0),(7,.v (.n .i64 i)),(8,.v (.n .i64 k))],[(2,.blk [.v (.lf ws.n (fJ ws.js)),.v (.lf ws.m (fM ws.ms)),.v (.lf ws.c (fS ws.sh)),.v (.lf ws.d (fK ws.sk)),.v (.lf no (fO ws.ob)),.v (.lf ws.np (fZ ws.pl)),.v (.lf ws.nh (fH ws.hd)),.v (.lf ws.ng (fG ws.gr)),.v (.n .i64 ws.slack)]),(4,.blk [.nl]),(6,.blk [.o 57]),(10,.blk [.v (.lf wl (fQ e)),.v (.n .i64 (m2:Int))]),(57,.reg 3 1 (.fo r (fQ q)))]⟩))
 else none):=by kernel_rfl
def mdK (ws:Wsp) (k:Int):Int:=vJJ .i64 (((vJJ .i64 ((vJJ .i64 (k + 1)) + (ws.nh:Int))).tmod (vJJ .i64 ((ws.np:Int) + (ws.nh:Int)))) - (ws.nh:Int))
def mdS (ws:Wsp) (r:Nat) (q:Nat→Int) (k:Int):Int:=bif hasQ q r k then mdK ws k else k
theorem lpMd (K:Cont) (ws:Wsp) (no wl:Nat) (e:Nat→Int) (i k:Int) (m2 r:Nat) (q:Nat→Int) (h:(r≤50∧¬ vJJ .i64 ((ws.np:Int) + (ws.nh:Int))=0∧hasQ q r (mdS ws r q k)=false)):LFX 60 (cxS Tf (orMd ws no wl e) 60 19 (ntmF Tf 19)) (evX Tf (orMd ws no wl e) 60 19 (ntmF Tf 19)) (qZ []) (qQ Tf 19 [0,0,1,0,0,1,0,0,1,0,1,1,1]) [0,0,1,0,0,1,0,0,1,0,1,1,1] (Tf.hint 19 (qJ (qQ Tf 19 [0,0,1,0,0,1,0,0,1,0,1,1,1]))) K 60 (hMd ws no wl e i k m2 r q)=(K (.exit 2) ⟨[(2,.p 2 0),(4,.p 4 0),(5,.p 10 0),(6,.p 6 0),(7,.v (.n .i64 i)),(8,.v (.n .i64 (mdS ws r q k)))],[(2,.blk [.v (.lf ws.n (fJ ws.js)),.v (.lf ws.m (fM ws.ms)),.v (.lf ws.c (fS ws.sh)),.v (.lf ws.d (fK ws.sk)),.v (.lf no (fO ws.ob)),.v (.lf ws.np (fZ ws.pl)),.v (.lf ws.nh (fH ws.hd)),.v (.lf ws.ng (fG ws.gr)),.v (.n .i64 ws.slack)]),(4,.blk [.nl]),(6,.blk [.o 57]),(10,.blk [.v (.lf wl (fQ e)),.v (.n .i64 (m2:Int))]),(57,.reg 3 1 (.fo r (fQ q)))]⟩):=by
 obtain ⟨hr,hz,hq⟩:=h;refine (rdMd (LFX 60 (cxS Tf (orMd ws no wl e) 60 19 (ntmF Tf 19)) (evX Tf (orMd ws no wl e) 60 19 (ntmF Tf 19)) (qZ []) (qQ Tf 19 [0,0,1,0,0,1,0,0,1,0,1,1,1]) [0,0,1,0,0,1,0,0,1,0,1,1,1] (Tf.hint 19 (qJ (qQ Tf 19 [0,0,1,0,0,1,0,0,1,0,1,1,1]))) K 59) K ws no wl e i k m2 r q).trans ?_;rw [jQ (C:=cus) (t:=(r,q,k)) hr,vYV,vYH hz,vYG];unfold mdS at hq ⊢;cases hk:hasQ q r k with
 | false=>rfl
 | true =>
  rw [hk,vYV] at hq;rw [vYV,vYV];refine (rdMd (LFX 60 (cxS Tf (orMd ws no wl e) 60 19 (ntmF Tf 19)) (evX Tf (orMd ws no wl e) 60 19 (ntmF Tf 19)) (qZ []) (qQ Tf 19 [0,0,1,0,0,1,0,0,1,0,1,1,1]) [0,0,1,0,0,1,0,0,1,0,1,1,1] (Tf.hint 19 (qJ (qQ Tf 19 [0,0,1,0,0,1,0,0,1,0,1,1,1]))) K 58) K ws no wl e i (mdK ws k) m2 r q).trans ?_;rw [jQ (C:=cus) (t:=(r,q,mdK ws k)) hr,hq];rfl
theorem zYE {q:Nat→Int} {x:Int}:hasQ q 1 x=decide (q 0=x):=by
 show (!((!decide (q 0=x)) && true))=_;cases decide (q 0=x) <;> rfl
def inR (ws:Wsp) (k:Int):Prop:=-(ws.nh:Int)≤k∧k < (ws.np:Int)
theorem jVH {ws:Wsp} {k:Int} (h:inR ws k) (_:ws.nh≤50):inM ws k=true:=by
 unfold inR at h;unfold inM;have e:vJJ .i64 (0 - (ws.nh:Int)) = -(ws.nh:Int):=by rw [qV (by omega)]; omega
 rw [e,vYH (show ¬ k < -(ws.nh:Int) by omega),vYH (show ¬ (ws.np:Int)≤k by omega)]; rfl
theorem xJE {ws:Wsp} (_:1≤ws.np∧ws.np≤50) (_:1≤ws.nh∧ws.nh≤50) {k:Int} (h:inR ws k):inR ws (mdK ws k)∧mdK ws k ≠ k:=by
 unfold inR at h ⊢;have e:mdK ws k=(k + 1 + (ws.nh:Int)) % ((ws.np:Int) + (ws.nh:Int)) - (ws.nh:Int):=by
  unfold mdK;rw [show vJJ .i64 (k + 1)=k + 1 from qV (by omega),show vJJ .i64 (k + 1 + (ws.nh:Int))=k + 1 + (ws.nh:Int) from qV (by omega),show vJJ .i64 ((ws.np:Int) + (ws.nh:Int))=(ws.np:Int) + (ws.nh:Int) from qV (by omega),Int.tmod_eq_emod_of_nonneg (by omega)];have h1:=Int.emod_nonneg (k + 1 + (ws.nh:Int)) (show (ws.np:Int) + (ws.nh:Int) ≠ 0 by omega);have h2:=Int.emod_lt_of_pos (k + 1 + (ws.nh:Int)) (show (0:Int) < (ws.np:Int) + (ws.nh:Int) by omega);exact qV (by omega)
 rw [e];by_cases hk:k + 1 + (ws.nh:Int)=(ws.np:Int) + (ws.nh:Int)
 ·rw [hk,Int.emod_self]; omega
 ·rw [Int.emod_eq_of_lt (by omega) (by omega)]; omega
theorem kGI {ws:Wsp} (hp:1≤ws.np∧ws.np≤50) (hh:1≤ws.nh∧ws.nh≤50) {q:Nat→Int} {k:Int} (h:inR ws k):hasQ q 1 (mdS ws 1 q k)=false∧inR ws (mdS ws 1 q k):=by
 have h1:=xJE hp hh h;unfold mdS;rw [zYE,zYE];by_cases e:q 0=k
 ·rw [vJQ e,vYV,vYH (by rw [e]; exact fun h=>h1.2 h.symm)];exact ⟨rfl,h1.1⟩
 ·rw [vYH e,vYG,vYH e];exact ⟨rfl,h⟩
noncomputable def mdA (ws:Wsp) (wl:Nat) (e:Nat→Int):Nat→Int:=(fun v=>(bif (Nat.beq v 0) then (mdS ws 0 (fun _=>0) (vJJ .i64 ((nxV e wl 0 (vJJ .i64 ((ws.np:Int) + (ws.nh:Int)))) - (ws.nh:Int)))) else 0))
noncomputable def mdB (ws:Wsp) (wl:Nat) (e:Nat→Int):Nat→Int:=fun v=>(bif (Nat.beq v 1) then (mdS ws 1 (mdA ws wl e) (vJJ .i64 ((nxV e wl (mA wl 0 1) (vJJ .i64 ((ws.np:Int) + (ws.nh:Int)))) - (ws.nh:Int)))) else mdA ws wl e v)
theorem kin {ws:Wsp} (_:1≤ws.np∧ws.np≤50) (_:1≤ws.nh∧ws.nh≤50) (wl:Nat) (e:Nat→Int) (m:Nat):inR ws (vJJ .i64 ((nxV e wl m (vJJ .i64 ((ws.np:Int) + (ws.nh:Int)))) - (ws.nh:Int))):=by
 have hk:(vJJ .i64 ((ws.np:Int) + (ws.nh:Int)))=(ws.np:Int) + (ws.nh:Int):=qV (by omega);have b:=qKH (e:=e) (w:=wl) (m:=m) (k:=(vJJ .i64 ((ws.np:Int) + (ws.nh:Int)))) (by rw [hk]; omega);rw [hk] at b ⊢;unfold inR;rw [qV (by omega)];omega
noncomputable def yGH (ws:Wsp) (wl:Nat) (e:Nat→Int):List (List Nat × jG):=[([0,0,1,0,0,1,0,0,1,0,1,1,1],sumF (fun t:Int × Int × Nat × Nat × (Nat→Int)=>(hMd ws 1 wl e t.1 t.2.1 t.2.2.1 t.2.2.2.1 t.2.2.2.2)) (fun σ=>(slI σ 7,slI σ 8,(bkC σ 10 1).toNat,rgN σ 57,unFQ (rgF σ 57))) (fun t K=>(bif (gP (t.2.2.2.1≤50∧¬ vJJ .i64 ((ws.np:Int) + (ws.nh:Int))=0∧hasQ t.2.2.2.2 t.2.2.2.1 (mdS ws t.2.2.2.1 t.2.2.2.2 t.2.1)=false)) then (K (.exit 2) ⟨[(2,.p 2 0),(4,.p 4 0),(5,.p 10 0),(6,.p 6 0),(7,.v (.n .i64 t.1)),(8,.v (.n .i64 (mdS ws t.2.2.2.1 t.2.2.2.2 t.2.1)))],[(2,.blk [.v (.lf ws.n (fJ ws.js)),.v (.lf ws.m (fM ws.ms)),.v (.lf ws.c (fS ws.sh)),.v (.lf ws.d (fK ws.sk)),.v (.lf 1 (fO ws.ob)),.v (.lf ws.np (fZ ws.pl)),.v (.lf ws.nh (fH ws.hd)),.v (.lf ws.ng (fG ws.gr)),.v (.n .i64 ws.slack)]),(4,.blk [.nl]),(6,.blk [.o 57]),(10,.blk [.v (.lf wl (fQ e)),.v (.n .i64 (t.2.2.1:Int))]),(57,.reg 3 1 (.fo t.2.2.2.1 (fQ t.2.2.2.2)))]⟩) else none)))]
set_option maxRecDepth 100000 in
theorem xQH (ws:Wsp) (wl:Nat) (e:Nat→Int):uJ Tf (orMd ws 1 wl e) (qZ (yGH ws wl e)) 60 19 [.a [.lf ws.n (fJ ws.js),.lf ws.m (fM ws.ms),.lf ws.c (fS ws.sh),.lf ws.d (fK ws.sk),.lf 1 (fO ws.ob),.lf ws.np (fZ ws.pl),.lf ws.nh (fH ws.hd),.lf ws.ng (fG ws.gr),.n .i64 ws.slack],.lf wl (fQ e)] =
 (bif (gB1 cnx hnx enx (wl,0,e,(vJJ .i64 ((ws.np:Int) + (ws.nh:Int))))) then (bif (gSt (hMd ws 1 wl e 0 (vJJ .i64 ((nxV e wl 0 (vJJ .i64 ((ws.np:Int) + (ws.nh:Int)))) - (ws.nh:Int))) (mA wl 0 1) 0 (fun _=>0)) (hMd ws 1 wl e 0 (vJJ .i64 ((nxV e wl 0 (vJJ .i64 ((ws.np:Int) + (ws.nh:Int)))) - (ws.nh:Int))) (mA wl 0 1) 0 (fun _=>0))) then (bif (gP (0≤50∧¬ vJJ .i64 ((ws.np:Int) + (ws.nh:Int))=0∧hasQ (fun _=>0) 0 (mdS ws 0 (fun _=>0) (vJJ .i64 ((nxV e wl 0 (vJJ .i64 ((ws.np:Int) + (ws.nh:Int)))) - (ws.nh:Int))))=false)) then (bif (decide (0 + 1≤1000000)) then some (.v (.a [.lf 1 (fun v=>[.n .i64 (bif (Nat.beq v 0) then (mdS ws 0 (fun _=>0) (vJJ .i64 ((nxV e wl 0 (vJJ .i64 ((ws.np:Int) + (ws.nh:Int)))) - (ws.nh:Int)))) else 0)])]),[])
 else none)
 else none)
 else none)
 else none):=by kernel_rfl
theorem kQB (ws:Wsp) (wl:Nat) (e:Nat→Int) (hw:wl≤9223372036854775807) (hp:1≤ws.np∧ws.np≤50) (hh:1≤ws.nh∧ws.nh≤50):yK Tryz.prog 19 [.a [.lf ws.n (fJ ws.js),.lf ws.m (fM ws.ms),.lf ws.c (fS ws.sh),.lf ws.d (fK ws.sk),.lf 1 (fO ws.ob),.lf ws.np (fZ ws.pl),.lf ws.nh (fH ws.hd),.lf ws.ng (fG ws.gr),.n .i64 ws.slack],.lf wl (fQ e)] (.v (.a [.lf 1 (fQ (mdA ws wl e))])):=by
 refine zZ (N:=60) (LO:=qZ (yGH ws wl e)) jU zW (jW (l:=[(64,o_us)]) (m:=[(30,o_nx)]) ⟨xZW,trivial⟩ ⟨uUY,trivial⟩) (fun p S hp => ?_) ?_
 ·refine qH (L:=qQ Tf 19) (l:=(yGH ws wl e)) (show AllP _ (yGH ws wl e) from ⟨?_,trivial⟩) p S hp
  ·dsimp only;refine jY (T:=Tf) (o:=(orMd ws 1 wl e)) (f:=19) (LO:=qZ []) (p:=[0,0,1,0,0,1,0,0,1,0,1,1,1]) kK ?_;intro t K r hr;obtain ⟨hg,hr⟩:=qY hr
   skip
   exact (lpMd K ws 1 wl e t.1 t.2.1 t.2.2.1 t.2.2.2.1 t.2.2.2.2 (jK hg)).trans hr
 ·refine (xQH ws wl e).trans ?_;have hk:(vJJ .i64 ((ws.np:Int) + (ws.nh:Int)))=(ws.np:Int) + (ws.nh:Int):=qV (by omega);have h0:0 < (vJJ .i64 ((ws.np:Int) + (ws.nh:Int)))∧(vJJ .i64 ((ws.np:Int) + (ws.nh:Int)))≤9223372036854775807:=by rw [hk]; omega
  have hz:¬ (vJJ .i64 ((ws.np:Int) + (ws.nh:Int)))=0:=by rw [hk]; omega
  have b0:=kin hp hh wl e 0;have b1:=kin hp hh wl e (mA wl 0 1);have g0:∀ (q:Nat→Int) (k:Int),gP (0≤50∧¬ (vJJ .i64 ((ws.np:Int) + (ws.nh:Int)))=0∧hasQ q 0 (mdS ws 0 q k)=false)=true:=fun q k=>qUJ ⟨by decide,hz,rfl⟩
  rw [qKF (C:=cnx) (t:=(wl,0,e,(vJJ .i64 ((ws.np:Int) + (ws.nh:Int))))) ⟨Nat.zero_le _,hw,h0.1,h0.2⟩,yU,g0,vYV,vYV,vYV,vJQ (show 0 + 1≤1000000 by decide),vYV];rfl
noncomputable def yGG (ws:Wsp) (wl:Nat) (e:Nat→Int):List (List Nat × jG):=[([0,0,1,0,0,1,0,0,1,0,1,1,1],sumF (fun t:Int × Int × Nat × Nat × (Nat→Int)=>(hMd ws 2 wl e t.1 t.2.1 t.2.2.1 t.2.2.2.1 t.2.2.2.2)) (fun σ=>(slI σ 7,slI σ 8,(bkC σ 10 1).toNat,rgN σ 57,unFQ (rgF σ 57))) (fun t K=>(bif (gP (t.2.2.2.1≤50∧¬ vJJ .i64 ((ws.np:Int) + (ws.nh:Int))=0∧hasQ t.2.2.2.2 t.2.2.2.1 (mdS ws t.2.2.2.1 t.2.2.2.2 t.2.1)=false)) then (K (.exit 2) ⟨[(2,.p 2 0),(4,.p 4 0),(5,.p 10 0),(6,.p 6 0),(7,.v (.n .i64 t.1)),(8,.v (.n .i64 (mdS ws t.2.2.2.1 t.2.2.2.2 t.2.1)))],[(2,.blk [.v (.lf ws.n (fJ ws.js)),.v (.lf ws.m (fM ws.ms)),.v (.lf ws.c (fS ws.sh)),.v (.lf ws.d (fK ws.sk)),.v (.lf 2 (fO ws.ob)),.v (.lf ws.np (fZ ws.pl)),.v (.lf ws.nh (fH ws.hd)),.v (.lf ws.ng (fG ws.gr)),.v (.n .i64 ws.slack)]),(4,.blk [.nl]),(6,.blk [.o 57]),(10,.blk [.v (.lf wl (fQ e)),.v (.n .i64 (t.2.2.1:Int))]),(57,.reg 3 1 (.fo t.2.2.2.1 (fQ t.2.2.2.2)))]⟩) else none)))]
set_option maxRecDepth 100000 in
theorem xQG (ws:Wsp) (wl:Nat) (e:Nat→Int):uJ Tf (orMd ws 2 wl e) (qZ (yGG ws wl e)) 60 19 [.a [.lf ws.n (fJ ws.js),.lf ws.m (fM ws.ms),.lf ws.c (fS ws.sh),.lf ws.d (fK ws.sk),.lf 2 (fO ws.ob),.lf ws.np (fZ ws.pl),.lf ws.nh (fH ws.hd),.lf ws.ng (fG ws.gr),.n .i64 ws.slack],.lf wl (fQ e)] =
 (bif (gB1 cnx hnx enx (wl,0,e,(vJJ .i64 ((ws.np:Int) + (ws.nh:Int))))) then (bif (gSt (hMd ws 2 wl e 0 (vJJ .i64 ((nxV e wl 0 (vJJ .i64 ((ws.np:Int) + (ws.nh:Int)))) - (ws.nh:Int))) (mA wl 0 1) 0 (fun _=>0)) (hMd ws 2 wl e 0 (vJJ .i64 ((nxV e wl 0 (vJJ .i64 ((ws.np:Int) + (ws.nh:Int)))) - (ws.nh:Int))) (mA wl 0 1) 0 (fun _=>0))) then (bif (gP (0≤50∧¬ vJJ .i64 ((ws.np:Int) + (ws.nh:Int))=0∧hasQ (fun _=>0) 0 (mdS ws 0 (fun _=>0) (vJJ .i64 ((nxV e wl 0 (vJJ .i64 ((ws.np:Int) + (ws.nh:Int)))) - (ws.nh:Int))))=false)) then (bif (decide (0 + 1≤1000000)) then (bif (gB1 cnx hnx enx (wl,(mA wl 0 1),e,(vJJ .i64 ((ws.np:Int) + (ws.nh:Int))))) then (bif (gSt (hMd ws 2 wl e 1 (vJJ .i64 ((nxV e wl (mA wl 0 1) (vJJ .i64 ((ws.np:Int) + (ws.nh:Int)))) - (ws.nh:Int))) (mA wl 0 2) 1 (fun v=>(bif (Nat.beq v 0) then (mdS ws 0 (fun _=>0) (vJJ .i64 ((nxV e wl 0 (vJJ .i64 ((ws.np:Int) + (ws.nh:Int)))) - (ws.nh:Int)))) else 0))) (hMd ws 2 wl e 1 (vJJ .i64 ((nxV e wl (mA wl 0 1) (vJJ .i64 ((ws.np:Int) + (ws.nh:Int)))) - (ws.nh:Int))) (mA wl 0 2) 1 (fun v=>(bif (Nat.beq v 0) then (mdS ws 0 (fun _=>0) (vJJ .i64 ((nxV e wl 0 (vJJ .i64 ((ws.np:Int) + (ws.nh:Int)))) - (ws.nh:Int)))) else 0)))) then (bif (gP (1≤50∧¬ vJJ .i64 ((ws.np:Int) + (ws.nh:Int))=0∧hasQ (fun v=>(bif (Nat.beq v 0) then (mdS ws 0 (fun _=>0) (vJJ .i64 ((nxV e wl 0 (vJJ .i64 ((ws.np:Int) + (ws.nh:Int)))) - (ws.nh:Int)))) else 0)) 1 (mdS ws 1 (fun v=>(bif (Nat.beq v 0) then (mdS ws 0 (fun _=>0) (vJJ .i64 ((nxV e wl 0 (vJJ .i64 ((ws.np:Int) + (ws.nh:Int)))) - (ws.nh:Int)))) else 0)) (vJJ .i64 ((nxV e wl (mA wl 0 1) (vJJ .i64 ((ws.np:Int) + (ws.nh:Int)))) - (ws.nh:Int))))=false)) then (bif (decide (1 + 1≤1000000)) then some (.v (.a [.lf 2 (fun v=>[.n .i64 (bif (Nat.beq v 1) then (mdS ws 1 (fun v=>(bif (Nat.beq v 0) then (mdS ws 0 (fun _=>0) (vJJ .i64 ((nxV e wl 0 (vJJ .i64 ((ws.np:Int) + (ws.nh:Int)))) - (ws.nh:Int)))) else 0)) (vJJ .i64 ((nxV e wl (mA wl 0 1) (vJJ .i64 ((ws.np:Int) + (ws.nh:Int)))) - (ws.nh:Int)))) else (bif (Nat.beq v 0) then (mdS ws 0 (fun _=>0) (vJJ .i64 ((nxV e wl 0 (vJJ .i64 ((ws.np:Int) + (ws.nh:Int)))) - (ws.nh:Int)))) else 0))])]),[])
 else none)
 else none)
 else none)
 else none)
 else none)
 else none)
 else none)
 else none):=by kernel_rfl
theorem kQA (ws:Wsp) (wl:Nat) (e:Nat→Int) (hw:wl≤9223372036854775807) (hp:1≤ws.np∧ws.np≤50) (hh:1≤ws.nh∧ws.nh≤50):yK Tryz.prog 19 [.a [.lf ws.n (fJ ws.js),.lf ws.m (fM ws.ms),.lf ws.c (fS ws.sh),.lf ws.d (fK ws.sk),.lf 2 (fO ws.ob),.lf ws.np (fZ ws.pl),.lf ws.nh (fH ws.hd),.lf ws.ng (fG ws.gr),.n .i64 ws.slack],.lf wl (fQ e)] (.v (.a [.lf 2 (fQ (mdB ws wl e))])):=by
 refine zZ (N:=60) (LO:=qZ (yGG ws wl e)) jU zW (jW (l:=[(64,o_us)]) (m:=[(30,o_nx)]) ⟨xZW,trivial⟩ ⟨uUY,trivial⟩) (fun p S hp => ?_) ?_
 ·refine qH (L:=qQ Tf 19) (l:=(yGG ws wl e)) (show AllP _ (yGG ws wl e) from ⟨?_,trivial⟩) p S hp
  ·dsimp only;refine jY (T:=Tf) (o:=(orMd ws 2 wl e)) (f:=19) (LO:=qZ []) (p:=[0,0,1,0,0,1,0,0,1,0,1,1,1]) kK ?_;intro t K r hr;obtain ⟨hg,hr⟩:=qY hr
   skip
   exact (lpMd K ws 2 wl e t.1 t.2.1 t.2.2.1 t.2.2.2.1 t.2.2.2.2 (jK hg)).trans hr
 ·refine (xQG ws wl e).trans ?_;have hk:(vJJ .i64 ((ws.np:Int) + (ws.nh:Int)))=(ws.np:Int) + (ws.nh:Int):=qV (by omega);have h0:0 < (vJJ .i64 ((ws.np:Int) + (ws.nh:Int)))∧(vJJ .i64 ((ws.np:Int) + (ws.nh:Int)))≤9223372036854775807:=by rw [hk]; omega
  have hz:¬ (vJJ .i64 ((ws.np:Int) + (ws.nh:Int)))=0:=by rw [hk]; omega
  have b0:=kin hp hh wl e 0;have b1:=kin hp hh wl e (mA wl 0 1);have g0:∀ (q:Nat→Int) (k:Int),gP (0≤50∧¬ (vJJ .i64 ((ws.np:Int) + (ws.nh:Int)))=0∧hasQ q 0 (mdS ws 0 q k)=false)=true:=fun q k=>qUJ ⟨by decide,hz,rfl⟩
  rw [qKF (C:=cnx) (t:=(wl,0,e,(vJJ .i64 ((ws.np:Int) + (ws.nh:Int))))) ⟨Nat.zero_le _,hw,h0.1,h0.2⟩,yU,g0,vYV,vYV,vYV,vJQ (show 0 + 1≤1000000 by decide),vYV];have h1:=kGI hp hh (q:=mdA ws wl e) b1;have g1:gP (1≤50∧¬ (vJJ .i64 ((ws.np:Int) + (ws.nh:Int)))=0∧hasQ (fun v=>(bif (Nat.beq v 0) then (mdS ws 0 (fun _=>0) (vJJ .i64 ((nxV e wl 0 (vJJ .i64 ((ws.np:Int) + (ws.nh:Int)))) - (ws.nh:Int)))) else 0)) 1 (mdS ws 1 (fun v=>(bif (Nat.beq v 0) then (mdS ws 0 (fun _=>0) (vJJ .i64 ((nxV e wl 0 (vJJ .i64 ((ws.np:Int) + (ws.nh:Int)))) - (ws.nh:Int)))) else 0)) (vJJ .i64 ((nxV e wl (mA wl 0 1) (vJJ .i64 ((ws.np:Int) + (ws.nh:Int)))) - (ws.nh:Int))))=false)=true:=qUJ ⟨by decide,hz,h1.1⟩;rw [qKF (C:=cnx) (t:=(wl,mA wl 0 1,e,(vJJ .i64 ((ws.np:Int) + (ws.nh:Int))))) ⟨qZD (Nat.zero_le _) 1,hw,h0.1,h0.2⟩,yU,g1,vYV,vYV,vYV,vJQ (show 1 + 1≤1000000 by decide),vYV];rfl
theorem uXA {ws:Wsp} (h:MadeW ws) (wl:Nat) (e:Nat→Int) (hw:wl≤9223372036854775807):∃ q:Nat→Int,vlB ws ws.no q=true∧yK Tryz.prog 19 [.a (wP ws),.lf wl (fQ e)] (.v (.a [.lf ws.no (fQ q)])):=by
 have hp:1≤ws.np∧ws.np≤50:=by have:=h.np; omega
 have hh:1≤ws.nh∧ws.nh≤50:=by have:=h.nh; omega
 have b0:=kin hp hh wl e 0;have b1:=kin hp hh wl e (mA wl 0 1);have hok:=uXB h;have hn:=h.no;by_cases hc:ws.no=1
 ·refine ⟨mdA ws wl e,?_,?_⟩
  ·unfold vlB;rw [hok,hc];show (mdG ws (mdA ws wl e) 0 && true)=true;unfold mdG;rw [show mdA ws wl e 0=vJJ .i64 ((nxV e wl 0 (vJJ .i64 ((ws.np:Int) + (ws.nh:Int)))) - (ws.nh:Int)) from rfl,jVH b0 (by omega)];rfl
  ·have:=kQB ws wl e hw hp hh
   unfold wP;rw [hc];exact this
 ·have hc2:ws.no=2:=by omega
  refine ⟨mdB ws wl e,?_,?_⟩
  ·have h1:=kGI hp hh (q:=mdA ws wl e) b1;unfold vlB;rw [hok,hc2];show (mdG ws (mdB ws wl e) 0 && (mdG ws (mdB ws wl e) 1 && true))=true;unfold mdG;rw [show mdB ws wl e 0=vJJ .i64 ((nxV e wl 0 (vJJ .i64 ((ws.np:Int) + (ws.nh:Int)))) - (ws.nh:Int)) from rfl,jVH b0 (by omega),show mdB ws wl e 1=mdS ws 1 (mdA ws wl e) (vJJ .i64 ((nxV e wl (mA wl 0 1) (vJJ .i64 ((ws.np:Int) + (ws.nh:Int)))) - (ws.nh:Int))) from rfl,jVH h1.2 (by omega)];have h2:hasQ (mdB ws wl e) 1 (mdS ws 1 (mdA ws wl e) (vJJ .i64 ((nxV e wl (mA wl 0 1) (vJJ .i64 ((ws.np:Int) + (ws.nh:Int)))) - (ws.nh:Int))))=false:=by
    rw [zYE];have h3:=h1.1;rw [zYE] at h3;exact h3
   rw [h2];rfl
  ·have:=kQA ws wl e hw hp hh
   unfold wP;rw [hc2];exact this
end Go.Proofs.YtgmbkkkbfbocnaaGreat.Hn
namespace Go.Proofs.YtgmbkkkbfbocnaaGreat.Ho
open Go.Rx Rt Go.Sx Go.RowKit Od Na Nb Nc Nx Nf Nl Nm Ga Gb Gc Gd Ge Gf Gg Sn Ha Hb Hc Hd He Hf Hg Hh Hi Hj Hk Hm Hn
theorem zJV (x k H R:Int) (h:(0 < k∧k≤9223372036854775807)∧(k=9→x % 9=H)∧(k=3→x % 3=R)):yK Tryz.prog 20 [.n .i64 x,.n .i64 k] (.v (.n .i64 (bif decide (k=9) then H else bif decide (k=3) then R else x % k))):=by
 have e:(bif decide (k=9) then H else bif decide (k=3) then R else x % k)=x % k:=by
  by_cases h9:k=9
  ·rw [vJQ h9,vYV,h9]; exact (h.2.1 h9).symm
  ·rw [vYH h9,vYG];by_cases h3:k=3
   ·rw [vJQ h3,vYV,h3]; exact (h.2.2 h3).symm
   ·rw [vYH h3,vYG]
 rw [e]; exact yKA x k h.1
theorem zJW (x k H:Int) (h:(0 < k∧k≤9223372036854775807)∧(k=9→x % 9=H)):yK Tryz.prog 20 [.n .i64 x,.n .i64 k] (.v (.n .i64 (bif decide (k=9) then H else x % k))):=by
 have e:(bif decide (k=9) then H else x % k)=x % k:=by
  by_cases h9:k=9
  ·rw [vJQ h9,vYV,h9]; exact (h.2 h9).symm
  ·rw [vYH h9,vYG]
 rw [e]; exact yKA x k h.1
def ca0:Int × Int→Prop:=fun t=>match t with | (x,k)=>(0 < k∧k≤9223372036854775807)∧(k=9→x % 9=0)
def ea0:Int × Int→List PV:=fun t=>match t with | (x,k)=>[.n .i64 x,.n .i64 k]
noncomputable def ra0:Int × Int→Ret:=fun t=>match t with | (x,k)=>.v (.n .i64 (bif decide (k=9) then 0 else x % k))
def da0:List PV→Int × Int:=fun ps=>match ps with
 | [.n _ x,.n _ k]=>(x,k)
 | _=>(0,0)
noncomputable def o_a0:List PV→Option (Bool × Ret):=o_fm da0 ca0 ea0 ra0
theorem fYQ:zY Tryz.prog 20 o_a0:=uK fun t h=>by
 obtain ⟨x,k⟩:=t;exact zJW x k 0 h
def xUL (ws:Wsp) (x:Int):Wsp:=⟨ws.js,ws.ms,ws.sh,ws.sk,ws.n,ws.m,ws.c,ws.d,ws.ob,ws.pl,ws.hd,ws.gr,ws.no,ws.np,ws.nh,ws.ng,(vJJ .i64 ((vJJ .i64 ((x % 3) - 1)) * 65537))⟩
noncomputable def uKV (_:Wsp) (_ x:Int):OrS:=orS [(20,o_a0)] []
noncomputable def zHZ (_:Wsp) (_ x:Int):List (List Nat × jG):=[]
set_option maxRecDepth 100000 in
theorem uKQ (ws:Wsp) (how x:Int):uJ Tf (uKV ws how x) (qZ (zHZ ws how x)) 60 15 [.a (wP ws),.n .i64 how,.n .i64 x] =
 (bif (decide (ws.no≤1000000)) then (bif (decide (ws.np≤1000000)) then (bif (decide (ws.nh≤1000000)) then (bif (decide (ws.ng≤1000000)) then (bif (gF1 ca0 ea0 (how,9)) then (bif (gF1 ca0 ea0 (x,3)) then some (.v (.a [.lf ws.n (fJ ws.js),.lf ws.m (fM ws.ms),.lf ws.c (fS ws.sh),.lf ws.d (fK ws.sk),.lf ws.no (fO ws.ob),.lf ws.np (fZ ws.pl),.lf ws.nh (fH ws.hd),.lf ws.ng (fG ws.gr),.n .i64 (vJJ .i64 ((vJJ .i64 ((x % 3) - 1)) * 65537))]),[])
 else none)
 else none)
 else none)
 else none)
 else none)
 else none):=by kernel_rfl
theorem jKQ (ws:Wsp) (how x:Int) (hH:how % 9=0) (_:ws.no≤1000∧ws.np≤1000∧ws.nh≤1000∧ws.ng≤1000∧ws.c≤1000) (_:0 < ws.no∧0 < ws.np∧0 < ws.nh):yK Tryz.prog 15 [.a (wP ws),.n .i64 how,.n .i64 x] (.v (.a (wP (xUL ws x)))):=by
 refine zZ (N:=60) (LO:=qZ (zHZ ws how x)) jU zW (jW (l:=[(20,o_a0)]) (m:=[]) ⟨fYQ,trivial⟩ trivial) (fun p S hp => ?_) ?_
 ·refine qH (L:=qQ Tf 15) (l:=(zHZ ws how x)) (show AllP _ (zHZ ws how x) from trivial) p S hp
 ·refine (uKQ ws how x).trans ?_;simp only [vJQ (show ws.no≤1000000 by omega),vJQ (show ws.np≤1000000 by omega),vJQ (show ws.nh≤1000000 by omega),vJQ (show ws.ng≤1000000 by omega),jQ (C:=ca0) (t:=(how,9)) ⟨⟨by decide,by decide⟩,fun _=>hH⟩,jQ (C:=ca0) (t:=(x,3)) ⟨⟨by decide,by decide⟩,fun h=>absurd h (by decide)⟩,Bool.and_true,vYV];rfl
def ca1a:Int × Int→Prop:=fun t=>match t with | (x,k)=>(0 < k∧k≤9223372036854775807)∧(k=9→x % 9=1)∧(k=3→x % 3=0)
def ea1a:Int × Int→List PV:=fun t=>match t with | (x,k)=>[.n .i64 x,.n .i64 k]
noncomputable def ra1a:Int × Int→Ret:=fun t=>match t with | (x,k)=>.v (.n .i64 (bif decide (k=9) then 1 else bif decide (k=3) then 0 else x % k))
def da1a:List PV→Int × Int:=fun ps=>match ps with
 | [.n _ x,.n _ k]=>(x,k)
 | _=>(0,0)
noncomputable def uXG:List PV→Option (Bool × Ret):=o_fm da1a ca1a ea1a ra1a
theorem xJW:zY Tryz.prog 20 uXG:=uK fun t h=>by
 obtain ⟨x,k⟩:=t;exact zJV x k 1 0 h
def kHD (ws:Wsp) (x:Int):Wsp:=⟨ws.js,ws.ms,ws.sh,ws.sk,ws.n,ws.m,ws.c,ws.d,ws.ob,(fun v=>(Z3.mk (bif (Nat.beq v 0) then (vJJ .i64 ((vJJ .i64 ((x % 5) - 2)) * 1048577)) else (ws.pl v).x) (bif (Nat.beq v 0) then (ws.pl 0).y else (ws.pl v).y) (bif (Nat.beq v 0) then (ws.pl 0).z else (ws.pl v).z))),ws.hd,ws.gr,ws.no,ws.np,ws.nh,ws.ng,ws.slack⟩
noncomputable def kYL (_:Wsp) (_ x:Int):OrS:=orS [(20,uXG)] []
noncomputable def zYC (_:Wsp) (_ x:Int):List (List Nat × jG):=[]
set_option maxRecDepth 100000 in
theorem kYG (ws:Wsp) (how x:Int):uJ Tf (kYL ws how x) (qZ (zYC ws how x)) 60 15 [.a (wP ws),.n .i64 how,.n .i64 x] =
 (bif (decide (ws.no≤1000000)) then (bif (decide (ws.np≤1000000)) then (bif (decide (ws.nh≤1000000)) then (bif (decide (ws.ng≤1000000)) then (bif (gF1 ca1a ea1a (how,9)) then (bif (gF1 ca1a ea1a (x,3)) then (bif (gF1 ca1a ea1a (x,5)) then (bif (inB 0 ws.np) then some (.v (.a [.lf ws.n (fJ ws.js),.lf ws.m (fM ws.ms),.lf ws.c (fS ws.sh),.lf ws.d (fK ws.sk),.lf ws.no (fO ws.ob),.lf ws.np (fun v=>[.n .i64 (bif (Nat.beq v 0) then (vJJ .i64 ((vJJ .i64 ((x % 5) - 2)) * 1048577)) else (ws.pl v).x),.n .i64 (bif (Nat.beq v 0) then (ws.pl 0).y else (ws.pl v).y),.n .i64 (bif (Nat.beq v 0) then (ws.pl 0).z else (ws.pl v).z)]),.lf ws.nh (fH ws.hd),.lf ws.ng (fG ws.gr),.n .i64 ws.slack]),[])
 else none)
 else none)
 else none)
 else none)
 else none)
 else none)
 else none)
 else none):=by kernel_rfl
theorem jQL (ws:Wsp) (how x:Int) (hH:how % 9=1) (hR:x % 3=0) (_:ws.no≤1000∧ws.np≤1000∧ws.nh≤1000∧ws.ng≤1000∧ws.c≤1000) (_:0 < ws.no∧0 < ws.np∧0 < ws.nh):yK Tryz.prog 15 [.a (wP ws),.n .i64 how,.n .i64 x] (.v (.a (wP (kHD ws x)))):=by
 refine zZ (N:=60) (LO:=qZ (zYC ws how x)) jU zW (jW (l:=[(20,uXG)]) (m:=[]) ⟨xJW,trivial⟩ trivial) (fun p S hp => ?_) ?_
 ·refine qH (L:=qQ Tf 15) (l:=(zYC ws how x)) (show AllP _ (zYC ws how x) from trivial) p S hp
 ·refine (kYG ws how x).trans ?_;simp only [vJQ (show ws.no≤1000000 by omega),vJQ (show ws.np≤1000000 by omega),vJQ (show ws.nh≤1000000 by omega),vJQ (show ws.ng≤1000000 by omega),jQ (C:=ca1a) (t:=(how,9)) ⟨⟨by decide,by decide⟩,fun _=>hH,fun h=>absurd h (by decide)⟩,jQ (C:=ca1a) (t:=(x,3)) ⟨⟨by decide,by decide⟩,fun h=>absurd h (by decide),fun _=>hR⟩,jQ (C:=ca1a) (t:=(x,5)) ⟨⟨by decide,by decide⟩,fun h=>absurd h (by decide),fun h=>absurd h (by decide)⟩,show inB 0 ws.np=true from yZ (p:=0) (show 0 < ws.np by omega),Bool.and_true,vYV];rfl
def ca1b:Int × Int→Prop:=fun t=>match t with | (x,k)=>(0 < k∧k≤9223372036854775807)∧(k=9→x % 9=1)∧(k=3→x % 3=1)
def ea1b:Int × Int→List PV:=fun t=>match t with | (x,k)=>[.n .i64 x,.n .i64 k]
noncomputable def ra1b:Int × Int→Ret:=fun t=>match t with | (x,k)=>.v (.n .i64 (bif decide (k=9) then 1 else bif decide (k=3) then 1 else x % k))
def da1b:List PV→Int × Int:=fun ps=>match ps with
 | [.n _ x,.n _ k]=>(x,k)
 | _=>(0,0)
noncomputable def uXV:List PV→Option (Bool × Ret):=o_fm da1b ca1b ea1b ra1b
theorem xJX:zY Tryz.prog 20 uXV:=uK fun t h=>by
 obtain ⟨x,k⟩:=t;exact zJV x k 1 1 h
def kHC (ws:Wsp) (x:Int):Wsp:=⟨ws.js,ws.ms,ws.sh,ws.sk,ws.n,ws.m,ws.c,ws.d,ws.ob,(fun v=>(Z3.mk (bif (Nat.beq v 0) then (ws.pl 0).x else (ws.pl v).x) (bif (Nat.beq v 0) then (vJJ .i64 ((vJJ .i64 ((x % 5) - 2)) * 1048577)) else (ws.pl v).y) (bif (Nat.beq v 0) then (ws.pl 0).z else (ws.pl v).z))),ws.hd,ws.gr,ws.no,ws.np,ws.nh,ws.ng,ws.slack⟩
noncomputable def kYI (_:Wsp) (_ x:Int):OrS:=orS [(20,uXV)] []
noncomputable def zYB (_:Wsp) (_ x:Int):List (List Nat × jG):=[]
set_option maxRecDepth 100000 in
theorem kYV (ws:Wsp) (how x:Int):uJ Tf (kYI ws how x) (qZ (zYB ws how x)) 60 15 [.a (wP ws),.n .i64 how,.n .i64 x] =
 (bif (decide (ws.no≤1000000)) then (bif (decide (ws.np≤1000000)) then (bif (decide (ws.nh≤1000000)) then (bif (decide (ws.ng≤1000000)) then (bif (gF1 ca1b ea1b (how,9)) then (bif (gF1 ca1b ea1b (x,3)) then (bif (gF1 ca1b ea1b (x,5)) then (bif (inB 0 ws.np) then some (.v (.a [.lf ws.n (fJ ws.js),.lf ws.m (fM ws.ms),.lf ws.c (fS ws.sh),.lf ws.d (fK ws.sk),.lf ws.no (fO ws.ob),.lf ws.np (fun v=>[.n .i64 (bif (Nat.beq v 0) then (ws.pl 0).x else (ws.pl v).x),.n .i64 (bif (Nat.beq v 0) then (vJJ .i64 ((vJJ .i64 ((x % 5) - 2)) * 1048577)) else (ws.pl v).y),.n .i64 (bif (Nat.beq v 0) then (ws.pl 0).z else (ws.pl v).z)]),.lf ws.nh (fH ws.hd),.lf ws.ng (fG ws.gr),.n .i64 ws.slack]),[])
 else none)
 else none)
 else none)
 else none)
 else none)
 else none)
 else none)
 else none):=by kernel_rfl
theorem jQI (ws:Wsp) (how x:Int) (hH:how % 9=1) (hR:x % 3=1) (_:ws.no≤1000∧ws.np≤1000∧ws.nh≤1000∧ws.ng≤1000∧ws.c≤1000) (_:0 < ws.no∧0 < ws.np∧0 < ws.nh):yK Tryz.prog 15 [.a (wP ws),.n .i64 how,.n .i64 x] (.v (.a (wP (kHC ws x)))):=by
 refine zZ (N:=60) (LO:=qZ (zYB ws how x)) jU zW (jW (l:=[(20,uXV)]) (m:=[]) ⟨xJX,trivial⟩ trivial) (fun p S hp => ?_) ?_
 ·refine qH (L:=qQ Tf 15) (l:=(zYB ws how x)) (show AllP _ (zYB ws how x) from trivial) p S hp
 ·refine (kYV ws how x).trans ?_;simp only [vJQ (show ws.no≤1000000 by omega),vJQ (show ws.np≤1000000 by omega),vJQ (show ws.nh≤1000000 by omega),vJQ (show ws.ng≤1000000 by omega),jQ (C:=ca1b) (t:=(how,9)) ⟨⟨by decide,by decide⟩,fun _=>hH,fun h=>absurd h (by decide)⟩,jQ (C:=ca1b) (t:=(x,3)) ⟨⟨by decide,by decide⟩,fun h=>absurd h (by decide),fun _=>hR⟩,jQ (C:=ca1b) (t:=(x,5)) ⟨⟨by decide,by decide⟩,fun h=>absurd h (by decide),fun h=>absurd h (by decide)⟩,show inB 0 ws.np=true from yZ (p:=0) (show 0 < ws.np by omega),Bool.and_true,vYV];rfl
def ca1c:Int × Int→Prop:=fun t=>match t with | (x,k)=>(0 < k∧k≤9223372036854775807)∧(k=9→x % 9=1)∧(k=3→x % 3=2)
def ea1c:Int × Int→List PV:=fun t=>match t with | (x,k)=>[.n .i64 x,.n .i64 k]
noncomputable def ra1c:Int × Int→Ret:=fun t=>match t with | (x,k)=>.v (.n .i64 (bif decide (k=9) then 1 else bif decide (k=3) then 2 else x % k))
def da1c:List PV→Int × Int:=fun ps=>match ps with
 | [.n _ x,.n _ k]=>(x,k)
 | _=>(0,0)
noncomputable def uXW:List PV→Option (Bool × Ret):=o_fm da1c ca1c ea1c ra1c
theorem xJU:zY Tryz.prog 20 uXW:=uK fun t h=>by
 obtain ⟨x,k⟩:=t;exact zJV x k 1 2 h
def kHB (ws:Wsp) (x:Int):Wsp:=⟨ws.js,ws.ms,ws.sh,ws.sk,ws.n,ws.m,ws.c,ws.d,ws.ob,(fun v=>(Z3.mk (bif (Nat.beq v 0) then (ws.pl 0).x else (ws.pl v).x) (bif (Nat.beq v 0) then (ws.pl 0).y else (ws.pl v).y) (bif (Nat.beq v 0) then (vJJ .i64 ((vJJ .i64 ((x % 5) - 2)) * 1048577)) else (ws.pl v).z))),ws.hd,ws.gr,ws.no,ws.np,ws.nh,ws.ng,ws.slack⟩
noncomputable def kYF (_:Wsp) (_ x:Int):OrS:=orS [(20,uXW)] []
noncomputable def zYA (_:Wsp) (_ x:Int):List (List Nat × jG):=[]
set_option maxRecDepth 100000 in
theorem kYW (ws:Wsp) (how x:Int):uJ Tf (kYF ws how x) (qZ (zYA ws how x)) 60 15 [.a (wP ws),.n .i64 how,.n .i64 x] =
 (bif (decide (ws.no≤1000000)) then (bif (decide (ws.np≤1000000)) then (bif (decide (ws.nh≤1000000)) then (bif (decide (ws.ng≤1000000)) then (bif (gF1 ca1c ea1c (how,9)) then (bif (gF1 ca1c ea1c (x,3)) then (bif (gF1 ca1c ea1c (x,5)) then (bif (inB 0 ws.np) then some (.v (.a [.lf ws.n (fJ ws.js),.lf ws.m (fM ws.ms),.lf ws.c (fS ws.sh),.lf ws.d (fK ws.sk),.lf ws.no (fO ws.ob),.lf ws.np (fun v=>[.n .i64 (bif (Nat.beq v 0) then (ws.pl 0).x else (ws.pl v).x),.n .i64 (bif (Nat.beq v 0) then (ws.pl 0).y else (ws.pl v).y),.n .i64 (bif (Nat.beq v 0) then (vJJ .i64 ((vJJ .i64 ((x % 5) - 2)) * 1048577)) else (ws.pl v).z)]),.lf ws.nh (fH ws.hd),.lf ws.ng (fG ws.gr),.n .i64 ws.slack]),[])
 else none)
 else none)
 else none)
 else none)
 else none)
 else none)
 else none)
 else none):=by kernel_rfl
theorem jQF (ws:Wsp) (how x:Int) (hH:how % 9=1) (hR:x % 3=2) (_:ws.no≤1000∧ws.np≤1000∧ws.nh≤1000∧ws.ng≤1000∧ws.c≤1000) (_:0 < ws.no∧0 < ws.np∧0 < ws.nh):yK Tryz.prog 15 [.a (wP ws),.n .i64 how,.n .i64 x] (.v (.a (wP (kHB ws x)))):=by
 refine zZ (N:=60) (LO:=qZ (zYA ws how x)) jU zW (jW (l:=[(20,uXW)]) (m:=[]) ⟨xJU,trivial⟩ trivial) (fun p S hp => ?_) ?_
 ·refine qH (L:=qQ Tf 15) (l:=(zYA ws how x)) (show AllP _ (zYA ws how x) from trivial) p S hp
 ·refine (kYW ws how x).trans ?_;simp only [vJQ (show ws.no≤1000000 by omega),vJQ (show ws.np≤1000000 by omega),vJQ (show ws.nh≤1000000 by omega),vJQ (show ws.ng≤1000000 by omega),jQ (C:=ca1c) (t:=(how,9)) ⟨⟨by decide,by decide⟩,fun _=>hH,fun h=>absurd h (by decide)⟩,jQ (C:=ca1c) (t:=(x,3)) ⟨⟨by decide,by decide⟩,fun h=>absurd h (by decide),fun _=>hR⟩,jQ (C:=ca1c) (t:=(x,5)) ⟨⟨by decide,by decide⟩,fun h=>absurd h (by decide),fun h=>absurd h (by decide)⟩,show inB 0 ws.np=true from yZ (p:=0) (show 0 < ws.np by omega),Bool.and_true,vYV];rfl
def ca2:Int × Int→Prop:=fun t=>match t with | (x,k)=>(0 < k∧k≤9223372036854775807)∧(k=9→x % 9=2)
def ea2:Int × Int→List PV:=fun t=>match t with | (x,k)=>[.n .i64 x,.n .i64 k]
noncomputable def ra2:Int × Int→Ret:=fun t=>match t with | (x,k)=>.v (.n .i64 (bif decide (k=9) then 2 else x % k))
def da2:List PV→Int × Int:=fun ps=>match ps with
 | [.n _ x,.n _ k]=>(x,k)
 | _=>(0,0)
noncomputable def o_a2:List PV→Option (Bool × Ret):=o_fm da2 ca2 ea2 ra2
theorem fZL:zY Tryz.prog 20 o_a2:=uK fun t h=>by
 obtain ⟨x,k⟩:=t;exact zJW x k 2 h
def xUI (ws:Wsp) (x:Int):Wsp:=⟨ws.js,ws.ms,ws.sh,ws.sk,ws.n,ws.m,ws.c,ws.d,ws.ob,ws.pl,(fun v=>(Hnd.mk (bif (Nat.beq v 0) then (vJJ .i64 ((x % 5) - 2)) else (ws.hd v).link) (Z3.mk (bif (Nat.beq v 0) then (ws.hd 0).off.x else (ws.hd v).off.x) (bif (Nat.beq v 0) then (ws.hd 0).off.y else (ws.hd v).off.y) (bif (Nat.beq v 0) then (ws.hd 0).off.z else (ws.hd v).off.z)))),ws.gr,ws.no,ws.np,ws.nh,ws.ng,ws.slack⟩
noncomputable def uKW (_:Wsp) (_ x:Int):OrS:=orS [(20,o_a2)] []
noncomputable def zHQ (_:Wsp) (_ x:Int):List (List Nat × jG):=[]
set_option maxRecDepth 100000 in
theorem uJL (ws:Wsp) (how x:Int):uJ Tf (uKW ws how x) (qZ (zHQ ws how x)) 60 15 [.a (wP ws),.n .i64 how,.n .i64 x] =
 (bif (decide (ws.no≤1000000)) then (bif (decide (ws.np≤1000000)) then (bif (decide (ws.nh≤1000000)) then (bif (decide (ws.ng≤1000000)) then (bif (gF1 ca2 ea2 (how,9)) then (bif (gF1 ca2 ea2 (x,5)) then (bif (inB 0 ws.nh) then some (.v (.a [.lf ws.n (fJ ws.js),.lf ws.m (fM ws.ms),.lf ws.c (fS ws.sh),.lf ws.d (fK ws.sk),.lf ws.no (fO ws.ob),.lf ws.np (fZ ws.pl),.lf ws.nh (fun v=>[.n .i64 (bif (Nat.beq v 0) then (vJJ .i64 ((x % 5) - 2)) else (ws.hd v).link),.n .i64 (bif (Nat.beq v 0) then (ws.hd 0).off.x else (ws.hd v).off.x),.n .i64 (bif (Nat.beq v 0) then (ws.hd 0).off.y else (ws.hd v).off.y),.n .i64 (bif (Nat.beq v 0) then (ws.hd 0).off.z else (ws.hd v).off.z)]),.lf ws.ng (fG ws.gr),.n .i64 ws.slack]),[])
 else none)
 else none)
 else none)
 else none)
 else none)
 else none)
 else none):=by kernel_rfl
theorem jJL (ws:Wsp) (how x:Int) (hH:how % 9=2) (_:ws.no≤1000∧ws.np≤1000∧ws.nh≤1000∧ws.ng≤1000∧ws.c≤1000) (_:0 < ws.no∧0 < ws.np∧0 < ws.nh):yK Tryz.prog 15 [.a (wP ws),.n .i64 how,.n .i64 x] (.v (.a (wP (xUI ws x)))):=by
 refine zZ (N:=60) (LO:=qZ (zHQ ws how x)) jU zW (jW (l:=[(20,o_a2)]) (m:=[]) ⟨fZL,trivial⟩ trivial) (fun p S hp => ?_) ?_
 ·refine qH (L:=qQ Tf 15) (l:=(zHQ ws how x)) (show AllP _ (zHQ ws how x) from trivial) p S hp
 ·refine (uJL ws how x).trans ?_;simp only [vJQ (show ws.no≤1000000 by omega),vJQ (show ws.np≤1000000 by omega),vJQ (show ws.nh≤1000000 by omega),vJQ (show ws.ng≤1000000 by omega),jQ (C:=ca2) (t:=(how,9)) ⟨⟨by decide,by decide⟩,fun _=>hH⟩,jQ (C:=ca2) (t:=(x,5)) ⟨⟨by decide,by decide⟩,fun h=>absurd h (by decide)⟩,show inB 0 ws.nh=true from yZ (p:=0) (show 0 < ws.nh by omega),Bool.and_true,vYV];rfl
def ca3a:Int × Int→Prop:=fun t=>match t with | (x,k)=>(0 < k∧k≤9223372036854775807)∧(k=9→x % 9=3)∧(k=3→x % 3=0)
def ea3a:Int × Int→List PV:=fun t=>match t with | (x,k)=>[.n .i64 x,.n .i64 k]
noncomputable def ra3a:Int × Int→Ret:=fun t=>match t with | (x,k)=>.v (.n .i64 (bif decide (k=9) then 3 else bif decide (k=3) then 0 else x % k))
def da3a:List PV→Int × Int:=fun ps=>match ps with
 | [.n _ x,.n _ k]=>(x,k)
 | _=>(0,0)
noncomputable def uXX:List PV→Option (Bool × Ret):=o_fm da3a ca3a ea3a ra3a
theorem xJK:zY Tryz.prog 20 uXX:=uK fun t h=>by
 obtain ⟨x,k⟩:=t;exact zJV x k 3 0 h
def kHA (ws:Wsp) (x:Int):Wsp:=⟨ws.js,ws.ms,ws.sh,ws.sk,ws.n,ws.m,ws.c,ws.d,ws.ob,ws.pl,(fun v=>(Hnd.mk (bif (Nat.beq v 0) then (ws.hd 0).link else (ws.hd v).link) (Z3.mk (bif (Nat.beq v 0) then (vJJ .i64 ((vJJ .i64 ((x % 5) - 2)) * 1048577)) else (ws.hd v).off.x) (bif (Nat.beq v 0) then (ws.hd 0).off.y else (ws.hd v).off.y) (bif (Nat.beq v 0) then (ws.hd 0).off.z else (ws.hd v).off.z)))),ws.gr,ws.no,ws.np,ws.nh,ws.ng,ws.slack⟩
noncomputable def kYE (_:Wsp) (_ x:Int):OrS:=orS [(20,uXX)] []
noncomputable def zYH (_:Wsp) (_ x:Int):List (List Nat × jG):=[]
set_option maxRecDepth 100000 in
theorem kYX (ws:Wsp) (how x:Int):uJ Tf (kYE ws how x) (qZ (zYH ws how x)) 60 15 [.a (wP ws),.n .i64 how,.n .i64 x] =
 (bif (decide (ws.no≤1000000)) then (bif (decide (ws.np≤1000000)) then (bif (decide (ws.nh≤1000000)) then (bif (decide (ws.ng≤1000000)) then (bif (gF1 ca3a ea3a (how,9)) then (bif (gF1 ca3a ea3a (x,3)) then (bif (gF1 ca3a ea3a (x,5)) then (bif (inB 0 ws.nh) then some (.v (.a [.lf ws.n (fJ ws.js),.lf ws.m (fM ws.ms),.lf ws.c (fS ws.sh),.lf ws.d (fK ws.sk),.lf ws.no (fO ws.ob),.lf ws.np (fZ ws.pl),.lf ws.nh (fun v=>[.n .i64 (bif (Nat.beq v 0) then (ws.hd 0).link else (ws.hd v).link),.n .i64 (bif (Nat.beq v 0) then (vJJ .i64 ((vJJ .i64 ((x % 5) - 2)) * 1048577)) else (ws.hd v).off.x),.n .i64 (bif (Nat.beq v 0) then (ws.hd 0).off.y else (ws.hd v).off.y),.n .i64 (bif (Nat.beq v 0) then (ws.hd 0).off.z else (ws.hd v).off.z)]),.lf ws.ng (fG ws.gr),.n .i64 ws.slack]),[])
 else none)
 else none)
 else none)
 else none)
 else none)
 else none)
 else none)
 else none):=by kernel_rfl
theorem jQE (ws:Wsp) (how x:Int) (hH:how % 9=3) (hR:x % 3=0) (_:ws.no≤1000∧ws.np≤1000∧ws.nh≤1000∧ws.ng≤1000∧ws.c≤1000) (_:0 < ws.no∧0 < ws.np∧0 < ws.nh):yK Tryz.prog 15 [.a (wP ws),.n .i64 how,.n .i64 x] (.v (.a (wP (kHA ws x)))):=by
 refine zZ (N:=60) (LO:=qZ (zYH ws how x)) jU zW (jW (l:=[(20,uXX)]) (m:=[]) ⟨xJK,trivial⟩ trivial) (fun p S hp => ?_) ?_
 ·refine qH (L:=qQ Tf 15) (l:=(zYH ws how x)) (show AllP _ (zYH ws how x) from trivial) p S hp
 ·refine (kYX ws how x).trans ?_;simp only [vJQ (show ws.no≤1000000 by omega),vJQ (show ws.np≤1000000 by omega),vJQ (show ws.nh≤1000000 by omega),vJQ (show ws.ng≤1000000 by omega),jQ (C:=ca3a) (t:=(how,9)) ⟨⟨by decide,by decide⟩,fun _=>hH,fun h=>absurd h (by decide)⟩,jQ (C:=ca3a) (t:=(x,3)) ⟨⟨by decide,by decide⟩,fun h=>absurd h (by decide),fun _=>hR⟩,jQ (C:=ca3a) (t:=(x,5)) ⟨⟨by decide,by decide⟩,fun h=>absurd h (by decide),fun h=>absurd h (by decide)⟩,show inB 0 ws.nh=true from yZ (p:=0) (show 0 < ws.nh by omega),Bool.and_true,vYV];rfl
def ca3b:Int × Int→Prop:=fun t=>match t with | (x,k)=>(0 < k∧k≤9223372036854775807)∧(k=9→x % 9=3)∧(k=3→x % 3=1)
def ea3b:Int × Int→List PV:=fun t=>match t with | (x,k)=>[.n .i64 x,.n .i64 k]
noncomputable def ra3b:Int × Int→Ret:=fun t=>match t with | (x,k)=>.v (.n .i64 (bif decide (k=9) then 3 else bif decide (k=3) then 1 else x % k))
def da3b:List PV→Int × Int:=fun ps=>match ps with
 | [.n _ x,.n _ k]=>(x,k)
 | _=>(0,0)
noncomputable def uXU:List PV→Option (Bool × Ret):=o_fm da3b ca3b ea3b ra3b
theorem xJJ:zY Tryz.prog 20 uXU:=uK fun t h=>by
 obtain ⟨x,k⟩:=t;exact zJV x k 3 1 h
def kHH (ws:Wsp) (x:Int):Wsp:=⟨ws.js,ws.ms,ws.sh,ws.sk,ws.n,ws.m,ws.c,ws.d,ws.ob,ws.pl,(fun v=>(Hnd.mk (bif (Nat.beq v 0) then (ws.hd 0).link else (ws.hd v).link) (Z3.mk (bif (Nat.beq v 0) then (ws.hd 0).off.x else (ws.hd v).off.x) (bif (Nat.beq v 0) then (vJJ .i64 ((vJJ .i64 ((x % 5) - 2)) * 1048577)) else (ws.hd v).off.y) (bif (Nat.beq v 0) then (ws.hd 0).off.z else (ws.hd v).off.z)))),ws.gr,ws.no,ws.np,ws.nh,ws.ng,ws.slack⟩
noncomputable def kYD (_:Wsp) (_ x:Int):OrS:=orS [(20,uXU)] []
noncomputable def zYG (_:Wsp) (_ x:Int):List (List Nat × jG):=[]
set_option maxRecDepth 100000 in
theorem kYU (ws:Wsp) (how x:Int):uJ Tf (kYD ws how x) (qZ (zYG ws how x)) 60 15 [.a (wP ws),.n .i64 how,.n .i64 x] =
 (bif (decide (ws.no≤1000000)) then (bif (decide (ws.np≤1000000)) then (bif (decide (ws.nh≤1000000)) then (bif (decide (ws.ng≤1000000)) then (bif (gF1 ca3b ea3b (how,9)) then (bif (gF1 ca3b ea3b (x,3)) then (bif (gF1 ca3b ea3b (x,5)) then (bif (inB 0 ws.nh) then some (.v (.a [.lf ws.n (fJ ws.js),.lf ws.m (fM ws.ms),.lf ws.c (fS ws.sh),.lf ws.d (fK ws.sk),.lf ws.no (fO ws.ob),.lf ws.np (fZ ws.pl),.lf ws.nh (fun v=>[.n .i64 (bif (Nat.beq v 0) then (ws.hd 0).link else (ws.hd v).link),.n .i64 (bif (Nat.beq v 0) then (ws.hd 0).off.x else (ws.hd v).off.x),.n .i64 (bif (Nat.beq v 0) then (vJJ .i64 ((vJJ .i64 ((x % 5) - 2)) * 1048577)) else (ws.hd v).off.y),.n .i64 (bif (Nat.beq v 0) then (ws.hd 0).off.z else (ws.hd v).off.z)]),.lf ws.ng (fG ws.gr),.n .i64 ws.slack]),[])
 else none)
 else none)
 else none)
 else none)
 else none)
 else none)
 else none)
 else none):=by kernel_rfl
theorem jQD (ws:Wsp) (how x:Int) (hH:how % 9=3) (hR:x % 3=1) (_:ws.no≤1000∧ws.np≤1000∧ws.nh≤1000∧ws.ng≤1000∧ws.c≤1000) (_:0 < ws.no∧0 < ws.np∧0 < ws.nh):yK Tryz.prog 15 [.a (wP ws),.n .i64 how,.n .i64 x] (.v (.a (wP (kHH ws x)))):=by
 refine zZ (N:=60) (LO:=qZ (zYG ws how x)) jU zW (jW (l:=[(20,uXU)]) (m:=[]) ⟨xJJ,trivial⟩ trivial) (fun p S hp => ?_) ?_
 ·refine qH (L:=qQ Tf 15) (l:=(zYG ws how x)) (show AllP _ (zYG ws how x) from trivial) p S hp
 ·refine (kYU ws how x).trans ?_;simp only [vJQ (show ws.no≤1000000 by omega),vJQ (show ws.np≤1000000 by omega),vJQ (show ws.nh≤1000000 by omega),vJQ (show ws.ng≤1000000 by omega),jQ (C:=ca3b) (t:=(how,9)) ⟨⟨by decide,by decide⟩,fun _=>hH,fun h=>absurd h (by decide)⟩,jQ (C:=ca3b) (t:=(x,3)) ⟨⟨by decide,by decide⟩,fun h=>absurd h (by decide),fun _=>hR⟩,jQ (C:=ca3b) (t:=(x,5)) ⟨⟨by decide,by decide⟩,fun h=>absurd h (by decide),fun h=>absurd h (by decide)⟩,show inB 0 ws.nh=true from yZ (p:=0) (show 0 < ws.nh by omega),Bool.and_true,vYV];rfl
def ca3c:Int × Int→Prop:=fun t=>match t with | (x,k)=>(0 < k∧k≤9223372036854775807)∧(k=9→x % 9=3)∧(k=3→x % 3=2)
def ea3c:Int × Int→List PV:=fun t=>match t with | (x,k)=>[.n .i64 x,.n .i64 k]
noncomputable def ra3c:Int × Int→Ret:=fun t=>match t with | (x,k)=>.v (.n .i64 (bif decide (k=9) then 3 else bif decide (k=3) then 2 else x % k))
def da3c:List PV→Int × Int:=fun ps=>match ps with
 | [.n _ x,.n _ k]=>(x,k)
 | _=>(0,0)
noncomputable def uXK:List PV→Option (Bool × Ret):=o_fm da3c ca3c ea3c ra3c
theorem xJY:zY Tryz.prog 20 uXK:=uK fun t h=>by
 obtain ⟨x,k⟩:=t;exact zJV x k 3 2 h
def kHG (ws:Wsp) (x:Int):Wsp:=⟨ws.js,ws.ms,ws.sh,ws.sk,ws.n,ws.m,ws.c,ws.d,ws.ob,ws.pl,(fun v=>(Hnd.mk (bif (Nat.beq v 0) then (ws.hd 0).link else (ws.hd v).link) (Z3.mk (bif (Nat.beq v 0) then (ws.hd 0).off.x else (ws.hd v).off.x) (bif (Nat.beq v 0) then (ws.hd 0).off.y else (ws.hd v).off.y) (bif (Nat.beq v 0) then (vJJ .i64 ((vJJ .i64 ((x % 5) - 2)) * 1048577)) else (ws.hd v).off.z)))),ws.gr,ws.no,ws.np,ws.nh,ws.ng,ws.slack⟩
noncomputable def kYC (_:Wsp) (_ x:Int):OrS:=orS [(20,uXK)] []
noncomputable def zYV (_:Wsp) (_ x:Int):List (List Nat × jG):=[]
set_option maxRecDepth 100000 in
theorem kYK (ws:Wsp) (how x:Int):uJ Tf (kYC ws how x) (qZ (zYV ws how x)) 60 15 [.a (wP ws),.n .i64 how,.n .i64 x] =
 (bif (decide (ws.no≤1000000)) then (bif (decide (ws.np≤1000000)) then (bif (decide (ws.nh≤1000000)) then (bif (decide (ws.ng≤1000000)) then (bif (gF1 ca3c ea3c (how,9)) then (bif (gF1 ca3c ea3c (x,3)) then (bif (gF1 ca3c ea3c (x,5)) then (bif (inB 0 ws.nh) then some (.v (.a [.lf ws.n (fJ ws.js),.lf ws.m (fM ws.ms),.lf ws.c (fS ws.sh),.lf ws.d (fK ws.sk),.lf ws.no (fO ws.ob),.lf ws.np (fZ ws.pl),.lf ws.nh (fun v=>[.n .i64 (bif (Nat.beq v 0) then (ws.hd 0).link else (ws.hd v).link),.n .i64 (bif (Nat.beq v 0) then (ws.hd 0).off.x else (ws.hd v).off.x),.n .i64 (bif (Nat.beq v 0) then (ws.hd 0).off.y else (ws.hd v).off.y),.n .i64 (bif (Nat.beq v 0) then (vJJ .i64 ((vJJ .i64 ((x % 5) - 2)) * 1048577)) else (ws.hd v).off.z)]),.lf ws.ng (fG ws.gr),.n .i64 ws.slack]),[])
 else none)
 else none)
 else none)
 else none)
 else none)
 else none)
 else none)
 else none):=by kernel_rfl
theorem jQC (ws:Wsp) (how x:Int) (hH:how % 9=3) (hR:x % 3=2) (_:ws.no≤1000∧ws.np≤1000∧ws.nh≤1000∧ws.ng≤1000∧ws.c≤1000) (_:0 < ws.no∧0 < ws.np∧0 < ws.nh):yK Tryz.prog 15 [.a (wP ws),.n .i64 how,.n .i64 x] (.v (.a (wP (kHG ws x)))):=by
 refine zZ (N:=60) (LO:=qZ (zYV ws how x)) jU zW (jW (l:=[(20,uXK)]) (m:=[]) ⟨xJY,trivial⟩ trivial) (fun p S hp => ?_) ?_
 ·refine qH (L:=qQ Tf 15) (l:=(zYV ws how x)) (show AllP _ (zYV ws how x) from trivial) p S hp
 ·refine (kYK ws how x).trans ?_;simp only [vJQ (show ws.no≤1000000 by omega),vJQ (show ws.np≤1000000 by omega),vJQ (show ws.nh≤1000000 by omega),vJQ (show ws.ng≤1000000 by omega),jQ (C:=ca3c) (t:=(how,9)) ⟨⟨by decide,by decide⟩,fun _=>hH,fun h=>absurd h (by decide)⟩,jQ (C:=ca3c) (t:=(x,3)) ⟨⟨by decide,by decide⟩,fun h=>absurd h (by decide),fun _=>hR⟩,jQ (C:=ca3c) (t:=(x,5)) ⟨⟨by decide,by decide⟩,fun h=>absurd h (by decide),fun h=>absurd h (by decide)⟩,show inB 0 ws.nh=true from yZ (p:=0) (show 0 < ws.nh by omega),Bool.and_true,vYV];rfl
def ca4:Int × Int→Prop:=fun t=>match t with | (x,k)=>(0 < k∧k≤9223372036854775807)∧(k=9→x % 9=4)
def ea4:Int × Int→List PV:=fun t=>match t with | (x,k)=>[.n .i64 x,.n .i64 k]
noncomputable def ra4:Int × Int→Ret:=fun t=>match t with | (x,k)=>.v (.n .i64 (bif decide (k=9) then 4 else x % k))
def da4:List PV→Int × Int:=fun ps=>match ps with
 | [.n _ x,.n _ k]=>(x,k)
 | _=>(0,0)
noncomputable def o_a4:List PV→Option (Bool × Ret):=o_fm da4 ca4 ea4 ra4
theorem fZI:zY Tryz.prog 20 o_a4:=uK fun t h=>by
 obtain ⟨x,k⟩:=t;exact zJW x k 4 h
def xUF (ws:Wsp) (x:Int):Wsp:=⟨ws.js,ws.ms,ws.sh,ws.sk,ws.n,ws.m,ws.c,ws.d,(fun v=>(ObT.mk (bif (Nat.beq v 0) then (bif (decide ((x % 4)=0)) then (ByteArray.mk #[]) else (bif (decide (((x % 4) - 1)=0)) then (ByteArray.mk #[98]) else (bif (decide ((((x % 4) - 1) - 1)=0)) then (ByteArray.mk #[48]) else (ByteArray.mk #[110,97,109,101,95,116,104,97,116,95,105,115,95,116,111,111,95,108,111,110,103])))) else (ws.ob v).name) (bif (Nat.beq v 0) then (ws.ob 0).ns else (ws.ob v).ns) (fun y=>(Shp.mk (bif (Nat.beq v 0) then ((ws.ob 0).shs y).link else ((ws.ob v).shs y).link) (bif (Nat.beq v 0) then ((ws.ob 0).shs y).rad else ((ws.ob v).shs y).rad) (bif (Nat.beq v 0) then ((ws.ob 0).shs y).np else ((ws.ob v).shs y).np) (fun u=>(Z3.mk (bif (Nat.beq v 0) then (((ws.ob 0).shs y).pts u).x else (((ws.ob v).shs y).pts u).x) (bif (Nat.beq v 0) then (((ws.ob 0).shs y).pts u).y else (((ws.ob v).shs y).pts u).y) (bif (Nat.beq v 0) then (((ws.ob 0).shs y).pts u).z else (((ws.ob v).shs y).pts u).z))))))),ws.pl,ws.hd,ws.gr,ws.no,ws.np,ws.nh,ws.ng,ws.slack⟩
noncomputable def uKX (_:Wsp) (_ x:Int):OrS:=orS [(20,o_a4)] []
noncomputable def zGL (_:Wsp) (_ x:Int):List (List Nat × jG):=[]
set_option maxRecDepth 100000 in
theorem uJI (ws:Wsp) (how x:Int):uJ Tf (uKX ws how x) (qZ (zGL ws how x)) 60 15 [.a (wP ws),.n .i64 how,.n .i64 x] =
 (bif (decide (ws.no≤1000000)) then (bif (decide (ws.np≤1000000)) then (bif (decide (ws.nh≤1000000)) then (bif (decide (ws.ng≤1000000)) then (bif (gF1 ca4 ea4 (how,9)) then (bif (gF1 ca4 ea4 (x,4)) then (bif (inB (x % 4) 4 && true) then (bif (inB 0 ws.no) then some (.v (.a [.lf ws.n (fJ ws.js),.lf ws.m (fM ws.ms),.lf ws.c (fS ws.sh),.lf ws.d (fK ws.sk),.lf ws.no (fun v=>[.s (bif (Nat.beq v 0) then (bif (decide ((x % 4)=0)) then (ByteArray.mk #[]) else (bif (decide (((x % 4) - 1)=0)) then (ByteArray.mk #[98]) else (bif (decide ((((x % 4) - 1) - 1)=0)) then (ByteArray.mk #[48]) else (ByteArray.mk #[110,97,109,101,95,116,104,97,116,95,105,115,95,116,111,111,95,108,111,110,103])))) else (ws.ob v).name),.lf (bif (Nat.beq v 0) then (ws.ob 0).ns else (ws.ob v).ns) (fun y'=>[.n .i64 (bif (Nat.beq v 0) then ((ws.ob 0).shs y').link else ((ws.ob v).shs y').link),.n .i64 (bif (Nat.beq v 0) then ((ws.ob 0).shs y').rad else ((ws.ob v).shs y').rad),.lf (bif (Nat.beq v 0) then ((ws.ob 0).shs y').np else ((ws.ob v).shs y').np) (fun w'=>[.n .i64 (bif (Nat.beq v 0) then (((ws.ob 0).shs y').pts w').x else (((ws.ob v).shs y').pts w').x),.n .i64 (bif (Nat.beq v 0) then (((ws.ob 0).shs y').pts w').y else (((ws.ob v).shs y').pts w').y),.n .i64 (bif (Nat.beq v 0) then (((ws.ob 0).shs y').pts w').z else (((ws.ob v).shs y').pts w').z)])])]),.lf ws.np (fZ ws.pl),.lf ws.nh (fH ws.hd),.lf ws.ng (fG ws.gr),.n .i64 ws.slack]),[])
 else none)
 else none)
 else none)
 else none)
 else none)
 else none)
 else none)
 else none):=by kernel_rfl
theorem jJI (ws:Wsp) (how x:Int) (hH:how % 9=4) (h1:ws.no≤1000∧ws.np≤1000∧ws.nh≤1000∧ws.ng≤1000∧ws.c≤1000) (h2:0 < ws.no∧0 < ws.np∧0 < ws.nh):yK Tryz.prog 15 [.a (wP ws),.n .i64 how,.n .i64 x] (.v (.a (wP (xUF ws x)))):=by
 refine zZ (N:=60) (LO:=qZ (zGL ws how x)) jU zW (jW (l:=[(20,o_a4)]) (m:=[]) ⟨fZI,trivial⟩ trivial) (fun p S hp => ?_) ?_
 ·refine qH (L:=qQ Tf 15) (l:=(zGL ws how x)) (show AllP _ (zGL ws how x) from trivial) p S hp
 ·refine (uJI ws how x).trans ?_;have hx4:inB (x % 4) 4=true:=by
   have h1:=Int.emod_nonneg x (show (4:Int) ≠ 0 by decide);have h2:=Int.emod_lt_of_pos x (show (0:Int) < 4 by decide);have e:x % 4=(((x % 4).toNat:Nat):Int):=by omega
   rw [e]; exact yZ (by omega)
  simp only [vJQ (show ws.no≤1000000 by omega),vJQ (show ws.np≤1000000 by omega),vJQ (show ws.nh≤1000000 by omega),vJQ (show ws.ng≤1000000 by omega),jQ (C:=ca4) (t:=(how,9)) ⟨⟨by decide,by decide⟩,fun _=>hH⟩,jQ (C:=ca4) (t:=(x,4)) ⟨⟨by decide,by decide⟩,fun h=>absurd h (by decide)⟩,show inB (x % 4) 4=true from hx4,show inB 0 ws.no=true from yZ (p:=0) (show 0 < ws.no by omega),Bool.and_true,vYV];rfl
def ca5:Int × Int→Prop:=fun t=>match t with | (x,k)=>(0 < k∧k≤9223372036854775807)∧(k=9→x % 9=5)
def ea5:Int × Int→List PV:=fun t=>match t with | (x,k)=>[.n .i64 x,.n .i64 k]
noncomputable def ra5:Int × Int→Ret:=fun t=>match t with | (x,k)=>.v (.n .i64 (bif decide (k=9) then 5 else x % k))
def da5:List PV→Int × Int:=fun ps=>match ps with
 | [.n _ x,.n _ k]=>(x,k)
 | _=>(0,0)
noncomputable def o_a5:List PV→Option (Bool × Ret):=o_fm da5 ca5 ea5 ra5
theorem fZF:zY Tryz.prog 20 o_a5:=uK fun t h=>by
 obtain ⟨x,k⟩:=t;exact zJW x k 5 h
def xUE (ws:Wsp) (x:Int):Wsp:=⟨ws.js,ws.ms,ws.sh,ws.sk,ws.n,ws.m,ws.c,ws.d,(fun v=>(ObT.mk (bif (Nat.beq v 0) then (ws.ob 0).name else (ws.ob v).name) (bif (Nat.beq v 0) then 1 else (ws.ob v).ns) (fun y=>(Shp.mk (bif (Nat.beq v 0) then (vJJ .i64 ((x % 3) - 1)) else ((ws.ob v).shs y).link) (bif (Nat.beq v 0) then (x % 2) else ((ws.ob v).shs y).rad) (bif (Nat.beq v 0) then 1 else ((ws.ob v).shs y).np) (fun u=>(Z3.mk (bif (Nat.beq v 0) then 0 else (((ws.ob v).shs y).pts u).x) (bif (Nat.beq v 0) then 0 else (((ws.ob v).shs y).pts u).y) (bif (Nat.beq v 0) then 0 else (((ws.ob v).shs y).pts u).z))))))),ws.pl,ws.hd,ws.gr,ws.no,ws.np,ws.nh,ws.ng,ws.slack⟩
noncomputable def uKU (_:Wsp) (_ x:Int):OrS:=orS [(20,o_a5)] []
noncomputable def zGI (_:Wsp) (_ x:Int):List (List Nat × jG):=[]
set_option maxRecDepth 100000 in
theorem uJF (ws:Wsp) (how x:Int):uJ Tf (uKU ws how x) (qZ (zGI ws how x)) 60 15 [.a (wP ws),.n .i64 how,.n .i64 x] =
 (bif (decide (ws.no≤1000000)) then (bif (decide (ws.np≤1000000)) then (bif (decide (ws.nh≤1000000)) then (bif (decide (ws.ng≤1000000)) then (bif (gF1 ca5 ea5 (how,9)) then (bif (gF1 ca5 ea5 (x,3)) then (bif (gF1 ca5 ea5 (x,2)) then (bif (inB 0 ws.no) then some (.v (.a [.lf ws.n (fJ ws.js),.lf ws.m (fM ws.ms),.lf ws.c (fS ws.sh),.lf ws.d (fK ws.sk),.lf ws.no (fun v=>[.s (bif (Nat.beq v 0) then (ws.ob 0).name else (ws.ob v).name),.lf (bif (Nat.beq v 0) then 1 else (ws.ob v).ns) (fun v'=>[.n .i64 (bif (Nat.beq v 0) then (vJJ .i64 ((x % 3) - 1)) else ((ws.ob v).shs v').link),.n .i64 (bif (Nat.beq v 0) then (x % 2) else ((ws.ob v).shs v').rad),.lf (bif (Nat.beq v 0) then 1 else ((ws.ob v).shs v').np) (fun v''=>[.n .i64 (bif (Nat.beq v 0) then 0 else (((ws.ob v).shs v').pts v'').x),.n .i64 (bif (Nat.beq v 0) then 0 else (((ws.ob v).shs v').pts v'').y),.n .i64 (bif (Nat.beq v 0) then 0 else (((ws.ob v).shs v').pts v'').z)])])]),.lf ws.np (fZ ws.pl),.lf ws.nh (fH ws.hd),.lf ws.ng (fG ws.gr),.n .i64 ws.slack]),[])
 else none)
 else none)
 else none)
 else none)
 else none)
 else none)
 else none)
 else none):=by kernel_rfl
theorem jJF (ws:Wsp) (how x:Int) (hH:how % 9=5) (_:ws.no≤1000∧ws.np≤1000∧ws.nh≤1000∧ws.ng≤1000∧ws.c≤1000) (_:0 < ws.no∧0 < ws.np∧0 < ws.nh):yK Tryz.prog 15 [.a (wP ws),.n .i64 how,.n .i64 x] (.v (.a (wP (xUE ws x)))):=by
 refine zZ (N:=60) (LO:=qZ (zGI ws how x)) jU zW (jW (l:=[(20,o_a5)]) (m:=[]) ⟨fZF,trivial⟩ trivial) (fun p S hp => ?_) ?_
 ·refine qH (L:=qQ Tf 15) (l:=(zGI ws how x)) (show AllP _ (zGI ws how x) from trivial) p S hp
 ·refine (uJF ws how x).trans ?_;simp only [vJQ (show ws.no≤1000000 by omega),vJQ (show ws.np≤1000000 by omega),vJQ (show ws.nh≤1000000 by omega),vJQ (show ws.ng≤1000000 by omega),jQ (C:=ca5) (t:=(how,9)) ⟨⟨by decide,by decide⟩,fun _=>hH⟩,jQ (C:=ca5) (t:=(x,3)) ⟨⟨by decide,by decide⟩,fun h=>absurd h (by decide)⟩,jQ (C:=ca5) (t:=(x,2)) ⟨⟨by decide,by decide⟩,fun h=>absurd h (by decide)⟩,show inB 0 ws.no=true from yZ (p:=0) (show 0 < ws.no by omega),Bool.and_true,vYV];rfl
def ca6:Int × Int→Prop:=fun t=>match t with | (x,k)=>(0 < k∧k≤9223372036854775807)∧(k=9→x % 9=6)
def ea6:Int × Int→List PV:=fun t=>match t with | (x,k)=>[.n .i64 x,.n .i64 k]
noncomputable def ra6:Int × Int→Ret:=fun t=>match t with | (x,k)=>.v (.n .i64 (bif decide (k=9) then 6 else x % k))
def da6:List PV→Int × Int:=fun ps=>match ps with
 | [.n _ x,.n _ k]=>(x,k)
 | _=>(0,0)
noncomputable def o_a6:List PV→Option (Bool × Ret):=o_fm da6 ca6 ea6 ra6
theorem fZE:zY Tryz.prog 20 o_a6:=uK fun t h=>by
 obtain ⟨x,k⟩:=t;exact zJW x k 6 h
def xUD (ws:Wsp) (x:Int):Wsp:=⟨ws.js,ws.ms,ws.sh,ws.sk,ws.n,ws.m,ws.c,ws.d,ws.ob,ws.pl,ws.hd,(fun v=>(Grp.mk (bif (Nat.blt v ws.ng) then (ws.gr v).hand else (vJJ .i64 ((x % 5) - 1))) (bif (Nat.blt v ws.ng) then (ws.gr v).place else (vJJ .i64 ((x % 7) - 1))) (bif (Nat.blt v ws.ng) then (ws.gr v).na else 2) (fun u=>(bif (Nat.blt v ws.ng) then ((ws.gr v).cf u) else (bif (Nat.beq u 0) then (x % 80) else 0))))),ws.no,ws.np,ws.nh,(ws.ng + 1),ws.slack⟩
noncomputable def uKK (_:Wsp) (_ x:Int):OrS:=orS [(20,o_a6)] []
noncomputable def zGF (_:Wsp) (_ x:Int):List (List Nat × jG):=[]
set_option maxRecDepth 100000 in
theorem uJE (ws:Wsp) (how x:Int):uJ Tf (uKK ws how x) (qZ (zGF ws how x)) 60 15 [.a (wP ws),.n .i64 how,.n .i64 x] =
 (bif (decide (ws.no≤1000000)) then (bif (decide (ws.np≤1000000)) then (bif (decide (ws.nh≤1000000)) then (bif (decide (ws.ng≤1000000)) then (bif (gF1 ca6 ea6 (how,9)) then (bif (gF1 ca6 ea6 (x,5)) then (bif (gF1 ca6 ea6 (x,7)) then (bif (gF1 ca6 ea6 (x,80)) then (bif (decide (ws.ng + 1≤1000000)) then some (.v (.a [.lf ws.n (fJ ws.js),.lf ws.m (fM ws.ms),.lf ws.c (fS ws.sh),.lf ws.d (fK ws.sk),.lf ws.no (fO ws.ob),.lf ws.np (fZ ws.pl),.lf ws.nh (fH ws.hd),.lf (ws.ng + 1) (fun v=>[.n .i64 (bif (Nat.blt v ws.ng) then (ws.gr v).hand else (vJJ .i64 ((x % 5) - 1))),.n .i64 (bif (Nat.blt v ws.ng) then (ws.gr v).place else (vJJ .i64 ((x % 7) - 1))),.lf (bif (Nat.blt v ws.ng) then (ws.gr v).na else 2) (fun y'=>[.n .i64 (bif (Nat.blt v ws.ng) then ((ws.gr v).cf y') else (bif (Nat.beq y' 0) then (x % 80) else 0))])]),.n .i64 ws.slack]),[])
 else none)
 else none)
 else none)
 else none)
 else none)
 else none)
 else none)
 else none)
 else none):=by kernel_rfl
theorem jJE (ws:Wsp) (how x:Int) (hH:how % 9=6) (_:ws.no≤1000∧ws.np≤1000∧ws.nh≤1000∧ws.ng≤1000∧ws.c≤1000) (_:0 < ws.no∧0 < ws.np∧0 < ws.nh):yK Tryz.prog 15 [.a (wP ws),.n .i64 how,.n .i64 x] (.v (.a (wP (xUD ws x)))):=by
 refine zZ (N:=60) (LO:=qZ (zGF ws how x)) jU zW (jW (l:=[(20,o_a6)]) (m:=[]) ⟨fZE,trivial⟩ trivial) (fun p S hp => ?_) ?_
 ·refine qH (L:=qQ Tf 15) (l:=(zGF ws how x)) (show AllP _ (zGF ws how x) from trivial) p S hp
 ·refine (uJE ws how x).trans ?_;simp only [vJQ (show ws.no≤1000000 by omega),vJQ (show ws.np≤1000000 by omega),vJQ (show ws.nh≤1000000 by omega),vJQ (show ws.ng≤1000000 by omega),jQ (C:=ca6) (t:=(how,9)) ⟨⟨by decide,by decide⟩,fun _=>hH⟩,jQ (C:=ca6) (t:=(x,5)) ⟨⟨by decide,by decide⟩,fun h=>absurd h (by decide)⟩,jQ (C:=ca6) (t:=(x,7)) ⟨⟨by decide,by decide⟩,fun h=>absurd h (by decide)⟩,jQ (C:=ca6) (t:=(x,80)) ⟨⟨by decide,by decide⟩,fun h=>absurd h (by decide)⟩,vJQ (show ws.ng + 1≤1000000 by omega),Bool.and_true,vYV];rfl
def ca7:Int × Int→Prop:=fun t=>match t with | (x,k)=>(0 < k∧k≤9223372036854775807)∧(k=9→x % 9=7)
def ea7:Int × Int→List PV:=fun t=>match t with | (x,k)=>[.n .i64 x,.n .i64 k]
noncomputable def ra7:Int × Int→Ret:=fun t=>match t with | (x,k)=>.v (.n .i64 (bif decide (k=9) then 7 else x % k))
def da7:List PV→Int × Int:=fun ps=>match ps with
 | [.n _ x,.n _ k]=>(x,k)
 | _=>(0,0)
noncomputable def o_a7:List PV→Option (Bool × Ret):=o_fm da7 ca7 ea7 ra7
theorem fZD:zY Tryz.prog 20 o_a7:=uK fun t h=>by
 obtain ⟨x,k⟩:=t;exact zJW x k 7 h
def xUC (ws:Wsp) (x:Int):Wsp:=⟨ws.js,ws.ms,ws.sh,ws.sk,ws.n,ws.m,ws.c,ws.d,(fun v=>(ObT.mk (bif (Nat.blt v ws.no) then (ws.ob v).name else (ws.ob 0).name) (bif (Nat.blt v ws.no) then (ws.ob v).ns else (ws.ob 0).ns) (fun y=>(Shp.mk (bif (Nat.blt v ws.no) then ((ws.ob v).shs y).link else ((ws.ob 0).shs y).link) (bif (Nat.blt v ws.no) then ((ws.ob v).shs y).rad else ((ws.ob 0).shs y).rad) (bif (Nat.blt v ws.no) then ((ws.ob v).shs y).np else ((ws.ob 0).shs y).np) (fun u=>(Z3.mk (bif (Nat.blt v ws.no) then (((ws.ob v).shs y).pts u).x else (((ws.ob 0).shs y).pts u).x) (bif (Nat.blt v ws.no) then (((ws.ob v).shs y).pts u).y else (((ws.ob 0).shs y).pts u).y) (bif (Nat.blt v ws.no) then (((ws.ob v).shs y).pts u).z else (((ws.ob 0).shs y).pts u).z))))))),ws.pl,ws.hd,ws.gr,(ws.no + 1),ws.np,ws.nh,ws.ng,ws.slack⟩
noncomputable def uKJ (_:Wsp) (_ x:Int):OrS:=orS [(20,o_a7)] []
noncomputable def zGE (_:Wsp) (_ x:Int):List (List Nat × jG):=[]
set_option maxRecDepth 100000 in
theorem uJD (ws:Wsp) (how x:Int):uJ Tf (uKJ ws how x) (qZ (zGE ws how x)) 60 15 [.a (wP ws),.n .i64 how,.n .i64 x] =
 (bif (decide (ws.no≤1000000)) then (bif (decide (ws.np≤1000000)) then (bif (decide (ws.nh≤1000000)) then (bif (decide (ws.ng≤1000000)) then (bif (gF1 ca7 ea7 (how,9)) then (bif (inB 0 ws.no) then (bif (decide (ws.no + 1≤1000000)) then some (.v (.a [.lf ws.n (fJ ws.js),.lf ws.m (fM ws.ms),.lf ws.c (fS ws.sh),.lf ws.d (fK ws.sk),.lf (ws.no + 1) (fun v=>[.s (bif (Nat.blt v ws.no) then (ws.ob v).name else (ws.ob 0).name),.lf (bif (Nat.blt v ws.no) then (ws.ob v).ns else (ws.ob 0).ns) (fun y'=>[.n .i64 (bif (Nat.blt v ws.no) then ((ws.ob v).shs y').link else ((ws.ob 0).shs y').link),.n .i64 (bif (Nat.blt v ws.no) then ((ws.ob v).shs y').rad else ((ws.ob 0).shs y').rad),.lf (bif (Nat.blt v ws.no) then ((ws.ob v).shs y').np else ((ws.ob 0).shs y').np) (fun w'=>[.n .i64 (bif (Nat.blt v ws.no) then (((ws.ob v).shs y').pts w').x else (((ws.ob 0).shs y').pts w').x),.n .i64 (bif (Nat.blt v ws.no) then (((ws.ob v).shs y').pts w').y else (((ws.ob 0).shs y').pts w').y),.n .i64 (bif (Nat.blt v ws.no) then (((ws.ob v).shs y').pts w').z else (((ws.ob 0).shs y').pts w').z)])])]),.lf ws.np (fZ ws.pl),.lf ws.nh (fH ws.hd),.lf ws.ng (fG ws.gr),.n .i64 ws.slack]),[])
 else none)
 else none)
 else none)
 else none)
 else none)
 else none)
 else none):=by kernel_rfl
theorem jJD (ws:Wsp) (how x:Int) (hH:how % 9=7) (_:ws.no≤1000∧ws.np≤1000∧ws.nh≤1000∧ws.ng≤1000∧ws.c≤1000) (_:0 < ws.no∧0 < ws.np∧0 < ws.nh):yK Tryz.prog 15 [.a (wP ws),.n .i64 how,.n .i64 x] (.v (.a (wP (xUC ws x)))):=by
 refine zZ (N:=60) (LO:=qZ (zGE ws how x)) jU zW (jW (l:=[(20,o_a7)]) (m:=[]) ⟨fZD,trivial⟩ trivial) (fun p S hp => ?_) ?_
 ·refine qH (L:=qQ Tf 15) (l:=(zGE ws how x)) (show AllP _ (zGE ws how x) from trivial) p S hp
 ·refine (uJD ws how x).trans ?_;simp only [vJQ (show ws.no≤1000000 by omega),vJQ (show ws.np≤1000000 by omega),vJQ (show ws.nh≤1000000 by omega),vJQ (show ws.ng≤1000000 by omega),jQ (C:=ca7) (t:=(how,9)) ⟨⟨by decide,by decide⟩,fun _=>hH⟩,show inB 0 ws.no=true from yZ (p:=0) (show 0 < ws.no by omega),vJQ (show ws.no + 1≤1000000 by omega),Bool.and_true,vYV];rfl
def ca8:Int × Int→Prop:=fun t=>match t with | (x,k)=>(0 < k∧k≤9223372036854775807)∧(k=9→x % 9=8)
def ea8:Int × Int→List PV:=fun t=>match t with | (x,k)=>[.n .i64 x,.n .i64 k]
noncomputable def ra8:Int × Int→Ret:=fun t=>match t with | (x,k)=>.v (.n .i64 (bif decide (k=9) then 8 else x % k))
def da8:List PV→Int × Int:=fun ps=>match ps with
 | [.n _ x,.n _ k]=>(x,k)
 | _=>(0,0)
noncomputable def o_a8:List PV→Option (Bool × Ret):=o_fm da8 ca8 ea8 ra8
theorem fZC:zY Tryz.prog 20 o_a8:=uK fun t h=>by
 obtain ⟨x,k⟩:=t;exact zJW x k 8 h
def xUB (ws:Wsp) (x:Int):Wsp:=⟨ws.js,ws.ms,(fun v=>(Shp.mk (bif (Nat.blt v ws.c) then (ws.sh v).link else (vJJ .i64 ((x % 5) - 2))) (bif (Nat.blt v ws.c) then (ws.sh v).rad else (x % 3)) (bif (Nat.blt v ws.c) then (ws.sh v).np else 1) (fun u=>(Z3.mk (bif (Nat.blt v ws.c) then ((ws.sh v).pts u).x else 0) (bif (Nat.blt v ws.c) then ((ws.sh v).pts u).y else 0) (bif (Nat.blt v ws.c) then ((ws.sh v).pts u).z else 0))))),ws.sk,ws.n,ws.m,(ws.c + 1),ws.d,ws.ob,ws.pl,ws.hd,ws.gr,ws.no,ws.np,ws.nh,ws.ng,ws.slack⟩
noncomputable def uKY (_:Wsp) (_ x:Int):OrS:=orS [(20,o_a8)] []
noncomputable def zGD (_:Wsp) (_ x:Int):List (List Nat × jG):=[]
set_option maxRecDepth 100000 in
theorem uJC (ws:Wsp) (how x:Int):uJ Tf (uKY ws how x) (qZ (zGD ws how x)) 60 15 [.a (wP ws),.n .i64 how,.n .i64 x] =
 (bif (decide (ws.no≤1000000)) then (bif (decide (ws.np≤1000000)) then (bif (decide (ws.nh≤1000000)) then (bif (decide (ws.ng≤1000000)) then (bif (gF1 ca8 ea8 (how,9)) then (bif (decide (ws.c≤1000000)) then (bif (gF1 ca8 ea8 (x,5)) then (bif (gF1 ca8 ea8 (x,3)) then (bif (decide (ws.c + 1≤1000000)) then some (.v (.a [.lf ws.n (fJ ws.js),.lf ws.m (fM ws.ms),.lf (ws.c + 1) (fun v=>[.n .i64 (bif (Nat.blt v ws.c) then (ws.sh v).link else (vJJ .i64 ((x % 5) - 2))),.n .i64 (bif (Nat.blt v ws.c) then (ws.sh v).rad else (x % 3)),.lf (bif (Nat.blt v ws.c) then (ws.sh v).np else 1) (fun w'=>[.n .i64 (bif (Nat.blt v ws.c) then ((ws.sh v).pts w').x else 0),.n .i64 (bif (Nat.blt v ws.c) then ((ws.sh v).pts w').y else 0),.n .i64 (bif (Nat.blt v ws.c) then ((ws.sh v).pts w').z else 0)])]),.lf ws.d (fK ws.sk),.lf ws.no (fO ws.ob),.lf ws.np (fZ ws.pl),.lf ws.nh (fH ws.hd),.lf ws.ng (fG ws.gr),.n .i64 ws.slack]),[])
 else none)
 else none)
 else none)
 else none)
 else none)
 else none)
 else none)
 else none)
 else none):=by kernel_rfl
theorem jJC (ws:Wsp) (how x:Int) (hH:how % 9=8) (_:ws.no≤1000∧ws.np≤1000∧ws.nh≤1000∧ws.ng≤1000∧ws.c≤1000) (_:0 < ws.no∧0 < ws.np∧0 < ws.nh):yK Tryz.prog 15 [.a (wP ws),.n .i64 how,.n .i64 x] (.v (.a (wP (xUB ws x)))):=by
 refine zZ (N:=60) (LO:=qZ (zGD ws how x)) jU zW (jW (l:=[(20,o_a8)]) (m:=[]) ⟨fZC,trivial⟩ trivial) (fun p S hp => ?_) ?_
 ·refine qH (L:=qQ Tf 15) (l:=(zGD ws how x)) (show AllP _ (zGD ws how x) from trivial) p S hp
 ·refine (uJC ws how x).trans ?_;simp only [vJQ (show ws.no≤1000000 by omega),vJQ (show ws.np≤1000000 by omega),vJQ (show ws.nh≤1000000 by omega),vJQ (show ws.ng≤1000000 by omega),jQ (C:=ca8) (t:=(how,9)) ⟨⟨by decide,by decide⟩,fun _=>hH⟩,vJQ (show ws.c≤1000000 by omega),jQ (C:=ca8) (t:=(x,5)) ⟨⟨by decide,by decide⟩,fun h=>absurd h (by decide)⟩,jQ (C:=ca8) (t:=(x,3)) ⟨⟨by decide,by decide⟩,fun h=>absurd h (by decide)⟩,vJQ (show ws.c + 1≤1000000 by omega),Bool.and_true,vYV];rfl
theorem okc {ws:Wsp} (k0:okW ws) (h0:(ws.ob 0).ns=1) (i:Nat) (hi:i < ws.no):(bif Nat.beq i 0 then (ws.ob 0).ns else (ws.ob i).ns)≤8796093021952:=by
 cases Nat.beq i 0
 ·exact k0 i hi
 ·rw [vYV,h0]; decide
theorem okd {ws:Wsp} (k0:okW ws) (i:Nat) (hi:i < ws.no):(bif Nat.beq i 0 then 1 else (ws.ob i).ns)≤8796093021952:=by
 cases Nat.beq i 0
 ·exact k0 i hi
 ·rw [vYV]; decide
theorem oke {ws:Wsp} (h:∀ i,i < ws.no→(ws.ob i).ns=1) (h0:0 < ws.no) (i:Nat):(bif Nat.blt i ws.no then (ws.ob i).ns else (ws.ob 0).ns)≤8796093021952:=by
 cases hb:Nat.blt i ws.no
 ·rw [vYG,h 0 h0]; decide
 ·rw [Nat.blt_eq] at hb;rw [vYV,h i hb]; decide
theorem xXQ {ws:Wsp} (h:MadeW ws) (how x:Int):∃ u:Wsp,okW u∧yK Tryz.prog 15 [.a (wP ws),.n .i64 how,.n .i64 x] (.v (.a (wP u))):=by
 have hn:=h.np;have hh:=h.nh;have ho:=h.no;have hg:=h.ng;have hc:=h.c;have b1:ws.no≤1000∧ws.np≤1000∧ws.nh≤1000∧ws.ng≤1000∧ws.c≤1000:=by omega
 have b2:0 < ws.no∧0 < ws.np∧0 < ws.nh:=by omega
 have k0:=zGC h;have hob:∀ i,i < ws.no→(ws.ob i).ns=1:=fun i hi=>(h.ob i hi).2.1
 have e:how % 9=0 ∨ how % 9=1 ∨ how % 9=2 ∨ how % 9=3 ∨ how % 9=4 ∨ how % 9=5 ∨ how % 9=6 ∨ how % 9=7 ∨ how % 9=8:=by omega
 have f:x % 3=0 ∨ x % 3=1 ∨ x % 3=2:=by omega
 rcases e with e | e | e | e | e | e | e | e | e
 ·exact ⟨xUL ws x,k0,jKQ ws how x e b1 b2⟩
 ·rcases f with f | f | f
  ·exact ⟨kHD ws x,k0,jQL ws how x e f b1 b2⟩
  ·exact ⟨kHC ws x,k0,jQI ws how x e f b1 b2⟩
  ·exact ⟨kHB ws x,k0,jQF ws how x e f b1 b2⟩
 ·exact ⟨xUI ws x,k0,jJL ws how x e b1 b2⟩
 ·rcases f with f | f | f
  ·exact ⟨kHA ws x,k0,jQE ws how x e f b1 b2⟩
  ·exact ⟨kHH ws x,k0,jQD ws how x e f b1 b2⟩
  ·exact ⟨kHG ws x,k0,jQC ws how x e f b1 b2⟩
 ·exact ⟨xUF ws x,fun i hi=>okc k0 (hob 0 b2.1) i hi,jJI ws how x e b1 b2⟩
 ·exact ⟨xUE ws x,fun i hi=>okd k0 i hi,jJF ws how x e b1 b2⟩
 ·exact ⟨xUD ws x,k0,jJE ws how x e b1 b2⟩
 ·exact ⟨xUC ws x,fun i hi=>oke hob b2.1 i,jJD ws how x e b1 b2⟩
 ·exact ⟨xUB ws x,k0,jJC ws how x e b1 b2⟩
end Go.Proofs.YtgmbkkkbfbocnaaGreat.Ho
namespace Go.Proofs.YtgmbkkkbfbocnaaGreat.Hr
open Go.Rx Rt Go.Sx Go.RowKit Od Na Nb Nc Nx Nf Nl Nm Ga Gb Gc Gd Ge Gf Gg Sn Ha Hb Hc Hd He Hf Hg Hh Hi Hj Hk Hm Hn Ho
noncomputable def xHC (_ w2 w3:Wsp) (k:Nat) (q:Nat→Int) (wl:Nat) (e:Nat→Int) (wm:Nat) (e2 qa:Nat→Int) (how x:Int):OrS:=orS [(13,o_cr [] (.v (.b true))),(14,o_cr [.lf wl (fQ e)] (.v (.a (wP w2)))),(15,o_cr [.a (wP w2),.n .i64 how,.n .i64 x] (.v (.a (wP w3)))),(19,o_cr [.a (wP w2),.lf wm (fQ e2)] (.v (.a [.lf w2.no (fQ qa)]))),(18,o_ls)] []
noncomputable def kXQ (_ _ _:Wsp) (k:Nat) (q:Nat→Int) (_:Nat) (e:Nat→Int) (_:Nat) (_ _:Nat→Int) (_ x:Int):List (List Nat × jG):=[]
set_option maxRecDepth 100000 in
theorem xGE (ws w2 w3:Wsp) (k:Nat) (q:Nat→Int) (wl:Nat) (e:Nat→Int) (wm:Nat) (e2 qa:Nat→Int) (how x:Int):uJ Tf (xHC ws w2 w3 k q wl e wm e2 qa how x) (qZ (kXQ ws w2 w3 k q wl e wm e2 qa how x)) 60 5 [.a (wP ws),.a [.lf k (fQ q)],.lf wl (fQ e),.lf wm (fQ e2),.n .i64 how,.n .i64 x] =
 (bif (decide ((ws.n:Int)≤4)) then (bif (decide ((ws.m:Int)≤6)) then (bif (decide ((ws.c:Int)≤6)) then (bif (decide ((ws.d:Int)≤8)) then (bif (decide ((ws.no:Int)≤8)) then (bif (decide ((ws.np:Int)≤12)) then (bif (decide ((ws.nh:Int)≤6)) then (bif (decide ((ws.ng:Int)≤40)) then (bif (decide (20 < (k:Int))) then (bif (g1 []) then some (.v (.b true),[])
 else none)
 else (bif (g1 [.lf wl (fQ e)]) then (bif (g1 []) then (bif (gF1 cls els (ws,k,q)) then (bif (gF1 cls els (w2,k,q)) then (bif (g1 [.a (wP w2),.lf wm (fQ e2)]) then (bif (gF1 cls els (w2,w2.no,qa)) then (bif (g1 [.a (wP w2),.n .i64 how,.n .i64 x]) then (bif (g1 [.a (wP w2),.lf wm (fQ e2)]) then (bif (gF1 cls els (w3,w2.no,qa)) then some (.v (.b true),[])
 else none)
 else none)
 else none)
 else none)
 else none)
 else none)
 else none)
 else none)
 else none))
 else (bif (g1 []) then some (.v (.b true),[])
 else none))
 else (bif (g1 []) then some (.v (.b true),[])
 else none))
 else (bif (g1 []) then some (.v (.b true),[])
 else none))
 else (bif (g1 []) then some (.v (.b true),[])
 else none))
 else (bif (g1 []) then some (.v (.b true),[])
 else none))
 else (bif (g1 []) then some (.v (.b true),[])
 else none))
 else (bif (g1 []) then some (.v (.b true),[])
 else none))
 else (bif (g1 []) then some (.v (.b true),[])
 else none)):=by kernel_rfl
theorem uZC (ws w2 w3:Wsp) (k:Nat) (q:Nat→Int) (wl:Nat) (e:Nat→Int) (wm:Nat) (e2 qa:Nat→Int) (how x:Int) (hA:yK Tryz.prog 13 [] (.v (.b true))) (hW:yK Tryz.prog 14 [.lf wl (fQ e)] (.v (.a (wP w2)))) (hU:yK Tryz.prog 15 [.a (wP w2),.n .i64 how,.n .i64 x] (.v (.a (wP w3)))) (hM:yK Tryz.prog 19 [.a (wP w2),.lf wm (fQ e2)] (.v (.a [.lf w2.no (fQ qa)]))) (o1:okW ws) (o2:okW w2) (o3:okW w3):yK Tryz.prog 5 [.a (wP ws),.a [.lf k (fQ q)],.lf wl (fQ e),.lf wm (fQ e2),.n .i64 how,.n .i64 x] (.v (.b true)):=by
 refine zZ (N:=60) (LO:=qZ (kXQ ws w2 w3 k q wl e wm e2 qa how x)) jU zW (jW (l:=[(13,o_cr [] (.v (.b true))),(14,o_cr [.lf wl (fQ e)] (.v (.a (wP w2)))),(15,o_cr [.a (wP w2),.n .i64 how,.n .i64 x] (.v (.a (wP w3)))),(19,o_cr [.a (wP w2),.lf wm (fQ e2)] (.v (.a [.lf w2.no (fQ qa)]))),(18,o_ls)]) (m:=[]) ⟨zVL hA,zVL hW,zVL hU,zVL hM,fQF,trivial⟩ trivial) (fun p S hp => ?_) ?_
 ·refine qH (L:=qQ Tf 5) (l:=(kXQ ws w2 w3 k q wl e wm e2 qa how x)) (show AllP _ (kXQ ws w2 w3 k q wl e wm e2 qa how x) from trivial) p S hp
 ·refine (xGE ws w2 w3 k q wl e wm e2 qa how x).trans ?_;simp only [g1_t,jQ (C:=cls) (t:=(ws,k,q)) o1,jQ (C:=cls) (t:=(w2,k,q)) o2,jQ (C:=cls) (t:=(w2,w2.no,qa)) o2,jQ (C:=cls) (t:=(w3,w2.no,qa)) o3,vYV,Bool.cond_self]
theorem snd_law (hA:yK Tryz.prog 13 [] (.v (.b true))) (ws:Wsp) (o1:okW ws) (k:Nat) (q:Nat→Int) (l:List Int) (hl:l.length≤9223372036854775807) (m:List Int) (hm1:m.length≤9223372036854775807) (how x:Int):yK Tryz.prog 5 [.a (wP ws),.a [.lf k (fQ q)],yXI l,yXI m,.n .i64 how,.n .i64 x] (.v (.b true)):=by
 obtain ⟨w2,hm,hW⟩:=uGB l.length (iqOf l) hl;obtain ⟨w3,o3,hU⟩:=xXQ hm how x;obtain ⟨qa,_,hM⟩:=uXA hm m.length (iqOf m) hm1;refine yVU (fun F w vals h=>Sames.al (xs:=[.a (wP ws),.a [.lf k (fQ q)],yXI l,yXI m,.n .i64 how,.n .i64 x]) (ys:=[.a (wP ws),.a [.lf k (fQ q)],.lf l.length (fQ (iqOf l)),.lf m.length (fQ (iqOf m)),.n .i64 how,.n .i64 x]) ⟨fun _ _ _ h=>h,fun _ _ _ h=>h,yYB l,yYB m,fun _ _ _ h=>h,fun _ _ _ h=>h,trivial⟩ h) ?_;exact uZC ws w2 w3 k q _ _ _ _ qa how x hA hW hU hM o1 (zGC hm) o3
end Go.Proofs.YtgmbkkkbfbocnaaGreat.Hr
namespace Go.Proofs.YtgmbkkkbfbocnaaGreat.Gi
open Go.Rx Rt Go.Sx Go.RowKit Go.ChangeShapes Go.WideShapes Od Na Nb Nc Nx Ga
def shJ:List Sh:=[.s,.i .i64,.i .i64,.i .i64,.i .i64,.i .i64,.i .i64,.i .i64,.i .i64,.i .i64,.i .i64,.i .i64]
def shM:List Sh:=[.i .i64,.i .i64,.i .i64,.i .i64,.i .i64]
def shZ:List Sh:=[.i .i64,.i .i64,.i .i64]
def kP (s:Skp):List PV:=[.n .i64 s.a,.n .i64 s.b]
def shK:List Sh:=[.i .i64,.i .i64]
def shS:List Sh:=[.i .i64,.i .i64,.l shZ]
theorem yQF:∀ {xs ys:List PV},Sames xs ys→xs.length=ys.length
 | [],[],_=>rfl
 | _ :: _,_ :: _,h=>congrArg (· + 1) (yQF h.2)
 | [],_ :: _,h=>h.elim
 | _ :: _,[],h=>h.elim
theorem yVX:∀ {xs ys:List PV},Sames xs ys→∀ {t:Nat} {y:PV},ys[t]? = some y→∃ x,xs[t]? = some x∧Same x y
 | [],[],_,t,y,h=>by simp at h
 | x :: xs,y :: ys,hs,0,z,h=>by
  simp only [List.getElem?_cons_zero,vQZ] at h;subst h;exact ⟨x,rfl,hs.1⟩
 | x :: xs,y :: ys,hs,t + 1,z,h=>by
  simp only [List.getElem?_cons_succ] at h ⊢;exact yVX hs.2 h
 | [],_ :: _,h,_,_,_=>h.elim
 | _ :: _,[],h,_,_,_=>h.elim
theorem zYD {n:Nat} {f g:Nat→List PV} (h:∀ j,j < n→Sames (f j) (g j)):Same (.lf n f) (.lf n g):=fun F w v hv=>by
 have h1:=qHH rfl hv;generalize hr:(List.range n).map f=rows at h1;have hl:rows.length=n:=by rw [← hr,List.length_map,List.length_range]
 refine .lf n g v ?_;cases h1 with
 | l0 ad c =>
  have:n=0:=hl.symm
  subst this;exact .l0 _ _
 | l _ b off n' c sz q hn hcap hs hF hc hh =>
  refine .l _ b off n' c sz q (by rw [List.length_map,List.length_range,← hl]; exact hn) hcap (fun r hr' => ?_) hF hc (fun j r t p hj ht => ?_)
  ·obtain ⟨j,hj,rfl⟩:=List.mem_map.1 hr';have hj':=List.mem_range.1 hj;rw [← yQF (h j hj')];exact hs _ (by rw [← hr]; exact List.mem_map.2 ⟨j,hj,rfl⟩)
  ·have hj':j < n:=by have:=(List.getElem?_eq_some_iff.1 hj).1; simpa using this
   rw [vZY,List.getElem?_range hj'] at hj;cases hj;obtain ⟨x,hx,hxy⟩:=yVX (h j hj') ht;exact hxy _ _ _ (hh j (f j) t x (by rw [← hr,vZY,List.getElem?_range hj']; rfl) hx)
theorem zZC {α:Type} (a0:α) {n:Nat} {f:Nat→List PV} {R:List PV→α→Prop} (h:∀ j,j < n→∃ a,R (f j) a):∃ g:Nat→α,∀ j,j < n→R (f j) (g j):=by
 have each:∀ j,∃ a:α,j < n→R (f j) a:=fun j=>by
  by_cases hj:j < n
  ·obtain ⟨a,ha⟩:=h j hj; exact ⟨a,fun _=>ha⟩
  ·exact ⟨a0,fun h=>absurd h hj⟩
 obtain ⟨g,hg⟩:=Classical.axiomOfChoice each;exact ⟨g,hg⟩
section
variable {W:World} {H:Type} {enc:TypeId × Value→H} {r:Reach} {base:Nat} {v:Value} {d:DataW H} {p:List MemPlace}
abbrev RW (W:World):PV→Value→Prop:=RP (fun k=>k < W.heap.size) W
end
end Go.Proofs.YtgmbkkkbfbocnaaGreat.Gi
namespace Go.Rx
open Go.RowKit Go.Sx Go.ChangeShapes Go.WideShapes
inductive FitB:Sh→PV→Prop
 | i (k:IntKind) (x:Int) (h:(Lit.int k x).wf=true):FitB (.i k) (.n k x)
 | b (x:Bool):FitB .b (.b x)
 | s (x:ByteArray) (h:x.size≤maxLen):FitB .s (.s x)
 | l (row:List Sh) (n:Nat) (f:Nat→List PV) (hn:n≤maxLen) (hB:n * (8 * row.length)≤reachBytes) (hl:∀ j,j < n→(f j).length=row.length) (h:∀ j,j < n→∀ (i:Nat) sh p,row[i]? = some sh→(f j)[i]? = some p→FitB sh p):FitB (.l row) (.lf n f)
def shTB (P:Program):Nat→TypeId→Option (List Sh)
 | 0,_=>none
 | g + 1,t=>match P.underlying t with
  | some (.int k)=>some [.i k]
  | some .bool=>some [.b]
  | some .string=>some [.s]
  | some (.slice e)=>(shTB P g e).bind fun r=>bif Nat.beq (P.cellsOf e) r.length && Nat.blt 0 r.length && Nat.ble (8 * r.length) (P.bytesOf e) then some [.l r] else none
  | some (.array n e)=>(shTB P g e).bind fun r=>bif Nat.beq (P.cellsOf e) r.length && Nat.beq (P.cellsOf t) (sumL (List.replicate n r)) then some (List.replicate n r).flatten else none
  | some (.struct fs)=>(mapO (fun f:Field=>(shTB P g f.type).bind fun r=>bif Nat.beq (P.cellsOf f.type) r.length then some (f.offset,r) else none) fs.toList).bind fun l =>
    bif zUW l 0 && Nat.beq (P.cellsOf t) (sumL (l.map (·.2))) then some (l.map (·.2)).flatten else none
  | _=>none
theorem yXC {H:Type} {P:Program} {e:TypeId} {y:Nat}:∀ {l:List (DataW H)} {d:DataW H},d ∈ l→y ∈ d.weights P e→y ∈ DataW.weightsAll P e l
 | d0 :: l,d,hd,hy=>by
  unfold DataW.weightsAll;rcases List.mem_cons.1 hd with rfl | h
  ·exact List.mem_append_left _ hy
  ·exact List.mem_append_right _ (yXC h hy)
theorem yGJ {H:Type} {P:Program} {y:Nat}:∀ {ts:List TypeId} {l:List (DataW H)} {i:Nat} {t:TypeId} {d:DataW H},ts[i]? = some t→l[i]? = some d→y ∈ d.weights P t→y ∈ DataW.weightsEach P ts l
 | [],_,i,_,_,h,_,_=>by simp at h
 | _ :: _,[],i,_,_,_,h,_=>by simp at h
 | t0 :: ts,d0 :: l,0,t,d,h1,h2,hy=>by
  simp only [List.getElem?_cons_zero,vQZ] at h1 h2;subst h1; subst h2;unfold DataW.weightsEach;exact List.mem_append_left _ hy
 | t0 :: ts,d0 :: l,i + 1,t,d,h1,h2,hy=>by
  simp only [List.getElem?_cons_succ] at h1 h2;unfold DataW.weightsEach;exact List.mem_append_right _ (yGJ h1 h2 hy)
section
variable {P:Program} {w:World} {H:Type} {enc:TypeId × Value→H}
def GoodB (w:World) (shs:List Sh) (cs:List Value):Prop:=∃ ps:List PV,ps.length=shs.length∧(∀ (i:Nat) sh p,shs[i]? = some sh→ps[i]? = some p→FitB sh p)∧Al (RP (fun k=>k < w.heap.size) w) ps cs∧∀ v ∈ cs,v.oneCell'=true
theorem GoodB.one {sh:Sh} {p:PV} {v:Value} (h1:FitB sh p) (h2:RP (fun k=>k < w.heap.size) w p v) (h3:v.oneCell'=true):GoodB w [sh] [v] :=
 ⟨[p],rfl,(fun i s0 q hs hq=>by
  match i with
  | 0=>cases hs; cases hq; exact h1
  | i + 1=>cases hs),qYD h2 qWL,(fun u hu=>by obtain rfl:=List.mem_singleton.1 hu; exact h3)⟩
theorem GoodB.cat {r s:List Sh} {cs ds:List Value} (h1:GoodB w r cs) (h2:GoodB w s ds):GoodB w (r ++ s) (cs ++ ds):=by
 obtain ⟨p,a1,a2,a3,a4⟩:=h1;obtain ⟨q,b1,b2,b3,b4⟩:=h2;refine ⟨p ++ q,by simp [a1,b1],fun i sh x hs hx => ?_,a3.append b3,fun v hv => ?_⟩
 ·rcases Nat.lt_or_ge i r.length with hi | hi
  ·rw [List.getElem?_append_left hi] at hs;rw [List.getElem?_append_left (by omega)] at hx;exact a2 i sh x hs hx
  ·rw [List.getElem?_append_right hi] at hs;rw [List.getElem?_append_right (by omega),a1] at hx;exact b2 _ sh x hs hx
 ·rcases List.mem_append.1 hv with h | h
  ·exact a4 v h
  ·exact b4 v h
def PiecesB (w:World):List (List Sh)→List Value→Prop
 | [],cs=>cs=[]
 | r :: l,cs=>GoodB w r (cs.take r.length)∧PiecesB w l (cs.drop r.length)
theorem PiecesB.good:∀ {l:List (List Sh)} {cs:List Value},PiecesB w l cs→GoodB w l.flatten cs
 | [],cs,h=>by
  have:cs=[]:=h
  subst this;exact ⟨[],rfl,fun i sh p hs=>by simp at hs,qWL,fun v hv=>by cases hv⟩
 | r :: l,cs,h=>by
  have:=GoodB.cat h.1 h.2.good
  rw [List.take_append_drop] at this;exact this
theorem zKY {r:List Sh}:∀ (n:Nat) (cs:List Value),cs.length=sumL (List.replicate n r)→(∀ i,i < n→GoodB w r ((cs.drop (i * r.length)).take r.length))→PiecesB w (List.replicate n r) cs
 | 0,cs,hl,_=>by
  have:cs.length=0:=hl
  exact List.length_eq_zero_iff.1 this
 | n + 1,cs,hl,h=>by
  have hl':cs.length=r.length + sumL (List.replicate n r):=hl;refine ⟨by have:=h 0 (by omega); simpa using this,zKY n _ (by rw [List.length_drop]; omega) fun i hi => ?_⟩
  have:=h (i + 1) (by omega)
  rw [List.drop_drop];rw [show r.length + i * r.length=(i + 1) * r.length by rw [Nat.add_mul]; omega];exact this
theorem zKZ:∀ (l:List (Nat × List Sh)) (a:Nat) (cs:List Value),zUW l a=true→(cs.drop a).length=sumL (l.map (·.2))→(∀ x ∈ l,GoodB w x.2 ((cs.drop x.1).take x.2.length))→PiecesB w (l.map (·.2)) (cs.drop a)
 | [],a,cs,_,hl,_=>List.length_eq_zero_iff.1 hl
 | x :: l,a,cs,hc,hl,h=>by
  simp only [zUW,vQJ] at hc;have e:=vQX hc.1;have hl':(cs.drop a).length=x.2.length + sumL (l.map (·.2)):=hl;rw [List.length_drop] at hl';have h0:=h x vZQ;rw [e] at h0;refine ⟨h0,?_⟩;show PiecesB w (l.map (·.2)) ((cs.drop a).drop x.2.length);rw [List.drop_drop];exact zKZ l (a + x.2.length) cs hc.2 (by rw [List.length_drop]; omega) fun y hy=>h y (vQH _ hy)
theorem zZF {sp:Nat→Bool} {held:Bool}:∀ (fuel:Nat) (t:TypeId) (cs:List Value) (x:DataW H × List MemPlace) (g:Nat) (shs:List Sh),DataW.trod enc P w 0 sp held fuel t cs=some x→shTB P g t=some shs→(∀ y ∈ DataW.weights P t x.1,y≤reachBytes)→GoodB w shs cs
 | 0,t,cs,x,g,shs,h,_,_=>by simp [DataW.trod] at h
 | fuel + 1,t,cs,x,0,shs,h,hs,_=>by cases hs
 | fuel + 1,t,cs,x,g + 1,shs,h,hs,hw=>by
  unfold shTB at hs;split at hs
  ·rename_i k hu;cases hs;obtain ⟨n,rfl,_,hwf⟩:=DataW.trod_int hu h;exact GoodB.one (.i _ _ hwf) (.n _ _) rfl
  ·rename_i hu;cases hs;obtain ⟨b,rfl,_⟩:=DataW.trod_bool hu h;exact GoodB.one (.b _) (.b _) rfl
  ·rename_i hu;cases hs;obtain ⟨s,rfl,_,hs⟩:=DataW.trod_string hu h;exact GoodB.one (.s _ hs) (.s _) rfl
  ·rename_i e hu;simp only [vQQ] at hs;obtain ⟨r,hr,hs⟩:=hs;obtain ⟨hb,hs⟩:=qY hs;cases hs;simp only [vQJ,Nat.blt_eq] at hb;have hk:=vQX hb.1.1;have hr0:=hb.1.2;have h8:=vZX hb.2;rcases DataW.trod_slice hu h with ⟨rfl,_⟩ | ⟨a,len,cap,elems,rest,n,hf,rfl,rfl,_,hl,hm,hel,hcell,_,_⟩
   ·exact GoodB.one (.l r 0 (fun _=>[]) (Nat.zero_le _) (by rw [Nat.zero_mul]; exact Nat.zero_le _) (fun j hj=>by omega) (fun j hj=>by omega)) (.lf 0 _ _ (.l0 _ _)) rfl
   ·obtain rfl:n=fuel:=by omega
    have hwe:DataW.weights P t (.slice (elems.map (·.1)) (rest.map (·.1)))=((elems.map (·.1)).length + (rest.map (·.1)).length) * P.bytesOf e :: (DataW.weightsAll P e (elems.map (·.1)) ++ DataW.weightsAll P e (rest.map (·.1))):=by
     unfold DataW.weights;rw [hu]
    replace hw:∀ y ∈ DataW.weights P t (.slice (elems.map (·.1)) (rest.map (·.1))),y≤reachBytes:=hw
    rw [hwe] at hw;have hB:len * (8 * r.length)≤reachBytes:=by
     have h0:=hw _ vZQ;rw [List.length_map,List.length_map,hel] at h0;exact Nat.le_trans (Nat.mul_le_mul (Nat.le_add_right _ _) h8) h0
    have each:∀ i,∃ y:List PV × List Value,i < len→w.cells? 0 (a.add (i * r.length)) r.length=some y.2∧y.1.length=r.length∧(∀ (j:Nat) sh p,r[j]? = some sh→y.1[j]? = some p→FitB sh p)∧Al (RP (fun k=>k < w.heap.size) w) y.1 y.2∧∀ v ∈ y.2,v.oneCell'=true:=fun i=>by
     by_cases hi:i < len
     ·have hc:=hcell i hi;have he:elems[i]? = some (elems[i]'(by omega)):=vQK (by omega);rw [he,vQQ] at hc;obtain ⟨cs',h1,h2⟩:=hc;rw [hk] at h1;obtain ⟨ps,b1,b2,b3,b4⟩:=zZF n e cs' _ g r h2 hr (fun y hy=>hw y (vQH _ (List.mem_append_left _ (yXC (List.mem_map.2 ⟨_,List.getElem_mem (show i < elems.length by omega),rfl⟩) hy))));exact ⟨(ps,cs'),fun _=>⟨h1,b1,b2,b3,b4⟩⟩
     ·exact ⟨([],[]),fun h=>absurd h hi⟩
    obtain ⟨f,hf2⟩:=Classical.axiomOfChoice each;refine GoodB.one (.l r len (fun j=>(f j).1) (by omega) hB (fun j hj=>(hf2 j hj).2.1) (fun j hj=>(hf2 j hj).2.2.1)) (.lf len _ _ ?_) rfl;rcases Nat.eq_zero_or_pos len with h0 | hpos
    ·subst h0;exact .l0 _ _
    ·have hsome:∀ j t,j < len→t < r.length→w.cell? ((a.add (j * r.length)).add t)=(f j).2[t]?:=fun j t hj ht=>(World.cells?_some (hf2 j hj).1).2.2 t ht
     have hlen2:∀ j,j < len→(f j).2.length=r.length:=fun j hj=>(World.cells?_some (hf2 j hj).1).2.1
     have h00:=hsome 0 0 hpos hr0;have hg:(f 0).2[0]? = some ((f 0).2[0]'(by rw [hlen2 0 hpos]; exact hr0)):=vQK _;rw [hg] at h00;have hsp:a.spot=none:=by
      have e:(a.add (0 * r.length)).add 0=a:=by simp [Addr.add]
      rw [e] at h00;unfold World.cell? at h00;cases hb:w.heap[a.block]? with
      | none=>simp [hb] at h00
      | some o=>cases o <;> simp [hb] at h00; exact h00.1
     obtain ⟨bb,off,sp'⟩:=a;simp only at hsp;subst hsp;have hbb:bb < w.heap.size:=by
      rw [qQB,qQB] at h00;unfold World.cell? at h00;cases hb:w.heap[bb]? with
      | none=>simp [hb] at h00
      | some o=>exact qZZ hb
     refine .l _ bb off len cap r.length (fun j t=>((f j).2[t]?).getD (.bool false)) (by simp) hl (fun q hq => ?_) hbb (fun j t hj ht => ?_) (fun j q t p hq hp => ?_)
     ·obtain ⟨j,hj,rfl⟩:=List.mem_map.1 hq;exact (hf2 j (List.mem_range.1 hj)).2.1
     ·have h1:=hsome j t hj ht;have hg2:(f j).2[t]? = some ((f j).2[t]'(by rw [hlen2 j hj]; exact ht)):=vQK _;rw [qQB,qQB,hg2,Nat.add_assoc] at h1;rw [hg2];exact ⟨h1,(hf2 j hj).2.2.2.2 _ (List.getElem_mem _)⟩
     ·have hj:j < len:=by have:=(List.getElem?_eq_some_iff.1 hq).1; simpa using this
      rw [vZY,List.getElem?_range hj] at hq;cases hq;have htl:=(List.getElem?_eq_some_iff.1 hp).1;have hg2:(f j).2[t]? = some ((f j).2[t]'(by rw [hlen2 j hj,← (hf2 j hj).2.1]; exact htl)):=vQK _
      have:=(hf2 j hj).2.2.2.1.2 t p _ hp hg2
      rw [hg2];exact this
  ·rename_i n e hu;simp only [vQQ] at hs;obtain ⟨r,hr,hs⟩:=hs;obtain ⟨hb,hs⟩:=qY hs;cases hs;simp only [vQJ] at hb;have hk:=vQX hb.1;have hk2:=vQX hb.2;obtain ⟨xs,m,hf,rfl,hl,hxl,hall⟩:=DataW.trod_array hu h;have hwe:DataW.weights P t (.agg (xs.map (·.1)))=DataW.weightsAll P e (xs.map (·.1)):=by
    unfold DataW.weights;rw [hu]
   replace hw:∀ y ∈ DataW.weights P t (.agg (xs.map (·.1))),y≤reachBytes:=hw
   rw [hwe] at hw;obtain rfl:m=fuel:=by omega
   refine (zKY n cs (hl.trans hk2) fun i hi => ?_).good;have h1:=hall i hi;have he:xs[i]? = some (xs[i]'(by omega)):=vQK (by omega);rw [he,hk] at h1;exact zZF m e _ _ g r h1 hr (fun y hy=>hw y (yXC (List.mem_map.2 ⟨_,List.getElem_mem (show i < xs.length by omega),rfl⟩) hy))
  ·rename_i fs hu;simp only [vQQ] at hs;obtain ⟨l,hlm,hs⟩:=hs;obtain ⟨hb,hs⟩:=qY hs;cases hs;simp only [vQJ] at hb;have hk2:=vQX hb.2;obtain ⟨xs,m,hf,rfl,hl,hxl,hall⟩:=DataW.trod_struct hu h;have hwe:DataW.weights P t (.agg (xs.map (·.1)))=DataW.weightsEach P (fs.toList.map (·.type)) (xs.map (·.1)):=by
    unfold DataW.weights;rw [hu]
   replace hw:∀ y ∈ DataW.weights P t (.agg (xs.map (·.1))),y≤reachBytes:=hw
   rw [hwe] at hw;obtain rfl:m=fuel:=by omega
   have hm:=jH hlm
   have:=zKZ (w:=w) l 0 cs hb.1 (by rw [vYW]; exact hl.trans hk2) fun y hy=>by
    obtain ⟨i,hi⟩:=List.mem_iff_getElem?.1 hy;have hil:=(List.getElem?_eq_some_iff.1 hi).1;have hl2:i < fs.toList.length:=by rw [hm.1]; exact hil
    have hfi:fs.toList[i]? = some (fs.toList[i]'hl2):=vQK hl2;have h1:=hm.2 i _ y hfi hi;have hfi0:=hfi;generalize fs.toList[i]'hl2=fd at hfi hfi0 h1;simp only [vQQ] at h1;obtain ⟨r,hr,h1⟩:=h1;obtain ⟨hb1,h1⟩:=qY h1;cases h1;have hk:=vQX hb1;have h2:=hall i fd (by simpa using hfi);have he:xs[i]? = some (xs[i]'(by simp at hxl hl2; omega)):=vQK _;rw [he,hk] at h2;exact zZF m fd.type _ _ g r h2 hr (fun y hy=>hw y (yGJ (i:=i) (by rw [vZY,hfi0]; rfl) (by rw [vZY,he]; rfl) hy))
   rw [vYW] at this;exact this.good
  ·cases hs
end
section
variable {P:Program} {W:World} {H:Type} {enc:TypeId × Value→H}
def FitsB (row:List Sh) (ps:List PV):Prop:=ps.length=row.length∧∀ (i:Nat) sh p,row[i]? = some sh→ps[i]? = some p→FitB sh p
theorem FitsB.cons {s0:Sh} {row:List Sh} {ps:List PV} (h:FitsB (s0 :: row) ps):∃ p qs,ps=p :: qs∧FitB s0 p∧FitsB row qs:=by
 cases ps with
 | nil=>have:=h.1; simp at this
 | cons p qs=>exact ⟨p,qs,rfl,h.2 0 s0 p rfl rfl,by have:=h.1; simpa using this,fun i sh q h1 h2=>h.2 (i + 1) sh q h1 h2⟩
theorem FitsB.nil {ps:List PV} (h:FitsB [] ps):ps=[]:=List.eq_nil_of_length_eq_zero h.1
theorem FitB.int {k:IntKind} {p:PV} (h:FitB (.i k) p):∃ x,p=.n k x∧(Lit.int k x).wf=true:=by cases h with | i k x h=>exact ⟨x,rfl,h⟩
theorem FitB.str {p:PV} (h:FitB .s p):∃ x,p=.s x:=by cases h with | s x h=>exact ⟨x,rfl⟩
theorem FitB.slc {row:List Sh} {p:PV} (h:FitB (.l row) p):∃ n f,p=.lf n f∧n * (8 * row.length)≤reachBytes∧∀ j,j < n→FitsB row (f j):=by
 cases h with
 | l row n f hn hB hl h=>exact ⟨n,f,rfl,hB,fun j hj=>⟨hl j hj,h j hj⟩⟩
theorem jUA {t:TypeId} {fs:Array Field} {v:Value} {d:DataW H} {p:List MemPlace} {g:Nat} {row:List Sh} (ht:P.underlying t=some (.struct fs)) {r:Reach} {base:Nat} (hv:Value.okWide P W r base t v)
  (h:DataW.Trod enc P W 0 (fun _=>true) true t v d p) (hs:shTB P g t=some row) (hw:∀ y ∈ DataW.weights P t d,y≤reachBytes):∃ ps,RP (fun k=>k < W.heap.size) W (.a ps) v∧FitsB row ps:=by
 have hcs:∃ cs,v=.agg cs:=by
  unfold Value.okWide at hv;cases v <;> simp [ht] at hv
  exact ⟨_,rfl⟩
 obtain ⟨cs,rfl⟩:=hcs;obtain ⟨fuel,h⟩:=h;obtain ⟨ps,h1,h2,h3,h4⟩:=zZF fuel t _ _ g row h hs hw;exact ⟨ps,.a ps cs.toList h3.1 h4 h3.2,h1,h2⟩
end
end Go.Rx

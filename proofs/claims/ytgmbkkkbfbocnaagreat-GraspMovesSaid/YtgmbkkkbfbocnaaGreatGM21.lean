/- Part 21 of the texts behind the last one: rules and contracts. No condition. -/
import Derived.Test.YtgmbkkkbfbocnaaGreatGM20
open Option renaming bind_eq_some_iff → vQQ
open Option.some renaming injEq → vQZ
open Bool renaming and_eq_true → vQJ
open List renaming getElem?_eq_getElem → vQK, mem_cons_of_mem → vQH, mem_cons_self → vZQ, getElem?_map → vZY, drop_zero → vYW
open Nat renaming eq_of_beq_eq_true → vQX, le_of_ble_eq_true → vZX
open Go.IntKind renaming wrap → vJJ
namespace Go.Proofs.YtgmbkkkbfbocnaaGreat.Hn
open Go.Rx Rt Go.Sx Go.RowKit Od Na Nb Nc Nx Nf Nl Nm Ga Gb Gc Gd Ge Gf Gg Sn Ha Hb Hc Hd He Hf Hg Hh Hi Hj Hk Hm
noncomputable def orUs (k:Nat) (q:Nat→Int) (x:Int):OrS:=orS [] []
noncomputable def hUs (k:Nat) (q:Nat→Int) (x:Int) (i:Int):St:=⟨[(0,.v (.lf k (fQ q))),(1,.v (.n .i64 x)),(5,.v (.n .i64 i))],[]⟩
set_option maxRecDepth 100000 in
theorem rdUs (G:St→Option (Ret × Mem)) (K:Cont) (k:Nat) (q:Nat→Int) (x:Int) (i:Int):kZ 60 (cxS Tf (orUs k q x) 60 64 (ntmF Tf 64)) (evX Tf (orUs k q x) 60 64 (ntmF Tf 64)) (qZ []) (qQ Tf 64 [0,1,0,1]) [0,1,0,1] (Tf.hint 64 (qJ (qQ Tf 64 [0,1,0,1]))) K G (hUs k q x i) =
 (bif (decide (i < (k:Int))) then (bif (inB i k) then (bif (decide ((q (i).toNat)=x)) then (K .ret ⟨[(4,.v (.b true))],[]⟩)
 else (G (hUs k q x (vJJ .i64 (i + 1)))))
 else none)
 else (K (.exit 0) ⟨[],[]⟩)):=by kernel_rfl
theorem lpUs (K:Cont) (k:Nat) (q:Nat→Int) (x:Int) (_:k≤50):LFX 60 (cxS Tf (orUs k q x) 60 64 (ntmF Tf 64)) (evX Tf (orUs k q x) 60 64 (ntmF Tf 64)) (qZ []) (qQ Tf 64 [0,1,0,1]) [0,1,0,1] (Tf.hint 64 (qJ (qQ Tf 64 [0,1,0,1]))) K 60 (hUs k q x 0)=bif (allN (fun i:Nat => !decide (q i=x)) k 0) then (K (.exit 0) ⟨[],[]⟩) else (K .ret ⟨[(4,.v (.b true))],[]⟩):=by
 refine (uK (L:=LFX 60 (cxS Tf (orUs k q x) 60 64 (ntmF Tf 64)) (evX Tf (orUs k q x) 60 64 (ntmF Tf 64)) (qZ []) (qQ Tf 64 [0,1,0,1]) [0,1,0,1] (Tf.hint 64 (qJ (qQ Tf 64 [0,1,0,1]))) K) (stp:=kZ 60 (cxS Tf (orUs k q x) 60 64 (ntmF Tf 64)) (evX Tf (orUs k q x) 60 64 (ntmF Tf 64)) (qZ []) (qQ Tf 64 [0,1,0,1]) [0,1,0,1] (Tf.hint 64 (qJ (qQ Tf 64 [0,1,0,1]))) K) (fun _ _=>rfl) (fun (i:Nat) (_:Unit)=>hUs k q x (i:Int)) (fun _ _=>True) (fun (i:Nat) _ => !decide (q i=x)) (fun _ _=>()) (c:=k) (fun _=>(K (.exit 0) ⟨[],[]⟩)) (fun i _=>(K .ret ⟨[(4,.v (.b true))],[]⟩)) (fun G i f hi _ => ?_) (fun _ _ _ _ _=>trivial) (fun G f _ => ?_) k 0 60 () (by omega) (by omega) trivial).trans ((jQ _ _ _ _ _).trans (uG _ _ _ _ _))
 ·refine (rdUs G K k q x i).trans ?_;rw [vJQ (show (i:Int) < (k:Int) by omega),kW (by omega),yX (show i < k by omega),toN];cases decide (q i=x) <;> rfl
 ·refine (rdUs G K k q x k).trans ?_;rw [vYH (show ¬ (k:Int) < (k:Int) by omega)];rfl
noncomputable def kKZ (k:Nat) (q:Nat→Int) (x:Int):List (List Nat × jK):=[([0,1,0,1],sumF (fun _:Unit=>(hUs k q x 0)) (fun _=>()) (fun _ K=>(bif (decide (k≤50)) then (bif (allN (fun i:Nat => !decide (q i=x)) k 0) then (K (.exit 0) ⟨[],[]⟩) else (K .ret ⟨[(4,.v (.b true))],[]⟩)) else none)))]
set_option maxRecDepth 100000 in
theorem pxuse (k:Nat) (q:Nat→Int) (x:Int):qQU Tf (orUs k q x) (qZ (kKZ k q x)) 60 64 [.lf k (fQ q),.n .i64 x] =
 (bif (gSt (hUs k q x 0) (hUs k q x 0)) then (bif (decide (k≤50)) then (bif (allN (fun i:Nat => !decide (q i=x)) k 0) then some (.v (.b false),[])
 else some (.v (.b true),[]))
 else none)
 else none):=by kernel_rfl
theorem snd_use (k:Nat) (q:Nat→Int) (x:Int) (hk:k≤50):yK Tryz.prog 64 [.lf k (fQ q),.n .i64 x] (.v (.b (hasQ q k x))):=by
 refine zW (N:=60) (LO:=qZ (kKZ k q x)) jH zG (kY (l:=[]) (m:=[]) trivial trivial) (fun p S hp => ?_) ?_
 ·refine zU (L:=qQ Tf 64) (l:=(kKZ k q x)) (show AllP _ (kKZ k q x) from ⟨?_,trivial⟩) p S hp
  ·dsimp only;refine kQ (T:=Tf) (o:=(orUs k q x)) (f:=64) (LO:=qZ []) (p:=[0,1,0,1]) kJ ?_;intro t K r hr;obtain ⟨hg,hr⟩:=qY hr;have hk:=vJZ hg;exact (lpUs K k q x hk).trans hr
 ·refine (pxuse k q x).trans ?_;unfold hasQ;rw [yU,vJQ hk];cases allN (fun i:Nat => !decide (q i=x)) k 0 <;> rfl
def cus:Nat × (Nat→Int) × Int→Prop:=fun t=>match t with | (k,_,_)=>k≤50
def eus:Nat × (Nat→Int) × Int→List PV:=fun t=>match t with | (k,q,x)=>[.lf k (fQ q),.n .i64 x]
noncomputable def rus:Nat × (Nat→Int) × Int→Ret:=fun t=>match t with | (k,q,x)=>.v (.b (hasQ q k x))
def dus:List PV→Nat × (Nat→Int) × Int:=fun ps=>match ps with
 | [.lf k f,.n _ x]=>(k,unFQ f,x)
 | _=>(0,fun _=>0,0)
noncomputable def o_us:List PV→Option (Bool × Ret):=o_fm dus cus eus rus
theorem ok_us:zJ Tryz.prog 64 o_us:=qQV fun t h=>by
 obtain ⟨k,q,x⟩:=t;exact snd_use k q x h
noncomputable def orMd (_:Wsp) (_ _:Nat) (e:Nat→Int):OrS:=orS [(64,o_us)] [(30,o_nx)]
noncomputable def hMd (ws:Wsp) (no wl:Nat) (e:Nat→Int) (i:Int) (k:Int) (m2:Nat) (r:Nat) (q:Nat→Int):St:=⟨[(2,.p 2 0),(4,.p 4 0),(5,.p 10 0),(6,.p 6 0),(7,.v (.n .i64 i)),(8,.v (.n .i64 k))],[(2,.blk [.v (.lf ws.n (fJ ws.js)),.v (.lf ws.m (fM ws.ms)),.v (.lf ws.c (fS ws.sh)),.v (.lf ws.d (fK ws.sk)),.v (.lf no (fO ws.ob)),.v (.lf ws.np (fZ ws.pl)),.v (.lf ws.nh (fH ws.hd)),.v (.lf ws.ng (fG ws.gr)),.v (.n .i64 ws.slack)]),(4,.blk [.nl]),(6,.blk [.o 57]),(10,.blk [.v (.lf wl (fQ e)),.v (.n .i64 (m2:Int))]),(57,.reg 3 1 (.fo r (fQ q)))]⟩
set_option maxRecDepth 100000 in
theorem rdMd (G:St→Option (Ret × Mem)) (K:Cont) (ws:Wsp) (no wl:Nat) (e:Nat→Int) (i:Int) (k:Int) (m2:Nat) (r:Nat) (q:Nat→Int):kZ 60 (cxS Tf (orMd ws no wl e) 60 19 (ntmF Tf 19)) (evX Tf (orMd ws no wl e) 60 19 (ntmF Tf 19)) (qZ []) (qQ Tf 19 [0,0,1,0,0,1,0,0,1,0,1,1,1]) [0,0,1,0,0,1,0,0,1,0,1,1,1] (Tf.hint 19 (qJ (qQ Tf 19 [0,0,1,0,0,1,0,0,1,0,1,1,1]))) K G (hMd ws no wl e i k m2 r q) =
 (bif (gF1 cus eus (r,q,k)) then (bif (hasQ q r k) then (bif (decide ((vJJ .i64 ((ws.np:Int) + (ws.nh:Int)))=0)) then none
 else (G (hMd ws no wl e i (vJJ .i64 (((vJJ .i64 ((vJJ .i64 (k + 1)) + (ws.nh:Int))).tmod (vJJ .i64 ((ws.np:Int) + (ws.nh:Int)))) - (ws.nh:Int))) m2 r q)))
 else (K (.exit 2) ⟨[(2,.p 2 0),(4,.p 4 0),(5,.p 10 0),(6,.p 6 0),(7,.v (.n .i64 i)),(8,.v (.n .i64 k))],[(2,.blk [.v (.lf ws.n (fJ ws.js)),.v (.lf ws.m (fM ws.ms)),.v (.lf ws.c (fS ws.sh)),.v (.lf ws.d (fK ws.sk)),.v (.lf no (fO ws.ob)),.v (.lf ws.np (fZ ws.pl)),.v (.lf ws.nh (fH ws.hd)),.v (.lf ws.ng (fG ws.gr)),.v (.n .i64 ws.slack)]),(4,.blk [.nl]),(6,.blk [.o 57]),(10,.blk [.v (.lf wl (fQ e)),.v (.n .i64 (m2:Int))]),(57,.reg 3 1 (.fo r (fQ q)))]⟩))
 else none):=by kernel_rfl
def mdK (ws:Wsp) (k:Int):Int:=vJJ .i64 (((vJJ .i64 ((vJJ .i64 (k + 1)) + (ws.nh:Int))).tmod (vJJ .i64 ((ws.np:Int) + (ws.nh:Int)))) - (ws.nh:Int))
def mdS (ws:Wsp) (r:Nat) (q:Nat→Int) (k:Int):Int:=bif hasQ q r k then mdK ws k else k
theorem lpMd (K:Cont) (ws:Wsp) (no wl:Nat) (e:Nat→Int) (i k:Int) (m2 r:Nat) (q:Nat→Int) (h:(r≤50∧¬ vJJ .i64 ((ws.np:Int) + (ws.nh:Int))=0∧hasQ q r (mdS ws r q k)=false)):LFX 60 (cxS Tf (orMd ws no wl e) 60 19 (ntmF Tf 19)) (evX Tf (orMd ws no wl e) 60 19 (ntmF Tf 19)) (qZ []) (qQ Tf 19 [0,0,1,0,0,1,0,0,1,0,1,1,1]) [0,0,1,0,0,1,0,0,1,0,1,1,1] (Tf.hint 19 (qJ (qQ Tf 19 [0,0,1,0,0,1,0,0,1,0,1,1,1]))) K 60 (hMd ws no wl e i k m2 r q)=(K (.exit 2) ⟨[(2,.p 2 0),(4,.p 4 0),(5,.p 10 0),(6,.p 6 0),(7,.v (.n .i64 i)),(8,.v (.n .i64 (mdS ws r q k)))],[(2,.blk [.v (.lf ws.n (fJ ws.js)),.v (.lf ws.m (fM ws.ms)),.v (.lf ws.c (fS ws.sh)),.v (.lf ws.d (fK ws.sk)),.v (.lf no (fO ws.ob)),.v (.lf ws.np (fZ ws.pl)),.v (.lf ws.nh (fH ws.hd)),.v (.lf ws.ng (fG ws.gr)),.v (.n .i64 ws.slack)]),(4,.blk [.nl]),(6,.blk [.o 57]),(10,.blk [.v (.lf wl (fQ e)),.v (.n .i64 (m2:Int))]),(57,.reg 3 1 (.fo r (fQ q)))]⟩):=by
 obtain ⟨hr,hz,hq⟩:=h;refine (rdMd (LFX 60 (cxS Tf (orMd ws no wl e) 60 19 (ntmF Tf 19)) (evX Tf (orMd ws no wl e) 60 19 (ntmF Tf 19)) (qZ []) (qQ Tf 19 [0,0,1,0,0,1,0,0,1,0,1,1,1]) [0,0,1,0,0,1,0,0,1,0,1,1,1] (Tf.hint 19 (qJ (qQ Tf 19 [0,0,1,0,0,1,0,0,1,0,1,1,1]))) K 59) K ws no wl e i k m2 r q).trans ?_;rw [jU (C:=cus) (t:=(r,q,k)) hr,vYV,vYH hz,vYG];unfold mdS at hq ⊢;cases hk:hasQ q r k with
 | false=>rfl
 | true =>
  rw [hk,vYV] at hq;rw [vYV,vYV];refine (rdMd (LFX 60 (cxS Tf (orMd ws no wl e) 60 19 (ntmF Tf 19)) (evX Tf (orMd ws no wl e) 60 19 (ntmF Tf 19)) (qZ []) (qQ Tf 19 [0,0,1,0,0,1,0,0,1,0,1,1,1]) [0,0,1,0,0,1,0,0,1,0,1,1,1] (Tf.hint 19 (qJ (qQ Tf 19 [0,0,1,0,0,1,0,0,1,0,1,1,1]))) K 58) K ws no wl e i (mdK ws k) m2 r q).trans ?_;rw [jU (C:=cus) (t:=(r,q,mdK ws k)) hr,hq];rfl
theorem yZW {q:Nat→Int} {x:Int}:hasQ q 1 x=decide (q 0=x):=by
 show (!((!decide (q 0=x)) && true))=_;cases decide (q 0=x) <;> rfl
def inR (ws:Wsp) (k:Int):Prop:=-(ws.nh:Int)≤k∧k < (ws.np:Int)
theorem kZH {ws:Wsp} {k:Int} (h:inR ws k) (_:ws.nh≤50):inM ws k=true:=by
 unfold inR at h;unfold inM;have e:vJJ .i64 (0 - (ws.nh:Int)) = -(ws.nh:Int):=by rw [zQ (by omega)]; omega
 rw [e,vYH (show ¬ k < -(ws.nh:Int) by omega),vYH (show ¬ (ws.np:Int)≤k by omega)]; rfl
theorem mdK_ok {ws:Wsp} (_:1≤ws.np∧ws.np≤50) (_:1≤ws.nh∧ws.nh≤50) {k:Int} (h:inR ws k):inR ws (mdK ws k)∧mdK ws k ≠ k:=by
 unfold inR at h ⊢;have e:mdK ws k=(k + 1 + (ws.nh:Int)) % ((ws.np:Int) + (ws.nh:Int)) - (ws.nh:Int):=by
  unfold mdK;rw [show vJJ .i64 (k + 1)=k + 1 from zQ (by omega),show vJJ .i64 (k + 1 + (ws.nh:Int))=k + 1 + (ws.nh:Int) from zQ (by omega),show vJJ .i64 ((ws.np:Int) + (ws.nh:Int))=(ws.np:Int) + (ws.nh:Int) from zQ (by omega),Int.tmod_eq_emod_of_nonneg (by omega)];have h1:=Int.emod_nonneg (k + 1 + (ws.nh:Int)) (show (ws.np:Int) + (ws.nh:Int) ≠ 0 by omega);have h2:=Int.emod_lt_of_pos (k + 1 + (ws.nh:Int)) (show (0:Int) < (ws.np:Int) + (ws.nh:Int) by omega);exact zQ (by omega)
 rw [e];by_cases hk:k + 1 + (ws.nh:Int)=(ws.np:Int) + (ws.nh:Int)
 ·rw [hk,Int.emod_self]; omega
 ·rw [Int.emod_eq_of_lt (by omega) (by omega)]; omega
theorem md1_ok {ws:Wsp} (hp:1≤ws.np∧ws.np≤50) (hh:1≤ws.nh∧ws.nh≤50) {q:Nat→Int} {k:Int} (h:inR ws k):hasQ q 1 (mdS ws 1 q k)=false∧inR ws (mdS ws 1 q k):=by
 have h1:=mdK_ok hp hh h;unfold mdS;rw [yZW,yZW];by_cases e:q 0=k
 ·rw [vJQ e,vYV,vYH (by rw [e]; exact fun h=>h1.2 h.symm)];exact ⟨rfl,h1.1⟩
 ·rw [vYH e,vYG,vYH e];exact ⟨rfl,h⟩
noncomputable def mdA (ws:Wsp) (wl:Nat) (e:Nat→Int):Nat→Int:=(fun v=>(bif (Nat.beq v 0) then (mdS ws 0 (fun _=>0) (vJJ .i64 ((nxV e wl 0 (vJJ .i64 ((ws.np:Int) + (ws.nh:Int)))) - (ws.nh:Int)))) else 0))
noncomputable def mdB (ws:Wsp) (wl:Nat) (e:Nat→Int):Nat→Int:=fun v=>(bif (Nat.beq v 1) then (mdS ws 1 (mdA ws wl e) (vJJ .i64 ((nxV e wl (mA wl 0 1) (vJJ .i64 ((ws.np:Int) + (ws.nh:Int)))) - (ws.nh:Int)))) else mdA ws wl e v)
theorem kin {ws:Wsp} (_:1≤ws.np∧ws.np≤50) (_:1≤ws.nh∧ws.nh≤50) (wl:Nat) (e:Nat→Int) (m:Nat):inR ws (vJJ .i64 ((nxV e wl m (vJJ .i64 ((ws.np:Int) + (ws.nh:Int)))) - (ws.nh:Int))):=by
 have hk:(vJJ .i64 ((ws.np:Int) + (ws.nh:Int)))=(ws.np:Int) + (ws.nh:Int):=zQ (by omega);have b:=qVG (e:=e) (w:=wl) (m:=m) (k:=(vJJ .i64 ((ws.np:Int) + (ws.nh:Int)))) (by rw [hk]; omega);rw [hk] at b ⊢;unfold inR;rw [zQ (by omega)];omega
noncomputable def jVY (ws:Wsp) (wl:Nat) (e:Nat→Int):List (List Nat × jK):=[([0,0,1,0,0,1,0,0,1,0,1,1,1],sumF (fun t:Int × Int × Nat × Nat × (Nat→Int)=>(hMd ws 1 wl e t.1 t.2.1 t.2.2.1 t.2.2.2.1 t.2.2.2.2)) (fun σ=>(slI σ 7,slI σ 8,(bkC σ 10 1).toNat,rgN σ 57,unFQ (rgF σ 57))) (fun t K=>(bif (gP (t.2.2.2.1≤50∧¬ vJJ .i64 ((ws.np:Int) + (ws.nh:Int))=0∧hasQ t.2.2.2.2 t.2.2.2.1 (mdS ws t.2.2.2.1 t.2.2.2.2 t.2.1)=false)) then (K (.exit 2) ⟨[(2,.p 2 0),(4,.p 4 0),(5,.p 10 0),(6,.p 6 0),(7,.v (.n .i64 t.1)),(8,.v (.n .i64 (mdS ws t.2.2.2.1 t.2.2.2.2 t.2.1)))],[(2,.blk [.v (.lf ws.n (fJ ws.js)),.v (.lf ws.m (fM ws.ms)),.v (.lf ws.c (fS ws.sh)),.v (.lf ws.d (fK ws.sk)),.v (.lf 1 (fO ws.ob)),.v (.lf ws.np (fZ ws.pl)),.v (.lf ws.nh (fH ws.hd)),.v (.lf ws.ng (fG ws.gr)),.v (.n .i64 ws.slack)]),(4,.blk [.nl]),(6,.blk [.o 57]),(10,.blk [.v (.lf wl (fQ e)),.v (.n .i64 (t.2.2.1:Int))]),(57,.reg 3 1 (.fo t.2.2.2.1 (fQ t.2.2.2.2)))]⟩) else none)))]
set_option maxRecDepth 100000 in
theorem pxmdf1 (ws:Wsp) (wl:Nat) (e:Nat→Int):qQU Tf (orMd ws 1 wl e) (qZ (jVY ws wl e)) 60 19 [.a [.lf ws.n (fJ ws.js),.lf ws.m (fM ws.ms),.lf ws.c (fS ws.sh),.lf ws.d (fK ws.sk),.lf 1 (fO ws.ob),.lf ws.np (fZ ws.pl),.lf ws.nh (fH ws.hd),.lf ws.ng (fG ws.gr),.n .i64 ws.slack],.lf wl (fQ e)] =
 (bif (gB1 cnx hnx enx (wl,0,e,(vJJ .i64 ((ws.np:Int) + (ws.nh:Int))))) then (bif (gSt (hMd ws 1 wl e 0 (vJJ .i64 ((nxV e wl 0 (vJJ .i64 ((ws.np:Int) + (ws.nh:Int)))) - (ws.nh:Int))) (mA wl 0 1) 0 (fun _=>0)) (hMd ws 1 wl e 0 (vJJ .i64 ((nxV e wl 0 (vJJ .i64 ((ws.np:Int) + (ws.nh:Int)))) - (ws.nh:Int))) (mA wl 0 1) 0 (fun _=>0))) then (bif (gP (0≤50∧¬ vJJ .i64 ((ws.np:Int) + (ws.nh:Int))=0∧hasQ (fun _=>0) 0 (mdS ws 0 (fun _=>0) (vJJ .i64 ((nxV e wl 0 (vJJ .i64 ((ws.np:Int) + (ws.nh:Int)))) - (ws.nh:Int))))=false)) then (bif (decide (0 + 1≤1000000)) then some (.v (.a [.lf 1 (fun v=>[.n .i64 (bif (Nat.beq v 0) then (mdS ws 0 (fun _=>0) (vJJ .i64 ((nxV e wl 0 (vJJ .i64 ((ws.np:Int) + (ws.nh:Int)))) - (ws.nh:Int)))) else 0)])]),[])
 else none)
 else none)
 else none)
 else none):=by kernel_rfl
theorem snd_mdf1 (ws:Wsp) (wl:Nat) (e:Nat→Int) (hw:wl≤9223372036854775807) (hp:1≤ws.np∧ws.np≤50) (hh:1≤ws.nh∧ws.nh≤50):yK Tryz.prog 19 [.a [.lf ws.n (fJ ws.js),.lf ws.m (fM ws.ms),.lf ws.c (fS ws.sh),.lf ws.d (fK ws.sk),.lf 1 (fO ws.ob),.lf ws.np (fZ ws.pl),.lf ws.nh (fH ws.hd),.lf ws.ng (fG ws.gr),.n .i64 ws.slack],.lf wl (fQ e)] (.v (.a [.lf 1 (fQ (mdA ws wl e))])):=by
 refine zW (N:=60) (LO:=qZ (jVY ws wl e)) jH zG (kY (l:=[(64,o_us)]) (m:=[(30,o_nx)]) ⟨ok_us,trivial⟩ ⟨kVV,trivial⟩) (fun p S hp => ?_) ?_
 ·refine zU (L:=qQ Tf 19) (l:=(jVY ws wl e)) (show AllP _ (jVY ws wl e) from ⟨?_,trivial⟩) p S hp
  ·dsimp only;refine kQ (T:=Tf) (o:=(orMd ws 1 wl e)) (f:=19) (LO:=qZ []) (p:=[0,0,1,0,0,1,0,0,1,0,1,1,1]) kJ ?_;intro t K r hr;obtain ⟨hg,hr⟩:=qY hr
   skip
   exact (lpMd K ws 1 wl e t.1 t.2.1 t.2.2.1 t.2.2.2.1 t.2.2.2.2 (kK hg)).trans hr
 ·refine (pxmdf1 ws wl e).trans ?_;have hk:(vJJ .i64 ((ws.np:Int) + (ws.nh:Int)))=(ws.np:Int) + (ws.nh:Int):=zQ (by omega);have h0:0 < (vJJ .i64 ((ws.np:Int) + (ws.nh:Int)))∧(vJJ .i64 ((ws.np:Int) + (ws.nh:Int)))≤9223372036854775807:=by rw [hk]; omega
  have hz:¬ (vJJ .i64 ((ws.np:Int) + (ws.nh:Int)))=0:=by rw [hk]; omega
  have b0:=kin hp hh wl e 0;have b1:=kin hp hh wl e (mA wl 0 1);have g0:∀ (q:Nat→Int) (k:Int),gP (0≤50∧¬ (vJJ .i64 ((ws.np:Int) + (ws.nh:Int)))=0∧hasQ q 0 (mdS ws 0 q k)=false)=true:=fun q k=>zYJ ⟨by decide,hz,rfl⟩
  rw [qGK (C:=cnx) (t:=(wl,0,e,(vJJ .i64 ((ws.np:Int) + (ws.nh:Int))))) ⟨Nat.zero_le _,hw,h0.1,h0.2⟩,yU,g0,vYV,vYV,vYV,vJQ (show 0 + 1≤1000000 by decide),vYV];rfl
noncomputable def jVZ (ws:Wsp) (wl:Nat) (e:Nat→Int):List (List Nat × jK):=[([0,0,1,0,0,1,0,0,1,0,1,1,1],sumF (fun t:Int × Int × Nat × Nat × (Nat→Int)=>(hMd ws 2 wl e t.1 t.2.1 t.2.2.1 t.2.2.2.1 t.2.2.2.2)) (fun σ=>(slI σ 7,slI σ 8,(bkC σ 10 1).toNat,rgN σ 57,unFQ (rgF σ 57))) (fun t K=>(bif (gP (t.2.2.2.1≤50∧¬ vJJ .i64 ((ws.np:Int) + (ws.nh:Int))=0∧hasQ t.2.2.2.2 t.2.2.2.1 (mdS ws t.2.2.2.1 t.2.2.2.2 t.2.1)=false)) then (K (.exit 2) ⟨[(2,.p 2 0),(4,.p 4 0),(5,.p 10 0),(6,.p 6 0),(7,.v (.n .i64 t.1)),(8,.v (.n .i64 (mdS ws t.2.2.2.1 t.2.2.2.2 t.2.1)))],[(2,.blk [.v (.lf ws.n (fJ ws.js)),.v (.lf ws.m (fM ws.ms)),.v (.lf ws.c (fS ws.sh)),.v (.lf ws.d (fK ws.sk)),.v (.lf 2 (fO ws.ob)),.v (.lf ws.np (fZ ws.pl)),.v (.lf ws.nh (fH ws.hd)),.v (.lf ws.ng (fG ws.gr)),.v (.n .i64 ws.slack)]),(4,.blk [.nl]),(6,.blk [.o 57]),(10,.blk [.v (.lf wl (fQ e)),.v (.n .i64 (t.2.2.1:Int))]),(57,.reg 3 1 (.fo t.2.2.2.1 (fQ t.2.2.2.2)))]⟩) else none)))]
set_option maxRecDepth 100000 in
theorem pxmdf2 (ws:Wsp) (wl:Nat) (e:Nat→Int):qQU Tf (orMd ws 2 wl e) (qZ (jVZ ws wl e)) 60 19 [.a [.lf ws.n (fJ ws.js),.lf ws.m (fM ws.ms),.lf ws.c (fS ws.sh),.lf ws.d (fK ws.sk),.lf 2 (fO ws.ob),.lf ws.np (fZ ws.pl),.lf ws.nh (fH ws.hd),.lf ws.ng (fG ws.gr),.n .i64 ws.slack],.lf wl (fQ e)] =
 (bif (gB1 cnx hnx enx (wl,0,e,(vJJ .i64 ((ws.np:Int) + (ws.nh:Int))))) then (bif (gSt (hMd ws 2 wl e 0 (vJJ .i64 ((nxV e wl 0 (vJJ .i64 ((ws.np:Int) + (ws.nh:Int)))) - (ws.nh:Int))) (mA wl 0 1) 0 (fun _=>0)) (hMd ws 2 wl e 0 (vJJ .i64 ((nxV e wl 0 (vJJ .i64 ((ws.np:Int) + (ws.nh:Int)))) - (ws.nh:Int))) (mA wl 0 1) 0 (fun _=>0))) then (bif (gP (0≤50∧¬ vJJ .i64 ((ws.np:Int) + (ws.nh:Int))=0∧hasQ (fun _=>0) 0 (mdS ws 0 (fun _=>0) (vJJ .i64 ((nxV e wl 0 (vJJ .i64 ((ws.np:Int) + (ws.nh:Int)))) - (ws.nh:Int))))=false)) then (bif (decide (0 + 1≤1000000)) then (bif (gB1 cnx hnx enx (wl,(mA wl 0 1),e,(vJJ .i64 ((ws.np:Int) + (ws.nh:Int))))) then (bif (gSt (hMd ws 2 wl e 1 (vJJ .i64 ((nxV e wl (mA wl 0 1) (vJJ .i64 ((ws.np:Int) + (ws.nh:Int)))) - (ws.nh:Int))) (mA wl 0 2) 1 (fun v=>(bif (Nat.beq v 0) then (mdS ws 0 (fun _=>0) (vJJ .i64 ((nxV e wl 0 (vJJ .i64 ((ws.np:Int) + (ws.nh:Int)))) - (ws.nh:Int)))) else 0))) (hMd ws 2 wl e 1 (vJJ .i64 ((nxV e wl (mA wl 0 1) (vJJ .i64 ((ws.np:Int) + (ws.nh:Int)))) - (ws.nh:Int))) (mA wl 0 2) 1 (fun v=>(bif (Nat.beq v 0) then (mdS ws 0 (fun _=>0) (vJJ .i64 ((nxV e wl 0 (vJJ .i64 ((ws.np:Int) + (ws.nh:Int)))) - (ws.nh:Int)))) else 0)))) then (bif (gP (1≤50∧¬ vJJ .i64 ((ws.np:Int) + (ws.nh:Int))=0∧hasQ (fun v=>(bif (Nat.beq v 0) then (mdS ws 0 (fun _=>0) (vJJ .i64 ((nxV e wl 0 (vJJ .i64 ((ws.np:Int) + (ws.nh:Int)))) - (ws.nh:Int)))) else 0)) 1 (mdS ws 1 (fun v=>(bif (Nat.beq v 0) then (mdS ws 0 (fun _=>0) (vJJ .i64 ((nxV e wl 0 (vJJ .i64 ((ws.np:Int) + (ws.nh:Int)))) - (ws.nh:Int)))) else 0)) (vJJ .i64 ((nxV e wl (mA wl 0 1) (vJJ .i64 ((ws.np:Int) + (ws.nh:Int)))) - (ws.nh:Int))))=false)) then (bif (decide (1 + 1≤1000000)) then some (.v (.a [.lf 2 (fun v=>[.n .i64 (bif (Nat.beq v 1) then (mdS ws 1 (fun v=>(bif (Nat.beq v 0) then (mdS ws 0 (fun _=>0) (vJJ .i64 ((nxV e wl 0 (vJJ .i64 ((ws.np:Int) + (ws.nh:Int)))) - (ws.nh:Int)))) else 0)) (vJJ .i64 ((nxV e wl (mA wl 0 1) (vJJ .i64 ((ws.np:Int) + (ws.nh:Int)))) - (ws.nh:Int)))) else (bif (Nat.beq v 0) then (mdS ws 0 (fun _=>0) (vJJ .i64 ((nxV e wl 0 (vJJ .i64 ((ws.np:Int) + (ws.nh:Int)))) - (ws.nh:Int)))) else 0))])]),[])
 else none)
 else none)
 else none)
 else none)
 else none)
 else none)
 else none)
 else none):=by kernel_rfl
theorem snd_mdf2 (ws:Wsp) (wl:Nat) (e:Nat→Int) (hw:wl≤9223372036854775807) (hp:1≤ws.np∧ws.np≤50) (hh:1≤ws.nh∧ws.nh≤50):yK Tryz.prog 19 [.a [.lf ws.n (fJ ws.js),.lf ws.m (fM ws.ms),.lf ws.c (fS ws.sh),.lf ws.d (fK ws.sk),.lf 2 (fO ws.ob),.lf ws.np (fZ ws.pl),.lf ws.nh (fH ws.hd),.lf ws.ng (fG ws.gr),.n .i64 ws.slack],.lf wl (fQ e)] (.v (.a [.lf 2 (fQ (mdB ws wl e))])):=by
 refine zW (N:=60) (LO:=qZ (jVZ ws wl e)) jH zG (kY (l:=[(64,o_us)]) (m:=[(30,o_nx)]) ⟨ok_us,trivial⟩ ⟨kVV,trivial⟩) (fun p S hp => ?_) ?_
 ·refine zU (L:=qQ Tf 19) (l:=(jVZ ws wl e)) (show AllP _ (jVZ ws wl e) from ⟨?_,trivial⟩) p S hp
  ·dsimp only;refine kQ (T:=Tf) (o:=(orMd ws 2 wl e)) (f:=19) (LO:=qZ []) (p:=[0,0,1,0,0,1,0,0,1,0,1,1,1]) kJ ?_;intro t K r hr;obtain ⟨hg,hr⟩:=qY hr
   skip
   exact (lpMd K ws 2 wl e t.1 t.2.1 t.2.2.1 t.2.2.2.1 t.2.2.2.2 (kK hg)).trans hr
 ·refine (pxmdf2 ws wl e).trans ?_;have hk:(vJJ .i64 ((ws.np:Int) + (ws.nh:Int)))=(ws.np:Int) + (ws.nh:Int):=zQ (by omega);have h0:0 < (vJJ .i64 ((ws.np:Int) + (ws.nh:Int)))∧(vJJ .i64 ((ws.np:Int) + (ws.nh:Int)))≤9223372036854775807:=by rw [hk]; omega
  have hz:¬ (vJJ .i64 ((ws.np:Int) + (ws.nh:Int)))=0:=by rw [hk]; omega
  have b0:=kin hp hh wl e 0;have b1:=kin hp hh wl e (mA wl 0 1);have g0:∀ (q:Nat→Int) (k:Int),gP (0≤50∧¬ (vJJ .i64 ((ws.np:Int) + (ws.nh:Int)))=0∧hasQ q 0 (mdS ws 0 q k)=false)=true:=fun q k=>zYJ ⟨by decide,hz,rfl⟩
  rw [qGK (C:=cnx) (t:=(wl,0,e,(vJJ .i64 ((ws.np:Int) + (ws.nh:Int))))) ⟨Nat.zero_le _,hw,h0.1,h0.2⟩,yU,g0,vYV,vYV,vYV,vJQ (show 0 + 1≤1000000 by decide),vYV];have h1:=md1_ok hp hh (q:=mdA ws wl e) b1;have g1:gP (1≤50∧¬ (vJJ .i64 ((ws.np:Int) + (ws.nh:Int)))=0∧hasQ (fun v=>(bif (Nat.beq v 0) then (mdS ws 0 (fun _=>0) (vJJ .i64 ((nxV e wl 0 (vJJ .i64 ((ws.np:Int) + (ws.nh:Int)))) - (ws.nh:Int)))) else 0)) 1 (mdS ws 1 (fun v=>(bif (Nat.beq v 0) then (mdS ws 0 (fun _=>0) (vJJ .i64 ((nxV e wl 0 (vJJ .i64 ((ws.np:Int) + (ws.nh:Int)))) - (ws.nh:Int)))) else 0)) (vJJ .i64 ((nxV e wl (mA wl 0 1) (vJJ .i64 ((ws.np:Int) + (ws.nh:Int)))) - (ws.nh:Int))))=false)=true:=zYJ ⟨by decide,hz,h1.1⟩;rw [qGK (C:=cnx) (t:=(wl,mA wl 0 1,e,(vJJ .i64 ((ws.np:Int) + (ws.nh:Int))))) ⟨qJV (Nat.zero_le _) 1,hw,h0.1,h0.2⟩,yU,g1,vYV,vYV,vYV,vJQ (show 1 + 1≤1000000 by decide),vYV];rfl
theorem mode_ex {ws:Wsp} (h:MadeW ws) (wl:Nat) (e:Nat→Int) (hw:wl≤9223372036854775807):∃ q:Nat→Int,vlB ws ws.no q=true∧yK Tryz.prog 19 [.a (wP ws),.lf wl (fQ e)] (.v (.a [.lf ws.no (fQ q)])):=by
 have hp:1≤ws.np∧ws.np≤50:=by have:=h.np; omega
 have hh:1≤ws.nh∧ws.nh≤50:=by have:=h.nh; omega
 have b0:=kin hp hh wl e 0;have b1:=kin hp hh wl e (mA wl 0 1);have hok:=made_ok h;have hn:=h.no;by_cases hc:ws.no=1
 ·refine ⟨mdA ws wl e,?_,?_⟩
  ·unfold vlB;rw [hok,hc];show (mdG ws (mdA ws wl e) 0 && true)=true;unfold mdG;rw [show mdA ws wl e 0=vJJ .i64 ((nxV e wl 0 (vJJ .i64 ((ws.np:Int) + (ws.nh:Int)))) - (ws.nh:Int)) from rfl,kZH b0 (by omega)];rfl
  ·have:=snd_mdf1 ws wl e hw hp hh
   unfold wP;rw [hc];exact this
 ·have hc2:ws.no=2:=by omega
  refine ⟨mdB ws wl e,?_,?_⟩
  ·have h1:=md1_ok hp hh (q:=mdA ws wl e) b1;unfold vlB;rw [hok,hc2];show (mdG ws (mdB ws wl e) 0 && (mdG ws (mdB ws wl e) 1 && true))=true;unfold mdG;rw [show mdB ws wl e 0=vJJ .i64 ((nxV e wl 0 (vJJ .i64 ((ws.np:Int) + (ws.nh:Int)))) - (ws.nh:Int)) from rfl,kZH b0 (by omega),show mdB ws wl e 1=mdS ws 1 (mdA ws wl e) (vJJ .i64 ((nxV e wl (mA wl 0 1) (vJJ .i64 ((ws.np:Int) + (ws.nh:Int)))) - (ws.nh:Int))) from rfl,kZH h1.2 (by omega)];have h2:hasQ (mdB ws wl e) 1 (mdS ws 1 (mdA ws wl e) (vJJ .i64 ((nxV e wl (mA wl 0 1) (vJJ .i64 ((ws.np:Int) + (ws.nh:Int)))) - (ws.nh:Int))))=false:=by
    rw [yZW];have h3:=h1.1;rw [yZW] at h3;exact h3
   rw [h2];rfl
  ·have:=snd_mdf2 ws wl e hw hp hh
   unfold wP;rw [hc2];exact this
end Go.Proofs.YtgmbkkkbfbocnaaGreat.Hn
namespace Go.Proofs.YtgmbkkkbfbocnaaGreat.Ho
open Go.Rx Rt Go.Sx Go.RowKit Od Na Nb Nc Nx Nf Nl Nm Ga Gb Gc Gd Ge Gf Gg Sn Ha Hb Hc Hd He Hf Hg Hh Hi Hj Hk Hm Hn
def grQ (ws:Wsp) (k x y:Int):Nat→Int:=bif (decide (0 < (ws.ng:Int)) && decide (0 < (andI .i64 k 3))) then (fun v=>(bif (Nat.beq v 0) then (max 0 (min 64 (vJJ .i64 (((ws.gr ((k % (ws.ng:Int))).toNat).cf 0) + (vJJ .i64 ((x % 5) - 2)))))) else (max 0 (min 64 (vJJ .i64 (((ws.gr ((k % (ws.ng:Int))).toNat).cf 1) + (vJJ .i64 ((y % 5) - 2)))))))) else (fun v=>(bif (Nat.beq v 0) then (x % 65) else (y % 65)))
noncomputable def orgrp (_:Wsp) (k x y:Int):OrS:=orS [(20,o_rn)] []
noncomputable def kXU (_:Wsp) (k x y:Int):List (List Nat × jK):=[]
set_option maxRecDepth 100000 in
theorem pxgrp (ws:Wsp) (k x y:Int):qQU Tf (orgrp ws k x y) (qZ (kXU ws k x y)) 60 26 [.a (wP ws),.n .i64 k,.n .i64 x,.n .i64 y] =
 (bif (gF1 crn ern (x,65)) then (bif (gF1 crn ern (y,65)) then (bif (decide (0 < (ws.ng:Int))) then (bif (decide (0 < (andI .i64 k 3))) then (bif (gF1 crn ern (k,(ws.ng:Int))) then (bif (inB (k % (ws.ng:Int)) ws.ng) then (bif (inB 0 (ws.gr ((k % (ws.ng:Int))).toNat).na) then (bif (gF1 crn ern (x,5)) then (bif (inB 1 (ws.gr ((k % (ws.ng:Int))).toNat).na) then (bif (gF1 crn ern (y,5)) then some (.ow 2 1 (.fo 2 (fun v=>[.n .i64 (bif (Nat.beq v 0) then (max 0 (min 64 (vJJ .i64 (((ws.gr ((k % (ws.ng:Int))).toNat).cf 0) + (vJJ .i64 ((x % 5) - 2)))))) else (max 0 (min 64 (vJJ .i64 (((ws.gr ((k % (ws.ng:Int))).toNat).cf 1) + (vJJ .i64 ((y % 5) - 2)))))))])),[])
 else none)
 else none)
 else none)
 else none)
 else none)
 else none)
 else some (.ow 2 1 (.fo 2 (fun v=>[.n .i64 (bif (Nat.beq v 0) then (x % 65) else (y % 65))])),[]))
 else some (.ow 2 1 (.fo 2 (fun v=>[.n .i64 (bif (Nat.beq v 0) then (x % 65) else (y % 65))])),[]))
 else none)
 else none):=by kernel_rfl
theorem snd_grp (ws:Wsp) (k x y:Int) (hg:∀ i,i < ws.ng→(ws.gr i).na=2) (_:ws.ng≤9223372036854775807):yK Tryz.prog 26 [.a (wP ws),.n .i64 k,.n .i64 x,.n .i64 y] (.ow 2 1 (.fo 2 (fQ (grQ ws k x y)))):=by
 refine zW (N:=60) (LO:=qZ (kXU ws k x y)) jH zG (kY (l:=[(20,o_rn)]) (m:=[]) ⟨Sn.ok_rn,trivial⟩ trivial) (fun p S hp => ?_) ?_
 ·refine zU (L:=qQ Tf 26) (l:=(kXU ws k x y)) (show AllP _ (kXU ws k x y) from trivial) p S hp
 ·refine (pxgrp ws k x y).trans ?_;unfold grQ;rw [jU (C:=crn) (t:=(x,65)) ⟨by decide,by decide⟩,jU (C:=crn) (t:=(y,65)) ⟨by decide,by decide⟩,vYV,vYV];by_cases h:0 < (ws.ng:Int)
  ·rw [vJQ h];cases hk:decide (0 < (andI .i64 k 3)) with
   | false=>rfl
   | true =>
    have h1:=Int.emod_nonneg k (show (ws.ng:Int) ≠ 0 by omega);have h2:=Int.emod_lt_of_pos k h;have h3:=hg (k % (ws.ng:Int)).toNat (by omega);have h4:inB (k % (ws.ng:Int)) ws.ng=true:=by
     have e:k % (ws.ng:Int)=(((k % (ws.ng:Int)).toNat:Nat):Int):=by omega
     rw [e]; exact yX (by omega)
    rw [jU (C:=crn) (t:=(k,(ws.ng:Int))) ⟨h,by omega⟩,h4,h3,jU (C:=crn) (t:=(x,5)) ⟨by decide,by decide⟩,jU (C:=crn) (t:=(y,5)) ⟨by decide,by decide⟩];rfl
  ·rw [vYH h];rfl
theorem grp_ex {ws:Wsp} (h:MadeW ws) (k x y:Int):yK Tryz.prog 26 [.a (wP ws),.n .i64 k,.n .i64 x,.n .i64 y] (.v (.lf 2 (fQ (grQ ws k x y)))) :=
 yQK (snd_grp ws k x y (fun i hi=>(h.gr i hi).2.2.1) (by have:=h.ng; omega))
theorem snd_rl (x k H R:Int) (h:(0 < k∧k≤9223372036854775807)∧(k=9→x % 9=H)∧(k=3→x % 3=R)):yK Tryz.prog 20 [.n .i64 x,.n .i64 k] (.v (.n .i64 (bif decide (k=9) then H else bif decide (k=3) then R else x % k))):=by
 have e:(bif decide (k=9) then H else bif decide (k=3) then R else x % k)=x % k:=by
  by_cases h9:k=9
  ·rw [vJQ h9,vYV,h9]; exact (h.2.1 h9).symm
  ·rw [vYH h9,vYG];by_cases h3:k=3
   ·rw [vJQ h3,vYV,h3]; exact (h.2.2 h3).symm
   ·rw [vYH h3,vYG]
 rw [e]; exact snd_rnd x k h.1
end Go.Proofs.YtgmbkkkbfbocnaaGreat.Ho
namespace Go.Proofs.YtgmbkkkbfbocnaaGreat.Hs
open Go.Rx Rt Go.Sx Go.RowKit Od Na Nb Nc Nx Nf Nl Nm Ga Gb Gc Gd Ge Gf Gg Sn Ha Hb Hc Hd He Hf Hg Hh Hi Hj Hk Hm Hn Ho
def cmv9:Wsp × Nat × (Nat→Int) × Nat × (Nat→Int) × Int × Int→Prop:=fun t=>match t with | (ws,_,_,_,_,_,_)=>okW ws
def emv9:Wsp × Nat × (Nat→Int) × Nat × (Nat→Int) × Int × Int→List PV:=fun t=>match t with | (ws,k,q,k2,q2,a,b)=>[.a (wP ws),.a [.lf k (fQ q)],.lf k2 (fQ q2),.n .i64 a,.n .i64 b]
noncomputable def rmv9:Wsp × Nat × (Nat→Int) × Nat × (Nat→Int) × Int × Int→Ret:=fun t=>match t with | (_,_,_,_,_,_,b)=>.v (.b true)
def dmv9:List PV→Wsp × Nat × (Nat→Int) × Nat × (Nat→Int) × Int × Int:=fun ps=>match ps with
 | [.a r,.a [.lf k f],.lf k2 g,.n _ a,.n _ b]=>(unW r,k,unFQ f,k2,unFQ g,a,b)
 | _=>(unW [],0,fun _=>0,0,fun _=>0,0,0)
noncomputable def kGJ:List PV→Option (Bool × Ret):=o_fm dmv9 cmv9 emv9 rmv9
theorem ok_mv9:zJ Tryz.prog 27 kGJ:=qQV fun t h=>by
 obtain ⟨ws,k,q,k2,q2,a,b⟩:=t;exact snd_mvs ws k q k2 q2 a b h
noncomputable def orlmv (_ w2:Wsp) (k:Nat) (q:Nat→Int) (_:Nat) (_:Nat→Int) (_ place:Int) (wl:Nat) (e:Nat→Int) (wm:Nat) (e2 qa q3:Nat→Int) (k1 x y:Int):OrS:=orS [(13,o_cr [] (.v (.b true))),(14,o_cr [.lf wl (fQ e)] (.v (.a (wP w2)))),(19,o_cr [.a (wP w2),.lf wm (fQ e2)] (.v (.a [.lf w2.no (fQ qa)]))),(26,o_cr [.a (wP w2),.n .i64 k1,.n .i64 x,.n .i64 y] (.v (.lf 2 (fQ q3)))),(20,o_rn),(27,kGJ)] []
noncomputable def kUV (_ _:Wsp) (k:Nat) (q:Nat→Int) (_:Nat) (_:Nat→Int) (_ place:Int) (_:Nat) (e:Nat→Int) (_:Nat) (_ _ _:Nat→Int) (_ x y:Int):List (List Nat × jK):=[]
set_option maxRecDepth 100000 in
theorem pxlmv (ws w2:Wsp) (k:Nat) (q:Nat→Int) (k2:Nat) (q2:Nat→Int) (hand place:Int) (wl:Nat) (e:Nat→Int) (wm:Nat) (e2 qa q3:Nat→Int) (k1 x y:Int):qQU Tf (orlmv ws w2 k q k2 q2 hand place wl e wm e2 qa q3 k1 x y) (qZ (kUV ws w2 k q k2 q2 hand place wl e wm e2 qa q3 k1 x y)) 60 7 [.a (wP ws),.a [.lf k (fQ q)],.lf k2 (fQ q2),.n .i64 hand,.n .i64 place,.lf wl (fQ e),.lf wm (fQ e2),.n .i64 k1,.n .i64 x,.n .i64 y] =
 (bif (decide ((ws.n:Int)≤4)) then (bif (decide ((ws.m:Int)≤6)) then (bif (decide ((ws.c:Int)≤6)) then (bif (decide ((ws.d:Int)≤8)) then (bif (decide ((ws.no:Int)≤8)) then (bif (decide ((ws.np:Int)≤12)) then (bif (decide ((ws.nh:Int)≤6)) then (bif (decide ((ws.ng:Int)≤40)) then (bif (decide (20 < (k2:Int))) then (bif (g1 []) then some (.v (.b true),[])
 else none)
 else (bif (decide (20 < (k:Int))) then (bif (g1 []) then some (.v (.b true),[])
 else none)
 else (bif (g1 [.lf wl (fQ e)]) then (bif (gF1 crn ern (hand,(vJJ .i64 ((w2.nh:Int) + 2)))) then (bif (gF1 crn ern (place,(vJJ .i64 ((w2.np:Int) + 2)))) then (bif (g1 []) then (bif (gF1 cmv9 emv9 (ws,k,q,k2,q2,hand,place)) then (bif (g1 [.a (wP w2),.lf wm (fQ e2)]) then (bif (g1 [.a (wP w2),.n .i64 k1,.n .i64 x,.n .i64 y]) then (bif (gF1 cmv9 emv9 (w2,w2.no,qa,2,q3,(vJJ .i64 ((hand % (vJJ .i64 ((w2.nh:Int) + 2))) - 1)),(vJJ .i64 ((place % (vJJ .i64 ((w2.np:Int) + 2))) - 1)))) then (bif (g1 [.a (wP w2),.n .i64 k1,.n .i64 x,.n .i64 y]) then (bif (gF1 cmv9 emv9 (w2,k,q,2,q3,(vJJ .i64 ((hand % (vJJ .i64 ((w2.nh:Int) + 2))) - 1)),(vJJ .i64 ((place % (vJJ .i64 ((w2.np:Int) + 2))) - 1)))) then some (.v (.b true),[])
 else none)
 else none)
 else none)
 else none)
 else none)
 else none)
 else none)
 else none)
 else none)
 else none)))
 else (bif (g1 []) then some (.v (.b true),[])
 else none))
 else (bif (g1 []) then some (.v (.b true),[])
 else none))
 else (bif (g1 []) then some (.v (.b true),[])
 else none))
 else (bif (g1 []) then some (.v (.b true),[])
 else none))
 else (bif (g1 []) then some (.v (.b true),[])
 else none))
 else (bif (g1 []) then some (.v (.b true),[])
 else none))
 else (bif (g1 []) then some (.v (.b true),[])
 else none))
 else (bif (g1 []) then some (.v (.b true),[])
 else none)):=by kernel_rfl
theorem snd_lmv (ws w2:Wsp) (k:Nat) (q:Nat→Int) (k2:Nat) (q2:Nat→Int) (hand place:Int) (wl:Nat) (e:Nat→Int) (wm:Nat) (e2 qa q3:Nat→Int) (k1 x y:Int) (hA:yK Tryz.prog 13 [] (.v (.b true))) (hW:yK Tryz.prog 14 [.lf wl (fQ e)] (.v (.a (wP w2)))) (hM:yK Tryz.prog 19 [.a (wP w2),.lf wm (fQ e2)] (.v (.a [.lf w2.no (fQ qa)]))) (hG:yK Tryz.prog 26 [.a (wP w2),.n .i64 k1,.n .i64 x,.n .i64 y] (.v (.lf 2 (fQ q3)))) (o1:okW ws) (o2:okW w2) (bh:0 < vJJ .i64 ((w2.nh:Int) + 2)∧vJJ .i64 ((w2.nh:Int) + 2)≤9223372036854775807) (bp:0 < vJJ .i64 ((w2.np:Int) + 2)∧vJJ .i64 ((w2.np:Int) + 2)≤9223372036854775807):yK Tryz.prog 7 [.a (wP ws),.a [.lf k (fQ q)],.lf k2 (fQ q2),.n .i64 hand,.n .i64 place,.lf wl (fQ e),.lf wm (fQ e2),.n .i64 k1,.n .i64 x,.n .i64 y] (.v (.b true)):=by
 refine zW (N:=60) (LO:=qZ (kUV ws w2 k q k2 q2 hand place wl e wm e2 qa q3 k1 x y)) jH zG (kY (l:=[(13,o_cr [] (.v (.b true))),(14,o_cr [.lf wl (fQ e)] (.v (.a (wP w2)))),(19,o_cr [.a (wP w2),.lf wm (fQ e2)] (.v (.a [.lf w2.no (fQ qa)]))),(26,o_cr [.a (wP w2),.n .i64 k1,.n .i64 x,.n .i64 y] (.v (.lf 2 (fQ q3)))),(20,o_rn),(27,kGJ)]) (m:=[]) ⟨zJX hA,zJX hW,zJX hM,zJX hG,Sn.ok_rn,ok_mv9,trivial⟩ trivial) (fun p S hp => ?_) ?_
 ·refine zU (L:=qQ Tf 7) (l:=(kUV ws w2 k q k2 q2 hand place wl e wm e2 qa q3 k1 x y)) (show AllP _ (kUV ws w2 k q k2 q2 hand place wl e wm e2 qa q3 k1 x y) from trivial) p S hp
 ·refine (pxlmv ws w2 k q k2 q2 hand place wl e wm e2 qa q3 k1 x y).trans ?_;simp only [g1_t,jU (C:=crn) (t:=(hand,(vJJ .i64 ((w2.nh:Int) + 2)))) bh,jU (C:=crn) (t:=(place,(vJJ .i64 ((w2.np:Int) + 2)))) bp,jU (C:=cmv9) (t:=(ws,k,q,k2,q2,hand,place)) o1,jU (C:=cmv9) (t:=(w2,w2.no,qa,2,q3,(vJJ .i64 ((hand % (vJJ .i64 ((w2.nh:Int) + 2))) - 1)),(vJJ .i64 ((place % (vJJ .i64 ((w2.np:Int) + 2))) - 1)))) o2,jU (C:=cmv9) (t:=(w2,k,q,2,q3,(vJJ .i64 ((hand % (vJJ .i64 ((w2.nh:Int) + 2))) - 1)),(vJJ .i64 ((place % (vJJ .i64 ((w2.np:Int) + 2))) - 1)))) o2,vYV,Bool.cond_self]
theorem snd_law (hA:yK Tryz.prog 13 [] (.v (.b true))) (ws:Wsp) (o1:okW ws) (k:Nat) (q:Nat→Int) (r:List Int) (_:r.length≤9223372036854775807) (hand place:Int) (l:List Int) (hl:l.length≤9223372036854775807) (m:List Int) (hm1:m.length≤9223372036854775807) (k1 x y:Int):yK Tryz.prog 7 [.a (wP ws),.a [.lf k (fQ q)],yGG r,.n .i64 hand,.n .i64 place,yGG l,yGG m,.n .i64 k1,.n .i64 x,.n .i64 y] (.v (.b true)):=by
 obtain ⟨w2,hm,hW⟩:=wsp_ex l.length (iqOf l) hl;obtain ⟨qa,_,hM⟩:=mode_ex hm m.length (iqOf m) hm1;have hh:=hm.nh;have hp:=hm.np;refine snd_args (fun F w vals h=>Sames.al (xs:=[.a (wP ws),.a [.lf k (fQ q)],yGG r,.n .i64 hand,.n .i64 place,yGG l,yGG m,.n .i64 k1,.n .i64 x,.n .i64 y]) (ys:=[.a (wP ws),.a [.lf k (fQ q)],.lf r.length (fQ (iqOf r)),.n .i64 hand,.n .i64 place,.lf l.length (fQ (iqOf l)),.lf m.length (fQ (iqOf m)),.n .i64 k1,.n .i64 x,.n .i64 y]) ⟨fun _ _ _ h=>h,fun _ _ _ h=>h,yKX r,fun _ _ _ h=>h,fun _ _ _ h=>h,yKX l,yKX m,fun _ _ _ h=>h,fun _ _ _ h=>h,fun _ _ _ h=>h,trivial⟩ h) ?_;exact snd_lmv ws w2 k q _ _ hand place _ _ _ _ qa _ k1 x y hA hW hM (grp_ex hm k1 x y) o1 (made_okW hm) (by rw [zQ (by omega)]; omega) (by rw [zQ (by omega)]; omega)
end Go.Proofs.YtgmbkkkbfbocnaaGreat.Hs
namespace Go.Proofs.YtgmbkkkbfbocnaaGreat.Gi
open Go.Rx Rt Go.Sx Go.RowKit Go.ChangeShapes Go.WideShapes Od Na Nb Nc Nx Ga
def shJ:List Sh:=[.s,.i .i64,.i .i64,.i .i64,.i .i64,.i .i64,.i .i64,.i .i64,.i .i64,.i .i64,.i .i64,.i .i64]
def shM:List Sh:=[.i .i64,.i .i64,.i .i64,.i .i64,.i .i64]
def shZ:List Sh:=[.i .i64,.i .i64,.i .i64]
def kP (s:Skp):List PV:=[.n .i64 s.a,.n .i64 s.b]
def shK:List Sh:=[.i .i64,.i .i64]
def shS:List Sh:=[.i .i64,.i .i64,.l shZ]
theorem sames_len:∀ {xs ys:List PV},Sames xs ys→xs.length=ys.length
 | [],[],_=>rfl
 | _ :: _,_ :: _,h=>congrArg (· + 1) (sames_len h.2)
 | [],_ :: _,h=>h.elim
 | _ :: _,[],h=>h.elim
theorem sames_at:∀ {xs ys:List PV},Sames xs ys→∀ {t:Nat} {y:PV},ys[t]? = some y→∃ x,xs[t]? = some x∧Same x y
 | [],[],_,t,y,h=>by simp at h
 | x :: xs,y :: ys,hs,0,z,h=>by
  simp only [List.getElem?_cons_zero,vQZ] at h;subst h;exact ⟨x,rfl,hs.1⟩
 | x :: xs,y :: ys,hs,t + 1,z,h=>by
  simp only [List.getElem?_cons_succ] at h ⊢;exact sames_at hs.2 h
 | [],_ :: _,h,_,_,_=>h.elim
 | _ :: _,[],h,_,_,_=>h.elim
theorem yZX {n:Nat} {f g:Nat→List PV} (h:∀ j,j < n→Sames (f j) (g j)):Same (.lf n f) (.lf n g):=fun F w v hv=>by
 have h1:=zVY rfl hv;generalize hr:(List.range n).map f=rows at h1;have hl:rows.length=n:=by rw [← hr,List.length_map,List.length_range]
 refine .lf n g v ?_;cases h1 with
 | l0 ad c =>
  have:n=0:=hl.symm
  subst this;exact .l0 _ _
 | l _ b off n' c sz q hn hcap hs hF hc hh =>
  refine .l _ b off n' c sz q (by rw [List.length_map,List.length_range,← hl]; exact hn) hcap (fun r hr' => ?_) hF hc (fun j r t p hj ht => ?_)
  ·obtain ⟨j,hj,rfl⟩:=List.mem_map.1 hr';have hj':=List.mem_range.1 hj;rw [← sames_len (h j hj')];exact hs _ (by rw [← hr]; exact List.mem_map.2 ⟨j,hj,rfl⟩)
  ·have hj':j < n:=by have:=(List.getElem?_eq_some_iff.1 hj).1; simpa using this
   rw [vZY,List.getElem?_range hj'] at hj;cases hj;obtain ⟨x,hx,hxy⟩:=sames_at (h j hj') ht;exact hxy _ _ _ (hh j (f j) t x (by rw [← hr,vZY,List.getElem?_range hj']; rfl) hx)
theorem yQZ {α:Type} (a0:α) {n:Nat} {f:Nat→List PV} {R:List PV→α→Prop} (h:∀ j,j < n→∃ a,R (f j) a):∃ g:Nat→α,∀ j,j < n→R (f j) (g j):=by
 have each:∀ j,∃ a:α,j < n→R (f j) a:=fun j=>by
  by_cases hj:j < n
  ·obtain ⟨a,ha⟩:=h j hj; exact ⟨a,fun _=>ha⟩
  ·exact ⟨a0,fun h=>absurd h hj⟩
 obtain ⟨g,hg⟩:=Classical.axiomOfChoice each;exact ⟨g,hg⟩
section
variable {W:World} {H:Type} {enc:TypeId × Value→H} {r:Reach} {base:Nat} {v:Value} {d:DataW H} {p:List MemPlace}
abbrev RW (W:World):PV→Value→Prop:=RP (fun k=>k < W.heap.size) W
end
end Go.Proofs.YtgmbkkkbfbocnaaGreat.Gi
namespace Go.Rx
open Go.RowKit Go.Sx Go.ChangeShapes Go.WideShapes
inductive FitB:Sh→PV→Prop
 | i (k:IntKind) (x:Int) (h:(Lit.int k x).wf=true):FitB (.i k) (.n k x)
 | b (x:Bool):FitB .b (.b x)
 | s (x:ByteArray) (h:x.size≤maxLen):FitB .s (.s x)
 | l (row:List Sh) (n:Nat) (f:Nat→List PV) (hn:n≤maxLen) (hB:n * (8 * row.length)≤reachBytes) (hl:∀ j,j < n→(f j).length=row.length) (h:∀ j,j < n→∀ (i:Nat) sh p,row[i]? = some sh→(f j)[i]? = some p→FitB sh p):FitB (.l row) (.lf n f)
def shTB (P:Program):Nat→TypeId→Option (List Sh)
 | 0,_=>none
 | g + 1,t=>match P.underlying t with
  | some (.int k)=>some [.i k]
  | some .bool=>some [.b]
  | some .string=>some [.s]
  | some (.slice e)=>(shTB P g e).bind fun r=>bif Nat.beq (P.cellsOf e) r.length && Nat.blt 0 r.length && Nat.ble (8 * r.length) (P.bytesOf e) then some [.l r] else none
  | some (.array n e)=>(shTB P g e).bind fun r=>bif Nat.beq (P.cellsOf e) r.length && Nat.beq (P.cellsOf t) (sumL (List.replicate n r)) then some (List.replicate n r).flatten else none
  | some (.struct fs)=>(mapO (fun f:Field=>(shTB P g f.type).bind fun r=>bif Nat.beq (P.cellsOf f.type) r.length then some (f.offset,r) else none) fs.toList).bind fun l =>
    bif yUZ l 0 && Nat.beq (P.cellsOf t) (sumL (l.map (·.2))) then some (l.map (·.2)).flatten else none
  | _=>none
theorem jUJ {H:Type} {P:Program} {e:TypeId} {y:Nat}:∀ {l:List (DataW H)} {d:DataW H},d ∈ l→y ∈ d.weights P e→y ∈ DataW.weightsAll P e l
 | d0 :: l,d,hd,hy=>by
  unfold DataW.weightsAll;rcases List.mem_cons.1 hd with rfl | h
  ·exact List.mem_append_left _ hy
  ·exact List.mem_append_right _ (jUJ h hy)
theorem mem_each {H:Type} {P:Program} {y:Nat}:∀ {ts:List TypeId} {l:List (DataW H)} {i:Nat} {t:TypeId} {d:DataW H},ts[i]? = some t→l[i]? = some d→y ∈ d.weights P t→y ∈ DataW.weightsEach P ts l
 | [],_,i,_,_,h,_,_=>by simp at h
 | _ :: _,[],i,_,_,_,h,_=>by simp at h
 | t0 :: ts,d0 :: l,0,t,d,h1,h2,hy=>by
  simp only [List.getElem?_cons_zero,vQZ] at h1 h2;subst h1; subst h2;unfold DataW.weightsEach;exact List.mem_append_left _ hy
 | t0 :: ts,d0 :: l,i + 1,t,d,h1,h2,hy=>by
  simp only [List.getElem?_cons_succ] at h1 h2;unfold DataW.weightsEach;exact List.mem_append_right _ (mem_each h1 h2 hy)
section
variable {P:Program} {w:World} {H:Type} {enc:TypeId × Value→H}
def GoodB (w:World) (shs:List Sh) (cs:List Value):Prop:=∃ ps:List PV,ps.length=shs.length∧(∀ (i:Nat) sh p,shs[i]? = some sh→ps[i]? = some p→FitB sh p)∧Al (RP (fun k=>k < w.heap.size) w) ps cs∧∀ v ∈ cs,v.oneCell'=true
theorem GoodB.one {sh:Sh} {p:PV} {v:Value} (h1:FitB sh p) (h2:RP (fun k=>k < w.heap.size) w p v) (h3:v.oneCell'=true):GoodB w [sh] [v] :=
 ⟨[p],rfl,(fun i s0 q hs hq=>by
  match i with
  | 0=>cases hs; cases hq; exact h1
  | i + 1=>cases hs),qJZ h2 zKY,(fun u hu=>by obtain rfl:=List.mem_singleton.1 hu; exact h3)⟩
theorem GoodB.cat {r s:List Sh} {cs ds:List Value} (h1:GoodB w r cs) (h2:GoodB w s ds):GoodB w (r ++ s) (cs ++ ds):=by
 obtain ⟨p,a1,a2,a3,a4⟩:=h1;obtain ⟨q,b1,b2,b3,b4⟩:=h2;refine ⟨p ++ q,by simp [a1,b1],fun i sh x hs hx => ?_,a3.append b3,fun v hv => ?_⟩
 ·rcases Nat.lt_or_ge i r.length with hi | hi
  ·rw [List.getElem?_append_left hi] at hs;rw [List.getElem?_append_left (by omega)] at hx;exact a2 i sh x hs hx
  ·rw [List.getElem?_append_right hi] at hs;rw [List.getElem?_append_right (by omega),a1] at hx;exact b2 _ sh x hs hx
 ·rcases List.mem_append.1 hv with h | h
  ·exact a4 v h
  ·exact b4 v h
def PiecesB (w:World):List (List Sh)→List Value→Prop
 | [],cs=>cs=[]
 | r :: l,cs=>GoodB w r (cs.take r.length)∧PiecesB w l (cs.drop r.length)
theorem PiecesB.good:∀ {l:List (List Sh)} {cs:List Value},PiecesB w l cs→GoodB w l.flatten cs
 | [],cs,h=>by
  have:cs=[]:=h
  subst this;exact ⟨[],rfl,fun i sh p hs=>by simp at hs,zKY,fun v hv=>by cases hv⟩
 | r :: l,cs,h=>by
  have:=GoodB.cat h.1 h.2.good
  rw [List.take_append_drop] at this;exact this
theorem pieces_arrB {r:List Sh}:∀ (n:Nat) (cs:List Value),cs.length=sumL (List.replicate n r)→(∀ i,i < n→GoodB w r ((cs.drop (i * r.length)).take r.length))→PiecesB w (List.replicate n r) cs
 | 0,cs,hl,_=>by
  have:cs.length=0:=hl
  exact List.length_eq_zero_iff.1 this
 | n + 1,cs,hl,h=>by
  have hl':cs.length=r.length + sumL (List.replicate n r):=hl;refine ⟨by have:=h 0 (by omega); simpa using this,pieces_arrB n _ (by rw [List.length_drop]; omega) fun i hi => ?_⟩
  have:=h (i + 1) (by omega)
  rw [List.drop_drop];rw [show r.length + i * r.length=(i + 1) * r.length by rw [Nat.add_mul]; omega];exact this
theorem pieces_strB:∀ (l:List (Nat × List Sh)) (a:Nat) (cs:List Value),yUZ l a=true→(cs.drop a).length=sumL (l.map (·.2))→(∀ x ∈ l,GoodB w x.2 ((cs.drop x.1).take x.2.length))→PiecesB w (l.map (·.2)) (cs.drop a)
 | [],a,cs,_,hl,_=>List.length_eq_zero_iff.1 hl
 | x :: l,a,cs,hc,hl,h=>by
  simp only [yUZ,vQJ] at hc;have e:=vQX hc.1;have hl':(cs.drop a).length=x.2.length + sumL (l.map (·.2)):=hl;rw [List.length_drop] at hl';have h0:=h x vZQ;rw [e] at h0;refine ⟨h0,?_⟩;show PiecesB w (l.map (·.2)) ((cs.drop a).drop x.2.length);rw [List.drop_drop];exact pieces_strB l (a + x.2.length) cs hc.2 (by rw [List.length_drop]; omega) fun y hy=>h y (vQH _ hy)
theorem yQY {sp:Nat→Bool} {held:Bool}:∀ (fuel:Nat) (t:TypeId) (cs:List Value) (x:DataW H × List MemPlace) (g:Nat) (shs:List Sh),DataW.trod enc P w 0 sp held fuel t cs=some x→shTB P g t=some shs→(∀ y ∈ DataW.weights P t x.1,y≤reachBytes)→GoodB w shs cs
 | 0,t,cs,x,g,shs,h,_,_=>by simp [DataW.trod] at h
 | fuel + 1,t,cs,x,0,shs,h,hs,_=>by cases hs
 | fuel + 1,t,cs,x,g + 1,shs,h,hs,hw=>by
  unfold shTB at hs;split at hs
  ·rename_i k hu;cases hs;obtain ⟨n,rfl,_,hwf⟩:=DataW.trod_int hu h;exact GoodB.one (.i _ _ hwf) (.n _ _) rfl
  ·rename_i hu;cases hs;obtain ⟨b,rfl,_⟩:=DataW.trod_bool hu h;exact GoodB.one (.b _) (.b _) rfl
  ·rename_i hu;cases hs;obtain ⟨s,rfl,_,hs⟩:=DataW.trod_string hu h;exact GoodB.one (.s _ hs) (.s _) rfl
  ·rename_i e hu;simp only [vQQ] at hs;obtain ⟨r,hr,hs⟩:=hs;obtain ⟨hb,hs⟩:=qY hs;cases hs;simp only [vQJ,Nat.blt_eq] at hb;have hk:=vQX hb.1.1;have hr0:=hb.1.2;have h8:=vZX hb.2;rcases DataW.trod_slice hu h with ⟨rfl,_⟩ | ⟨a,len,cap,elems,rest,n,hf,rfl,rfl,_,hl,hm,hel,hcell,_,_⟩
   ·exact GoodB.one (.l r 0 (fun _=>[]) (Nat.zero_le _) (by rw [Nat.zero_mul]; exact Nat.zero_le _) (fun j hj=>by omega) (fun j hj=>by omega)) (.lf 0 _ _ (.l0 _ _)) rfl
   ·obtain rfl:n=fuel:=by omega
    have hwe:DataW.weights P t (.slice (elems.map (·.1)) (rest.map (·.1)))=((elems.map (·.1)).length + (rest.map (·.1)).length) * P.bytesOf e :: (DataW.weightsAll P e (elems.map (·.1)) ++ DataW.weightsAll P e (rest.map (·.1))):=by
     unfold DataW.weights;rw [hu]
    replace hw:∀ y ∈ DataW.weights P t (.slice (elems.map (·.1)) (rest.map (·.1))),y≤reachBytes:=hw
    rw [hwe] at hw;have hB:len * (8 * r.length)≤reachBytes:=by
     have h0:=hw _ vZQ;rw [List.length_map,List.length_map,hel] at h0;exact Nat.le_trans (Nat.mul_le_mul (Nat.le_add_right _ _) h8) h0
    have each:∀ i,∃ y:List PV × List Value,i < len→w.cells? 0 (a.add (i * r.length)) r.length=some y.2∧y.1.length=r.length∧(∀ (j:Nat) sh p,r[j]? = some sh→y.1[j]? = some p→FitB sh p)∧Al (RP (fun k=>k < w.heap.size) w) y.1 y.2∧∀ v ∈ y.2,v.oneCell'=true:=fun i=>by
     by_cases hi:i < len
     ·have hc:=hcell i hi;have he:elems[i]? = some (elems[i]'(by omega)):=vQK (by omega);rw [he,vQQ] at hc;obtain ⟨cs',h1,h2⟩:=hc;rw [hk] at h1;obtain ⟨ps,b1,b2,b3,b4⟩:=yQY n e cs' _ g r h2 hr (fun y hy=>hw y (vQH _ (List.mem_append_left _ (jUJ (List.mem_map.2 ⟨_,List.getElem_mem (show i < elems.length by omega),rfl⟩) hy))));exact ⟨(ps,cs'),fun _=>⟨h1,b1,b2,b3,b4⟩⟩
     ·exact ⟨([],[]),fun h=>absurd h hi⟩
    obtain ⟨f,hf2⟩:=Classical.axiomOfChoice each;refine GoodB.one (.l r len (fun j=>(f j).1) (by omega) hB (fun j hj=>(hf2 j hj).2.1) (fun j hj=>(hf2 j hj).2.2.1)) (.lf len _ _ ?_) rfl;rcases Nat.eq_zero_or_pos len with h0 | hpos
    ·subst h0;exact .l0 _ _
    ·have hsome:∀ j t,j < len→t < r.length→w.cell? ((a.add (j * r.length)).add t)=(f j).2[t]?:=fun j t hj ht=>(World.cells?_some (hf2 j hj).1).2.2 t ht
     have hlen2:∀ j,j < len→(f j).2.length=r.length:=fun j hj=>(World.cells?_some (hf2 j hj).1).2.1
     have h00:=hsome 0 0 hpos hr0;have hg:(f 0).2[0]? = some ((f 0).2[0]'(by rw [hlen2 0 hpos]; exact hr0)):=vQK _;rw [hg] at h00;have hsp:a.spot=none:=by
      have e:(a.add (0 * r.length)).add 0=a:=by simp [Addr.add]
      rw [e] at h00;unfold World.cell? at h00;cases hb:w.heap[a.block]? with
      | none=>simp [hb] at h00
      | some o=>cases o <;> simp [hb] at h00; exact h00.1
     obtain ⟨bb,off,sp'⟩:=a;simp only at hsp;subst hsp;have hbb:bb < w.heap.size:=by
      rw [qZG,qZG] at h00;unfold World.cell? at h00;cases hb:w.heap[bb]? with
      | none=>simp [hb] at h00
      | some o=>exact qZY hb
     refine .l _ bb off len cap r.length (fun j t=>((f j).2[t]?).getD (.bool false)) (by simp) hl (fun q hq => ?_) hbb (fun j t hj ht => ?_) (fun j q t p hq hp => ?_)
     ·obtain ⟨j,hj,rfl⟩:=List.mem_map.1 hq;exact (hf2 j (List.mem_range.1 hj)).2.1
     ·have h1:=hsome j t hj ht;have hg2:(f j).2[t]? = some ((f j).2[t]'(by rw [hlen2 j hj]; exact ht)):=vQK _;rw [qZG,qZG,hg2,Nat.add_assoc] at h1;rw [hg2];exact ⟨h1,(hf2 j hj).2.2.2.2 _ (List.getElem_mem _)⟩
     ·have hj:j < len:=by have:=(List.getElem?_eq_some_iff.1 hq).1; simpa using this
      rw [vZY,List.getElem?_range hj] at hq;cases hq;have htl:=(List.getElem?_eq_some_iff.1 hp).1;have hg2:(f j).2[t]? = some ((f j).2[t]'(by rw [hlen2 j hj,← (hf2 j hj).2.1]; exact htl)):=vQK _
      have:=(hf2 j hj).2.2.2.1.2 t p _ hp hg2
      rw [hg2];exact this
  ·rename_i n e hu;simp only [vQQ] at hs;obtain ⟨r,hr,hs⟩:=hs;obtain ⟨hb,hs⟩:=qY hs;cases hs;simp only [vQJ] at hb;have hk:=vQX hb.1;have hk2:=vQX hb.2;obtain ⟨xs,m,hf,rfl,hl,hxl,hall⟩:=DataW.trod_array hu h;have hwe:DataW.weights P t (.agg (xs.map (·.1)))=DataW.weightsAll P e (xs.map (·.1)):=by
    unfold DataW.weights;rw [hu]
   replace hw:∀ y ∈ DataW.weights P t (.agg (xs.map (·.1))),y≤reachBytes:=hw
   rw [hwe] at hw;obtain rfl:m=fuel:=by omega
   refine (pieces_arrB n cs (hl.trans hk2) fun i hi => ?_).good;have h1:=hall i hi;have he:xs[i]? = some (xs[i]'(by omega)):=vQK (by omega);rw [he,hk] at h1;exact yQY m e _ _ g r h1 hr (fun y hy=>hw y (jUJ (List.mem_map.2 ⟨_,List.getElem_mem (show i < xs.length by omega),rfl⟩) hy))
  ·rename_i fs hu;simp only [vQQ] at hs;obtain ⟨l,hlm,hs⟩:=hs;obtain ⟨hb,hs⟩:=qY hs;cases hs;simp only [vQJ] at hb;have hk2:=vQX hb.2;obtain ⟨xs,m,hf,rfl,hl,hxl,hall⟩:=DataW.trod_struct hu h;have hwe:DataW.weights P t (.agg (xs.map (·.1)))=DataW.weightsEach P (fs.toList.map (·.type)) (xs.map (·.1)):=by
    unfold DataW.weights;rw [hu]
   replace hw:∀ y ∈ DataW.weights P t (.agg (xs.map (·.1))),y≤reachBytes:=hw
   rw [hwe] at hw;obtain rfl:m=fuel:=by omega
   have hm:=jW hlm
   have:=pieces_strB (w:=w) l 0 cs hb.1 (by rw [vYW]; exact hl.trans hk2) fun y hy=>by
    obtain ⟨i,hi⟩:=List.mem_iff_getElem?.1 hy;have hil:=(List.getElem?_eq_some_iff.1 hi).1;have hl2:i < fs.toList.length:=by rw [hm.1]; exact hil
    have hfi:fs.toList[i]? = some (fs.toList[i]'hl2):=vQK hl2;have h1:=hm.2 i _ y hfi hi;have hfi0:=hfi;generalize fs.toList[i]'hl2=fd at hfi hfi0 h1;simp only [vQQ] at h1;obtain ⟨r,hr,h1⟩:=h1;obtain ⟨hb1,h1⟩:=qY h1;cases h1;have hk:=vQX hb1;have h2:=hall i fd (by simpa using hfi);have he:xs[i]? = some (xs[i]'(by simp at hxl hl2; omega)):=vQK _;rw [he,hk] at h2;exact yQY m fd.type _ _ g r h2 hr (fun y hy=>hw y (mem_each (i:=i) (by rw [vZY,hfi0]; rfl) (by rw [vZY,he]; rfl) hy))
   rw [vYW] at this;exact this.good
  ·cases hs
end
section
variable {P:Program} {W:World} {H:Type} {enc:TypeId × Value→H}
def FitsB (row:List Sh) (ps:List PV):Prop:=ps.length=row.length∧∀ (i:Nat) sh p,row[i]? = some sh→ps[i]? = some p→FitB sh p
theorem FitsB.cons {s0:Sh} {row:List Sh} {ps:List PV} (h:FitsB (s0 :: row) ps):∃ p qs,ps=p :: qs∧FitB s0 p∧FitsB row qs:=by
 cases ps with
 | nil=>have:=h.1; simp at this
 | cons p qs=>exact ⟨p,qs,rfl,h.2 0 s0 p rfl rfl,by have:=h.1; simpa using this,fun i sh q h1 h2=>h.2 (i + 1) sh q h1 h2⟩
theorem FitsB.nil {ps:List PV} (h:FitsB [] ps):ps=[]:=List.eq_nil_of_length_eq_zero h.1
theorem FitB.int {k:IntKind} {p:PV} (h:FitB (.i k) p):∃ x,p=.n k x∧(Lit.int k x).wf=true:=by cases h with | i k x h=>exact ⟨x,rfl,h⟩
theorem FitB.str {p:PV} (h:FitB .s p):∃ x,p=.s x:=by cases h with | s x h=>exact ⟨x,rfl⟩
theorem FitB.slc {row:List Sh} {p:PV} (h:FitB (.l row) p):∃ n f,p=.lf n f∧n * (8 * row.length)≤reachBytes∧∀ j,j < n→FitsB row (f j):=by
 cases h with
 | l row n f hn hB hl h=>exact ⟨n,f,rfl,hB,fun j hj=>⟨hl j hj,h j hj⟩⟩
theorem open_strB {t:TypeId} {fs:Array Field} {v:Value} {d:DataW H} {p:List MemPlace} {g:Nat} {row:List Sh} (ht:P.underlying t=some (.struct fs)) {r:Reach} {base:Nat} (hv:Value.okWide P W r base t v)
  (h:DataW.Trod enc P W 0 (fun _=>true) true t v d p) (hs:shTB P g t=some row) (hw:∀ y ∈ DataW.weights P t d,y≤reachBytes):∃ ps,RP (fun k=>k < W.heap.size) W (.a ps) v∧FitsB row ps:=by
 have hcs:∃ cs,v=.agg cs:=by
  unfold Value.okWide at hv;cases v <;> simp [ht] at hv
  exact ⟨_,rfl⟩
 obtain ⟨cs,rfl⟩:=hcs;obtain ⟨fuel,h⟩:=h;obtain ⟨ps,h1,h2,h3,h4⟩:=yQY fuel t _ _ g row h hs hw;exact ⟨ps,.a ps cs.toList h3.1 h4 h3.2,h1,h2⟩
end
end Go.Rx
namespace Go.Proofs.YtgmbkkkbfbocnaaGreat.Hp
open Go.Rx Rt Go.Sx Go.RowKit Go.ChangeShapes Go.WideShapes Od Na Nb Nc Nx Ga Gi Ha Hc
theorem rowJB {ps:List PV} (h:FitsB shJ ps):∃ a:J,ps=jp a:=by
 unfold shJ at h;obtain ⟨p0,q0,rfl,f0,h⟩:=h.cons;obtain ⟨p1,q1,rfl,f1,h⟩:=h.cons;obtain ⟨p2,q2,rfl,f2,h⟩:=h.cons;obtain ⟨p3,q3,rfl,f3,h⟩:=h.cons;obtain ⟨p4,q4,rfl,f4,h⟩:=h.cons;obtain ⟨p5,q5,rfl,f5,h⟩:=h.cons;obtain ⟨p6,q6,rfl,f6,h⟩:=h.cons;obtain ⟨p7,q7,rfl,f7,h⟩:=h.cons;obtain ⟨p8,q8,rfl,f8,h⟩:=h.cons;obtain ⟨p9,q9,rfl,f9,h⟩:=h.cons;obtain ⟨p10,q10,rfl,f10,h⟩:=h.cons;obtain ⟨p11,q11,rfl,f11,h⟩:=h.cons;obtain rfl:=h.nil;obtain ⟨x0,rfl⟩:=f0.str;obtain ⟨x1,rfl,_⟩:=f1.int;obtain ⟨x2,rfl,_⟩:=f2.int;obtain ⟨x3,rfl,_⟩:=f3.int;obtain ⟨x4,rfl,_⟩:=f4.int;obtain ⟨x5,rfl,_⟩:=f5.int;obtain ⟨x6,rfl,_⟩:=f6.int;obtain ⟨x7,rfl,_⟩:=f7.int;obtain ⟨x8,rfl,_⟩:=f8.int;obtain ⟨x9,rfl,_⟩:=f9.int;obtain ⟨x10,rfl,_⟩:=f10.int;obtain ⟨x11,rfl,_⟩:=f11.int;exact ⟨⟨x0,x1,x2,⟨x3,x4,x5⟩,x6,x7,x8,x9,x10,x11⟩,rfl⟩
theorem rowMB {ps:List PV} (h:FitsB shM ps):∃ a:Ms,ps=mp a:=by
 unfold shM at h;obtain ⟨p0,q0,rfl,f0,h⟩:=h.cons;obtain ⟨p1,q1,rfl,f1,h⟩:=h.cons;obtain ⟨p2,q2,rfl,f2,h⟩:=h.cons;obtain ⟨p3,q3,rfl,f3,h⟩:=h.cons;obtain ⟨p4,q4,rfl,f4,h⟩:=h.cons;obtain rfl:=h.nil;obtain ⟨x0,rfl,_⟩:=f0.int;obtain ⟨x1,rfl,_⟩:=f1.int;obtain ⟨x2,rfl,_⟩:=f2.int;obtain ⟨x3,rfl,_⟩:=f3.int;obtain ⟨x4,rfl,_⟩:=f4.int;exact ⟨⟨x0,x1,⟨x2,x3,x4⟩⟩,rfl⟩
theorem rowZB {ps:List PV} (h:FitsB shZ ps):∃ a:Z3,ps=zP a:=by
 unfold shZ at h;obtain ⟨p0,q0,rfl,f0,h⟩:=h.cons;obtain ⟨p1,q1,rfl,f1,h⟩:=h.cons;obtain ⟨p2,q2,rfl,f2,h⟩:=h.cons;obtain rfl:=h.nil;obtain ⟨x0,rfl,_⟩:=f0.int;obtain ⟨x1,rfl,_⟩:=f1.int;obtain ⟨x2,rfl,_⟩:=f2.int;exact ⟨⟨x0,x1,x2⟩,rfl⟩
theorem rowKB {ps:List PV} (h:FitsB shK ps):∃ a:Skp,ps=kP a:=by
 unfold shK at h;obtain ⟨p0,q0,rfl,f0,h⟩:=h.cons;obtain ⟨p1,q1,rfl,f1,h⟩:=h.cons;obtain rfl:=h.nil;obtain ⟨x0,rfl,_⟩:=f0.int;obtain ⟨x1,rfl,_⟩:=f1.int;exact ⟨⟨x0,x1⟩,rfl⟩
def shH:List Sh:=[.i .i64,.i .i64,.i .i64,.i .i64]
def shO:List Sh:=[.s,.l shS]
def shI:List Sh:=[.i .i64]
def shG:List Sh:=[.i .i64,.i .i64,.l shI]
theorem rowHB {ps:List PV} (h:FitsB shH ps):∃ a:Hnd,ps=hP a:=by
 unfold shH at h;obtain ⟨p0,q0,rfl,f0,h⟩:=h.cons;obtain ⟨p1,q1,rfl,f1,h⟩:=h.cons;obtain ⟨p2,q2,rfl,f2,h⟩:=h.cons;obtain ⟨p3,q3,rfl,f3,h⟩:=h.cons;obtain rfl:=h.nil;obtain ⟨x0,rfl,_⟩:=f0.int;obtain ⟨x1,rfl,_⟩:=f1.int;obtain ⟨x2,rfl,_⟩:=f2.int;obtain ⟨x3,rfl,_⟩:=f3.int;exact ⟨⟨x0,⟨x1,x2,x3⟩⟩,rfl⟩
theorem rowIB {ps:List PV} (h:FitsB shI ps):∃ a:Int,ps=(fun x=>[PV.n .i64 x]) a:=by
 unfold shI at h;obtain ⟨p0,q0,rfl,f0,h⟩:=h.cons;obtain rfl:=h.nil;obtain ⟨x0,rfl,_⟩:=f0.int;exact ⟨x0,rfl⟩
theorem rowSB {ps:List PV} (h:FitsB shS ps):∃ s:Shp,Sames ps (sP s):=by
 unfold shS at h;obtain ⟨p0,q0,rfl,f0,h⟩:=h.cons;obtain ⟨p1,q1,rfl,f1,h⟩:=h.cons;obtain ⟨p2,q2,rfl,f2,h⟩:=h.cons;obtain rfl:=h.nil;obtain ⟨x0,rfl,_⟩:=f0.int;obtain ⟨x1,rfl,_⟩:=f1.int;obtain ⟨n,f,rfl,_,hr⟩:=f2.slc;obtain ⟨pts,hp⟩:=yQZ (⟨0,0,0⟩:Z3) (R:=fun ps z=>ps=zP z) fun j hj=>rowZB (hr j hj)
 exact ⟨⟨x0,x1,n,pts⟩,Same.refl _,Same.refl _,qWW hp,trivial⟩
theorem rowOB {ps:List PV} (h:FitsB shO ps):∃ o:ObT,o.ns≤8796093021952∧Sames ps (oP o):=by
 unfold shO at h;obtain ⟨p0,q0,rfl,f0,h⟩:=h.cons;obtain ⟨p1,q1,rfl,f1,h⟩:=h.cons;obtain rfl:=h.nil;obtain ⟨x0,rfl⟩:=f0.str;obtain ⟨n,f,rfl,hB,hr⟩:=f1.slc;obtain ⟨shs,hp⟩:=yQZ (⟨0,0,0,fun _=>⟨0,0,0⟩⟩:Shp) (R:=fun ps z=>Sames ps (sP z)) fun j hj=>rowSB (hr j hj)
 refine ⟨⟨x0,n,shs⟩,?_,Same.refl _,yZX hp,trivial⟩;have hB':n * (8 * 3)≤reachBytes:=hB;unfold reachBytes at hB';show n≤_;omega
theorem rowGB {ps:List PV} (h:FitsB shG ps):∃ g:Grp,Sames ps (gPv g):=by
 unfold shG at h;obtain ⟨p0,q0,rfl,f0,h⟩:=h.cons;obtain ⟨p1,q1,rfl,f1,h⟩:=h.cons;obtain ⟨p2,q2,rfl,f2,h⟩:=h.cons;obtain rfl:=h.nil;obtain ⟨x0,rfl,_⟩:=f0.int;obtain ⟨x1,rfl,_⟩:=f1.int;obtain ⟨n,f,rfl,_,hr⟩:=f2.slc;obtain ⟨cf,hp⟩:=yQZ (0:Int) (R:=fun ps z=>ps=[PV.n .i64 z]) fun j hj=>rowIB (hr j hj)
 exact ⟨⟨x0,x1,n,cf⟩,Same.refl _,Same.refl _,qWW hp,trivial⟩
theorem rowI {ps:List PV} (h:Fits shI ps):∃ a:Int,ps=[PV.n .i64 a]:=by
 unfold shI at h;obtain ⟨p0,q0,rfl,f0,h⟩:=h.cons;obtain rfl:=h.nil;obtain ⟨x0,rfl,_⟩:=f0.int;exact ⟨x0,rfl⟩
section
variable {W:World} {H:Type} {enc:TypeId × Value→H} {r:Reach} {base:Nat} {v:Value} {d:DataW H} {p:List MemPlace}
theorem shT_w:shTB Tryz.prog 9 42=some [.l shJ,.l shM,.l shS,.l shK,.l shO,.l shZ,.l shH,.l shG,.i .i64]:=by kernel_rfl
theorem shT_m:shT Tryz.prog 9 50=some [.l shI]:=by kernel_rfl
set_option maxRecDepth 100000 in
theorem open_wsp (hv:Value.okWide Tryz.prog W r base 42 v) (h:DataW.Trod enc Tryz.prog W 0 (fun _=>true) true 42 v d p) (hw:∀ y ∈ DataW.weights Tryz.prog 42 d,y≤reachBytes):∃ ws:Wsp,okW ws∧RW W (.a (wP ws)) v:=by
 obtain ⟨ps,hr,hf⟩:=open_strB Tryz.underlying42 hv h shT_w hw;obtain ⟨p1,ps,rfl,f1,hf⟩:=hf.cons;obtain ⟨p2,ps,rfl,f2,hf⟩:=hf.cons;obtain ⟨p3,ps,rfl,f3,hf⟩:=hf.cons;obtain ⟨p4,ps,rfl,f4,hf⟩:=hf.cons;obtain ⟨p5,ps,rfl,f5,hf⟩:=hf.cons;obtain ⟨p6,ps,rfl,f6,hf⟩:=hf.cons;obtain ⟨p7,ps,rfl,f7,hf⟩:=hf.cons;obtain ⟨p8,ps,rfl,f8,hf⟩:=hf.cons;obtain ⟨p9,ps,rfl,f9,hf⟩:=hf.cons;obtain rfl:=hf.nil;obtain ⟨n,f,rfl,_,g1⟩:=f1.slc;obtain ⟨m,g,rfl,_,g2⟩:=f2.slc;obtain ⟨c,a,rfl,_,g3⟩:=f3.slc;obtain ⟨d,b,rfl,_,g4⟩:=f4.slc;obtain ⟨no,fo,rfl,_,g5⟩:=f5.slc;obtain ⟨np,fp,rfl,_,g6⟩:=f6.slc;obtain ⟨nh,fh,rfl,_,g7⟩:=f7.slc;obtain ⟨ng,fg,rfl,_,g8⟩:=f8.slc;obtain ⟨sl,rfl,_⟩:=f9.int;obtain ⟨js,hj⟩:=yQZ (⟨ByteArray.empty,0,0,⟨0,0,0⟩,0,0,0,0,0,0⟩:J) (R:=fun ps z=>ps=jp z) fun j hj=>rowJB (g1 j hj)
 obtain ⟨ms,hm⟩:=yQZ (⟨0,0,⟨0,0,0⟩⟩:Ms) (R:=fun ps z=>ps=mp z) fun j hj=>rowMB (g2 j hj)
 obtain ⟨sh,hs⟩:=yQZ (⟨0,0,0,fun _=>⟨0,0,0⟩⟩:Shp) (R:=fun ps z=>Sames ps (sP z)) fun j hj=>rowSB (g3 j hj)
 obtain ⟨sk,hk⟩:=yQZ (⟨0,0⟩:Skp) (R:=fun ps z=>ps=kP z) fun j hj=>rowKB (g4 j hj)
 obtain ⟨ob,ho⟩:=yQZ (⟨ByteArray.empty,0,fun _=>⟨0,0,0,fun _=>⟨0,0,0⟩⟩⟩:ObT) (R:=fun ps (z:ObT)=>z.ns≤8796093021952∧Sames ps (oP z)) fun j hj=>rowOB (g5 j hj)
 obtain ⟨pl,hp⟩:=yQZ (⟨0,0,0⟩:Z3) (R:=fun ps z=>ps=zP z) fun j hj=>rowZB (g6 j hj)
 obtain ⟨hd,hh⟩:=yQZ (⟨0,⟨0,0,0⟩⟩:Hnd) (R:=fun ps z=>ps=hP z) fun j hj=>rowHB (g7 j hj)
 obtain ⟨gr,hg⟩:=yQZ (⟨0,0,0,fun _=>0⟩:Grp) (R:=fun ps z=>Sames ps (gPv z)) fun j hj=>rowGB (g8 j hj)
 have s:Sames [.lf n f,.lf m g,.lf c a,.lf d b,.lf no fo,.lf np fp,.lf nh fh,.lf ng fg,.n .i64 sl] [.lf n (fJ js),.lf m (fM ms),.lf c (fS sh),.lf d (fK sk),.lf no (fO ob),.lf np (fZ pl),.lf nh (fH hd),.lf ng (fG gr),.n .i64 sl]:=⟨qWW hj,qWW hm,yZX hs,qWW hk,yZX fun j hj=>(ho j hj).2,qWW hp,qWW hh,yZX hg,Same.refl _,trivial⟩
 exact ⟨⟨js,ms,sh,sk,n,m,c,d,ob,pl,hd,gr,no,np,nh,ng,sl⟩,fun i hi=>(ho i hi).1,Same.a s _ _ _ hr⟩
set_option maxRecDepth 100000 in
theorem open_mode (hv:Value.okWide Tryz.prog W r base 50 v) (h:DataW.Trod enc Tryz.prog W 0 (fun _=>true) true 50 v d p):∃ (k:Nat) (q:Nat→Int),RW W (.a [.lf k (fQ q)]) v:=by
 obtain ⟨ps,hr,hf⟩:=open_str Tryz.underlying50 hv h shT_m;obtain ⟨p1,ps,rfl,f1,hf⟩:=hf.cons;obtain rfl:=hf.nil;obtain ⟨n,f,rfl,g1⟩:=f1.slc;obtain ⟨q,hq⟩:=yQZ (0:Int) (R:=fun ps z=>ps=[PV.n .i64 z]) fun j hj=>rowI (g1 j hj)
 have s:Sames [.lf n f] [.lf n (fQ q)]:=⟨qWW hq,trivial⟩
 exact ⟨n,q,Same.a s _ _ _ hr⟩
end
end Go.Proofs.YtgmbkkkbfbocnaaGreat.Hp

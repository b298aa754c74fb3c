/- Part 17 of the texts behind the last one: rules and contracts. No condition. -/
import Derived.Test.YtmeldddgjfocdaaGreatGR16
open Bool renaming and_eq_true → vQJ, true_and → vZH
open Go.IntKind renaming wrap → vJJ
namespace Go.Proofs.YtmeldddgjfocdaaGreat.Hn
open Go.Rx Rt Go.Sx Go.RowKit Od Na Nb Nc Nx Nf Nl Nm Ga Gb Gc Gd Ge Gf Gg Sn Ha Hb Hc Hd He Hf Hg Hh Hi Hj Hk Hm
noncomputable def orUs (k:Nat) (q:Nat→Int) (x:Int):OrS:=orS [] []
noncomputable def hUs (k:Nat) (q:Nat→Int) (x:Int) (i:Int):St:=⟨[(0,.v (.lf k (fQ q))),(1,.v (.n .i64 x)),(5,.v (.n .i64 i))],[]⟩
set_option maxRecDepth 100000 in
theorem rdUs (G:St→Option (Ret × Mem)) (K:Cont) (k:Nat) (q:Nat→Int) (x:Int) (i:Int):kZ 60 (cxS Tf (orUs k q x) 60 69 (ntmF Tf 69)) (evX Tf (orUs k q x) 60 69 (ntmF Tf 69)) (qZ []) (qQ Tf 69 [0,1,0,1]) [0,1,0,1] (Tf.hint 69 (qJ (qQ Tf 69 [0,1,0,1]))) K G (hUs k q x i) =
 (bif (decide (i < (k:Int))) then (bif (inB i k) then (bif (decide ((q (i).toNat)=x)) then (K .ret ⟨[(4,.v (.b true))],[]⟩)
 else (G (hUs k q x (vJJ .i64 (i + 1)))))
 else none)
 else (K (.exit 0) ⟨[],[]⟩)):=by kernel_rfl
theorem lpUs (K:Cont) (k:Nat) (q:Nat→Int) (x:Int) (_:k≤50):LFX 60 (cxS Tf (orUs k q x) 60 69 (ntmF Tf 69)) (evX Tf (orUs k q x) 60 69 (ntmF Tf 69)) (qZ []) (qQ Tf 69 [0,1,0,1]) [0,1,0,1] (Tf.hint 69 (qJ (qQ Tf 69 [0,1,0,1]))) K 60 (hUs k q x 0)=bif (allN (fun i:Nat => !decide (q i=x)) k 0) then (K (.exit 0) ⟨[],[]⟩) else (K .ret ⟨[(4,.v (.b true))],[]⟩):=by
 refine (uU (L:=LFX 60 (cxS Tf (orUs k q x) 60 69 (ntmF Tf 69)) (evX Tf (orUs k q x) 60 69 (ntmF Tf 69)) (qZ []) (qQ Tf 69 [0,1,0,1]) [0,1,0,1] (Tf.hint 69 (qJ (qQ Tf 69 [0,1,0,1]))) K) (stp:=kZ 60 (cxS Tf (orUs k q x) 60 69 (ntmF Tf 69)) (evX Tf (orUs k q x) 60 69 (ntmF Tf 69)) (qZ []) (qQ Tf 69 [0,1,0,1]) [0,1,0,1] (Tf.hint 69 (qJ (qQ Tf 69 [0,1,0,1]))) K) (fun _ _=>rfl) (fun (i:Nat) (_:Unit)=>hUs k q x (i:Int)) (fun _ _=>True) (fun (i:Nat) _ => !decide (q i=x)) (fun _ _=>()) (c:=k) (fun _=>(K (.exit 0) ⟨[],[]⟩)) (fun i _=>(K .ret ⟨[(4,.v (.b true))],[]⟩)) (fun G i f hi _ => ?_) (fun _ _ _ _ _=>trivial) (fun G f _ => ?_) k 0 60 () (by omega) (by omega) trivial).trans ((jQ _ _ _ _ _).trans (uG _ _ _ _ _))
 ·refine (rdUs G K k q x i).trans ?_;rw [vJQ (show (i:Int) < (k:Int) by omega),kG (by omega),yX (show i < k by omega),toN];cases decide (q i=x) <;> rfl
 ·refine (rdUs G K k q x k).trans ?_;rw [vYH (show ¬ (k:Int) < (k:Int) by omega)];rfl
noncomputable def kJK (k:Nat) (q:Nat→Int) (x:Int):List (List Nat × jU):=[([0,1,0,1],sumF (fun _:Unit=>(hUs k q x 0)) (fun _=>()) (fun _ K=>(bif (decide (k≤50)) then (bif (allN (fun i:Nat => !decide (q i=x)) k 0) then (K (.exit 0) ⟨[],[]⟩) else (K .ret ⟨[(4,.v (.b true))],[]⟩)) else none)))]
set_option maxRecDepth 100000 in
theorem xUI (k:Nat) (q:Nat→Int) (x:Int):qQA Tf (orUs k q x) (qZ (kJK k q x)) 60 69 [.lf k (fQ q),.n .i64 x] =
 (bif (gSt (hUs k q x 0) (hUs k q x 0)) then (bif (decide (k≤50)) then (bif (allN (fun i:Nat => !decide (q i=x)) k 0) then some (.v (.b false),[])
 else some (.v (.b true),[]))
 else none)
 else none):=by kernel_rfl
theorem kGA (k:Nat) (q:Nat→Int) (x:Int) (hk:k≤50):yK Tryz.prog 69 [.lf k (fQ q),.n .i64 x] (.v (.b (hasQ q k x))):=by
 refine zG (N:=60) (LO:=qZ (kJK k q x)) kQ zV (kU (l:=[]) (m:=[]) trivial trivial) (fun p S hp => ?_) ?_
 ·refine zW (L:=qQ Tf 69) (l:=(kJK k q x)) (show AllP _ (kJK k q x) from ⟨?_,trivial⟩) p S hp
  ·dsimp only;refine jG (T:=Tf) (o:=(orUs k q x)) (f:=69) (LO:=qZ []) (p:=[0,1,0,1]) kW ?_;intro t K r hr;obtain ⟨hg,hr⟩:=qY hr;have hk:=vJZ hg;exact (lpUs K k q x hk).trans hr
 ·refine (xUI k q x).trans ?_;unfold hasQ;rw [yU,vJQ hk];cases allN (fun i:Nat => !decide (q i=x)) k 0 <;> rfl
def cus:Nat × (Nat→Int) × Int→Prop:=fun t=>match t with | (k,_,_)=>k≤50
def eus:Nat × (Nat→Int) × Int→List PV:=fun t=>match t with | (k,q,x)=>[.lf k (fQ q),.n .i64 x]
noncomputable def rus:Nat × (Nat→Int) × Int→Ret:=fun t=>match t with | (k,q,x)=>.v (.b (hasQ q k x))
def dus:List PV→Nat × (Nat→Int) × Int:=fun ps=>match ps with
 | [.lf k f,.n _ x]=>(k,unFQ f,x)
 | _=>(0,fun _=>0,0)
noncomputable def o_us:List PV→Option (Bool × Ret):=o_fm dus cus eus rus
theorem uGF:zJ Tryz.prog 69 o_us:=qQI fun t h=>by
 obtain ⟨k,q,x⟩:=t;exact kGA k q x h
noncomputable def orMd (_:Wsp) (_ _:Nat) (e:Nat→Int):OrS:=orS [(69,o_us)] [(43,o_nx)]
noncomputable def hMd (ws:Wsp) (no wl:Nat) (e:Nat→Int) (i:Int) (k:Int) (m2:Nat) (r:Nat) (q:Nat→Int):St:=⟨[(2,.p 2 0),(4,.p 4 0),(5,.p 10 0),(6,.p 6 0),(7,.v (.n .i64 i)),(8,.v (.n .i64 k))],[(2,.blk [.v (.lf ws.n (fJ ws.js)),.v (.lf ws.m (fM ws.ms)),.v (.lf ws.c (fS ws.sh)),.v (.lf ws.d (fK ws.sk)),.v (.lf no (fO ws.ob)),.v (.lf ws.np (fZ ws.pl)),.v (.lf ws.nh (fH ws.hd)),.v (.lf ws.ng (fG ws.gr)),.v (.n .i64 ws.slack)]),(4,.blk [.nl]),(6,.blk [.o 57]),(10,.blk [.v (.lf wl (fQ e)),.v (.n .i64 (m2:Int))]),(57,.reg 3 1 (.fo r (fQ q)))]⟩
set_option maxRecDepth 100000 in
theorem rdMd (G:St→Option (Ret × Mem)) (K:Cont) (ws:Wsp) (no wl:Nat) (e:Nat→Int) (i:Int) (k:Int) (m2:Nat) (r:Nat) (q:Nat→Int):kZ 60 (cxS Tf (orMd ws no wl e) 60 22 (ntmF Tf 22)) (evX Tf (orMd ws no wl e) 60 22 (ntmF Tf 22)) (qZ []) (qQ Tf 22 [0,0,1,0,0,1,0,0,1,0,1,1,1]) [0,0,1,0,0,1,0,0,1,0,1,1,1] (Tf.hint 22 (qJ (qQ Tf 22 [0,0,1,0,0,1,0,0,1,0,1,1,1]))) K G (hMd ws no wl e i k m2 r q) =
 (bif (gF1 cus eus (r,q,k)) then (bif (hasQ q r k) then (bif (decide ((vJJ .i64 ((ws.np:Int) + (ws.nh:Int)))=0)) then none
 else (G (hMd ws no wl e i (vJJ .i64 (((vJJ .i64 ((vJJ .i64 (k + 1)) + (ws.nh:Int))).tmod (vJJ .i64 ((ws.np:Int) + (ws.nh:Int)))) - (ws.nh:Int))) m2 r q)))
 else (K (.exit 2) ⟨[(2,.p 2 0),(4,.p 4 0),(5,.p 10 0),(6,.p 6 0),(7,.v (.n .i64 i)),(8,.v (.n .i64 k))],[(2,.blk [.v (.lf ws.n (fJ ws.js)),.v (.lf ws.m (fM ws.ms)),.v (.lf ws.c (fS ws.sh)),.v (.lf ws.d (fK ws.sk)),.v (.lf no (fO ws.ob)),.v (.lf ws.np (fZ ws.pl)),.v (.lf ws.nh (fH ws.hd)),.v (.lf ws.ng (fG ws.gr)),.v (.n .i64 ws.slack)]),(4,.blk [.nl]),(6,.blk [.o 57]),(10,.blk [.v (.lf wl (fQ e)),.v (.n .i64 (m2:Int))]),(57,.reg 3 1 (.fo r (fQ q)))]⟩))
 else none):=by kernel_rfl
def mdK (ws:Wsp) (k:Int):Int:=vJJ .i64 (((vJJ .i64 ((vJJ .i64 (k + 1)) + (ws.nh:Int))).tmod (vJJ .i64 ((ws.np:Int) + (ws.nh:Int)))) - (ws.nh:Int))
def mdS (ws:Wsp) (r:Nat) (q:Nat→Int) (k:Int):Int:=bif hasQ q r k then mdK ws k else k
theorem lpMd (K:Cont) (ws:Wsp) (no wl:Nat) (e:Nat→Int) (i k:Int) (m2 r:Nat) (q:Nat→Int) (h:(r≤50∧¬ vJJ .i64 ((ws.np:Int) + (ws.nh:Int))=0∧hasQ q r (mdS ws r q k)=false)):LFX 60 (cxS Tf (orMd ws no wl e) 60 22 (ntmF Tf 22)) (evX Tf (orMd ws no wl e) 60 22 (ntmF Tf 22)) (qZ []) (qQ Tf 22 [0,0,1,0,0,1,0,0,1,0,1,1,1]) [0,0,1,0,0,1,0,0,1,0,1,1,1] (Tf.hint 22 (qJ (qQ Tf 22 [0,0,1,0,0,1,0,0,1,0,1,1,1]))) K 60 (hMd ws no wl e i k m2 r q)=(K (.exit 2) ⟨[(2,.p 2 0),(4,.p 4 0),(5,.p 10 0),(6,.p 6 0),(7,.v (.n .i64 i)),(8,.v (.n .i64 (mdS ws r q k)))],[(2,.blk [.v (.lf ws.n (fJ ws.js)),.v (.lf ws.m (fM ws.ms)),.v (.lf ws.c (fS ws.sh)),.v (.lf ws.d (fK ws.sk)),.v (.lf no (fO ws.ob)),.v (.lf ws.np (fZ ws.pl)),.v (.lf ws.nh (fH ws.hd)),.v (.lf ws.ng (fG ws.gr)),.v (.n .i64 ws.slack)]),(4,.blk [.nl]),(6,.blk [.o 57]),(10,.blk [.v (.lf wl (fQ e)),.v (.n .i64 (m2:Int))]),(57,.reg 3 1 (.fo r (fQ q)))]⟩):=by
 obtain ⟨hr,hz,hq⟩:=h;refine (rdMd (LFX 60 (cxS Tf (orMd ws no wl e) 60 22 (ntmF Tf 22)) (evX Tf (orMd ws no wl e) 60 22 (ntmF Tf 22)) (qZ []) (qQ Tf 22 [0,0,1,0,0,1,0,0,1,0,1,1,1]) [0,0,1,0,0,1,0,0,1,0,1,1,1] (Tf.hint 22 (qJ (qQ Tf 22 [0,0,1,0,0,1,0,0,1,0,1,1,1]))) K 59) K ws no wl e i k m2 r q).trans ?_;rw [jH (C:=cus) (t:=(r,q,k)) hr,vYV,vYH hz,vYG];unfold mdS at hq ⊢;cases hk:hasQ q r k with
 | false=>rfl
 | true =>
  rw [hk,vYV] at hq;rw [vYV,vYV];refine (rdMd (LFX 60 (cxS Tf (orMd ws no wl e) 60 22 (ntmF Tf 22)) (evX Tf (orMd ws no wl e) 60 22 (ntmF Tf 22)) (qZ []) (qQ Tf 22 [0,0,1,0,0,1,0,0,1,0,1,1,1]) [0,0,1,0,0,1,0,0,1,0,1,1,1] (Tf.hint 22 (qJ (qQ Tf 22 [0,0,1,0,0,1,0,0,1,0,1,1,1]))) K 58) K ws no wl e i (mdK ws k) m2 r q).trans ?_;rw [jH (C:=cus) (t:=(r,q,mdK ws k)) hr,hq];rfl
theorem zYL {q:Nat→Int} {x:Int}:hasQ q 1 x=decide (q 0=x):=by
 show (!((!decide (q 0=x)) && true))=_;cases decide (q 0=x) <;> rfl
def inR (ws:Wsp) (k:Int):Prop:=-(ws.nh:Int)≤k∧k < (ws.np:Int)
theorem jWG {ws:Wsp} {k:Int} (h:inR ws k) (_:ws.nh≤50):inM ws k=true:=by
 unfold inR at h;unfold inM;have e:vJJ .i64 (0 - (ws.nh:Int)) = -(ws.nh:Int):=by rw [zQ (by omega)]; omega
 rw [e,vYH (show ¬ k < -(ws.nh:Int) by omega),vYH (show ¬ (ws.np:Int)≤k by omega)]; rfl
theorem xZK {ws:Wsp} (_:1≤ws.np∧ws.np≤50) (_:1≤ws.nh∧ws.nh≤50) {k:Int} (h:inR ws k):inR ws (mdK ws k)∧mdK ws k ≠ k:=by
 unfold inR at h ⊢;have e:mdK ws k=(k + 1 + (ws.nh:Int)) % ((ws.np:Int) + (ws.nh:Int)) - (ws.nh:Int):=by
  unfold mdK;rw [show vJJ .i64 (k + 1)=k + 1 from zQ (by omega),show vJJ .i64 (k + 1 + (ws.nh:Int))=k + 1 + (ws.nh:Int) from zQ (by omega),show vJJ .i64 ((ws.np:Int) + (ws.nh:Int))=(ws.np:Int) + (ws.nh:Int) from zQ (by omega),Int.tmod_eq_emod_of_nonneg (by omega)];have h1:=Int.emod_nonneg (k + 1 + (ws.nh:Int)) (show (ws.np:Int) + (ws.nh:Int) ≠ 0 by omega);have h2:=Int.emod_lt_of_pos (k + 1 + (ws.nh:Int)) (show (0:Int) < (ws.np:Int) + (ws.nh:Int) by omega);exact zQ (by omega)
 rw [e];by_cases hk:k + 1 + (ws.nh:Int)=(ws.np:Int) + (ws.nh:Int)
 ·rw [hk,Int.emod_self]; omega
 ·rw [Int.emod_eq_of_lt (by omega) (by omega)]; omega
theorem kVG {ws:Wsp} (hp:1≤ws.np∧ws.np≤50) (hh:1≤ws.nh∧ws.nh≤50) {q:Nat→Int} {k:Int} (h:inR ws k):hasQ q 1 (mdS ws 1 q k)=false∧inR ws (mdS ws 1 q k):=by
 have h1:=xZK hp hh h;unfold mdS;rw [zYL,zYL];by_cases e:q 0=k
 ·rw [vJQ e,vYV,vYH (by rw [e]; exact fun h=>h1.2 h.symm)];exact ⟨rfl,h1.1⟩
 ·rw [vYH e,vYG,vYH e];exact ⟨rfl,h⟩
noncomputable def mdA (ws:Wsp) (wl:Nat) (e:Nat→Int):Nat→Int:=(fun v=>(bif (Nat.beq v 0) then (mdS ws 0 (fun _=>0) (vJJ .i64 ((nxV e wl 0 (vJJ .i64 ((ws.np:Int) + (ws.nh:Int)))) - (ws.nh:Int)))) else 0))
noncomputable def mdB (ws:Wsp) (wl:Nat) (e:Nat→Int):Nat→Int:=fun v=>(bif (Nat.beq v 1) then (mdS ws 1 (mdA ws wl e) (vJJ .i64 ((nxV e wl (mA wl 0 1) (vJJ .i64 ((ws.np:Int) + (ws.nh:Int)))) - (ws.nh:Int)))) else mdA ws wl e v)
theorem kin {ws:Wsp} (_:1≤ws.np∧ws.np≤50) (_:1≤ws.nh∧ws.nh≤50) (wl:Nat) (e:Nat→Int) (m:Nat):inR ws (vJJ .i64 ((nxV e wl m (vJJ .i64 ((ws.np:Int) + (ws.nh:Int)))) - (ws.nh:Int))):=by
 have hk:(vJJ .i64 ((ws.np:Int) + (ws.nh:Int)))=(ws.np:Int) + (ws.nh:Int):=zQ (by omega);have b:=qUQ (e:=e) (w:=wl) (m:=m) (k:=(vJJ .i64 ((ws.np:Int) + (ws.nh:Int)))) (by rw [hk]; omega);rw [hk] at b ⊢;unfold inR;rw [zQ (by omega)];omega
noncomputable def yGQ (ws:Wsp) (wl:Nat) (e:Nat→Int):List (List Nat × jU):=[([0,0,1,0,0,1,0,0,1,0,1,1,1],sumF (fun t:Int × Int × Nat × Nat × (Nat→Int)=>(hMd ws 1 wl e t.1 t.2.1 t.2.2.1 t.2.2.2.1 t.2.2.2.2)) (fun σ=>(slI σ 7,slI σ 8,(bkC σ 10 1).toNat,rgN σ 57,unFQ (rgF σ 57))) (fun t K=>(bif (gP (t.2.2.2.1≤50∧¬ vJJ .i64 ((ws.np:Int) + (ws.nh:Int))=0∧hasQ t.2.2.2.2 t.2.2.2.1 (mdS ws t.2.2.2.1 t.2.2.2.2 t.2.1)=false)) then (K (.exit 2) ⟨[(2,.p 2 0),(4,.p 4 0),(5,.p 10 0),(6,.p 6 0),(7,.v (.n .i64 t.1)),(8,.v (.n .i64 (mdS ws t.2.2.2.1 t.2.2.2.2 t.2.1)))],[(2,.blk [.v (.lf ws.n (fJ ws.js)),.v (.lf ws.m (fM ws.ms)),.v (.lf ws.c (fS ws.sh)),.v (.lf ws.d (fK ws.sk)),.v (.lf 1 (fO ws.ob)),.v (.lf ws.np (fZ ws.pl)),.v (.lf ws.nh (fH ws.hd)),.v (.lf ws.ng (fG ws.gr)),.v (.n .i64 ws.slack)]),(4,.blk [.nl]),(6,.blk [.o 57]),(10,.blk [.v (.lf wl (fQ e)),.v (.n .i64 (t.2.2.1:Int))]),(57,.reg 3 1 (.fo t.2.2.2.1 (fQ t.2.2.2.2)))]⟩) else none)))]
set_option maxRecDepth 100000 in
theorem uGK (ws:Wsp) (wl:Nat) (e:Nat→Int):qQA Tf (orMd ws 1 wl e) (qZ (yGQ ws wl e)) 60 22 [.a [.lf ws.n (fJ ws.js),.lf ws.m (fM ws.ms),.lf ws.c (fS ws.sh),.lf ws.d (fK ws.sk),.lf 1 (fO ws.ob),.lf ws.np (fZ ws.pl),.lf ws.nh (fH ws.hd),.lf ws.ng (fG ws.gr),.n .i64 ws.slack],.lf wl (fQ e)] =
 (bif (gB1 cnx hnx enx (wl,0,e,(vJJ .i64 ((ws.np:Int) + (ws.nh:Int))))) then (bif (gSt (hMd ws 1 wl e 0 (vJJ .i64 ((nxV e wl 0 (vJJ .i64 ((ws.np:Int) + (ws.nh:Int)))) - (ws.nh:Int))) (mA wl 0 1) 0 (fun _=>0)) (hMd ws 1 wl e 0 (vJJ .i64 ((nxV e wl 0 (vJJ .i64 ((ws.np:Int) + (ws.nh:Int)))) - (ws.nh:Int))) (mA wl 0 1) 0 (fun _=>0))) then (bif (gP (0≤50∧¬ vJJ .i64 ((ws.np:Int) + (ws.nh:Int))=0∧hasQ (fun _=>0) 0 (mdS ws 0 (fun _=>0) (vJJ .i64 ((nxV e wl 0 (vJJ .i64 ((ws.np:Int) + (ws.nh:Int)))) - (ws.nh:Int))))=false)) then (bif (decide (0 + 1≤1000000)) then some (.v (.a [.lf 1 (fun v=>[.n .i64 (bif (Nat.beq v 0) then (mdS ws 0 (fun _=>0) (vJJ .i64 ((nxV e wl 0 (vJJ .i64 ((ws.np:Int) + (ws.nh:Int)))) - (ws.nh:Int)))) else 0)])]),[])
 else none)
 else none)
 else none)
 else none):=by kernel_rfl
theorem jHF (ws:Wsp) (wl:Nat) (e:Nat→Int) (hw:wl≤9223372036854775807) (hp:1≤ws.np∧ws.np≤50) (hh:1≤ws.nh∧ws.nh≤50):yK Tryz.prog 22 [.a [.lf ws.n (fJ ws.js),.lf ws.m (fM ws.ms),.lf ws.c (fS ws.sh),.lf ws.d (fK ws.sk),.lf 1 (fO ws.ob),.lf ws.np (fZ ws.pl),.lf ws.nh (fH ws.hd),.lf ws.ng (fG ws.gr),.n .i64 ws.slack],.lf wl (fQ e)] (.v (.a [.lf 1 (fQ (mdA ws wl e))])):=by
 refine zG (N:=60) (LO:=qZ (yGQ ws wl e)) kQ zV (kU (l:=[(69,o_us)]) (m:=[(43,o_nx)]) ⟨uGF,trivial⟩ ⟨uYB,trivial⟩) (fun p S hp => ?_) ?_
 ·refine zW (L:=qQ Tf 22) (l:=(yGQ ws wl e)) (show AllP _ (yGQ ws wl e) from ⟨?_,trivial⟩) p S hp
  ·dsimp only;refine jG (T:=Tf) (o:=(orMd ws 1 wl e)) (f:=22) (LO:=qZ []) (p:=[0,0,1,0,0,1,0,0,1,0,1,1,1]) kW ?_;intro t K r hr;obtain ⟨hg,hr⟩:=qY hr
   skip
   exact (lpMd K ws 1 wl e t.1 t.2.1 t.2.2.1 t.2.2.2.1 t.2.2.2.2 (kV hg)).trans hr
 ·refine (uGK ws wl e).trans ?_;have hk:(vJJ .i64 ((ws.np:Int) + (ws.nh:Int)))=(ws.np:Int) + (ws.nh:Int):=zQ (by omega);have h0:0 < (vJJ .i64 ((ws.np:Int) + (ws.nh:Int)))∧(vJJ .i64 ((ws.np:Int) + (ws.nh:Int)))≤9223372036854775807:=by rw [hk]; omega
  have hz:¬ (vJJ .i64 ((ws.np:Int) + (ws.nh:Int)))=0:=by rw [hk]; omega
  have b0:=kin hp hh wl e 0;have b1:=kin hp hh wl e (mA wl 0 1);have g0:∀ (q:Nat→Int) (k:Int),gP (0≤50∧¬ (vJJ .i64 ((ws.np:Int) + (ws.nh:Int)))=0∧hasQ q 0 (mdS ws 0 q k)=false)=true:=fun q k=>qWB ⟨by decide,hz,rfl⟩
  rw [qUX (C:=cnx) (t:=(wl,0,e,(vJJ .i64 ((ws.np:Int) + (ws.nh:Int))))) ⟨Nat.zero_le _,hw,h0.1,h0.2⟩,yU,g0,vYV,vYV,vYV,vJQ (show 0 + 1≤1000000 by decide),vYV];rfl
noncomputable def yVL (ws:Wsp) (wl:Nat) (e:Nat→Int):List (List Nat × jU):=[([0,0,1,0,0,1,0,0,1,0,1,1,1],sumF (fun t:Int × Int × Nat × Nat × (Nat→Int)=>(hMd ws 2 wl e t.1 t.2.1 t.2.2.1 t.2.2.2.1 t.2.2.2.2)) (fun σ=>(slI σ 7,slI σ 8,(bkC σ 10 1).toNat,rgN σ 57,unFQ (rgF σ 57))) (fun t K=>(bif (gP (t.2.2.2.1≤50∧¬ vJJ .i64 ((ws.np:Int) + (ws.nh:Int))=0∧hasQ t.2.2.2.2 t.2.2.2.1 (mdS ws t.2.2.2.1 t.2.2.2.2 t.2.1)=false)) then (K (.exit 2) ⟨[(2,.p 2 0),(4,.p 4 0),(5,.p 10 0),(6,.p 6 0),(7,.v (.n .i64 t.1)),(8,.v (.n .i64 (mdS ws t.2.2.2.1 t.2.2.2.2 t.2.1)))],[(2,.blk [.v (.lf ws.n (fJ ws.js)),.v (.lf ws.m (fM ws.ms)),.v (.lf ws.c (fS ws.sh)),.v (.lf ws.d (fK ws.sk)),.v (.lf 2 (fO ws.ob)),.v (.lf ws.np (fZ ws.pl)),.v (.lf ws.nh (fH ws.hd)),.v (.lf ws.ng (fG ws.gr)),.v (.n .i64 ws.slack)]),(4,.blk [.nl]),(6,.blk [.o 57]),(10,.blk [.v (.lf wl (fQ e)),.v (.n .i64 (t.2.2.1:Int))]),(57,.reg 3 1 (.fo t.2.2.2.1 (fQ t.2.2.2.2)))]⟩) else none)))]
set_option maxRecDepth 100000 in
theorem uGJ (ws:Wsp) (wl:Nat) (e:Nat→Int):qQA Tf (orMd ws 2 wl e) (qZ (yVL ws wl e)) 60 22 [.a [.lf ws.n (fJ ws.js),.lf ws.m (fM ws.ms),.lf ws.c (fS ws.sh),.lf ws.d (fK ws.sk),.lf 2 (fO ws.ob),.lf ws.np (fZ ws.pl),.lf ws.nh (fH ws.hd),.lf ws.ng (fG ws.gr),.n .i64 ws.slack],.lf wl (fQ e)] =
 (bif (gB1 cnx hnx enx (wl,0,e,(vJJ .i64 ((ws.np:Int) + (ws.nh:Int))))) then (bif (gSt (hMd ws 2 wl e 0 (vJJ .i64 ((nxV e wl 0 (vJJ .i64 ((ws.np:Int) + (ws.nh:Int)))) - (ws.nh:Int))) (mA wl 0 1) 0 (fun _=>0)) (hMd ws 2 wl e 0 (vJJ .i64 ((nxV e wl 0 (vJJ .i64 ((ws.np:Int) + (ws.nh:Int)))) - (ws.nh:Int))) (mA wl 0 1) 0 (fun _=>0))) then (bif (gP (0≤50∧¬ vJJ .i64 ((ws.np:Int) + (ws.nh:Int))=0∧hasQ (fun _=>0) 0 (mdS ws 0 (fun _=>0) (vJJ .i64 ((nxV e wl 0 (vJJ .i64 ((ws.np:Int) + (ws.nh:Int)))) - (ws.nh:Int))))=false)) then (bif (decide (0 + 1≤1000000)) then (bif (gB1 cnx hnx enx (wl,(mA wl 0 1),e,(vJJ .i64 ((ws.np:Int) + (ws.nh:Int))))) then (bif (gSt (hMd ws 2 wl e 1 (vJJ .i64 ((nxV e wl (mA wl 0 1) (vJJ .i64 ((ws.np:Int) + (ws.nh:Int)))) - (ws.nh:Int))) (mA wl 0 2) 1 (fun v=>(bif (Nat.beq v 0) then (mdS ws 0 (fun _=>0) (vJJ .i64 ((nxV e wl 0 (vJJ .i64 ((ws.np:Int) + (ws.nh:Int)))) - (ws.nh:Int)))) else 0))) (hMd ws 2 wl e 1 (vJJ .i64 ((nxV e wl (mA wl 0 1) (vJJ .i64 ((ws.np:Int) + (ws.nh:Int)))) - (ws.nh:Int))) (mA wl 0 2) 1 (fun v=>(bif (Nat.beq v 0) then (mdS ws 0 (fun _=>0) (vJJ .i64 ((nxV e wl 0 (vJJ .i64 ((ws.np:Int) + (ws.nh:Int)))) - (ws.nh:Int)))) else 0)))) then (bif (gP (1≤50∧¬ vJJ .i64 ((ws.np:Int) + (ws.nh:Int))=0∧hasQ (fun v=>(bif (Nat.beq v 0) then (mdS ws 0 (fun _=>0) (vJJ .i64 ((nxV e wl 0 (vJJ .i64 ((ws.np:Int) + (ws.nh:Int)))) - (ws.nh:Int)))) else 0)) 1 (mdS ws 1 (fun v=>(bif (Nat.beq v 0) then (mdS ws 0 (fun _=>0) (vJJ .i64 ((nxV e wl 0 (vJJ .i64 ((ws.np:Int) + (ws.nh:Int)))) - (ws.nh:Int)))) else 0)) (vJJ .i64 ((nxV e wl (mA wl 0 1) (vJJ .i64 ((ws.np:Int) + (ws.nh:Int)))) - (ws.nh:Int))))=false)) then (bif (decide (1 + 1≤1000000)) then some (.v (.a [.lf 2 (fun v=>[.n .i64 (bif (Nat.beq v 1) then (mdS ws 1 (fun v=>(bif (Nat.beq v 0) then (mdS ws 0 (fun _=>0) (vJJ .i64 ((nxV e wl 0 (vJJ .i64 ((ws.np:Int) + (ws.nh:Int)))) - (ws.nh:Int)))) else 0)) (vJJ .i64 ((nxV e wl (mA wl 0 1) (vJJ .i64 ((ws.np:Int) + (ws.nh:Int)))) - (ws.nh:Int)))) else (bif (Nat.beq v 0) then (mdS ws 0 (fun _=>0) (vJJ .i64 ((nxV e wl 0 (vJJ .i64 ((ws.np:Int) + (ws.nh:Int)))) - (ws.nh:Int)))) else 0))])]),[])
 else none)
 else none)
 else none)
 else none)
 else none)
 else none)
 else none)
 else none):=by kernel_rfl
theorem jHE (ws:Wsp) (wl:Nat) (e:Nat→Int) (hw:wl≤9223372036854775807) (hp:1≤ws.np∧ws.np≤50) (hh:1≤ws.nh∧ws.nh≤50):yK Tryz.prog 22 [.a [.lf ws.n (fJ ws.js),.lf ws.m (fM ws.ms),.lf ws.c (fS ws.sh),.lf ws.d (fK ws.sk),.lf 2 (fO ws.ob),.lf ws.np (fZ ws.pl),.lf ws.nh (fH ws.hd),.lf ws.ng (fG ws.gr),.n .i64 ws.slack],.lf wl (fQ e)] (.v (.a [.lf 2 (fQ (mdB ws wl e))])):=by
 refine zG (N:=60) (LO:=qZ (yVL ws wl e)) kQ zV (kU (l:=[(69,o_us)]) (m:=[(43,o_nx)]) ⟨uGF,trivial⟩ ⟨uYB,trivial⟩) (fun p S hp => ?_) ?_
 ·refine zW (L:=qQ Tf 22) (l:=(yVL ws wl e)) (show AllP _ (yVL ws wl e) from ⟨?_,trivial⟩) p S hp
  ·dsimp only;refine jG (T:=Tf) (o:=(orMd ws 2 wl e)) (f:=22) (LO:=qZ []) (p:=[0,0,1,0,0,1,0,0,1,0,1,1,1]) kW ?_;intro t K r hr;obtain ⟨hg,hr⟩:=qY hr
   skip
   exact (lpMd K ws 2 wl e t.1 t.2.1 t.2.2.1 t.2.2.2.1 t.2.2.2.2 (kV hg)).trans hr
 ·refine (uGJ ws wl e).trans ?_;have hk:(vJJ .i64 ((ws.np:Int) + (ws.nh:Int)))=(ws.np:Int) + (ws.nh:Int):=zQ (by omega);have h0:0 < (vJJ .i64 ((ws.np:Int) + (ws.nh:Int)))∧(vJJ .i64 ((ws.np:Int) + (ws.nh:Int)))≤9223372036854775807:=by rw [hk]; omega
  have hz:¬ (vJJ .i64 ((ws.np:Int) + (ws.nh:Int)))=0:=by rw [hk]; omega
  have b0:=kin hp hh wl e 0;have b1:=kin hp hh wl e (mA wl 0 1);have g0:∀ (q:Nat→Int) (k:Int),gP (0≤50∧¬ (vJJ .i64 ((ws.np:Int) + (ws.nh:Int)))=0∧hasQ q 0 (mdS ws 0 q k)=false)=true:=fun q k=>qWB ⟨by decide,hz,rfl⟩
  rw [qUX (C:=cnx) (t:=(wl,0,e,(vJJ .i64 ((ws.np:Int) + (ws.nh:Int))))) ⟨Nat.zero_le _,hw,h0.1,h0.2⟩,yU,g0,vYV,vYV,vYV,vJQ (show 0 + 1≤1000000 by decide),vYV];have h1:=kVG hp hh (q:=mdA ws wl e) b1;have g1:gP (1≤50∧¬ (vJJ .i64 ((ws.np:Int) + (ws.nh:Int)))=0∧hasQ (fun v=>(bif (Nat.beq v 0) then (mdS ws 0 (fun _=>0) (vJJ .i64 ((nxV e wl 0 (vJJ .i64 ((ws.np:Int) + (ws.nh:Int)))) - (ws.nh:Int)))) else 0)) 1 (mdS ws 1 (fun v=>(bif (Nat.beq v 0) then (mdS ws 0 (fun _=>0) (vJJ .i64 ((nxV e wl 0 (vJJ .i64 ((ws.np:Int) + (ws.nh:Int)))) - (ws.nh:Int)))) else 0)) (vJJ .i64 ((nxV e wl (mA wl 0 1) (vJJ .i64 ((ws.np:Int) + (ws.nh:Int)))) - (ws.nh:Int))))=false)=true:=qWB ⟨by decide,hz,h1.1⟩;rw [qUX (C:=cnx) (t:=(wl,mA wl 0 1,e,(vJJ .i64 ((ws.np:Int) + (ws.nh:Int))))) ⟨qZI (Nat.zero_le _) 1,hw,h0.1,h0.2⟩,yU,g1,vYV,vYV,vYV,vJQ (show 1 + 1≤1000000 by decide),vYV];rfl
theorem uJD {ws:Wsp} (h:MadeW ws) (wl:Nat) (e:Nat→Int) (hw:wl≤9223372036854775807):∃ q:Nat→Int,vlB ws ws.no q=true∧yK Tryz.prog 22 [.a (wP ws),.lf wl (fQ e)] (.v (.a [.lf ws.no (fQ q)])):=by
 have hp:1≤ws.np∧ws.np≤50:=by have:=h.np; omega
 have hh:1≤ws.nh∧ws.nh≤50:=by have:=h.nh; omega
 have b0:=kin hp hh wl e 0;have b1:=kin hp hh wl e (mA wl 0 1);have hok:=uJE h;have hn:=h.no;by_cases hc:ws.no=1
 ·refine ⟨mdA ws wl e,?_,?_⟩
  ·unfold vlB;rw [hok,hc];show (mdG ws (mdA ws wl e) 0 && true)=true;unfold mdG;rw [show mdA ws wl e 0=vJJ .i64 ((nxV e wl 0 (vJJ .i64 ((ws.np:Int) + (ws.nh:Int)))) - (ws.nh:Int)) from rfl,jWG b0 (by omega)];rfl
  ·have:=jHF ws wl e hw hp hh
   unfold wP;rw [hc];exact this
 ·have hc2:ws.no=2:=by omega
  refine ⟨mdB ws wl e,?_,?_⟩
  ·have h1:=kVG hp hh (q:=mdA ws wl e) b1;unfold vlB;rw [hok,hc2];show (mdG ws (mdB ws wl e) 0 && (mdG ws (mdB ws wl e) 1 && true))=true;unfold mdG;rw [show mdB ws wl e 0=vJJ .i64 ((nxV e wl 0 (vJJ .i64 ((ws.np:Int) + (ws.nh:Int)))) - (ws.nh:Int)) from rfl,jWG b0 (by omega),show mdB ws wl e 1=mdS ws 1 (mdA ws wl e) (vJJ .i64 ((nxV e wl (mA wl 0 1) (vJJ .i64 ((ws.np:Int) + (ws.nh:Int)))) - (ws.nh:Int))) from rfl,jWG h1.2 (by omega)];have h2:hasQ (mdB ws wl e) 1 (mdS ws 1 (mdA ws wl e) (vJJ .i64 ((nxV e wl (mA wl 0 1) (vJJ .i64 ((ws.np:Int) + (ws.nh:Int)))) - (ws.nh:Int))))=false:=by
    rw [zYL];have h3:=h1.1;rw [zYL] at h3;exact h3
   rw [h2];rfl
  ·have:=jHE ws wl e hw hp hh
   unfold wP;rw [hc2];exact this
end Go.Proofs.YtmeldddgjfocdaaGreat.Hn
namespace Go.Proofs.YtmeldddgjfocdaaGreat.Ho
open Go.Rx Rt Go.Sx Go.RowKit Od Na Nb Nc Nx Nf Nl Nm Ga Gb Gc Gd Ge Gf Gg Sn Ha Hb Hc Hd He Hf Hg Hh Hi Hj Hk Hm Hn
def grQ (ws:Wsp) (k x y:Int):Nat→Int:=bif (decide (0 < (ws.ng:Int)) && decide (0 < (andI .i64 k 3))) then (fun v=>(bif (Nat.beq v 0) then (max 0 (min 64 (vJJ .i64 (((ws.gr ((k % (ws.ng:Int))).toNat).cf 0) + (vJJ .i64 ((x % 5) - 2)))))) else (max 0 (min 64 (vJJ .i64 (((ws.gr ((k % (ws.ng:Int))).toNat).cf 1) + (vJJ .i64 ((y % 5) - 2)))))))) else (fun v=>(bif (Nat.beq v 0) then (x % 65) else (y % 65)))
noncomputable def xVV (_:Wsp) (k x y:Int):OrS:=orS [(23,o_rn)] []
noncomputable def kKH (_:Wsp) (k x y:Int):List (List Nat × jU):=[]
set_option maxRecDepth 100000 in
theorem xWX (ws:Wsp) (k x y:Int):qQA Tf (xVV ws k x y) (qZ (kKH ws k x y)) 60 29 [.a (wP ws),.n .i64 k,.n .i64 x,.n .i64 y] =
 (bif (gF1 crn ern (x,65)) then (bif (gF1 crn ern (y,65)) then (bif (decide (0 < (ws.ng:Int))) then (bif (decide (0 < (andI .i64 k 3))) then (bif (gF1 crn ern (k,(ws.ng:Int))) then (bif (inB (k % (ws.ng:Int)) ws.ng) then (bif (inB 0 (ws.gr ((k % (ws.ng:Int))).toNat).na) then (bif (gF1 crn ern (x,5)) then (bif (inB 1 (ws.gr ((k % (ws.ng:Int))).toNat).na) then (bif (gF1 crn ern (y,5)) then some (.ow 2 1 (.fo 2 (fun v=>[.n .i64 (bif (Nat.beq v 0) then (max 0 (min 64 (vJJ .i64 (((ws.gr ((k % (ws.ng:Int))).toNat).cf 0) + (vJJ .i64 ((x % 5) - 2)))))) else (max 0 (min 64 (vJJ .i64 (((ws.gr ((k % (ws.ng:Int))).toNat).cf 1) + (vJJ .i64 ((y % 5) - 2)))))))])),[])
 else none)
 else none)
 else none)
 else none)
 else none)
 else none)
 else some (.ow 2 1 (.fo 2 (fun v=>[.n .i64 (bif (Nat.beq v 0) then (x % 65) else (y % 65))])),[]))
 else some (.ow 2 1 (.fo 2 (fun v=>[.n .i64 (bif (Nat.beq v 0) then (x % 65) else (y % 65))])),[]))
 else none)
 else none):=by kernel_rfl
theorem uQX (ws:Wsp) (k x y:Int) (hg:∀ i,i < ws.ng→(ws.gr i).na=2) (_:ws.ng≤9223372036854775807):yK Tryz.prog 29 [.a (wP ws),.n .i64 k,.n .i64 x,.n .i64 y] (.ow 2 1 (.fo 2 (fQ (grQ ws k x y)))):=by
 refine zG (N:=60) (LO:=qZ (kKH ws k x y)) kQ zV (kU (l:=[(23,o_rn)]) (m:=[]) ⟨Sn.ok_rn,trivial⟩ trivial) (fun p S hp => ?_) ?_
 ·refine zW (L:=qQ Tf 29) (l:=(kKH ws k x y)) (show AllP _ (kKH ws k x y) from trivial) p S hp
 ·refine (xWX ws k x y).trans ?_;unfold grQ;rw [jH (C:=crn) (t:=(x,65)) ⟨by decide,by decide⟩,jH (C:=crn) (t:=(y,65)) ⟨by decide,by decide⟩,vYV,vYV];by_cases h:0 < (ws.ng:Int)
  ·rw [vJQ h];cases hk:decide (0 < (andI .i64 k 3)) with
   | false=>rfl
   | true =>
    have h1:=Int.emod_nonneg k (show (ws.ng:Int) ≠ 0 by omega);have h2:=Int.emod_lt_of_pos k h;have h3:=hg (k % (ws.ng:Int)).toNat (by omega);have h4:inB (k % (ws.ng:Int)) ws.ng=true:=by
     have e:k % (ws.ng:Int)=(((k % (ws.ng:Int)).toNat:Nat):Int):=by omega
     rw [e]; exact yX (by omega)
    rw [jH (C:=crn) (t:=(k,(ws.ng:Int))) ⟨h,by omega⟩,h4,h3,jH (C:=crn) (t:=(x,5)) ⟨by decide,by decide⟩,jH (C:=crn) (t:=(y,5)) ⟨by decide,by decide⟩];rfl
  ·rw [vYH h];rfl
theorem xZF {ws:Wsp} (h:MadeW ws) (k x y:Int):yK Tryz.prog 29 [.a (wP ws),.n .i64 k,.n .i64 x,.n .i64 y] (.v (.lf 2 (fQ (grQ ws k x y)))) :=
 yWI (uQX ws k x y (fun i hi=>(h.gr i hi).2.2.1) (by have:=h.ng; omega))
theorem kWE (x k H R:Int) (h:(0 < k∧k≤9223372036854775807)∧(k=9→x % 9=H)∧(k=3→x % 3=R)):yK Tryz.prog 23 [.n .i64 x,.n .i64 k] (.v (.n .i64 (bif decide (k=9) then H else bif decide (k=3) then R else x % k))):=by
 have e:(bif decide (k=9) then H else bif decide (k=3) then R else x % k)=x % k:=by
  by_cases h9:k=9
  ·rw [vJQ h9,vYV,h9]; exact (h.2.1 h9).symm
  ·rw [vYH h9,vYG];by_cases h3:k=3
   ·rw [vJQ h3,vYV,h3]; exact (h.2.2 h3).symm
   ·rw [vYH h3,vYG]
 rw [e]; exact jYI x k h.1
end Go.Proofs.YtmeldddgjfocdaaGreat.Ho
namespace Go.Proofs.YtmeldddgjfocdaaGreat.Hv
open Go.Rx Rt Go.Sx Go.RowKit Od Na Nb Nc Nx Nf Nl Nm Ga Gb Gc Gd Ge Gf Gg Ha Hb Hc Hd He Hf Hg
theorem qGZ {q:Nat→Int} {k:Nat} {x:Int} (h:hasQ q k x=false) {i:Nat} (hi:i < k):q i ≠ x:=fun e=>by
 rw [hasQ_iff.2 ⟨i,hi,e⟩] at h; cases h
theorem zKL {q:Nat→Int} {k:Nat} {x:Int} (h:∀ i,i < k→q i ≠ x):hasQ q k x=false:=by
 cases hc:hasQ q k x with
 | false=>rfl
 | true=>obtain ⟨i,hi,e⟩:=hasQ_iff.1 hc; exact absurd e (h i hi)
theorem jYK {ws:Wsp} {k:Nat} {q:Nat→Int} (h:vlB ws k q=true):wErr ws=0∧(k:Int)=(ws.no:Int)∧∀ i,i < k→inM ws (q i)=true∧hasQ q i (q i)=false:=by
 unfold vlB at h;simp only [vQJ,decide_eq_true_eq] at h;refine ⟨h.1,h.2.1,fun i hi => ?_⟩
 have:=allN_iff.1 h.2.2 i (Nat.zero_le _) (by omega)
 unfold mdG at this
 simpa using this
theorem uWZ {ws:Wsp} {k:Nat} {q:Nat→Int} (h1:wErr ws=0) (h2:(k:Int)=(ws.no:Int)) (h3:∀ i,i < k→inM ws (q i)=true∧hasQ q i (q i)=false):vlB ws k q=true:=by
 unfold vlB;rw [vJQ h1,vJQ h2,vZH,vZH];refine allN_iff.2 fun i _ hi => ?_
 have:=h3 i (by omega)
 unfold mdG;rw [this.1,this.2]; rfl
theorem jYJ {ws:Wsp} {k:Nat} {q:Nat→Int} (h:vlB ws k q=true) {i j:Nat} (hi:i < k) (hj:j < k) (e:q i=q j):i=j:=by
 have a:=(jYK h).2.2;rcases Nat.lt_trichotomy i j with h | h | h
 ·exact absurd e (qGZ (a j hj).2 h)
 ·exact h
 ·exact absurd e.symm (qGZ (a i hi).2 h)
theorem kVV {q:Nat→Int} {k:Nat} {x y:Int} (h:hasQ q k x=true):∃ i,i < k∧q i=x∧∀ v,mvQ q k x y v=if v=i then y else q v:=by
 obtain ⟨i,h1,h2,h3⟩:=qKD h;refine ⟨i,h1,h3,fun v => ?_⟩;unfold mvQ;rw [h2];show (bif Nat.beq v i then y else q v)=_;by_cases e:v=i
 ·rw [if_pos e,show Nat.beq v i=true from by rw [Nat.beq_eq]; exact e]; rfl
 ·rw [if_neg e,show Nat.beq v i=false from by rw [Bool.eq_false_iff,ne_eq,Nat.beq_eq]; exact e]; rfl
theorem xZQ {ws:Wsp} {k:Nat} {q:Nat→Int} {x y:Int} (hv:vlB ws k q=true) (hc:mvC q k x y=true) (hy:inM ws y=true) :
  vlB ws k (mvQ q k x y)=true∧mvC (mvQ q k x y) k y x=true∧(∀ v,v < k→mvQ (mvQ q k x y) k y x v=q v)∧∃ v,v < k∧mvQ q k x y v ≠ q v:=by
 unfold mvC at hc;rw [vQJ,Bool.not_eq_true'] at hc;obtain ⟨c1,c2⟩:=hc;obtain ⟨i,hi,hx,hm⟩:=kVV (y:=y) c1;have hxy:x ≠ y:=fun e=>qGZ c2 hi (hx.trans e)
 obtain ⟨a1,a2,a3⟩:=jYK hv;have hiy:mvQ q k x y i=y:=by rw [hm,if_pos rfl]
 have d1:hasQ (mvQ q k x y) k y=true:=hasQ_iff.2 ⟨i,hi,hiy⟩;have d2:hasQ (mvQ q k x y) k x=false:=zKL fun j hj e=>by
  rw [hm] at e;by_cases hji:j=i
  ·rw [if_pos hji] at e; exact hxy e.symm
  ·rw [if_neg hji] at e; exact hji (jYJ hv hj hi (e.trans hx.symm))
 refine ⟨uWZ a1 a2 fun j hj=>⟨?_,zKL fun l hl e => ?_⟩,?_,fun v hv' => ?_,⟨i,hi,?_⟩⟩
 ·rw [hm];by_cases hji:j=i
  ·rw [if_pos hji]; exact hy
  ·rw [if_neg hji]; exact (a3 j hj).1
 ·rw [hm,hm] at e;by_cases hli:l=i
  ·rw [if_pos hli] at e;by_cases hji:j=i
   ·omega
   ·rw [if_neg hji] at e; exact qGZ c2 hj e.symm
  ·rw [if_neg hli] at e;by_cases hji:j=i
   ·rw [if_pos hji] at e; exact qGZ c2 (by omega) e
   ·rw [if_neg hji] at e
    have:=jYJ hv (by omega) hj e
    omega
 ·unfold mvC;rw [d1,d2]; rfl
 ·obtain ⟨i2,hi2,hx2,hm2⟩:=kVV (y:=x) d1;have e2:i2=i:=by
   rw [hm] at hx2;by_cases hc:i2=i
   ·exact hc
   ·rw [if_neg hc] at hx2; exact absurd hx2 (qGZ c2 hi2)
  rw [hm2,e2];by_cases hvi:v=i
  ·rw [if_pos hvi,hvi,hx]
  ·rw [if_neg hvi,hm,if_neg hvi]
 ·rw [hiy]; exact fun e=>hxy (hx.symm.trans e.symm)
theorem zWK {q q':Nat→Int} {k:Nat} {x:Int} (h:∀ v,v < k→q v=q' v):hasQ q k x=hasQ q' k x:=by
 cases hc:hasQ q' k x with
 | false=>exact zKL fun i hi e=>qGZ hc hi (by rw [← h i hi]; exact e)
 | true=>obtain ⟨i,hi,e⟩:=hasQ_iff.1 hc; exact hasQ_iff.2 ⟨i,hi,(h i hi).trans e⟩
theorem jGF {ws:Wsp} {q q':Nat→Int} {k:Nat} (h:∀ v,v < k→q v=q' v) (hv:vlB ws k q'=true):vlB ws k q=true:=by
 obtain ⟨a1,a2,a3⟩:=jYK hv;refine uWZ a1 a2 fun i hi => ?_
 rw [h i hi,zWK (q':=q') fun v hv=>h v (by omega)];exact a3 i hi
noncomputable def orSn (k:Nat) (q _:Nat→Int):OrS:=orS [] []
noncomputable def hSn (k:Nat) (q q9:Nat→Int) (i:Int):St:=⟨[(0,.v (.lf k (fQ q))),(1,.v (.lf k (fQ q9))),(5,.v (.n .i64 i))],[]⟩
set_option maxRecDepth 100000 in
theorem rdSn (G:St→Option (Ret × Mem)) (K:Cont) (k:Nat) (q q9:Nat→Int) (i:Int):kZ 60 (cxS Tf (orSn k q q9) 60 35 (ntmF Tf 35)) (evX Tf (orSn k q q9) 60 35 (ntmF Tf 35)) (qZ []) (qQ Tf 35 [0,1,0,1,1]) [0,1,0,1,1] (Tf.hint 35 (qJ (qQ Tf 35 [0,1,0,1,1]))) K G (hSn k q q9 i) =
 (bif (decide (i < (k:Int))) then (bif (inB i k) then (bif (inB i k) then (bif (!decide ((q (i).toNat)=(q9 (i).toNat))) then (K .ret ⟨[(4,.v (.b false))],[]⟩)
 else (G (hSn k q q9 (vJJ .i64 (i + 1)))))
 else none)
 else none)
 else (K (.exit 0) ⟨[],[]⟩)):=by kernel_rfl
theorem lpSn (K:Cont) (k:Nat) (q q9:Nat→Int) (_:k≤50):LFX 60 (cxS Tf (orSn k q q9) 60 35 (ntmF Tf 35)) (evX Tf (orSn k q q9) 60 35 (ntmF Tf 35)) (qZ []) (qQ Tf 35 [0,1,0,1,1]) [0,1,0,1,1] (Tf.hint 35 (qJ (qQ Tf 35 [0,1,0,1,1]))) K 60 (hSn k q q9 0)=bif (allN (fun i:Nat=>decide (q i=q9 i)) k 0) then (K (.exit 0) ⟨[],[]⟩) else (K .ret ⟨[(4,.v (.b false))],[]⟩):=by
 refine (uU (L:=LFX 60 (cxS Tf (orSn k q q9) 60 35 (ntmF Tf 35)) (evX Tf (orSn k q q9) 60 35 (ntmF Tf 35)) (qZ []) (qQ Tf 35 [0,1,0,1,1]) [0,1,0,1,1] (Tf.hint 35 (qJ (qQ Tf 35 [0,1,0,1,1]))) K) (stp:=kZ 60 (cxS Tf (orSn k q q9) 60 35 (ntmF Tf 35)) (evX Tf (orSn k q q9) 60 35 (ntmF Tf 35)) (qZ []) (qQ Tf 35 [0,1,0,1,1]) [0,1,0,1,1] (Tf.hint 35 (qJ (qQ Tf 35 [0,1,0,1,1]))) K) (fun _ _=>rfl) (fun (i:Nat) (_:Unit)=>hSn k q q9 (i:Int)) (fun _ _=>True) (fun (i:Nat) _=>decide (q i=q9 i)) (fun _ _=>()) (c:=k) (fun _=>(K (.exit 0) ⟨[],[]⟩)) (fun i _=>(K .ret ⟨[(4,.v (.b false))],[]⟩)) (fun G i f hi _ => ?_) (fun _ _ _ _ _=>trivial) (fun G f _ => ?_) k 0 60 () (by omega) (by omega) trivial).trans ((jQ _ _ _ _ _).trans (yH _ _ _ _ _))
 ·refine (rdSn G K k q q9 i).trans ?_;rw [vJQ (show (i:Int) < (k:Int) by omega),kG (by omega),yX (show i < k by omega),toN];cases decide (q i=q9 i) <;> rfl
 ·refine (rdSn G K k q q9 k).trans ?_;rw [vYH (show ¬ (k:Int) < (k:Int) by omega)];rfl
noncomputable def kJW (k:Nat) (q q9:Nat→Int):List (List Nat × jU):=[([0,1,0,1,1],sumF (fun _:Unit=>(hSn k q q9 0)) (fun _=>()) (fun _ K=>(bif (decide (k≤50)) then (bif (allN (fun i:Nat=>decide (q i=q9 i)) k 0) then (K (.exit 0) ⟨[],[]⟩) else (K .ret ⟨[(4,.v (.b false))],[]⟩)) else none)))]
set_option maxRecDepth 100000 in
theorem xXZ (k:Nat) (q q9:Nat→Int):qQA Tf (orSn k q q9) (qZ (kJW k q q9)) 60 35 [.lf k (fQ q),.lf k (fQ q9)] =
 (bif (!decide ((k:Int)=(k:Int))) then some (.v (.b false),[])
 else (bif (gSt (hSn k q q9 0) (hSn k q q9 0)) then (bif (decide (k≤50)) then (bif (allN (fun i:Nat=>decide (q i=q9 i)) k 0) then some (.v (.b true),[])
 else some (.v (.b false),[]))
 else none)
 else none)):=by kernel_rfl
theorem kGD (k:Nat) (q q9:Nat→Int) (hk:k≤50):yK Tryz.prog 35 [.lf k (fQ q),.lf k (fQ q9)] (.v (.b (allN (fun i:Nat=>decide (q i=q9 i)) k 0))):=by
 refine zG (N:=60) (LO:=qZ (kJW k q q9)) kQ zV (kU (l:=[]) (m:=[]) trivial trivial) (fun p S hp => ?_) ?_
 ·refine zW (L:=qQ Tf 35) (l:=(kJW k q q9)) (show AllP _ (kJW k q q9) from ⟨?_,trivial⟩) p S hp
  ·dsimp only;refine jG (T:=Tf) (o:=(orSn k q q9)) (f:=35) (LO:=qZ []) (p:=[0,1,0,1,1]) kW ?_;intro t K r hr;obtain ⟨hg,hr⟩:=qY hr;have hk:=vJZ hg;exact (lpSn K k q q9 hk).trans hr
 ·refine (xXZ k q q9).trans ?_;rw [vJQ (show (k:Int)=(k:Int) from rfl),yU,vJQ hk];cases allN (fun i:Nat=>decide (q i=q9 i)) k 0 <;> rfl
theorem uVQ {k:Nat} {q q9:Nat→Int} (h:∀ v,v < k→q v=q9 v):allN (fun i:Nat=>decide (q i=q9 i)) k 0=true:=allN_iff.2 fun i _ hi=>vJQ (h i (by omega))
theorem xUK {k:Nat} {q q9:Nat→Int} (h:∃ v,v < k∧q v ≠ q9 v):allN (fun i:Nat=>decide (q i=q9 i)) k 0=false:=by
 obtain ⟨v,hv,hn⟩:=h;cases hc:allN (fun i:Nat=>decide (q i=q9 i)) k 0 with
 | false=>rfl
 | true=>exact absurd (vJZ (allN_iff.1 hc v (Nat.zero_le _) (by omega))) hn
theorem fZE {ws:Wsp} {a b:Int} {k:Nat} {q:Nat→Int} (h:atB ws a b k q=true):wErr ws=0∧(0≤a∧a < (ws.nh:Int))∧0≤b∧b < (ws.np:Int):=by
 unfold atB knB at h;simp only [vQJ,decide_eq_true_eq] at h;obtain ⟨h1,⟨h2,h3,h4,h5⟩,_⟩:=h;exact ⟨h1,⟨h2,h3⟩,h4,h5⟩
theorem uZU {ws:Wsp} {k:Nat} {q:Nat→Int} {k2:Nat} {q2:Nat→Int} {a b:Int} (_:ws.nh≤50) (_:ws.np≤50) (h:tkC ws k q k2 q2 a b b (vJJ .i64 ((-1) - a))=true) :
  tkC ws k (mvQ q k b (vJJ .i64 ((-1) - a))) k2 q2 a b (vJJ .i64 ((-1) - a)) b=true∧(∀ p,tkC ws k (mvQ q k b (vJJ .i64 ((-1) - a))) k2 q2 a p p (vJJ .i64 ((-1) - a))=false) ∧
  tkC ws k (mvQ (mvQ q k b (vJJ .i64 ((-1) - a))) k (vJJ .i64 ((-1) - a)) b) k2 q2 a b (vJJ .i64 ((-1) - a)) b=false∧vlB ws k (mvQ q k b (vJJ .i64 ((-1) - a)))=true ∧
  vlB ws k (mvQ (mvQ q k b (vJJ .i64 ((-1) - a))) k (vJJ .i64 ((-1) - a)) b)=true∧(∀ v,v < k→mvQ (mvQ q k b (vJJ .i64 ((-1) - a))) k (vJJ .i64 ((-1) - a)) b v=q v)∧∃ v,v < k∧mvQ q k b (vJJ .i64 ((-1) - a)) v ≠ q v:=by
 unfold tkC at h;rw [vQJ,vQJ] at h;obtain ⟨hv,hat,hc⟩:=h;obtain ⟨_,ha,hb⟩:=fZE hat;have e:vJJ .i64 ((-1) - a) = -1 - a:=zQ (by omega);have hy:inM ws (vJJ .i64 ((-1) - a))=true:=by
  unfold inM;have e0:vJJ .i64 (0 - (ws.nh:Int)) = -(ws.nh:Int):=by rw [zQ (by omega)]; omega
  rw [e0,e,vYH (show ¬ -1 - a < -(ws.nh:Int) by omega),vYH (show ¬ (ws.np:Int) ≤ -1 - a by omega)]; rfl
 obtain ⟨m1,m2,m3,m4⟩:=xZQ hv hc hy;have c:=hc;unfold mvC at c;rw [vQJ,Bool.not_eq_true'] at c;have c2:=m2;unfold mvC at c2;rw [vQJ,Bool.not_eq_true'] at c2;refine ⟨?_,fun p => ?_,?_,m1,jGF m3 hv,m3,m4⟩
 ·unfold tkC;rw [m1,hat,m2]; rfl
 ·unfold tkC mvC;rw [c2.1,Bool.not_true,Bool.and_false,Bool.and_false,Bool.and_false]
 ·unfold tkC mvC;rw [zWK m3,c.2,Bool.false_and,Bool.and_false,Bool.and_false]
end Go.Proofs.YtmeldddgjfocdaaGreat.Hv
namespace Go.Proofs.YtmeldddgjfocdaaGreat.Hy
open Go.Rx Rt Go.Sx Go.RowKit Od Na Nb Nc Nx Nf Nl Nm Ga Gb Gc Gd Ge Gf Gg Sn Ha Hb Hc Hd He Hf Hg Hh Hi Hj Hk Hm Hn Ho Hv
theorem yGW {τ:Type} {C:τ→Prop} {enc:τ→List PV} {t:τ} {ps:List PV} (h:C t) (e:ps=enc t):gFam C enc t ps=true:=qWB ⟨h,e⟩
def csn9:Nat × (Nat→Int) × (Nat→Int)→Prop:=fun t=>match t with | (k,_,_)=>k≤50
def esn9:Nat × (Nat→Int) × (Nat→Int)→List PV:=fun t=>match t with | (k,q,q9)=>[.lf k (fQ q),.lf k (fQ q9)]
noncomputable def rsn9:Nat × (Nat→Int) × (Nat→Int)→Ret:=fun t=>match t with | (k,q,q9)=>.v (.b (allN (fun i:Nat=>decide (q i=q9 i)) k 0))
def dsn9:List PV→Nat × (Nat→Int) × (Nat→Int):=fun ps=>match ps with
 | [.lf k f,.lf _ g]=>(k,unFQ f,unFQ g)
 | _=>(0,fun _=>0,fun _=>0)
noncomputable def uJX:List PV→Option (Bool × Ret):=o_fm dsn9 csn9 esn9 rsn9
theorem uHQ:zJ Tryz.prog 35 uJX:=qQI fun t h=>by
 obtain ⟨k,q,q9⟩:=t;exact kGD k q q9 h
def rtH (ws:Wsp) (k1:Int):Int:=(ws.gr (k1 % (ws.ng:Int)).toNat).hand
def rtP (ws:Wsp) (k1:Int):Int:=(ws.gr (k1 % (ws.ng:Int)).toNat).place
def rtN (ws:Wsp) (k1:Int):Nat:=(ws.gr (k1 % (ws.ng:Int)).toNat).na
def rtF (ws:Wsp) (k1:Int):Nat→Int:=(ws.gr (k1 % (ws.ng:Int)).toNat).cf
def rtW (ws:Wsp) (k1:Int):Int:=vJJ .i64 ((-1) - (rtH ws k1))
def rtT (ws:Wsp) (qa:Nat→Int) (k1:Int) (K:Nat) (Q:Nat→Int):Bool:=tkC ws ws.no qa K Q (rtH ws k1) (rtP ws k1) (rtP ws k1) (rtW ws k1)
def rtK (ws:Wsp) (qa:Nat→Int) (k1:Int) (K:Nat) (Q:Nat→Int):Nat:=bif rtT ws qa k1 K Q then ws.no else 0
def rtM (ws:Wsp) (qa:Nat→Int) (k1:Int):Nat→Int:=mvQ qa ws.no (rtP ws k1) (rtW ws k1)
def rtU (ws:Wsp) (qa:Nat→Int) (k1:Int) (K:Nat) (Q:Nat→Int):Bool:=tkC ws (rtK ws qa k1 K Q) (rtM ws qa k1) K Q (rtH ws k1) (rtP ws k1) (rtW ws k1) (rtP ws k1)
def rtL (ws:Wsp) (qa:Nat→Int) (k1:Int) (K:Nat) (Q:Nat→Int):Nat:=bif rtU ws qa k1 K Q then rtK ws qa k1 K Q else 0
def rtV (ws:Wsp) (qa:Nat→Int) (k1:Int) (K:Nat) (Q:Nat→Int):Nat→Int:=mvQ (rtM ws qa k1) (rtK ws qa k1 K Q) (rtW ws k1) (rtP ws k1)
def rtA (ws:Wsp) (qa:Nat→Int) (k1:Int) (K:Nat) (Q:Nat→Int) (p:Int):Bool:=tkC ws (rtK ws qa k1 K Q) (rtM ws qa k1) K Q (rtH ws k1) p p (rtW ws k1)
def rtB (ws:Wsp) (qa:Nat→Int) (k1:Int) (K:Nat) (Q:Nat→Int):Bool:=tkC ws (rtL ws qa k1 K Q) (rtV ws qa k1 K Q) K Q (rtH ws k1) (rtP ws k1) (rtW ws k1) (rtP ws k1)
theorem kWI {ws:Wsp} {qa:Nat→Int} {k1:Int} {K:Nat} {Q:Nat→Int} (hn:ws.nh≤50) (hp:ws.np≤50) (h:rtT ws qa k1 K Q=true):rtK ws qa k1 K Q=ws.no∧rtU ws qa k1 K Q=true∧(∀ p,rtA ws qa k1 K Q p=false)∧rtL ws qa k1 K Q=ws.no∧rtB ws qa k1 K Q=false ∧
  vlB ws ws.no (rtM ws qa k1)=true∧vlB ws ws.no (rtV ws qa k1 K Q)=true∧allN (fun i:Nat=>decide ((rtV ws qa k1 K Q) i=qa i)) ws.no 0=true∧allN (fun i:Nat=>decide ((rtM ws qa k1) i=qa i)) ws.no 0=false:=by
 obtain ⟨a1,a2,a3,a4,a5,a6,a7⟩:=uZU hn hp h;have e1:rtK ws qa k1 K Q=ws.no:=by unfold rtK; rw [h]; rfl
 have e2:rtU ws qa k1 K Q=true:=by unfold rtU; rw [e1]; exact a1
 have e3:rtL ws qa k1 K Q=ws.no:=by unfold rtL; rw [e2,e1]; rfl
 have e4:rtV ws qa k1 K Q=mvQ (mvQ qa ws.no (rtP ws k1) (rtW ws k1)) ws.no (rtW ws k1) (rtP ws k1):=by unfold rtV; rw [e1]; rfl
 refine ⟨e1,e2,fun p => ?_,e3,?_,a4,?_,?_,xUK a7⟩
 ·unfold rtA; rw [e1]; exact a2 p
 ·unfold rtB; rw [e3,e4]; exact a3
 ·rw [e4]; exact a5
 ·rw [e4]; exact uVQ a6
noncomputable def xVY (ws:Wsp) (wl:Nat) (e:Nat→Int) (wm:Nat) (e2 qa q3:Nat→Int) (k1 x y _:Int):OrS:=orS [(16,o_cr [] (.v (.b true))),(17,o_cr [.lf wl (fQ e)] (.v (.a (wP ws)))),(22,o_cr [.a (wP ws),.lf wm (fQ e2)] (.v (.a [.lf ws.no (fQ qa)]))),(29,o_cr [.a (wP ws),.n .i64 k1,.n .i64 x,.n .i64 y] (.v (.lf 2 (fQ q3)))),(23,o_rn),(32,o_tk),(80,uJG),(33,o_pt),(34,o_vl),(35,uJX)] []
noncomputable def kKY (_:Wsp) (_:Nat) (e:Nat→Int) (_:Nat) (_ _ _:Nat→Int) (_ x y _:Int):List (List Nat × jU):=[]
set_option maxRecDepth 100000 in
theorem xXF (ws:Wsp) (wl:Nat) (e:Nat→Int) (wm:Nat) (e2 qa q3:Nat→Int) (k1 x y other:Int):qQA Tf (xVY ws wl e wm e2 qa q3 k1 x y other) (qZ (kKY ws wl e wm e2 qa q3 k1 x y other)) 60 8 [.lf wl (fQ e),.lf wm (fQ e2),.n .i64 k1,.n .i64 x,.n .i64 y,.n .i64 other] =
 (bif (g1 [.lf wl (fQ e)]) then (bif (g1 [.a (wP ws),.lf wm (fQ e2)]) then (bif (decide ((ws.ng:Int)=0)) then (bif (g1 []) then some (.v (.b true),[])
 else none)
 else (bif (gF1 crn ern (k1,(ws.ng:Int))) then (bif (inB (k1 % (ws.ng:Int)) ws.ng) then (bif (g1 [.a (wP ws),.n .i64 k1,.n .i64 x,.n .i64 y]) then (bif (decide ((andI .i64 k1 3)=0)) then (bif (gF1 crtk ertk (ws,ws.no,qa,(rtN ws k1),(rtF ws k1),(rtH ws k1),(rtP ws k1))) then (bif (rtT ws qa k1 (rtN ws k1) (rtF ws k1)) then (bif (gF1 ctk etk (ws,ws.no,qa,(rtN ws k1),(rtF ws k1),(rtH ws k1),(rtP ws k1))) then (bif (rtT ws qa k1 (rtN ws k1) (rtF ws k1)) then (bif (gF1 cpt ept (ws,(rtK ws qa k1 (rtN ws k1) (rtF ws k1)),(rtM ws qa k1),(rtN ws k1),(rtF ws k1),(rtH ws k1),(rtP ws k1))) then (bif (rtU ws qa k1 (rtN ws k1) (rtF ws k1)) then (bif (gF1 crn ern (other,(ws.np:Int))) then (bif (gF1 ctk etk (ws,(rtK ws qa k1 (rtN ws k1) (rtF ws k1)),(rtM ws qa k1),(rtN ws k1),(rtF ws k1),(rtH ws k1),(other % (ws.np:Int)))) then (bif (rtA ws qa k1 (rtN ws k1) (rtF ws k1) (other % (ws.np:Int))) then (bif (gF1 cpt ept (ws,(rtL ws qa k1 (rtN ws k1) (rtF ws k1)),(rtV ws qa k1 (rtN ws k1) (rtF ws k1)),(rtN ws k1),(rtF ws k1),(rtH ws k1),(rtP ws k1))) then (bif (rtB ws qa k1 (rtN ws k1) (rtF ws k1)) then (bif (g1 []) then some (.v (.b false),[])
 else none)
 else (bif (g1 []) then some (.v (.b false),[])
 else none))
 else none)
 else (bif (gF1 cpt ept (ws,(rtL ws qa k1 (rtN ws k1) (rtF ws k1)),(rtV ws qa k1 (rtN ws k1) (rtF ws k1)),(rtN ws k1),(rtF ws k1),(rtH ws k1),(rtP ws k1))) then (bif (rtB ws qa k1 (rtN ws k1) (rtF ws k1)) then (bif (g1 []) then some (.v (.b false),[])
 else none)
 else (bif (g1 []) then (bif (gF1 cvl evl (ws,(rtK ws qa k1 (rtN ws k1) (rtF ws k1)),(rtM ws qa k1))) then (bif (vlB ws (rtK ws qa k1 (rtN ws k1) (rtF ws k1)) (rtM ws qa k1)) then (bif (gF1 cvl evl (ws,(rtL ws qa k1 (rtN ws k1) (rtF ws k1)),(rtV ws qa k1 (rtN ws k1) (rtF ws k1)))) then (bif (vlB ws (rtL ws qa k1 (rtN ws k1) (rtF ws k1)) (rtV ws qa k1 (rtN ws k1) (rtF ws k1))) then (bif (gFam csn9 esn9 ((rtL ws qa k1 (rtN ws k1) (rtF ws k1)),(rtV ws qa k1 (rtN ws k1) (rtF ws k1)),qa) [.lf (rtL ws qa k1 (rtN ws k1) (rtF ws k1)) (fQ (rtV ws qa k1 (rtN ws k1) (rtF ws k1))),.lf ws.no (fQ qa)]) then (bif (allN (fun i:Nat=>decide ((rtV ws qa k1 (rtN ws k1) (rtF ws k1)) i=qa i)) (rtL ws qa k1 (rtN ws k1) (rtF ws k1)) 0) then (bif (gFam csn9 esn9 ((rtK ws qa k1 (rtN ws k1) (rtF ws k1)),(rtM ws qa k1),qa) [.lf (rtK ws qa k1 (rtN ws k1) (rtF ws k1)) (fQ (rtM ws qa k1)),.lf ws.no (fQ qa)]) then (bif (allN (fun i:Nat=>decide ((rtM ws qa k1) i=qa i)) (rtK ws qa k1 (rtN ws k1) (rtF ws k1)) 0) then some (.v (.b false),[])
 else some (.v (.b true),[]))
 else none)
 else some (.v (.b false),[]))
 else none)
 else some (.v (.b false),[]))
 else none)
 else some (.v (.b false),[]))
 else none)
 else none))
 else none))
 else none)
 else none)
 else (bif (gF1 crn ern (other,(ws.np:Int))) then (bif (gF1 ctk etk (ws,(rtK ws qa k1 (rtN ws k1) (rtF ws k1)),(rtM ws qa k1),(rtN ws k1),(rtF ws k1),(rtH ws k1),(other % (ws.np:Int)))) then (bif (rtA ws qa k1 (rtN ws k1) (rtF ws k1) (other % (ws.np:Int))) then (bif (gF1 cpt ept (ws,(rtL ws qa k1 (rtN ws k1) (rtF ws k1)),(rtV ws qa k1 (rtN ws k1) (rtF ws k1)),(rtN ws k1),(rtF ws k1),(rtH ws k1),(rtP ws k1))) then (bif (rtB ws qa k1 (rtN ws k1) (rtF ws k1)) then (bif (g1 []) then some (.v (.b false),[])
 else none)
 else (bif (g1 []) then some (.v (.b false),[])
 else none))
 else none)
 else (bif (gF1 cpt ept (ws,(rtL ws qa k1 (rtN ws k1) (rtF ws k1)),(rtV ws qa k1 (rtN ws k1) (rtF ws k1)),(rtN ws k1),(rtF ws k1),(rtH ws k1),(rtP ws k1))) then (bif (rtB ws qa k1 (rtN ws k1) (rtF ws k1)) then (bif (g1 []) then some (.v (.b false),[])
 else none)
 else (bif (g1 []) then some (.v (.b false),[])
 else none))
 else none))
 else none)
 else none))
 else none)
 else (bif (gF1 cpt ept (ws,(rtK ws qa k1 (rtN ws k1) (rtF ws k1)),(rtM ws qa k1),(rtN ws k1),(rtF ws k1),(rtH ws k1),(rtP ws k1))) then (bif (rtU ws qa k1 (rtN ws k1) (rtF ws k1)) then (bif (gF1 crn ern (other,(ws.np:Int))) then (bif (gF1 ctk etk (ws,(rtK ws qa k1 (rtN ws k1) (rtF ws k1)),(rtM ws qa k1),(rtN ws k1),(rtF ws k1),(rtH ws k1),(other % (ws.np:Int)))) then (bif (rtA ws qa k1 (rtN ws k1) (rtF ws k1) (other % (ws.np:Int))) then (bif (gF1 cpt ept (ws,(rtL ws qa k1 (rtN ws k1) (rtF ws k1)),(rtV ws qa k1 (rtN ws k1) (rtF ws k1)),(rtN ws k1),(rtF ws k1),(rtH ws k1),(rtP ws k1))) then (bif (rtB ws qa k1 (rtN ws k1) (rtF ws k1)) then (bif (g1 []) then some (.v (.b false),[])
 else none)
 else (bif (g1 []) then some (.v (.b false),[])
 else none))
 else none)
 else (bif (gF1 cpt ept (ws,(rtL ws qa k1 (rtN ws k1) (rtF ws k1)),(rtV ws qa k1 (rtN ws k1) (rtF ws k1)),(rtN ws k1),(rtF ws k1),(rtH ws k1),(rtP ws k1))) then (bif (rtB ws qa k1 (rtN ws k1) (rtF ws k1)) then (bif (g1 []) then some (.v (.b false),[])
 else none)
 else (bif (g1 []) then some (.v (.b false),[])
 else none))
 else none))
 else none)
 else none)
 else (bif (gF1 crn ern (other,(ws.np:Int))) then (bif (gF1 ctk etk (ws,(rtK ws qa k1 (rtN ws k1) (rtF ws k1)),(rtM ws qa k1),(rtN ws k1),(rtF ws k1),(rtH ws k1),(other % (ws.np:Int)))) then (bif (rtA ws qa k1 (rtN ws k1) (rtF ws k1) (other % (ws.np:Int))) then (bif (gF1 cpt ept (ws,(rtL ws qa k1 (rtN ws k1) (rtF ws k1)),(rtV ws qa k1 (rtN ws k1) (rtF ws k1)),(rtN ws k1),(rtF ws k1),(rtH ws k1),(rtP ws k1))) then (bif (rtB ws qa k1 (rtN ws k1) (rtF ws k1)) then (bif (g1 []) then some (.v (.b false),[])
 else none)
 else (bif (g1 []) then some (.v (.b false),[])
 else none))
 else none)
 else (bif (gF1 cpt ept (ws,(rtL ws qa k1 (rtN ws k1) (rtF ws k1)),(rtV ws qa k1 (rtN ws k1) (rtF ws k1)),(rtN ws k1),(rtF ws k1),(rtH ws k1),(rtP ws k1))) then (bif (rtB ws qa k1 (rtN ws k1) (rtF ws k1)) then (bif (g1 []) then some (.v (.b false),[])
 else none)
 else (bif (g1 []) then some (.v (.b false),[])
 else none))
 else none))
 else none)
 else none))
 else none))
 else none)
 else (bif (g1 []) then some (.v (.b true),[])
 else none))
 else none)
 else (bif (gF1 crtk ertk (ws,ws.no,qa,2,q3,(rtH ws k1),(rtP ws k1))) then (bif (rtT ws qa k1 2 q3) then (bif (gF1 ctk etk (ws,ws.no,qa,2,q3,(rtH ws k1),(rtP ws k1))) then (bif (rtT ws qa k1 2 q3) then (bif (gF1 cpt ept (ws,(rtK ws qa k1 2 q3),(rtM ws qa k1),2,q3,(rtH ws k1),(rtP ws k1))) then (bif (rtU ws qa k1 2 q3) then (bif (gF1 crn ern (other,(ws.np:Int))) then (bif (gF1 ctk etk (ws,(rtK ws qa k1 2 q3),(rtM ws qa k1),2,q3,(rtH ws k1),(other % (ws.np:Int)))) then (bif (rtA ws qa k1 2 q3 (other % (ws.np:Int))) then (bif (gF1 cpt ept (ws,(rtL ws qa k1 2 q3),(rtV ws qa k1 2 q3),2,q3,(rtH ws k1),(rtP ws k1))) then (bif (rtB ws qa k1 2 q3) then (bif (g1 []) then some (.v (.b false),[])
 else none)
 else (bif (g1 []) then some (.v (.b false),[])
 else none))
 else none)
 else (bif (gF1 cpt ept (ws,(rtL ws qa k1 2 q3),(rtV ws qa k1 2 q3),2,q3,(rtH ws k1),(rtP ws k1))) then (bif (rtB ws qa k1 2 q3) then (bif (g1 []) then some (.v (.b false),[])
 else none)
 else (bif (g1 []) then (bif (gF1 cvl evl (ws,(rtK ws qa k1 2 q3),(rtM ws qa k1))) then (bif (vlB ws (rtK ws qa k1 2 q3) (rtM ws qa k1)) then (bif (gF1 cvl evl (ws,(rtL ws qa k1 2 q3),(rtV ws qa k1 2 q3))) then (bif (vlB ws (rtL ws qa k1 2 q3) (rtV ws qa k1 2 q3)) then (bif (gFam csn9 esn9 ((rtL ws qa k1 2 q3),(rtV ws qa k1 2 q3),qa) [.lf (rtL ws qa k1 2 q3) (fQ (rtV ws qa k1 2 q3)),.lf ws.no (fQ qa)]) then (bif (allN (fun i:Nat=>decide ((rtV ws qa k1 2 q3) i=qa i)) (rtL ws qa k1 2 q3) 0) then (bif (gFam csn9 esn9 ((rtK ws qa k1 2 q3),(rtM ws qa k1),qa) [.lf (rtK ws qa k1 2 q3) (fQ (rtM ws qa k1)),.lf ws.no (fQ qa)]) then (bif (allN (fun i:Nat=>decide ((rtM ws qa k1) i=qa i)) (rtK ws qa k1 2 q3) 0) then some (.v (.b false),[])
 else some (.v (.b true),[]))
 else none)
 else some (.v (.b false),[]))
 else none)
 else some (.v (.b false),[]))
 else none)
 else some (.v (.b false),[]))
 else none)
 else none))
 else none))
 else none)
 else none)
 else (bif (gF1 crn ern (other,(ws.np:Int))) then (bif (gF1 ctk etk (ws,(rtK ws qa k1 2 q3),(rtM ws qa k1),2,q3,(rtH ws k1),(other % (ws.np:Int)))) then (bif (rtA ws qa k1 2 q3 (other % (ws.np:Int))) then (bif (gF1 cpt ept (ws,(rtL ws qa k1 2 q3),(rtV ws qa k1 2 q3),2,q3,(rtH ws k1),(rtP ws k1))) then (bif (rtB ws qa k1 2 q3) then (bif (g1 []) then some (.v (.b false),[])
 else none)
 else (bif (g1 []) then some (.v (.b false),[])
 else none))
 else none)
 else (bif (gF1 cpt ept (ws,(rtL ws qa k1 2 q3),(rtV ws qa k1 2 q3),2,q3,(rtH ws k1),(rtP ws k1))) then (bif (rtB ws qa k1 2 q3) then (bif (g1 []) then some (.v (.b false),[])
 else none)
 else (bif (g1 []) then some (.v (.b false),[])
 else none))
 else none))
 else none)
 else none))
 else none)
 else (bif (gF1 cpt ept (ws,(rtK ws qa k1 2 q3),(rtM ws qa k1),2,q3,(rtH ws k1),(rtP ws k1))) then (bif (rtU ws qa k1 2 q3) then (bif (gF1 crn ern (other,(ws.np:Int))) then (bif (gF1 ctk etk (ws,(rtK ws qa k1 2 q3),(rtM ws qa k1),2,q3,(rtH ws k1),(other % (ws.np:Int)))) then (bif (rtA ws qa k1 2 q3 (other % (ws.np:Int))) then (bif (gF1 cpt ept (ws,(rtL ws qa k1 2 q3),(rtV ws qa k1 2 q3),2,q3,(rtH ws k1),(rtP ws k1))) then (bif (rtB ws qa k1 2 q3) then (bif (g1 []) then some (.v (.b false),[])
 else none)
 else (bif (g1 []) then some (.v (.b false),[])
 else none))
 else none)
 else (bif (gF1 cpt ept (ws,(rtL ws qa k1 2 q3),(rtV ws qa k1 2 q3),2,q3,(rtH ws k1),(rtP ws k1))) then (bif (rtB ws qa k1 2 q3) then (bif (g1 []) then some (.v (.b false),[])
 else none)
 else (bif (g1 []) then some (.v (.b false),[])
 else none))
 else none))
 else none)
 else none)
 else (bif (gF1 crn ern (other,(ws.np:Int))) then (bif (gF1 ctk etk (ws,(rtK ws qa k1 2 q3),(rtM ws qa k1),2,q3,(rtH ws k1),(other % (ws.np:Int)))) then (bif (rtA ws qa k1 2 q3 (other % (ws.np:Int))) then (bif (gF1 cpt ept (ws,(rtL ws qa k1 2 q3),(rtV ws qa k1 2 q3),2,q3,(rtH ws k1),(rtP ws k1))) then (bif (rtB ws qa k1 2 q3) then (bif (g1 []) then some (.v (.b false),[])
 else none)
 else (bif (g1 []) then some (.v (.b false),[])
 else none))
 else none)
 else (bif (gF1 cpt ept (ws,(rtL ws qa k1 2 q3),(rtV ws qa k1 2 q3),2,q3,(rtH ws k1),(rtP ws k1))) then (bif (rtB ws qa k1 2 q3) then (bif (g1 []) then some (.v (.b false),[])
 else none)
 else (bif (g1 []) then some (.v (.b false),[])
 else none))
 else none))
 else none)
 else none))
 else none))
 else none)
 else (bif (g1 []) then some (.v (.b true),[])
 else none))
 else none))
 else none)
 else none)
 else none))
 else none)
 else none):=by kernel_rfl
theorem kHD (ws:Wsp) (wl:Nat) (e:Nat→Int) (wm:Nat) (e2 qa q3:Nat→Int) (k1 x y other:Int) (hA:yK Tryz.prog 16 [] (.v (.b true))) (hW:yK Tryz.prog 17 [.lf wl (fQ e)] (.v (.a (wP ws)))) (hM:yK Tryz.prog 22 [.a (wP ws),.lf wm (fQ e2)] (.v (.a [.lf ws.no (fQ qa)]))) (hG:yK Tryz.prog 29 [.a (wP ws),.n .i64 k1,.n .i64 x,.n .i64 y] (.v (.lf 2 (fQ q3)))) (o2:okW ws) (_:ws.ng≤1000) (hn:ws.nh≤50) (hp:ws.np≤50) (_:0 < ws.np) (_:ws.no≤50):yK Tryz.prog 8 [.lf wl (fQ e),.lf wm (fQ e2),.n .i64 k1,.n .i64 x,.n .i64 y,.n .i64 other] (.v (.b true)):=by
 refine zG (N:=60) (LO:=qZ (kKY ws wl e wm e2 qa q3 k1 x y other)) kQ zV (kU (l:=[(16,o_cr [] (.v (.b true))),(17,o_cr [.lf wl (fQ e)] (.v (.a (wP ws)))),(22,o_cr [.a (wP ws),.lf wm (fQ e2)] (.v (.a [.lf ws.no (fQ qa)]))),(29,o_cr [.a (wP ws),.n .i64 k1,.n .i64 x,.n .i64 y] (.v (.lf 2 (fQ q3)))),(23,o_rn),(32,o_tk),(80,uJG),(33,o_pt),(34,o_vl),(35,uJX)]) (m:=[]) ⟨qVI hA,qVI hW,qVI hM,qVI hG,Sn.ok_rn,xVC,uHU,xGZ,uYK,uHQ,trivial⟩ trivial) (fun p S hp => ?_) ?_
 ·refine zW (L:=qQ Tf 8) (l:=(kKY ws wl e wm e2 qa q3 k1 x y other)) (show AllP _ (kKY ws wl e wm e2 qa q3 k1 x y other) from trivial) p S hp
 ·refine (xXF ws wl e wm e2 qa q3 k1 x y other).trans ?_;by_cases hng:(ws.ng:Int)=0
  ·rw [vJQ hng];simp only [g1_t,vYV]
  ·have hc1:gF1 crn ern (k1,(ws.ng:Int))=true:=jH (C:=crn) ⟨by omega,by omega⟩;have hc2:gF1 crn ern (other,(ws.np:Int))=true:=jH (C:=crn) ⟨by omega,by omega⟩;have hm1:=Int.emod_nonneg k1 hng;have hm2:=Int.emod_lt_of_pos k1 (show (0:Int) < (ws.ng:Int) by omega);have hib:inB (k1 % (ws.ng:Int)) ws.ng=true:=by
    have e:k1 % (ws.ng:Int)=(((k1 % (ws.ng:Int)).toNat:Nat):Int):=by omega
    rw [e]; exact yX (by omega)
   have ftk:∀ k q k2 q2 a b,gF1 ctk etk (ws,k,q,k2,q2,a,b)=true:=fun _ _ _ _ _ _=>jH (C:=ctk) o2
   have frt:∀ k q k2 q2 a b,gF1 crtk ertk (ws,k,q,k2,q2,a,b)=true:=fun _ _ _ _ _ _=>jH (C:=crtk) o2
   have fpt:∀ k q k2 q2 a b,gF1 cpt ept (ws,k,q,k2,q2,a,b)=true:=fun _ _ _ _ _ _=>jH (C:=cpt) o2
   have fvl:∀ k q,gF1 cvl evl (ws,k,q)=true:=fun _ _=>jH (C:=cvl) o2
   simp only [vYH hng,g1_t,hc1,hc2,hib,ftk,frt,fpt,fvl,vYV,vYG];cases hk:decide ((andI .i64 k1 3)=0) with
   | true =>
    rw [vYV];cases hT:rtT ws qa k1 (rtN ws k1) (rtF ws k1) with
    | false=>rfl
    | true =>
     obtain ⟨r1,r2,r3,r4,r5,r6,r7,r8,r9⟩:=kWI hn hp hT;have s1:gFam csn9 esn9 (ws.no,(rtV ws qa k1 (rtN ws k1) (rtF ws k1)),qa) [.lf ws.no (fQ (rtV ws qa k1 (rtN ws k1) (rtF ws k1))),.lf ws.no (fQ qa)]=true:=yGW (C:=csn9) (show ws.no≤50 by omega) rfl;have s2:gFam csn9 esn9 (ws.no,(rtM ws qa k1),qa) [.lf ws.no (fQ (rtM ws qa k1)),.lf ws.no (fQ qa)]=true:=yGW (C:=csn9) (show ws.no≤50 by omega) rfl;simp only [r1,r2,r3,r4,r5,r6,r7,r8,r9,s1,s2,vYV,vYG]
   | false =>
    rw [vYG];cases hT:rtT ws qa k1 2 q3 with
    | false=>rfl
    | true =>
     obtain ⟨r1,r2,r3,r4,r5,r6,r7,r8,r9⟩:=kWI hn hp hT;have s1:gFam csn9 esn9 (ws.no,(rtV ws qa k1 2 q3),qa) [.lf ws.no (fQ (rtV ws qa k1 2 q3)),.lf ws.no (fQ qa)]=true:=yGW (C:=csn9) (show ws.no≤50 by omega) rfl;have s2:gFam csn9 esn9 (ws.no,(rtM ws qa k1),qa) [.lf ws.no (fQ (rtM ws qa k1)),.lf ws.no (fQ qa)]=true:=yGW (C:=csn9) (show ws.no≤50 by omega) rfl;simp only [r1,r2,r3,r4,r5,r6,r7,r8,r9,s1,s2,vYV,vYG]
theorem snd_law (hA:yK Tryz.prog 16 [] (.v (.b true))) (l:List Int) (hl:l.length≤9223372036854775807) (m:List Int) (hm1:m.length≤9223372036854775807) (k1 x y other:Int):yK Tryz.prog 8 [yXA l,yXA m,.n .i64 k1,.n .i64 x,.n .i64 y,.n .i64 other] (.v (.b true)):=by
 obtain ⟨ws,hm,hW⟩:=uWQ l.length (iqOf l) hl;obtain ⟨qa,_,hM⟩:=uJD hm m.length (iqOf m) hm1;have hh:=hm.nh;have hp:=hm.np;have hg:=hm.ng;have hno:=hm.no;refine kQY (fun F w vals h=>Sames.al (xs:=[yXA l,yXA m,.n .i64 k1,.n .i64 x,.n .i64 y,.n .i64 other]) (ys:=[.lf l.length (fQ (iqOf l)),.lf m.length (fQ (iqOf m)),.n .i64 k1,.n .i64 x,.n .i64 y,.n .i64 other]) ⟨yYK l,yYK m,fun _ _ _ h=>h,fun _ _ _ h=>h,fun _ _ _ h=>h,fun _ _ _ h=>h,trivial⟩ h) ?_;exact kHD ws _ _ _ _ qa _ k1 x y other hA hW hM (xZF hm k1 x y) (yVB hm) (by omega) (by omega) (by omega) (by omega) (by omega)
end Go.Proofs.YtmeldddgjfocdaaGreat.Hy

/- Part 13 of the texts behind the last one: rules and contracts. No condition. -/
import Derived.Test.YtmeldddgjfocdaaGreatGN12
open List renaming getElem?_take → vZU, getD_eq_getElem?_getD → vZX, mem_cons → vZG
open Nat renaming lt_of_lt_of_le → vZZ
open Go.IntKind renaming wrap → vYX
namespace Go.Proofs.YtmeldddgjfocdaaGreat.Hw
open Go.Rx Rt Go.Sx Go.RowKit Od Na Nb Nc Nx Nf Nl Nm Ga Gb Gc Gd Ge Gf Gg Sn Ha Hb Hc Hd He Hf Hg Hh Hi Hj Hk Hm
theorem jZL {f:Nat→Shp} {n v:Nat} {x:Shp} (_:v < n):qKH f n x v=f v:=by
 unfold qKH;rw [show Nat.beq v n=false from by rw [Bool.eq_false_iff,ne_eq,Nat.beq_eq]; omega]; rfl
theorem zVJ (l:Int) (hs:Nat→Shp) (n:Nat) (t:Nat × (Nat→Shp)) (c:Nat) (g:Nat→Shp) (h:c≤t.1∧∀ v,v < c→t.2 v=g v):c≤(addN l hs n t).1∧∀ v,v < c→(addN l hs n t).2 v=g v :=
 jK (Q:=fun (_:Nat) (t:Nat × (Nat→Shp))=>c≤t.1∧∀ v,v < c→t.2 v=g v) (c:=n) (nx:=fun (j:Nat) (t:Nat × (Nat→Shp))=>(t.1 + 1,qKH t.2 t.1 (lkS l (hs j)))) (fun j t _ h=>⟨Nat.le_succ_of_le h.1,fun v hv=>by
  show qKH t.2 t.1 (lkS l (hs j)) v=g v;rw [jZL (vZZ hv h.1)]; exact h.2 v hv⟩) n 0 t (by omega) h
theorem jZW (ws:Wsp) (q:Nat→Int):∀ v,v < ws.c→(scR ws q).2 v=ws.sh v :=
 (jK (Q:=fun (_:Nat) (t:Nat × (Nat→Shp))=>ws.c≤t.1∧∀ v,v < ws.c→t.2 v=ws.sh v) (c:=ws.no) (nx:=scN ws q) (fun i t _ h=>by
  unfold scN;cases decide (0≤q i)
  ·exact zVJ _ _ _ t ws.c ws.sh h
  ·exact zVJ _ _ _ t ws.c ws.sh h) ws.no 0 (ws.c,ws.sh) (by omega) ⟨Nat.le_refl _,fun _ _=>rfl⟩).2
theorem jGK {ws:Wsp} (h:MadeW ws) {k:Nat} {q:Nat→Int} (hv:vlB ws k q=true):sErr ws.js ws.ms (scR ws q).2 ws.sk ws.n ws.m (scR ws q).1 ws.d=0:=by
 obtain ⟨_,h2,h3⟩:=jUG (qWU h) hv;rw [h.js,h.ms,h.n,h.m,h.d];rw [h.n] at h3;exact yQW zKK (by omega) h3
theorem kKU {ws:Wsp} (h:MadeW ws) {k:Nat} {q:Nat→Int} (hv:vlB ws k q=true):(scR ws q).1=ws.c + ws.no:=by
 obtain ⟨h1,_,_⟩:=jUG (qWU h) hv;rw [h1]
 have:∀ n,n≤ws.no→sumN (fun j=>(ws.ob j).ns) n=n:=fun n=>by
  induction n with
  | zero=>intro _; rfl
  | succ n ih =>
   intro hn;show sumN (fun j=>(ws.ob j).ns) n + (ws.ob n).ns=n + 1;rw [ih (by omega),(h.ob n (by omega)).2.1]
 rw [this ws.no (Nat.le_refl _)]
end Go.Proofs.YtmeldddgjfocdaaGreat.Hw
namespace Go.Proofs.YtmeldddgjfocdaaGreat.Hn
open Go.Rx Rt Go.Sx Go.RowKit Od Na Nb Nc Nx Nf Nl Nm Ga Gb Gc Gd Ge Gf Gg Sn Ha Hb Hc Hd He Hf Hg Hh Hi Hj Hk Hm
noncomputable def orUs (k:Nat) (q:Nat→Int) (x:Int):OrS:=orS [] []
noncomputable def hUs (k:Nat) (q:Nat→Int) (x:Int) (i:Int):St:=⟨[(0,.v (.lf k (fQ q))),(1,.v (.n .i64 x)),(5,.v (.n .i64 i))],[]⟩
set_option maxRecDepth 100000 in
theorem rdUs (G:St→Option (Ret × Mem)) (K:Cont) (k:Nat) (q:Nat→Int) (x:Int) (i:Int):yJ 60 (cxS Tf (orUs k q x) 60 69 (ntmF Tf 69)) (evX Tf (orUs k q x) 60 69 (ntmF Tf 69)) (qZ []) (qQ Tf 69 [0,1,0,1]) [0,1,0,1] (Tf.hint 69 (qJ (qQ Tf 69 [0,1,0,1]))) K G (hUs k q x i) =
 (bif (decide (i < (k:Int))) then (bif (inB i k) then (bif (decide ((q (i).toNat)=x)) then (K .ret ⟨[(4,.v (.b true))],[]⟩)
 else (G (hUs k q x (vYX .i64 (i + 1)))))
 else none)
 else (K (.exit 0) ⟨[],[]⟩)):=by kernel_rfl
theorem lpUs (K:Cont) (k:Nat) (q:Nat→Int) (x:Int) (_:k≤50):LFX 60 (cxS Tf (orUs k q x) 60 69 (ntmF Tf 69)) (evX Tf (orUs k q x) 60 69 (ntmF Tf 69)) (qZ []) (qQ Tf 69 [0,1,0,1]) [0,1,0,1] (Tf.hint 69 (qJ (qQ Tf 69 [0,1,0,1]))) K 60 (hUs k q x 0)=bif (allN (fun i:Nat => !decide (q i=x)) k 0) then (K (.exit 0) ⟨[],[]⟩) else (K .ret ⟨[(4,.v (.b true))],[]⟩):=by
 refine (jJ (L:=LFX 60 (cxS Tf (orUs k q x) 60 69 (ntmF Tf 69)) (evX Tf (orUs k q x) 60 69 (ntmF Tf 69)) (qZ []) (qQ Tf 69 [0,1,0,1]) [0,1,0,1] (Tf.hint 69 (qJ (qQ Tf 69 [0,1,0,1]))) K) (stp:=yJ 60 (cxS Tf (orUs k q x) 60 69 (ntmF Tf 69)) (evX Tf (orUs k q x) 60 69 (ntmF Tf 69)) (qZ []) (qQ Tf 69 [0,1,0,1]) [0,1,0,1] (Tf.hint 69 (qJ (qQ Tf 69 [0,1,0,1]))) K) (fun _ _=>rfl) (fun (i:Nat) (_:Unit)=>hUs k q x (i:Int)) (fun _ _=>True) (fun (i:Nat) _ => !decide (q i=x)) (fun _ _=>()) (c:=k) (fun _=>(K (.exit 0) ⟨[],[]⟩)) (fun i _=>(K .ret ⟨[(4,.v (.b true))],[]⟩)) (fun G i f hi _ => ?_) (fun _ _ _ _ _=>trivial) (fun G f _ => ?_) k 0 60 () (by omega) (by omega) trivial).trans ((zG _ _ _ _ _).trans (kK _ _ _ _ _))
 ·refine (rdUs G K k q x i).trans ?_;rw [vYJ (show (i:Int) < (k:Int) by omega),jZ (by omega),zJ (show i < k by omega),toN];cases decide (q i=x) <;> rfl
 ·refine (rdUs G K k q x k).trans ?_;rw [vYY (show ¬ (k:Int) < (k:Int) by omega)];rfl
noncomputable def yWA (k:Nat) (q:Nat→Int) (x:Int):List (List Nat × yU):=[([0,1,0,1],sumF (fun _:Unit=>(hUs k q x 0)) (fun _=>()) (fun _ K=>(bif (decide (k≤50)) then (bif (allN (fun i:Nat => !decide (q i=x)) k 0) then (K (.exit 0) ⟨[],[]⟩) else (K .ret ⟨[(4,.v (.b true))],[]⟩)) else none)))]
set_option maxRecDepth 100000 in
theorem jHV (k:Nat) (q:Nat→Int) (x:Int):kH Tf (orUs k q x) (qZ (yWA k q x)) 60 69 [.lf k (fQ q),.n .i64 x] =
 (bif (gSt (hUs k q x 0) (hUs k q x 0)) then (bif (decide (k≤50)) then (bif (allN (fun i:Nat => !decide (q i=x)) k 0) then some (.v (.b false),[])
 else some (.v (.b true),[]))
 else none)
 else none):=by kernel_rfl
theorem yHE (k:Nat) (q:Nat→Int) (x:Int) (hk:k≤50):qH Tryz.prog 69 [.lf k (fQ q),.n .i64 x] (.v (.b (hasQ q k x))):=by
 refine qX (N:=60) (LO:=qZ (yWA k q x)) yG qG (yH (l:=[]) (m:=[]) trivial trivial) (fun p S hp => ?_) ?_
 ·refine qK (L:=qQ Tf 69) (l:=(yWA k q x)) (show AllP _ (yWA k q x) from ⟨?_,trivial⟩) p S hp
  ·dsimp only;refine yQ (T:=Tf) (o:=(orUs k q x)) (f:=69) (LO:=qZ []) (p:=[0,1,0,1]) yV ?_;intro t K r hr;obtain ⟨hg,hr⟩:=qY hr;have hk:=vYK hg;exact (lpUs K k q x hk).trans hr
 ·refine (jHV k q x).trans ?_;unfold hasQ;rw [zQ,vYJ hk];cases allN (fun i:Nat => !decide (q i=x)) k 0 <;> rfl
def cus:Nat × (Nat→Int) × Int→Prop:=fun t=>match t with | (k,_,_)=>k≤50
def eus:Nat × (Nat→Int) × Int→List PV:=fun t=>match t with | (k,q,x)=>[.lf k (fQ q),.n .i64 x]
noncomputable def rus:Nat × (Nat→Int) × Int→Ret:=fun t=>match t with | (k,q,x)=>.v (.b (hasQ q k x))
def dus:List PV→Nat × (Nat→Int) × Int:=fun ps=>match ps with
 | [.lf k f,.n _ x]=>(k,unFQ f,x)
 | _=>(0,fun _=>0,0)
noncomputable def o_us:List PV→Option (Bool × Ret):=o_fm dus cus eus rus
theorem jXH:jG Tryz.prog 69 o_us:=qQU fun t h=>by
 obtain ⟨k,q,x⟩:=t;exact yHE k q x h
noncomputable def orMd (_:Wsp) (_ _:Nat) (e:Nat→Int):OrS:=orS [(69,o_us)] [(43,o_nx)]
noncomputable def hMd (ws:Wsp) (no wl:Nat) (e:Nat→Int) (i:Int) (k:Int) (m2:Nat) (r:Nat) (q:Nat→Int):St:=⟨[(2,.p 2 0),(4,.p 4 0),(5,.p 10 0),(6,.p 6 0),(7,.v (.n .i64 i)),(8,.v (.n .i64 k))],[(2,.blk [.v (.lf ws.n (fJ ws.js)),.v (.lf ws.m (fM ws.ms)),.v (.lf ws.c (fS ws.sh)),.v (.lf ws.d (fK ws.sk)),.v (.lf no (fO ws.ob)),.v (.lf ws.np (fZ ws.pl)),.v (.lf ws.nh (fH ws.hd)),.v (.lf ws.ng (fG ws.gr)),.v (.n .i64 ws.slack)]),(4,.blk [.nl]),(6,.blk [.o 57]),(10,.blk [.v (.lf wl (fQ e)),.v (.n .i64 (m2:Int))]),(57,.reg 3 1 (.fo r (fQ q)))]⟩
set_option maxRecDepth 100000 in
theorem rdMd (G:St→Option (Ret × Mem)) (K:Cont) (ws:Wsp) (no wl:Nat) (e:Nat→Int) (i:Int) (k:Int) (m2:Nat) (r:Nat) (q:Nat→Int):yJ 60 (cxS Tf (orMd ws no wl e) 60 22 (ntmF Tf 22)) (evX Tf (orMd ws no wl e) 60 22 (ntmF Tf 22)) (qZ []) (qQ Tf 22 [0,0,1,0,0,1,0,0,1,0,1,1,1]) [0,0,1,0,0,1,0,0,1,0,1,1,1] (Tf.hint 22 (qJ (qQ Tf 22 [0,0,1,0,0,1,0,0,1,0,1,1,1]))) K G (hMd ws no wl e i k m2 r q) =
 (bif (gF1 cus eus (r,q,k)) then (bif (hasQ q r k) then (bif (decide ((vYX .i64 ((ws.np:Int) + (ws.nh:Int)))=0)) then none
 else (G (hMd ws no wl e i (vYX .i64 (((vYX .i64 ((vYX .i64 (k + 1)) + (ws.nh:Int))).tmod (vYX .i64 ((ws.np:Int) + (ws.nh:Int)))) - (ws.nh:Int))) m2 r q)))
 else (K (.exit 2) ⟨[(2,.p 2 0),(4,.p 4 0),(5,.p 10 0),(6,.p 6 0),(7,.v (.n .i64 i)),(8,.v (.n .i64 k))],[(2,.blk [.v (.lf ws.n (fJ ws.js)),.v (.lf ws.m (fM ws.ms)),.v (.lf ws.c (fS ws.sh)),.v (.lf ws.d (fK ws.sk)),.v (.lf no (fO ws.ob)),.v (.lf ws.np (fZ ws.pl)),.v (.lf ws.nh (fH ws.hd)),.v (.lf ws.ng (fG ws.gr)),.v (.n .i64 ws.slack)]),(4,.blk [.nl]),(6,.blk [.o 57]),(10,.blk [.v (.lf wl (fQ e)),.v (.n .i64 (m2:Int))]),(57,.reg 3 1 (.fo r (fQ q)))]⟩))
 else none):=by kernel_rfl
def mdK (ws:Wsp) (k:Int):Int:=vYX .i64 (((vYX .i64 ((vYX .i64 (k + 1)) + (ws.nh:Int))).tmod (vYX .i64 ((ws.np:Int) + (ws.nh:Int)))) - (ws.nh:Int))
def mdS (ws:Wsp) (r:Nat) (q:Nat→Int) (k:Int):Int:=bif hasQ q r k then mdK ws k else k
theorem lpMd (K:Cont) (ws:Wsp) (no wl:Nat) (e:Nat→Int) (i k:Int) (m2 r:Nat) (q:Nat→Int) (h:(r≤50∧¬ vYX .i64 ((ws.np:Int) + (ws.nh:Int))=0∧hasQ q r (mdS ws r q k)=false)):LFX 60 (cxS Tf (orMd ws no wl e) 60 22 (ntmF Tf 22)) (evX Tf (orMd ws no wl e) 60 22 (ntmF Tf 22)) (qZ []) (qQ Tf 22 [0,0,1,0,0,1,0,0,1,0,1,1,1]) [0,0,1,0,0,1,0,0,1,0,1,1,1] (Tf.hint 22 (qJ (qQ Tf 22 [0,0,1,0,0,1,0,0,1,0,1,1,1]))) K 60 (hMd ws no wl e i k m2 r q)=(K (.exit 2) ⟨[(2,.p 2 0),(4,.p 4 0),(5,.p 10 0),(6,.p 6 0),(7,.v (.n .i64 i)),(8,.v (.n .i64 (mdS ws r q k)))],[(2,.blk [.v (.lf ws.n (fJ ws.js)),.v (.lf ws.m (fM ws.ms)),.v (.lf ws.c (fS ws.sh)),.v (.lf ws.d (fK ws.sk)),.v (.lf no (fO ws.ob)),.v (.lf ws.np (fZ ws.pl)),.v (.lf ws.nh (fH ws.hd)),.v (.lf ws.ng (fG ws.gr)),.v (.n .i64 ws.slack)]),(4,.blk [.nl]),(6,.blk [.o 57]),(10,.blk [.v (.lf wl (fQ e)),.v (.n .i64 (m2:Int))]),(57,.reg 3 1 (.fo r (fQ q)))]⟩):=by
 obtain ⟨hr,hz,hq⟩:=h;refine (rdMd (LFX 60 (cxS Tf (orMd ws no wl e) 60 22 (ntmF Tf 22)) (evX Tf (orMd ws no wl e) 60 22 (ntmF Tf 22)) (qZ []) (qQ Tf 22 [0,0,1,0,0,1,0,0,1,0,1,1,1]) [0,0,1,0,0,1,0,0,1,0,1,1,1] (Tf.hint 22 (qJ (qQ Tf 22 [0,0,1,0,0,1,0,0,1,0,1,1,1]))) K 59) K ws no wl e i k m2 r q).trans ?_;rw [jH (C:=cus) (t:=(r,q,k)) hr,vYQ,vYY hz,vYZ];unfold mdS at hq ⊢;cases hk:hasQ q r k with
 | false=>rfl
 | true =>
  rw [hk,vYQ] at hq;rw [vYQ,vYQ];refine (rdMd (LFX 60 (cxS Tf (orMd ws no wl e) 60 22 (ntmF Tf 22)) (evX Tf (orMd ws no wl e) 60 22 (ntmF Tf 22)) (qZ []) (qQ Tf 22 [0,0,1,0,0,1,0,0,1,0,1,1,1]) [0,0,1,0,0,1,0,0,1,0,1,1,1] (Tf.hint 22 (qJ (qQ Tf 22 [0,0,1,0,0,1,0,0,1,0,1,1,1]))) K 58) K ws no wl e i (mdK ws k) m2 r q).trans ?_;rw [jH (C:=cus) (t:=(r,q,mdK ws k)) hr,hq];rfl
theorem qWX {q:Nat→Int} {x:Int}:hasQ q 1 x=decide (q 0=x):=by
 show (!((!decide (q 0=x)) && true))=_;cases decide (q 0=x) <;> rfl
def inR (ws:Wsp) (k:Int):Prop:=-(ws.nh:Int)≤k∧k < (ws.np:Int)
theorem yYX {ws:Wsp} {k:Int} (h:inR ws k) (_:ws.nh≤50):inM ws k=true:=by
 unfold inR at h;unfold inM;have e:vYX .i64 (0 - (ws.nh:Int)) = -(ws.nh:Int):=by rw [zU (by omega)]; omega
 rw [e,vYY (show ¬ k < -(ws.nh:Int) by omega),vYY (show ¬ (ws.np:Int)≤k by omega)]; rfl
theorem jVJ {ws:Wsp} (_:1≤ws.np∧ws.np≤50) (_:1≤ws.nh∧ws.nh≤50) {k:Int} (h:inR ws k):inR ws (mdK ws k)∧mdK ws k ≠ k:=by
 unfold inR at h ⊢;have e:mdK ws k=(k + 1 + (ws.nh:Int)) % ((ws.np:Int) + (ws.nh:Int)) - (ws.nh:Int):=by
  unfold mdK;rw [show vYX .i64 (k + 1)=k + 1 from zU (by omega),show vYX .i64 (k + 1 + (ws.nh:Int))=k + 1 + (ws.nh:Int) from zU (by omega),show vYX .i64 ((ws.np:Int) + (ws.nh:Int))=(ws.np:Int) + (ws.nh:Int) from zU (by omega),Int.tmod_eq_emod_of_nonneg (by omega)];have h1:=Int.emod_nonneg (k + 1 + (ws.nh:Int)) (show (ws.np:Int) + (ws.nh:Int) ≠ 0 by omega);have h2:=Int.emod_lt_of_pos (k + 1 + (ws.nh:Int)) (show (0:Int) < (ws.np:Int) + (ws.nh:Int) by omega);exact zU (by omega)
 rw [e];by_cases hk:k + 1 + (ws.nh:Int)=(ws.np:Int) + (ws.nh:Int)
 ·rw [hk,Int.emod_self]; omega
 ·rw [Int.emod_eq_of_lt (by omega) (by omega)]; omega
theorem yGD {ws:Wsp} (hp:1≤ws.np∧ws.np≤50) (hh:1≤ws.nh∧ws.nh≤50) {q:Nat→Int} {k:Int} (h:inR ws k):hasQ q 1 (mdS ws 1 q k)=false∧inR ws (mdS ws 1 q k):=by
 have h1:=jVJ hp hh h;unfold mdS;rw [qWX,qWX];by_cases e:q 0=k
 ·rw [vYJ e,vYQ,vYY (by rw [e]; exact fun h=>h1.2 h.symm)];exact ⟨rfl,h1.1⟩
 ·rw [vYY e,vYZ,vYY e];exact ⟨rfl,h⟩
noncomputable def mdA (ws:Wsp) (wl:Nat) (e:Nat→Int):Nat→Int:=(fun v=>(bif (Nat.beq v 0) then (mdS ws 0 (fun _=>0) (vYX .i64 ((nxV e wl 0 (vYX .i64 ((ws.np:Int) + (ws.nh:Int)))) - (ws.nh:Int)))) else 0))
noncomputable def mdB (ws:Wsp) (wl:Nat) (e:Nat→Int):Nat→Int:=fun v=>(bif (Nat.beq v 1) then (mdS ws 1 (mdA ws wl e) (vYX .i64 ((nxV e wl (mA wl 0 1) (vYX .i64 ((ws.np:Int) + (ws.nh:Int)))) - (ws.nh:Int)))) else mdA ws wl e v)
theorem kin {ws:Wsp} (_:1≤ws.np∧ws.np≤50) (_:1≤ws.nh∧ws.nh≤50) (wl:Nat) (e:Nat→Int) (m:Nat):inR ws (vYX .i64 ((nxV e wl m (vYX .i64 ((ws.np:Int) + (ws.nh:Int)))) - (ws.nh:Int))):=by
 have hk:(vYX .i64 ((ws.np:Int) + (ws.nh:Int)))=(ws.np:Int) + (ws.nh:Int):=zU (by omega);have b:=qZA (e:=e) (w:=wl) (m:=m) (k:=(vYX .i64 ((ws.np:Int) + (ws.nh:Int)))) (by rw [hk]; omega);rw [hk] at b ⊢;unfold inR;rw [zU (by omega)];omega
noncomputable def zXE (ws:Wsp) (wl:Nat) (e:Nat→Int):List (List Nat × yU):=[([0,0,1,0,0,1,0,0,1,0,1,1,1],sumF (fun t:Int × Int × Nat × Nat × (Nat→Int)=>(hMd ws 1 wl e t.1 t.2.1 t.2.2.1 t.2.2.2.1 t.2.2.2.2)) (fun σ=>(slI σ 7,slI σ 8,(bkC σ 10 1).toNat,rgN σ 57,unFQ (rgF σ 57))) (fun t K=>(bif (gP (t.2.2.2.1≤50∧¬ vYX .i64 ((ws.np:Int) + (ws.nh:Int))=0∧hasQ t.2.2.2.2 t.2.2.2.1 (mdS ws t.2.2.2.1 t.2.2.2.2 t.2.1)=false)) then (K (.exit 2) ⟨[(2,.p 2 0),(4,.p 4 0),(5,.p 10 0),(6,.p 6 0),(7,.v (.n .i64 t.1)),(8,.v (.n .i64 (mdS ws t.2.2.2.1 t.2.2.2.2 t.2.1)))],[(2,.blk [.v (.lf ws.n (fJ ws.js)),.v (.lf ws.m (fM ws.ms)),.v (.lf ws.c (fS ws.sh)),.v (.lf ws.d (fK ws.sk)),.v (.lf 1 (fO ws.ob)),.v (.lf ws.np (fZ ws.pl)),.v (.lf ws.nh (fH ws.hd)),.v (.lf ws.ng (fG ws.gr)),.v (.n .i64 ws.slack)]),(4,.blk [.nl]),(6,.blk [.o 57]),(10,.blk [.v (.lf wl (fQ e)),.v (.n .i64 (t.2.2.1:Int))]),(57,.reg 3 1 (.fo t.2.2.2.1 (fQ t.2.2.2.2)))]⟩) else none)))]
set_option maxRecDepth 100000 in
theorem jXQ (ws:Wsp) (wl:Nat) (e:Nat→Int):kH Tf (orMd ws 1 wl e) (qZ (zXE ws wl e)) 60 22 [.a [.lf ws.n (fJ ws.js),.lf ws.m (fM ws.ms),.lf ws.c (fS ws.sh),.lf ws.d (fK ws.sk),.lf 1 (fO ws.ob),.lf ws.np (fZ ws.pl),.lf ws.nh (fH ws.hd),.lf ws.ng (fG ws.gr),.n .i64 ws.slack],.lf wl (fQ e)] =
 (bif (gB1 cnx hnx enx (wl,0,e,(vYX .i64 ((ws.np:Int) + (ws.nh:Int))))) then (bif (gSt (hMd ws 1 wl e 0 (vYX .i64 ((nxV e wl 0 (vYX .i64 ((ws.np:Int) + (ws.nh:Int)))) - (ws.nh:Int))) (mA wl 0 1) 0 (fun _=>0)) (hMd ws 1 wl e 0 (vYX .i64 ((nxV e wl 0 (vYX .i64 ((ws.np:Int) + (ws.nh:Int)))) - (ws.nh:Int))) (mA wl 0 1) 0 (fun _=>0))) then (bif (gP (0≤50∧¬ vYX .i64 ((ws.np:Int) + (ws.nh:Int))=0∧hasQ (fun _=>0) 0 (mdS ws 0 (fun _=>0) (vYX .i64 ((nxV e wl 0 (vYX .i64 ((ws.np:Int) + (ws.nh:Int)))) - (ws.nh:Int))))=false)) then (bif (decide (0 + 1≤1000000)) then some (.v (.a [.lf 1 (fun v=>[.n .i64 (bif (Nat.beq v 0) then (mdS ws 0 (fun _=>0) (vYX .i64 ((nxV e wl 0 (vYX .i64 ((ws.np:Int) + (ws.nh:Int)))) - (ws.nh:Int)))) else 0)])]),[])
 else none)
 else none)
 else none)
 else none):=by kernel_rfl
theorem yKG (ws:Wsp) (wl:Nat) (e:Nat→Int) (hw:wl≤9223372036854775807) (hp:1≤ws.np∧ws.np≤50) (hh:1≤ws.nh∧ws.nh≤50):qH Tryz.prog 22 [.a [.lf ws.n (fJ ws.js),.lf ws.m (fM ws.ms),.lf ws.c (fS ws.sh),.lf ws.d (fK ws.sk),.lf 1 (fO ws.ob),.lf ws.np (fZ ws.pl),.lf ws.nh (fH ws.hd),.lf ws.ng (fG ws.gr),.n .i64 ws.slack],.lf wl (fQ e)] (.v (.a [.lf 1 (fQ (mdA ws wl e))])):=by
 refine qX (N:=60) (LO:=qZ (zXE ws wl e)) yG qG (yH (l:=[(69,o_us)]) (m:=[(43,o_nx)]) ⟨jXH,trivial⟩ ⟨jJK,trivial⟩) (fun p S hp => ?_) ?_
 ·refine qK (L:=qQ Tf 22) (l:=(zXE ws wl e)) (show AllP _ (zXE ws wl e) from ⟨?_,trivial⟩) p S hp
  ·dsimp only;refine yQ (T:=Tf) (o:=(orMd ws 1 wl e)) (f:=22) (LO:=qZ []) (p:=[0,0,1,0,0,1,0,0,1,0,1,1,1]) yV ?_;intro t K r hr;obtain ⟨hg,hr⟩:=qY hr
   skip
   exact (lpMd K ws 1 wl e t.1 t.2.1 t.2.2.1 t.2.2.2.1 t.2.2.2.2 (zX hg)).trans hr
 ·refine (jXQ ws wl e).trans ?_;have hk:(vYX .i64 ((ws.np:Int) + (ws.nh:Int)))=(ws.np:Int) + (ws.nh:Int):=zU (by omega);have h0:0 < (vYX .i64 ((ws.np:Int) + (ws.nh:Int)))∧(vYX .i64 ((ws.np:Int) + (ws.nh:Int)))≤9223372036854775807:=by rw [hk]; omega
  have hz:¬ (vYX .i64 ((ws.np:Int) + (ws.nh:Int)))=0:=by rw [hk]; omega
  have b0:=kin hp hh wl e 0;have b1:=kin hp hh wl e (mA wl 0 1);have g0:∀ (q:Nat→Int) (k:Int),gP (0≤50∧¬ (vYX .i64 ((ws.np:Int) + (ws.nh:Int)))=0∧hasQ q 0 (mdS ws 0 q k)=false)=true:=fun q k=>qYH ⟨by decide,hz,rfl⟩
  rw [qZE (C:=cnx) (t:=(wl,0,e,(vYX .i64 ((ws.np:Int) + (ws.nh:Int))))) ⟨Nat.zero_le _,hw,h0.1,h0.2⟩,zQ,g0,vYQ,vYQ,vYQ,vYJ (show 0 + 1≤1000000 by decide),vYQ];rfl
noncomputable def zXD (ws:Wsp) (wl:Nat) (e:Nat→Int):List (List Nat × yU):=[([0,0,1,0,0,1,0,0,1,0,1,1,1],sumF (fun t:Int × Int × Nat × Nat × (Nat→Int)=>(hMd ws 2 wl e t.1 t.2.1 t.2.2.1 t.2.2.2.1 t.2.2.2.2)) (fun σ=>(slI σ 7,slI σ 8,(bkC σ 10 1).toNat,rgN σ 57,unFQ (rgF σ 57))) (fun t K=>(bif (gP (t.2.2.2.1≤50∧¬ vYX .i64 ((ws.np:Int) + (ws.nh:Int))=0∧hasQ t.2.2.2.2 t.2.2.2.1 (mdS ws t.2.2.2.1 t.2.2.2.2 t.2.1)=false)) then (K (.exit 2) ⟨[(2,.p 2 0),(4,.p 4 0),(5,.p 10 0),(6,.p 6 0),(7,.v (.n .i64 t.1)),(8,.v (.n .i64 (mdS ws t.2.2.2.1 t.2.2.2.2 t.2.1)))],[(2,.blk [.v (.lf ws.n (fJ ws.js)),.v (.lf ws.m (fM ws.ms)),.v (.lf ws.c (fS ws.sh)),.v (.lf ws.d (fK ws.sk)),.v (.lf 2 (fO ws.ob)),.v (.lf ws.np (fZ ws.pl)),.v (.lf ws.nh (fH ws.hd)),.v (.lf ws.ng (fG ws.gr)),.v (.n .i64 ws.slack)]),(4,.blk [.nl]),(6,.blk [.o 57]),(10,.blk [.v (.lf wl (fQ e)),.v (.n .i64 (t.2.2.1:Int))]),(57,.reg 3 1 (.fo t.2.2.2.1 (fQ t.2.2.2.2)))]⟩) else none)))]
set_option maxRecDepth 100000 in
theorem jUL (ws:Wsp) (wl:Nat) (e:Nat→Int):kH Tf (orMd ws 2 wl e) (qZ (zXD ws wl e)) 60 22 [.a [.lf ws.n (fJ ws.js),.lf ws.m (fM ws.ms),.lf ws.c (fS ws.sh),.lf ws.d (fK ws.sk),.lf 2 (fO ws.ob),.lf ws.np (fZ ws.pl),.lf ws.nh (fH ws.hd),.lf ws.ng (fG ws.gr),.n .i64 ws.slack],.lf wl (fQ e)] =
 (bif (gB1 cnx hnx enx (wl,0,e,(vYX .i64 ((ws.np:Int) + (ws.nh:Int))))) then (bif (gSt (hMd ws 2 wl e 0 (vYX .i64 ((nxV e wl 0 (vYX .i64 ((ws.np:Int) + (ws.nh:Int)))) - (ws.nh:Int))) (mA wl 0 1) 0 (fun _=>0)) (hMd ws 2 wl e 0 (vYX .i64 ((nxV e wl 0 (vYX .i64 ((ws.np:Int) + (ws.nh:Int)))) - (ws.nh:Int))) (mA wl 0 1) 0 (fun _=>0))) then (bif (gP (0≤50∧¬ vYX .i64 ((ws.np:Int) + (ws.nh:Int))=0∧hasQ (fun _=>0) 0 (mdS ws 0 (fun _=>0) (vYX .i64 ((nxV e wl 0 (vYX .i64 ((ws.np:Int) + (ws.nh:Int)))) - (ws.nh:Int))))=false)) then (bif (decide (0 + 1≤1000000)) then (bif (gB1 cnx hnx enx (wl,(mA wl 0 1),e,(vYX .i64 ((ws.np:Int) + (ws.nh:Int))))) then (bif (gSt (hMd ws 2 wl e 1 (vYX .i64 ((nxV e wl (mA wl 0 1) (vYX .i64 ((ws.np:Int) + (ws.nh:Int)))) - (ws.nh:Int))) (mA wl 0 2) 1 (fun v=>(bif (Nat.beq v 0) then (mdS ws 0 (fun _=>0) (vYX .i64 ((nxV e wl 0 (vYX .i64 ((ws.np:Int) + (ws.nh:Int)))) - (ws.nh:Int)))) else 0))) (hMd ws 2 wl e 1 (vYX .i64 ((nxV e wl (mA wl 0 1) (vYX .i64 ((ws.np:Int) + (ws.nh:Int)))) - (ws.nh:Int))) (mA wl 0 2) 1 (fun v=>(bif (Nat.beq v 0) then (mdS ws 0 (fun _=>0) (vYX .i64 ((nxV e wl 0 (vYX .i64 ((ws.np:Int) + (ws.nh:Int)))) - (ws.nh:Int)))) else 0)))) then (bif (gP (1≤50∧¬ vYX .i64 ((ws.np:Int) + (ws.nh:Int))=0∧hasQ (fun v=>(bif (Nat.beq v 0) then (mdS ws 0 (fun _=>0) (vYX .i64 ((nxV e wl 0 (vYX .i64 ((ws.np:Int) + (ws.nh:Int)))) - (ws.nh:Int)))) else 0)) 1 (mdS ws 1 (fun v=>(bif (Nat.beq v 0) then (mdS ws 0 (fun _=>0) (vYX .i64 ((nxV e wl 0 (vYX .i64 ((ws.np:Int) + (ws.nh:Int)))) - (ws.nh:Int)))) else 0)) (vYX .i64 ((nxV e wl (mA wl 0 1) (vYX .i64 ((ws.np:Int) + (ws.nh:Int)))) - (ws.nh:Int))))=false)) then (bif (decide (1 + 1≤1000000)) then some (.v (.a [.lf 2 (fun v=>[.n .i64 (bif (Nat.beq v 1) then (mdS ws 1 (fun v=>(bif (Nat.beq v 0) then (mdS ws 0 (fun _=>0) (vYX .i64 ((nxV e wl 0 (vYX .i64 ((ws.np:Int) + (ws.nh:Int)))) - (ws.nh:Int)))) else 0)) (vYX .i64 ((nxV e wl (mA wl 0 1) (vYX .i64 ((ws.np:Int) + (ws.nh:Int)))) - (ws.nh:Int)))) else (bif (Nat.beq v 0) then (mdS ws 0 (fun _=>0) (vYX .i64 ((nxV e wl 0 (vYX .i64 ((ws.np:Int) + (ws.nh:Int)))) - (ws.nh:Int)))) else 0))])]),[])
 else none)
 else none)
 else none)
 else none)
 else none)
 else none)
 else none)
 else none):=by kernel_rfl
theorem yKV (ws:Wsp) (wl:Nat) (e:Nat→Int) (hw:wl≤9223372036854775807) (hp:1≤ws.np∧ws.np≤50) (hh:1≤ws.nh∧ws.nh≤50):qH Tryz.prog 22 [.a [.lf ws.n (fJ ws.js),.lf ws.m (fM ws.ms),.lf ws.c (fS ws.sh),.lf ws.d (fK ws.sk),.lf 2 (fO ws.ob),.lf ws.np (fZ ws.pl),.lf ws.nh (fH ws.hd),.lf ws.ng (fG ws.gr),.n .i64 ws.slack],.lf wl (fQ e)] (.v (.a [.lf 2 (fQ (mdB ws wl e))])):=by
 refine qX (N:=60) (LO:=qZ (zXD ws wl e)) yG qG (yH (l:=[(69,o_us)]) (m:=[(43,o_nx)]) ⟨jXH,trivial⟩ ⟨jJK,trivial⟩) (fun p S hp => ?_) ?_
 ·refine qK (L:=qQ Tf 22) (l:=(zXD ws wl e)) (show AllP _ (zXD ws wl e) from ⟨?_,trivial⟩) p S hp
  ·dsimp only;refine yQ (T:=Tf) (o:=(orMd ws 2 wl e)) (f:=22) (LO:=qZ []) (p:=[0,0,1,0,0,1,0,0,1,0,1,1,1]) yV ?_;intro t K r hr;obtain ⟨hg,hr⟩:=qY hr
   skip
   exact (lpMd K ws 2 wl e t.1 t.2.1 t.2.2.1 t.2.2.2.1 t.2.2.2.2 (zX hg)).trans hr
 ·refine (jUL ws wl e).trans ?_;have hk:(vYX .i64 ((ws.np:Int) + (ws.nh:Int)))=(ws.np:Int) + (ws.nh:Int):=zU (by omega);have h0:0 < (vYX .i64 ((ws.np:Int) + (ws.nh:Int)))∧(vYX .i64 ((ws.np:Int) + (ws.nh:Int)))≤9223372036854775807:=by rw [hk]; omega
  have hz:¬ (vYX .i64 ((ws.np:Int) + (ws.nh:Int)))=0:=by rw [hk]; omega
  have b0:=kin hp hh wl e 0;have b1:=kin hp hh wl e (mA wl 0 1);have g0:∀ (q:Nat→Int) (k:Int),gP (0≤50∧¬ (vYX .i64 ((ws.np:Int) + (ws.nh:Int)))=0∧hasQ q 0 (mdS ws 0 q k)=false)=true:=fun q k=>qYH ⟨by decide,hz,rfl⟩
  rw [qZE (C:=cnx) (t:=(wl,0,e,(vYX .i64 ((ws.np:Int) + (ws.nh:Int))))) ⟨Nat.zero_le _,hw,h0.1,h0.2⟩,zQ,g0,vYQ,vYQ,vYQ,vYJ (show 0 + 1≤1000000 by decide),vYQ];have h1:=yGD hp hh (q:=mdA ws wl e) b1;have g1:gP (1≤50∧¬ (vYX .i64 ((ws.np:Int) + (ws.nh:Int)))=0∧hasQ (fun v=>(bif (Nat.beq v 0) then (mdS ws 0 (fun _=>0) (vYX .i64 ((nxV e wl 0 (vYX .i64 ((ws.np:Int) + (ws.nh:Int)))) - (ws.nh:Int)))) else 0)) 1 (mdS ws 1 (fun v=>(bif (Nat.beq v 0) then (mdS ws 0 (fun _=>0) (vYX .i64 ((nxV e wl 0 (vYX .i64 ((ws.np:Int) + (ws.nh:Int)))) - (ws.nh:Int)))) else 0)) (vYX .i64 ((nxV e wl (mA wl 0 1) (vYX .i64 ((ws.np:Int) + (ws.nh:Int)))) - (ws.nh:Int))))=false)=true:=qYH ⟨by decide,hz,h1.1⟩;rw [qZE (C:=cnx) (t:=(wl,mA wl 0 1,e,(vYX .i64 ((ws.np:Int) + (ws.nh:Int))))) ⟨uJ (Nat.zero_le _) 1,hw,h0.1,h0.2⟩,zQ,g1,vYQ,vYQ,vYQ,vYJ (show 1 + 1≤1000000 by decide),vYQ];rfl
theorem jJI {ws:Wsp} (h:MadeW ws) (wl:Nat) (e:Nat→Int) (hw:wl≤9223372036854775807):∃ q:Nat→Int,vlB ws ws.no q=true∧qH Tryz.prog 22 [.a (wP ws),.lf wl (fQ e)] (.v (.a [.lf ws.no (fQ q)])):=by
 have hp:1≤ws.np∧ws.np≤50:=by have:=h.np; omega
 have hh:1≤ws.nh∧ws.nh≤50:=by have:=h.nh; omega
 have b0:=kin hp hh wl e 0;have b1:=kin hp hh wl e (mA wl 0 1);have hok:=jJL h;have hn:=h.no;by_cases hc:ws.no=1
 ·refine ⟨mdA ws wl e,?_,?_⟩
  ·unfold vlB;rw [hok,hc];show (mdG ws (mdA ws wl e) 0 && true)=true;unfold mdG;rw [show mdA ws wl e 0=vYX .i64 ((nxV e wl 0 (vYX .i64 ((ws.np:Int) + (ws.nh:Int)))) - (ws.nh:Int)) from rfl,yYX b0 (by omega)];rfl
  ·have:=yKG ws wl e hw hp hh
   unfold wP;rw [hc];exact this
 ·have hc2:ws.no=2:=by omega
  refine ⟨mdB ws wl e,?_,?_⟩
  ·have h1:=yGD hp hh (q:=mdA ws wl e) b1;unfold vlB;rw [hok,hc2];show (mdG ws (mdB ws wl e) 0 && (mdG ws (mdB ws wl e) 1 && true))=true;unfold mdG;rw [show mdB ws wl e 0=vYX .i64 ((nxV e wl 0 (vYX .i64 ((ws.np:Int) + (ws.nh:Int)))) - (ws.nh:Int)) from rfl,yYX b0 (by omega),show mdB ws wl e 1=mdS ws 1 (mdA ws wl e) (vYX .i64 ((nxV e wl (mA wl 0 1) (vYX .i64 ((ws.np:Int) + (ws.nh:Int)))) - (ws.nh:Int))) from rfl,yYX h1.2 (by omega)];have h2:hasQ (mdB ws wl e) 1 (mdS ws 1 (mdA ws wl e) (vYX .i64 ((nxV e wl (mA wl 0 1) (vYX .i64 ((ws.np:Int) + (ws.nh:Int)))) - (ws.nh:Int))))=false:=by
    rw [qWX];have h3:=h1.1;rw [qWX] at h3;exact h3
   rw [h2];rfl
  ·have:=yKV ws wl e hw hp hh
   unfold wP;rw [hc2];exact this
end Go.Proofs.YtmeldddgjfocdaaGreat.Hn
namespace Go.Proofs.YtmeldddgjfocdaaGreat.Hz
open Go.Rx Rt Go.Sx Go.RowKit Od Na Nb Nc Nx Nf Nl Nm Ga Gb Gc Gd Ge Gf Gg Sn Ha Hb Hc Hd He Hf Hg Hh Hi Hj Hk Hm Hn Hw
noncomputable def orCn (ws:Wsp) (wl:Nat) (e:Nat→Int) (wm:Nat) (e2 qa:Nat→Int):OrS:=orS [(16,o_cr [] (.v (.b true))),(17,o_cr [.lf wl (fQ e)] (.v (.a (wP ws)))),(22,o_cr [.a (wP ws),.lf wm (fQ e2)] (.v (.a [.lf ws.no (fQ qa)]))),(36,o_cr [.a (wP ws),.a [.lf ws.no (fQ qa)]] (.v (.t [.a [.lf ws.n (fJ ws.js),.lf ws.m (fM ws.ms),.lf (scR ws qa).1 (fS ((scR ws qa).2)),.lf ws.d (fK ws.sk)],.n .i64 0]))),(37,o_cr [.a [.lf ws.n (fJ ws.js),.lf ws.m (fM ws.ms),.lf (scR ws qa).1 (fS ((scR ws qa).2)),.lf ws.d (fK ws.sk)]] (.v (.n .i64 0))),(38,o_cr [.a [.lf ws.n (fJ ws.js),.lf ws.m (fM ws.ms)],.a [.lf ws.n (fJ ws.js),.lf ws.m (fM ws.ms)]] (.v (.b true))),(39,o_cr [.a [.lf ws.n (fJ ws.js),.lf ws.m (fM ws.ms),.lf ((ws.c:Int).toNat - 0) (fS (fun v=>((scR ws qa).2 (v + 0)))),.lf ws.d (fK ws.sk)],.a (scP ws)] (.v (.b true)))] []
noncomputable def hCn (ws:Wsp) (_:Nat) (e:Nat→Int) (_:Nat) (_ qa:Nat→Int) (i:Int) (s:Int):St:=⟨[(5,.p 5 0),(7,.p 7 0),(8,.v (.n .i64 0)),(9,.v (.n .i64 s)),(10,.v (.n .i64 i))],[(5,.blk [.v (.lf ws.n (fJ ws.js)),.v (.lf ws.m (fM ws.ms)),.v (.lf ws.c (fS ws.sh)),.v (.lf ws.d (fK ws.sk)),.v (.lf ws.no (fO ws.ob)),.v (.lf ws.np (fZ ws.pl)),.v (.lf ws.nh (fH ws.hd)),.v (.lf ws.ng (fG ws.gr)),.v (.n .i64 ws.slack)]),(7,.blk [.v (.lf ws.n (fJ ws.js)),.v (.lf ws.m (fM ws.ms)),.v (.lf (scR ws qa).1 (fS ((scR ws qa).2))),.v (.lf ws.d (fK ws.sk))])]⟩
set_option maxRecDepth 100000 in
theorem rdCn (G:St→Option (Ret × Mem)) (K:Cont) (ws:Wsp) (wl:Nat) (e:Nat→Int) (wm:Nat) (e2 qa:Nat→Int) (i:Int) (s:Int):yJ 60 (cxS Tf (orCn ws wl e wm e2 qa) 60 9 (ntmF Tf 9)) (evX Tf (orCn ws wl e wm e2 qa) 60 9 (ntmF Tf 9)) (qZ []) (qQ Tf 9 [0,1,0,1,1,1,1,1]) [0,1,0,1,1,1,1,1] (Tf.hint 9 (qJ (qQ Tf 9 [0,1,0,1,1,1,1,1]))) K G (hCn ws wl e wm e2 qa i s) =
 (bif (decide (i < (ws.no:Int))) then (bif (inB i ws.no) then (G (hCn ws wl e wm e2 qa (vYX .i64 (i + 1)) (vYX .i64 (s + ((ws.ob (i).toNat).ns:Int)))))
 else none)
 else (K (.exit 0) ⟨[(5,.p 5 0),(7,.p 7 0),(8,.v (.n .i64 0)),(9,.v (.n .i64 s))],[(5,.blk [.v (.lf ws.n (fJ ws.js)),.v (.lf ws.m (fM ws.ms)),.v (.lf ws.c (fS ws.sh)),.v (.lf ws.d (fK ws.sk)),.v (.lf ws.no (fO ws.ob)),.v (.lf ws.np (fZ ws.pl)),.v (.lf ws.nh (fH ws.hd)),.v (.lf ws.ng (fG ws.gr)),.v (.n .i64 ws.slack)]),(7,.blk [.v (.lf ws.n (fJ ws.js)),.v (.lf ws.m (fM ws.ms)),.v (.lf (scR ws qa).1 (fS ((scR ws qa).2))),.v (.lf ws.d (fK ws.sk))])]⟩)):=by kernel_rfl
theorem lpCn (K:Cont) (ws:Wsp) (wl:Nat) (e:Nat→Int) (wm:Nat) (e2 qa:Nat→Int) (_:ws.no≤50):LFX 60 (cxS Tf (orCn ws wl e wm e2 qa) 60 9 (ntmF Tf 9)) (evX Tf (orCn ws wl e wm e2 qa) 60 9 (ntmF Tf 9)) (qZ []) (qQ Tf 9 [0,1,0,1,1,1,1,1]) [0,1,0,1,1,1,1,1] (Tf.hint 9 (qJ (qQ Tf 9 [0,1,0,1,1,1,1,1]))) K 60 (hCn ws wl e wm e2 qa 0 (ws.c:Int))=(K (.exit 0) ⟨[(5,.p 5 0),(7,.p 7 0),(8,.v (.n .i64 0)),(9,.v (.n .i64 (qYZ (fun (i:Nat) (s:Int)=>vYX .i64 (s + ((ws.ob i).ns:Int))) ws.no 0 (ws.c:Int))))],[(5,.blk [.v (.lf ws.n (fJ ws.js)),.v (.lf ws.m (fM ws.ms)),.v (.lf ws.c (fS ws.sh)),.v (.lf ws.d (fK ws.sk)),.v (.lf ws.no (fO ws.ob)),.v (.lf ws.np (fZ ws.pl)),.v (.lf ws.nh (fH ws.hd)),.v (.lf ws.ng (fG ws.gr)),.v (.n .i64 ws.slack)]),(7,.blk [.v (.lf ws.n (fJ ws.js)),.v (.lf ws.m (fM ws.ms)),.v (.lf (scR ws qa).1 (fS ((scR ws qa).2))),.v (.lf ws.d (fK ws.sk))])]⟩):=by
 refine (jJ (L:=LFX 60 (cxS Tf (orCn ws wl e wm e2 qa) 60 9 (ntmF Tf 9)) (evX Tf (orCn ws wl e wm e2 qa) 60 9 (ntmF Tf 9)) (qZ []) (qQ Tf 9 [0,1,0,1,1,1,1,1]) [0,1,0,1,1,1,1,1] (Tf.hint 9 (qJ (qQ Tf 9 [0,1,0,1,1,1,1,1]))) K) (stp:=yJ 60 (cxS Tf (orCn ws wl e wm e2 qa) 60 9 (ntmF Tf 9)) (evX Tf (orCn ws wl e wm e2 qa) 60 9 (ntmF Tf 9)) (qZ []) (qQ Tf 9 [0,1,0,1,1,1,1,1]) [0,1,0,1,1,1,1,1] (Tf.hint 9 (qJ (qQ Tf 9 [0,1,0,1,1,1,1,1]))) K) (fun _ _=>rfl) (fun (i:Nat) (s:Int)=>hCn ws wl e wm e2 qa (i:Int) s) (fun _ _=>True) (fun _ _=>true) (fun (i:Nat) (s:Int)=>vYX .i64 (s + ((ws.ob i).ns:Int))) (c:=ws.no) (fun s=>(K (.exit 0) ⟨[(5,.p 5 0),(7,.p 7 0),(8,.v (.n .i64 0)),(9,.v (.n .i64 s))],[(5,.blk [.v (.lf ws.n (fJ ws.js)),.v (.lf ws.m (fM ws.ms)),.v (.lf ws.c (fS ws.sh)),.v (.lf ws.d (fK ws.sk)),.v (.lf ws.no (fO ws.ob)),.v (.lf ws.np (fZ ws.pl)),.v (.lf ws.nh (fH ws.hd)),.v (.lf ws.ng (fG ws.gr)),.v (.n .i64 ws.slack)]),(7,.blk [.v (.lf ws.n (fJ ws.js)),.v (.lf ws.m (fM ws.ms)),.v (.lf (scR ws qa).1 (fS ((scR ws qa).2))),.v (.lf ws.d (fK ws.sk))])]⟩)) (fun _ _=>none) (fun G i s hi _ => ?_) (fun _ _ _ _ _=>trivial) (fun G s _ => ?_) ws.no 0 60 (ws.c:Int) (by omega) (by omega) trivial).trans (qQK ws.no 0 _)
 ·refine (rdCn G K ws wl e wm e2 qa i s).trans ?_;simp only [vYJ (show (i:Int) < (ws.no:Int) by omega),jZ (show i < 1000000 by omega),zJ (show i < ws.no by omega),toN,vYQ]
  all_goals rfl
 ·refine (rdCn G K ws wl e wm e2 qa ws.no s).trans ?_;rw [vYY (show ¬ (ws.no:Int) < (ws.no:Int) by omega)];rfl
noncomputable def yVZ (ws:Wsp) (wl:Nat) (e:Nat→Int) (wm:Nat) (e2 qa:Nat→Int):List (List Nat × yU):=[([0,1,0,1,1,1,1,1],sumF (fun _:Unit=>(hCn ws wl e wm e2 qa 0 (ws.c:Int))) (fun _=>()) (fun _ K=>(bif (decide (ws.no≤50)) then (K (.exit 0) ⟨[(5,.p 5 0),(7,.p 7 0),(8,.v (.n .i64 0)),(9,.v (.n .i64 (qYZ (fun (i:Nat) (s:Int)=>vYX .i64 (s + ((ws.ob i).ns:Int))) ws.no 0 (ws.c:Int))))],[(5,.blk [.v (.lf ws.n (fJ ws.js)),.v (.lf ws.m (fM ws.ms)),.v (.lf ws.c (fS ws.sh)),.v (.lf ws.d (fK ws.sk)),.v (.lf ws.no (fO ws.ob)),.v (.lf ws.np (fZ ws.pl)),.v (.lf ws.nh (fH ws.hd)),.v (.lf ws.ng (fG ws.gr)),.v (.n .i64 ws.slack)]),(7,.blk [.v (.lf ws.n (fJ ws.js)),.v (.lf ws.m (fM ws.ms)),.v (.lf (scR ws qa).1 (fS ((scR ws qa).2))),.v (.lf ws.d (fK ws.sk))])]⟩) else none)))]
set_option maxRecDepth 100000 in
theorem jHI (ws:Wsp) (wl:Nat) (e:Nat→Int) (wm:Nat) (e2 qa:Nat→Int):kH Tf (orCn ws wl e wm e2 qa) (qZ (yVZ ws wl e wm e2 qa)) 60 9 [.lf wl (fQ e),.lf wm (fQ e2)] =
 (bif (g1 [.lf wl (fQ e)]) then (bif (g1 [.a (wP ws),.lf wm (fQ e2)]) then (bif (g1 [.a (wP ws),.a [.lf ws.no (fQ qa)]]) then (bif (gSt (hCn ws wl e wm e2 qa 0 (ws.c:Int)) (hCn ws wl e wm e2 qa 0 (ws.c:Int))) then (bif (decide (ws.no≤50)) then (bif (!decide (((scR ws qa).1:Int)=(qYZ (fun (i:Nat) (s:Int)=>vYX .i64 (s + ((ws.ob i).ns:Int))) ws.no 0 (ws.c:Int)))) then some (.v (.b false),[])
 else (bif (g1 [.a [.lf ws.n (fJ ws.js),.lf ws.m (fM ws.ms),.lf (scR ws qa).1 (fS ((scR ws qa).2)),.lf ws.d (fK ws.sk)]]) then (bif (g1 [.a [.lf ws.n (fJ ws.js),.lf ws.m (fM ws.ms)],.a [.lf ws.n (fJ ws.js),.lf ws.m (fM ws.ms)]]) then (bif (inS none (some (ws.c:Int)) (scR ws qa).1) then (bif (g1 []) then (bif (g1 [.a [.lf ws.n (fJ ws.js),.lf ws.m (fM ws.ms),.lf ((ws.c:Int).toNat - 0) (fS (fun v=>((scR ws qa).2 (v + 0)))),.lf ws.d (fK ws.sk)],.a (scP ws)]) then some (.v (.b true),[])
 else none)
 else none)
 else none)
 else none)
 else none))
 else none)
 else none)
 else none)
 else none)
 else none):=by kernel_rfl
theorem jQV (ws:Wsp) (wl:Nat) (e:Nat→Int) (wm:Nat) (e2 qa:Nat→Int) (hA:qH Tryz.prog 16 [] (.v (.b true))) (hW:qH Tryz.prog 17 [.lf wl (fQ e)] (.v (.a (wP ws)))) (hM:qH Tryz.prog 22 [.a (wP ws),.lf wm (fQ e2)] (.v (.a [.lf ws.no (fQ qa)]))) (hSc:qH Tryz.prog 36 [.a (wP ws),.a [.lf ws.no (fQ qa)]] (.v (.t [.a [.lf ws.n (fJ ws.js),.lf ws.m (fM ws.ms),.lf (scR ws qa).1 (fS ((scR ws qa).2)),.lf ws.d (fK ws.sk)],.n .i64 0]))) (hC:qH Tryz.prog 37 [.a [.lf ws.n (fJ ws.js),.lf ws.m (fM ws.ms),.lf (scR ws qa).1 (fS ((scR ws qa).2)),.lf ws.d (fK ws.sk)]] (.v (.n .i64 0))) (hR:qH Tryz.prog 38 [.a [.lf ws.n (fJ ws.js),.lf ws.m (fM ws.ms)],.a [.lf ws.n (fJ ws.js),.lf ws.m (fM ws.ms)]] (.v (.b true))) (hS:qH Tryz.prog 39 [.a [.lf ws.n (fJ ws.js),.lf ws.m (fM ws.ms),.lf ((ws.c:Int).toNat - 0) (fS (fun v=>((scR ws qa).2 (v + 0)))),.lf ws.d (fK ws.sk)],.a (scP ws)] (.v (.b true))) (hno:ws.no≤50) (hlen:((scR ws qa).1:Int)=qYZ (fun (i:Nat) (s:Int)=>vYX .i64 (s + ((ws.ob i).ns:Int))) ws.no 0 (ws.c:Int)) (hin:inS none (some (ws.c:Int)) (scR ws qa).1=true):qH Tryz.prog 9 [.lf wl (fQ e),.lf wm (fQ e2)] (.v (.b true)):=by
 refine qX (N:=60) (LO:=qZ (yVZ ws wl e wm e2 qa)) yG qG (yH (l:=[(16,o_cr [] (.v (.b true))),(17,o_cr [.lf wl (fQ e)] (.v (.a (wP ws)))),(22,o_cr [.a (wP ws),.lf wm (fQ e2)] (.v (.a [.lf ws.no (fQ qa)]))),(36,o_cr [.a (wP ws),.a [.lf ws.no (fQ qa)]] (.v (.t [.a [.lf ws.n (fJ ws.js),.lf ws.m (fM ws.ms),.lf (scR ws qa).1 (fS ((scR ws qa).2)),.lf ws.d (fK ws.sk)],.n .i64 0]))),(37,o_cr [.a [.lf ws.n (fJ ws.js),.lf ws.m (fM ws.ms),.lf (scR ws qa).1 (fS ((scR ws qa).2)),.lf ws.d (fK ws.sk)]] (.v (.n .i64 0))),(38,o_cr [.a [.lf ws.n (fJ ws.js),.lf ws.m (fM ws.ms)],.a [.lf ws.n (fJ ws.js),.lf ws.m (fM ws.ms)]] (.v (.b true))),(39,o_cr [.a [.lf ws.n (fJ ws.js),.lf ws.m (fM ws.ms),.lf ((ws.c:Int).toNat - 0) (fS (fun v=>((scR ws qa).2 (v + 0)))),.lf ws.d (fK ws.sk)],.a (scP ws)] (.v (.b true)))]) (m:=[]) ⟨qVJ hA,qVJ hW,qVJ hM,qVJ hSc,qVJ hC,qVJ hR,qVJ hS,trivial⟩ trivial) (fun p S hp => ?_) ?_
 ·refine qK (L:=qQ Tf 9) (l:=(yVZ ws wl e wm e2 qa)) (show AllP _ (yVZ ws wl e wm e2 qa) from ⟨?_,trivial⟩) p S hp
  ·dsimp only;refine yQ (T:=Tf) (o:=(orCn ws wl e wm e2 qa)) (f:=9) (LO:=qZ []) (p:=[0,1,0,1,1,1,1,1]) yV ?_;intro t K r hr;obtain ⟨hg,hr⟩:=qY hr;have hn:=vYK hg;exact (lpCn K ws wl e wm e2 qa hn).trans hr
 ·refine (jHI ws wl e wm e2 qa).trans ?_;simp only [g1_t,zQ,vYJ hno,vYJ hlen,hin,Bool.not_true,vYQ,vYZ]
theorem jKL {ws:Wsp} (h:∀ i,i < ws.no→(ws.ob i).ns=1) (_:ws.no≤50) (_:ws.c≤1000):qYZ (fun (i:Nat) (s:Int)=>vYX .i64 (s + ((ws.ob i).ns:Int))) ws.no 0 (ws.c:Int)=(ws.c:Int) + (ws.no:Int) :=
 jK (Q:=fun (i:Nat) (s:Int)=>s=(ws.c:Int) + (i:Int)) (c:=ws.no) (nx:=fun (i:Nat) (s:Int)=>vYX .i64 (s + ((ws.ob i).ns:Int))) (fun i s hi e=>by
  subst e;show vYX .i64 ((ws.c:Int) + (i:Int) + ((ws.ob i).ns:Int))=(ws.c:Int) + ((i + 1:Nat):Int);rw [h i hi,zU (by omega)]; omega) ws.no 0 (ws.c:Int) (by omega) (by omega)
theorem snd_law (hA:qH Tryz.prog 16 [] (.v (.b true))) (l:List Int) (hl:l.length≤9223372036854775807) (m:List Int) (hm1:m.length≤9223372036854775807):qH Tryz.prog 9 [zUZ l,zUZ m] (.v (.b true)):=by
 obtain ⟨ws,hm,hW⟩:=jKE l.length (iqOf l) hl;obtain ⟨qa,hv,hM⟩:=jJI hm m.length (iqOf m) hm1;have ho:=qWU hm;have hnc:=kKU hm hv;obtain ⟨w0,_,_⟩:=zKZ hv;have hs:=(qZY w0).1;have hn:=yZQ (qZQ hs).1;have hmm:=yGG (qZQ hs).1;have hd:=yGV hs;have hno:=hm.no;have hc:=hm.c;have h1:=jQQ ws ws.no qa ho;unfold scE at h1;rw [vYJ w0,hv] at h1;have h2:=jQJ ws.js ws.ms (scR ws qa).2 ws.sk ws.n ws.m (scR ws qa).1 ws.d;rw [jGK hm hv] at h2;have h3:=zHL ws.js ws.ms ws.n ws.m (by omega) (by omega);have h4:=yHF ws.js ws.ms ws.sh ws.sk ws.n ws.m ws.c ws.d (by omega) (by omega) (by omega) (by omega) (fun i hi=>by
  have:=qHB (qHC ((qZQ hs).2.2 i hi)).2
  omega)
 have h5:qH Tryz.prog 39 [.a [.lf ws.n (fJ ws.js),.lf ws.m (fM ws.ms),.lf ((ws.c:Int).toNat - 0) (fS (fun v=>((scR ws qa).2 (v + 0)))),.lf ws.d (fK ws.sk)],.a (scP ws)] (.v (.b true)):=qHA (fun F w vals h=>Sames.al (xs:=[_,_]) (ys:=[_,_]) ⟨Same.a (xs:=[_,_,_,_]) (ys:=[_,_,_,_]) ⟨Same.refl _,Same.refl _,yZF (n:=ws.c) fun j hj=>congrArg sP (jZW ws qa j hj),Same.refl _,trivial⟩,Same.refl _,trivial⟩ h) h4;refine qHA (fun F w vals h=>Sames.al (xs:=[zUZ l,zUZ m]) (ys:=[.lf l.length (fQ (iqOf l)),.lf m.length (fQ (iqOf m))]) ⟨zJQ l,zJQ m,trivial⟩ h) ?_;exact jQV ws _ _ _ _ qa hA hW hM h1 h2 h3 h5 (by omega) (by rw [jKL (fun i hi=>(hm.ob i hi).2.1) (by omega) (by omega),hnc]; omega) (by rw [hnc]; unfold inS loOf hiOf; simp)
end Go.Proofs.YtmeldddgjfocdaaGreat.Hz
namespace Go.Proofs.YtmeldddgjfocdaaGreat.Ag
open Go.Rx Rt
theorem cl85:qH Tryz.prog 85 [.l []] (.v (.l [])):=qWC (jY (N:=60) zV qG qQH (by kernel_rfl)) (qWD (e:=134) (sz:=5) (jY (N:=60) zV qG qQH (by kernel_rfl)))
theorem cl87:qH Tryz.prog 87 [.l []] (.v (.l [])):=qWC (jY (N:=60) zV qG qQH (by kernel_rfl)) (qWD (e:=103) (sz:=2) (jY (N:=60) zV qG qQH (by kernel_rfl)))
noncomputable def tC:Known:=[(85,[([.l []],.v (.l []))]),(87,[([.l []],.v (.l []))])]
theorem okC:Known.Ok Tryz.prog tC:=by
 intro x hx y hy;simp only [tC,vZG,List.not_mem_nil,or_false] at hx;rcases hx with rfl | rfl
 ·simp only [vZG,List.not_mem_nil,or_false] at hy;subst hy;exact cl85
 ·simp only [vZG,List.not_mem_nil,or_false] at hy;subst hy;exact cl87
noncomputable def k112:List (List PV × Ret):=[([.n .i32 97],.v (.b true)),
 ([.n .i32 98],.v (.b true)),
 ([.n .i32 111],.v (.b true))]
noncomputable def t112:Known:=(112,k112) :: tC
theorem kJB:Known.Ok Tryz.prog t112:=Known.add zV qG (okC) (N:=60) (by kernel_rfl)
noncomputable def k61:List (List PV × Ret):=[([.s (ByteArray.mk #[97])],.v (.b true)),
 ([.s (ByteArray.mk #[98])],.v (.b true)),
 ([.s (ByteArray.mk #[111])],.v (.b true))]
noncomputable def t61:Known:=(61,k61) :: t112
theorem ok61:Known.Ok Tryz.prog t61:=Known.add zV qG (kJB) (N:=60) (by kernel_rfl)
noncomputable def k168:List (List PV × Ret):=[([.a [.l [[.s (ByteArray.mk #[97]),.n .i64 4,.n .i64 (-1),.n .i64 0,.n .i64 0,.n .i64 0,.n .i64 0,.n .i64 64,.n .i64 1,.n .i64 65536,.n .i64 65536,.n .i64 65536],[.s (ByteArray.mk #[98]),.n .i64 5,.n .i64 0,.n .i64 0,.n .i64 0,.n .i64 0,.n .i64 0,.n .i64 64,.n .i64 1,.n .i64 65536,.n .i64 65536,.n .i64 65536]],.l []],.s (ByteArray.mk #[97])],.v (.n .i64 0)),
 ([.a [.l [[.s (ByteArray.mk #[97]),.n .i64 4,.n .i64 (-1),.n .i64 0,.n .i64 0,.n .i64 0,.n .i64 0,.n .i64 64,.n .i64 1,.n .i64 65536,.n .i64 65536,.n .i64 65536],[.s (ByteArray.mk #[98]),.n .i64 5,.n .i64 0,.n .i64 0,.n .i64 0,.n .i64 0,.n .i64 0,.n .i64 64,.n .i64 1,.n .i64 65536,.n .i64 65536,.n .i64 65536]],.l []],.s (ByteArray.mk #[98])],.v (.n .i64 1))]
noncomputable def t168:Known:=(168,k168) :: t61
theorem kYC:Known.Ok Tryz.prog t168:=Known.add zV qG (ok61) (N:=60) (by kernel_rfl)
noncomputable def k169:List (List PV × Ret):=[([.a [.n .i64 0,.n .i64 0,.n .i64 0]],.v (.b false))]
noncomputable def t169:Known:=(169,k169) :: t168
theorem kYB:Known.Ok Tryz.prog t169:=Known.add zV qG (kYC) (N:=60) (by kernel_rfl)
noncomputable def k170:List (List PV × Ret):=[([.n .i64 4],.v (.n .i64 4194304)),
 ([.n .i64 5],.v (.n .i64 4194304))]
noncomputable def t170:Known:=(170,k170) :: t169
theorem kYA:Known.Ok Tryz.prog t170:=Known.add zV qG (kYB) (N:=60) (by kernel_rfl)
noncomputable def k171:List (List PV × Ret):=[([.n .i64 1,.n .i64 1024],.v (.b true)),
 ([.n .i64 65536,.n .i64 1048576],.v (.b true)),
 ([.n .i64 65536,.n .i64 1099511627776],.v (.b true))]
noncomputable def t171:Known:=(171,k171) :: t170
theorem kYH:Known.Ok Tryz.prog t171:=Known.add zV qG (kYA) (N:=60) (by kernel_rfl)
noncomputable def k146:List (List PV × Ret):=[([.a [.l [[.s (ByteArray.mk #[97]),.n .i64 4,.n .i64 (-1),.n .i64 0,.n .i64 0,.n .i64 0,.n .i64 0,.n .i64 64,.n .i64 1,.n .i64 65536,.n .i64 65536,.n .i64 65536],[.s (ByteArray.mk #[98]),.n .i64 5,.n .i64 0,.n .i64 0,.n .i64 0,.n .i64 0,.n .i64 0,.n .i64 64,.n .i64 1,.n .i64 65536,.n .i64 65536,.n .i64 65536]],.l []],.n .i64 0],.v (.n .i64 0)),
 ([.a [.l [[.s (ByteArray.mk #[97]),.n .i64 4,.n .i64 (-1),.n .i64 0,.n .i64 0,.n .i64 0,.n .i64 0,.n .i64 64,.n .i64 1,.n .i64 65536,.n .i64 65536,.n .i64 65536],[.s (ByteArray.mk #[98]),.n .i64 5,.n .i64 0,.n .i64 0,.n .i64 0,.n .i64 0,.n .i64 0,.n .i64 64,.n .i64 1,.n .i64 65536,.n .i64 65536,.n .i64 65536]],.l []],.n .i64 1],.v (.n .i64 0))]
noncomputable def t146:Known:=(146,k146) :: t171
theorem kJJ:Known.Ok Tryz.prog t146:=Known.add zV qG (kYH) (N:=60) (by kernel_rfl)
noncomputable def k104:List (List PV × Ret):=[([.a [.l [[.s (ByteArray.mk #[97]),.n .i64 4,.n .i64 (-1),.n .i64 0,.n .i64 0,.n .i64 0,.n .i64 0,.n .i64 64,.n .i64 1,.n .i64 65536,.n .i64 65536,.n .i64 65536],[.s (ByteArray.mk #[98]),.n .i64 5,.n .i64 0,.n .i64 0,.n .i64 0,.n .i64 0,.n .i64 0,.n .i64 64,.n .i64 1,.n .i64 65536,.n .i64 65536,.n .i64 65536]],.l []]],.v (.n .i64 0))]
noncomputable def t104:Known:=(104,k104) :: t146
theorem kJE:Known.Ok Tryz.prog t104:=Known.add zV qG (kJJ) (N:=60) (by kernel_rfl)
noncomputable def k58:List (List PV × Ret):=[([.a [.l [[.s (ByteArray.mk #[97]),.n .i64 4,.n .i64 (-1),.n .i64 0,.n .i64 0,.n .i64 0,.n .i64 0,.n .i64 64,.n .i64 1,.n .i64 65536,.n .i64 65536,.n .i64 65536],[.s (ByteArray.mk #[98]),.n .i64 5,.n .i64 0,.n .i64 0,.n .i64 0,.n .i64 0,.n .i64 0,.n .i64 64,.n .i64 1,.n .i64 65536,.n .i64 65536,.n .i64 65536]],.l [],.l [],.l []]],.v (.n .i64 0))]
noncomputable def t58:Known:=(58,k58) :: t104
theorem ok58:Known.Ok Tryz.prog t58:=Known.add zV qG (kJE) (N:=60) (by kernel_rfl)
noncomputable def k111:List (List PV × Ret):=[([.a [.n .i64 16,.n .i64 0,.n .i64 0]],.v (.b true)),
 ([.a [.n .i64 32,.n .i64 8,.n .i64 0]],.v (.b true)),
 ([.a [.n .i64 0,.n .i64 0,.n .i64 0]],.v (.b true)),
 ([.a [.n .i64 1,.n .i64 2,.n .i64 3]],.v (.b true))]
noncomputable def t111:Known:=(111,k111) :: t58
theorem kJC:Known.Ok Tryz.prog t111:=Known.add zV qG (ok58) (N:=60) (by kernel_rfl)
noncomputable def k59:List (List PV × Ret):=[([.a [.l [[.s (ByteArray.mk #[97]),.n .i64 4,.n .i64 (-1),.n .i64 0,.n .i64 0,.n .i64 0,.n .i64 0,.n .i64 64,.n .i64 1,.n .i64 65536,.n .i64 65536,.n .i64 65536],[.s (ByteArray.mk #[98]),.n .i64 5,.n .i64 0,.n .i64 0,.n .i64 0,.n .i64 0,.n .i64 0,.n .i64 64,.n .i64 1,.n .i64 65536,.n .i64 65536,.n .i64 65536]],.l [],.l [],.l [],.l [[.s (ByteArray.mk #[111]),.l [[.n .i64 0,.n .i64 1,.l [[.n .i64 1,.n .i64 2,.n .i64 3]]]]]],.l [[.n .i64 16,.n .i64 0,.n .i64 0],[.n .i64 32,.n .i64 8,.n .i64 0]],.l [[.n .i64 1,.n .i64 0,.n .i64 0,.n .i64 0]],.l [],.n .i64 0]],.v (.b true))]
noncomputable def t59:Known:=(59,k59) :: t111
theorem ok59:Known.Ok Tryz.prog t59:=Known.add zV qG (kJC) (N:=60) (by kernel_rfl)
noncomputable def k115:List (List PV × Ret):=[([.a [.n .i64 0,.n .i64 1,.l [[.n .i64 1,.n .i64 2,.n .i64 3]]]],.v (.b true))]
noncomputable def t115:Known:=(115,k115) :: t59
theorem kJA:Known.Ok Tryz.prog t115:=Known.add zV qG (ok59) (N:=60) (by kernel_rfl)
noncomputable def k63:List (List PV × Ret):=[([.a [.s (ByteArray.mk #[111]),.l [[.n .i64 0,.n .i64 1,.l [[.n .i64 1,.n .i64 2,.n .i64 3]]]]]],.v (.b true))]
noncomputable def t63:Known:=(63,k63) :: t115
theorem ok63:Known.Ok Tryz.prog t63:=Known.add zV qG (kJA) (N:=60) (by kernel_rfl)
noncomputable def k19:List (List PV × Ret):=[([.a [.l [[.s (ByteArray.mk #[97]),.n .i64 4,.n .i64 (-1),.n .i64 0,.n .i64 0,.n .i64 0,.n .i64 0,.n .i64 64,.n .i64 1,.n .i64 65536,.n .i64 65536,.n .i64 65536],[.s (ByteArray.mk #[98]),.n .i64 5,.n .i64 0,.n .i64 0,.n .i64 0,.n .i64 0,.n .i64 0,.n .i64 64,.n .i64 1,.n .i64 65536,.n .i64 65536,.n .i64 65536]],.l [],.l [],.l [],.l [[.s (ByteArray.mk #[111]),.l [[.n .i64 0,.n .i64 1,.l [[.n .i64 1,.n .i64 2,.n .i64 3]]]]]],.l [[.n .i64 16,.n .i64 0,.n .i64 0],[.n .i64 32,.n .i64 8,.n .i64 0]],.l [[.n .i64 1,.n .i64 0,.n .i64 0,.n .i64 0]],.l [],.n .i64 0]],.v (.n .i64 0))]
noncomputable def t19:Known:=(19,k19) :: t63
theorem ok19:Known.Ok Tryz.prog t19:=Known.add zV qG (ok63) (N:=60) (by kernel_rfl)
noncomputable def k34:List (List PV × Ret):=[([.a [.l [[.s (ByteArray.mk #[97]),.n .i64 4,.n .i64 (-1),.n .i64 0,.n .i64 0,.n .i64 0,.n .i64 0,.n .i64 64,.n .i64 1,.n .i64 65536,.n .i64 65536,.n .i64 65536],[.s (ByteArray.mk #[98]),.n .i64 5,.n .i64 0,.n .i64 0,.n .i64 0,.n .i64 0,.n .i64 0,.n .i64 64,.n .i64 1,.n .i64 65536,.n .i64 65536,.n .i64 65536]],.l [],.l [],.l [],.l [[.s (ByteArray.mk #[111]),.l [[.n .i64 0,.n .i64 1,.l [[.n .i64 1,.n .i64 2,.n .i64 3]]]]]],.l [[.n .i64 16,.n .i64 0,.n .i64 0],[.n .i64 32,.n .i64 8,.n .i64 0]],.l [[.n .i64 1,.n .i64 0,.n .i64 0,.n .i64 0]],.l [],.n .i64 0],.a [.l [[.n .i64 0]]]],.v (.b true)),
 ([.a [.l [[.s (ByteArray.mk #[97]),.n .i64 4,.n .i64 (-1),.n .i64 0,.n .i64 0,.n .i64 0,.n .i64 0,.n .i64 64,.n .i64 1,.n .i64 65536,.n .i64 65536,.n .i64 65536],[.s (ByteArray.mk #[98]),.n .i64 5,.n .i64 0,.n .i64 0,.n .i64 0,.n .i64 0,.n .i64 0,.n .i64 64,.n .i64 1,.n .i64 65536,.n .i64 65536,.n .i64 65536]],.l [],.l [],.l [],.l [[.s (ByteArray.mk #[111]),.l [[.n .i64 0,.n .i64 1,.l [[.n .i64 1,.n .i64 2,.n .i64 3]]]]]],.l [[.n .i64 16,.n .i64 0,.n .i64 0],[.n .i64 32,.n .i64 8,.n .i64 0]],.l [[.n .i64 1,.n .i64 0,.n .i64 0,.n .i64 0]],.l [],.n .i64 0],.a [.l [[.n .i64 (-1)]]]],.v (.b true))]
noncomputable def t34:Known:=(34,k34) :: t19
theorem ok34:Known.Ok Tryz.prog t34:=Known.add zV qG (ok19) (N:=60) (by kernel_rfl)
noncomputable def k76:List (List PV × Ret):=[([.a [.l [[.s (ByteArray.mk #[97]),.n .i64 4,.n .i64 (-1),.n .i64 0,.n .i64 0,.n .i64 0,.n .i64 0,.n .i64 64,.n .i64 1,.n .i64 65536,.n .i64 65536,.n .i64 65536],[.s (ByteArray.mk #[98]),.n .i64 5,.n .i64 0,.n .i64 0,.n .i64 0,.n .i64 0,.n .i64 0,.n .i64 64,.n .i64 1,.n .i64 65536,.n .i64 65536,.n .i64 65536]],.l []],.l [[.n .i64 16],[.n .i64 0]]],.v (.b true)),
 ([.a [.l [[.s (ByteArray.mk #[97]),.n .i64 4,.n .i64 (-1),.n .i64 0,.n .i64 0,.n .i64 0,.n .i64 0,.n .i64 64,.n .i64 1,.n .i64 65536,.n .i64 65536,.n .i64 65536],[.s (ByteArray.mk #[98]),.n .i64 5,.n .i64 0,.n .i64 0,.n .i64 0,.n .i64 0,.n .i64 0,.n .i64 64,.n .i64 1,.n .i64 65536,.n .i64 65536,.n .i64 65536]],.l []],.l [[.n .i64 32],[.n .i64 8]]],.v (.b true))]
noncomputable def t76:Known:=(76,k76) :: t34
theorem ok76:Known.Ok Tryz.prog t76:=Known.add zV qG (ok34) (N:=60) (by kernel_rfl)
noncomputable def k177:List (List PV × Ret):=[([.n .i64 16],.v (.n .i64 16)),
 ([.n .i64 0],.v (.n .i64 0)),
 ([.n .i64 65536],.v (.n .i64 65536)),
 ([.n .i64 32],.v (.n .i64 32)),
 ([.n .i64 8],.v (.n .i64 8))]
noncomputable def t177:Known:=(177,k177) :: t76
theorem kYG:Known.Ok Tryz.prog t177:=Known.add zV qG (ok76) (N:=60) (by kernel_rfl)
noncomputable def k156:List (List PV × Ret):=[([.n .i64 16,.n .i64 16],.v (.a [.n .i64 16,.n .i64 16])),
 ([.n .i64 0,.n .i64 0],.v (.a [.n .i64 0,.n .i64 0])),
 ([.n .i64 65536,.n .i64 65536],.v (.a [.n .i64 65536,.n .i64 65536])),
 ([.n .i64 32,.n .i64 32],.v (.a [.n .i64 32,.n .i64 32])),
 ([.n .i64 8,.n .i64 8],.v (.a [.n .i64 8,.n .i64 8]))]
noncomputable def t156:Known:=(156,k156) :: t177
theorem kJY:Known.Ok Tryz.prog t156:=Known.add zV qG (kYG) (N:=60) (by kernel_rfl)
noncomputable def k128:List (List PV × Ret):=[([.n .i64 16],.v (.a [.n .i64 16,.n .i64 16])),
 ([.n .i64 0],.v (.a [.n .i64 0,.n .i64 0])),
 ([.n .i64 65536],.v (.a [.n .i64 65536,.n .i64 65536])),
 ([.n .i64 32],.v (.a [.n .i64 32,.n .i64 32])),
 ([.n .i64 8],.v (.a [.n .i64 8,.n .i64 8]))]
noncomputable def t128:Known:=(128,k128) :: t156
theorem kJG:Known.Ok Tryz.prog t128:=Known.add zV qG (kJY) (N:=60) (by kernel_rfl)
noncomputable def k127:List (List PV × Ret):=[([.l [[.n .i64 16],[.n .i64 0]],.f 128 [] []],.ow 62 2 (.l [[.n .i64 16,.n .i64 16],[.n .i64 0,.n .i64 0]])),
 ([.l [[.n .i64 32],[.n .i64 8]],.f 128 [] []],.ow 62 2 (.l [[.n .i64 32,.n .i64 32],[.n .i64 8,.n .i64 8]]))]
noncomputable def t127:Known:=(127,k127) :: t128
theorem kJH:Known.Ok Tryz.prog t127:=Known.add zV qG (kJG) (N:=60) (by kernel_rfl)
noncomputable def k77:List (List PV × Ret):=[([.l [[.n .i64 16],[.n .i64 0]]],.v (.l [[.n .i64 16,.n .i64 16],[.n .i64 0,.n .i64 0]])),
 ([.l [[.n .i64 32],[.n .i64 8]]],.v (.l [[.n .i64 32,.n .i64 32],[.n .i64 8,.n .i64 8]]))]
noncomputable def t77:Known:=(77,k77) :: t127
theorem ok77:Known.Ok Tryz.prog t77:=Known.add zV qG (kJH) (N:=60) (by kernel_rfl)
noncomputable def k145:List (List PV × Ret):=[([.a [.n .i64 16,.n .i64 16]],.v (.b true)),
 ([.a [.n .i64 0,.n .i64 0]],.v (.b true)),
 ([.a [.n .i64 65536,.n .i64 65536]],.v (.b true)),
 ([.a [.n .i64 32,.n .i64 32]],.v (.b true)),
 ([.a [.n .i64 8,.n .i64 8]],.v (.b true))]
noncomputable def t145:Known:=(145,k145) :: t77
theorem kJK:Known.Ok Tryz.prog t145:=Known.add zV qG (ok77) (N:=60) (by kernel_rfl)
noncomputable def k167:List (List PV × Ret):=[([.l [[.n .i64 16,.n .i64 16],[.n .i64 0,.n .i64 0]],.f 144 [] []],.v (.n .i64 (-1))),
 ([.l [[.n .i64 32,.n .i64 32],[.n .i64 8,.n .i64 8]],.f 144 [] []],.v (.n .i64 (-1)))]
noncomputable def t167:Known:=(167,k167) :: t145
theorem kYD:Known.Ok Tryz.prog t167:=Known.add zV qG (kJK) (N:=60) (by kernel_rfl)
noncomputable def k143:List (List PV × Ret):=[([.l [[.n .i64 16,.n .i64 16],[.n .i64 0,.n .i64 0]],.f 144 [] []],.v (.b false)),
 ([.l [[.n .i64 32,.n .i64 32],[.n .i64 8,.n .i64 8]],.f 144 [] []],.v (.b false))]
noncomputable def t143:Known:=(143,k143) :: t167
theorem kJU:Known.Ok Tryz.prog t143:=Known.add zV qG (kYD) (N:=60) (by kernel_rfl)
noncomputable def k103:List (List PV × Ret):=[([.a [.l [[.s (ByteArray.mk #[97]),.n .i64 4,.n .i64 (-1),.n .i64 0,.n .i64 0,.n .i64 0,.n .i64 0,.n .i64 64,.n .i64 1,.n .i64 65536,.n .i64 65536,.n .i64 65536],[.s (ByteArray.mk #[98]),.n .i64 5,.n .i64 0,.n .i64 0,.n .i64 0,.n .i64 0,.n .i64 0,.n .i64 64,.n .i64 1,.n .i64 65536,.n .i64 65536,.n .i64 65536]],.l []],.l [[.n .i64 16,.n .i64 16],[.n .i64 0,.n .i64 0]]],.v (.b true)),
 ([.a [.l [[.s (ByteArray.mk #[97]),.n .i64 4,.n .i64 (-1),.n .i64 0,.n .i64 0,.n .i64 0,.n .i64 0,.n .i64 64,.n .i64 1,.n .i64 65536,.n .i64 65536,.n .i64 65536],[.s (ByteArray.mk #[98]),.n .i64 5,.n .i64 0,.n .i64 0,.n .i64 0,.n .i64 0,.n .i64 0,.n .i64 64,.n .i64 1,.n .i64 65536,.n .i64 65536,.n .i64 65536]],.l []],.l [[.n .i64 32,.n .i64 32],[.n .i64 8,.n .i64 8]]],.v (.b true))]
noncomputable def t103:Known:=(103,k103) :: t143
theorem kJF:Known.Ok Tryz.prog t103:=Known.add zV qG (kJU) (N:=60) (by kernel_rfl)
noncomputable def k79:List (List PV × Ret):=[([.a [.n .i64 0,.n .i64 0,.n .i64 0]],.v (.a [.n .i64 0,.n .i64 0,.n .i64 0,.n .i64 0,.n .i64 0,.n .i64 0]))]
noncomputable def t79:Known:=(79,k79) :: t103
theorem ok79:Known.Ok Tryz.prog t79:=Known.add zV qG (kJF) (N:=60) (by kernel_rfl)
noncomputable def k137:List (List PV × Ret):=[([],.v (.a [.n .i64 65536,.n .i64 65536,.n .i64 0,.n .i64 0,.n .i64 0,.n .i64 0,.n .i64 0,.n .i64 0,.n .i64 65536,.n .i64 65536,.n .i64 0,.n .i64 0,.n .i64 0,.n .i64 0,.n .i64 0,.n .i64 0,.n .i64 65536,.n .i64 65536]))]
noncomputable def t137:Known:=(137,k137) :: t79
theorem kJW:Known.Ok Tryz.prog t137:=Known.add zV qG (ok79) (N:=60) (by kernel_rfl)
noncomputable def k98:List (List PV × Ret):=[([.a [.n .i64 0,.n .i64 0,.n .i64 0,.n .i64 0,.n .i64 0,.n .i64 0]],.v (.a [.n .i64 65536,.n .i64 65536,.n .i64 0,.n .i64 0,.n .i64 0,.n .i64 0,.n .i64 0,.n .i64 0,.n .i64 65536,.n .i64 65536,.n .i64 0,.n .i64 0,.n .i64 0,.n .i64 0,.n .i64 0,.n .i64 0,.n .i64 65536,.n .i64 65536,.n .i64 0,.n .i64 0,.n .i64 0,.n .i64 0,.n .i64 0,.n .i64 0])),
 ([.a [.n .i64 16,.n .i64 16,.n .i64 0,.n .i64 0,.n .i64 0,.n .i64 0]],.v (.a [.n .i64 65536,.n .i64 65536,.n .i64 0,.n .i64 0,.n .i64 0,.n .i64 0,.n .i64 0,.n .i64 0,.n .i64 65536,.n .i64 65536,.n .i64 0,.n .i64 0,.n .i64 0,.n .i64 0,.n .i64 0,.n .i64 0,.n .i64 65536,.n .i64 65536,.n .i64 16,.n .i64 16,.n .i64 0,.n .i64 0,.n .i64 0,.n .i64 0])),
 ([.a [.n .i64 32,.n .i64 32,.n .i64 0,.n .i64 0,.n .i64 0,.n .i64 0]],.v (.a [.n .i64 65536,.n .i64 65536,.n .i64 0,.n .i64 0,.n .i64 0,.n .i64 0,.n .i64 0,.n .i64 0,.n .i64 65536,.n .i64 65536,.n .i64 0,.n .i64 0,.n .i64 0,.n .i64 0,.n .i64 0,.n .i64 0,.n .i64 65536,.n .i64 65536,.n .i64 32,.n .i64 32,.n .i64 0,.n .i64 0,.n .i64 0,.n .i64 0])),
 ([.a [.n .i64 0,.n .i64 0,.n .i64 8,.n .i64 8,.n .i64 0,.n .i64 0]],.v (.a [.n .i64 65536,.n .i64 65536,.n .i64 0,.n .i64 0,.n .i64 0,.n .i64 0,.n .i64 0,.n .i64 0,.n .i64 65536,.n .i64 65536,.n .i64 0,.n .i64 0,.n .i64 0,.n .i64 0,.n .i64 0,.n .i64 0,.n .i64 65536,.n .i64 65536,.n .i64 0,.n .i64 0,.n .i64 8,.n .i64 8,.n .i64 0,.n .i64 0]))]
noncomputable def t98:Known:=(98,k98) :: t137
theorem ok98:Known.Ok Tryz.prog t98:=Known.add zV qG (kJW) (N:=60) (by kernel_rfl)
noncomputable def k139:List (List PV × Ret):=[([.n .i64 0,.a [.n .i64 16,.n .i64 16]],.v (.a [.n .i64 65536,.n .i64 65536,.n .i64 0,.n .i64 0,.n .i64 0,.n .i64 0,.n .i64 0,.n .i64 0,.n .i64 65536,.n .i64 65536,.n .i64 0,.n .i64 0,.n .i64 0,.n .i64 0,.n .i64 0,.n .i64 0,.n .i64 65536,.n .i64 65536,.n .i64 16,.n .i64 16,.n .i64 0,.n .i64 0,.n .i64 0,.n .i64 0])),
 ([.n .i64 1,.a [.n .i64 0,.n .i64 0]],.v (.a [.n .i64 65536,.n .i64 65536,.n .i64 0,.n .i64 0,.n .i64 0,.n .i64 0,.n .i64 0,.n .i64 0,.n .i64 65536,.n .i64 65536,.n .i64 0,.n .i64 0,.n .i64 0,.n .i64 0,.n .i64 0,.n .i64 0,.n .i64 65536,.n .i64 65536,.n .i64 0,.n .i64 0,.n .i64 0,.n .i64 0,.n .i64 0,.n .i64 0])),
 ([.n .i64 0,.a [.n .i64 32,.n .i64 32]],.v (.a [.n .i64 65536,.n .i64 65536,.n .i64 0,.n .i64 0,.n .i64 0,.n .i64 0,.n .i64 0,.n .i64 0,.n .i64 65536,.n .i64 65536,.n .i64 0,.n .i64 0,.n .i64 0,.n .i64 0,.n .i64 0,.n .i64 0,.n .i64 65536,.n .i64 65536,.n .i64 32,.n .i64 32,.n .i64 0,.n .i64 0,.n .i64 0,.n .i64 0])),
 ([.n .i64 1,.a [.n .i64 8,.n .i64 8]],.v (.a [.n .i64 65536,.n .i64 65536,.n .i64 0,.n .i64 0,.n .i64 0,.n .i64 0,.n .i64 0,.n .i64 0,.n .i64 65536,.n .i64 65536,.n .i64 0,.n .i64 0,.n .i64 0,.n .i64 0,.n .i64 0,.n .i64 0,.n .i64 65536,.n .i64 65536,.n .i64 0,.n .i64 0,.n .i64 8,.n .i64 8,.n .i64 0,.n .i64 0]))]
noncomputable def t139:Known:=(139,k139) :: t98
theorem kJX:Known.Ok Tryz.prog t139:=Known.add zV qG (ok98) (N:=60) (by kernel_rfl)
noncomputable def k178:List (List PV × Ret):=[([.a [.n .i64 65536,.n .i64 65536],.a [.n .i64 65536,.n .i64 65536]],.v (.b true)),
 ([.a [.n .i64 0,.n .i64 0],.a [.n .i64 65536,.n .i64 65536]],.v (.b true)),
 ([.a [.n .i64 0,.n .i64 0],.a [.n .i64 0,.n .i64 0]],.v (.b true)),
 ([.a [.n .i64 65536,.n .i64 65536],.a [.n .i64 0,.n .i64 0]],.v (.b true)),
 ([.a [.n .i64 65536,.n .i64 65536],.a [.n .i64 16,.n .i64 16]],.v (.b true)),
 ([.a [.n .i64 0,.n .i64 0],.a [.n .i64 16,.n .i64 16]],.v (.b true)),
 ([.a [.n .i64 16,.n .i64 16],.a [.n .i64 0,.n .i64 0]],.v (.b true)),
 ([.a [.n .i64 65536,.n .i64 65536],.a [.n .i64 32,.n .i64 32]],.v (.b true)),
 ([.a [.n .i64 0,.n .i64 0],.a [.n .i64 32,.n .i64 32]],.v (.b true)),
 ([.a [.n .i64 32,.n .i64 32],.a [.n .i64 0,.n .i64 0]],.v (.b true)),
 ([.a [.n .i64 0,.n .i64 0],.a [.n .i64 8,.n .i64 8]],.v (.b true)),
 ([.a [.n .i64 65536,.n .i64 65536],.a [.n .i64 8,.n .i64 8]],.v (.b true)),
 ([.a [.n .i64 8,.n .i64 8],.a [.n .i64 0,.n .i64 0]],.v (.b true))]
noncomputable def t178:Known:=(178,k178) :: t139
theorem kYV:Known.Ok Tryz.prog t178:=Known.add zV qG (kJX) (N:=60) (by kernel_rfl)
noncomputable def k184:List (List PV × Ret):=[([.n .i64 4294967296,.n .i64 16],.v (.n .i64 65536)),
 ([.n .i64 0,.n .i64 16],.v (.n .i64 0)),
 ([.n .i64 1048576,.n .i64 16],.v (.n .i64 16)),
 ([.n .i64 2097152,.n .i64 16],.v (.n .i64 32)),
 ([.n .i64 524288,.n .i64 16],.v (.n .i64 8))]
noncomputable def t184:Known:=(184,k184) :: t178
theorem kYX:Known.Ok Tryz.prog t184:=Known.add zV qG (kYV) (N:=60) (by kernel_rfl)
noncomputable def k185:List (List PV × Ret):=[([.n .i64 4294967296,.n .i64 16],.v (.n .i64 65536)),
 ([.n .i64 0,.n .i64 16],.v (.n .i64 0)),
 ([.n .i64 1048576,.n .i64 16],.v (.n .i64 16)),
 ([.n .i64 2097152,.n .i64 16],.v (.n .i64 32)),
 ([.n .i64 524288,.n .i64 16],.v (.n .i64 8))]
noncomputable def t185:Known:=(185,k185) :: t184
theorem kYU:Known.Ok Tryz.prog t185:=Known.add zV qG (kYX) (N:=60) (by kernel_rfl)
noncomputable def k179:List (List PV × Ret):=[([.n .i64 4294967296,.n .i64 4294967296],.v (.a [.n .i64 65536,.n .i64 65536])),
 ([.n .i64 0,.n .i64 0],.v (.a [.n .i64 0,.n .i64 0])),
 ([.n .i64 1048576,.n .i64 1048576],.v (.a [.n .i64 16,.n .i64 16])),
 ([.n .i64 2097152,.n .i64 2097152],.v (.a [.n .i64 32,.n .i64 32])),
 ([.n .i64 524288,.n .i64 524288],.v (.a [.n .i64 8,.n .i64 8]))]
noncomputable def t179:Known:=(179,k179) :: t185
theorem kYW:Known.Ok Tryz.prog t179:=Known.add zV qG (kYU) (N:=60) (by kernel_rfl)
noncomputable def k161:List (List PV × Ret):=[([.a [.n .i64 65536,.n .i64 65536],.a [.n .i64 65536,.n .i64 65536]],.v (.a [.n .i64 65536,.n .i64 65536])),
 ([.a [.n .i64 0,.n .i64 0],.a [.n .i64 0,.n .i64 0]],.v (.a [.n .i64 0,.n .i64 0])),
 ([.a [.n .i64 65536,.n .i64 65536],.a [.n .i64 0,.n .i64 0]],.v (.a [.n .i64 0,.n .i64 0])),
 ([.a [.n .i64 0,.n .i64 0],.a [.n .i64 65536,.n .i64 65536]],.v (.a [.n .i64 0,.n .i64 0])),
 ([.a [.n .i64 65536,.n .i64 65536],.a [.n .i64 16,.n .i64 16]],.v (.a [.n .i64 16,.n .i64 16])),
 ([.a [.n .i64 0,.n .i64 0],.a [.n .i64 16,.n .i64 16]],.v (.a [.n .i64 0,.n .i64 0])),
 ([.a [.n .i64 65536,.n .i64 65536],.a [.n .i64 32,.n .i64 32]],.v (.a [.n .i64 32,.n .i64 32])),
 ([.a [.n .i64 0,.n .i64 0],.a [.n .i64 32,.n .i64 32]],.v (.a [.n .i64 0,.n .i64 0])),
 ([.a [.n .i64 0,.n .i64 0],.a [.n .i64 8,.n .i64 8]],.v (.a [.n .i64 0,.n .i64 0])),
 ([.a [.n .i64 65536,.n .i64 65536],.a [.n .i64 8,.n .i64 8]],.v (.a [.n .i64 8,.n .i64 8]))]
noncomputable def t161:Known:=(161,k161) :: t179
theorem kYF:Known.Ok Tryz.prog t161:=Known.add zV qG (kYW) (N:=60) (by kernel_rfl)
noncomputable def k160:List (List PV × Ret):=[([.a [.n .i64 0,.n .i64 0],.a [.n .i64 65536,.n .i64 65536]],.v (.a [.n .i64 65536,.n .i64 65536])),
 ([.a [.n .i64 65536,.n .i64 65536],.a [.n .i64 0,.n .i64 0]],.v (.a [.n .i64 65536,.n .i64 65536])),
 ([.a [.n .i64 0,.n .i64 0],.a [.n .i64 0,.n .i64 0]],.v (.a [.n .i64 0,.n .i64 0])),
 ([.a [.n .i64 0,.n .i64 0],.a [.n .i64 16,.n .i64 16]],.v (.a [.n .i64 16,.n .i64 16])),
 ([.a [.n .i64 16,.n .i64 16],.a [.n .i64 0,.n .i64 0]],.v (.a [.n .i64 16,.n .i64 16])),
 ([.a [.n .i64 0,.n .i64 0],.a [.n .i64 32,.n .i64 32]],.v (.a [.n .i64 32,.n .i64 32])),
 ([.a [.n .i64 32,.n .i64 32],.a [.n .i64 0,.n .i64 0]],.v (.a [.n .i64 32,.n .i64 32])),
 ([.a [.n .i64 0,.n .i64 0],.a [.n .i64 8,.n .i64 8]],.v (.a [.n .i64 8,.n .i64 8])),
 ([.a [.n .i64 8,.n .i64 8],.a [.n .i64 0,.n .i64 0]],.v (.a [.n .i64 8,.n .i64 8]))]
noncomputable def t160:Known:=(160,k160) :: t161
theorem kYI:Known.Ok Tryz.prog t160:=Known.add zV qG (kYF) (N:=60) (by kernel_rfl)
noncomputable def k162:List (List PV × Ret):=[([.n .i64 65536],.v (.n .i64 65536)),
 ([.n .i64 0],.v (.n .i64 0))]
noncomputable def t162:Known:=(162,k162) :: t160
theorem kYE:Known.Ok Tryz.prog t162:=Known.add zV qG (kYI) (N:=60) (by kernel_rfl)
noncomputable def k136:List (List PV × Ret):=[([.a [.n .i64 65536,.n .i64 65536,.n .i64 0,.n .i64 0,.n .i64 0,.n .i64 0,.n .i64 0,.n .i64 0,.n .i64 65536,.n .i64 65536,.n .i64 0,.n .i64 0,.n .i64 0,.n .i64 0,.n .i64 0,.n .i64 0,.n .i64 65536,.n .i64 65536],.a [.n .i64 65536,.n .i64 65536,.n .i64 0,.n .i64 0,.n .i64 0,.n .i64 0,.n .i64 0,.n .i64 0,.n .i64 65536,.n .i64 65536,.n .i64 0,.n .i64 0,.n .i64 0,.n .i64 0,.n .i64 0,.n .i64 0,.n .i64 65536,.n .i64 65536]],.v (.a [.n .i64 65536,.n .i64 65536,.n .i64 0,.n .i64 0,.n .i64 0,.n .i64 0,.n .i64 0,.n .i64 0,.n .i64 65536,.n .i64 65536,.n .i64 0,.n .i64 0,.n .i64 0,.n .i64 0,.n .i64 0,.n .i64 0,.n .i64 65536,.n .i64 65536]))]
noncomputable def t136:Known:=(136,k136) :: t162
theorem kJV:Known.Ok Tryz.prog t136:=Known.add zV qG (kYE) (N:=60) (by kernel_rfl)
noncomputable def k159:List (List PV × Ret):=[([.a [.n .i64 65536,.n .i64 65536,.n .i64 0,.n .i64 0,.n .i64 0,.n .i64 0,.n .i64 0,.n .i64 0,.n .i64 65536,.n .i64 65536,.n .i64 0,.n .i64 0,.n .i64 0,.n .i64 0,.n .i64 0,.n .i64 0,.n .i64 65536,.n .i64 65536],.a [.n .i64 16,.n .i64 16,.n .i64 0,.n .i64 0,.n .i64 0,.n .i64 0]],.v (.a [.n .i64 16,.n .i64 16,.n .i64 0,.n .i64 0,.n .i64 0,.n .i64 0])),
 ([.a [.n .i64 65536,.n .i64 65536,.n .i64 0,.n .i64 0,.n .i64 0,.n .i64 0,.n .i64 0,.n .i64 0,.n .i64 65536,.n .i64 65536,.n .i64 0,.n .i64 0,.n .i64 0,.n .i64 0,.n .i64 0,.n .i64 0,.n .i64 65536,.n .i64 65536],.a [.n .i64 0,.n .i64 0,.n .i64 0,.n .i64 0,.n .i64 0,.n .i64 0]],.v (.a [.n .i64 0,.n .i64 0,.n .i64 0,.n .i64 0,.n .i64 0,.n .i64 0])),
 ([.a [.n .i64 65536,.n .i64 65536,.n .i64 0,.n .i64 0,.n .i64 0,.n .i64 0,.n .i64 0,.n .i64 0,.n .i64 65536,.n .i64 65536,.n .i64 0,.n .i64 0,.n .i64 0,.n .i64 0,.n .i64 0,.n .i64 0,.n .i64 65536,.n .i64 65536],.a [.n .i64 32,.n .i64 32,.n .i64 0,.n .i64 0,.n .i64 0,.n .i64 0]],.v (.a [.n .i64 32,.n .i64 32,.n .i64 0,.n .i64 0,.n .i64 0,.n .i64 0])),
 ([.a [.n .i64 65536,.n .i64 65536,.n .i64 0,.n .i64 0,.n .i64 0,.n .i64 0,.n .i64 0,.n .i64 0,.n .i64 65536,.n .i64 65536,.n .i64 0,.n .i64 0,.n .i64 0,.n .i64 0,.n .i64 0,.n .i64 0,.n .i64 65536,.n .i64 65536],.a [.n .i64 0,.n .i64 0,.n .i64 8,.n .i64 8,.n .i64 0,.n .i64 0]],.v (.a [.n .i64 0,.n .i64 0,.n .i64 8,.n .i64 8,.n .i64 0,.n .i64 0]))]
noncomputable def t159:Known:=(159,k159) :: t136
theorem kYL:Known.Ok Tryz.prog t159:=Known.add zV qG (kJV) (N:=60) (by kernel_rfl)
noncomputable def k158:List (List PV × Ret):=[([.a [.n .i64 0,.n .i64 0,.n .i64 0,.n .i64 0,.n .i64 0,.n .i64 0],.a [.n .i64 16,.n .i64 16,.n .i64 0,.n .i64 0,.n .i64 0,.n .i64 0]],.v (.a [.n .i64 16,.n .i64 16,.n .i64 0,.n .i64 0,.n .i64 0,.n .i64 0])),
 ([.a [.n .i64 0,.n .i64 0,.n .i64 0,.n .i64 0,.n .i64 0,.n .i64 0],.a [.n .i64 0,.n .i64 0,.n .i64 0,.n .i64 0,.n .i64 0,.n .i64 0]],.v (.a [.n .i64 0,.n .i64 0,.n .i64 0,.n .i64 0,.n .i64 0,.n .i64 0])),
 ([.a [.n .i64 16,.n .i64 16,.n .i64 0,.n .i64 0,.n .i64 0,.n .i64 0],.a [.n .i64 0,.n .i64 0,.n .i64 0,.n .i64 0,.n .i64 0,.n .i64 0]],.v (.a [.n .i64 16,.n .i64 16,.n .i64 0,.n .i64 0,.n .i64 0,.n .i64 0])),
 ([.a [.n .i64 0,.n .i64 0,.n .i64 0,.n .i64 0,.n .i64 0,.n .i64 0],.a [.n .i64 32,.n .i64 32,.n .i64 0,.n .i64 0,.n .i64 0,.n .i64 0]],.v (.a [.n .i64 32,.n .i64 32,.n .i64 0,.n .i64 0,.n .i64 0,.n .i64 0])),
 ([.a [.n .i64 0,.n .i64 0,.n .i64 0,.n .i64 0,.n .i64 0,.n .i64 0],.a [.n .i64 0,.n .i64 0,.n .i64 8,.n .i64 8,.n .i64 0,.n .i64 0]],.v (.a [.n .i64 0,.n .i64 0,.n .i64 8,.n .i64 8,.n .i64 0,.n .i64 0])),
 ([.a [.n .i64 32,.n .i64 32,.n .i64 0,.n .i64 0,.n .i64 0,.n .i64 0],.a [.n .i64 0,.n .i64 0,.n .i64 8,.n .i64 8,.n .i64 0,.n .i64 0]],.v (.a [.n .i64 32,.n .i64 32,.n .i64 8,.n .i64 8,.n .i64 0,.n .i64 0])),
 ([.a [.n .i64 32,.n .i64 32,.n .i64 8,.n .i64 8,.n .i64 0,.n .i64 0],.a [.n .i64 0,.n .i64 0,.n .i64 0,.n .i64 0,.n .i64 0,.n .i64 0]],.v (.a [.n .i64 32,.n .i64 32,.n .i64 8,.n .i64 8,.n .i64 0,.n .i64 0]))]
noncomputable def t158:Known:=(158,k158) :: t159
theorem kJQ:Known.Ok Tryz.prog t158:=Known.add zV qG (kYL) (N:=60) (by kernel_rfl)
noncomputable def k157:List (List PV × Ret):=[([.a [.n .i64 16,.n .i64 16,.n .i64 0,.n .i64 0,.n .i64 0,.n .i64 0],.c [.n .i64 65536,.n .i64 65536,.n .i64 0,.n .i64 0,.n .i64 0,.n .i64 0,.n .i64 0,.n .i64 0,.n .i64 65536,.n .i64 65536,.n .i64 0,.n .i64 0,.n .i64 0,.n .i64 0,.n .i64 0,.n .i64 0,.n .i64 65536,.n .i64 65536,.n .i64 0,.n .i64 0,.n .i64 0,.n .i64 0,.n .i64 0,.n .i64 0] 0],.v (.a [.n .i64 16,.n .i64 16,.n .i64 0,.n .i64 0,.n .i64 0,.n .i64 0])),
 ([.a [.n .i64 0,.n .i64 0,.n .i64 0,.n .i64 0,.n .i64 0,.n .i64 0],.c [.n .i64 65536,.n .i64 65536,.n .i64 0,.n .i64 0,.n .i64 0,.n .i64 0,.n .i64 0,.n .i64 0,.n .i64 65536,.n .i64 65536,.n .i64 0,.n .i64 0,.n .i64 0,.n .i64 0,.n .i64 0,.n .i64 0,.n .i64 65536,.n .i64 65536,.n .i64 0,.n .i64 0,.n .i64 0,.n .i64 0,.n .i64 0,.n .i64 0] 0],.v (.a [.n .i64 0,.n .i64 0,.n .i64 0,.n .i64 0,.n .i64 0,.n .i64 0])),
 ([.a [.n .i64 0,.n .i64 0,.n .i64 0,.n .i64 0,.n .i64 0,.n .i64 0],.c [.n .i64 65536,.n .i64 65536,.n .i64 0,.n .i64 0,.n .i64 0,.n .i64 0,.n .i64 0,.n .i64 0,.n .i64 65536,.n .i64 65536,.n .i64 0,.n .i64 0,.n .i64 0,.n .i64 0,.n .i64 0,.n .i64 0,.n .i64 65536,.n .i64 65536,.n .i64 16,.n .i64 16,.n .i64 0,.n .i64 0,.n .i64 0,.n .i64 0] 0],.v (.a [.n .i64 16,.n .i64 16,.n .i64 0,.n .i64 0,.n .i64 0,.n .i64 0])),
 ([.a [.n .i64 32,.n .i64 32,.n .i64 0,.n .i64 0,.n .i64 0,.n .i64 0],.c [.n .i64 65536,.n .i64 65536,.n .i64 0,.n .i64 0,.n .i64 0,.n .i64 0,.n .i64 0,.n .i64 0,.n .i64 65536,.n .i64 65536,.n .i64 0,.n .i64 0,.n .i64 0,.n .i64 0,.n .i64 0,.n .i64 0,.n .i64 65536,.n .i64 65536,.n .i64 0,.n .i64 0,.n .i64 0,.n .i64 0,.n .i64 0,.n .i64 0] 0],.v (.a [.n .i64 32,.n .i64 32,.n .i64 0,.n .i64 0,.n .i64 0,.n .i64 0])),
 ([.a [.n .i64 0,.n .i64 0,.n .i64 8,.n .i64 8,.n .i64 0,.n .i64 0],.c [.n .i64 65536,.n .i64 65536,.n .i64 0,.n .i64 0,.n .i64 0,.n .i64 0,.n .i64 0,.n .i64 0,.n .i64 65536,.n .i64 65536,.n .i64 0,.n .i64 0,.n .i64 0,.n .i64 0,.n .i64 0,.n .i64 0,.n .i64 65536,.n .i64 65536,.n .i64 0,.n .i64 0,.n .i64 0,.n .i64 0,.n .i64 0,.n .i64 0] 0],.v (.a [.n .i64 0,.n .i64 0,.n .i64 8,.n .i64 8,.n .i64 0,.n .i64 0])),
 ([.a [.n .i64 0,.n .i64 0,.n .i64 8,.n .i64 8,.n .i64 0,.n .i64 0],.c [.n .i64 65536,.n .i64 65536,.n .i64 0,.n .i64 0,.n .i64 0,.n .i64 0,.n .i64 0,.n .i64 0,.n .i64 65536,.n .i64 65536,.n .i64 0,.n .i64 0,.n .i64 0,.n .i64 0,.n .i64 0,.n .i64 0,.n .i64 65536,.n .i64 65536,.n .i64 32,.n .i64 32,.n .i64 0,.n .i64 0,.n .i64 0,.n .i64 0] 0],.v (.a [.n .i64 32,.n .i64 32,.n .i64 8,.n .i64 8,.n .i64 0,.n .i64 0])),
 ([.a [.n .i64 0,.n .i64 0,.n .i64 0,.n .i64 0,.n .i64 0,.n .i64 0],.c [.n .i64 65536,.n .i64 65536,.n .i64 0,.n .i64 0,.n .i64 0,.n .i64 0,.n .i64 0,.n .i64 0,.n .i64 65536,.n .i64 65536,.n .i64 0,.n .i64 0,.n .i64 0,.n .i64 0,.n .i64 0,.n .i64 0,.n .i64 65536,.n .i64 65536,.n .i64 32,.n .i64 32,.n .i64 8,.n .i64 8,.n .i64 0,.n .i64 0] 0],.v (.a [.n .i64 32,.n .i64 32,.n .i64 8,.n .i64 8,.n .i64 0,.n .i64 0]))]
noncomputable def t157:Known:=(157,k157) :: t158
theorem kJZ:Known.Ok Tryz.prog t157:=Known.add zV qG (kJQ) (N:=60) (by kernel_rfl)
noncomputable def k97:List (List PV × Ret):=[([.a [.n .i64 65536,.n .i64 65536,.n .i64 0,.n .i64 0,.n .i64 0,.n .i64 0,.n .i64 0,.n .i64 0,.n .i64 65536,.n .i64 65536,.n .i64 0,.n .i64 0,.n .i64 0,.n .i64 0,.n .i64 0,.n .i64 0,.n .i64 65536,.n .i64 65536,.n .i64 0,.n .i64 0,.n .i64 0,.n .i64 0,.n .i64 0,.n .i64 0],.a [.n .i64 65536,.n .i64 65536,.n .i64 0,.n .i64 0,.n .i64 0,.n .i64 0,.n .i64 0,.n .i64 0,.n .i64 65536,.n .i64 65536,.n .i64 0,.n .i64 0,.n .i64 0,.n .i64 0,.n .i64 0,.n .i64 0,.n .i64 65536,.n .i64 65536,.n .i64 16,.n .i64 16,.n .i64 0,.n .i64 0,.n .i64 0,.n .i64 0]],.v (.a [.n .i64 65536,.n .i64 65536,.n .i64 0,.n .i64 0,.n .i64 0,.n .i64 0,.n .i64 0,.n .i64 0,.n .i64 65536,.n .i64 65536,.n .i64 0,.n .i64 0,.n .i64 0,.n .i64 0,.n .i64 0,.n .i64 0,.n .i64 65536,.n .i64 65536,.n .i64 16,.n .i64 16,.n .i64 0,.n .i64 0,.n .i64 0,.n .i64 0])),
 ([.a [.n .i64 65536,.n .i64 65536,.n .i64 0,.n .i64 0,.n .i64 0,.n .i64 0,.n .i64 0,.n .i64 0,.n .i64 65536,.n .i64 65536,.n .i64 0,.n .i64 0,.n .i64 0,.n .i64 0,.n .i64 0,.n .i64 0,.n .i64 65536,.n .i64 65536,.n .i64 0,.n .i64 0,.n .i64 0,.n .i64 0,.n .i64 0,.n .i64 0],.a [.n .i64 65536,.n .i64 65536,.n .i64 0,.n .i64 0,.n .i64 0,.n .i64 0,.n .i64 0,.n .i64 0,.n .i64 65536,.n .i64 65536,.n .i64 0,.n .i64 0,.n .i64 0,.n .i64 0,.n .i64 0,.n .i64 0,.n .i64 65536,.n .i64 65536,.n .i64 0,.n .i64 0,.n .i64 0,.n .i64 0,.n .i64 0,.n .i64 0]],.v (.a [.n .i64 65536,.n .i64 65536,.n .i64 0,.n .i64 0,.n .i64 0,.n .i64 0,.n .i64 0,.n .i64 0,.n .i64 65536,.n .i64 65536,.n .i64 0,.n .i64 0,.n .i64 0,.n .i64 0,.n .i64 0,.n .i64 0,.n .i64 65536,.n .i64 65536,.n .i64 0,.n .i64 0,.n .i64 0,.n .i64 0,.n .i64 0,.n .i64 0])),
 ([.a [.n .i64 65536,.n .i64 65536,.n .i64 0,.n .i64 0,.n .i64 0,.n .i64 0,.n .i64 0,.n .i64 0,.n .i64 65536,.n .i64 65536,.n .i64 0,.n .i64 0,.n .i64 0,.n .i64 0,.n .i64 0,.n .i64 0,.n .i64 65536,.n .i64 65536,.n .i64 16,.n .i64 16,.n .i64 0,.n .i64 0,.n .i64 0,.n .i64 0],.a [.n .i64 65536,.n .i64 65536,.n .i64 0,.n .i64 0,.n .i64 0,.n .i64 0,.n .i64 0,.n .i64 0,.n .i64 65536,.n .i64 65536,.n .i64 0,.n .i64 0,.n .i64 0,.n .i64 0,.n .i64 0,.n .i64 0,.n .i64 65536,.n .i64 65536,.n .i64 0,.n .i64 0,.n .i64 0,.n .i64 0,.n .i64 0,.n .i64 0]],.v (.a [.n .i64 65536,.n .i64 65536,.n .i64 0,.n .i64 0,.n .i64 0,.n .i64 0,.n .i64 0,.n .i64 0,.n .i64 65536,.n .i64 65536,.n .i64 0,.n .i64 0,.n .i64 0,.n .i64 0,.n .i64 0,.n .i64 0,.n .i64 65536,.n .i64 65536,.n .i64 16,.n .i64 16,.n .i64 0,.n .i64 0,.n .i64 0,.n .i64 0])),
 ([.a [.n .i64 65536,.n .i64 65536,.n .i64 0,.n .i64 0,.n .i64 0,.n .i64 0,.n .i64 0,.n .i64 0,.n .i64 65536,.n .i64 65536,.n .i64 0,.n .i64 0,.n .i64 0,.n .i64 0,.n .i64 0,.n .i64 0,.n .i64 65536,.n .i64 65536,.n .i64 0,.n .i64 0,.n .i64 0,.n .i64 0,.n .i64 0,.n .i64 0],.a [.n .i64 65536,.n .i64 65536,.n .i64 0,.n .i64 0,.n .i64 0,.n .i64 0,.n .i64 0,.n .i64 0,.n .i64 65536,.n .i64 65536,.n .i64 0,.n .i64 0,.n .i64 0,.n .i64 0,.n .i64 0,.n .i64 0,.n .i64 65536,.n .i64 65536,.n .i64 32,.n .i64 32,.n .i64 0,.n .i64 0,.n .i64 0,.n .i64 0]],.v (.a [.n .i64 65536,.n .i64 65536,.n .i64 0,.n .i64 0,.n .i64 0,.n .i64 0,.n .i64 0,.n .i64 0,.n .i64 65536,.n .i64 65536,.n .i64 0,.n .i64 0,.n .i64 0,.n .i64 0,.n .i64 0,.n .i64 0,.n .i64 65536,.n .i64 65536,.n .i64 32,.n .i64 32,.n .i64 0,.n .i64 0,.n .i64 0,.n .i64 0])),
 ([.a [.n .i64 65536,.n .i64 65536,.n .i64 0,.n .i64 0,.n .i64 0,.n .i64 0,.n .i64 0,.n .i64 0,.n .i64 65536,.n .i64 65536,.n .i64 0,.n .i64 0,.n .i64 0,.n .i64 0,.n .i64 0,.n .i64 0,.n .i64 65536,.n .i64 65536,.n .i64 0,.n .i64 0,.n .i64 0,.n .i64 0,.n .i64 0,.n .i64 0],.a [.n .i64 65536,.n .i64 65536,.n .i64 0,.n .i64 0,.n .i64 0,.n .i64 0,.n .i64 0,.n .i64 0,.n .i64 65536,.n .i64 65536,.n .i64 0,.n .i64 0,.n .i64 0,.n .i64 0,.n .i64 0,.n .i64 0,.n .i64 65536,.n .i64 65536,.n .i64 0,.n .i64 0,.n .i64 8,.n .i64 8,.n .i64 0,.n .i64 0]],.v (.a [.n .i64 65536,.n .i64 65536,.n .i64 0,.n .i64 0,.n .i64 0,.n .i64 0,.n .i64 0,.n .i64 0,.n .i64 65536,.n .i64 65536,.n .i64 0,.n .i64 0,.n .i64 0,.n .i64 0,.n .i64 0,.n .i64 0,.n .i64 65536,.n .i64 65536,.n .i64 0,.n .i64 0,.n .i64 8,.n .i64 8,.n .i64 0,.n .i64 0])),
 ([.a [.n .i64 65536,.n .i64 65536,.n .i64 0,.n .i64 0,.n .i64 0,.n .i64 0,.n .i64 0,.n .i64 0,.n .i64 65536,.n .i64 65536,.n .i64 0,.n .i64 0,.n .i64 0,.n .i64 0,.n .i64 0,.n .i64 0,.n .i64 65536,.n .i64 65536,.n .i64 32,.n .i64 32,.n .i64 0,.n .i64 0,.n .i64 0,.n .i64 0],.a [.n .i64 65536,.n .i64 65536,.n .i64 0,.n .i64 0,.n .i64 0,.n .i64 0,.n .i64 0,.n .i64 0,.n .i64 65536,.n .i64 65536,.n .i64 0,.n .i64 0,.n .i64 0,.n .i64 0,.n .i64 0,.n .i64 0,.n .i64 65536,.n .i64 65536,.n .i64 0,.n .i64 0,.n .i64 8,.n .i64 8,.n .i64 0,.n .i64 0]],.v (.a [.n .i64 65536,.n .i64 65536,.n .i64 0,.n .i64 0,.n .i64 0,.n .i64 0,.n .i64 0,.n .i64 0,.n .i64 65536,.n .i64 65536,.n .i64 0,.n .i64 0,.n .i64 0,.n .i64 0,.n .i64 0,.n .i64 0,.n .i64 65536,.n .i64 65536,.n .i64 32,.n .i64 32,.n .i64 8,.n .i64 8,.n .i64 0,.n .i64 0]))]
noncomputable def t97:Known:=(97,k97) :: t157
theorem ok97:Known.Ok Tryz.prog t97:=Known.add zV qG (kJZ) (N:=60) (by kernel_rfl)
noncomputable def k46:List (List PV × Ret):=[([.a [.s (ByteArray.mk #[97]),.n .i64 4,.n .i64 (-1),.n .i64 0,.n .i64 0,.n .i64 0,.n .i64 0,.n .i64 64,.n .i64 1,.n .i64 65536,.n .i64 65536,.n .i64 65536],.a [.n .i64 16,.n .i64 16]],.v (.a [.n .i64 65536,.n .i64 65536,.n .i64 0,.n .i64 0,.n .i64 0,.n .i64 0,.n .i64 0,.n .i64 0,.n .i64 65536,.n .i64 65536,.n .i64 0,.n .i64 0,.n .i64 0,.n .i64 0,.n .i64 0,.n .i64 0,.n .i64 65536,.n .i64 65536,.n .i64 16,.n .i64 16,.n .i64 0,.n .i64 0,.n .i64 0,.n .i64 0])),
 ([.a [.s (ByteArray.mk #[98]),.n .i64 5,.n .i64 0,.n .i64 0,.n .i64 0,.n .i64 0,.n .i64 0,.n .i64 64,.n .i64 1,.n .i64 65536,.n .i64 65536,.n .i64 65536],.a [.n .i64 0,.n .i64 0]],.v (.a [.n .i64 65536,.n .i64 65536,.n .i64 0,.n .i64 0,.n .i64 0,.n .i64 0,.n .i64 0,.n .i64 0,.n .i64 65536,.n .i64 65536,.n .i64 0,.n .i64 0,.n .i64 0,.n .i64 0,.n .i64 0,.n .i64 0,.n .i64 65536,.n .i64 65536,.n .i64 0,.n .i64 0,.n .i64 0,.n .i64 0,.n .i64 0,.n .i64 0])),
 ([.a [.s (ByteArray.mk #[97]),.n .i64 4,.n .i64 (-1),.n .i64 0,.n .i64 0,.n .i64 0,.n .i64 0,.n .i64 64,.n .i64 1,.n .i64 65536,.n .i64 65536,.n .i64 65536],.a [.n .i64 32,.n .i64 32]],.v (.a [.n .i64 65536,.n .i64 65536,.n .i64 0,.n .i64 0,.n .i64 0,.n .i64 0,.n .i64 0,.n .i64 0,.n .i64 65536,.n .i64 65536,.n .i64 0,.n .i64 0,.n .i64 0,.n .i64 0,.n .i64 0,.n .i64 0,.n .i64 65536,.n .i64 65536,.n .i64 32,.n .i64 32,.n .i64 0,.n .i64 0,.n .i64 0,.n .i64 0])),
 ([.a [.s (ByteArray.mk #[98]),.n .i64 5,.n .i64 0,.n .i64 0,.n .i64 0,.n .i64 0,.n .i64 0,.n .i64 64,.n .i64 1,.n .i64 65536,.n .i64 65536,.n .i64 65536],.a [.n .i64 8,.n .i64 8]],.v (.a [.n .i64 65536,.n .i64 65536,.n .i64 0,.n .i64 0,.n .i64 0,.n .i64 0,.n .i64 0,.n .i64 0,.n .i64 65536,.n .i64 65536,.n .i64 0,.n .i64 0,.n .i64 0,.n .i64 0,.n .i64 0,.n .i64 0,.n .i64 65536,.n .i64 65536,.n .i64 0,.n .i64 0,.n .i64 8,.n .i64 8,.n .i64 0,.n .i64 0]))]
noncomputable def t46:Known:=(46,k46) :: t97
theorem ok46:Known.Ok Tryz.prog t46:=Known.add zV qG (ok97) (N:=60) (by kernel_rfl)
noncomputable def k105:List (List PV × Ret):=[([.a [.l [[.s (ByteArray.mk #[97]),.n .i64 4,.n .i64 (-1),.n .i64 0,.n .i64 0,.n .i64 0,.n .i64 0,.n .i64 64,.n .i64 1,.n .i64 65536,.n .i64 65536,.n .i64 65536],[.s (ByteArray.mk #[98]),.n .i64 5,.n .i64 0,.n .i64 0,.n .i64 0,.n .i64 0,.n .i64 0,.n .i64 64,.n .i64 1,.n .i64 65536,.n .i64 65536,.n .i64 65536]],.l []],.l [[.n .i64 16,.n .i64 16],[.n .i64 0,.n .i64 0]]],.ow 68 24 (.l [[.n .i64 65536,.n .i64 65536,.n .i64 0,.n .i64 0,.n .i64 0,.n .i64 0,.n .i64 0,.n .i64 0,.n .i64 65536,.n .i64 65536,.n .i64 0,.n .i64 0,.n .i64 0,.n .i64 0,.n .i64 0,.n .i64 0,.n .i64 65536,.n .i64 65536,.n .i64 16,.n .i64 16,.n .i64 0,.n .i64 0,.n .i64 0,.n .i64 0],[.n .i64 65536,.n .i64 65536,.n .i64 0,.n .i64 0,.n .i64 0,.n .i64 0,.n .i64 0,.n .i64 0,.n .i64 65536,.n .i64 65536,.n .i64 0,.n .i64 0,.n .i64 0,.n .i64 0,.n .i64 0,.n .i64 0,.n .i64 65536,.n .i64 65536,.n .i64 16,.n .i64 16,.n .i64 0,.n .i64 0,.n .i64 0,.n .i64 0]])),
 ([.a [.l [[.s (ByteArray.mk #[97]),.n .i64 4,.n .i64 (-1),.n .i64 0,.n .i64 0,.n .i64 0,.n .i64 0,.n .i64 64,.n .i64 1,.n .i64 65536,.n .i64 65536,.n .i64 65536],[.s (ByteArray.mk #[98]),.n .i64 5,.n .i64 0,.n .i64 0,.n .i64 0,.n .i64 0,.n .i64 0,.n .i64 64,.n .i64 1,.n .i64 65536,.n .i64 65536,.n .i64 65536]],.l []],.l [[.n .i64 32,.n .i64 32],[.n .i64 8,.n .i64 8]]],.ow 68 24 (.l [[.n .i64 65536,.n .i64 65536,.n .i64 0,.n .i64 0,.n .i64 0,.n .i64 0,.n .i64 0,.n .i64 0,.n .i64 65536,.n .i64 65536,.n .i64 0,.n .i64 0,.n .i64 0,.n .i64 0,.n .i64 0,.n .i64 0,.n .i64 65536,.n .i64 65536,.n .i64 32,.n .i64 32,.n .i64 0,.n .i64 0,.n .i64 0,.n .i64 0],[.n .i64 65536,.n .i64 65536,.n .i64 0,.n .i64 0,.n .i64 0,.n .i64 0,.n .i64 0,.n .i64 0,.n .i64 65536,.n .i64 65536,.n .i64 0,.n .i64 0,.n .i64 0,.n .i64 0,.n .i64 0,.n .i64 0,.n .i64 65536,.n .i64 65536,.n .i64 32,.n .i64 32,.n .i64 8,.n .i64 8,.n .i64 0,.n .i64 0]]))]
noncomputable def t105:Known:=(105,k105) :: t46
theorem kJD:Known.Ok Tryz.prog t105:=Known.add zV qG (ok46) (N:=60) (by kernel_rfl)
noncomputable def k51:List (List PV × Ret):=[([.a [.l [[.s (ByteArray.mk #[97]),.n .i64 4,.n .i64 (-1),.n .i64 0,.n .i64 0,.n .i64 0,.n .i64 0,.n .i64 64,.n .i64 1,.n .i64 65536,.n .i64 65536,.n .i64 65536],[.s (ByteArray.mk #[98]),.n .i64 5,.n .i64 0,.n .i64 0,.n .i64 0,.n .i64 0,.n .i64 0,.n .i64 64,.n .i64 1,.n .i64 65536,.n .i64 65536,.n .i64 65536]],.l []],.l [[.n .i64 16,.n .i64 16],[.n .i64 0,.n .i64 0]]],.v (.l [[.n .i64 65536,.n .i64 65536,.n .i64 0,.n .i64 0,.n .i64 0,.n .i64 0,.n .i64 0,.n .i64 0,.n .i64 65536,.n .i64 65536,.n .i64 0,.n .i64 0,.n .i64 0,.n .i64 0,.n .i64 0,.n .i64 0,.n .i64 65536,.n .i64 65536,.n .i64 16,.n .i64 16,.n .i64 0,.n .i64 0,.n .i64 0,.n .i64 0],[.n .i64 65536,.n .i64 65536,.n .i64 0,.n .i64 0,.n .i64 0,.n .i64 0,.n .i64 0,.n .i64 0,.n .i64 65536,.n .i64 65536,.n .i64 0,.n .i64 0,.n .i64 0,.n .i64 0,.n .i64 0,.n .i64 0,.n .i64 65536,.n .i64 65536,.n .i64 16,.n .i64 16,.n .i64 0,.n .i64 0,.n .i64 0,.n .i64 0]])),
 ([.a [.l [[.s (ByteArray.mk #[97]),.n .i64 4,.n .i64 (-1),.n .i64 0,.n .i64 0,.n .i64 0,.n .i64 0,.n .i64 64,.n .i64 1,.n .i64 65536,.n .i64 65536,.n .i64 65536],[.s (ByteArray.mk #[98]),.n .i64 5,.n .i64 0,.n .i64 0,.n .i64 0,.n .i64 0,.n .i64 0,.n .i64 64,.n .i64 1,.n .i64 65536,.n .i64 65536,.n .i64 65536]],.l []],.l [[.n .i64 32,.n .i64 32],[.n .i64 8,.n .i64 8]]],.v (.l [[.n .i64 65536,.n .i64 65536,.n .i64 0,.n .i64 0,.n .i64 0,.n .i64 0,.n .i64 0,.n .i64 0,.n .i64 65536,.n .i64 65536,.n .i64 0,.n .i64 0,.n .i64 0,.n .i64 0,.n .i64 0,.n .i64 0,.n .i64 65536,.n .i64 65536,.n .i64 32,.n .i64 32,.n .i64 0,.n .i64 0,.n .i64 0,.n .i64 0],[.n .i64 65536,.n .i64 65536,.n .i64 0,.n .i64 0,.n .i64 0,.n .i64 0,.n .i64 0,.n .i64 0,.n .i64 65536,.n .i64 65536,.n .i64 0,.n .i64 0,.n .i64 0,.n .i64 0,.n .i64 0,.n .i64 0,.n .i64 65536,.n .i64 65536,.n .i64 32,.n .i64 32,.n .i64 8,.n .i64 8,.n .i64 0,.n .i64 0]]))]
noncomputable def t51:Known:=(51,k51) :: t105
theorem ok51:Known.Ok Tryz.prog t51:=Known.add zV qG (kJD) (N:=60) (by kernel_rfl)
noncomputable def k78:List (List PV × Ret):=[([.a [.n .i64 65536,.n .i64 65536,.n .i64 0,.n .i64 0,.n .i64 0,.n .i64 0,.n .i64 0,.n .i64 0,.n .i64 65536,.n .i64 65536,.n .i64 0,.n .i64 0,.n .i64 0,.n .i64 0,.n .i64 0,.n .i64 0,.n .i64 65536,.n .i64 65536,.n .i64 16,.n .i64 16,.n .i64 0,.n .i64 0,.n .i64 0,.n .i64 0],.a [.n .i64 0,.n .i64 0,.n .i64 0,.n .i64 0,.n .i64 0,.n .i64 0]],.v (.a [.n .i64 16,.n .i64 16,.n .i64 0,.n .i64 0,.n .i64 0,.n .i64 0])),
 ([.a [.n .i64 65536,.n .i64 65536,.n .i64 0,.n .i64 0,.n .i64 0,.n .i64 0,.n .i64 0,.n .i64 0,.n .i64 65536,.n .i64 65536,.n .i64 0,.n .i64 0,.n .i64 0,.n .i64 0,.n .i64 0,.n .i64 0,.n .i64 65536,.n .i64 65536,.n .i64 32,.n .i64 32,.n .i64 8,.n .i64 8,.n .i64 0,.n .i64 0],.a [.n .i64 0,.n .i64 0,.n .i64 0,.n .i64 0,.n .i64 0,.n .i64 0]],.v (.a [.n .i64 32,.n .i64 32,.n .i64 8,.n .i64 8,.n .i64 0,.n .i64 0]))]
noncomputable def t78:Known:=(78,k78) :: t51
theorem ok78:Known.Ok Tryz.prog t78:=Known.add zV qG (ok51) (N:=60) (by kernel_rfl)
noncomputable def k27:List (List PV × Ret):=[([.a [.l [[.s (ByteArray.mk #[97]),.n .i64 4,.n .i64 (-1),.n .i64 0,.n .i64 0,.n .i64 0,.n .i64 0,.n .i64 64,.n .i64 1,.n .i64 65536,.n .i64 65536,.n .i64 65536],[.s (ByteArray.mk #[98]),.n .i64 5,.n .i64 0,.n .i64 0,.n .i64 0,.n .i64 0,.n .i64 0,.n .i64 64,.n .i64 1,.n .i64 65536,.n .i64 65536,.n .i64 65536]],.l [],.l [],.l [],.l [[.s (ByteArray.mk #[111]),.l [[.n .i64 0,.n .i64 1,.l [[.n .i64 1,.n .i64 2,.n .i64 3]]]]]],.l [[.n .i64 16,.n .i64 0,.n .i64 0],[.n .i64 32,.n .i64 8,.n .i64 0]],.l [[.n .i64 1,.n .i64 0,.n .i64 0,.n .i64 0]],.l [],.n .i64 0],.n .i64 0,.n .i64 0,.l [[.n .i64 16],[.n .i64 0]]],.v (.b true)),
 ([.a [.l [[.s (ByteArray.mk #[97]),.n .i64 4,.n .i64 (-1),.n .i64 0,.n .i64 0,.n .i64 0,.n .i64 0,.n .i64 64,.n .i64 1,.n .i64 65536,.n .i64 65536,.n .i64 65536],[.s (ByteArray.mk #[98]),.n .i64 5,.n .i64 0,.n .i64 0,.n .i64 0,.n .i64 0,.n .i64 0,.n .i64 64,.n .i64 1,.n .i64 65536,.n .i64 65536,.n .i64 65536]],.l [],.l [],.l [],.l [[.s (ByteArray.mk #[111]),.l [[.n .i64 0,.n .i64 1,.l [[.n .i64 1,.n .i64 2,.n .i64 3]]]]]],.l [[.n .i64 16,.n .i64 0,.n .i64 0],[.n .i64 32,.n .i64 8,.n .i64 0]],.l [[.n .i64 1,.n .i64 0,.n .i64 0,.n .i64 0]],.l [],.n .i64 0],.n .i64 0,.n .i64 1,.l [[.n .i64 32],[.n .i64 8]]],.v (.b true))]
noncomputable def t27:Known:=(27,k27) :: t78
theorem ok27:Known.Ok Tryz.prog t27:=Known.add zV qG (ok78) (N:=60) (by kernel_rfl)
noncomputable def k32:List (List PV × Ret):=[([.a [.l [[.s (ByteArray.mk #[97]),.n .i64 4,.n .i64 (-1),.n .i64 0,.n .i64 0,.n .i64 0,.n .i64 0,.n .i64 64,.n .i64 1,.n .i64 65536,.n .i64 65536,.n .i64 65536],[.s (ByteArray.mk #[98]),.n .i64 5,.n .i64 0,.n .i64 0,.n .i64 0,.n .i64 0,.n .i64 0,.n .i64 64,.n .i64 1,.n .i64 65536,.n .i64 65536,.n .i64 65536]],.l [],.l [],.l [],.l [[.s (ByteArray.mk #[111]),.l [[.n .i64 0,.n .i64 1,.l [[.n .i64 1,.n .i64 2,.n .i64 3]]]]]],.l [[.n .i64 16,.n .i64 0,.n .i64 0],[.n .i64 32,.n .i64 8,.n .i64 0]],.l [[.n .i64 1,.n .i64 0,.n .i64 0,.n .i64 0]],.l [],.n .i64 0],.a [.l [[.n .i64 0]]],.l [[.n .i64 16],[.n .i64 0]],.n .i64 0,.n .i64 0],.v (.t [.a [.l [[.n .i64 (-1)]]],.b true]))]
noncomputable def t32:Known:=(32,k32) :: t27
theorem ok32:Known.Ok Tryz.prog t32:=Known.add zV qG (ok27) (N:=60) (by kernel_rfl)
noncomputable def k33:List (List PV × Ret):=[([.a [.l [[.s (ByteArray.mk #[97]),.n .i64 4,.n .i64 (-1),.n .i64 0,.n .i64 0,.n .i64 0,.n .i64 0,.n .i64 64,.n .i64 1,.n .i64 65536,.n .i64 65536,.n .i64 65536],[.s (ByteArray.mk #[98]),.n .i64 5,.n .i64 0,.n .i64 0,.n .i64 0,.n .i64 0,.n .i64 0,.n .i64 64,.n .i64 1,.n .i64 65536,.n .i64 65536,.n .i64 65536]],.l [],.l [],.l [],.l [[.s (ByteArray.mk #[111]),.l [[.n .i64 0,.n .i64 1,.l [[.n .i64 1,.n .i64 2,.n .i64 3]]]]]],.l [[.n .i64 16,.n .i64 0,.n .i64 0],[.n .i64 32,.n .i64 8,.n .i64 0]],.l [[.n .i64 1,.n .i64 0,.n .i64 0,.n .i64 0]],.l [],.n .i64 0],.a [.l [[.n .i64 (-1)]]],.l [[.n .i64 32],[.n .i64 8]],.n .i64 0,.n .i64 1],.v (.t [.a [.l [[.n .i64 1]]],.b true]))]
noncomputable def t33:Known:=(33,k33) :: t32
theorem ok33:Known.Ok Tryz.prog t33:=Known.add zV qG (ok32) (N:=60) (by kernel_rfl)
noncomputable def k36:List (List PV × Ret):=[([.a [.l [[.s (ByteArray.mk #[97]),.n .i64 4,.n .i64 (-1),.n .i64 0,.n .i64 0,.n .i64 0,.n .i64 0,.n .i64 64,.n .i64 1,.n .i64 65536,.n .i64 65536,.n .i64 65536],[.s (ByteArray.mk #[98]),.n .i64 5,.n .i64 0,.n .i64 0,.n .i64 0,.n .i64 0,.n .i64 0,.n .i64 64,.n .i64 1,.n .i64 65536,.n .i64 65536,.n .i64 65536]],.l [],.l [],.l [],.l [[.s (ByteArray.mk #[111]),.l [[.n .i64 0,.n .i64 1,.l [[.n .i64 1,.n .i64 2,.n .i64 3]]]]]],.l [[.n .i64 16,.n .i64 0,.n .i64 0],[.n .i64 32,.n .i64 8,.n .i64 0]],.l [[.n .i64 1,.n .i64 0,.n .i64 0,.n .i64 0]],.l [],.n .i64 0],.a [.l [[.n .i64 (-1)]]]],.v (.t [.a [.l [[.s (ByteArray.mk #[97]),.n .i64 4,.n .i64 (-1),.n .i64 0,.n .i64 0,.n .i64 0,.n .i64 0,.n .i64 64,.n .i64 1,.n .i64 65536,.n .i64 65536,.n .i64 65536],[.s (ByteArray.mk #[98]),.n .i64 5,.n .i64 0,.n .i64 0,.n .i64 0,.n .i64 0,.n .i64 0,.n .i64 64,.n .i64 1,.n .i64 65536,.n .i64 65536,.n .i64 65536]],.l [],.l [[.n .i64 1,.n .i64 1,.l [[.n .i64 1,.n .i64 2,.n .i64 3]]]],.l []],.n .i64 0]))]
noncomputable def t36:Known:=(36,k36) :: t33
theorem ok36:Known.Ok Tryz.prog t36:=Known.add zV qG (ok33) (N:=60) (by kernel_rfl)
theorem call:qH Tryz.prog 16 [] (.v (.b true)):=jY (N:=60) zV qG (Known.ok (ok36)) (by kernel_rfl:run T (Known.orc t36) 60 16 []=some (.v (.b true)))
end Go.Proofs.YtmeldddgjfocdaaGreat.Ag
namespace Go.Rx
open Go.RowKit Go.Sx Go.ChangeShapes Go.WideShapes
section
variable {P:Program} {W:World} {H:Type} {enc:TypeId × Value→H}
def zUA (W:World) (v:Value) (L:List Int):Prop:=RP (fun k=>k < W.heap.size) W (zUZ L) v∧L.length≤9223372036854775807∧∀ x ∈ L,In64 x
theorem yZJ {t e:TypeId} {v:Value} {d:DataW H} {p:List MemPlace} (ht:P.underlying t=some (.slice e)) (he:P.underlying e=some (.int .i64)) (hc:P.cellsOf e=1)
  {r:Reach} {base:Nat} (hv:Value.okWide P W r base t v) (h:DataW.Trod enc P W 0 (fun _=>true) true t v d p):∃ L:List Int,zUA W v L:=by
 obtain ⟨a,l,c,rfl⟩:=yUJ ht hv;obtain ⟨fuel,h⟩:=h;have h':DataW.trod enc P W 0 (fun _=>true) true fuel t [.slice a l c]=some (d,p):=h;rcases open_ints ht he hc h' with ⟨h1,_⟩ | ⟨a',len,cap,zs,h1,_,hlc,hcap,hz,_,hcell,hwf⟩
 ·simp at h1;obtain ⟨rfl,rfl,rfl⟩:=h1;exact ⟨[],.l0 none 0,by simp,fun x hx=>by cases hx⟩
 ·simp at h1;obtain ⟨rfl,rfl,rfl⟩:=h1;simp only [if_true] at hz;have hlen:(zs.take l).length=l:=by simp; omega
  have hI:IntsAt W W.heap.size (.slice (some a') l c) (zs.take l):=⟨by have:maxLen=9223372036854775807:=rfl; omega,some a',c,by rw [hlen],fun j hj=>by
   rw [hlen] at hj;have h0:=hcell 0 (by omega);have hj':=hcell j (by omega);have hsp:a'.spot=none:=by
    have e:a'.add 0=a':=by simp [Addr.add]
    rw [e] at h0;unfold World.cell? at h0;cases hb:W.heap[a'.block]? with
    | none=>simp [hb] at h0
    | some o=>cases o <;> simp [hb] at h0; exact h0.1
   obtain ⟨bb,off,sp⟩:=a';simp only at hsp;subst hsp;rw [qYV] at hj';refine ⟨bb,off,rfl,?_,?_⟩
   ·unfold World.cell? at hj';cases hb:W.heap[bb]? with
    | none=>simp [hb] at hj'
    | some o=>exact qQI hb
   ·rw [hj'];simp [vZX,vZU,hj]⟩
  refine ⟨zs.take l,?_,hI.1,fun x hx => ?_⟩
  ·have:=zVE (F:=fun k=>k < W.heap.size) (w:=W) (L:=zs.take l) (a:=some a') (c:=c) (by rw [hlen]; exact hI) (by rw [hlen]; exact hlc) fun k hk=>hk
   rw [hlen] at this;exact this
  ·have:=hwf x (List.mem_of_mem_take hx)
   simpa [Lit.wf,IntKind.has,IntKind.min,IntKind.max,IntKind.signed,IntKind.bits,In64] using this
end
end Go.Rx
namespace Go.Proofs.YtmeldddgjfocdaaGreat
open Go.Rx Go.Sx Go.RowKit Od Nb Nx Ga Ha Hc
theorem zZQ (v0:Value) (L0:List Int) (v1:Value) (L1:List Int) (W:World) (h0:zUA W v0 L0) (h1:zUA W v1 L1):Calls Tryz.prog 9 #[v0,v1] W (Rets (.bool true) W) :=
 zZE (Hz.snd_law Ag.call L0 h0.2.1 L1 h1.2.1) rfl (qJF h0.1 (qJF h1.1 qHY))
end Go.Proofs.YtmeldddgjfocdaaGreat

/- Part 35 of the texts behind the last one: rules and contracts. No condition. -/
import Derived.Test.YtklmegnpfhiibaaGreatBK34
open Go.IntKind renaming wrap → vYW
namespace Go.Proofs.YtklmegnpfhiibaaGreat.Xv
open Go.Rx Rt Go.Sx Go.RowKit Od Na Nb Nc Sn So Sq Xb Xc Bb Xe Xf Xg Xh Xi Xk Xm Xn Xo Xp Xq Xr Xs Xu
theorem nm_0:nmB (ltrI 0)=true:=by kernel_rfl
theorem nm_1:nmB (ltrI 1)=true:=by kernel_rfl
theorem nm_2:nmB (ltrI 2)=true:=by kernel_rfl
theorem nm_ltr {i:Int} (_:0≤i∧i < 3):nmB (ltrI i)=true:=by
 have:i=0 ∨ i=1 ∨ i=2:=by omega
 rcases this with rfl | rfl | rfl
 ·exact nm_0
 ·exact nm_1
 ·exact nm_2
theorem nt_01:((ltrI 0).toList == (ltrI 1).toList)=false:=by kernel_rfl
theorem nt_02:((ltrI 0).toList == (ltrI 2).toList)=false:=by kernel_rfl
theorem nt_12:((ltrI 1).toList == (ltrI 2).toList)=false:=by kernel_rfl
theorem jE_of {js:Nat→J} {n:Nat}:∀ (k p:Nat),(∀ i,p≤i→i < p + k→jErr js n i=0)→jE js n k p=0
 | 0,_,_=>rfl
 | k + 1,p,h=>by
  unfold jE;rw [h p (Nat.le_refl _) (by omega)];exact jE_of k (p + 1) fun i h1 h2=>h i (by omega) (by omega)
theorem mAll_of {ms:Nat→Ms} {n:Nat}:∀ (k p:Nat),(∀ i,p≤i→i < p + k→MOK n (ms i))→mAll ms n k p=true
 | 0,_,_=>rfl
 | k + 1,p,h=>by
  unfold mAll mokB;rw [vYK (h p (Nat.le_refl _) (by omega)),mAll_of k (p + 1) fun i h1 h2=>h i (by omega) (by omega)];rfl
theorem jErr_of {js:Nat→J} {n i:Nat} (hi:i < 3) (hj:∀ v,v≤i→JM v (js v)):jErr js n i=0:=by
 obtain ⟨h1,h2,_⟩:=hj i (Nat.le_refl _);unfold jErr;have hd:dup js (js i).name i 0=false:=by
  match i,hi,hj,h1 with
  | 0,_,_,_=>rfl
  | 1,_,hj,h1 =>
   have h0:=(hj 0 (by omega)).1;show (((js 0).name.toList == (js 1).name.toList) || false)=false;rw [h0,h1];show ((ltrI 0).toList == (ltrI 1).toList || false)=false;rw [nt_01]; rfl
  | 2,_,hj,h1 =>
   have h0:=(hj 0 (by omega)).1;have h3:=(hj 1 (by omega)).1;show (((js 0).name.toList == (js 2).name.toList) || (((js 1).name.toList == (js 2).name.toList) || false))=false;rw [h0,h3,h1];show ((ltrI 0).toList == (ltrI 2).toList || ((ltrI 1).toList == (ltrI 2).toList || false))=false;rw [nt_02,nt_12]; rfl
 rw [hd,h1,nm_ltr (by omega),vYZ,vYY,cjT_ok _ h2]
theorem rerr_of {js:Nat→J} {ms:Nat→Ms} {n m:Nat} (_:1≤n∧n≤3) (_:m≤2) (hj:∀ v,v < n→JM v (js v)) (hms:∀ v,v < m→MM n (ms v)):rErr js ms n m=0:=by
 unfold rErr;rw [vYJ (show ¬ (n:Int)=0 by omega),vYJ (show ¬ 10 < (n:Int) by omega),jE_of n 0 (fun i _ h2=>jErr_of (by omega) fun v hv=>hj v (by omega)),vYK rfl,vYJ (show ¬ 32 < (m:Int) by omega),mAll_of m 0 fun i _ h2=>hms i (by omega)];rfl
theorem lim_of {js:Nat→J} {n:Nat} (h:∀ v,v < n→JM v (js v)):qXZ js n:=fun v hv=>by
 have h0:=(h v hv).2.1;unfold JF at h0;obtain ⟨_,_,_,_,_,⟨a,b,c⟩,_⟩:=h0;have hk:limK (js v).kind≤4194304:=by
  unfold limK;split
  ·decide
  ·split <;> decide
 omega
theorem rob_chk {w:Nat} {js:Nat→J} {ms:Nat→Ms} {n k m':Nat} (h:robC w js ms n k m'):rErr js ms n k=0∧qXZ js n:=⟨rerr_of h.2.1 h.2.2.1 h.2.2.2.1 h.2.2.2.2,lim_of h.2.2.2.1⟩
theorem qIn_of {js:Nat→J} {ms:Nat→Ms} {q:Nat→Int} {n m:Nat} (h0:rErr js ms n m=0) (h:∀ v,v < n→(js v).lo≤q v∧q v≤(js v).hi):qIn js ms q n m n=true:=by
 unfold qIn insQ;rw [vYK h0,vYK (show (n:Int)=(n:Int) from rfl)];refine allN_iff.2 fun i _ hi => ?_
 have:=h i (by omega)
 rw [vYK this.1,vYK this.2]; rfl
def cfC (js:Nat→J) (n:Nat) (t:Nat × (Nat→Int)):Prop:=t.1≤9223372036854775807∧n≤50∧qXZ js n
def cfR (js:Nat→J) (ms:Nat→Ms) (n m:Nat) (t:Nat × (Nat→Int)) (q:Nat→Int):Prop:=(∀ v,v < n→(js v).lo≤q v∧q v≤(js v).hi)∧zY Tryz.prog 12 [.a [.lf n (fJ js),.lf m (fM ms)],.lf t.1 (fQ t.2)] (.v (.lf n (fQ q)))
theorem cf_all (js:Nat→J) (ms:Nat→Ms) (n m:Nat):∃ G:Nat × (Nat→Int)→Nat→Int,∀ t,cfC js n t→cfR js ms n m t (G t):=qWF z0 fun t h=>by
 obtain ⟨q,h1,h2⟩:=cfg_ex t.1 t.2 js ms n m h.1 h.2.1 h.2.2;exact ⟨q,h1,h2⟩
noncomputable def cfF (js:Nat→J) (ms:Nat→Ms) (n m:Nat):Nat × (Nat→Int)→Nat→Int:=Classical.choose (cf_all js ms n m)
theorem cfF_ok {js:Nat→J} {ms:Nat→Ms} {n m:Nat} {t:Nat × (Nat→Int)} (h:cfC js n t):cfR js ms n m t (cfF js ms n m t):=Classical.choose_spec (cf_all js ms n m) t h
def ccg (js:Nat→J) (ms:Nat→Ms) (n m:Nat):Nat × (Nat→Int)→Prop:=fun t=>match t with | (w,e)=>cfC js n (w,e)
def ecg (js:Nat→J) (ms:Nat→Ms) (n m:Nat):Nat × (Nat→Int)→List PV:=fun t=>match t with | (w,e)=>[.a [.lf n (fJ js),.lf m (fM ms)],.lf w (fQ e)]
noncomputable def rcg (js:Nat→J) (ms:Nat→Ms) (n m:Nat):Nat × (Nat→Int)→Ret:=fun t=>match t with | (w,e)=>.v (.lf n (fQ (cfF js ms n m (w,e))))
def dcg:List PV→Nat × (Nat→Int):=fun ps=>match ps with
 | [_,.lf w f]=>(w,unFQ f)
 | _=>(0,fun _=>0)
noncomputable def o_cg (js:Nat→J) (ms:Nat→Ms) (n m:Nat):List PV→Option (Bool × Ret):=o_fm dcg (ccg js ms n m) (ecg js ms n m) (rcg js ms n m)
theorem ok_cg (js:Nat→J) (ms:Nat→Ms) (n m:Nat):jH Tryz.prog 12 (o_cg js ms n m):=qQD fun t h=>by
 obtain ⟨w,e⟩:=t;exact (cfF_ok h).2
noncomputable def ors1 (N:Nat) (js:Nat→J) (ms:Nat→Ms) (n m:Nat) (nn:Int) (wl:Nat) (e:Nat→Int):OrS:=orS [(12,o_cg js ms n m)] [(24,o_nx)]
noncomputable def hs2 (N:Nat) (js:Nat→J) (ms:Nat→Ms) (n m:Nat) (nn:Int) (wl:Nat) (e:Nat→Int) (i:Int) (x:Int) (m2:Nat) (rc:Nat) (fc:Nat→List PV) (ri:Nat) (fi:Nat→Int):St:=⟨[(1,.v (.n .i64 nn)),(3,.p 3 0),(7,.p 13 0),(8,.o 37),(9,.v (.n .i64 i)),(10,.o 31),(11,.v (.n .i64 x))],[(3,.blk [.v (.lf n (fJ js)),.v (.lf m (fM ms))]),(13,.blk [.v (.lf wl (fQ e)),.v (.n .i64 (m2:Int))]),(31,.reg 3 1 (.fo ri (fun v=>[.n .i64 (fi v)]))),(37,.reg 30 1 (.fo rc fc))]⟩
set_option maxRecDepth 100000 in
theorem rds2 (G:St→Option (Ret × Mem)) (K:Cont) (N:Nat) (js:Nat→J) (ms:Nat→Ms) (n m:Nat) (nn:Int) (wl:Nat) (e:Nat→Int) (i:Int) (x:Int) (m2:Nat) (rc:Nat) (fc:Nat→List PV) (ri:Nat) (fi:Nat→Int):stpT Tf 26 (ors1 N js ms n m nn wl e) (N + 10) [] [0,1,0,1,0,0,1,0,0,1,0,1,1,1] K G (hs2 N js ms n m nn wl e i x m2 rc fc ri fi) =
 (bif (decide (x < (vYW .i64 (2 * (n:Int))))) then (bif (gB1 cnx hnx enx (wl,m2,e,1048576)) then (bif (decide (ri + 1≤1000000)) then (G (hs2 N js ms n m nn wl e i (vYW .i64 (x + 1)) (mA wl m2 1) rc fc (ri + 1) (fun v=>(bif (Nat.beq v ri) then (nxV e wl m2 1048576) else (fi v)))))
 else none)
 else none)
 else (K (.exit 2) ⟨[(1,.v (.n .i64 nn)),(3,.p 3 0),(7,.p 13 0),(8,.o 37),(9,.v (.n .i64 i)),(10,.o 31)],[(3,.blk [.v (.lf n (fJ js)),.v (.lf m (fM ms))]),(13,.blk [.v (.lf wl (fQ e)),.v (.n .i64 (m2:Int))]),(31,.reg 3 1 (.fo ri (fun v=>[.n .i64 (fi v)]))),(37,.reg 30 1 (.fo rc fc))]⟩)):=by kernel_rfl
noncomputable def dcs2 (js:Nat→J) (ms:Nat→Ms) (n m:Nat) (nn:Int) (wl:Nat) (e:Nat→Int):(Int × Int × Nat × Nat × (Nat→List PV) × Nat × (Nat→Int))→(Int × Int × Nat × Nat × (Nat→List PV) × Nat × (Nat→Int)) ⊕ (Nat × Int × Int × Nat × Nat × (Nat→List PV) × Nat × (Nat→Int)):=fun t=>match t with | (i,x,m2,rc,fc,ri,fi)=>(bif (decide (x < (vYW .i64 (2 * (n:Int))))) then (bif (gB1 cnx hnx enx (wl,m2,e,1048576)) then (bif (decide (ri + 1≤1000000)) then (.inl (i,(vYW .i64 (x + 1)),(mA wl m2 1),rc,fc,(ri + 1),(fun v=>(bif (Nat.beq v ri) then (nxV e wl m2 1048576) else (fi v))))) else (.inr (1,(i,x,m2,rc,fc,ri,fi)))) else (.inr (1,(i,x,m2,rc,fc,ri,fi)))) else (.inr (0,(i,x,m2,rc,fc,ri,fi))))
noncomputable def kxs2 (N:Nat) (js:Nat→J) (ms:Nat→Ms) (n m:Nat) (nn:Int) (wl:Nat) (e:Nat→Int) (K:Cont) (w9:Nat × Int × Int × Nat × Nat × (Nat→List PV) × Nat × (Nat→Int)):Option (Ret × Mem):=bif Nat.beq w9.1 0 then (K (.exit 2) ⟨[(1,.v (.n .i64 nn)),(3,.p 3 0),(7,.p 13 0),(8,.o 37),(9,.v (.n .i64 w9.2.1)),(10,.o 31)],[(3,.blk [.v (.lf n (fJ js)),.v (.lf m (fM ms))]),(13,.blk [.v (.lf wl (fQ e)),.v (.n .i64 (w9.2.2.2.1:Int))]),(31,.reg 3 1 (.fo w9.2.2.2.2.2.2.1 (fun v=>[.n .i64 (w9.2.2.2.2.2.2.2 v)]))),(37,.reg 30 1 (.fo w9.2.2.2.2.1 w9.2.2.2.2.2.1))]⟩) else none
theorem wls2 (K:Cont) (N:Nat) (js:Nat→J) (ms:Nat→Ms) (n m:Nat) (nn:Int) (wl:Nat) (e:Nat→Int):∀ n9 (t:(Int × Int × Nat × Nat × (Nat→List PV) × Nat × (Nat→Int))),LFT Tf 26 (ors1 N js ms n m nn wl e) (N + 10) [] [0,1,0,1,0,0,1,0,0,1,0,1,1,1] K n9 (hs2 N js ms n m nn wl e t.1 t.2.1 t.2.2.1 t.2.2.2.1 t.2.2.2.2.1 t.2.2.2.2.2.1 t.2.2.2.2.2.2)=(qG (dcs2 js ms n m nn wl e) n9 t).bind (kxs2 N js ms n m nn wl e K):=fun n9 t=>by
 refine qYG (L:=LFT Tf 26 (ors1 N js ms n m nn wl e) (N + 10) [] [0,1,0,1,0,0,1,0,0,1,0,1,1,1] K) (stp:=stpT Tf 26 (ors1 N js ms n m nn wl e) (N + 10) [] [0,1,0,1,0,0,1,0,0,1,0,1,1,1] K) (fun _ _=>rfl) (fun _=>rfl) (fun t=>hs2 N js ms n m nn wl e t.1 t.2.1 t.2.2.1 t.2.2.2.1 t.2.2.2.2.1 t.2.2.2.2.2.1 t.2.2.2.2.2.2) (fun _=>True) (dcs2 js ms n m nn wl e) (kxs2 N js ms n m nn wl e K) (fun G t _ => ?_) (fun _ _ _ _=>trivial) n9 t trivial;obtain ⟨i,x,m2,rc,fc,ri,fi⟩:=t;refine (rds2 G K N js ms n m nn wl e i x m2 rc fc ri fi).trans ?_;dsimp only [dcs2];cases (decide (x < (vYW .i64 (2 * (n:Int)))))
 ·rfl
 ·cases (gB1 cnx hnx enx (wl,m2,e,1048576))
  ·rfl
  ·cases (decide (ri + 1≤1000000))
   ·rfl
   ·rfl
noncomputable def zXZ (N:Nat) (js:Nat→J) (ms:Nat→Ms) (n m:Nat) (nn:Int) (wl:Nat) (e:Nat→Int) (t:(Int × Int × Nat × Nat × (Nat→List PV) × Nat × (Nat→Int))):Bool:=(qG (dcs2 js ms n m nn wl e) (N + 10) t).isSome
noncomputable def qYX (N:Nat) (js:Nat→J) (ms:Nat→Ms) (n m:Nat) (nn:Int) (wl:Nat) (e:Nat→Int) (t:(Int × Int × Nat × Nat × (Nat→List PV) × Nat × (Nat→Int))):Nat × Int × Int × Nat × Nat × (Nat→List PV) × Nat × (Nat→Int):=(qG (dcs2 js ms n m nn wl e) (N + 10) t).getD (99,t)
theorem lws2 (K:Cont) (N:Nat) (js:Nat→J) (ms:Nat→Ms) (n m:Nat) (nn:Int) (wl:Nat) (e:Nat→Int) (t:(Int × Int × Nat × Nat × (Nat→List PV) × Nat × (Nat→Int))) (hg:zXZ N js ms n m nn wl e t=true):LFT Tf 26 (ors1 N js ms n m nn wl e) (N + 10) [] [0,1,0,1,0,0,1,0,0,1,0,1,1,1] K (N + 10) (hs2 N js ms n m nn wl e t.1 t.2.1 t.2.2.1 t.2.2.2.1 t.2.2.2.2.1 t.2.2.2.2.2.1 t.2.2.2.2.2.2)=kxs2 N js ms n m nn wl e K (qYX N js ms n m nn wl e t):=by
 refine (wls2 K N js ms n m nn wl e (N + 10) t).trans ?_;unfold zXZ at hg;unfold qYX;cases h:qG (dcs2 js ms n m nn wl e) (N + 10) t with
 | none=>rw [h] at hg; cases hg
 | some y=>rfl
noncomputable def lis2 (N:Nat) (js:Nat→J) (ms:Nat→Ms) (n m:Nat) (nn:Int) (wl:Nat) (e:Nat→Int):List (List Nat × yV):=[([0,1,0,1,0,0,1,0,0,1,0,1,1,1],sumF (fun t:(Int × Int × Nat × Nat × (Nat→List PV) × Nat × (Nat→Int))=>(hs2 N js ms n m nn wl e t.1 t.2.1 t.2.2.1 t.2.2.2.1 t.2.2.2.2.1 t.2.2.2.2.2.1 t.2.2.2.2.2.2)) (fun σ=>(slI σ 9,slI σ 11,(bkC σ 13 1).toNat,rgN σ 37,rgF σ 37,rgN σ 31,rgI σ 31 0)) (fun t K=>(bif zXZ N js ms n m nn wl e t then kxs2 N js ms n m nn wl e K (qYX N js ms n m nn wl e t) else none)))]
theorem oks2 (N:Nat) (js:Nat→J) (ms:Nat→Ms) (n m:Nat) (nn:Int) (wl:Nat) (e:Nat→Int):∀ p S,qY (lis2 N js ms n m nn wl e) p=some S→kX (N + 10) (cxS Tf (ors1 N js ms n m nn wl e) (N + 10) 26 (ntmF Tf 26)) (qZ Tf 26 p) S:=fun p S hp=>by
 refine qX (L:=qZ Tf 26) (l:=(lis2 N js ms n m nn wl e)) (show AllP _ (lis2 N js ms n m nn wl e) from ⟨?_,trivial⟩) p S hp;dsimp only;refine jQ (T:=Tf) (o:=(ors1 N js ms n m nn wl e)) (f:=26) (LO:=qY []) (p:=[0,1,0,1,0,0,1,0,0,1,0,1,1,1]) jU ?_;intro t K r hr;obtain ⟨hg,hr⟩:=qQ hr
 skip
 exact (lws2 K N js ms n m nn wl e t hg).trans hr
noncomputable def hs1 (N:Nat) (js:Nat→J) (ms:Nat→Ms) (n m:Nat) (nn:Int) (wl:Nat) (e:Nat→Int) (i:Int) (m2:Nat) (rc:Nat) (fc:Nat→List PV):St:=⟨[(1,.v (.n .i64 nn)),(3,.p 3 0),(7,.p 13 0),(8,.o 37),(9,.v (.n .i64 i))],[(3,.blk [.v (.lf n (fJ js)),.v (.lf m (fM ms))]),(13,.blk [.v (.lf wl (fQ e)),.v (.n .i64 (m2:Int))]),(37,.reg 30 1 (.fo rc fc))]⟩
set_option maxRecDepth 100000 in
theorem rds1 (G:St→Option (Ret × Mem)) (K:Cont) (N:Nat) (js:Nat→J) (ms:Nat→Ms) (n m:Nat) (nn:Int) (wl:Nat) (e:Nat→Int) (i:Int) (m2:Nat) (rc:Nat) (fc:Nat→List PV):stpT Tf 26 (ors1 N js ms n m nn wl e) (N + 10) (lis2 N js ms n m nn wl e) [0,1,0,1,1,1] K G (hs1 N js ms n m nn wl e i m2 rc fc) =
 (bif (decide (i < nn)) then (bif (gSt (hs2 N js ms n m nn wl e i 0 m2 rc fc 0 z0) (hs2 N js ms n m nn wl e i 0 m2 rc fc 0 z0)) then (bif (zXZ N js ms n m nn wl e (i,0,m2,rc,fc,0,z0)) then (bif (Nat.beq (qYX N js ms n m nn wl e (i,0,m2,rc,fc,0,z0)).1 0) then (bif (gF1 (ccg js ms n m) (ecg js ms n m) (((qYX N js ms n m nn wl e (i,0,m2,rc,fc,0,z0)).2.2.2.2.2.2.1),((qYX N js ms n m nn wl e (i,0,m2,rc,fc,0,z0)).2.2.2.2.2.2.2))) then (bif (decide ((qYX N js ms n m nn wl e (i,0,m2,rc,fc,0,z0)).2.2.2.2.1 + 1≤1000000)) then (G (hs1 N js ms n m nn wl e (vYW .i64 ((qYX N js ms n m nn wl e (i,0,m2,rc,fc,0,z0)).2.1 + 1)) ((qYX N js ms n m nn wl e (i,0,m2,rc,fc,0,z0)).2.2.2.1) ((qYX N js ms n m nn wl e (i,0,m2,rc,fc,0,z0)).2.2.2.2.1 + 1) (fun v=>qW (Nat.beq v (qYX N js ms n m nn wl e (i,0,m2,rc,fc,0,z0)).2.2.2.2.1) [.lf n (fun v=>[.n .i64 ((cfF js ms n m (((qYX N js ms n m nn wl e (i,0,m2,rc,fc,0,z0)).2.2.2.2.2.2.1),((qYX N js ms n m nn wl e (i,0,m2,rc,fc,0,z0)).2.2.2.2.2.2.2))) v)])] ((qYX N js ms n m nn wl e (i,0,m2,rc,fc,0,z0)).2.2.2.2.2.1 v))))
 else none)
 else none)
 else none)
 else none)
 else none)
 else (K (.exit 0) ⟨[(8,.o 37)],[(37,.reg 30 1 (.fo rc fc))]⟩)):=by kernel_rfl
noncomputable def dcs1 (N:Nat) (js:Nat→J) (ms:Nat→Ms) (n m:Nat) (nn:Int) (wl:Nat) (e:Nat→Int):(Int × Nat × Nat × (Nat→List PV))→(Int × Nat × Nat × (Nat→List PV)) ⊕ (Nat × Int × Nat × Nat × (Nat→List PV)):=fun t=>match t with | (i,m2,rc,fc)=>(bif (decide (i < nn)) then (bif (gSt (hs2 N js ms n m nn wl e i 0 m2 rc fc 0 z0) (hs2 N js ms n m nn wl e i 0 m2 rc fc 0 z0)) then (bif (zXZ N js ms n m nn wl e (i,0,m2,rc,fc,0,z0)) then (bif (Nat.beq (qYX N js ms n m nn wl e (i,0,m2,rc,fc,0,z0)).1 0) then (bif (gF1 (ccg js ms n m) (ecg js ms n m) (((qYX N js ms n m nn wl e (i,0,m2,rc,fc,0,z0)).2.2.2.2.2.2.1),((qYX N js ms n m nn wl e (i,0,m2,rc,fc,0,z0)).2.2.2.2.2.2.2))) then (bif (decide ((qYX N js ms n m nn wl e (i,0,m2,rc,fc,0,z0)).2.2.2.2.1 + 1≤1000000)) then (.inl ((vYW .i64 ((qYX N js ms n m nn wl e (i,0,m2,rc,fc,0,z0)).2.1 + 1)),((qYX N js ms n m nn wl e (i,0,m2,rc,fc,0,z0)).2.2.2.1),((qYX N js ms n m nn wl e (i,0,m2,rc,fc,0,z0)).2.2.2.2.1 + 1),(fun v=>qW (Nat.beq v (qYX N js ms n m nn wl e (i,0,m2,rc,fc,0,z0)).2.2.2.2.1) [.lf n (fun v=>[.n .i64 ((cfF js ms n m (((qYX N js ms n m nn wl e (i,0,m2,rc,fc,0,z0)).2.2.2.2.2.2.1),((qYX N js ms n m nn wl e (i,0,m2,rc,fc,0,z0)).2.2.2.2.2.2.2))) v)])] ((qYX N js ms n m nn wl e (i,0,m2,rc,fc,0,z0)).2.2.2.2.2.1 v)))) else (.inr (1,(i,m2,rc,fc)))) else (.inr (1,(i,m2,rc,fc)))) else (.inr (1,(i,m2,rc,fc)))) else (.inr (1,(i,m2,rc,fc)))) else (.inr (1,(i,m2,rc,fc)))) else (.inr (0,(i,m2,rc,fc))))
noncomputable def kxs1 (N:Nat) (js:Nat→J) (ms:Nat→Ms) (n m:Nat) (nn:Int) (wl:Nat) (e:Nat→Int) (K:Cont) (w9:Nat × Int × Nat × Nat × (Nat→List PV)):Option (Ret × Mem):=bif Nat.beq w9.1 0 then (K (.exit 0) ⟨[(8,.o 37)],[(37,.reg 30 1 (.fo w9.2.2.2.1 w9.2.2.2.2))]⟩) else none
theorem wls1 (K:Cont) (N:Nat) (js:Nat→J) (ms:Nat→Ms) (n m:Nat) (nn:Int) (wl:Nat) (e:Nat→Int):∀ n9 (t:(Int × Nat × Nat × (Nat→List PV))),LFT Tf 26 (ors1 N js ms n m nn wl e) (N + 10) (lis2 N js ms n m nn wl e) [0,1,0,1,1,1] K n9 (hs1 N js ms n m nn wl e t.1 t.2.1 t.2.2.1 t.2.2.2)=(qG (dcs1 N js ms n m nn wl e) n9 t).bind (kxs1 N js ms n m nn wl e K):=fun n9 t=>by
 refine qYG (L:=LFT Tf 26 (ors1 N js ms n m nn wl e) (N + 10) (lis2 N js ms n m nn wl e) [0,1,0,1,1,1] K) (stp:=stpT Tf 26 (ors1 N js ms n m nn wl e) (N + 10) (lis2 N js ms n m nn wl e) [0,1,0,1,1,1] K) (fun _ _=>rfl) (fun _=>rfl) (fun t=>hs1 N js ms n m nn wl e t.1 t.2.1 t.2.2.1 t.2.2.2) (fun _=>True) (dcs1 N js ms n m nn wl e) (kxs1 N js ms n m nn wl e K) (fun G t _ => ?_) (fun _ _ _ _=>trivial) n9 t trivial;obtain ⟨i,m2,rc,fc⟩:=t;refine (rds1 G K N js ms n m nn wl e i m2 rc fc).trans ?_;dsimp only [dcs1];cases (decide (i < nn))
 ·rfl
 ·cases (gSt (hs2 N js ms n m nn wl e i 0 m2 rc fc 0 z0) (hs2 N js ms n m nn wl e i 0 m2 rc fc 0 z0))
  ·rfl
  ·cases (zXZ N js ms n m nn wl e (i,0,m2,rc,fc,0,z0))
   ·rfl
   ·cases (Nat.beq (qYX N js ms n m nn wl e (i,0,m2,rc,fc,0,z0)).1 0)
    ·rfl
    ·cases (gF1 (ccg js ms n m) (ecg js ms n m) (((qYX N js ms n m nn wl e (i,0,m2,rc,fc,0,z0)).2.2.2.2.2.2.1),((qYX N js ms n m nn wl e (i,0,m2,rc,fc,0,z0)).2.2.2.2.2.2.2)))
     ·rfl
     ·cases (decide ((qYX N js ms n m nn wl e (i,0,m2,rc,fc,0,z0)).2.2.2.2.1 + 1≤1000000))
      ·rfl
      ·rfl
noncomputable def zGI (N:Nat) (js:Nat→J) (ms:Nat→Ms) (n m:Nat) (nn:Int) (wl:Nat) (e:Nat→Int) (t:(Int × Nat × Nat × (Nat→List PV))):Bool:=(qG (dcs1 N js ms n m nn wl e) (N + 10) t).isSome
noncomputable def zUF (N:Nat) (js:Nat→J) (ms:Nat→Ms) (n m:Nat) (nn:Int) (wl:Nat) (e:Nat→Int) (t:(Int × Nat × Nat × (Nat→List PV))):Nat × Int × Nat × Nat × (Nat→List PV):=(qG (dcs1 N js ms n m nn wl e) (N + 10) t).getD (99,t)
theorem lws1 (K:Cont) (N:Nat) (js:Nat→J) (ms:Nat→Ms) (n m:Nat) (nn:Int) (wl:Nat) (e:Nat→Int) (t:(Int × Nat × Nat × (Nat→List PV))) (hg:zGI N js ms n m nn wl e t=true):LFT Tf 26 (ors1 N js ms n m nn wl e) (N + 10) (lis2 N js ms n m nn wl e) [0,1,0,1,1,1] K (N + 10) (hs1 N js ms n m nn wl e t.1 t.2.1 t.2.2.1 t.2.2.2)=kxs1 N js ms n m nn wl e K (zUF N js ms n m nn wl e t):=by
 refine (wls1 K N js ms n m nn wl e (N + 10) t).trans ?_;unfold zGI at hg;unfold zUF;cases h:qG (dcs1 N js ms n m nn wl e) (N + 10) t with
 | none=>rw [h] at hg; cases hg
 | some y=>rfl
def rowC (js:Nat→J) (n:Nat) (r:List PV):Prop:=∃ q:Nat→Int,r=[.lf n (fQ q)]∧∀ v,v < n→(js v).lo≤q v∧q v≤(js v).hi
section
variable {js:Nat→J} {ms:Nat→Ms} {n m:Nat} {nn:Int} {wl:Nat} {e:Nat→Int} (hw:wl≤9223372036854775807) (hn:n≤50)
include hw hn
theorem it_s2 {i:Int} {rc:Nat} {fc:Nat→List PV}:∀ (d x M m2:Nat) (fi:Nat→Int),x + d=2 * n→d < M→m2≤wl→∃ (m3:Nat) (fi':Nat→Int),qG (dcs2 js ms n m nn wl e) M (i,(x:Int),m2,rc,fc,x,fi)=some (0,i,((2 * n:Nat):Int),m3,rc,fc,2 * n,fi')∧m3≤wl
 | _,_,0,_,_,_,h,_=>by omega
 | 0,x,M + 1,m2,fi,hd,_,hm=>by
  obtain rfl:x=2 * n:=by omega
  refine ⟨m2,fi,?_,hm⟩;rw [qG];dsimp only [dcs2];rw [show vYW .i64 (2 * (n:Int))=((2 * n:Nat):Int) from by rw [zV (by omega)]; omega,vYJ (by omega)];rfl
 | d + 1,x,M + 1,m2,fi,hd,hM,hm=>by
  rw [qG];dsimp only [dcs2];rw [show vYW .i64 (2 * (n:Int))=((2 * n:Nat):Int) from by rw [zV (by omega)]; omega,vYK (by omega),qYW (C:=cnx) (t:=(wl,m2,e,1048576)) ⟨hm,hw,by decide,by decide⟩,vYK (show x + 1≤1000000 by omega),jG (show x < 1000000 by omega)];exact it_s2 d (x + 1) M (mA wl m2 1) _ (by omega) (by omega) (kG hm 1)
theorem it_s1 (hj:qXZ js n) {k N:Nat} (hk:nn=(k:Int)) (hk2:k≤50) (hN:101≤N):∀ (d i M m2:Nat) (fc:Nat→List PV),i + d=k→d < M→m2≤wl→(∀ v,v < i→rowC js n (fc v))→∃ (m3:Nat) (fc':Nat→List PV),qG (dcs1 N js ms n m nn wl e) M ((i:Int),m2,i,fc)=some (0,nn,m3,k,fc')∧∀ v,v < k→rowC js n (fc' v)
 | _,_,0,_,_,_,h,_,_=>by omega
 | 0,i,M + 1,m2,fc,hd,_,_,hf=>by
  obtain rfl:i=k:=by omega
  refine ⟨m2,fc,?_,hf⟩;rw [qG];dsimp only [dcs1];rw [hk,vYJ (show ¬ (i:Int) < (i:Int) by omega)];rfl
 | d + 1,i,M + 1,m2,fc,hd,hM,hm,hf=>by
  obtain ⟨m3,fi,e1,e2⟩:=it_s2 (js:=js) (ms:=ms) (m:=m) (nn:=nn) (wl:=wl) (e:=e) hw hn (i:=(i:Int)) (rc:=i) (fc:=fc) (2 * n) 0 (N + 10) m2 z0 (by omega) (by omega) hm;rw [show ((0:Nat):Int)=0 from rfl] at e1;have hC:cfC js n (2 * n,fi):=⟨show 2 * n≤9223372036854775807 by omega,hn,hj⟩
  have o1:zXZ N js ms n m nn wl e ((i:Int),0,m2,i,fc,0,z0)=true:=by unfold zXZ; rw [e1]; rfl
  have o2:qYX N js ms n m nn wl e ((i:Int),0,m2,i,fc,0,z0)=(0,(i:Int),((2 * n:Nat):Int),m3,i,fc,2 * n,fi):=by unfold qYX; rw [e1]; rfl
  rw [qG];dsimp only [dcs1];simp only [vYK (show (i:Int) < nn by omega),zW,o1,o2,Nat.beq_refl,jV (C:=ccg js ms n m) (t:=(2 * n,fi)) hC,vYK (show i + 1≤1000000 by omega),jG (show i < 1000000 by omega),vYZ];refine it_s1 hj hk hk2 hN d (i + 1) M m3 _ (by omega) (by omega) e2 fun v hv => ?_
  by_cases h:v=i
  ·subst h;rw [Nat.beq_refl,qKJ];exact ⟨_,rfl,(cfF_ok hC).1⟩
  ·rw [qHL h,qKK]; exact hf v (by omega)
end
noncomputable def yYX (N:Nat) (js:Nat→J) (ms:Nat→Ms) (n m:Nat) (nn:Int) (wl:Nat) (e:Nat→Int):List (List Nat × yV):=[([0,1,0,1,1,1],sumF (fun t:(Int × Nat × Nat × (Nat→List PV))=>(hs1 N js ms n m nn wl e t.1 t.2.1 t.2.2.1 t.2.2.2)) (fun σ=>(slI σ 9,(bkC σ 13 1).toNat,rgN σ 37,rgF σ 37)) (fun t K=>(bif zGI N js ms n m nn wl e t then kxs1 N js ms n m nn wl e K (zUF N js ms n m nn wl e t) else none)))]
set_option maxRecDepth 100000 in
theorem pxcs0 (N:Nat) (js:Nat→J) (ms:Nat→Ms) (n m:Nat) (nn:Int) (wl:Nat) (e:Nat→Int):qQI Tf (ors1 N js ms n m nn wl e) (qY (yYX N js ms n m nn wl e)) (N + 10) 26 [.a [.lf n (fJ js),.lf m (fM ms)],.n .i64 nn,.lf wl (fQ e)] =
 (bif (gSt (hs1 N js ms n m nn wl e 0 0 0 zP) (hs1 N js ms n m nn wl e 0 0 0 zP)) then (bif (zGI N js ms n m nn wl e (0,0,0,zP)) then (bif (Nat.beq (zUF N js ms n m nn wl e (0,0,0,zP)).1 0) then some (.ow 30 1 (.fo (zUF N js ms n m nn wl e (0,0,0,zP)).2.2.2.1 (zUF N js ms n m nn wl e (0,0,0,zP)).2.2.2.2),[])
 else none)
 else none)
 else none):=by kernel_rfl
theorem snd_cs0 (N:Nat) (js:Nat→J) (ms:Nat→Ms) (n m:Nat) (nn:Int) (wl:Nat) (e:Nat→Int) {k m3:Nat} {fc:Nat→List PV} (h:qG (dcs1 N js ms n m nn wl e) (N + 10) (0,0,0,zP)=some (0,nn,m3,k,fc)):zY Tryz.prog 26 [.a [.lf n (fJ js),.lf m (fM ms)],.n .i64 nn,.lf wl (fQ e)] (.ow 30 1 (.fo k fc)):=by
 refine qH (N:=(N + 10)) (LO:=qY (yYX N js ms n m nn wl e)) jY yH (jK (l:=[(12,o_cg js ms n m)]) (m:=[(24,o_nx)]) ⟨ok_cg js ms n m,trivial⟩ ⟨yQK,trivial⟩) (fun p S hp => ?_) ?_
 ·refine qX (L:=qZ Tf 26) (l:=(yYX N js ms n m nn wl e)) (show AllP _ (yYX N js ms n m nn wl e) from ⟨?_,trivial⟩) p S hp
  ·dsimp only;refine jQ (T:=Tf) (o:=(ors1 N js ms n m nn wl e)) (f:=26) (LO:=(qY (lis2 N js ms n m nn wl e))) (p:=[0,1,0,1,1,1]) (oks2 N js ms n m nn wl e) ?_;intro t K r hr;obtain ⟨hg,hr⟩:=qQ hr
   skip
   exact (lws1 K N js ms n m nn wl e t hg).trans hr
 ·refine (pxcs0 N js ms n m nn wl e).trans ?_;have o1:zGI N js ms n m nn wl e (0,0,0,zP)=true:=by unfold zGI; rw [h]; rfl
  have o2:zUF N js ms n m nn wl e (0,0,0,zP)=(0,nn,m3,k,fc):=by unfold zUF; rw [h]; rfl
  rw [zW,o1,o2];rfl
theorem cs_ex (js:Nat→J) (ms:Nat→Ms) (n m k:Nat) (wl:Nat) (e:Nat→Int) (hw:wl≤9223372036854775807) (hn:n≤50) (hj:qXZ js n) (hk:k≤50):∃ qv:Nat→Nat→Int,(∀ j,j < k→∀ v,v < n→(js v).lo≤qv j v∧qv j v≤(js v).hi)∧zY Tryz.prog 26 [.a [.lf n (fJ js),.lf m (fM ms)],.n .i64 (k:Int),.lf wl (fQ e)] (.v (.lf k (fP (fun _=>n) qv))):=by
 obtain ⟨m3,fc,e1,e2⟩:=it_s1 (js:=js) (ms:=ms) (m:=m) (e:=e) hw hn hj (nn:=(k:Int)) rfl hk (N:=102) (by omega) k 0 112 0 zP (by omega) (by omega) (Nat.zero_le _) (fun v hv=>absurd hv (Nat.not_lt_zero v));have each:∀ v,∃ q:Nat→Int,v < k→fc v=[.lf n (fQ q)]∧∀ t,t < n→(js t).lo≤q t∧q t≤(js t).hi:=fun v=>by
  by_cases hv:v < k
  ·obtain ⟨q,hq⟩:=e2 v hv; exact ⟨q,fun _=>hq⟩
  ·exact ⟨fun _=>0,fun h=>absurd h hv⟩
 obtain ⟨qv,hq⟩:=Classical.axiomOfChoice each;exact ⟨qv,fun j hj=>(hq j hj).2,qKV (qXV fun j hj=>(hq j hj).1) (qVE (snd_cs0 102 js ms n m (k:Int) wl e e1))⟩
end Go.Proofs.YtklmegnpfhiibaaGreat.Xv

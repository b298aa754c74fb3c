/- Part 38 of the texts behind the last one: rules and contracts. No condition. -/
import Derived.Test.YtgmbkkkbfbocnaaGreatKL37
open Option.some renaming injEq → vQZ
open List renaming getElem?_map → vZY, getElem?_take → vZV, getD_eq_getElem?_getD → vZG
open Go.IntKind renaming wrap → vJJ
namespace Go.Proofs.YtgmbkkkbfbocnaaGreat.Go
open Go.Rx Rt Go.Sx Go.RowKit Od Na Nb Nc Nx Nf Ga Gb Gc Gd Ge Gf Gg Sn So Sq Gm Gn
noncomputable def orSc (w:Nat) (e:Nat→Int):OrS:=orS [] [(30,o_nx),(31,o_pt),(29,o_rb)]
noncomputable def hSc (w:Nat) (e:Nat→Int) (i:Int) (m2:Nat) (r:Nat) (f:Nat→List PV):St:=⟨[(2,.p 2 0),(3,.p 9 0),(4,.p 4 0),(5,.v (.n .i64 i))],[(2,.blk [.nl,.nl,.nl,.nl]),(4,.blk [.v (.lf (rbF (w,0,e)).2.2.1 (fJ (rbF (w,0,e)).1)),.v (.lf (rbF (w,0,e)).2.2.2.1 (fM (rbF (w,0,e)).2.1)),.o 40,.nl]),(9,.blk [.v (.lf w (fQ e)),.v (.n .i64 (m2:Int))]),(40,.reg 83 3 (.fo r f))]⟩
set_option maxRecDepth 100000 in
theorem rdSc (G:St→Option (Ret × Mem)) (K:Cont) (w:Nat) (e:Nat→Int) (i:Int) (m2:Nat) (r:Nat) (f:Nat→List PV):uX 60 (cxS Tf (orSc w e) 60 8 (ntmF Tf 8)) (evX Tf (orSc w e) 60 8 (ntmF Tf 8)) (qX []) (qQ Tf 8 [0,1,0,1,1,1]) [0,1,0,1,1,1] (Tf.hint 8 (qG (qQ Tf 8 [0,1,0,1,1,1]))) K G (hSc w e i m2 r f) =
 (bif (decide (i < ((rbF (w,0,e)).2.2.1:Int))) then (bif (gB1 cnx hnx enx (w,m2,e,5)) then (bif (decide ((nxV e w m2 5) < 4)) then (bif (gB1 cnx hnx enx (w,(mA w m2 1),e,3)) then (bif (gB1 cnx hnx enx (w,(mA w m2 2),e,4)) then (bif (gB1 cpt hpt ept (w,(mA w m2 3),e,(Z3.mk (vJJ .i64 ((nxV e w (mA w m2 2) 4) * 32768)) 0 0))) then (bif (decide (r + 1≤1000000)) then (G (hSc w e (vJJ .i64 (i + 1)) ((ptS w (mA w m2 3) e (Z3.mk (vJJ .i64 ((nxV e w (mA w m2 2) 4) * 32768)) 0 0)).1) (r + 1) (fun v=>uY (Nat.beq v r) [.n .i64 i,.n .i64 (vJJ .i64 ((vJJ .i64 ((vJJ .i64 (1 + (nxV e w (mA w m2 1) 3))) * 65536)).tdiv 8)),.lf ((nxV e w (mA w m2 3) 4).toNat + 1) (fZ (ptQ w (mA w m2 3) e (Z3.mk (vJJ .i64 ((nxV e w (mA w m2 2) 4) * 32768)) 0 0)))] (f v))))
 else none)
 else none)
 else none)
 else none)
 else (G (hSc w e (vJJ .i64 (i + 1)) (mA w m2 1) r f)))
 else none)
 else (K (.exit 0) ⟨[(2,.p 2 0),(3,.p 9 0),(4,.p 4 0)],[(2,.blk [.nl,.nl,.nl,.nl]),(4,.blk [.v (.lf (rbF (w,0,e)).2.2.1 (fJ (rbF (w,0,e)).1)),.v (.lf (rbF (w,0,e)).2.2.2.1 (fM (rbF (w,0,e)).2.1)),.o 40,.nl]),(9,.blk [.v (.lf w (fQ e)),.v (.n .i64 (m2:Int))]),(40,.reg 83 3 (.fo r f))]⟩)):=by kernel_rfl
def IsS (r:List PV):Prop:=∃ s:Shp,r=sP s
theorem isS_push {r:Nat} {f:Nat→List PV} {x:List PV} (h:∀ v,v < r→IsS (f v)) (hx:IsS x):∀ v,v < r + 1→IsS (uY (Nat.beq v r) x (f v)):=fun v hv=>by
 rw [uQ,qWX];by_cases e:v=r
 ·rw [vJQ e]; exact hx
 ·rw [vYH e]; exact h v (by omega)
theorem isS_mk (l q:Int) (k:Nat) (p:Nat→Z3):IsS [.n .i64 l,.n .i64 q,.lf k (fZ p)]:=⟨⟨l,q,k,p⟩,rfl⟩
def InvS (w:Nat) (b:Nat) (t:Nat × Nat × (Nat→List PV)):Prop:=t.1≤w∧t.2.1≤b∧∀ v,v < t.2.1→IsS (t.2.2 v)
theorem jZY (w:Nat) (e:Nat→Int) (hw:w≤9223372036854775807):((rbF (w,0,e)).2.2.2.2)≤w∧(1≤(rbF (w,0,e)).2.2.1∧(rbF (w,0,e)).2.2.1≤3):=⟨(jKK (t:=(w,0,e)) ⟨Nat.zero_le _,hw⟩).1.1,(jKK (t:=(w,0,e)) ⟨Nat.zero_le _,hw⟩).1.2.1⟩
noncomputable def sc1N (w:Nat) (e:Nat→Int) (i:Nat) (t:Nat × Nat × (Nat→List PV)):Nat × Nat × (Nat→List PV) :=
 (bif (decide ((nxV e w t.1 5) < 4)) then (((ptS w (mA w t.1 3) e (Z3.mk (vJJ .i64 ((nxV e w (mA w t.1 2) 4) * 32768)) 0 0)).1),(t.2.1 + 1),(fun v=>uY (Nat.beq v t.2.1) [.n .i64 (i:Int),.n .i64 (vJJ .i64 ((vJJ .i64 ((vJJ .i64 (1 + (nxV e w (mA w t.1 1) 3))) * 65536)).tdiv 8)),.lf ((nxV e w (mA w t.1 3) 4).toNat + 1) (fZ (ptQ w (mA w t.1 3) e (Z3.mk (vJJ .i64 ((nxV e w (mA w t.1 2) 4) * 32768)) 0 0)))] (t.2.2 v))) else ((mA w t.1 1),t.2.1,t.2.2))
theorem sc1N_ok {w:Nat} {e:Nat→Int} (i:Nat) (t:Nat × Nat × (Nat→List PV)) (h:InvS w i t):InvS w (i + 1) (sc1N w e i t):=by
 obtain ⟨h1,h2,h3⟩:=h;unfold sc1N;cases (decide ((nxV e w t.1 5) < 4)) with
 | true=>exact ⟨ptS_le _ _ _ _ (kQ h1 3),(by show t.2.1 + 1≤i + 1; omega),isS_push h3 (isS_mk _ _ _ _)⟩
 | false=>exact ⟨kQ h1 1,(by show t.2.1≤i + 1; omega),h3⟩
noncomputable def sc1S (w:Nat) (e:Nat→Int):Nat × Nat × (Nat→List PV):=jZ (sc1N w e) (rbF (w,0,e)).2.2.1 0 (((rbF (w,0,e)).2.2.2.2),0,(fun v=>[.n .i64 0,.n .i64 0,.zs]))
theorem sc1S_ok (w:Nat) (e:Nat→Int) (hw:w≤9223372036854775807):InvS w 3 (sc1S w e):=by
 have hr:=jZY w e hw;obtain ⟨a,b,c⟩:=qKJ (Q:=fun (i:Nat) (t:Nat × Nat × (Nat→List PV))=>InvS w i t) (c:=(rbF (w,0,e)).2.2.1) (nx:=sc1N w e) (fun i t _ h=>sc1N_ok i t h) (rbF (w,0,e)).2.2.1 0 (((rbF (w,0,e)).2.2.2.2),0,(fun v=>[.n .i64 0,.n .i64 0,.zs])) (by omega) ⟨hr.1,Nat.zero_le _,fun v hv=>absurd hv (by show ¬ v < 0; omega)⟩;exact ⟨a,Nat.le_trans b hr.2.2,c⟩
theorem lpSc (K:Cont) (w:Nat) (e:Nat→Int) (hw:w≤9223372036854775807):LFX 60 (cxS Tf (orSc w e) 60 8 (ntmF Tf 8)) (evX Tf (orSc w e) 60 8 (ntmF Tf 8)) (qX []) (qQ Tf 8 [0,1,0,1,1,1]) [0,1,0,1,1,1] (Tf.hint 8 (qG (qQ Tf 8 [0,1,0,1,1,1]))) K 60 (hSc w e 0 ((rbF (w,0,e)).2.2.2.2) 0 (fun v=>[.n .i64 0,.n .i64 0,.zs]))=(K (.exit 0) ⟨[(2,.p 2 0),(3,.p 9 0),(4,.p 4 0)],[(2,.blk [.nl,.nl,.nl,.nl]),(4,.blk [.v (.lf (rbF (w,0,e)).2.2.1 (fJ (rbF (w,0,e)).1)),.v (.lf (rbF (w,0,e)).2.2.2.1 (fM (rbF (w,0,e)).2.1)),.o 40,.nl]),(9,.blk [.v (.lf w (fQ e)),.v (.n .i64 ((sc1S w e).1:Int))]),(40,.reg 83 3 (.fo (sc1S w e).2.1 (sc1S w e).2.2))]⟩):=by
 have hr:=jZY w e hw;refine (qJU (L:=LFX 60 (cxS Tf (orSc w e) 60 8 (ntmF Tf 8)) (evX Tf (orSc w e) 60 8 (ntmF Tf 8)) (qX []) (qQ Tf 8 [0,1,0,1,1,1]) [0,1,0,1,1,1] (Tf.hint 8 (qG (qQ Tf 8 [0,1,0,1,1,1]))) K) (stp:=uX 60 (cxS Tf (orSc w e) 60 8 (ntmF Tf 8)) (evX Tf (orSc w e) 60 8 (ntmF Tf 8)) (qX []) (qQ Tf 8 [0,1,0,1,1,1]) [0,1,0,1,1,1] (Tf.hint 8 (qG (qQ Tf 8 [0,1,0,1,1,1]))) K) (fun _ _=>rfl) (fun (i:Nat) (t:Nat × Nat × (Nat→List PV))=>hSc w e (i:Int) t.1 t.2.1 t.2.2) (fun i t=>InvS w i t) (fun _ _=>true) (sc1N w e) (c:=(rbF (w,0,e)).2.2.1) (fun t=>(K (.exit 0) ⟨[(2,.p 2 0),(3,.p 9 0),(4,.p 4 0)],[(2,.blk [.nl,.nl,.nl,.nl]),(4,.blk [.v (.lf (rbF (w,0,e)).2.2.1 (fJ (rbF (w,0,e)).1)),.v (.lf (rbF (w,0,e)).2.2.2.1 (fM (rbF (w,0,e)).2.1)),.o 40,.nl]),(9,.blk [.v (.lf w (fQ e)),.v (.n .i64 (t.1:Int))]),(40,.reg 83 3 (.fo t.2.1 t.2.2))]⟩)) (fun _ _=>none) (fun G i t hi hv => ?_) (fun i t hi hv _=>sc1N_ok i t hv) (fun G t hv => ?_) (rbF (w,0,e)).2.2.1 0 60 (((rbF (w,0,e)).2.2.2.2),0,(fun v=>[.n .i64 0,.n .i64 0,.zs])) (by omega) (by omega) ⟨hr.1,Nat.zero_le _,fun v hv=>absurd hv (by show ¬ v < 0; omega)⟩).trans (qYQ (rbF (w,0,e)).2.2.1 0 _)
 ·obtain ⟨h1,h2,h3⟩:=hv;refine (rdSc G K w e i t.1 t.2.1 t.2.2).trans ?_;simp only [vJQ (show (i:Int) < ((rbF (w,0,e)).2.2.1:Int) by omega),qQQ (C:=cnx) (t:=(w,t.1,e,5)) ⟨h1,hw,by decide,by decide⟩,qQQ (C:=cnx) (t:=(w,mA w t.1 1,e,3)) ⟨kQ h1 1,hw,by decide,by decide⟩,qQQ (C:=cnx) (t:=(w,mA w t.1 2,e,4)) ⟨kQ h1 2,hw,by decide,by decide⟩,qQQ (C:=cpt) (t:=(w,mA w t.1 3,e,Z3.mk (vJJ .i64 (nxV e w (mA w t.1 2) 4 * 32768)) 0 0)) ⟨kQ h1 3,hw⟩,vJQ (show t.2.1 + 1≤1000000 by omega),qZH (show i < 1000000 by omega),vYV];unfold sc1N;cases (decide ((nxV e w t.1 5) < 4)) <;> rfl
 ·refine (rdSc G K w e ((rbF (w,0,e)).2.2.1:Int) t.1 t.2.1 t.2.2).trans ?_;rw [vYH (show ¬ ((rbF (w,0,e)).2.2.1:Int) < ((rbF (w,0,e)).2.2.1:Int) by omega)];rfl
noncomputable def hSd (w:Nat) (e:Nat→Int) (k:Int) (m2:Nat) (r:Nat) (f:Nat→List PV):St:=⟨[(2,.p 2 0),(3,.p 9 0),(4,.p 4 0),(6,.v (.n .i64 k))],[(2,.blk [.nl,.nl,.nl,.nl]),(4,.blk [.v (.lf (rbF (w,0,e)).2.2.1 (fJ (rbF (w,0,e)).1)),.v (.lf (rbF (w,0,e)).2.2.2.1 (fM (rbF (w,0,e)).2.1)),.o 40,.nl]),(9,.blk [.v (.lf w (fQ e)),.v (.n .i64 (m2:Int))]),(40,.reg 83 3 (.fo r f))]⟩
set_option maxRecDepth 100000 in
theorem rdSd (G:St→Option (Ret × Mem)) (K:Cont) (w:Nat) (e:Nat→Int) (k:Int) (m2:Nat) (r:Nat) (f:Nat→List PV):uX 60 (cxS Tf (orSc w e) 60 8 (ntmF Tf 8)) (evX Tf (orSc w e) 60 8 (ntmF Tf 8)) (qX []) (qQ Tf 8 [0,1,0,1,1,1,1]) [0,1,0,1,1,1,1] (Tf.hint 8 (qG (qQ Tf 8 [0,1,0,1,1,1,1]))) K G (hSd w e k m2 r f) =
 (bif (decide (0 < k)) then (bif (gB1 cnx hnx enx (w,m2,e,19)) then (bif (gB1 cnx hnx enx (w,(mA w m2 1),e,19)) then (bif (gB1 cnx hnx enx (w,(mA w m2 2),e,5)) then (bif (gB1 cnx hnx enx (w,(mA w m2 3),e,4)) then (bif (gB1 cpt hpt ept (w,(mA w m2 4),e,(Z3.mk (vJJ .i64 ((vJJ .i64 ((nxV e w m2 19) - 9)) * 32768)) (vJJ .i64 ((vJJ .i64 ((nxV e w (mA w m2 1) 19) - 9)) * 32768)) (vJJ .i64 ((vJJ .i64 ((nxV e w (mA w m2 2) 5) - 2)) * 32768))))) then (bif (decide (r + 1≤1000000)) then (G (hSd w e (vJJ .i64 (k - 1)) ((ptS w (mA w m2 4) e (Z3.mk (vJJ .i64 ((vJJ .i64 ((nxV e w m2 19) - 9)) * 32768)) (vJJ .i64 ((vJJ .i64 ((nxV e w (mA w m2 1) 19) - 9)) * 32768)) (vJJ .i64 ((vJJ .i64 ((nxV e w (mA w m2 2) 5) - 2)) * 32768)))).1) (r + 1) (fun v=>uY (Nat.beq v r) [.n .i64 (-1),.n .i64 (vJJ .i64 ((vJJ .i64 ((vJJ .i64 (1 + (nxV e w (mA w m2 3) 4))) * 65536)).tdiv 8)),.lf ((nxV e w (mA w m2 4) 4).toNat + 1) (fZ (ptQ w (mA w m2 4) e (Z3.mk (vJJ .i64 ((vJJ .i64 ((nxV e w m2 19) - 9)) * 32768)) (vJJ .i64 ((vJJ .i64 ((nxV e w (mA w m2 1) 19) - 9)) * 32768)) (vJJ .i64 ((vJJ .i64 ((nxV e w (mA w m2 2) 5) - 2)) * 32768)))))] (f v))))
 else none)
 else none)
 else none)
 else none)
 else none)
 else none)
 else (K (.exit 2) ⟨[(2,.p 2 0),(3,.p 9 0),(4,.p 4 0)],[(2,.blk [.nl,.nl,.nl,.nl]),(4,.blk [.v (.lf (rbF (w,0,e)).2.2.1 (fJ (rbF (w,0,e)).1)),.v (.lf (rbF (w,0,e)).2.2.2.1 (fM (rbF (w,0,e)).2.1)),.o 40,.nl]),(9,.blk [.v (.lf w (fQ e)),.v (.n .i64 (m2:Int))]),(40,.reg 83 3 (.fo r f))]⟩)):=by kernel_rfl
noncomputable def sc2N (w:Nat) (e:Nat→Int) (_:Nat) (t:Nat × Nat × (Nat→List PV)):Nat × Nat × (Nat→List PV) :=
 (((ptS w (mA w t.1 4) e (Z3.mk (vJJ .i64 ((vJJ .i64 ((nxV e w t.1 19) - 9)) * 32768)) (vJJ .i64 ((vJJ .i64 ((nxV e w (mA w t.1 1) 19) - 9)) * 32768)) (vJJ .i64 ((vJJ .i64 ((nxV e w (mA w t.1 2) 5) - 2)) * 32768)))).1),(t.2.1 + 1),(fun v=>uY (Nat.beq v t.2.1) [.n .i64 (-1),.n .i64 (vJJ .i64 ((vJJ .i64 ((vJJ .i64 (1 + (nxV e w (mA w t.1 3) 4))) * 65536)).tdiv 8)),.lf ((nxV e w (mA w t.1 4) 4).toNat + 1) (fZ (ptQ w (mA w t.1 4) e (Z3.mk (vJJ .i64 ((vJJ .i64 ((nxV e w t.1 19) - 9)) * 32768)) (vJJ .i64 ((vJJ .i64 ((nxV e w (mA w t.1 1) 19) - 9)) * 32768)) (vJJ .i64 ((vJJ .i64 ((nxV e w (mA w t.1 2) 5) - 2)) * 32768)))))] (t.2.2 v)))
theorem sc2N_ok {w:Nat} {e:Nat→Int} (i:Nat) (t:Nat × Nat × (Nat→List PV)) (h:InvS w (3 + i) t):InvS w (3 + (i + 1)) (sc2N w e i t):=by
 obtain ⟨h1,h2,h3⟩:=h;exact ⟨ptS_le _ _ _ _ (kQ h1 4),(by show t.2.1 + 1≤3 + (i + 1); omega),isS_push h3 (isS_mk _ _ _ _)⟩
theorem k1_b (w:Nat) (e:Nat→Int):1≤(vJJ .i64 (1 + (nxV e w ((sc1S w e).1) 3)))∧(vJJ .i64 (1 + (nxV e w ((sc1S w e).1) 3)))≤3:=by
 have:=qWQ (e:=e) (w:=w) (m:=((sc1S w e).1)) (k:=3) (by decide)
 rw [zZ (by omega)]; omega
noncomputable def sc2S (w:Nat) (e:Nat→Int):Nat × Nat × (Nat→List PV):=jZ (sc2N w e) (vJJ .i64 (1 + (nxV e w ((sc1S w e).1) 3))).toNat 0 (mA w ((sc1S w e).1) 1,(sc1S w e).2.1,(sc1S w e).2.2)
theorem sc1_in (w:Nat) (e:Nat→Int) (hw:w≤9223372036854775807):InvS w (3 + 0) (mA w ((sc1S w e).1) 1,(sc1S w e).2.1,(sc1S w e).2.2):=by
 have h:=sc1S_ok w e hw;exact ⟨kQ h.1 1,h.2.1,h.2.2⟩
theorem sc2S_ok (w:Nat) (e:Nat→Int) (hw:w≤9223372036854775807):InvS w 6 (sc2S w e):=by
 have hk:=k1_b w e;obtain ⟨a,b,c⟩:=qKJ (Q:=fun (i:Nat) (t:Nat × Nat × (Nat→List PV))=>InvS w (3 + i) t) (c:=(vJJ .i64 (1 + (nxV e w ((sc1S w e).1) 3))).toNat) (nx:=sc2N w e) (fun i t _ h=>sc2N_ok i t h) (vJJ .i64 (1 + (nxV e w ((sc1S w e).1) 3))).toNat 0 _ (by omega) (sc1_in w e hw);exact ⟨a,Nat.le_trans b (by omega),c⟩
theorem lpSd (K:Cont) (w:Nat) (e:Nat→Int) (hw:w≤9223372036854775807):LFX 60 (cxS Tf (orSc w e) 60 8 (ntmF Tf 8)) (evX Tf (orSc w e) 60 8 (ntmF Tf 8)) (qX []) (qQ Tf 8 [0,1,0,1,1,1,1]) [0,1,0,1,1,1,1] (Tf.hint 8 (qG (qQ Tf 8 [0,1,0,1,1,1,1]))) K 60 (hSd w e (vJJ .i64 (1 + (nxV e w ((sc1S w e).1) 3))) (mA w ((sc1S w e).1) 1) ((sc1S w e).2.1) ((sc1S w e).2.2))=(K (.exit 2) ⟨[(2,.p 2 0),(3,.p 9 0),(4,.p 4 0)],[(2,.blk [.nl,.nl,.nl,.nl]),(4,.blk [.v (.lf (rbF (w,0,e)).2.2.1 (fJ (rbF (w,0,e)).1)),.v (.lf (rbF (w,0,e)).2.2.2.1 (fM (rbF (w,0,e)).2.1)),.o 40,.nl]),(9,.blk [.v (.lf w (fQ e)),.v (.n .i64 ((sc2S w e).1:Int))]),(40,.reg 83 3 (.fo (sc2S w e).2.1 (sc2S w e).2.2))]⟩):=by
 have hk:=k1_b w e;refine (congrArg (LFX 60 (cxS Tf (orSc w e) 60 8 (ntmF Tf 8)) (evX Tf (orSc w e) 60 8 (ntmF Tf 8)) (qX []) (qQ Tf 8 [0,1,0,1,1,1,1]) [0,1,0,1,1,1,1] (Tf.hint 8 (qG (qQ Tf 8 [0,1,0,1,1,1,1]))) K 60) (show (hSd w e (vJJ .i64 (1 + (nxV e w ((sc1S w e).1) 3))) (mA w ((sc1S w e).1) 1) ((sc1S w e).2.1) ((sc1S w e).2.2))=hSd w e ((vJJ .i64 (1 + (nxV e w ((sc1S w e).1) 3))) - ((0:Nat):Int)) (mA w ((sc1S w e).1) 1) (sc1S w e).2.1 (sc1S w e).2.2 from by rw [show (vJJ .i64 (1 + (nxV e w ((sc1S w e).1) 3))) - ((0:Nat):Int)=(vJJ .i64 (1 + (nxV e w ((sc1S w e).1) 3))) by omega])).trans ?_;refine (qJU (L:=LFX 60 (cxS Tf (orSc w e) 60 8 (ntmF Tf 8)) (evX Tf (orSc w e) 60 8 (ntmF Tf 8)) (qX []) (qQ Tf 8 [0,1,0,1,1,1,1]) [0,1,0,1,1,1,1] (Tf.hint 8 (qG (qQ Tf 8 [0,1,0,1,1,1,1]))) K) (stp:=uX 60 (cxS Tf (orSc w e) 60 8 (ntmF Tf 8)) (evX Tf (orSc w e) 60 8 (ntmF Tf 8)) (qX []) (qQ Tf 8 [0,1,0,1,1,1,1]) [0,1,0,1,1,1,1] (Tf.hint 8 (qG (qQ Tf 8 [0,1,0,1,1,1,1]))) K) (fun _ _=>rfl) (fun (i:Nat) (t:Nat × Nat × (Nat→List PV))=>hSd w e ((vJJ .i64 (1 + (nxV e w ((sc1S w e).1) 3))) - (i:Int)) t.1 t.2.1 t.2.2) (fun i t=>InvS w (3 + i) t) (fun _ _=>true) (sc2N w e) (c:=(vJJ .i64 (1 + (nxV e w ((sc1S w e).1) 3))).toNat) (fun t=>(K (.exit 2) ⟨[(2,.p 2 0),(3,.p 9 0),(4,.p 4 0)],[(2,.blk [.nl,.nl,.nl,.nl]),(4,.blk [.v (.lf (rbF (w,0,e)).2.2.1 (fJ (rbF (w,0,e)).1)),.v (.lf (rbF (w,0,e)).2.2.2.1 (fM (rbF (w,0,e)).2.1)),.o 40,.nl]),(9,.blk [.v (.lf w (fQ e)),.v (.n .i64 (t.1:Int))]),(40,.reg 83 3 (.fo t.2.1 t.2.2))]⟩)) (fun _ _=>none) (fun G i t hi hv => ?_) (fun i t hi hv _=>sc2N_ok i t hv) (fun G t hv => ?_) (vJJ .i64 (1 + (nxV e w ((sc1S w e).1) 3))).toNat 0 60 _ (by omega) (by omega) (sc1_in w e hw)).trans (qYQ (vJJ .i64 (1 + (nxV e w ((sc1S w e).1) 3))).toNat 0 _)
 ·obtain ⟨h1,h2,h3⟩:=hv;refine (rdSd G K w e ((vJJ .i64 (1 + (nxV e w ((sc1S w e).1) 3))) - (i:Int)) t.1 t.2.1 t.2.2).trans ?_;simp only [vJQ (show 0 < (vJJ .i64 (1 + (nxV e w ((sc1S w e).1) 3))) - (i:Int) by omega),qQQ (C:=cnx) (t:=(w,t.1,e,19)) ⟨h1,hw,by decide,by decide⟩,qQQ (C:=cnx) (t:=(w,mA w t.1 1,e,19)) ⟨kQ h1 1,hw,by decide,by decide⟩,qQQ (C:=cnx) (t:=(w,mA w t.1 2,e,5)) ⟨kQ h1 2,hw,by decide,by decide⟩,qQQ (C:=cnx) (t:=(w,mA w t.1 3,e,4)) ⟨kQ h1 3,hw,by decide,by decide⟩,qQQ (C:=cpt) (t:=(w,(mA w t.1 4),e,(Z3.mk (vJJ .i64 ((vJJ .i64 ((nxV e w t.1 19) - 9)) * 32768)) (vJJ .i64 ((vJJ .i64 ((nxV e w (mA w t.1 1) 19) - 9)) * 32768)) (vJJ .i64 ((vJJ .i64 ((nxV e w (mA w t.1 2) 5) - 2)) * 32768))))) ⟨kQ h1 4,hw⟩,vJQ (show t.2.1 + 1≤1000000 by omega),show vJJ .i64 ((vJJ .i64 (1 + (nxV e w ((sc1S w e).1) 3))) - (i:Int) - 1)=(vJJ .i64 (1 + (nxV e w ((sc1S w e).1) 3))) - ((i + 1:Nat):Int) from by rw [show (vJJ .i64 (1 + (nxV e w ((sc1S w e).1) 3))) - (i:Int) - 1=(vJJ .i64 (1 + (nxV e w ((sc1S w e).1) 3))) - ((i + 1:Nat):Int) by omega]; exact zZ (by omega),vYV];rfl
 ·refine (rdSd G K w e ((vJJ .i64 (1 + (nxV e w ((sc1S w e).1) 3))) - (((vJJ .i64 (1 + (nxV e w ((sc1S w e).1) 3))).toNat:Nat):Int)) t.1 t.2.1 t.2.2).trans ?_;rw [vYH (show ¬ 0 < (vJJ .i64 (1 + (nxV e w ((sc1S w e).1) 3))) - (((vJJ .i64 (1 + (nxV e w ((sc1S w e).1) 3))).toNat:Nat):Int) by omega)];rfl
noncomputable def jKV (w:Nat) (e:Nat→Int):List (List Nat × kV):=[([0,1,0,1,1,1],sumF (fun _:Unit=>(hSc w e 0 ((rbF (w,0,e)).2.2.2.2) 0 (fun v=>[.n .i64 0,.n .i64 0,.zs]))) (fun _=>()) (fun _ K=>(bif gP (w≤9223372036854775807) then (K (.exit 0) ⟨[(2,.p 2 0),(3,.p 9 0),(4,.p 4 0)],[(2,.blk [.nl,.nl,.nl,.nl]),(4,.blk [.v (.lf (rbF (w,0,e)).2.2.1 (fJ (rbF (w,0,e)).1)),.v (.lf (rbF (w,0,e)).2.2.2.1 (fM (rbF (w,0,e)).2.1)),.o 40,.nl]),(9,.blk [.v (.lf w (fQ e)),.v (.n .i64 ((sc1S w e).1:Int))]),(40,.reg 83 3 (.fo (sc1S w e).2.1 (sc1S w e).2.2))]⟩) else none))),([0,1,0,1,1,1,1],sumF (fun _:Unit=>(hSd w e (vJJ .i64 (1 + (nxV e w ((sc1S w e).1) 3))) (mA w ((sc1S w e).1) 1) ((sc1S w e).2.1) ((sc1S w e).2.2))) (fun _=>()) (fun _ K=>(bif gP (w≤9223372036854775807) then (K (.exit 2) ⟨[(2,.p 2 0),(3,.p 9 0),(4,.p 4 0)],[(2,.blk [.nl,.nl,.nl,.nl]),(4,.blk [.v (.lf (rbF (w,0,e)).2.2.1 (fJ (rbF (w,0,e)).1)),.v (.lf (rbF (w,0,e)).2.2.2.1 (fM (rbF (w,0,e)).2.1)),.o 40,.nl]),(9,.blk [.v (.lf w (fQ e)),.v (.n .i64 ((sc2S w e).1:Int))]),(40,.reg 83 3 (.fo (sc2S w e).2.1 (sc2S w e).2.2))]⟩) else none)))]
set_option maxRecDepth 100000 in
theorem pxscn0 (w:Nat) (e:Nat→Int):qWH Tf (orSc w e) (qX (jKV w e)) 60 8 [.lf w (fQ e)] =
 (bif (gB1 crb hrb erb (w,0,e)) then (bif (gSt (hSc w e 0 ((rbF (w,0,e)).2.2.2.2) 0 (fun v=>[.n .i64 0,.n .i64 0,.zs])) (hSc w e 0 ((rbF (w,0,e)).2.2.2.2) 0 (fun v=>[.n .i64 0,.n .i64 0,.zs]))) then (bif gP (w≤9223372036854775807) then (bif (gB1 cnx hnx enx (w,((sc1S w e).1),e,3)) then (bif (gSt (hSd w e (vJJ .i64 (1 + (nxV e w ((sc1S w e).1) 3))) (mA w ((sc1S w e).1) 1) ((sc1S w e).2.1) ((sc1S w e).2.2)) (hSd w e (vJJ .i64 (1 + (nxV e w ((sc1S w e).1) 3))) (mA w ((sc1S w e).1) 1) ((sc1S w e).2.1) ((sc1S w e).2.2))) then (bif gP (w≤9223372036854775807) then (bif (gB1 cnx hnx enx (w,((sc2S w e).1),e,5)) then (bif (decide ((nxV e w ((sc2S w e).1) 5)=1)) then (bif (gB1 cnx hnx enx (w,(mA w ((sc2S w e).1) 1),e,((rbF (w,0,e)).2.2.1:Int))) then some (.v (.a [.lf (rbF (w,0,e)).2.2.1 (fJ (rbF (w,0,e)).1),.lf (rbF (w,0,e)).2.2.2.1 (fM (rbF (w,0,e)).2.1),.lf ((sc2S w e).2.1) ((sc2S w e).2.2),.l [[.n .i64 (-1),.n .i64 (nxV e w (mA w ((sc2S w e).1) 1) ((rbF (w,0,e)).2.2.1:Int))]]]),[])
 else none)
 else some (.v (.a [.lf (rbF (w,0,e)).2.2.1 (fJ (rbF (w,0,e)).1),.lf (rbF (w,0,e)).2.2.2.1 (fM (rbF (w,0,e)).2.1),.lf ((sc2S w e).2.1) ((sc2S w e).2.2),.l []]),[]))
 else none)
 else none)
 else none)
 else none)
 else none)
 else none)
 else none):=by kernel_rfl
theorem snd_scn0 (w:Nat) (e:Nat→Int) (hw:w≤9223372036854775807):yH Tryz.prog 8 [.lf w (fQ e)] (.v (.a [.lf (rbF (w,0,e)).2.2.1 (fJ (rbF (w,0,e)).1),.lf (rbF (w,0,e)).2.2.2.1 (fM (rbF (w,0,e)).2.1),.lf (sc2S w e).2.1 (sc2S w e).2.2,bif decide ((nxV e w ((sc2S w e).1) 5)=1) then .l [[.n .i64 (-1),.n .i64 (nxV e w (mA w ((sc2S w e).1) 1) ((rbF (w,0,e)).2.2.1:Int))]] else .l []])):=by
 refine yU (N:=60) (LO:=qX (jKV w e)) qQV yJ (qQH (l:=[]) (m:=[(30,o_nx),(31,o_pt),(29,o_rb)]) trivial ⟨jWH,ok_pt,ok_rb,trivial⟩) (fun p S hp => ?_) ?_
 ·refine yY (L:=qQ Tf 8) (l:=(jKV w e)) (show AllP _ (jKV w e) from ⟨?_,?_,trivial⟩) p S hp
  ·dsimp only;refine qQU (T:=Tf) (o:=(orSc w e)) (f:=8) (LO:=qX []) (p:=[0,1,0,1,1,1]) qZY ?_;intro t K r hr;obtain ⟨hg,hr⟩:=qY hr
   skip
   exact (lpSc K w e (qKV hg)).trans hr
  ·dsimp only;refine qQU (T:=Tf) (o:=(orSc w e)) (f:=8) (LO:=qX []) (p:=[0,1,0,1,1,1,1]) qZY ?_;intro t K r hr;obtain ⟨hg,hr⟩:=qY hr
   skip
   exact (lpSd K w e (qKV hg)).trans hr
 ·refine (pxscn0 w e).trans ?_;have hr:=jZY w e hw;have h1:=sc1S_ok w e hw;have h2:=sc2S_ok w e hw;simp only [qQQ (C:=crb) (t:=(w,0,e)) ⟨Nat.zero_le _,hw⟩,jK,yHK hw,qQQ (C:=cnx) (t:=(w,(sc1S w e).1,e,3)) ⟨h1.1,hw,by decide,by decide⟩,qQQ (C:=cnx) (t:=(w,(sc2S w e).1,e,5)) ⟨h2.1,hw,by decide,by decide⟩,qQQ (C:=cnx) (t:=(w,mA w (sc2S w e).1 1,e,((rbF (w,0,e)).2.2.1:Int))) ⟨kQ h2.1 1,hw,by omega,by omega⟩,vYV];cases decide ((nxV e w ((sc2S w e).1) 5)=1) <;> rfl
theorem lim_of {js:Nat→J} {n:Nat} (h:∀ v,v < n→JM v (js v)):yYJ js n:=fun v hv=>by
 have h0:=(h v hv).2.1;unfold JF at h0;obtain ⟨_,_,_,_,_,⟨a,b,c⟩,_⟩:=h0;have hk:limK (js v).kind≤4194304:=by
  unfold limK;split
  ·decide
  ·split <;> decide
 omega
theorem rows_S {f:Nat→List PV} {c:Nat} (h:∀ v,v < c→IsS (f v)):∃ sh:Nat→Shp,∀ v,v < c→f v=fS sh v:=by
 obtain ⟨sh,hs⟩:=choose_all (τ:=Nat) (C:=fun v=>v < c) (R:=fun v s=>f v=sP s) (⟨0,0,0,fun _=>⟨0,0,0⟩⟩:Shp) h;exact ⟨sh,hs⟩
theorem scn_ex (w:Nat) (e:Nat→Int) (hw:w≤9223372036854775807):∃ (js:Nat→J) (ms:Nat→Ms) (sh:Nat→Shp) (sk:Nat→Skp) (n m c d:Nat),(1≤n∧n≤3)∧yYJ js n∧yH Tryz.prog 8 [.lf w (fQ e)] (.v (.a [.lf n (fJ js),.lf m (fM ms),.lf c (fS sh),.lf d (fK sk)])):=by
 have h0:=snd_scn0 w e hw;have hr:=(jKK (t:=(w,0,e)) ⟨Nat.zero_le _,hw⟩).1;obtain ⟨sh,hs⟩:=rows_S (sc2S_ok w e hw).2.2;cases hc:decide ((nxV e w ((sc2S w e).1) 5)=1) with
 | true =>
  rw [hc] at h0;exact ⟨_,_,sh,fun _=>⟨-1,(nxV e w (mA w ((sc2S w e).1) 1) ((rbF (w,0,e)).2.2.1:Int))⟩,_,_,_,1,hr.2.1,lim_of hr.2.2.2.1,qUU (Same.a (xs:=[_,_,_,_]) ⟨qYH fun _ _=>rfl,qYH fun _ _=>rfl,qYH hs,Same.lf rfl,trivial⟩) h0⟩
 | false =>
  rw [hc] at h0;exact ⟨_,_,sh,fun _=>⟨0,0⟩,_,_,_,0,hr.2.1,lim_of hr.2.2.2.1,qUU (Same.a (xs:=[_,_,_,_]) ⟨qYH fun _ _=>rfl,qYH fun _ _=>rfl,qYH hs,Same.lf rfl,trivial⟩) h0⟩
end Go.Proofs.YtgmbkkkbfbocnaaGreat.Go
namespace Go.Proofs.YtgmbkkkbfbocnaaGreat.Gp
open Go.Rx Rt Go.Sx Go.RowKit Od Na Nb Nc Nx Nf Ga Gb Gc Gd Ge Gf Gg Sn So Sq Gm Gn Go
def clw:(Nat→J) × (Nat→Ms) × (Nat→Shp) × (Nat→Skp) × Nat × Nat × Nat × Nat × (Nat→Iv) × Nat→Prop:=fun t=>match t with | (js,ms,sh,sk,n,m,c,d,bx,k)=>k≤9223372036854775807
def elw:(Nat→J) × (Nat→Ms) × (Nat→Shp) × (Nat→Skp) × Nat × Nat × Nat × Nat × (Nat→Iv) × Nat→List PV:=fun t=>match t with | (js,ms,sh,sk,n,m,c,d,bx,k)=>[.a [.lf n (fJ js),.lf m (fM ms),.lf c (fS sh),.lf d (fK sk)],.lf k (fB bx)]
noncomputable def rlw:(Nat→J) × (Nat→Ms) × (Nat→Shp) × (Nat→Skp) × Nat × Nat × Nat × Nat × (Nat→Iv) × Nat→Ret:=fun t=>match t with | (js,ms,sh,sk,n,m,c,d,bx,k)=>.v (.b true)
def dlw:List PV→(Nat→J) × (Nat→Ms) × (Nat→Shp) × (Nat→Skp) × Nat × Nat × Nat × Nat × (Nat→Iv) × Nat:=fun ps=>match ps with
 | [.a [.lf n js,.lf m ms,.lf c sh,.lf d sk],.lf k f]=>(unFJ js,unFM ms,unFS sh,unFK sk,n,m,c,d,unFB f,k)
 | _=>(fun _=>⟨ByteArray.empty,0,0,⟨0,0,0⟩,0,0,0,0,0,0⟩,fun _=>⟨0,0,⟨0,0,0⟩⟩,fun _=>⟨0,0,0,fun _=>⟨0,0,0⟩⟩,fun _=>⟨0,0⟩,0,0,0,0,fun _=>⟨0,0⟩,0)
noncomputable def o_lw:List PV→Option (Bool × Ret):=o_fm dlw clw elw rlw
theorem ok_lw:zX Tryz.prog 11 o_lw:=zGW fun t h=>by
 obtain ⟨js,ms,sh,sk,n,m,c,d,bx,k⟩:=t;exact snd_lks js ms sh sk n m c d bx k h
noncomputable def orlwk (js:Nat→J) (ms:Nat→Ms) (sh:Nat→Shp) (sk:Nat→Skp) (n m c d:Nat) (bx:Nat→Iv) (k w:Nat) (e:Nat→Int) (w2:Nat) (e2:Nat→Int) (js2:Nat→J) (ms2:Nat→Ms) (sh2:Nat→Shp) (sk2:Nat→Skp) (n2 m2 c2 d2:Nat) (bz:Nat→Iv):OrS:=orS [(10,o_cr [] (.v (.b true))),(8,o_cr [.lf w (fQ e)] (.v (.a [.lf n2 (fJ js2),.lf m2 (fM ms2),.lf c2 (fS sh2),.lf d2 (fK sk2)]))),(9,o_cr [.a [.lf n2 (fJ js2),.lf m2 (fM ms2)],.lf w2 (fQ e2)] (.ow 62 2 (.fo n2 (fB bz)))),(11,o_lw)] []
noncomputable def kZW (js:Nat→J) (ms:Nat→Ms) (sh:Nat→Shp) (sk:Nat→Skp) (n m c d:Nat) (bx:Nat→Iv) (k w:Nat) (e:Nat→Int) (w2:Nat) (e2:Nat→Int) (js2:Nat→J) (ms2:Nat→Ms) (sh2:Nat→Shp) (sk2:Nat→Skp) (n2 m2 c2 d2:Nat) (bz:Nat→Iv):List (List Nat × kV):=[]
set_option maxRecDepth 100000 in
theorem pxlwk (js:Nat→J) (ms:Nat→Ms) (sh:Nat→Shp) (sk:Nat→Skp) (n m c d:Nat) (bx:Nat→Iv) (k w:Nat) (e:Nat→Int) (w2:Nat) (e2:Nat→Int) (js2:Nat→J) (ms2:Nat→Ms) (sh2:Nat→Shp) (sk2:Nat→Skp) (n2 m2 c2 d2:Nat) (bz:Nat→Iv):qWH Tf (orlwk js ms sh sk n m c d bx k w e w2 e2 js2 ms2 sh2 sk2 n2 m2 c2 d2 bz) (qX (kZW js ms sh sk n m c d bx k w e w2 e2 js2 ms2 sh2 sk2 n2 m2 c2 d2 bz)) 60 3 [.a [.lf n (fJ js),.lf m (fM ms),.lf c (fS sh),.lf d (fK sk)],.lf k (fB bx),.lf w (fQ e),.lf w2 (fQ e2)] =
 (bif (g1 [.lf w (fQ e)]) then (bif (g1 [.a [.lf n2 (fJ js2),.lf m2 (fM ms2)],.lf w2 (fQ e2)]) then (bif (g1 []) then (bif (gF1 clw elw (js,ms,sh,sk,n,m,c,d,bx,k)) then (bif (gF1 clw elw (js2,ms2,sh2,sk2,n2,m2,c2,d2,bz,n2)) then (bif (gF1 clw elw (js2,ms2,sh2,sk2,n2,m2,c2,d2,bx,k)) then (bif (decide (n2 + k≤8796093022208)) then (bif (gF1 clw elw (js2,ms2,sh2,sk2,n2,m2,c2,d2,(fun v=>⟨(bif (Nat.blt v n2) then (bz v).lo else (bx (v - n2)).lo),(bif (Nat.blt v n2) then (bz v).hi else (bx (v - n2)).hi)⟩),(n2 + k))) then some (.v (.b true),[])
 else none)
 else none)
 else none)
 else none)
 else none)
 else none)
 else none)
 else none):=by kernel_rfl
theorem snd_lwk (js:Nat→J) (ms:Nat→Ms) (sh:Nat→Shp) (sk:Nat→Skp) (n m c d:Nat) (bx:Nat→Iv) (k w:Nat) (e:Nat→Int) (w2:Nat) (e2:Nat→Int) (js2:Nat→J) (ms2:Nat→Ms) (sh2:Nat→Shp) (sk2:Nat→Skp) (n2 m2 c2 d2:Nat) (bz:Nat→Iv) (hA:yH Tryz.prog 10 [] (.v (.b true))) (hS:yH Tryz.prog 8 [.lf w (fQ e)] (.v (.a [.lf n2 (fJ js2),.lf m2 (fM ms2),.lf c2 (fS sh2),.lf d2 (fK sk2)]))) (hB:yH Tryz.prog 9 [.a [.lf n2 (fJ js2),.lf m2 (fM ms2)],.lf w2 (fQ e2)] (.ow 62 2 (.fo n2 (fB bz)))) (hb:n2 + k≤8796093022208):yH Tryz.prog 3 [.a [.lf n (fJ js),.lf m (fM ms),.lf c (fS sh),.lf d (fK sk)],.lf k (fB bx),.lf w (fQ e),.lf w2 (fQ e2)] (.v (.b true)):=by
 refine yU (N:=60) (LO:=qX (kZW js ms sh sk n m c d bx k w e w2 e2 js2 ms2 sh2 sk2 n2 m2 c2 d2 bz)) qQV yJ (qQH (l:=[(10,o_cr [] (.v (.b true))),(8,o_cr [.lf w (fQ e)] (.v (.a [.lf n2 (fJ js2),.lf m2 (fM ms2),.lf c2 (fS sh2),.lf d2 (fK sk2)]))),(9,o_cr [.a [.lf n2 (fJ js2),.lf m2 (fM ms2)],.lf w2 (fQ e2)] (.ow 62 2 (.fo n2 (fB bz)))),(11,o_lw)]) (m:=[]) ⟨zKK hA,zKK hS,zKK hB,ok_lw,trivial⟩ trivial) (fun p S hp => ?_) ?_
 ·refine yY (L:=qQ Tf 3) (l:=(kZW js ms sh sk n m c d bx k w e w2 e2 js2 ms2 sh2 sk2 n2 m2 c2 d2 bz)) (show AllP _ (kZW js ms sh sk n m c d bx k w e w2 e2 js2 ms2 sh2 sk2 n2 m2 c2 d2 bz) from trivial) p S hp
 ·refine (pxlwk js ms sh sk n m c d bx k w e w2 e2 js2 ms2 sh2 sk2 n2 m2 c2 d2 bz).trans ?_;simp only [g1_t,qGQ (C:=clw) (t:=(js,ms,sh,sk,n,m,c,d,bx,k)) (show k≤9223372036854775807 by omega),qGQ (C:=clw) (t:=(js2,ms2,sh2,sk2,n2,m2,c2,d2,bz,n2)) (show n2≤9223372036854775807 by omega),qGQ (C:=clw) (t:=(js2,ms2,sh2,sk2,n2,m2,c2,d2,bx,k)) (show k≤9223372036854775807 by omega),qGQ (C:=clw) (t:=(js2,ms2,sh2,sk2,n2,m2,c2,d2,(fun v=>⟨(bif (Nat.blt v n2) then (bz v).lo else (bx (v - n2)).lo),(bif (Nat.blt v n2) then (bz v).hi else (bx (v - n2)).hi)⟩:Nat→Iv),n2 + k)) (show n2 + k≤9223372036854775807 by omega),vJQ hb,vYV]
theorem snd_law (js:Nat→J) (ms:Nat→Ms) (sh:Nat→Shp) (sk:Nat→Skp) (n m c d:Nat) (bx:Nat→Iv) (k:Nat) (l1 l2:List Int) (h1:l1.length≤9223372036854775807) (h2:l2.length≤9223372036854775807) (hk:k≤8796093021952):yH Tryz.prog 3 [.a [.lf n (fJ js),.lf m (fM ms),.lf c (fS sh),.lf d (fK sk)],.lf k (fB bx),jJQ l1,jJQ l2] (.v (.b true)):=by
 obtain ⟨js2,ms2,sh2,sk2,n2,m2,c2,d2,hn,hl,hS⟩:=scn_ex l1.length (iqOf l1) h1;refine snd_args (fun F w vals h=>Sames.al (xs:=[.a [.lf n (fJ js),.lf m (fM ms),.lf c (fS sh),.lf d (fK sk)],.lf k (fB bx),jJQ l1,jJQ l2]) (ys:=[.a [.lf n (fJ js),.lf m (fM ms),.lf c (fS sh),.lf d (fK sk)],.lf k (fB bx),.lf l1.length (fQ (iqOf l1)),.lf l2.length (fQ (iqOf l2))]) ⟨fun _ _ _ h=>h,fun _ _ _ h=>h,ints_same l1,ints_same l2,trivial⟩ h) ?_;exact snd_lwk js ms sh sk n m c d bx k _ _ _ _ js2 ms2 sh2 sk2 n2 m2 c2 d2 _ (qK (qU Tryz.func10 (by kernel_rfl) (by kernel_rfl)) rfl rfl (fun w=>awake11 w)) hS (snd_box l2.length (iqOf l2) js2 ms2 n2 m2 h2 (by omega) hl) (by omega)
end Go.Proofs.YtgmbkkkbfbocnaaGreat.Gp
namespace Go.Proofs.YtgmbkkkbfbocnaaGreat.Gi
open Go.Rx Rt Go.Sx Go.RowKit Go.ChangeShapes Go.WideShapes Od Na Nb Nc Nx Ga
def shJ:List Sh:=[.s,.i .i64,.i .i64,.i .i64,.i .i64,.i .i64,.i .i64,.i .i64,.i .i64,.i .i64,.i .i64,.i .i64]
theorem row_J {ps:List PV} (h:Fits shJ ps):∃ a:J,ps=jp a:=by
 unfold shJ at h;obtain ⟨p0,q0,rfl,f0,h⟩:=h.cons;obtain ⟨p1,q1,rfl,f1,h⟩:=h.cons;obtain ⟨p2,q2,rfl,f2,h⟩:=h.cons;obtain ⟨p3,q3,rfl,f3,h⟩:=h.cons;obtain ⟨p4,q4,rfl,f4,h⟩:=h.cons;obtain ⟨p5,q5,rfl,f5,h⟩:=h.cons;obtain ⟨p6,q6,rfl,f6,h⟩:=h.cons;obtain ⟨p7,q7,rfl,f7,h⟩:=h.cons;obtain ⟨p8,q8,rfl,f8,h⟩:=h.cons;obtain ⟨p9,q9,rfl,f9,h⟩:=h.cons;obtain ⟨p10,q10,rfl,f10,h⟩:=h.cons;obtain ⟨p11,q11,rfl,f11,h⟩:=h.cons;obtain rfl:=h.nil;obtain ⟨x0,rfl⟩:=f0.str;obtain ⟨x1,rfl,_⟩:=f1.int;obtain ⟨x2,rfl,_⟩:=f2.int;obtain ⟨x3,rfl,_⟩:=f3.int;obtain ⟨x4,rfl,_⟩:=f4.int;obtain ⟨x5,rfl,_⟩:=f5.int;obtain ⟨x6,rfl,_⟩:=f6.int;obtain ⟨x7,rfl,_⟩:=f7.int;obtain ⟨x8,rfl,_⟩:=f8.int;obtain ⟨x9,rfl,_⟩:=f9.int;obtain ⟨x10,rfl,_⟩:=f10.int;obtain ⟨x11,rfl,_⟩:=f11.int;exact ⟨⟨x0,x1,x2,⟨x3,x4,x5⟩,x6,x7,x8,x9,x10,x11⟩,rfl⟩
def shM:List Sh:=[.i .i64,.i .i64,.i .i64,.i .i64,.i .i64]
theorem row_M {ps:List PV} (h:Fits shM ps):∃ a:Ms,ps=mp a:=by
 unfold shM at h;obtain ⟨p0,q0,rfl,f0,h⟩:=h.cons;obtain ⟨p1,q1,rfl,f1,h⟩:=h.cons;obtain ⟨p2,q2,rfl,f2,h⟩:=h.cons;obtain ⟨p3,q3,rfl,f3,h⟩:=h.cons;obtain ⟨p4,q4,rfl,f4,h⟩:=h.cons;obtain rfl:=h.nil;obtain ⟨x0,rfl,_⟩:=f0.int;obtain ⟨x1,rfl,_⟩:=f1.int;obtain ⟨x2,rfl,_⟩:=f2.int;obtain ⟨x3,rfl,_⟩:=f3.int;obtain ⟨x4,rfl,_⟩:=f4.int;exact ⟨⟨x0,x1,⟨x2,x3,x4⟩⟩,rfl⟩
def shV:List Sh:=[.i .i64,.i .i64]
theorem row_V {ps:List PV} (h:Fits shV ps):∃ a:Iv,ps=Rx.ivC a:=by
 unfold shV at h;obtain ⟨p0,q0,rfl,f0,h⟩:=h.cons;obtain ⟨p1,q1,rfl,f1,h⟩:=h.cons;obtain rfl:=h.nil;obtain ⟨x0,rfl,_⟩:=f0.int;obtain ⟨x1,rfl,_⟩:=f1.int;exact ⟨⟨x0,x1⟩,rfl⟩
def shZ:List Sh:=[.i .i64,.i .i64,.i .i64]
theorem row_Z {ps:List PV} (h:Fits shZ ps):∃ a:Z3,ps=zP a:=by
 unfold shZ at h;obtain ⟨p0,q0,rfl,f0,h⟩:=h.cons;obtain ⟨p1,q1,rfl,f1,h⟩:=h.cons;obtain ⟨p2,q2,rfl,f2,h⟩:=h.cons;obtain rfl:=h.nil;obtain ⟨x0,rfl,_⟩:=f0.int;obtain ⟨x1,rfl,_⟩:=f1.int;obtain ⟨x2,rfl,_⟩:=f2.int;exact ⟨⟨x0,x1,x2⟩,rfl⟩
def kP (s:Skp):List PV:=[.n .i64 s.a,.n .i64 s.b]
def shK:List Sh:=[.i .i64,.i .i64]
theorem row_K {ps:List PV} (h:Fits shK ps):∃ a:Skp,ps=kP a:=by
 unfold shK at h;obtain ⟨p0,q0,rfl,f0,h⟩:=h.cons;obtain ⟨p1,q1,rfl,f1,h⟩:=h.cons;obtain rfl:=h.nil;obtain ⟨x0,rfl,_⟩:=f0.int;obtain ⟨x1,rfl,_⟩:=f1.int;exact ⟨⟨x0,x1⟩,rfl⟩
def shS:List Sh:=[.i .i64,.i .i64,.l shZ]
theorem sames_len:∀ {xs ys:List PV},Sames xs ys→xs.length=ys.length
 | [],[],_=>rfl
 | _ :: _,_ :: _,h=>congrArg (· + 1) (sames_len h.2)
 | [],_ :: _,h=>h.elim
 | _ :: _,[],h=>h.elim
theorem sames_at:∀ {xs ys:List PV},Sames xs ys→∀ {t:Nat} {y:PV},ys[t]? = some y→∃ x,xs[t]? = some x∧Same x y
 | [],[],_,t,y,h=>by simp at h
 | x :: xs,y :: ys,hs,0,z,h=>by
  simp only [List.getElem?_cons_zero,vQZ] at h;subst h;exact ⟨x,rfl,hs.1⟩
 | x :: xs,y :: ys,hs,t + 1,z,h=>by
  simp only [List.getElem?_cons_succ] at h ⊢;exact sames_at hs.2 h
 | [],_ :: _,h,_,_,_=>h.elim
 | _ :: _,[],h,_,_,_=>h.elim
theorem lf_sames {n:Nat} {f g:Nat→List PV} (h:∀ j,j < n→Sames (f j) (g j)):Same (.lf n f) (.lf n g):=fun F w v hv=>by
 have h1:=zZV rfl hv;generalize hr:(List.range n).map f=rows at h1;have hl:rows.length=n:=by rw [← hr,List.length_map,List.length_range]
 refine .lf n g v ?_;cases h1 with
 | l0 ad c =>
  have:n=0:=hl.symm
  subst this;exact .l0 _ _
 | l _ b off n' c sz q hn hcap hs hF hc hh =>
  refine .l _ b off n' c sz q (by rw [List.length_map,List.length_range,← hl]; exact hn) hcap (fun r hr' => ?_) hF hc (fun j r t p hj ht => ?_)
  ·obtain ⟨j,hj,rfl⟩:=List.mem_map.1 hr';have hj':=List.mem_range.1 hj;rw [← sames_len (h j hj')];exact hs _ (by rw [← hr]; exact List.mem_map.2 ⟨j,hj,rfl⟩)
  ·have hj':j < n:=by have:=(List.getElem?_eq_some_iff.1 hj).1; simpa using this
   rw [vZY,List.getElem?_range hj'] at hj;cases hj;obtain ⟨x,hx,hxy⟩:=sames_at (h j hj') ht;exact hxy _ _ _ (hh j (f j) t x (by rw [← hr,vZY,List.getElem?_range hj']; rfl) hx)
theorem jHQ {α:Type} (a0:α) {n:Nat} {f:Nat→List PV} {R:List PV→α→Prop} (h:∀ j,j < n→∃ a,R (f j) a):∃ g:Nat→α,∀ j,j < n→R (f j) (g j):=by
 have each:∀ j,∃ a:α,j < n→R (f j) a:=fun j=>by
  by_cases hj:j < n
  ·obtain ⟨a,ha⟩:=h j hj; exact ⟨a,fun _=>ha⟩
  ·exact ⟨a0,fun h=>absurd h hj⟩
 obtain ⟨g,hg⟩:=Classical.axiomOfChoice each;exact ⟨g,hg⟩
theorem row_S {ps:List PV} (h:Fits shS ps):∃ s:Shp,Sames ps (sP s):=by
 unfold shS at h;obtain ⟨p0,q0,rfl,f0,h⟩:=h.cons;obtain ⟨p1,q1,rfl,f1,h⟩:=h.cons;obtain ⟨p2,q2,rfl,f2,h⟩:=h.cons;obtain rfl:=h.nil;obtain ⟨x0,rfl,_⟩:=f0.int;obtain ⟨x1,rfl,_⟩:=f1.int;obtain ⟨n,f,rfl,hr⟩:=f2.slc;obtain ⟨pts,hp⟩:=jHQ (⟨0,0,0⟩:Z3) (R:=fun ps z=>ps=zP z) fun j hj=>row_Z (hr j hj)
 exact ⟨⟨x0,x1,n,pts⟩,Same.refl _,Same.refl _,qYH hp,trivial⟩
section
variable {W:World} {H:Type} {enc:TypeId × Value→H} {r:Reach} {base:Nat} {v:Value} {d:DataW H} {p:List MemPlace}
abbrev RW (W:World):PV→Value→Prop:=RP (fun k=>k < W.heap.size) W
theorem shT_s:shT Tryz.prog 8 29=some [.l shJ,.l shM,.l shS,.l shK]:=by kernel_rfl
theorem shT_b:shT Tryz.prog 8 30=some [.l shV]:=by kernel_rfl
set_option maxRecDepth 100000 in
theorem open_scene (hv:Value.okWide Tryz.prog W r base 29 v) (h:DataW.Trod enc Tryz.prog W 0 (fun _=>true) true 29 v d p):∃ (js:Nat→J) (ms:Nat→Ms) (sh:Nat→Shp) (sk:Nat→Skp) (n m c d:Nat),RW W (.a [.lf n (fJ js),.lf m (fM ms),.lf c (fS sh),.lf d (fK sk)]) v:=by
 obtain ⟨ps,hr,hf⟩:=open_str Tryz.underlying29 hv h shT_s;obtain ⟨p1,ps,rfl,f1,hf⟩:=hf.cons;obtain ⟨p2,ps,rfl,f2,hf⟩:=hf.cons;obtain ⟨p3,ps,rfl,f3,hf⟩:=hf.cons;obtain ⟨p4,ps,rfl,f4,hf⟩:=hf.cons;obtain rfl:=hf.nil;obtain ⟨n,f,rfl,g1⟩:=f1.slc;obtain ⟨m,g,rfl,g2⟩:=f2.slc;obtain ⟨c,a,rfl,g3⟩:=f3.slc;obtain ⟨d,b,rfl,g4⟩:=f4.slc;obtain ⟨js,hj⟩:=jHQ (⟨ByteArray.empty,0,0,⟨0,0,0⟩,0,0,0,0,0,0⟩:J) (R:=fun ps z=>ps=jp z) fun j hj=>row_J (g1 j hj)
 obtain ⟨ms,hm⟩:=jHQ (⟨0,0,⟨0,0,0⟩⟩:Ms) (R:=fun ps z=>ps=mp z) fun j hj=>row_M (g2 j hj)
 obtain ⟨sh,hs⟩:=jHQ (⟨0,0,0,fun _=>⟨0,0,0⟩⟩:Shp) (R:=fun ps z=>Sames ps (sP z)) fun j hj=>row_S (g3 j hj)
 obtain ⟨sk,hk⟩:=jHQ (⟨0,0⟩:Skp) (R:=fun ps z=>ps=kP z) fun j hj=>row_K (g4 j hj)
 have s:Sames [.lf n f,.lf m g,.lf c a,.lf d b] [.lf n (fJ js),.lf m (fM ms),.lf c (fS sh),.lf d (fK sk)]:=⟨qYH hj,qYH hm,lf_sames hs,qYH hk,trivial⟩
 exact ⟨js,ms,sh,sk,n,m,c,d,Same.a s _ _ _ hr⟩
set_option maxRecDepth 100000 in
theorem open_ivs (hv:Value.okWide Tryz.prog W r base 30 v) (h:DataW.Trod enc Tryz.prog W 0 (fun _=>true) true 30 v d p):∃ (bx:Nat→Iv) (k:Nat),RW W (.lf k (fB bx)) v:=by
 obtain ⟨n,f,hr,hf⟩:=open_slc Tryz.underlying30 hv h shT_b;obtain ⟨bx,hb⟩:=lf_fn (enc:=Rx.ivC) (⟨0,0⟩:Iv) (fun _ h=>row_V h) hf hr;exact ⟨bx,n,hb⟩
theorem lf_len {n:Nat} {f:Nat→List PV} (h:RW W (.lf n f) v):∃ a c,v=.slice a n c:=by
 have h1:=zZV rfl h;generalize hr:(List.range n).map f=rows at h1;have hl:rows.length=n:=by rw [← hr,List.length_map,List.length_range]
 cases h1 with
 | l0 ad c=>exact ⟨ad,c,by rw [← hl]; rfl⟩
 | l _ b off n' c sz q hn=>exact ⟨_,c,by rw [hn,hl]⟩
theorem ivs_len {bx:Nat→Iv} {k:Nat} (h:DataW.Trod enc Tryz.prog W 0 (fun _=>true) true 30 v d p) (hr:RW W (.lf k (fB bx)) v) (hw:∀ x ∈ d.weights Tryz.prog 30,x≤reachBytes):k≤8796093021952:=by
 obtain ⟨a,c,rfl⟩:=lf_len hr;obtain ⟨fuel,h⟩:=h;rcases DataW.trod_slice Tryz.underlying30 h with ⟨e,_⟩ | ⟨a',len,cap,elems,rest,n,hf,e,ex,_,_,_,hl,_⟩
 ·have e:Value.slice a k c=.slice none 0 0:=by simpa [Value.cells] using e
  cases e;exact Nat.zero_le _
 ·have e:Value.slice a k c=.slice (some a') len cap:=by simpa [Value.cells] using e
  cases e;have ed:d=.slice (elems.map (·.1)) (rest.map (·.1)):=congrArg Prod.fst ex;subst ed;have h2:=hw (((elems.map (·.1)).length + (rest.map (·.1)).length) * (Tryz.prog).bytesOf 62) (by
   unfold DataW.weights;rw [Tryz.underlying30]
   simp)
  have hb:(Tryz.prog).bytesOf 62=16:=by kernel_rfl
  rw [hb,List.length_map,List.length_map,hl] at h2;unfold reachBytes at h2;omega
end
end Go.Proofs.YtgmbkkkbfbocnaaGreat.Gi
namespace Go.Rx
open Go.RowKit Go.Sx Go.ChangeShapes Go.WideShapes
section
variable {P:Program} {W:World} {H:Type} {enc:TypeId × Value→H}
def jJV (W:World) (v:Value) (L:List Int):Prop:=RP (fun k=>k < W.heap.size) W (jJQ L) v∧L.length≤9223372036854775807∧∀ x ∈ L,In64 x
theorem open_rp {t e:TypeId} {v:Value} {d:DataW H} {p:List MemPlace} (ht:P.underlying t=some (.slice e)) (he:P.underlying e=some (.int .i64)) (hc:P.cellsOf e=1)
  {r:Reach} {base:Nat} (hv:Value.okWide P W r base t v) (h:DataW.Trod enc P W 0 (fun _=>true) true t v d p):∃ L:List Int,jJV W v L:=by
 obtain ⟨a,l,c,rfl⟩:=slice_of ht hv;obtain ⟨fuel,h⟩:=h;have h':DataW.trod enc P W 0 (fun _=>true) true fuel t [.slice a l c]=some (d,p):=h;rcases open_ints ht he hc h' with ⟨h1,_⟩ | ⟨a',len,cap,zs,h1,_,hlc,hcap,hz,_,hcell,hwf⟩
 ·simp at h1;obtain ⟨rfl,rfl,rfl⟩:=h1;exact ⟨[],.l0 none 0,by simp,fun x hx=>by cases hx⟩
 ·simp at h1;obtain ⟨rfl,rfl,rfl⟩:=h1;simp only [if_true] at hz;have hlen:(zs.take l).length=l:=by simp; omega
  have hI:IntsAt W W.heap.size (.slice (some a') l c) (zs.take l):=⟨by have:maxLen=9223372036854775807:=rfl; omega,some a',c,by rw [hlen],fun j hj=>by
   rw [hlen] at hj;have h0:=hcell 0 (by omega);have hj':=hcell j (by omega);have hsp:a'.spot=none:=by
    have e:a'.add 0=a':=by simp [Addr.add]
    rw [e] at h0;unfold World.cell? at h0;cases hb:W.heap[a'.block]? with
    | none=>simp [hb] at h0
    | some o=>cases o <;> simp [hb] at h0; exact h0.1
   obtain ⟨bb,off,sp⟩:=a';simp only at hsp;subst hsp;rw [qJY] at hj';refine ⟨bb,off,rfl,?_,?_⟩
   ·unfold World.cell? at hj';cases hb:W.heap[bb]? with
    | none=>simp [hb] at hj'
    | some o=>exact qZJ hb
   ·rw [hj'];simp [vZG,vZV,hj]⟩
  refine ⟨zs.take l,?_,hI.1,fun x hx => ?_⟩
  ·have:=rp_of_ints (F:=fun k=>k < W.heap.size) (w:=W) (L:=zs.take l) (a:=some a') (c:=c) (by rw [hlen]; exact hI) (by rw [hlen]; exact hlc) fun k hk=>hk
   rw [hlen] at this;exact this
  ·have:=hwf x (List.mem_of_mem_take hx)
   simpa [Lit.wf,IntKind.has,IntKind.min,IntKind.max,IntKind.signed,IntKind.bits,In64] using this
end
end Go.Rx
namespace Go.Proofs.YtgmbkkkbfbocnaaGreat
open Go.Rx Go.Sx Go.RowKit Od Nb Nx Ga
theorem wKinematicsLinks (v0:Value) (js:Nat→J) (ms:Nat→Ms) (sh:Nat→Shp) (sk:Nat→Skp) (n m c d:Nat) (v1:Value) (bx:Nat→Iv) (k:Nat) (v2:Value) (L2:List Int) (v3:Value) (L3:List Int) (W:World) (h0:RP (fun k=>k < W.heap.size) W (.a [.lf n (fJ js),.lf m (fM ms),.lf c (fS sh),.lf d (fK sk)]) v0) (h1:RP (fun k=>k < W.heap.size) W (.lf k (fB bx)) v1) (h2:jJV W v2 L2) (h3:jJV W v3 L3) (hk:k≤8796093021952):Calls Tryz.prog 3 #[v0,v1,v2,v3] W (Rets (.bool true) W) :=
 zZG (Gp.snd_law js ms sh sk n m c d bx k L2 L3 h2.2.1 h3.2.1 hk) rfl (zQW h0 (zQW h1 (zQW h2.1 (zQW h3.1 yHW))))
end Go.Proofs.YtgmbkkkbfbocnaaGreat

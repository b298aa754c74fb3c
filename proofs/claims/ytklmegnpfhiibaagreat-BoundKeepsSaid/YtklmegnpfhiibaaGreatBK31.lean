/- Part 31 of the texts behind the last one: rules and contracts. No condition. -/
import Derived.Test.YtklmegnpfhiibaaGreatBK30
open Bool renaming and_eq_true → vQJ, and_self → vZQ
open Go.IntKind renaming wrap → vYW
namespace Go.Proofs.YtklmegnpfhiibaaGreat.So
open Go.Rx Rt Go.Sx Go.RowKit Od Nb Sn
theorem sndB_res {f:Nat} {hs:List HV} {ps qs:List PV} {x y:PV} (hs':Same x y) (h:qVA Tryz.prog f hs ps x qs):qVA Tryz.prog f hs ps y qs :=
 ⟨h.1,fun w F b vals us ty h1 h2 h3 h4 h5 h6 h7 h8=>(h.2 w F b vals us ty h1 h2 h3 h4 h5 h6 h7 h8).mono fun _ w' ⟨v,F',us',ty',he,hg,f1,f2,hr,hq⟩=>⟨v,F',us',ty',he,hg,f1,f2,hs' F' w' v hr,hq⟩⟩
def cjt0 (t:Nat × Nat × (Nat→Int) × Nat):Prop:=t.2.1≤t.1∧t.1≤9223372036854775807∧t.2.2.2 < 10
theorem joint_all:∃ F:Nat × Nat × (Nat→Int) × Nat→J × Nat,∀ t,cjt0 t→((F t).2≤t.1∧JM t.2.2.2 (F t).1)∧qVA Tryz.prog 51 [.p pid 0,.v (.n .i64 (t.2.2.2:Int))] [.lf t.1 (fQ t.2.2.1),.n .i64 (t.2.1:Int)] (.a (jp (F t).1)) [.lf t.1 (fQ t.2.2.1),.n .i64 ((F t).2:Int)]:=by
 have each:∀ t:Nat × Nat × (Nat→Int) × Nat,∃ y:J × Nat,cjt0 t→(y.2≤t.1∧JM t.2.2.2 y.1)∧qVA Tryz.prog 51 [.p pid 0,.v (.n .i64 (t.2.2.2:Int))] [.lf t.1 (fQ t.2.2.1),.n .i64 (t.2.1:Int)] (.a (jp y.1)) [.lf t.1 (fQ t.2.2.1),.n .i64 (y.2:Int)]:=fun t=>by
  by_cases h:cjt0 t
  ·obtain ⟨j,m',h1,h2⟩:=joint_ex t.1 t.2.1 t.2.2.1 t.2.2.2 h.1 h.2.1 h.2.2;exact ⟨(j,m'),fun _=>⟨h1,h2⟩⟩
  ·exact ⟨(⟨ByteArray.empty,0,0,⟨0,0,0⟩,0,0,0,0,0,0⟩,0),fun h'=>absurd h' h⟩
 exact ⟨fun t=>Classical.choose (each t),fun t=>Classical.choose_spec (each t)⟩
noncomputable def jtF:Nat × Nat × (Nat→Int) × Nat→J × Nat:=Classical.choose joint_all
theorem zGZ {t:Nat × Nat × (Nat→Int) × Nat} (h:cjt0 t):((jtF t).2≤t.1∧JM t.2.2.2 (jtF t).1)∧qVA Tryz.prog 51 [.p pid 0,.v (.n .i64 (t.2.2.2:Int))] [.lf t.1 (fQ t.2.2.1),.n .i64 (t.2.1:Int)] (.a (jp (jtF t).1)) [.lf t.1 (fQ t.2.2.1),.n .i64 ((jtF t).2:Int)]:=Classical.choose_spec joint_all t h
def cjt:Nat × Nat × (Nat→Int) × Int→Prop:=fun t=>match t with | (w,m,_,i)=>m≤w∧w≤9223372036854775807∧0≤i∧i < 10
def hjt:Nat × Nat × (Nat→Int) × Int→List HV:=fun t=>match t with | (_,_,_,i)=>[.p pid 0,.v (.n .i64 i)]
def ejt:Nat × Nat × (Nat→Int) × Int→List PV:=fun t=>match t with | (w,m,e,_)=>[.lf w (fQ e),.n .i64 (m:Int)]
noncomputable def xjt:Nat × Nat × (Nat→Int) × Int→PV:=fun t=>match t with | (w,m,e,i)=>.a (jp (jtF (w,m,e,i.toNat)).1)
noncomputable def qjt:Nat × Nat × (Nat→Int) × Int→List PV:=fun t=>match t with | (w,m,e,i)=>[.lf w (fQ e),.n .i64 (((jtF (w,m,e,i.toNat)).2:Nat):Int)]
def djt:List HV→List PV→Nat × Nat × (Nat→Int) × Int:=fun hs ps=>match hs,ps with
 | [_,.v (.n _ i)],[.lf w f,.n _ c]=>(w,c.toNat,unFQ f,i)
 | _,_=>(0,0,fun _=>0,0)
noncomputable def o_jt:List HV→List PV→Option (Bool × (PV × List PV)):=o_fb djt cjt hjt ejt xjt qjt
theorem ok_jt:zXE Tryz.prog 51 o_jt:=yJX fun t h=>by
 obtain ⟨w,m,e,i⟩:=t;exact (by
  have h1:=h.2.2.1;have h2:=h.2.2.2
  have:=(zGZ (t:=(w,m,e,i.toNat)) ⟨h.1,h.2.1,(by show i.toNat < 10; omega)⟩).2
  dsimp only at this;rw [show ((i.toNat:Nat):Int)=i by omega] at this;exact this)
noncomputable def orRB:OrS:=orS [] [(24,o_nx),(51,o_jt)]
noncomputable def hRj (w:Nat) (e:Nat→Int) (n:Int) (m1:Nat) (i:Int) (m2:Nat) (r:Nat) (f:Nat→List PV):St:=⟨[(0,.p 1000000 0),(2,.p 2 0),(3,.p 3 0),(4,.v (.n .i64 n)),(5,.v (.n .i64 i))],[(1000000,.blk [.v (.lf w (fQ e)),.v (.n .i64 (m2:Int))]),(2,.blk [.nl,.nl]),(3,.blk [.o 21,.nl]),(21,.reg 80 12 (.fo r f))]⟩
set_option maxRecDepth 100000 in
theorem rdRj (G:St→Option (Ret × Mem)) (K:Cont) (w:Nat) (e:Nat→Int) (n:Int) (m1:Nat) (i:Int) (m2:Nat) (r:Nat) (f:Nat→List PV):stpT Tf 22 orRB 60 [] [0,1,0,1,1,1] K G (hRj w e n m1 i m2 r f) =
 (bif (decide (i < n)) then (bif (gB1 cjt hjt ejt (w,m2,e,i)) then (bif (decide (r + 1≤1000000)) then (G (hRj w e n m1 (vYW .i64 (i + 1)) ((jtF (w,m2,e,(i).toNat)).2) (r + 1) (fun v=>qW (Nat.beq v r) [.s (jtF (w,m2,e,(i).toNat)).1.name,.n .i64 (jtF (w,m2,e,(i).toNat)).1.kind,.n .i64 (jtF (w,m2,e,(i).toNat)).1.parent,.n .i64 (jtF (w,m2,e,(i).toNat)).1.off.x,.n .i64 (jtF (w,m2,e,(i).toNat)).1.off.y,.n .i64 (jtF (w,m2,e,(i).toNat)).1.off.z,.n .i64 (jtF (w,m2,e,(i).toNat)).1.lo,.n .i64 (jtF (w,m2,e,(i).toNat)).1.hi,.n .i64 (jtF (w,m2,e,(i).toNat)).1.weight,.n .i64 (jtF (w,m2,e,(i).toNat)).1.speed,.n .i64 (jtF (w,m2,e,(i).toNat)).1.accel,.n .i64 (jtF (w,m2,e,(i).toNat)).1.torque] (f v))))
 else none)
 else none)
 else (K (.exit 0) ⟨[(0,.p 1000000 0),(2,.p 2 0),(3,.p 3 0),(4,.v (.n .i64 n))],[(1000000,.blk [.v (.lf w (fQ e)),.v (.n .i64 (m2:Int))]),(2,.blk [.nl,.nl]),(3,.blk [.o 21,.nl]),(21,.reg 80 12 (.fo r f))]⟩)):=by kernel_rfl
noncomputable def zRj (w:Nat) (e:Nat→Int) (n:Int) (m1:Nat):St:=⟨[(0,.p 1000000 0),(2,.p 2 0),(3,.p 3 0),(4,.v (.n .i64 n)),(5,.v (.n .i64 0))],[(1000000,.blk [.v (.lf w (fQ e)),.v (.n .i64 (m1:Int))]),(2,.blk [.nl,.nl]),(3,.blk [.nl,.nl])]⟩
set_option maxRecDepth 100000 in
theorem rzRj (G:St→Option (Ret × Mem)) (K:Cont) (w:Nat) (e:Nat→Int) (n:Int) (m1:Nat):stpT Tf 22 orRB 60 [] [0,1,0,1,1,1] K G (zRj w e n m1) =
 (bif (decide (0 < n)) then (bif (gB1 cjt hjt ejt (w,m1,e,0)) then (G (hRj w e n m1 1 ((jtF (w,m1,e,(0:Int).toNat)).2) 1 (fun _=>[.s (jtF (w,m1,e,(0:Int).toNat)).1.name,.n .i64 (jtF (w,m1,e,(0:Int).toNat)).1.kind,.n .i64 (jtF (w,m1,e,(0:Int).toNat)).1.parent,.n .i64 (jtF (w,m1,e,(0:Int).toNat)).1.off.x,.n .i64 (jtF (w,m1,e,(0:Int).toNat)).1.off.y,.n .i64 (jtF (w,m1,e,(0:Int).toNat)).1.off.z,.n .i64 (jtF (w,m1,e,(0:Int).toNat)).1.lo,.n .i64 (jtF (w,m1,e,(0:Int).toNat)).1.hi,.n .i64 (jtF (w,m1,e,(0:Int).toNat)).1.weight,.n .i64 (jtF (w,m1,e,(0:Int).toNat)).1.speed,.n .i64 (jtF (w,m1,e,(0:Int).toNat)).1.accel,.n .i64 (jtF (w,m1,e,(0:Int).toNat)).1.torque])))
 else none)
 else (K (.exit 0) ⟨[(0,.p 1000000 0),(2,.p 2 0),(3,.p 3 0),(4,.v (.n .i64 n))],[(1000000,.blk [.v (.lf w (fQ e)),.v (.n .i64 (m1:Int))]),(2,.blk [.nl,.nl]),(3,.blk [.nl,.nl])]⟩)):=by kernel_rfl
noncomputable def nxR (w:Nat) (e:Nat→Int) (i:Nat) (t:Nat × (Nat→List PV)):Nat × (Nat→List PV):=((jtF (w,t.1,e,i)).2,fun v=>qW (Nat.beq v i) (jp (jtF (w,t.1,e,i)).1) (t.2 v))
noncomputable def rjS (w:Nat) (e:Nat→Int) (n:Int) (m1:Nat):Nat × (Nat→List PV):=qQL (nxR w e) (n.toNat - 1) 1 ((jtF (w,m1,e,0)).2,fun _=>jp (jtF (w,m1,e,0)).1)
theorem nxR_ok {w:Nat} {e:Nat→Int} {m1:Nat} (_:m1≤w) (hw:w≤9223372036854775807):∀ (i:Nat) (t:Nat × (Nat→List PV)),i < 10→(t.1≤w∧∀ v,v < i→∃ j,t.2 v=jp j∧JM v j)→((nxR w e i t).1≤w∧∀ v,v < i + 1→∃ j,(nxR w e i t).2 v=jp j∧JM v j):=fun i t hi h=>by
 have hj:=(zGZ (t:=(w,t.1,e,i)) ⟨h.1,hw,hi⟩).1;refine ⟨hj.1,fun v hv => ?_⟩;show ∃ j,qW (Nat.beq v i) _ (t.2 v)=jp j∧_;rw [kU,qJH];by_cases e1:v=i
 ·subst e1;exact ⟨_,by rw [vYK rfl]; rfl,hj.2⟩
 ·obtain ⟨j,h1,h2⟩:=h.2 v (by omega);exact ⟨j,by rw [vYJ e1]; exact h1,h2⟩
theorem lpRj (K:Cont) (w:Nat) (e:Nat→Int) (n:Int) (m1:Nat) (hm:m1≤w) (hw:w≤9223372036854775807) (_:1≤n∧n≤9):LFT Tf 22 orRB 60 [] [0,1,0,1,1,1] K 60 (zRj w e n m1)=(K (.exit 0) ⟨[(0,.p 1000000 0),(2,.p 2 0),(3,.p 3 0),(4,.v (.n .i64 n))],[(1000000,.blk [.v (.lf w (fQ e)),.v (.n .i64 (((rjS w e n m1).1:Nat):Int))]),(2,.blk [.nl,.nl]),(3,.blk [.o 21,.nl]),(21,.reg 80 12 (.fo n.toNat (rjS w e n m1).2))]⟩):=by
 have hj:=(zGZ (t:=(w,m1,e,0)) ⟨hm,hw,(by show 0 < 10; decide)⟩).1;refine (rzRj (LFT Tf 22 orRB 60 [] [0,1,0,1,1,1] K 59) K w e n m1).trans ?_;rw [vYK (show 0 < n by omega),vYZ,qYW (C:=cjt) (t:=(w,m1,e,0)) ⟨hm,hw,by decide,by decide⟩,vYZ];refine (qKL (L:=LFT Tf 22 orRB 60 [] [0,1,0,1,1,1] K) (stp:=stpT Tf 22 orRB 60 [] [0,1,0,1,1,1] K) (fun _ _=>rfl) (fun (i:Nat) (t:Nat × (Nat→List PV))=>hRj w e n m1 (i:Int) t.1 i t.2) (fun i t=>t.1≤w∧∀ v,v < i→∃ j,t.2 v=jp j∧JM v j) (fun _ _=>true) (nxR w e) (c:=n.toNat) (fun t=>(K (.exit 0) ⟨[(0,.p 1000000 0),(2,.p 2 0),(3,.p 3 0),(4,.v (.n .i64 n))],[(1000000,.blk [.v (.lf w (fQ e)),.v (.n .i64 ((t.1:Nat):Int))]),(2,.blk [.nl,.nl]),(3,.blk [.o 21,.nl]),(21,.reg 80 12 (.fo n.toNat t.2))]⟩)) (fun _ _=>none) (fun G i t hi hv => ?_) (fun i t hi hv _=>nxR_ok hm hw i t (by omega) hv) (fun G t hv => ?_) (n.toNat - 1) 1 59 ((jtF (w,m1,e,0)).2,fun _=>jp (jtF (w,m1,e,0)).1) (by omega) (by omega) ⟨hj.1,fun v hv=>⟨_,rfl,(show v=0 by omega) ▸ hj.2⟩⟩).trans (qYB (n.toNat - 1) 1 _)
 ·refine (rdRj G K w e n m1 i t.1 i t.2).trans ?_;rw [vYK (show (i:Int) < n by omega),vYZ,qYW (C:=cjt) (t:=(w,t.1,e,(i:Int))) ⟨hv.1,hw,by omega,by omega⟩,vYZ,vYK (show i + 1≤1000000 by omega),vYZ,jG (by omega)];rfl
 ·refine (rdRj G K w e n m1 (n.toNat:Int) t.1 n.toNat t.2).trans ?_;rw [vYJ (show ¬ ((n.toNat:Nat):Int) < n by omega)];rfl
noncomputable def hRm (w:Nat) (e:Nat→Int) (n:Int) (m1 r1:Nat) (f1:Nat→List PV) (k0:Int) (k:Int) (m2:Nat) (r2:Nat) (g:Nat→List PV):St:=⟨[(0,.p 1000000 0),(2,.p 2 0),(3,.p 3 0),(4,.v (.n .i64 n)),(6,.v (.n .i64 k))],[(1000000,.blk [.v (.lf w (fQ e)),.v (.n .i64 (m2:Int))]),(2,.blk [.nl,.nl]),(3,.blk [.o 21,.o 46]),(21,.reg 80 12 (.fo r1 f1)),(46,.reg 98 5 (.fo r2 g))]⟩
set_option maxRecDepth 100000 in
theorem rdRm (G:St→Option (Ret × Mem)) (K:Cont) (w:Nat) (e:Nat→Int) (n:Int) (m1 r1:Nat) (f1:Nat→List PV) (k0:Int) (k:Int) (m2:Nat) (r2:Nat) (g:Nat→List PV):stpT Tf 22 orRB 60 [] [0,1,0,1,1,1,1] K G (hRm w e n m1 r1 f1 k0 k m2 r2 g) =
 (bif (decide (0 < k)) then (bif (gB1 cnx hnx enx (w,m2,e,n)) then (bif (gB1 cnx hnx enx (w,(mA w m2 1),e,9000)) then (bif (gB1 cnx hnx enx (w,(mA w m2 2),e,7)) then (bif (gB1 cnx hnx enx (w,(mA w m2 3),e,5)) then (bif (decide (r2 + 1≤1000000)) then (G (hRm w e n m1 r1 f1 k0 (vYW .i64 (k - 1)) (mA w m2 4) (r2 + 1) (fun v=>qW (Nat.beq v r2) [.n .i64 (nxV e w m2 n),.n .i64 (vYW .i64 (1 + (nxV e w (mA w m2 1) 9000))),.n .i64 (vYW .i64 ((vYW .i64 ((nxV e w (mA w m2 2) 7) - 3)) * 32768)),.n .i64 0,.n .i64 (vYW .i64 ((vYW .i64 ((nxV e w (mA w m2 3) 5) - 2)) * 32768))] (g v))))
 else none)
 else none)
 else none)
 else none)
 else none)
 else (K (.exit 2) ⟨[(2,.p 2 0),(3,.p 3 0)],[(1000000,.blk [.v (.lf w (fQ e)),.v (.n .i64 (m2:Int))]),(2,.blk [.nl,.nl]),(3,.blk [.o 21,.o 46]),(21,.reg 80 12 (.fo r1 f1)),(46,.reg 98 5 (.fo r2 g))]⟩)):=by kernel_rfl
noncomputable def zRm (w:Nat) (e:Nat→Int) (n:Int) (m1 r1:Nat) (f1:Nat→List PV) (k0:Int):St:=⟨[(0,.p 1000000 0),(2,.p 2 0),(3,.p 3 0),(4,.v (.n .i64 n)),(6,.v (.n .i64 k0))],[(1000000,.blk [.v (.lf w (fQ e)),.v (.n .i64 (m1:Int))]),(2,.blk [.nl,.nl]),(3,.blk [.o 21,.nl]),(21,.reg 80 12 (.fo r1 f1))]⟩
set_option maxRecDepth 100000 in
theorem rzRm (G:St→Option (Ret × Mem)) (K:Cont) (w:Nat) (e:Nat→Int) (n:Int) (m1 r1:Nat) (f1:Nat→List PV) (k0:Int):stpT Tf 22 orRB 60 [] [0,1,0,1,1,1,1] K G (zRm w e n m1 r1 f1 k0) =
 (bif (decide (0 < k0)) then (bif (gB1 cnx hnx enx (w,m1,e,n)) then (bif (gB1 cnx hnx enx (w,(mA w m1 1),e,9000)) then (bif (gB1 cnx hnx enx (w,(mA w m1 2),e,7)) then (bif (gB1 cnx hnx enx (w,(mA w m1 3),e,5)) then (G (hRm w e n m1 r1 f1 k0 (vYW .i64 (k0 - 1)) (mA w m1 4) 1 (fun _=>[.n .i64 (nxV e w m1 n),.n .i64 (vYW .i64 (1 + (nxV e w (mA w m1 1) 9000))),.n .i64 (vYW .i64 ((vYW .i64 ((nxV e w (mA w m1 2) 7) - 3)) * 32768)),.n .i64 0,.n .i64 (vYW .i64 ((vYW .i64 ((nxV e w (mA w m1 3) 5) - 2)) * 32768))])))
 else none)
 else none)
 else none)
 else none)
 else (K (.exit 2) ⟨[(2,.p 2 0),(3,.p 3 0)],[(1000000,.blk [.v (.lf w (fQ e)),.v (.n .i64 (m1:Int))]),(2,.blk [.nl,.nl]),(3,.blk [.o 21,.nl]),(21,.reg 80 12 (.fo r1 f1))]⟩)):=by kernel_rfl
noncomputable def msR (w:Nat) (e:Nat→Int) (n:Int) (m:Nat):Ms:=⟨nxV e w m n,vYW .i64 (1 + (nxV e w (mA w m 1) 9000)),⟨vYW .i64 ((vYW .i64 ((nxV e w (mA w m 2) 7) - 3)) * 32768),0,vYW .i64 ((vYW .i64 ((nxV e w (mA w m 3) 5) - 2)) * 32768)⟩⟩
def MM (n:Int) (q:Ms):Prop:=(0≤q.link∧q.link < n)∧(1≤q.mass∧q.mass≤65536)∧(-4194304≤q.p.x∧q.p.x≤4194304)∧(-4194304≤q.p.y∧q.p.y≤4194304)∧(-4194304≤q.p.z∧q.p.z≤4194304)
theorem yQU {w:Nat} {e:Nat→Int} {n:Int} (_:1≤n) (m:Nat):MM n (msR w e n m):=by
 have b0:=qJX (e:=e) (w:=w) (m:=m) (k:=n) (by omega);have b1:=qJX (e:=e) (w:=w) (m:=mA w m 1) (k:=9000) (by decide);have b2:=qJX (e:=e) (w:=w) (m:=mA w m 2) (k:=7) (by decide);have b3:=qJX (e:=e) (w:=w) (m:=mA w m 3) (k:=5) (by decide);have h1:vYW .i64 (1 + (nxV e w (mA w m 1) 9000))=1 + nxV e w (mA w m 1) 9000:=zV (by omega);have h2:vYW .i64 ((vYW .i64 ((nxV e w (mA w m 2) 7) - 3)) * 32768)=(nxV e w (mA w m 2) 7 - 3) * 32768:=by rw [show vYW .i64 ((nxV e w (mA w m 2) 7) - 3)=nxV e w (mA w m 2) 7 - 3 from zV (by omega)]; exact zV (by omega)
 have h3:=lY b3;unfold MM msR;dsimp only;rw [h1,h2];omega
noncomputable def nxM (w:Nat) (e:Nat→Int) (n:Int) (i:Nat) (t:Nat × (Nat→List PV)):Nat × (Nat→List PV):=(mA w t.1 4,fun v=>qW (Nat.beq v i) (mp (msR w e n t.1)) (t.2 v))
noncomputable def rmS (w:Nat) (e:Nat→Int) (n:Int) (m1:Nat) (k0:Int):Nat × (Nat→List PV):=qQL (nxM w e n) (k0.toNat - 1) 1 (mA w m1 4,fun _=>mp (msR w e n m1))
theorem nxM_ok {w:Nat} {e:Nat→Int} {n:Int} (hn:1≤n):∀ (i:Nat) (t:Nat × (Nat→List PV)),(t.1≤w∧∀ v,v < i→∃ j,t.2 v=mp j∧MM n j)→((nxM w e n i t).1≤w∧∀ v,v < i + 1→∃ j,(nxM w e n i t).2 v=mp j∧MM n j):=fun i t h=>by
 refine ⟨kG h.1 4,fun v hv => ?_⟩;show ∃ j,qW (Nat.beq v i) _ (t.2 v)=mp j∧_;rw [kU,qJH];by_cases e1:v=i
 ·subst e1;exact ⟨_,by rw [vYK rfl]; rfl,yQU hn t.1⟩
 ·obtain ⟨j,h1,h2⟩:=h.2 v (by omega);exact ⟨j,by rw [vYJ e1]; exact h1,h2⟩
theorem lpRm (K:Cont) (w:Nat) (e:Nat→Int) (n:Int) (m1 r1:Nat) (f1:Nat→List PV) (k0:Int) (hm:m1≤w) (hw:w≤9223372036854775807) (hn:1≤n∧n≤9) (_:0≤k0∧k0≤9):LFT Tf 22 orRB 60 [] [0,1,0,1,1,1,1] K 60 (zRm w e n m1 r1 f1 k0)=(bif decide (0 < k0) then (K (.exit 2) ⟨[(2,.p 2 0),(3,.p 3 0)],[(1000000,.blk [.v (.lf w (fQ e)),.v (.n .i64 (((rmS w e n m1 k0).1:Nat):Int))]),(2,.blk [.nl,.nl]),(3,.blk [.o 21,.o 46]),(21,.reg 80 12 (.fo r1 f1)),(46,.reg 98 5 (.fo (k0).toNat (rmS w e n m1 k0).2))]⟩) else (K (.exit 2) ⟨[(2,.p 2 0),(3,.p 3 0)],[(1000000,.blk [.v (.lf w (fQ e)),.v (.n .i64 ((m1:Nat):Int))]),(2,.blk [.nl,.nl]),(3,.blk [.o 21,.nl]),(21,.reg 80 12 (.fo r1 f1))]⟩)):=by
 refine (rzRm (LFT Tf 22 orRB 60 [] [0,1,0,1,1,1,1] K 59) K w e n m1 r1 f1 k0).trans ?_;by_cases h0:0 < k0
 ·rw [vYK h0,vYZ,qYW (C:=cnx) (t:=(w,m1,e,n)) ⟨hm,hw,by omega,by omega⟩,vYZ,qYW (C:=cnx) (t:=(w,(mA w m1 1),e,9000)) ⟨kG hm 1,hw,by decide,by decide⟩,vYZ,qYW (C:=cnx) (t:=(w,(mA w m1 2),e,7)) ⟨kG hm 2,hw,by decide,by decide⟩,vYZ,qYW (C:=cnx) (t:=(w,(mA w m1 3),e,5)) ⟨kG hm 3,hw,by decide,by decide⟩,vYZ];refine Eq.trans (b:=LFT Tf 22 orRB 60 [] [0,1,0,1,1,1,1] K 59 (hRm w e n m1 r1 f1 k0 (k0 - ((1:Nat):Int)) (mA w m1 4) 1 (fun _=>mp (msR w e n m1)))) ?_ ((qKL (L:=LFT Tf 22 orRB 60 [] [0,1,0,1,1,1,1] K) (stp:=stpT Tf 22 orRB 60 [] [0,1,0,1,1,1,1] K) (fun _ _=>rfl) (fun (i:Nat) (t:Nat × (Nat→List PV))=>hRm w e n m1 r1 f1 k0 (k0 - (i:Int)) t.1 i t.2) (fun i t=>t.1≤w∧∀ v,v < i→∃ j,t.2 v=mp j∧MM n j) (fun _ _=>true) (nxM w e n) (c:=k0.toNat) (fun t=>(K (.exit 2) ⟨[(2,.p 2 0),(3,.p 3 0)],[(1000000,.blk [.v (.lf w (fQ e)),.v (.n .i64 ((t.1:Nat):Int))]),(2,.blk [.nl,.nl]),(3,.blk [.o 21,.o 46]),(21,.reg 80 12 (.fo r1 f1)),(46,.reg 98 5 (.fo k0.toNat t.2))]⟩)) (fun _ _=>none) (fun G i t hi hv => ?_) (fun i t hi hv _=>nxM_ok hn.1 i t hv) (fun G t hv => ?_) (k0.toNat - 1) 1 59 (mA w m1 4,fun _=>mp (msR w e n m1)) (by omega) (by omega) ⟨kG hm 4,fun v hv=>⟨_,rfl,yQU hn.1 m1⟩⟩).trans (qYB (k0.toNat - 1) 1 _))
  ·rw [show vYW .i64 (k0 - 1)=k0 - ((1:Nat):Int) from zV (by omega)];rfl
  ·refine (rdRm G K w e n m1 r1 f1 k0 (k0 - (i:Int)) t.1 i t.2).trans ?_;have ht:=hv.1;rw [vYK (show 0 < k0 - (i:Int) by omega),vYZ,qYW (C:=cnx) (t:=(w,t.1,e,n)) ⟨ht,hw,by omega,by omega⟩,vYZ,qYW (C:=cnx) (t:=(w,(mA w t.1 1),e,9000)) ⟨kG ht 1,hw,by decide,by decide⟩,vYZ,qYW (C:=cnx) (t:=(w,(mA w t.1 2),e,7)) ⟨kG ht 2,hw,by decide,by decide⟩,vYZ,qYW (C:=cnx) (t:=(w,(mA w t.1 3),e,5)) ⟨kG ht 3,hw,by decide,by decide⟩,vYZ,vYK (show i + 1≤1000000 by omega),vYZ,show vYW .i64 (k0 - (i:Int) - 1)=k0 - ((i + 1:Nat):Int) from by rw [zV (by omega)]; omega];rfl
  ·refine (rdRm G K w e n m1 r1 f1 k0 (k0 - (k0.toNat:Int)) t.1 k0.toNat t.2).trans ?_;rw [vYJ (show ¬ 0 < k0 - ((k0.toNat:Nat):Int) by omega)];rfl
 ·rw [vYJ h0];rfl
theorem rjS_ok {w:Nat} {e:Nat→Int} {n:Int} {m1:Nat} (hm:m1≤w) (hw:w≤9223372036854775807) (_:1≤n∧n≤9):(rjS w e n m1).1≤w∧∀ v,v < n.toNat→∃ j,(rjS w e n m1).2 v=jp j∧JM v j:=by
 have hj:=(zGZ (t:=(w,m1,e,0)) ⟨hm,hw,(by show 0 < 10; decide)⟩).1;exact qZX (Q:=fun i (t:Nat × (Nat→List PV))=>t.1≤w∧∀ v,v < i→∃ j,t.2 v=jp j∧JM v j) (c:=n.toNat) (fun i t hi h=>nxR_ok hm hw i t (by omega) h) (n.toNat - 1) 1 _ (by omega) ⟨hj.1,fun v hv=>⟨_,rfl,(show v=0 by omega) ▸ hj.2⟩⟩
theorem rmS_ok {w:Nat} {e:Nat→Int} {n:Int} {m1:Nat} {k0:Int} (hm:m1≤w) (hn:1≤n) (_:0 < k0):(rmS w e n m1 k0).1≤w∧∀ v,v < k0.toNat→∃ j,(rmS w e n m1 k0).2 v=mp j∧MM n j :=
 qZX (Q:=fun i (t:Nat × (Nat→List PV))=>t.1≤w∧∀ v,v < i→∃ j,t.2 v=mp j∧MM n j) (c:=k0.toNat) (fun i t hi h=>nxM_ok hn i t h) (k0.toNat - 1) 1 _ (by omega) ⟨kG hm 4,fun v hv=>⟨_,rfl,yQU hn m1⟩⟩
theorem pick_fn {α:Type} {n:Nat} {R:Nat→α→Prop} (d:α) (h:∀ v,v < n→∃ a,R v a):∃ g:Nat→α,∀ v,v < n→R v (g v):=by
 have each:∀ v,∃ a:α,v < n→R v a:=fun v=>by
  by_cases hv:v < n
  ·obtain ⟨a,ha⟩:=h v hv;exact ⟨a,fun _=>ha⟩
  ·exact ⟨d,fun h=>absurd h hv⟩
 exact ⟨fun v=>Classical.choose (each v),fun v=>Classical.choose_spec (each v)⟩
noncomputable def lsrb (w m:Nat) (e:Nat→Int):List (List Nat × yV):=[([0,1,0,1,1,1],sumF (fun t:Int × Nat=>(zRj w e t.1 t.2)) (fun σ=>(slI σ 4,(bkC σ 1000000 1).toNat)) (fun t K=>(bif (decide (t.2≤w∧w≤9223372036854775807) && decide (1≤t.1∧t.1≤9)) then (K (.exit 0) ⟨[(0,.p 1000000 0),(2,.p 2 0),(3,.p 3 0),(4,.v (.n .i64 t.1))],[(1000000,.blk [.v (.lf w (fQ e)),.v (.n .i64 (((rjS w e t.1 t.2).1:Nat):Int))]),(2,.blk [.nl,.nl]),(3,.blk [.o 21,.nl]),(21,.reg 80 12 (.fo (t.1).toNat (rjS w e t.1 t.2).2))]⟩) else none))),([0,1,0,1,1,1,1],sumF (fun t:Int × Nat × Nat × (Nat→List PV) × Int=>(zRm w e t.1 t.2.1 t.2.2.1 t.2.2.2.1 t.2.2.2.2)) (fun σ=>(slI σ 4,(bkC σ 1000000 1).toNat,rgN σ 21,rgF σ 21,slI σ 6)) (fun t K=>(bif (decide (t.2.1≤w∧w≤9223372036854775807) && decide ((1≤t.1∧t.1≤9)∧(0≤t.2.2.2.2∧t.2.2.2.2≤9))) then (bif decide (0 < t.2.2.2.2) then (K (.exit 2) ⟨[(2,.p 2 0),(3,.p 3 0)],[(1000000,.blk [.v (.lf w (fQ e)),.v (.n .i64 (((rmS w e t.1 t.2.1 t.2.2.2.2).1:Nat):Int))]),(2,.blk [.nl,.nl]),(3,.blk [.o 21,.o 46]),(21,.reg 80 12 (.fo t.2.2.1 t.2.2.2.1)),(46,.reg 98 5 (.fo (t.2.2.2.2).toNat (rmS w e t.1 t.2.1 t.2.2.2.2).2))]⟩) else (K (.exit 2) ⟨[(2,.p 2 0),(3,.p 3 0)],[(1000000,.blk [.v (.lf w (fQ e)),.v (.n .i64 ((t.2.1:Nat):Int))]),(2,.blk [.nl,.nl]),(3,.blk [.o 21,.nl]),(21,.reg 80 12 (.fo t.2.2.1 t.2.2.2.1))]⟩)) else none)))]
set_option maxRecDepth 100000 in
theorem pxrb (w m:Nat) (e:Nat→Int):zGD Tf orRB (qY (lsrb w m e)) 60 22 [.p 1000000 0] [.lf w (fQ e),.n .i64 (m:Int)] =
 (bif (gB1 cnx hnx enx (w,m,e,3)) then (bif (gSt (zRj w e (vYW .i64 (1 + (nxV e w m 3))) (mA w m 1)) (zRj w e (vYW .i64 (1 + (nxV e w m 3))) (mA w m 1))) then (bif (decide ((mA w m 1)≤w∧w≤9223372036854775807) && decide (1≤(vYW .i64 (1 + (nxV e w m 3)))∧(vYW .i64 (1 + (nxV e w m 3)))≤9)) then (bif (gB1 cnx hnx enx (w,((rjS w e (vYW .i64 (1 + (nxV e w m 3))) (mA w m 1)).1),e,3)) then (bif (gSt (zRm w e (vYW .i64 (1 + (nxV e w m 3))) (mA w ((rjS w e (vYW .i64 (1 + (nxV e w m 3))) (mA w m 1)).1) 1) (((vYW .i64 (1 + (nxV e w m 3)))).toNat) ((rjS w e (vYW .i64 (1 + (nxV e w m 3))) (mA w m 1)).2) (nxV e w ((rjS w e (vYW .i64 (1 + (nxV e w m 3))) (mA w m 1)).1) 3)) (zRm w e (vYW .i64 (1 + (nxV e w m 3))) (mA w ((rjS w e (vYW .i64 (1 + (nxV e w m 3))) (mA w m 1)).1) 1) (((vYW .i64 (1 + (nxV e w m 3)))).toNat) ((rjS w e (vYW .i64 (1 + (nxV e w m 3))) (mA w m 1)).2) (nxV e w ((rjS w e (vYW .i64 (1 + (nxV e w m 3))) (mA w m 1)).1) 3))) then (bif (decide ((mA w ((rjS w e (vYW .i64 (1 + (nxV e w m 3))) (mA w m 1)).1) 1)≤w∧w≤9223372036854775807) && decide ((1≤(vYW .i64 (1 + (nxV e w m 3)))∧(vYW .i64 (1 + (nxV e w m 3)))≤9)∧(0≤(nxV e w ((rjS w e (vYW .i64 (1 + (nxV e w m 3))) (mA w m 1)).1) 3)∧(nxV e w ((rjS w e (vYW .i64 (1 + (nxV e w m 3))) (mA w m 1)).1) 3)≤9))) then (bif (decide (0 < (nxV e w ((rjS w e (vYW .i64 (1 + (nxV e w m 3))) (mA w m 1)).1) 3))) then some (.v (.t [.a [.lf (((vYW .i64 (1 + (nxV e w m 3)))).toNat) ((rjS w e (vYW .i64 (1 + (nxV e w m 3))) (mA w m 1)).2),.lf ((nxV e w ((rjS w e (vYW .i64 (1 + (nxV e w m 3))) (mA w m 1)).1) 3)).toNat (rmS w e (vYW .i64 (1 + (nxV e w m 3))) (mA w ((rjS w e (vYW .i64 (1 + (nxV e w m 3))) (mA w m 1)).1) 1) (nxV e w ((rjS w e (vYW .i64 (1 + (nxV e w m 3))) (mA w m 1)).1) 3)).2],.lf w (fQ e),.n .i64 (((rmS w e (vYW .i64 (1 + (nxV e w m 3))) (mA w ((rjS w e (vYW .i64 (1 + (nxV e w m 3))) (mA w m 1)).1) 1) (nxV e w ((rjS w e (vYW .i64 (1 + (nxV e w m 3))) (mA w m 1)).1) 3)).1:Nat):Int)]),[])
 else some (.v (.t [.a [.lf (((vYW .i64 (1 + (nxV e w m 3)))).toNat) ((rjS w e (vYW .i64 (1 + (nxV e w m 3))) (mA w m 1)).2),.l []],.lf w (fQ e),.n .i64 (((mA w ((rjS w e (vYW .i64 (1 + (nxV e w m 3))) (mA w m 1)).1) 1):Nat):Int)]),[]))
 else none)
 else none)
 else none)
 else none)
 else none)
 else none):=by kernel_rfl
theorem snd_rb (w m:Nat) (e:Nat→Int) (hm:m≤w) (hw:w≤9223372036854775807):qVA Tryz.prog 22 [.p 1000000 0] [.lf w (fQ e),.n .i64 (m:Int)] (bif decide (0 < (nxV e w ((rjS w e (vYW .i64 (1 + (nxV e w m 3))) (mA w m 1)).1) 3)) then (.a [.lf ((vYW .i64 (1 + (nxV e w m 3))).toNat) ((rjS w e (vYW .i64 (1 + (nxV e w m 3))) (mA w m 1)).2),.lf ((nxV e w ((rjS w e (vYW .i64 (1 + (nxV e w m 3))) (mA w m 1)).1) 3).toNat) ((rmS w e (vYW .i64 (1 + (nxV e w m 3))) (mA w ((rjS w e (vYW .i64 (1 + (nxV e w m 3))) (mA w m 1)).1) 1) (nxV e w ((rjS w e (vYW .i64 (1 + (nxV e w m 3))) (mA w m 1)).1) 3)).2)]) else (.a [.lf ((vYW .i64 (1 + (nxV e w m 3))).toNat) ((rjS w e (vYW .i64 (1 + (nxV e w m 3))) (mA w m 1)).2),.l []])) ([.lf w (fQ e),.n .i64 (((bif decide (0 < (nxV e w ((rjS w e (vYW .i64 (1 + (nxV e w m 3))) (mA w m 1)).1) 3)) then (rmS w e (vYW .i64 (1 + (nxV e w m 3))) (mA w ((rjS w e (vYW .i64 (1 + (nxV e w m 3))) (mA w m 1)).1) 1) (nxV e w ((rjS w e (vYW .i64 (1 + (nxV e w m 3))) (mA w m 1)).1) 3)).1 else mA w ((rjS w e (vYW .i64 (1 + (nxV e w m 3))) (mA w m 1)).1) 1):Nat):Int)]):=by
 refine qVU (N:=60) (LO:=qY (lsrb w m e)) jY yH (jK (l:=[]) (m:=[(24,o_nx),(51,o_jt)]) trivial ⟨yQK,ok_jt,trivial⟩) (fun p S hp => ?_) ?_
 ·refine qX (L:=qZ Tf 22) (l:=(lsrb w m e)) (show AllP _ (lsrb w m e) from ⟨?_,?_,trivial⟩) p S hp
  ·dsimp only;refine jQ (T:=Tf) (o:=orRB) (f:=22) (LO:=qY []) (p:=[0,1,0,1,1,1]) jU ?_;intro t K r hr;obtain ⟨hg,hr⟩:=qQ hr;simp only [vQJ,decide_eq_true_eq] at hg;exact (lpRj K w e t.1 t.2 hg.1.1 hg.1.2 hg.2).trans hr
  ·dsimp only;refine jQ (T:=Tf) (o:=orRB) (f:=22) (LO:=qY []) (p:=[0,1,0,1,1,1,1]) jU ?_;intro t K r hr;obtain ⟨hg,hr⟩:=qQ hr;simp only [vQJ,decide_eq_true_eq] at hg;exact (lpRm K w e t.1 t.2.1 t.2.2.1 t.2.2.2.1 t.2.2.2.2 hg.1.1 hg.1.2 hg.2.1 hg.2.2).trans hr
 ·refine (pxrb w m e).trans ?_;have b0:=qJX (e:=e) (w:=w) (m:=m) (k:=3) (by decide);have hN:(vYW .i64 (1 + (nxV e w m 3)))=1 + nxV e w m 3:=zV (by omega);have hj:=rjS_ok (e:=e) (n:=(vYW .i64 (1 + (nxV e w m 3)))) (kG hm 1) hw (by omega);have bk:=qJX (e:=e) (w:=w) (m:=(rjS w e (vYW .i64 (1 + (nxV e w m 3))) (mA w m 1)).1) (k:=3) (by decide);simp only [zW,qYW (C:=cnx) (t:=(w,m,e,3)) ⟨hm,hw,by decide,by decide⟩,qYW (C:=cnx) (t:=(w,(rjS w e (vYW .i64 (1 + (nxV e w m 3))) (mA w m 1)).1,e,3)) ⟨hj.1,hw,by decide,by decide⟩,vYK (show mA w m 1≤w∧w≤9223372036854775807 from ⟨kG hm 1,hw⟩),vYK (show 1≤(vYW .i64 (1 + (nxV e w m 3)))∧(vYW .i64 (1 + (nxV e w m 3)))≤9 by omega),vYK (show mA w ((rjS w e (vYW .i64 (1 + (nxV e w m 3))) (mA w m 1)).1) 1≤w∧w≤9223372036854775807 from ⟨kG hj.1 1,hw⟩),vYK (show (1≤(vYW .i64 (1 + (nxV e w m 3)))∧(vYW .i64 (1 + (nxV e w m 3)))≤9)∧(0≤(nxV e w ((rjS w e (vYW .i64 (1 + (nxV e w m 3))) (mA w m 1)).1) 3)∧(nxV e w ((rjS w e (vYW .i64 (1 + (nxV e w m 3))) (mA w m 1)).1) 3)≤9) by omega),vZQ,vYZ];cases decide (0 < (nxV e w ((rjS w e (vYW .i64 (1 + (nxV e w m 3))) (mA w m 1)).1) 3)) <;> rfl
def robC (w:Nat) (js:Nat→J) (ms:Nat→Ms) (n k m':Nat):Prop:=m'≤w∧(1≤n∧n≤3)∧k≤2∧(∀ v,v < n→JM v (js v))∧∀ v,v < k→MM n (ms v)
theorem robot_ex (w m:Nat) (e:Nat→Int) (hm:m≤w) (hw:w≤9223372036854775807):∃ (js:Nat→J) (ms:Nat→Ms) (n k m':Nat),robC w js ms n k m'∧qVA Tryz.prog 22 [.p pid 0] [.lf w (fQ e),.n .i64 (m:Int)] (.a [.lf n (fJ js),.lf k (fM ms)]) [.lf w (fQ e),.n .i64 (m':Int)]:=by
 have h:=snd_rb w m e hm hw;have b0:=qJX (e:=e) (w:=w) (m:=m) (k:=3) (by decide);have hN:(vYW .i64 (1 + (nxV e w m 3)))=1 + nxV e w m 3:=zV (by omega);have hj:=rjS_ok (e:=e) (n:=(vYW .i64 (1 + (nxV e w m 3)))) (kG hm 1) hw (by omega);have bk:=qJX (e:=e) (w:=w) (m:=(rjS w e (vYW .i64 (1 + (nxV e w m 3))) (mA w m 1)).1) (k:=3) (by decide);obtain ⟨js,hjs⟩:=pick_fn (⟨ByteArray.empty,0,0,⟨0,0,0⟩,0,0,0,0,0,0⟩:J) hj.2;by_cases h0:0 < (nxV e w ((rjS w e (vYW .i64 (1 + (nxV e w m 3))) (mA w m 1)).1) 3)
 ·have hm2:=rmS_ok (w:=w) (e:=e) (n:=(vYW .i64 (1 + (nxV e w m 3)))) (m1:=mA w ((rjS w e (vYW .i64 (1 + (nxV e w m 3))) (mA w m 1)).1) 1) (k0:=(nxV e w ((rjS w e (vYW .i64 (1 + (nxV e w m 3))) (mA w m 1)).1) 3)) (kG hj.1 1) (by omega) h0;obtain ⟨ms,hms⟩:=pick_fn (⟨0,0,⟨0,0,0⟩⟩:Ms) hm2.2;rw [vYK h0] at h;exact ⟨js,ms,_,((nxV e w ((rjS w e (vYW .i64 (1 + (nxV e w m 3))) (mA w m 1)).1) 3)).toNat,_,⟨hm2.1,by omega,by omega,fun v hv=>(hjs v hv).2,fun v hv=>by have:=(hms v hv).2; rw [show (((vYW .i64 (1 + (nxV e w m 3))).toNat:Nat):Int)=(vYW .i64 (1 + (nxV e w m 3))) by omega]; exact this⟩,sndB_res (Same.a (xs:=[_,_]) ⟨qXV fun v hv=>(hjs v hv).1,qXV fun v hv=>(hms v hv).1,trivial⟩) h⟩
 ·rw [vYJ h0] at h;exact ⟨js,fun _=>⟨0,0,⟨0,0,0⟩⟩,_,0,_,⟨kG hj.1 1,by omega,by omega,fun v hv=>(hjs v hv).2,fun v hv=>absurd hv (by omega)⟩,sndB_res (Same.a (xs:=[_,_]) ⟨qXV fun v hv=>(hjs v hv).1,Same.lf rfl,trivial⟩) h⟩
end Go.Proofs.YtklmegnpfhiibaaGreat.So
namespace Go.Proofs.YtklmegnpfhiibaaGreat.Sq
open Go.Rx Rt Go.Sx Go.RowKit Od Nb Sn So
theorem qWF {τ υ:Type} (d:υ) {C:τ→Prop} {R:τ→υ→Prop} (h:∀ t,C t→∃ y,R t y):∃ F:τ→υ,∀ t,C t→R t (F t):=by
 have each:∀ t,∃ y:υ,C t→R t y:=fun t=>by
  by_cases hc:C t
  ·obtain ⟨y,hy⟩:=h t hc;exact ⟨y,fun _=>hy⟩
  ·exact ⟨d,fun h'=>absurd h' hc⟩
 exact ⟨fun t=>Classical.choose (each t),fun t=>Classical.choose_spec (each t)⟩
def j00:J:=⟨ByteArray.empty,0,0,⟨0,0,0⟩,0,0,0,0,0,0⟩
def m00:Ms:=⟨0,0,⟨0,0,0⟩⟩
abbrev RbT:Type:=(Nat→J) × (Nat→Ms) × Nat × Nat × Nat
def rbC (t:Nat × Nat × (Nat→Int)):Prop:=t.2.1≤t.1∧t.1≤9223372036854775807
def rbR (t:Nat × Nat × (Nat→Int)) (y:RbT):Prop:=robC t.1 y.1 y.2.1 y.2.2.1 y.2.2.2.1 y.2.2.2.2∧qVA Tryz.prog 22 [.p pid 0] [.lf t.1 (fQ t.2.2),.n .i64 (t.2.1:Int)] (.a [.lf y.2.2.1 (fJ y.1),.lf y.2.2.2.1 (fM y.2.1)]) [.lf t.1 (fQ t.2.2),.n .i64 (y.2.2.2.2:Int)]
theorem rb_all:∃ F:Nat × Nat × (Nat→Int)→RbT,∀ t,rbC t→rbR t (F t):=qWF (fun _=>j00,fun _=>m00,0,0,0) fun t h=>by
 obtain ⟨js,ms,n,k,m',h1,h2⟩:=robot_ex t.1 t.2.1 t.2.2 h.1 h.2;exact ⟨(js,ms,n,k,m'),h1,h2⟩
noncomputable def rbF:Nat × Nat × (Nat→Int)→RbT:=Classical.choose rb_all
theorem rbF_ok {t:Nat × Nat × (Nat→Int)} (h:rbC t):rbR t (rbF t):=Classical.choose_spec rb_all t h
def crb:Nat × Nat × (Nat→Int)→Prop:=fun t=>match t with | (w,m,_)=>m≤w∧w≤9223372036854775807
def hrb:Nat × Nat × (Nat→Int)→List HV:=fun t=>match t with | (_,_,_)=>[.p pid 0]
def erb:Nat × Nat × (Nat→Int)→List PV:=fun t=>match t with | (w,m,e)=>[.lf w (fQ e),.n .i64 (m:Int)]
noncomputable def xrb:Nat × Nat × (Nat→Int)→PV:=fun t=>match t with | (w,m,e)=>.a [.lf (rbF (w,m,e)).2.2.1 (fJ (rbF (w,m,e)).1),.lf (rbF (w,m,e)).2.2.2.1 (fM (rbF (w,m,e)).2.1)]
noncomputable def qrb:Nat × Nat × (Nat→Int)→List PV:=fun t=>match t with | (w,m,e)=>[.lf w (fQ e),.n .i64 (((rbF (w,m,e)).2.2.2.2:Nat):Int)]
def drb:List HV→List PV→Nat × Nat × (Nat→Int):=fun hs ps=>match hs,ps with
 | _,[.lf w f,.n _ c]=>(w,c.toNat,unFQ f)
 | _,_=>(0,0,fun _=>0)
noncomputable def o_rb:List HV→List PV→Option (Bool × (PV × List PV)):=o_fb drb crb hrb erb xrb qrb
theorem ok_rb:zXE Tryz.prog 22 o_rb:=yJX fun t h=>by
 obtain ⟨w,m,e⟩:=t;exact (rbF_ok (t:=(w,m,e)) h).2
noncomputable def orRob (w:Nat) (e:Nat→Int):OrS:=orS [] [(22,o_rb)]
noncomputable def yYH (w:Nat) (e:Nat→Int):List (List Nat × yV):=[]
set_option maxRecDepth 100000 in
theorem pxRob (w:Nat) (e:Nat→Int):qQI Tf (orRob w e) (qY (yYH w e)) 60 7 [.lf w (fQ e)] =
 (bif (gB1 crb hrb erb (w,0,e)) then some (.v (.a [.lf (rbF (w,0,e)).2.2.1 (fJ (rbF (w,0,e)).1),.lf (rbF (w,0,e)).2.2.2.1 (fM (rbF (w,0,e)).2.1)]),[])
 else none):=by kernel_rfl
theorem snd_Rob (w:Nat) (e:Nat→Int) (hw:w≤9223372036854775807):zY Tryz.prog 7 [.lf w (fQ e)] (.v (.a [.lf (rbF (w,0,e)).2.2.1 (fJ (rbF (w,0,e)).1),.lf (rbF (w,0,e)).2.2.2.1 (fM (rbF (w,0,e)).2.1)])):=by
 refine qH (N:=60) (LO:=qY (yYH w e)) jY yH (jK (l:=[]) (m:=[(22,o_rb)]) trivial ⟨ok_rb,trivial⟩) (fun p S hp => ?_) ?_
 ·refine qX (L:=qZ Tf 7) (l:=(yYH w e)) (show AllP _ (yYH w e) from trivial) p S hp
 ·refine (pxRob w e).trans ?_;rw [qYW (C:=crb) (t:=(w,0,e)) ⟨Nat.zero_le _,hw⟩];rfl
noncomputable def orCg (w:Nat) (e:Nat→Int) (js:Nat→J) (ms:Nat→Ms) (n m:Nat):OrS:=orS [] [(24,o_nx)]
noncomputable def hCg (w:Nat) (e:Nat→Int) (js:Nat→J) (ms:Nat→Ms) (n m:Nat) (i:Int) (m2:Nat) (r:Nat) (f:Nat→Int):St:=⟨[(2,.p 2 0),(5,.p 11 0),(6,.o 43),(7,.v (.n .i64 i))],[(2,.blk [.v (.lf n (fJ js)),.v (.lf m (fM ms))]),(11,.blk [.v (.lf w (fQ e)),.v (.n .i64 (m2:Int))]),(43,.reg 2 1 (.fo r (fun v=>[.n .i64 (f v)])))]⟩
set_option maxRecDepth 100000 in
theorem rdCg (G:St→Option (Ret × Mem)) (K:Cont) (w:Nat) (e:Nat→Int) (js:Nat→J) (ms:Nat→Ms) (n m:Nat) (i:Int) (m2:Nat) (r:Nat) (f:Nat→Int):stpT Tf 12 (orCg w e js ms n m) 60 [] [0,1,0,1,1,1] K G (hCg w e js ms n m i m2 r f) =
 (bif (decide (i < (n:Int))) then (bif (inB i n) then (bif (inB i n) then (bif (gB1 cnx hnx enx (w,m2,e,6)) then (bif (decide ((nxV e w m2 6)=0)) then (bif (decide (r + 1≤1000000)) then (G (hCg w e js ms n m (vYW .i64 (i + 1)) (mA w m2 1) (r + 1) (fun v=>(bif (Nat.beq v r) then (js (i).toNat).lo else (f v)))))
 else none)
 else (bif (decide ((nxV e w m2 6)=1)) then (bif (decide (r + 1≤1000000)) then (G (hCg w e js ms n m (vYW .i64 (i + 1)) (mA w m2 1) (r + 1) (fun v=>(bif (Nat.beq v r) then (js (i).toNat).hi else (f v)))))
 else none)
 else (bif (gB1 cnx hnx enx (w,(mA w m2 1),e,(vYW .i64 ((vYW .i64 ((js (i).toNat).hi - (js (i).toNat).lo)) + 1)))) then (bif (decide (r + 1≤1000000)) then (G (hCg w e js ms n m (vYW .i64 (i + 1)) (mA w m2 2) (r + 1) (fun v=>(bif (Nat.beq v r) then (vYW .i64 ((js (i).toNat).lo + (nxV e w (mA w m2 1) (vYW .i64 ((vYW .i64 ((js (i).toNat).hi - (js (i).toNat).lo)) + 1))))) else (f v)))))
 else none)
 else none)))
 else none)
 else none)
 else none)
 else (K (.exit 0) ⟨[(6,.o 43)],[(43,.reg 2 1 (.fo r (fun v=>[.n .i64 (f v)])))]⟩)):=by kernel_rfl
noncomputable def cfN (w:Nat) (e:Nat→Int) (js:Nat→J) (i:Nat) (t:Nat × (Nat→Int)):Nat × (Nat→Int) :=
 bif decide (nxV e w t.1 6=0) then (mA w t.1 1,fun v=>bif Nat.beq v i then (js i).lo else t.2 v) else bif decide (nxV e w t.1 6=1) then (mA w t.1 1,fun v=>bif Nat.beq v i then (js i).hi else t.2 v)
 else (mA w t.1 2,fun v=>bif Nat.beq v i then vYW .i64 ((js i).lo + nxV e w (mA w t.1 1) (vYW .i64 (vYW .i64 ((js i).hi - (js i).lo) + 1))) else t.2 v)
def qXZ (js:Nat→J) (n:Nat):Prop:=∀ v,v < n → -4194304≤(js v).lo∧(js v).lo≤(js v).hi∧(js v).hi≤4194304
theorem cfN_ok {w:Nat} {e:Nat→Int} {js:Nat→J} {n:Nat} (hj:qXZ js n):∀ (i:Nat) (t:Nat × (Nat→Int)),i < n→(t.1≤w∧∀ v,v < i→(js v).lo≤t.2 v∧t.2 v≤(js v).hi)→((cfN w e js i t).1≤w∧∀ v,v < i + 1→(js v).lo≤(cfN w e js i t).2 v∧(cfN w e js i t).2 v≤(js v).hi):=fun i t hi h=>by
 obtain ⟨h1,h2,h3⟩:=hj i hi;have hD:vYW .i64 (vYW .i64 ((js i).hi - (js i).lo) + 1)=(js i).hi - (js i).lo + 1:=by rw [show vYW .i64 ((js i).hi - (js i).lo)=(js i).hi - (js i).lo from zV (by omega)]; exact zV (by omega)
 have hb:=qJX (e:=e) (w:=w) (m:=mA w t.1 1) (k:=(js i).hi - (js i).lo + 1) (by omega);have key:∀ (x:Int) (m':Nat),m'≤w→((js i).lo≤x∧x≤(js i).hi)→(m'≤w∧∀ v,v < i + 1→(js v).lo≤(bif Nat.beq v i then x else t.2 v)∧(bif Nat.beq v i then x else t.2 v)≤(js v).hi):=fun x m' hm hx=>⟨hm,fun v hv=>by
  rw [qJH];by_cases e1:v=i
  ·subst e1;rw [vYK rfl]; exact hx
  ·rw [vYJ e1]; exact h.2 v (by omega)⟩
 unfold cfN;rw [hD];cases decide (nxV e w t.1 6=0) with
 | true=>exact key _ _ (kG h.1 1) (by omega)
 | false =>
  cases decide (nxV e w t.1 6=1) with
  | true=>exact key _ _ (kG h.1 1) (by omega)
  | false =>
   refine key _ _ (kG h.1 2) ?_;rw [zV (by omega)];omega
noncomputable def cfS (w:Nat) (e:Nat→Int) (js:Nat→J) (ms:Nat→Ms) (n m:Nat):Nat × (Nat→Int):=qQL (cfN w e js) n 0 (0,fun _=>0)
theorem lpCg (K:Cont) (w:Nat) (e:Nat→Int) (js:Nat→J) (ms:Nat→Ms) (n m:Nat) (hw:w≤9223372036854775807) (_:n≤50) (hj:qXZ js n):LFT Tf 12 (orCg w e js ms n m) 60 [] [0,1,0,1,1,1] K 60 (hCg w e js ms n m 0 0 0 (fun _=>0))=(K (.exit 0) ⟨[(6,.o 43)],[(43,.reg 2 1 (.fo n (fQ (cfS w e js ms n m).2)))]⟩):=by
 refine (qKL (L:=LFT Tf 12 (orCg w e js ms n m) 60 [] [0,1,0,1,1,1] K) (stp:=stpT Tf 12 (orCg w e js ms n m) 60 [] [0,1,0,1,1,1] K) (fun _ _=>rfl) (fun (i:Nat) (t:Nat × (Nat→Int))=>hCg w e js ms n m (i:Int) t.1 i t.2) (fun i t=>t.1≤w∧∀ v,v < i→(js v).lo≤t.2 v∧t.2 v≤(js v).hi) (fun _ _=>true) (cfN w e js) (c:=n) (fun t=>(K (.exit 0) ⟨[(6,.o 43)],[(43,.reg 2 1 (.fo n (fun v=>[.n .i64 (t.2 v)])))]⟩)) (fun _ _=>none) (fun G i t hi hv => ?_) (fun i t hi hv _=>cfN_ok hj i t hi hv) (fun G t hv => ?_) n 0 60 (0,fun _=>0) (by omega) (by omega) ⟨Nat.zero_le _,fun v hv=>absurd hv (by omega)⟩).trans (qYB n 0 _)
 ·refine (rdCg G K w e js ms n m i t.1 i t.2).trans ?_;obtain ⟨h1,h2,h3⟩:=hj i hi;have hD:vYW .i64 (vYW .i64 ((js i).hi - (js i).lo) + 1)=(js i).hi - (js i).lo + 1:=by rw [show vYW .i64 ((js i).hi - (js i).lo)=(js i).hi - (js i).lo from zV (by omega)]; exact zV (by omega)
  simp only [vYK (show (i:Int) < (n:Int) by omega),zU hi,toN,qYW (C:=cnx) (t:=(w,t.1,e,6)) ⟨hv.1,hw,by decide,by decide⟩,vYK (show i + 1≤1000000 by omega),jG (show i < 1000000 by omega),vYZ];unfold cfN;cases decide (nxV e w t.1 6=0) with
  | true=>rfl
  | false =>
   cases decide (nxV e w t.1 6=1) with
   | true=>rfl
   | false =>
    have g2:gB1 cnx hnx enx (w,(mA w t.1 1),e,vYW .i64 (vYW .i64 ((js i).hi - (js i).lo) + 1))=true:=qYW ⟨kG hv.1 1,hw,by omega,by omega⟩;rw [g2];rfl
 ·refine (rdCg G K w e js ms n m n t.1 n t.2).trans ?_;rw [vYJ (show ¬ (n:Int) < (n:Int) by omega)];rfl
noncomputable def zVL (w:Nat) (e:Nat→Int) (js:Nat→J) (ms:Nat→Ms) (n m:Nat):List (List Nat × yV):=[([0,1,0,1,1,1],sumF (fun _:Unit=>(hCg w e js ms n m 0 0 0 (fun _=>0))) (fun _=>()) (fun _ K=>(bif gP (w≤9223372036854775807∧n≤50∧qXZ js n) then (K (.exit 0) ⟨[(6,.o 43)],[(43,.reg 2 1 (.fo n (fun v=>[.n .i64 ((cfS w e js ms n m).2 v)])))]⟩) else none)))]
set_option maxRecDepth 100000 in
theorem pxcfg0 (w:Nat) (e:Nat→Int) (js:Nat→J) (ms:Nat→Ms) (n m:Nat):qQI Tf (orCg w e js ms n m) (qY (zVL w e js ms n m)) 60 12 [.a [.lf n (fJ js),.lf m (fM ms)],.lf w (fQ e)] =
 (bif (gSt (hCg w e js ms n m 0 0 0 (fun _=>0)) (hCg w e js ms n m 0 0 0 (fun _=>0))) then (bif (gP (w≤9223372036854775807∧n≤50∧qXZ js n)) then some (.ow 2 1 (.fo n (fQ (cfS w e js ms n m).2)),[])
 else none)
 else none):=by kernel_rfl
theorem snd_cfg0 (w:Nat) (e:Nat→Int) (js:Nat→J) (ms:Nat→Ms) (n m:Nat) (hw:w≤9223372036854775807) (hn:n≤50) (hj:qXZ js n):zY Tryz.prog 12 [.a [.lf n (fJ js),.lf m (fM ms)],.lf w (fQ e)] (.ow 2 1 (.fo n (fQ (cfS w e js ms n m).2))):=by
 refine qH (N:=60) (LO:=qY (zVL w e js ms n m)) jY yH (jK (l:=[]) (m:=[(24,o_nx)]) trivial ⟨yQK,trivial⟩) (fun p S hp => ?_) ?_
 ·refine qX (L:=qZ Tf 12) (l:=(zVL w e js ms n m)) (show AllP _ (zVL w e js ms n m) from ⟨?_,trivial⟩) p S hp
  ·dsimp only;refine jQ (T:=Tf) (o:=(orCg w e js ms n m)) (f:=12) (LO:=qY []) (p:=[0,1,0,1,1,1]) jU ?_;intro t K r hr;obtain ⟨hg,hr⟩:=qQ hr
   skip
   exact (lpCg K w e js ms n m (gP_spec hg).1 (gP_spec hg).2.1 (gP_spec hg).2.2).trans hr
 ·refine (pxcfg0 w e js ms n m).trans ?_;simp only [zW,gP_of (show w≤9223372036854775807∧n≤50∧qXZ js n from ⟨hw,hn,hj⟩),vYZ]
  all_goals rfl
theorem cfg_ex (w:Nat) (e:Nat→Int) (js:Nat→J) (ms:Nat→Ms) (n m:Nat) (hw:w≤9223372036854775807) (hn:n≤50) (hj:qXZ js n):∃ q:Nat→Int,(∀ v,v < n→(js v).lo≤q v∧q v≤(js v).hi)∧zY Tryz.prog 12 [.a [.lf n (fJ js),.lf m (fM ms)],.lf w (fQ e)] (.v (.lf n (fQ q))) :=
 ⟨_,(qZX (Q:=fun i (t:Nat × (Nat→Int))=>t.1≤w∧∀ v,v < i→(js v).lo≤t.2 v∧t.2 v≤(js v).hi) (c:=n) (fun i t hi h=>cfN_ok hj i t hi h) n 0 (0,fun _=>0) (by omega) ⟨Nat.zero_le _,fun v hv=>absurd hv (by omega)⟩).2,qVE (snd_cfg0 w e js ms n m hw hn hj)⟩
end Go.Proofs.YtklmegnpfhiibaaGreat.Sq

/- Part 37 of the texts behind the last one: rules and contracts. No condition. -/
import Derived.Test.YtgmbkkkbfbocnaaGreatKL36
open Go.IntKind renaming wrap → vJJ
namespace Go.Proofs.YtgmbkkkbfbocnaaGreat.Gm
open Go.Rx Rt Go.Sx Go.RowKit Od Nb Nx Sn So Sq
noncomputable def orBx (w:Nat) (e:Nat→Int) (js:Nat→J) (ms:Nat→Ms) (n m:Nat):OrS:=orS [] [(30,o_nx)]
noncomputable def hBx (w:Nat) (e:Nat→Int) (js:Nat→J) (ms:Nat→Ms) (n m:Nat) (i:Int) (m2:Nat) (r:Nat) (q:Nat→Nat→Int):St:=⟨[(2,.p 2 0),(5,.p 13 0),(6,.o 66),(7,.v (.n .i64 i))],[(2,.blk [.v (.lf n (fJ js)),.v (.lf m (fM ms))]),(13,.blk [.v (.lf w (fQ e)),.v (.n .i64 (m2:Int))]),(66,.reg 62 2 (.fo r (fun v=>[.n .i64 (q v 0),.n .i64 (q v 1)])))]⟩
set_option maxRecDepth 100000 in
theorem rdBx (G:St→Option (Ret × Mem)) (K:Cont) (w:Nat) (e:Nat→Int) (js:Nat→J) (ms:Nat→Ms) (n m:Nat) (i:Int) (m2:Nat) (r:Nat) (q:Nat→Nat→Int):uX 60 (cxS Tf (orBx w e js ms n m) 60 9 (ntmF Tf 9)) (evX Tf (orBx w e js ms n m) 60 9 (ntmF Tf 9)) (qX []) (qQ Tf 9 [0,1,0,1,1,1]) [0,1,0,1,1,1] (Tf.hint 9 (qG (qQ Tf 9 [0,1,0,1,1,1]))) K G (hBx w e js ms n m i m2 r q) =
 (bif (decide (i < (n:Int))) then (bif (inB i n) then (bif (inB i n) then (bif (gB1 cnx hnx enx (w,m2,e,(vJJ .i64 ((vJJ .i64 ((js (i).toNat).hi - (js (i).toNat).lo)) + 1)))) then (bif (gB1 cnx hnx enx (w,(mA w m2 1),e,5)) then (bif (decide ((nxV e w (mA w m2 1) 5)=0)) then (bif (decide (r + 1≤8796093022208)) then (G (hBx w e js ms n m (vJJ .i64 (i + 1)) (mA w m2 2) (r + 1) (fun v k=>List.getD [(bif (Nat.beq v r) then (vJJ .i64 ((js (i).toNat).lo + (nxV e w m2 (vJJ .i64 ((vJJ .i64 ((js (i).toNat).hi - (js (i).toNat).lo)) + 1))))) else (q v 0)),(bif (Nat.beq v r) then (min (js (i).toNat).hi (vJJ .i64 ((vJJ .i64 ((js (i).toNat).lo + (nxV e w m2 (vJJ .i64 ((vJJ .i64 ((js (i).toNat).hi - (js (i).toNat).lo)) + 1))))) + (vJJ .i64 ((js (i).toNat).hi - (js (i).toNat).lo))))) else (q v 1))] k 0)))
 else none)
 else (bif (decide ((nxV e w (mA w m2 1) 5)=1)) then (bif (gB1 cnx hnx enx (w,(mA w m2 2),e,3000)) then (bif (decide (r + 1≤8796093022208)) then (G (hBx w e js ms n m (vJJ .i64 (i + 1)) (mA w m2 3) (r + 1) (fun v k=>List.getD [(bif (Nat.beq v r) then (vJJ .i64 ((js (i).toNat).lo + (nxV e w m2 (vJJ .i64 ((vJJ .i64 ((js (i).toNat).hi - (js (i).toNat).lo)) + 1))))) else (q v 0)),(bif (Nat.beq v r) then (min (js (i).toNat).hi (vJJ .i64 ((vJJ .i64 ((js (i).toNat).lo + (nxV e w m2 (vJJ .i64 ((vJJ .i64 ((js (i).toNat).hi - (js (i).toNat).lo)) + 1))))) + (nxV e w (mA w m2 2) 3000)))) else (q v 1))] k 0)))
 else none)
 else none)
 else (bif (decide ((nxV e w (mA w m2 1) 5)=2)) then (bif (gB1 cnx hnx enx (w,(mA w m2 2),e,3000)) then (bif (decide (r + 1≤8796093022208)) then (G (hBx w e js ms n m (vJJ .i64 (i + 1)) (mA w m2 3) (r + 1) (fun v k=>List.getD [(bif (Nat.beq v r) then (vJJ .i64 ((js (i).toNat).lo + (nxV e w m2 (vJJ .i64 ((vJJ .i64 ((js (i).toNat).hi - (js (i).toNat).lo)) + 1))))) else (q v 0)),(bif (Nat.beq v r) then (min (js (i).toNat).hi (vJJ .i64 ((vJJ .i64 ((js (i).toNat).lo + (nxV e w m2 (vJJ .i64 ((vJJ .i64 ((js (i).toNat).hi - (js (i).toNat).lo)) + 1))))) + (nxV e w (mA w m2 2) 3000)))) else (q v 1))] k 0)))
 else none)
 else none)
 else (bif (decide ((nxV e w (mA w m2 1) 5)=3)) then (bif (gB1 cnx hnx enx (w,(mA w m2 2),e,200)) then (bif (decide (r + 1≤8796093022208)) then (G (hBx w e js ms n m (vJJ .i64 (i + 1)) (mA w m2 3) (r + 1) (fun v k=>List.getD [(bif (Nat.beq v r) then (vJJ .i64 ((js (i).toNat).lo + (nxV e w m2 (vJJ .i64 ((vJJ .i64 ((js (i).toNat).hi - (js (i).toNat).lo)) + 1))))) else (q v 0)),(bif (Nat.beq v r) then (min (js (i).toNat).hi (vJJ .i64 ((vJJ .i64 ((js (i).toNat).lo + (nxV e w m2 (vJJ .i64 ((vJJ .i64 ((js (i).toNat).hi - (js (i).toNat).lo)) + 1))))) + (nxV e w (mA w m2 2) 200)))) else (q v 1))] k 0)))
 else none)
 else none)
 else (bif (decide (r + 1≤8796093022208)) then (G (hBx w e js ms n m (vJJ .i64 (i + 1)) (mA w m2 2) (r + 1) (fun v k=>List.getD [(bif (Nat.beq v r) then (vJJ .i64 ((js (i).toNat).lo + (nxV e w m2 (vJJ .i64 ((vJJ .i64 ((js (i).toNat).hi - (js (i).toNat).lo)) + 1))))) else (q v 0)),(bif (Nat.beq v r) then (min (js (i).toNat).hi (vJJ .i64 ((vJJ .i64 ((js (i).toNat).lo + (nxV e w m2 (vJJ .i64 ((vJJ .i64 ((js (i).toNat).hi - (js (i).toNat).lo)) + 1))))) + 0))) else (q v 1))] k 0)))
 else none)))))
 else none)
 else none)
 else none)
 else none)
 else (K (.exit 0) ⟨[(6,.o 66)],[(66,.reg 62 2 (.fo r (fun v=>[.n .i64 (q v 0),.n .i64 (q v 1)])))]⟩)):=by kernel_rfl
noncomputable def bxN (w:Nat) (e:Nat→Int) (js:Nat→J) (i:Nat) (t:Nat × (Nat→Nat→Int)):Nat × (Nat→Nat→Int) :=
 (bif (decide ((nxV e w (mA w t.1 1) 5)=0)) then ((mA w t.1 2),(fun v k=>List.getD [(bif (Nat.beq v i) then (vJJ .i64 ((js i).lo + (nxV e w t.1 (vJJ .i64 ((vJJ .i64 ((js i).hi - (js i).lo)) + 1))))) else (t.2 v 0)),(bif (Nat.beq v i) then (min (js i).hi (vJJ .i64 ((vJJ .i64 ((js i).lo + (nxV e w t.1 (vJJ .i64 ((vJJ .i64 ((js i).hi - (js i).lo)) + 1))))) + (vJJ .i64 ((js i).hi - (js i).lo))))) else (t.2 v 1))] k 0)) else (bif (decide ((nxV e w (mA w t.1 1) 5)=1)) then ((mA w t.1 3),(fun v k=>List.getD [(bif (Nat.beq v i) then (vJJ .i64 ((js i).lo + (nxV e w t.1 (vJJ .i64 ((vJJ .i64 ((js i).hi - (js i).lo)) + 1))))) else (t.2 v 0)),(bif (Nat.beq v i) then (min (js i).hi (vJJ .i64 ((vJJ .i64 ((js i).lo + (nxV e w t.1 (vJJ .i64 ((vJJ .i64 ((js i).hi - (js i).lo)) + 1))))) + (nxV e w (mA w t.1 2) 3000)))) else (t.2 v 1))] k 0)) else (bif (decide ((nxV e w (mA w t.1 1) 5)=2)) then ((mA w t.1 3),(fun v k=>List.getD [(bif (Nat.beq v i) then (vJJ .i64 ((js i).lo + (nxV e w t.1 (vJJ .i64 ((vJJ .i64 ((js i).hi - (js i).lo)) + 1))))) else (t.2 v 0)),(bif (Nat.beq v i) then (min (js i).hi (vJJ .i64 ((vJJ .i64 ((js i).lo + (nxV e w t.1 (vJJ .i64 ((vJJ .i64 ((js i).hi - (js i).lo)) + 1))))) + (nxV e w (mA w t.1 2) 3000)))) else (t.2 v 1))] k 0)) else (bif (decide ((nxV e w (mA w t.1 1) 5)=3)) then ((mA w t.1 3),(fun v k=>List.getD [(bif (Nat.beq v i) then (vJJ .i64 ((js i).lo + (nxV e w t.1 (vJJ .i64 ((vJJ .i64 ((js i).hi - (js i).lo)) + 1))))) else (t.2 v 0)),(bif (Nat.beq v i) then (min (js i).hi (vJJ .i64 ((vJJ .i64 ((js i).lo + (nxV e w t.1 (vJJ .i64 ((vJJ .i64 ((js i).hi - (js i).lo)) + 1))))) + (nxV e w (mA w t.1 2) 200)))) else (t.2 v 1))] k 0)) else ((mA w t.1 2),(fun v k=>List.getD [(bif (Nat.beq v i) then (vJJ .i64 ((js i).lo + (nxV e w t.1 (vJJ .i64 ((vJJ .i64 ((js i).hi - (js i).lo)) + 1))))) else (t.2 v 0)),(bif (Nat.beq v i) then (min (js i).hi (vJJ .i64 ((vJJ .i64 ((js i).lo + (nxV e w t.1 (vJJ .i64 ((vJJ .i64 ((js i).hi - (js i).lo)) + 1))))) + 0))) else (t.2 v 1))] k 0))))))
noncomputable def bxS (w:Nat) (e:Nat→Int) (js:Nat→J) (ms:Nat→Ms) (n m:Nat):Nat × (Nat→Nat→Int):=jZ (bxN w e js) n 0 (0,fun v k=>List.getD [0,0] k 0)
theorem lpBx (K:Cont) (w:Nat) (e:Nat→Int) (js:Nat→J) (ms:Nat→Ms) (n m:Nat) (hw:w≤9223372036854775807) (hn:n≤50) (hj:yYJ js n):LFX 60 (cxS Tf (orBx w e js ms n m) 60 9 (ntmF Tf 9)) (evX Tf (orBx w e js ms n m) 60 9 (ntmF Tf 9)) (qX []) (qQ Tf 9 [0,1,0,1,1,1]) [0,1,0,1,1,1] (Tf.hint 9 (qG (qQ Tf 9 [0,1,0,1,1,1]))) K 60 (hBx w e js ms n m 0 0 0 (fun v k=>List.getD [0,0] k 0))=(K (.exit 0) ⟨[(6,.o 66)],[(66,.reg 62 2 (.fo n (fun v=>[.n .i64 ((bxS w e js ms n m).2 v 0),.n .i64 ((bxS w e js ms n m).2 v 1)])))]⟩):=by
 refine (qJU (L:=LFX 60 (cxS Tf (orBx w e js ms n m) 60 9 (ntmF Tf 9)) (evX Tf (orBx w e js ms n m) 60 9 (ntmF Tf 9)) (qX []) (qQ Tf 9 [0,1,0,1,1,1]) [0,1,0,1,1,1] (Tf.hint 9 (qG (qQ Tf 9 [0,1,0,1,1,1]))) K) (stp:=uX 60 (cxS Tf (orBx w e js ms n m) 60 9 (ntmF Tf 9)) (evX Tf (orBx w e js ms n m) 60 9 (ntmF Tf 9)) (qX []) (qQ Tf 9 [0,1,0,1,1,1]) [0,1,0,1,1,1] (Tf.hint 9 (qG (qQ Tf 9 [0,1,0,1,1,1]))) K) (fun _ _=>rfl) (fun (i:Nat) (t:Nat × (Nat→Nat→Int))=>hBx w e js ms n m (i:Int) t.1 i t.2) (fun i t=>t.1≤w) (fun _ _=>true) (bxN w e js) (c:=n) (fun t=>(K (.exit 0) ⟨[(6,.o 66)],[(66,.reg 62 2 (.fo n (fun v=>[.n .i64 (t.2 v 0),.n .i64 (t.2 v 1)])))]⟩)) (fun _ _=>none) (fun G i t hi hv => ?_) (fun i t hi hv _ => ?_) (fun G t hv => ?_) n 0 60 (0,fun v k=>List.getD [0,0] k 0) (by omega) (by omega) (Nat.zero_le _)).trans (qYQ n 0 _)
 ·refine (rdBx G K w e js ms n m i t.1 i t.2).trans ?_;obtain ⟨h1,h2,h3⟩:=hj i hi;have hD:vJJ .i64 (vJJ .i64 ((js i).hi - (js i).lo) + 1)=(js i).hi - (js i).lo + 1:=by rw [show vJJ .i64 ((js i).hi - (js i).lo)=(js i).hi - (js i).lo from zZ (by omega)]; exact zZ (by omega)
  have g2:gB1 cnx hnx enx (w,t.1,e,vJJ .i64 (vJJ .i64 ((js i).hi - (js i).lo) + 1))=true:=qQQ ⟨hv,hw,by omega,by omega⟩;simp only [vJQ (show (i:Int) < (n:Int) by omega),kX hi,toN,g2,qQQ (C:=cnx) (t:=(w,mA w t.1 1,e,5)) ⟨kQ hv 1,hw,by decide,by decide⟩,qQQ (C:=cnx) (t:=(w,mA w t.1 2,e,3000)) ⟨kQ hv 2,hw,by decide,by decide⟩,qQQ (C:=cnx) (t:=(w,mA w t.1 2,e,200)) ⟨kQ hv 2,hw,by decide,by decide⟩,vJQ (show i + 1≤8796093022208 by omega),qZH (show i < 1000000 by omega),vYV];unfold bxN;cases (decide ((nxV e w (mA w t.1 1) 5)=0)) <;> cases (decide ((nxV e w (mA w t.1 1) 5)=1)) <;> cases (decide ((nxV e w (mA w t.1 1) 5)=2)) <;> cases (decide ((nxV e w (mA w t.1 1) 5)=3)) <;> rfl
 ·unfold bxN;cases (decide ((nxV e w (mA w t.1 1) 5)=0)) <;> cases (decide ((nxV e w (mA w t.1 1) 5)=1)) <;> cases (decide ((nxV e w (mA w t.1 1) 5)=2)) <;> cases (decide ((nxV e w (mA w t.1 1) 5)=3)) <;> exact kQ hv _
 ·refine (rdBx G K w e js ms n m n t.1 n t.2).trans ?_;rw [vYH (show ¬ (n:Int) < (n:Int) by omega)];rfl
noncomputable def bxF (w:Nat) (e:Nat→Int) (js:Nat→J) (ms:Nat→Ms) (n m:Nat):Nat→Iv:=fun v=>⟨(bxS w e js ms n m).2 v 0,(bxS w e js ms n m).2 v 1⟩
noncomputable def kYY (w:Nat) (e:Nat→Int) (js:Nat→J) (ms:Nat→Ms) (n m:Nat):List (List Nat × kV):=[([0,1,0,1,1,1],sumF (fun _:Unit=>(hBx w e js ms n m 0 0 0 (fun v k=>List.getD [0,0] k 0))) (fun _=>()) (fun _ K=>(bif gP (w≤9223372036854775807∧n≤50∧yYJ js n) then (K (.exit 0) ⟨[(6,.o 66)],[(66,.reg 62 2 (.fo n (fun v=>[.n .i64 ((bxS w e js ms n m).2 v 0),.n .i64 ((bxS w e js ms n m).2 v 1)])))]⟩) else none)))]
set_option maxRecDepth 100000 in
theorem pxbox (w:Nat) (e:Nat→Int) (js:Nat→J) (ms:Nat→Ms) (n m:Nat):qWH Tf (orBx w e js ms n m) (qX (kYY w e js ms n m)) 60 9 [.a [.lf n (fJ js),.lf m (fM ms)],.lf w (fQ e)] =
 (bif (gSt (hBx w e js ms n m 0 0 0 (fun v k=>List.getD [0,0] k 0)) (hBx w e js ms n m 0 0 0 (fun v k=>List.getD [0,0] k 0))) then (bif gP (w≤9223372036854775807∧n≤50∧yYJ js n) then some (.ow 62 2 (.fo n (fB (bxF w e js ms n m))),[])
 else none)
 else none):=by kernel_rfl
theorem snd_box (w:Nat) (e:Nat→Int) (js:Nat→J) (ms:Nat→Ms) (n m:Nat) (hw:w≤9223372036854775807) (hn:n≤50) (hj:yYJ js n):yH Tryz.prog 9 [.a [.lf n (fJ js),.lf m (fM ms)],.lf w (fQ e)] (.ow 62 2 (.fo n (fB (bxF w e js ms n m)))):=by
 refine yU (N:=60) (LO:=qX (kYY w e js ms n m)) qQV yJ (qQH (l:=[]) (m:=[(30,o_nx)]) trivial ⟨jWH,trivial⟩) (fun p S hp => ?_) ?_
 ·refine yY (L:=qQ Tf 9) (l:=(kYY w e js ms n m)) (show AllP _ (kYY w e js ms n m) from ⟨?_,trivial⟩) p S hp
  ·dsimp only;refine qQU (T:=Tf) (o:=(orBx w e js ms n m)) (f:=9) (LO:=qX []) (p:=[0,1,0,1,1,1]) qZY ?_;intro t K r hr;obtain ⟨hg,hr⟩:=qY hr
   skip
   exact (lpBx K w e js ms n m (qKV hg).1 (qKV hg).2.1 (qKV hg).2.2).trans hr
 ·refine (pxbox w e js ms n m).trans ?_;simp only [jK,yHK (show w≤9223372036854775807∧n≤50∧yYJ js n from ⟨hw,hn,hj⟩),vYV]
  all_goals rfl
end Go.Proofs.YtgmbkkkbfbocnaaGreat.Gm
namespace Go.Proofs.YtgmbkkkbfbocnaaGreat.Gn
open Go.Rx Rt Go.Sx Go.RowKit Od Na Nb Nc Nx Nf Ga Gb Gc Gd Ge Gf Gg Sn So Sq Gm
noncomputable def orPt (w m:Nat) (e:Nat→Int) (z:Z3):OrS:=orS [] [(30,o_nx)]
noncomputable def hPt (w m:Nat) (e:Nat→Int) (z:Z3) (k:Int) (m2:Nat) (r:Nat) (q:Nat→Nat→Int):St:=⟨[(0,.p 1000000 0),(3,.p 3 0),(5,.o 8),(6,.v (.n .i64 k))],[(1000000,.blk [.v (.lf w (fQ e)),.v (.n .i64 (m2:Int))]),(3,.blk [.v (.n .i64 z.x),.v (.n .i64 z.y),.v (.n .i64 z.z)]),(8,.reg 58 3 (.fo r (fun v=>[.n .i64 (q v 0),.n .i64 (q v 1),.n .i64 (q v 2)])))]⟩
set_option maxRecDepth 100000 in
theorem rdPt (G:St→Option (Ret × Mem)) (K:Cont) (w m:Nat) (e:Nat→Int) (z:Z3) (k:Int) (m2:Nat) (r:Nat) (q:Nat→Nat→Int):uX 60 (cxS Tf (orPt w m e z) 60 31 (ntmF Tf 31)) (evX Tf (orPt w m e z) 60 31 (ntmF Tf 31)) (qX []) (qQ Tf 31 [0,1,0,1,1]) [0,1,0,1,1] (Tf.hint 31 (qG (qQ Tf 31 [0,1,0,1,1]))) K G (hPt w m e z k m2 r q) =
 (bif (decide (0 < k)) then (bif (gB1 cnx hnx enx (w,m2,e,7)) then (bif (gB1 cnx hnx enx (w,(mA w m2 1),e,5)) then (bif (gB1 cnx hnx enx (w,(mA w m2 2),e,5)) then (bif (decide (r + 1≤1000000)) then (G (hPt w m e z (vJJ .i64 (k - 1)) (mA w m2 3) (r + 1) (fun v k=>List.getD [(bif (Nat.beq v r) then (vJJ .i64 (z.x + (vJJ .i64 ((vJJ .i64 ((nxV e w m2 7) - 3)) * 32768)))) else (q v 0)),(bif (Nat.beq v r) then (vJJ .i64 (z.y + (vJJ .i64 ((vJJ .i64 ((nxV e w (mA w m2 1) 5) - 2)) * 32768)))) else (q v 1)),(bif (Nat.beq v r) then (vJJ .i64 (z.z + (vJJ .i64 ((vJJ .i64 ((nxV e w (mA w m2 2) 5) - 2)) * 32768)))) else (q v 2))] k 0)))
 else none)
 else none)
 else none)
 else none)
 else (K (.exit 0) ⟨[(5,.o 8)],[(1000000,.blk [.v (.lf w (fQ e)),.v (.n .i64 (m2:Int))]),(8,.reg 58 3 (.fo r (fun v=>[.n .i64 (q v 0),.n .i64 (q v 1),.n .i64 (q v 2)])))]⟩)):=by kernel_rfl
def ptN (w:Nat) (e:Nat→Int) (z:Z3) (i:Nat) (t:Nat × (Nat→Nat→Int)):Nat × (Nat→Nat→Int) :=
 ((mA w t.1 3),(fun v k=>List.getD [(bif (Nat.beq v (i + 1)) then (vJJ .i64 (z.x + (vJJ .i64 ((vJJ .i64 ((nxV e w t.1 7) - 3)) * 32768)))) else (t.2 v 0)),(bif (Nat.beq v (i + 1)) then (vJJ .i64 (z.y + (vJJ .i64 ((vJJ .i64 ((nxV e w (mA w t.1 1) 5) - 2)) * 32768)))) else (t.2 v 1)),(bif (Nat.beq v (i + 1)) then (vJJ .i64 (z.z + (vJJ .i64 ((vJJ .i64 ((nxV e w (mA w t.1 2) 5) - 2)) * 32768)))) else (t.2 v 2))] k 0))
def ptS (w m:Nat) (e:Nat→Int) (z:Z3):Nat × (Nat→Nat→Int):=jZ (ptN w e z) (nxV e w m 4).toNat 0 (mA w m 1,(fun v k=>List.getD [z.x,z.y,z.z] k 0))
theorem lpPt (K:Cont) (w m:Nat) (e:Nat→Int) (z:Z3) (hm:m≤w) (hw:w≤9223372036854775807):LFX 60 (cxS Tf (orPt w m e z) 60 31 (ntmF Tf 31)) (evX Tf (orPt w m e z) 60 31 (ntmF Tf 31)) (qX []) (qQ Tf 31 [0,1,0,1,1]) [0,1,0,1,1] (Tf.hint 31 (qG (qQ Tf 31 [0,1,0,1,1]))) K 60 (hPt w m e z (nxV e w m 4) (mA w m 1) 1 (fun v k=>List.getD [z.x,z.y,z.z] k 0))=(K (.exit 0) ⟨[(5,.o 8)],[(1000000,.blk [.v (.lf w (fQ e)),.v (.n .i64 ((ptS w m e z).1:Int))]),(8,.reg 58 3 (.fo ((nxV e w m 4).toNat + 1) (fun v=>[.n .i64 ((ptS w m e z).2 v 0),.n .i64 ((ptS w m e z).2 v 1),.n .i64 ((ptS w m e z).2 v 2)])))]⟩):=by
 have hk:=qWQ (e:=e) (w:=w) (m:=m) (k:=4) (by decide);refine (congrArg (LFX 60 (cxS Tf (orPt w m e z) 60 31 (ntmF Tf 31)) (evX Tf (orPt w m e z) 60 31 (ntmF Tf 31)) (qX []) (qQ Tf 31 [0,1,0,1,1]) [0,1,0,1,1] (Tf.hint 31 (qG (qQ Tf 31 [0,1,0,1,1]))) K 60) (show (hPt w m e z (nxV e w m 4) (mA w m 1) 1 (fun v k=>List.getD [z.x,z.y,z.z] k 0))=hPt w m e z ((nxV e w m 4) - ((0:Nat):Int)) (mA w m 1) (0 + 1) (fun v k=>List.getD [z.x,z.y,z.z] k 0) from by rw [show (nxV e w m 4) - ((0:Nat):Int)=(nxV e w m 4) by omega])).trans ?_;refine (qJU (L:=LFX 60 (cxS Tf (orPt w m e z) 60 31 (ntmF Tf 31)) (evX Tf (orPt w m e z) 60 31 (ntmF Tf 31)) (qX []) (qQ Tf 31 [0,1,0,1,1]) [0,1,0,1,1] (Tf.hint 31 (qG (qQ Tf 31 [0,1,0,1,1]))) K) (stp:=uX 60 (cxS Tf (orPt w m e z) 60 31 (ntmF Tf 31)) (evX Tf (orPt w m e z) 60 31 (ntmF Tf 31)) (qX []) (qQ Tf 31 [0,1,0,1,1]) [0,1,0,1,1] (Tf.hint 31 (qG (qQ Tf 31 [0,1,0,1,1]))) K) (fun _ _=>rfl) (fun (i:Nat) (t:Nat × (Nat→Nat→Int))=>hPt w m e z ((nxV e w m 4) - (i:Int)) t.1 (i + 1) t.2) (fun i t=>t.1≤w) (fun _ _=>true) (ptN w e z) (c:=(nxV e w m 4).toNat) (fun t=>(K (.exit 0) ⟨[(5,.o 8)],[(1000000,.blk [.v (.lf w (fQ e)),.v (.n .i64 (t.1:Int))]),(8,.reg 58 3 (.fo ((nxV e w m 4).toNat + 1) (fun v=>[.n .i64 (t.2 v 0),.n .i64 (t.2 v 1),.n .i64 (t.2 v 2)])))]⟩)) (fun _ _=>none) (fun G i t hi hv => ?_) (fun i t hi hv _ => ?_) (fun G t hv => ?_) (nxV e w m 4).toNat 0 60 (mA w m 1,(fun v k=>List.getD [z.x,z.y,z.z] k 0)) (by omega) (by omega) (kQ hm 1)).trans (qYQ (nxV e w m 4).toNat 0 _)
 ·refine (rdPt G K w m e z ((nxV e w m 4) - (i:Int)) t.1 (i + 1) t.2).trans ?_;simp only [vJQ (show 0 < (nxV e w m 4) - (i:Int) by omega),qQQ (C:=cnx) (t:=(w,t.1,e,7)) ⟨hv,hw,by decide,by decide⟩,qQQ (C:=cnx) (t:=(w,mA w t.1 1,e,5)) ⟨kQ hv 1,hw,by decide,by decide⟩,qQQ (C:=cnx) (t:=(w,mA w t.1 2,e,5)) ⟨kQ hv 2,hw,by decide,by decide⟩,vJQ (show i + 1 + 1≤1000000 by omega),show vJJ .i64 ((nxV e w m 4) - (i:Int) - 1)=(nxV e w m 4) - ((i + 1:Nat):Int) from by rw [show (nxV e w m 4) - (i:Int) - 1=(nxV e w m 4) - ((i + 1:Nat):Int) by omega]; exact zZ (by omega),vYV];rfl
 ·exact kQ hv 3
 ·refine (rdPt G K w m e z ((nxV e w m 4) - (((nxV e w m 4).toNat:Nat):Int)) t.1 ((nxV e w m 4).toNat + 1) t.2).trans ?_;rw [vYH (show ¬ 0 < (nxV e w m 4) - (((nxV e w m 4).toNat:Nat):Int) by omega)];rfl
def ptQ (w m:Nat) (e:Nat→Int) (z:Z3):Nat→Z3:=fun v=>⟨(ptS w m e z).2 v 0,(ptS w m e z).2 v 1,(ptS w m e z).2 v 2⟩
noncomputable def kZU (w m:Nat) (e:Nat→Int) (z:Z3):List (List Nat × kV):=[([0,1,0,1,1],sumF (fun _:Unit=>(hPt w m e z (nxV e w m 4) (mA w m 1) 1 (fun v k=>List.getD [z.x,z.y,z.z] k 0))) (fun _=>()) (fun _ K=>(bif gP (m≤w∧w≤9223372036854775807) then (K (.exit 0) ⟨[(5,.o 8)],[(1000000,.blk [.v (.lf w (fQ e)),.v (.n .i64 ((ptS w m e z).1:Int))]),(8,.reg 58 3 (.fo ((nxV e w m 4).toNat + 1) (fun v=>[.n .i64 ((ptS w m e z).2 v 0),.n .i64 ((ptS w m e z).2 v 1),.n .i64 ((ptS w m e z).2 v 2)])))]⟩) else none)))]
set_option maxRecDepth 100000 in
theorem pxpts (w m:Nat) (e:Nat→Int) (z:Z3):jXJ Tf (orPt w m e z) (qX (kZU w m e z)) 60 31 [.p 1000000 0,.v (.a [.n .i64 z.x,.n .i64 z.y,.n .i64 z.z])] [.lf w (fQ e),.n .i64 (m:Int)] =
 (bif (gB1 cnx hnx enx (w,m,e,4)) then (bif (gSt (hPt w m e z (nxV e w m 4) (mA w m 1) 1 (fun v k=>List.getD [z.x,z.y,z.z] k 0)) (hPt w m e z (nxV e w m 4) (mA w m 1) 1 (fun v k=>List.getD [z.x,z.y,z.z] k 0))) then (bif gP (m≤w∧w≤9223372036854775807) then some (.v (.t [.lf ((nxV e w m 4).toNat + 1) (fZ (ptQ w m e z)),.lf w (fQ e),.n .i64 (((ptS w m e z).1:Nat):Int)]),[])
 else none)
 else none)
 else none):=by kernel_rfl
theorem snd_pts (w m:Nat) (e:Nat→Int) (z:Z3) (hm:m≤w) (hw:w≤9223372036854775807):zZJ Tryz.prog 31 [.p 1000000 0,.v (.a [.n .i64 z.x,.n .i64 z.y,.n .i64 z.z])] [.lf w (fQ e),.n .i64 (m:Int)] (.lf ((nxV e w m 4).toNat + 1) (fZ (ptQ w m e z))) ([.lf w (fQ e),.n .i64 (((ptS w m e z).1:Nat):Int)]):=by
 refine qHJ (N:=60) (LO:=qX (kZU w m e z)) qQV yJ (qQH (l:=[]) (m:=[(30,o_nx)]) trivial ⟨jWH,trivial⟩) (fun p S hp => ?_) ?_
 ·refine yY (L:=qQ Tf 31) (l:=(kZU w m e z)) (show AllP _ (kZU w m e z) from ⟨?_,trivial⟩) p S hp
  ·dsimp only;refine qQU (T:=Tf) (o:=(orPt w m e z)) (f:=31) (LO:=qX []) (p:=[0,1,0,1,1]) qZY ?_;intro t K r hr;obtain ⟨hg,hr⟩:=qY hr
   skip
   exact (lpPt K w m e z (qKV hg).1 (qKV hg).2).trans hr
 ·refine (pxpts w m e z).trans ?_;simp only [qQQ (C:=cnx) (t:=(w,m,e,4)) ⟨hm,hw,by decide,by decide⟩,jK,yHK (show m≤w∧w≤9223372036854775807 from ⟨hm,hw⟩),vYV]
  all_goals rfl
theorem ptS_le (w m:Nat) (e:Nat→Int) (z:Z3) (hm:m≤w):(ptS w m e z).1≤w:=by
 have hk:=qWQ (e:=e) (w:=w) (m:=m) (k:=4) (by decide);exact qKJ (Q:=fun (_:Nat) (t:Nat × (Nat→Nat→Int))=>t.1≤w) (c:=(nxV e w m 4).toNat) (fun i t hi h=>kQ h 3) (nxV e w m 4).toNat 0 _ (by omega) (kQ hm 1)
def cpt:Nat × Nat × (Nat→Int) × Z3→Prop:=fun t=>match t with | (w,m,e,z)=>m≤w∧w≤9223372036854775807
def hpt:Nat × Nat × (Nat→Int) × Z3→List HV:=fun t=>match t with | (w,m,e,z)=>[.p pid 0,.v (.a (zP z))]
def ept:Nat × Nat × (Nat→Int) × Z3→List PV:=fun t=>match t with | (w,m,e,z)=>[.lf w (fQ e),.n .i64 (m:Int)]
noncomputable def xpt:Nat × Nat × (Nat→Int) × Z3→PV:=fun t=>match t with | (w,m,e,z)=>.lf ((nxV e w m 4).toNat + 1) (fZ (ptQ w m e z))
noncomputable def qpt:Nat × Nat × (Nat→Int) × Z3→List PV:=fun t=>match t with | (w,m,e,z)=>[.lf w (fQ e),.n .i64 (((ptS w m e z).1:Nat):Int)]
def dpt:List HV→List PV→Nat × Nat × (Nat→Int) × Z3:=fun hs ps=>match hs,ps with
 | [_,.v (.a r)],[.lf w f,.n _ c]=>(w,c.toNat,unFQ f,unZ r)
 | _,_=>(0,0,fun _=>0,⟨0,0,0⟩)
noncomputable def o_pt:List HV→List PV→Option (Bool × (PV × List PV)):=o_fb dpt cpt hpt ept xpt qpt
theorem ok_pt:yKW Tryz.prog 31 o_pt:=kQW fun t h=>by
 obtain ⟨w,m,e,z⟩:=t;exact snd_pts w m e z h.1 h.2
end Go.Proofs.YtgmbkkkbfbocnaaGreat.Gn

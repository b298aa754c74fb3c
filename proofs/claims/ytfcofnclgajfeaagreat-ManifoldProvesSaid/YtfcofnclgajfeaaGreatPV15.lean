/- Part 15 of the texts behind the last one: rules and contracts. No condition. -/
import Derived.Test.YtfcofnclgajfeaaGreatPV14
open Option.some renaming injEq → vQZ
open Prod.mk renaming injEq → vQY
open List renaming getElem?_take → vZV, getD_eq_getElem?_getD → vZG
open Go.IntKind renaming wrap → vJJ
namespace Go.Proofs.YtfcofnclgajfeaaGreat.Sr
open Go.Rx Rt Go.Sx Go.RowKit Od Nb Oe Na Nc Nd Pa Sn So Sq
theorem snd_nrm (a b c:Int):yZ Tryz.prog 24 [.n .i64 a,.n .i64 b,.n .i64 c] (.v (.a (z3C (nrm a b c)))):=qX yY yQ (OrL.ok yWE) (sp_mNormal a b c)
def cnr:Int × Int × Int→Prop:=fun _=>True
noncomputable def o_nr:List PV→Option (Bool × Ret):=o_fm (fun ps=>match ps with | [.n _ a,.n _ b,.n _ c]=>(a,b,c) | _=>(0,0,0)) cnr (fun t=>[.n .i64 t.1,.n .i64 t.2.1,.n .i64 t.2.2]) (fun t=>.v (.a [.n .i64 (nrm t.1 t.2.1 t.2.2).x,.n .i64 (nrm t.1 t.2.1 t.2.2).y,.n .i64 (nrm t.1 t.2.1 t.2.2).z]))
theorem ok_nr:zY Tryz.prog 24 o_nr:=zUE fun t _=>snd_nrm t.1 t.2.1 t.2.2
noncomputable def gnr (a b c:Int):Bool:=gF1 cnr (fun t=>[.n .i64 t.1,.n .i64 t.2.1,.n .i64 t.2.2]) (a,b,c)
theorem gnr_t (a b c:Int):gnr a b c=true:=qHX trivial
noncomputable def orCs (w:Nat) (e:Nat→Int) (_:Nat→J) (_:Nat→Ms) (n m:Nat) (j:Nat):OrS:=orS [(24,o_nr)] [(20,o_nx)]
noncomputable def hCs (w:Nat) (e:Nat→Int) (js:Nat→J) (ms:Nat→Ms) (n m:Nat) (j:Nat) (i:Int) (m2:Nat) (r:Nat) (f:Nat→List PV):St:=⟨[(1,.v (.n .i64 i)),(3,.p 3 0),(7,.p 11 0),(8,.o 64)],[(3,.blk [.v (.lf n (fJ js)),.v (.lf m (fM ms))]),(11,.blk [.v (.lf w (fQ e)),.v (.n .i64 (m2:Int))]),(64,.reg 45 10 (.fo r f))]⟩
set_option maxRecDepth 100000 in
theorem rdCs (G:St→Option (Ret × Mem)) (K:Cont) (w:Nat) (e:Nat→Int) (js:Nat→J) (ms:Nat→Ms) (n m:Nat) (j:Nat) (i:Int) (m2:Nat) (r:Nat) (f:Nat→List PV):stpT Tf 11 (orCs w e js ms n m j) 60 [] [0,0,1,1,1] K G (hCs w e js ms n m j i m2 r f) =
 (bif (decide (0 < i)) then (bif (gB1 cnx hnx enx (w,m2,e,2)) then (bif (gB1 cnx hnx enx (w,(mA w m2 1),e,(n:Int))) then (bif (gB1 cnx hnx enx (w,(mA w m2 2),e,9)) then (bif (gB1 cnx hnx enx (w,(mA w m2 3),e,5)) then (bif (gB1 cnx hnx enx (w,(mA w m2 4),e,5)) then (bif (gB1 cnx hnx enx (w,(mA w m2 5),e,4096)) then (bif (gB1 cnx hnx enx (w,(mA w m2 6),e,4096)) then (bif (gB1 cnx hnx enx (w,(mA w m2 7),e,4096)) then (bif (gnr (nxV e w (mA w m2 5) 4096) (nxV e w (mA w m2 6) 4096) (nxV e w (mA w m2 7) 4096)) then (bif (gB1 cnx hnx enx (w,(mA w m2 8),e,121)) then (bif (gB1 cnx hnx enx (w,(mA w m2 9),e,90)) then (bif (gB1 cnx hnx enx (w,(mA w m2 10),e,24)) then (bif (decide ((nxV e w (mA w m2 10) 24)=1)) then (bif (gB1 cnx hnx enx (w,(mA w m2 11),e,9)) then (bif (decide (r + 1≤1000000)) then (G (hCs w e js ms n m j (vJJ .i64 (i - 1)) (mA w m2 12) (r + 1) (fun v=>jH (Nat.beq v r) [.n .i64 (nxV e w m2 2),.n .i64 (vJJ .i64 ((nxV e w (mA w m2 11) 9) - 3)),.n .i64 (vJJ .i64 ((vJJ .i64 ((vJJ .i64 ((nxV e w (mA w m2 2) 9) - 4)) * 65536)).tdiv 2)),.n .i64 (vJJ .i64 ((vJJ .i64 ((nxV e w (mA w m2 3) 5) - 2)) * 65536)),.n .i64 (vJJ .i64 ((vJJ .i64 ((vJJ .i64 ((nxV e w (mA w m2 4) 5) - 2)) * 65536)).tdiv 2)),.n .i64 (nrm (nxV e w (mA w m2 5) 4096) (nxV e w (mA w m2 6) 4096) (nxV e w (mA w m2 7) 4096)).x,.n .i64 (nrm (nxV e w (mA w m2 5) 4096) (nxV e w (mA w m2 6) 4096) (nxV e w (mA w m2 7) 4096)).y,.n .i64 (nrm (nxV e w (mA w m2 5) 4096) (nxV e w (mA w m2 6) 4096) (nxV e w (mA w m2 7) 4096)).z,.n .i64 (vJJ .i64 ((vJJ .i64 ((nxV e w (mA w m2 8) 121) - 60)) * 65536)),.n .i64 (vJJ .i64 ((vJJ .i64 ((vJJ .i64 ((nxV e w (mA w m2 8) 121) - 60)) * 65536)) + (vJJ .i64 ((nxV e w (mA w m2 9) 90) * 65536))))] (f v))))
 else none)
 else none)
 else (bif (decide (r + 1≤1000000)) then (G (hCs w e js ms n m j (vJJ .i64 (i - 1)) (mA w m2 11) (r + 1) (fun v=>jH (Nat.beq v r) [.n .i64 (nxV e w m2 2),.n .i64 (nxV e w (mA w m2 1) (n:Int)),.n .i64 (vJJ .i64 ((vJJ .i64 ((vJJ .i64 ((nxV e w (mA w m2 2) 9) - 4)) * 65536)).tdiv 2)),.n .i64 (vJJ .i64 ((vJJ .i64 ((nxV e w (mA w m2 3) 5) - 2)) * 65536)),.n .i64 (vJJ .i64 ((vJJ .i64 ((vJJ .i64 ((nxV e w (mA w m2 4) 5) - 2)) * 65536)).tdiv 2)),.n .i64 (nrm (nxV e w (mA w m2 5) 4096) (nxV e w (mA w m2 6) 4096) (nxV e w (mA w m2 7) 4096)).x,.n .i64 (nrm (nxV e w (mA w m2 5) 4096) (nxV e w (mA w m2 6) 4096) (nxV e w (mA w m2 7) 4096)).y,.n .i64 (nrm (nxV e w (mA w m2 5) 4096) (nxV e w (mA w m2 6) 4096) (nxV e w (mA w m2 7) 4096)).z,.n .i64 (vJJ .i64 ((vJJ .i64 ((nxV e w (mA w m2 8) 121) - 60)) * 65536)),.n .i64 (vJJ .i64 ((vJJ .i64 ((vJJ .i64 ((nxV e w (mA w m2 8) 121) - 60)) * 65536)) + (vJJ .i64 ((nxV e w (mA w m2 9) 90) * 65536))))] (f v))))
 else none))
 else none)
 else none)
 else none)
 else none)
 else none)
 else none)
 else none)
 else none)
 else none)
 else none)
 else none)
 else none)
 else (K (.exit 0) ⟨[(8,.o 64)],[(64,.reg 45 10 (.fo r f))]⟩)):=by kernel_rfl
noncomputable def cnQ (w:Nat) (e:Nat→Int) (n m2:Nat):Cn × Nat:=(bif (decide ((nxV e w (mA w m2 10) 24)=1)) then (⟨(nxV e w m2 2),(vJJ .i64 ((nxV e w (mA w m2 11) 9) - 3)),⟨(vJJ .i64 ((vJJ .i64 ((vJJ .i64 ((nxV e w (mA w m2 2) 9) - 4)) * 65536)).tdiv 2)),(vJJ .i64 ((vJJ .i64 ((nxV e w (mA w m2 3) 5) - 2)) * 65536)),(vJJ .i64 ((vJJ .i64 ((vJJ .i64 ((nxV e w (mA w m2 4) 5) - 2)) * 65536)).tdiv 2))⟩,⟨(nrm (nxV e w (mA w m2 5) 4096) (nxV e w (mA w m2 6) 4096) (nxV e w (mA w m2 7) 4096)).x,(nrm (nxV e w (mA w m2 5) 4096) (nxV e w (mA w m2 6) 4096) (nxV e w (mA w m2 7) 4096)).y,(nrm (nxV e w (mA w m2 5) 4096) (nxV e w (mA w m2 6) 4096) (nxV e w (mA w m2 7) 4096)).z⟩,(vJJ .i64 ((vJJ .i64 ((nxV e w (mA w m2 8) 121) - 60)) * 65536)),(vJJ .i64 ((vJJ .i64 ((vJJ .i64 ((nxV e w (mA w m2 8) 121) - 60)) * 65536)) + (vJJ .i64 ((nxV e w (mA w m2 9) 90) * 65536))))⟩,(mA w m2 12)) else (⟨(nxV e w m2 2),(nxV e w (mA w m2 1) (n:Int)),⟨(vJJ .i64 ((vJJ .i64 ((vJJ .i64 ((nxV e w (mA w m2 2) 9) - 4)) * 65536)).tdiv 2)),(vJJ .i64 ((vJJ .i64 ((nxV e w (mA w m2 3) 5) - 2)) * 65536)),(vJJ .i64 ((vJJ .i64 ((vJJ .i64 ((nxV e w (mA w m2 4) 5) - 2)) * 65536)).tdiv 2))⟩,⟨(nrm (nxV e w (mA w m2 5) 4096) (nxV e w (mA w m2 6) 4096) (nxV e w (mA w m2 7) 4096)).x,(nrm (nxV e w (mA w m2 5) 4096) (nxV e w (mA w m2 6) 4096) (nxV e w (mA w m2 7) 4096)).y,(nrm (nxV e w (mA w m2 5) 4096) (nxV e w (mA w m2 6) 4096) (nxV e w (mA w m2 7) 4096)).z⟩,(vJJ .i64 ((vJJ .i64 ((nxV e w (mA w m2 8) 121) - 60)) * 65536)),(vJJ .i64 ((vJJ .i64 ((vJJ .i64 ((nxV e w (mA w m2 8) 121) - 60)) * 65536)) + (vJJ .i64 ((nxV e w (mA w m2 9) 90) * 65536))))⟩,(mA w m2 11)))
noncomputable def csS (w:Nat) (e:Nat→Int) (n:Nat):Nat→Nat→Nat→(Nat→List PV)→Nat→List PV
 | 0,_,_,f=>f
 | p + 1,m2,r,f=>csS w e n p (cnQ w e n m2).2 (r + 1) (fun v=>jH (Nat.beq v r) (cp (cnQ w e n m2).1) (f v))
theorem csS_ex (w:Nat) (e:Nat→Int) (n:Nat):∀ (p m2 r:Nat) (f:Nat→List PV) (c0:Nat→Cn),(∀ v,v < r→f v=cp (c0 v))→∃ cs:Nat→Cn,∀ v,v < r + p→csS w e n p m2 r f v=cp (cs v)
 | 0,_,r,f,c0,h=>⟨c0,h⟩
 | p + 1,m2,r,f,c0,h=>by
  obtain ⟨cs,hc⟩:=csS_ex w e n p (cnQ w e n m2).2 (r + 1) (fun v=>jH (Nat.beq v r) (cp (cnQ w e n m2).1) (f v)) (fun v=>if v=r then (cnQ w e n m2).1 else c0 v) fun v hv=>by
   show jH _ _ _=_;rw [uZ,qWE];by_cases q:v=r
   ·rw [vJQ q,if_pos q]; rfl
   ·rw [vYH q,if_neg q]; exact h v (by omega)
  exact ⟨cs,fun v hv=>hc v (by omega)⟩
theorem cnQ_le {w:Nat} {e:Nat→Int} {n m2:Nat} (hm:m2≤w):(cnQ w e n m2).2≤w:=by
 unfold cnQ;cases decide ((nxV e w (mA w m2 10) 24)=1)
 ·exact kG hm _
 ·exact kG hm _
theorem lpCs (K:Cont) (w:Nat) (e:Nat→Int) (js:Nat→J) (ms:Nat→Ms) (n m:Nat) (j:Nat) (hw:w≤9223372036854775807) (hn:1≤n∧n≤50):∀ (q p m2 r:Nat) (f:Nat→List PV),p < q→p≤50→r + p≤1000→m2≤w→LFT Tf 11 (orCs w e js ms n m j) 60 [] [0,0,1,1,1] K q (hCs w e js ms n m j (p:Int) m2 r f)=(K (.exit 0) ⟨[(8,.o 64)],[(64,.reg 45 10 (.fo (r + p) (csS w e n p m2 r f)))]⟩)
 | 0,p,m2,r,f,h,_,_,_=>absurd h (by omega)
 | q + 1,0,m2,r,f,_,_,_,hm=>by
  refine (rdCs (LFT Tf 11 (orCs w e js ms n m j) 60 [] [0,0,1,1,1] K q) K w e js ms n m j ((0:Nat):Int) m2 r f).trans ?_;rw [vYH (show ¬ (0:Int) < ((0:Nat):Int) by omega)];rfl
 | q + 1,p + 1,m2,r,f,hp,h5,hr,hm=>by
  refine (rdCs (LFT Tf 11 (orCs w e js ms n m j) 60 [] [0,0,1,1,1] K q) K w e js ms n m j ((p + 1:Nat):Int) m2 r f).trans ?_;have wr:vJJ .i64 (((p + 1:Nat):Int) - 1)=(p:Int):=by rw [qG (by omega)]; omega
  simp only [vJQ (show (0:Int) < ((p + 1:Nat):Int) by omega),wr,gnr_t,vJQ (show r + 1≤1000000 by omega),qQB (C:=cnx) (t:=(w,m2,e,2)) ⟨hm,hw,by omega,by omega⟩,qQB (C:=cnx) (t:=(w,(mA w m2 1),e,(n:Int))) ⟨kG hm 1,hw,by omega,by omega⟩,qQB (C:=cnx) (t:=(w,(mA w m2 2),e,9)) ⟨kG hm 2,hw,by omega,by omega⟩,qQB (C:=cnx) (t:=(w,(mA w m2 3),e,5)) ⟨kG hm 3,hw,by omega,by omega⟩,qQB (C:=cnx) (t:=(w,(mA w m2 4),e,5)) ⟨kG hm 4,hw,by omega,by omega⟩,qQB (C:=cnx) (t:=(w,(mA w m2 5),e,4096)) ⟨kG hm 5,hw,by omega,by omega⟩,qQB (C:=cnx) (t:=(w,(mA w m2 6),e,4096)) ⟨kG hm 6,hw,by omega,by omega⟩,qQB (C:=cnx) (t:=(w,(mA w m2 7),e,4096)) ⟨kG hm 7,hw,by omega,by omega⟩,qQB (C:=cnx) (t:=(w,(mA w m2 8),e,121)) ⟨kG hm 8,hw,by omega,by omega⟩,qQB (C:=cnx) (t:=(w,(mA w m2 9),e,90)) ⟨kG hm 9,hw,by omega,by omega⟩,qQB (C:=cnx) (t:=(w,(mA w m2 10),e,24)) ⟨kG hm 10,hw,by omega,by omega⟩,qQB (C:=cnx) (t:=(w,(mA w m2 11),e,9)) ⟨kG hm 11,hw,by omega,by omega⟩,vYV];have ih:=lpCs K w e js ms n m j hw hn q p (cnQ w e n m2).2 (r + 1) (fun v=>jH (Nat.beq v r) (cp (cnQ w e n m2).1) (f v)) (by omega) (by omega) (by omega) (cnQ_le hm);rw [show r + 1 + p=r + (p + 1) by omega] at ih;refine Eq.trans ?_ ih;unfold cnQ;cases decide ((nxV e w (mA w m2 10) 24)=1) with
  | false=>rfl
  | true=>rfl
theorem lqCs (K:Cont) (w:Nat) (e:Nat→Int) (js:Nat→J) (ms:Nat→Ms) (n m:Nat) (j:Nat) (hw:w≤9223372036854775807) (hn:1≤n∧n≤50) (hj:j≤50):LFT Tf 11 (orCs w e js ms n m j) 60 [] [0,0,1,1,1] K 60 (hCs w e js ms n m j (j:Int) 0 0 (fun _=>[.n .i64 0,.n .i64 0,.n .i64 0,.n .i64 0,.n .i64 0,.n .i64 0,.n .i64 0,.n .i64 0,.n .i64 0,.n .i64 0]))=(K (.exit 0) ⟨[(8,.o 64)],[(64,.reg 45 10 (.fo j (csS w e n j 0 0 (fun _=>[.n .i64 0,.n .i64 0,.n .i64 0,.n .i64 0,.n .i64 0,.n .i64 0,.n .i64 0,.n .i64 0,.n .i64 0,.n .i64 0]))))]⟩):=by
 have h:=lpCs K w e js ms n m j hw hn 60 j 0 0 (fun _=>[.n .i64 0,.n .i64 0,.n .i64 0,.n .i64 0,.n .i64 0,.n .i64 0,.n .i64 0,.n .i64 0,.n .i64 0,.n .i64 0]) (by omega) hj (by omega) (Nat.zero_le _);rw [Nat.zero_add] at h;exact h
noncomputable def yVL (w:Nat) (e:Nat→Int) (js:Nat→J) (ms:Nat→Ms) (n m:Nat) (j:Nat):List (List Nat × uU):=[([0,0,1,1,1],sumF (fun _:Unit=>(hCs w e js ms n m j (j:Int) 0 0 (fun _=>[.n .i64 0,.n .i64 0,.n .i64 0,.n .i64 0,.n .i64 0,.n .i64 0,.n .i64 0,.n .i64 0,.n .i64 0,.n .i64 0]))) (fun _=>()) (fun _ K=>(bif gP (w≤9223372036854775807∧(1≤n∧n≤50)∧j≤50) then (K (.exit 0) ⟨[(8,.o 64)],[(64,.reg 45 10 (.fo j (csS w e n j 0 0 (fun _=>[.n .i64 0,.n .i64 0,.n .i64 0,.n .i64 0,.n .i64 0,.n .i64 0,.n .i64 0,.n .i64 0,.n .i64 0,.n .i64 0]))))]⟩) else none)))]
set_option maxRecDepth 100000 in
theorem pxcs0 (w:Nat) (e:Nat→Int) (js:Nat→J) (ms:Nat→Ms) (n m:Nat) (j:Nat):qXJ Tf (orCs w e js ms n m j) (zW (yVL w e js ms n m j)) 60 11 [.a [.lf n (fJ js),.lf m (fM ms)],.n .i64 (j:Int),.lf w (fQ e)] =
 (bif (gSt (hCs w e js ms n m j (j:Int) 0 0 (fun _=>[.n .i64 0,.n .i64 0,.n .i64 0,.n .i64 0,.n .i64 0,.n .i64 0,.n .i64 0,.n .i64 0,.n .i64 0,.n .i64 0])) (hCs w e js ms n m j (j:Int) 0 0 (fun _=>[.n .i64 0,.n .i64 0,.n .i64 0,.n .i64 0,.n .i64 0,.n .i64 0,.n .i64 0,.n .i64 0,.n .i64 0,.n .i64 0]))) then (bif (gP (w≤9223372036854775807∧(1≤n∧n≤50)∧j≤50)) then some (.ow 45 10 (.fo j (csS w e n j 0 0 (fun _=>[.n .i64 0,.n .i64 0,.n .i64 0,.n .i64 0,.n .i64 0,.n .i64 0,.n .i64 0,.n .i64 0,.n .i64 0,.n .i64 0]))),[])
 else none)
 else none):=by kernel_rfl
theorem snd_cs0 (w:Nat) (e:Nat→Int) (js:Nat→J) (ms:Nat→Ms) (n m:Nat) (j:Nat) (hw:w≤9223372036854775807) (hn:1≤n∧n≤50) (hj:j≤50):yZ Tryz.prog 11 [.a [.lf n (fJ js),.lf m (fM ms)],.n .i64 (j:Int),.lf w (fQ e)] (.ow 45 10 (.fo j (csS w e n j 0 0 (fun _=>[.n .i64 0,.n .i64 0,.n .i64 0,.n .i64 0,.n .i64 0,.n .i64 0,.n .i64 0,.n .i64 0,.n .i64 0,.n .i64 0])))):=by
 refine jX (N:=60) (LO:=zW (yVL w e js ms n m j)) qZH yQ (qZC (l:=[(24,o_nr)]) (m:=[(20,o_nx)]) ⟨ok_nr,trivial⟩ ⟨yVK,trivial⟩) (fun p S hp => ?_) ?_
 ·refine jK (L:=qK Tf 11) (l:=(yVL w e js ms n m j)) (show AllP _ (yVL w e js ms n m j) from ⟨?_,trivial⟩) p S hp
  ·dsimp only;refine qVW (T:=Tf) (o:=(orCs w e js ms n m j)) (f:=11) (LO:=zW []) (p:=[0,0,1,1,1]) qVF ?_;intro t K r hr;obtain ⟨hg,hr⟩:=qQ hr
   skip
   exact (lqCs K w e js ms n m j (qYX hg).1 (qYX hg).2.1 (qYX hg).2.2).trans hr
 ·refine (pxcs0 w e js ms n m j).trans ?_;simp only [jG,yJZ (show w≤9223372036854775807∧(1≤n∧n≤50)∧j≤50 from ⟨hw,hn,hj⟩),vYV]
  all_goals rfl
theorem cons_ex (w:Nat) (e:Nat→Int) (js:Nat→J) (ms:Nat→Ms) (n m:Nat) (j:Nat) (hw:w≤9223372036854775807) (hn:1≤n∧n≤50) (hj:j≤50):∃ cs:Nat→Cn,yZ Tryz.prog 11 [.a [.lf n (fJ js),.lf m (fM ms)],.n .i64 (j:Int),.lf w (fQ e)] (.ow 45 10 (.fo j (fC cs))):=by
 obtain ⟨cs,hc⟩:=csS_ex w e n j 0 0 (fun _=>[.n .i64 0,.n .i64 0,.n .i64 0,.n .i64 0,.n .i64 0,.n .i64 0,.n .i64 0,.n .i64 0,.n .i64 0,.n .i64 0]) (fun _=>⟨0,0,⟨0,0,0⟩,⟨0,0,0⟩,0,0⟩) (fun v hv=>absurd hv (by omega));exact ⟨cs,snd_owF (fun v hv=>hc v (by omega)) (snd_cs0 w e js ms n m j hw hn hj)⟩
theorem yZV {P:Program} {fn e sz:Nat} {f:Nat→List PV} {n:Nat} {rows:List (List PV)} {ps:List PV} (h:rows=(List.range n).map f) (hs:yZ P fn ps (.ow e sz (.fo n f))):yZ P fn ps (.ow e sz (.l rows)):=by
 subst h;refine ⟨hs.1,fun w F vals hF hal=>(hs.2 w F vals hF hal).mono ?_⟩
 rintro en w' ⟨v,F',he,hg,f1,f2,ad,c,vr,h1,h2,h3,h4,h5,h6,h7⟩
 refine ⟨v,F',he,hg,f1,f2,ad,c,vr,?_,h2,h3,h4,h5,?_,h7⟩
 ·rw [h1]; simp [Rows.len]
 ·simpa [Rows.len] using h6
noncomputable def orwd0 (w:Nat) (e:Nat→Int) (js:Nat→J) (ms:Nat→Ms) (n m:Nat) (cs:Nat→Cn):OrS:=orS [(11,o_cr [.a [.lf n (fJ js),.lf m (fM ms)],.n .i64 0,.lf w (fQ e)] (.ow 45 10 (.l [])))] []
noncomputable def yVG (w:Nat) (e:Nat→Int) (_:Nat→J) (_:Nat→Ms) (n m:Nat) (cs:Nat→Cn):List (List Nat × uU):=[]
set_option maxRecDepth 100000 in
theorem pxwd0 (w:Nat) (e:Nat→Int) (js:Nat→J) (ms:Nat→Ms) (n m:Nat) (cs:Nat→Cn):qXJ Tf (orwd0 w e js ms n m cs) (zW (yVG w e js ms n m cs)) 60 12 [.a [.lf n (fJ js),.lf m (fM ms)],.n .i64 0,.lf w (fQ e)] =
 (bif (g1 [.a [.lf n (fJ js),.lf m (fM ms)],.n .i64 0,.lf w (fQ e)]) then some (.ow 45 10 (.l []),[])
 else none):=by kernel_rfl
theorem snd_wd0 (w:Nat) (e:Nat→Int) (js:Nat→J) (ms:Nat→Ms) (n m:Nat) (cs:Nat→Cn) (hc:yZ Tryz.prog 11 [.a [.lf n (fJ js),.lf m (fM ms)],.n .i64 0,.lf w (fQ e)] (.ow 45 10 (.l []))):yZ Tryz.prog 12 [.a [.lf n (fJ js),.lf m (fM ms)],.n .i64 0,.lf w (fQ e)] (.ow 45 10 (.l [])):=by
 refine jX (N:=60) (LO:=zW (yVG w e js ms n m cs)) qZH yQ (qZC (l:=[(11,o_cr [.a [.lf n (fJ js),.lf m (fM ms)],.n .i64 0,.lf w (fQ e)] (.ow 45 10 (.l [])))]) (m:=[]) ⟨qJZ hc,trivial⟩ trivial) (fun p S hp => ?_) ?_
 ·refine jK (L:=qK Tf 12) (l:=(yVG w e js ms n m cs)) (show AllP _ (yVG w e js ms n m cs) from trivial) p S hp
 ·refine (pxwd0 w e js ms n m cs).trans ?_;rw [g1_t];rfl
noncomputable def orwd1 (w:Nat) (e:Nat→Int) (js:Nat→J) (ms:Nat→Ms) (n m:Nat) (cs:Nat→Cn):OrS:=orS [(11,o_cr [.a [.lf n (fJ js),.lf m (fM ms)],.n .i64 1,.lf w (fQ e)] (.ow 45 10 (.l [cp (cs 0)])))] []
noncomputable def yVV (w:Nat) (e:Nat→Int) (_:Nat→J) (_:Nat→Ms) (n m:Nat) (cs:Nat→Cn):List (List Nat × uU):=[]
set_option maxRecDepth 100000 in
theorem pxwd1 (w:Nat) (e:Nat→Int) (js:Nat→J) (ms:Nat→Ms) (n m:Nat) (cs:Nat→Cn):qXJ Tf (orwd1 w e js ms n m cs) (zW (yVV w e js ms n m cs)) 60 12 [.a [.lf n (fJ js),.lf m (fM ms)],.n .i64 1,.lf w (fQ e)] =
 (bif (g1 [.a [.lf n (fJ js),.lf m (fM ms)],.n .i64 1,.lf w (fQ e)]) then some (.ow 45 10 (.l [[.n .i64 (cs 0).kind,.n .i64 (cs 0).link,.n .i64 (cs 0).p.x,.n .i64 (cs 0).p.y,.n .i64 (cs 0).p.z,.n .i64 (cs 0).n.x,.n .i64 (cs 0).n.y,.n .i64 (cs 0).n.z,.n .i64 (vJJ .i64 ((cs 0).lo - 16777216)),.n .i64 (vJJ .i64 ((cs 0).hi + 16777216))]]),[])
 else none):=by kernel_rfl
theorem snd_wd1 (w:Nat) (e:Nat→Int) (js:Nat→J) (ms:Nat→Ms) (n m:Nat) (cs:Nat→Cn) (hc:yZ Tryz.prog 11 [.a [.lf n (fJ js),.lf m (fM ms)],.n .i64 1,.lf w (fQ e)] (.ow 45 10 (.l [cp (cs 0)]))):yZ Tryz.prog 12 [.a [.lf n (fJ js),.lf m (fM ms)],.n .i64 1,.lf w (fQ e)] (.ow 45 10 (.l [cp ⟨(cs 0).kind,(cs 0).link,(cs 0).p,(cs 0).n,vJJ .i64 ((cs 0).lo - 16777216),vJJ .i64 ((cs 0).hi + 16777216)⟩])):=by
 refine jX (N:=60) (LO:=zW (yVV w e js ms n m cs)) qZH yQ (qZC (l:=[(11,o_cr [.a [.lf n (fJ js),.lf m (fM ms)],.n .i64 1,.lf w (fQ e)] (.ow 45 10 (.l [cp (cs 0)])))]) (m:=[]) ⟨qJZ hc,trivial⟩ trivial) (fun p S hp => ?_) ?_
 ·refine jK (L:=qK Tf 12) (l:=(yVV w e js ms n m cs)) (show AllP _ (yVV w e js ms n m cs) from trivial) p S hp
 ·refine (pxwd1 w e js ms n m cs).trans ?_;rw [g1_t];rfl
noncomputable def orwd2 (w:Nat) (e:Nat→Int) (js:Nat→J) (ms:Nat→Ms) (n m:Nat) (cs:Nat→Cn):OrS:=orS [(11,o_cr [.a [.lf n (fJ js),.lf m (fM ms)],.n .i64 2,.lf w (fQ e)] (.ow 45 10 (.l [cp (cs 0),cp (cs 1)])))] []
noncomputable def yVW (w:Nat) (e:Nat→Int) (_:Nat→J) (_:Nat→Ms) (n m:Nat) (cs:Nat→Cn):List (List Nat × uU):=[]
set_option maxRecDepth 100000 in
theorem pxwd2 (w:Nat) (e:Nat→Int) (js:Nat→J) (ms:Nat→Ms) (n m:Nat) (cs:Nat→Cn):qXJ Tf (orwd2 w e js ms n m cs) (zW (yVW w e js ms n m cs)) 60 12 [.a [.lf n (fJ js),.lf m (fM ms)],.n .i64 2,.lf w (fQ e)] =
 (bif (g1 [.a [.lf n (fJ js),.lf m (fM ms)],.n .i64 2,.lf w (fQ e)]) then some (.ow 45 10 (.l [[.n .i64 (cs 0).kind,.n .i64 (cs 0).link,.n .i64 (cs 0).p.x,.n .i64 (cs 0).p.y,.n .i64 (cs 0).p.z,.n .i64 (cs 0).n.x,.n .i64 (cs 0).n.y,.n .i64 (cs 0).n.z,.n .i64 (vJJ .i64 ((cs 0).lo - 16777216)),.n .i64 (vJJ .i64 ((cs 0).hi + 16777216))],[.n .i64 (cs 1).kind,.n .i64 (cs 1).link,.n .i64 (cs 1).p.x,.n .i64 (cs 1).p.y,.n .i64 (cs 1).p.z,.n .i64 (cs 1).n.x,.n .i64 (cs 1).n.y,.n .i64 (cs 1).n.z,.n .i64 (vJJ .i64 ((cs 1).lo - 16777216)),.n .i64 (vJJ .i64 ((cs 1).hi + 16777216))]]),[])
 else none):=by kernel_rfl
theorem snd_wd2 (w:Nat) (e:Nat→Int) (js:Nat→J) (ms:Nat→Ms) (n m:Nat) (cs:Nat→Cn) (hc:yZ Tryz.prog 11 [.a [.lf n (fJ js),.lf m (fM ms)],.n .i64 2,.lf w (fQ e)] (.ow 45 10 (.l [cp (cs 0),cp (cs 1)]))):yZ Tryz.prog 12 [.a [.lf n (fJ js),.lf m (fM ms)],.n .i64 2,.lf w (fQ e)] (.ow 45 10 (.l [cp ⟨(cs 0).kind,(cs 0).link,(cs 0).p,(cs 0).n,vJJ .i64 ((cs 0).lo - 16777216),vJJ .i64 ((cs 0).hi + 16777216)⟩,cp ⟨(cs 1).kind,(cs 1).link,(cs 1).p,(cs 1).n,vJJ .i64 ((cs 1).lo - 16777216),vJJ .i64 ((cs 1).hi + 16777216)⟩])):=by
 refine jX (N:=60) (LO:=zW (yVW w e js ms n m cs)) qZH yQ (qZC (l:=[(11,o_cr [.a [.lf n (fJ js),.lf m (fM ms)],.n .i64 2,.lf w (fQ e)] (.ow 45 10 (.l [cp (cs 0),cp (cs 1)])))]) (m:=[]) ⟨qJZ hc,trivial⟩ trivial) (fun p S hp => ?_) ?_
 ·refine jK (L:=qK Tf 12) (l:=(yVW w e js ms n m cs)) (show AllP _ (yVW w e js ms n m cs) from trivial) p S hp
 ·refine (pxwd2 w e js ms n m cs).trans ?_;rw [g1_t];rfl
theorem wide_ex (w:Nat) (e:Nat→Int) (js:Nat→J) (ms:Nat→Ms) (n m:Nat) (j:Nat) (hw:w≤9223372036854775807) (hn:1≤n∧n≤50) (hj:j < 3):∃ cs:Nat→Cn,yZ Tryz.prog 12 [.a [.lf n (fJ js),.lf m (fM ms)],.n .i64 (j:Int),.lf w (fQ e)] (.v (.lf j (fC cs))):=by
 obtain ⟨cs,hc⟩:=cons_ex w e js ms n m j hw hn (by omega);refine ⟨fun v=>⟨(cs v).kind,(cs v).link,(cs v).p,(cs v).n,vJJ .i64 ((cs v).lo - 16777216),vJJ .i64 ((cs v).hi + 16777216)⟩,?_⟩
 match j,hj,hc with
 | 0,_,hc=>exact qYD (Same.lf rfl) (zZB (snd_wd0 w e js ms n m cs (yZV rfl hc)))
 | 1,_,hc=>exact qYD (Same.lf rfl) (zZB (snd_wd1 w e js ms n m cs (yZV rfl hc)))
 | 2,_,hc=>exact qYD (Same.lf rfl) (zZB (snd_wd2 w e js ms n m cs (yZV rfl hc)))
end Go.Proofs.YtfcofnclgajfeaaGreat.Sr
namespace Go.Proofs.YtfcofnclgajfeaaGreat.Tg
open Go.Rx Rt Go.Sx Go.RowKit Od Nb Oe Na Nc Nd Nx Nf Ng Nj Nj2 Nl Nm Pa Pb Ta Tb Tc Td Te Sn So Sq Sr
def yYE (ps:List PV):Prop:=∃ (js:Nat→J) (ms:Nat→Ms) (n m:Nat) (cs:Nat→Cn) (c:Nat) (pp qq:Nat→Int) (k l:Nat) (D:Int),ps=[.a [.lf n (fJ js),.lf m (fM ms)],.lf c (fC cs),.lf k (fQ pp),.lf l (fQ qq),.n .i64 D]
noncomputable def yVX:List PV→Option (Bool × Ret):=fun ps=>some (gP (yYE ps),.v (.b true))
theorem ok_prv:zY Tryz.prog 10 yVX:=by
 intro ps r hh;unfold yVX at hh;simp only [vQZ,vQY] at hh;obtain ⟨hg,rfl⟩:=hh;obtain ⟨js,ms,n,m,cs,c,pp,qq,k,l,D,rfl⟩:=qYX hg;exact snd_prvs js ms n m cs c pp qq k l D
theorem is_prv (js:Nat→J) (ms:Nat→Ms) (n m:Nat) (cs:Nat→Cn) (c:Nat) (pp qq:Nat→Int) (k l:Nat) (D:Int):gP (yYE [.a [.lf n (fJ js),.lf m (fM ms)],.lf c (fC cs),.lf k (fQ pp),.lf l (fQ qq),.n .i64 D])=true:=yJZ ⟨js,ms,n,m,cs,c,pp,qq,k,l,D,rfl⟩
def ccf:Nat × (Nat→Int)→Prop:=fun t=>t.1≤9223372036854775807
def ecf (ja:Nat→J) (ma:Nat→Ms) (na ga:Nat):Nat × (Nat→Int)→List PV:=fun t=>[.a [.lf na (fJ ja),.lf ga (fM ma)],.lf t.1 (fQ t.2)]
noncomputable def o_cf (ja:Nat→J) (ma:Nat→Ms) (na ga:Nat) (x1:Nat × (Nat→Int)→Nat→Int):List PV→Option (Bool × Ret):=o_fm (fun ps=>match ps with | [_,.lf w f]=>(w,unFQ f) | _=>(0,fun _=>0)) ccf (ecf ja ma na ga) (fun t=>.v (.lf na (fQ (x1 t))))
theorem ok_cf {ja:Nat→J} {ma:Nat→Ms} {na ga:Nat} {x1:Nat × (Nat→Int)→Nat→Int} (h:∀ t,ccf t→yZ Tryz.prog 8 (ecf ja ma na ga t) (.v (.lf na (fQ (x1 t))))):zY Tryz.prog 8 (o_cf ja ma na ga x1):=zUE fun t ht=>h t ht
noncomputable def gcf (ja:Nat→J) (ma:Nat→Ms) (na ga:Nat) (w:Nat) (e:Nat→Int):Bool:=gF1 ccf (ecf ja ma na ga) (w,e)
theorem gcf_t {ja:Nat→J} {ma:Nat→Ms} {na ga w:Nat} {e:Nat→Int} (h:w≤9223372036854775807):gcf ja ma na ga w e=true:=qHX h
noncomputable def orlaw0 (_:Nat→J) (_:Nat→Ms) (n m:Nat) (cs:Nat→Cn) (c:Nat) (pp qq:Nat→Int) (k l:Nat) (D:Int) (w1 w2 _ _:Nat) (e1 e2 _ _:Nat→Int) (nn:Int) (ja:Nat→J) (ma:Nat→Ms) (na ga:Nat) (x1:Nat × (Nat→Int)→Nat→Int) (cd ce:Nat→Cn) (d:Nat):OrS:=orS [(6,o_cr [] (.v (.b true))),(7,o_cr [.lf w1 (fQ e1)] (.v (.a [.lf na (fJ ja),.lf ga (fM ma)]))),(8,o_cf ja ma na ga x1),(9,o_rn),(11,o_cr [.a [.lf na (fJ ja),.lf ga (fM ma)],.n .i64 (nn % 3),.lf w2 (fQ e2)] (.v (.lf d (fC cd)))),(12,o_cr [.a [.lf na (fJ ja),.lf ga (fM ma)],.n .i64 (nn % 3),.lf w2 (fQ e2)] (.v (.lf d (fC ce)))),(10,yVX)] []
noncomputable def yKJ (_:Nat→J) (_:Nat→Ms) (n m:Nat) (cs:Nat→Cn) (c:Nat) (pp qq:Nat→Int) (k l:Nat) (D:Int) (_ _ _ _:Nat) (_ _ _ _:Nat→Int) (_:Int) (_:Nat→J) (_:Nat→Ms) (_ _:Nat) (_:Nat × (Nat→Int)→Nat→Int) (_ _:Nat→Cn) (d:Nat):List (List Nat × uU):=[]
set_option maxRecDepth 100000 in
theorem pxlaw0 (js:Nat→J) (ms:Nat→Ms) (n m:Nat) (cs:Nat→Cn) (c:Nat) (pp qq:Nat→Int) (k l:Nat) (D:Int) (w1 w2 w3 w4:Nat) (e1 e2 e3 e4:Nat→Int) (nn:Int) (ja:Nat→J) (ma:Nat→Ms) (na ga:Nat) (x1:Nat × (Nat→Int)→Nat→Int) (cd ce:Nat→Cn) (d:Nat):qXJ Tf (orlaw0 js ms n m cs c pp qq k l D w1 w2 w3 w4 e1 e2 e3 e4 nn ja ma na ga x1 cd ce d) (zW (yKJ js ms n m cs c pp qq k l D w1 w2 w3 w4 e1 e2 e3 e4 nn ja ma na ga x1 cd ce d)) 60 3 [.a [.lf n (fJ js),.lf m (fM ms)],.lf c (fC cs),.lf k (fQ pp),.lf l (fQ qq),.n .i64 D,.lf w1 (fQ e1),.lf w2 (fQ e2),.lf w3 (fQ e3),.lf w4 (fQ e4),.n .i64 nn] =
 (bif (decide ((n:Int)≤12)) then (bif (decide ((c:Int)≤20)) then (bif (decide (20 < (k:Int))) then (bif (g1 []) then some (.v (.b true),[])
 else none)
 else (bif (decide (20 < (l:Int))) then (bif (g1 []) then some (.v (.b true),[])
 else none)
 else (bif (g1 [.lf w1 (fQ e1)]) then (bif (gcf ja ma na ga w3 e3) then (bif (gcf ja ma na ga w4 e4) then (bif (gF1 crn ern (D,8)) then (bif (g1 []) then (bif (gP (yYE [.a [.lf n (fJ js),.lf m (fM ms)],.lf c (fC cs),.lf k (fQ pp),.lf l (fQ qq),.n .i64 (vJJ .i64 ((D % 8) - 1))])) then (bif (gF1 crn ern (nn,3)) then (bif (g1 [.a [.lf na (fJ ja),.lf ga (fM ma)],.n .i64 (nn % 3),.lf w2 (fQ e2)]) then (bif (gP (yYE [.a [.lf na (fJ ja),.lf ga (fM ma)],.lf d (fC cd),.lf na (fQ (x1 (w3,e3))),.lf na (fQ (x1 (w4,e4))),.n .i64 (vJJ .i64 ((D % 8) - 1))])) then (bif (gF1 crn ern (nn,3)) then (bif (g1 [.a [.lf na (fJ ja),.lf ga (fM ma)],.n .i64 (nn % 3),.lf w2 (fQ e2)]) then (bif (gP (yYE [.a [.lf na (fJ ja),.lf ga (fM ma)],.lf d (fC ce),.lf na (fQ (x1 (w3,e3))),.lf na (fQ (x1 (w4,e4))),.n .i64 (vJJ .i64 ((D % 8) - 1))])) then (bif (gP (yYE [.a [.lf na (fJ ja),.lf ga (fM ma)],.lf c (fC cs),.lf na (fQ (x1 (w3,e3))),.lf l (fQ qq),.n .i64 D])) then some (.v (.b true),[])
 else none)
 else none)
 else none)
 else none)
 else none)
 else none)
 else none)
 else none)
 else none)
 else none)
 else none)
 else none)
 else none)))
 else (bif (g1 []) then some (.v (.b true),[])
 else none))
 else (bif (g1 []) then some (.v (.b true),[])
 else none)):=by kernel_rfl
theorem snd_law0 (js:Nat→J) (ms:Nat→Ms) (n m:Nat) (cs:Nat→Cn) (c:Nat) (pp qq:Nat→Int) (k l:Nat) (D:Int) (w1 w2 w3 w4:Nat) (e1 e2 e3 e4:Nat→Int) (nn:Int) (ja:Nat→J) (ma:Nat→Ms) (na ga:Nat) (x1:Nat × (Nat→Int)→Nat→Int) (cd ce:Nat→Cn) (d:Nat) (hA:yZ Tryz.prog 6 [] (.v (.b true))) (hR:yZ Tryz.prog 7 [.lf w1 (fQ e1)] (.v (.a [.lf na (fJ ja),.lf ga (fM ma)]))) (hX:∀ t,ccf t→yZ Tryz.prog 8 (ecf ja ma na ga t) (.v (.lf na (fQ (x1 t))))) (hC:yZ Tryz.prog 11 [.a [.lf na (fJ ja),.lf ga (fM ma)],.n .i64 (nn % 3),.lf w2 (fQ e2)] (.v (.lf d (fC cd)))) (hW:yZ Tryz.prog 12 [.a [.lf na (fJ ja),.lf ga (fM ma)],.n .i64 (nn % 3),.lf w2 (fQ e2)] (.v (.lf d (fC ce)))) (b3:w3≤9223372036854775807) (b4:w4≤9223372036854775807):yZ Tryz.prog 3 [.a [.lf n (fJ js),.lf m (fM ms)],.lf c (fC cs),.lf k (fQ pp),.lf l (fQ qq),.n .i64 D,.lf w1 (fQ e1),.lf w2 (fQ e2),.lf w3 (fQ e3),.lf w4 (fQ e4),.n .i64 nn] (.v (.b true)):=by
 refine jX (N:=60) (LO:=zW (yKJ js ms n m cs c pp qq k l D w1 w2 w3 w4 e1 e2 e3 e4 nn ja ma na ga x1 cd ce d)) qZH yQ (qZC (l:=[(6,o_cr [] (.v (.b true))),(7,o_cr [.lf w1 (fQ e1)] (.v (.a [.lf na (fJ ja),.lf ga (fM ma)]))),(8,o_cf ja ma na ga x1),(9,o_rn),(11,o_cr [.a [.lf na (fJ ja),.lf ga (fM ma)],.n .i64 (nn % 3),.lf w2 (fQ e2)] (.v (.lf d (fC cd)))),(12,o_cr [.a [.lf na (fJ ja),.lf ga (fM ma)],.n .i64 (nn % 3),.lf w2 (fQ e2)] (.v (.lf d (fC ce)))),(10,yVX)]) (m:=[]) ⟨qJZ hA,qJZ hR,ok_cf hX,Sn.ok_rn,qJZ hC,qJZ hW,ok_prv,trivial⟩ trivial) (fun p S hp => ?_) ?_
 ·refine jK (L:=qK Tf 3) (l:=(yKJ js ms n m cs c pp qq k l D w1 w2 w3 w4 e1 e2 e3 e4 nn ja ma na ga x1 cd ce d)) (show AllP _ (yKJ js ms n m cs c pp qq k l D w1 w2 w3 w4 e1 e2 e3 e4 nn ja ma na ga x1 cd ce d) from trivial) p S hp
 ·refine (pxlaw0 js ms n m cs c pp qq k l D w1 w2 w3 w4 e1 e2 e3 e4 nn ja ma na ga x1 cd ce d).trans ?_;have hr:gP (yYE _)=true:=is_prv js ms n m cs c pp qq k l D;simp only [g1_t,gcf_t b3,gcf_t b4,qHX (C:=crn) (t:=(D,8)) ⟨by decide,by decide⟩,is_prv,qHX (C:=crn) (t:=(nn,3)) ⟨by decide,by decide⟩,vYV,vYG,Bool.cond_self]
theorem lim_of {js:Nat→J} {n:Nat} (h:∀ v,v < n→JM v (js v)):zJB js n:=fun v hv=>by
 have h0:=(h v hv).2.1;unfold JF at h0;obtain ⟨_,_,_,_,_,⟨a,b,c⟩,_⟩:=h0;have hk:limK (js v).kind≤4194304:=by
  unfold limK;split
  ·decide
  ·split <;> decide
 omega
theorem snd_law (js:Nat→J) (ms:Nat→Ms) (n m:Nat) (cs:Nat→Cn) (c:Nat) (pl ql:List Int) (D:Int) (la lb lc ld:List Int) (nn:Int) (_:pl.length≤9223372036854775807) (_:ql.length≤9223372036854775807) (ha:la.length≤9223372036854775807) (hb:lb.length≤9223372036854775807) (hc:lc.length≤9223372036854775807) (hd:ld.length≤9223372036854775807) (hA:yZ Tryz.prog 6 [] (.v (.b true))) :
  yZ Tryz.prog 3 [.a [.lf n (fJ js),.lf m (fM ms)],.lf c (fC cs),qHK pl,qHK ql,.n .i64 D,qHK la,qHK lb,qHK lc,qHK ld,.n .i64 nn] (.v (.b true)):=by
 have hr:=(rbF_ok (t:=(la.length,0,iqOf la)) ⟨Nat.zero_le _,ha⟩).1;have hlim:=lim_of hr.2.2.2.1;obtain ⟨x1,hX⟩:=choose_all (fun _=>0) (C:=ccf) (R:=fun t x=>yZ Tryz.prog 8 (ecf (rbF (la.length,0,iqOf la)).1 (rbF (la.length,0,iqOf la)).2.1 (rbF (la.length,0,iqOf la)).2.2.1 (rbF (la.length,0,iqOf la)).2.2.2.1 t) (.v (.lf (rbF (la.length,0,iqOf la)).2.2.1 (fQ x)))) fun t ht=>by
  have h3:=hr.2.1.2;obtain ⟨q,_,hq⟩:=cfg_ex t.1 t.2 (rbF (la.length,0,iqOf la)).1 (rbF (la.length,0,iqOf la)).2.1 (rbF (la.length,0,iqOf la)).2.2.1 (rbF (la.length,0,iqOf la)).2.2.2.1 ht (Nat.le_trans h3 (by decide)) hlim;exact ⟨q,hq⟩
 have hn3:1≤(rbF (la.length,0,iqOf la)).2.2.1∧(rbF (la.length,0,iqOf la)).2.2.1≤50:=⟨hr.2.1.1,Nat.le_trans hr.2.1.2 (by decide)⟩
 have hu:nn % 3=(((nn % 3).toNat:Nat):Int):=by omega
 obtain ⟨cd,hC⟩:=cons_ex lb.length (iqOf lb) (rbF (la.length,0,iqOf la)).1 (rbF (la.length,0,iqOf la)).2.1 _ (rbF (la.length,0,iqOf la)).2.2.2.1 (nn % 3).toNat hb hn3 (by omega);obtain ⟨ce,hW⟩:=wide_ex lb.length (iqOf lb) (rbF (la.length,0,iqOf la)).1 (rbF (la.length,0,iqOf la)).2.1 _ (rbF (la.length,0,iqOf la)).2.2.2.1 (nn % 3).toNat hb hn3 (by omega);rw [← hu] at hC hW;refine snd_args (fun F w vals h=>Sames.al (xs:=[.a [.lf n (fJ js),.lf m (fM ms)],.lf c (fC cs),qHK pl,qHK ql,.n .i64 D,qHK la,qHK lb,qHK lc,qHK ld,.n .i64 nn]) (ys:=[.a [.lf n (fJ js),.lf m (fM ms)],.lf c (fC cs),.lf pl.length (fQ (iqOf pl)),.lf ql.length (fQ (iqOf ql)),.n .i64 D,.lf la.length (fQ (iqOf la)),.lf lb.length (fQ (iqOf lb)),.lf lc.length (fQ (iqOf lc)),.lf ld.length (fQ (iqOf ld)),.n .i64 nn]) ⟨Same.refl _,Same.refl _,qXW pl,qXW ql,Same.refl _,qXW la,qXW lb,qXW lc,qXW ld,Same.refl _,trivial⟩ h) ?_;exact snd_law0 js ms n m cs c _ _ _ _ D _ _ _ _ _ _ _ _ nn _ _ _ _ x1 cd ce _ hA (snd_Rob _ _ ha) hX (snd_ownF hC) hW hc hd
end Go.Proofs.YtfcofnclgajfeaaGreat.Tg
namespace Go.Proofs.YtfcofnclgajfeaaGreat.Ni
open Go.Rx Rt Go.Sx Go.RowKit Go.ChangeShapes Go.WideShapes Od Na Nb Nc Nd Nx
def shJ:List Sh:=[.s,.i .i64,.i .i64,.i .i64,.i .i64,.i .i64,.i .i64,.i .i64,.i .i64,.i .i64,.i .i64,.i .i64]
theorem row_J {ps:List PV} (h:Fits shJ ps):∃ a:J,ps=jp a:=by
 unfold shJ at h;obtain ⟨p0,q0,rfl,f0,h⟩:=h.cons;obtain ⟨p1,q1,rfl,f1,h⟩:=h.cons;obtain ⟨p2,q2,rfl,f2,h⟩:=h.cons;obtain ⟨p3,q3,rfl,f3,h⟩:=h.cons;obtain ⟨p4,q4,rfl,f4,h⟩:=h.cons;obtain ⟨p5,q5,rfl,f5,h⟩:=h.cons;obtain ⟨p6,q6,rfl,f6,h⟩:=h.cons;obtain ⟨p7,q7,rfl,f7,h⟩:=h.cons;obtain ⟨p8,q8,rfl,f8,h⟩:=h.cons;obtain ⟨p9,q9,rfl,f9,h⟩:=h.cons;obtain ⟨p10,q10,rfl,f10,h⟩:=h.cons;obtain ⟨p11,q11,rfl,f11,h⟩:=h.cons;obtain rfl:=h.nil;obtain ⟨x0,rfl⟩:=f0.str;obtain ⟨x1,rfl,_⟩:=f1.int;obtain ⟨x2,rfl,_⟩:=f2.int;obtain ⟨x3,rfl,_⟩:=f3.int;obtain ⟨x4,rfl,_⟩:=f4.int;obtain ⟨x5,rfl,_⟩:=f5.int;obtain ⟨x6,rfl,_⟩:=f6.int;obtain ⟨x7,rfl,_⟩:=f7.int;obtain ⟨x8,rfl,_⟩:=f8.int;obtain ⟨x9,rfl,_⟩:=f9.int;obtain ⟨x10,rfl,_⟩:=f10.int;obtain ⟨x11,rfl,_⟩:=f11.int;exact ⟨⟨x0,x1,x2,⟨x3,x4,x5⟩,x6,x7,x8,x9,x10,x11⟩,rfl⟩
def shM:List Sh:=[.i .i64,.i .i64,.i .i64,.i .i64,.i .i64]
theorem row_M {ps:List PV} (h:Fits shM ps):∃ a:Ms,ps=mp a:=by
 unfold shM at h;obtain ⟨p0,q0,rfl,f0,h⟩:=h.cons;obtain ⟨p1,q1,rfl,f1,h⟩:=h.cons;obtain ⟨p2,q2,rfl,f2,h⟩:=h.cons;obtain ⟨p3,q3,rfl,f3,h⟩:=h.cons;obtain ⟨p4,q4,rfl,f4,h⟩:=h.cons;obtain rfl:=h.nil;obtain ⟨x0,rfl,_⟩:=f0.int;obtain ⟨x1,rfl,_⟩:=f1.int;obtain ⟨x2,rfl,_⟩:=f2.int;obtain ⟨x3,rfl,_⟩:=f3.int;obtain ⟨x4,rfl,_⟩:=f4.int;exact ⟨⟨x0,x1,⟨x2,x3,x4⟩⟩,rfl⟩
def shC:List Sh:=[.i .i64,.i .i64,.i .i64,.i .i64,.i .i64,.i .i64,.i .i64,.i .i64,.i .i64,.i .i64]
theorem row_C {ps:List PV} (h:Fits shC ps):∃ a:Cn,ps=cp a:=by
 unfold shC at h;obtain ⟨p0,q0,rfl,f0,h⟩:=h.cons;obtain ⟨p1,q1,rfl,f1,h⟩:=h.cons;obtain ⟨p2,q2,rfl,f2,h⟩:=h.cons;obtain ⟨p3,q3,rfl,f3,h⟩:=h.cons;obtain ⟨p4,q4,rfl,f4,h⟩:=h.cons;obtain ⟨p5,q5,rfl,f5,h⟩:=h.cons;obtain ⟨p6,q6,rfl,f6,h⟩:=h.cons;obtain ⟨p7,q7,rfl,f7,h⟩:=h.cons;obtain ⟨p8,q8,rfl,f8,h⟩:=h.cons;obtain ⟨p9,q9,rfl,f9,h⟩:=h.cons;obtain rfl:=h.nil;obtain ⟨x0,rfl,_⟩:=f0.int;obtain ⟨x1,rfl,_⟩:=f1.int;obtain ⟨x2,rfl,_⟩:=f2.int;obtain ⟨x3,rfl,_⟩:=f3.int;obtain ⟨x4,rfl,_⟩:=f4.int;obtain ⟨x5,rfl,_⟩:=f5.int;obtain ⟨x6,rfl,_⟩:=f6.int;obtain ⟨x7,rfl,_⟩:=f7.int;obtain ⟨x8,rfl,_⟩:=f8.int;obtain ⟨x9,rfl,_⟩:=f9.int;exact ⟨⟨x0,x1,⟨x2,x3,x4⟩,⟨x5,x6,x7⟩,x8,x9⟩,rfl⟩
section
variable {W:World} {H:Type} {enc:TypeId × Value→H} {r:Reach} {base:Nat} {v:Value} {d:DataW H} {p:List MemPlace}
abbrev RW (W:World):PV→Value→Prop:=RP (fun k=>k < W.heap.size) W
theorem shT_r:shT Tryz.prog 8 25=some [.l shJ,.l shM]:=by kernel_rfl
theorem shT_cs:shT Tryz.prog 8 26=some [.l shC]:=by kernel_rfl
set_option maxRecDepth 100000 in
theorem open_robot (hv:Value.okWide Tryz.prog W r base 25 v) (h:DataW.Trod enc Tryz.prog W 0 (fun _=>true) true 25 v d p):∃ (js:Nat→J) (ms:Nat→Ms) (n m:Nat),RW W (.a [.lf n (fJ js),.lf m (fM ms)]) v:=by
 obtain ⟨ps,hr,hf⟩:=open_str Tryz.underlying25 hv h shT_r;obtain ⟨p1,ps,rfl,f1,hf⟩:=hf.cons;obtain ⟨p2,ps,rfl,f2,hf⟩:=hf.cons;obtain rfl:=hf.nil;obtain ⟨n,f,rfl,g1⟩:=f1.slc;obtain ⟨m,g,rfl,g2⟩:=f2.slc;obtain ⟨js,hj⟩:∃ js:Nat→J,∀ j,j < n→f j=fJ js j:=by
  have each:∀ j,∃ a:J,j < n→f j=jp a:=fun j=>by
   by_cases hj:j < n
   ·obtain ⟨a,ha⟩:=row_J (g1 j hj); exact ⟨a,fun _=>ha⟩
   ·exact ⟨⟨ByteArray.empty,0,0,⟨0,0,0⟩,0,0,0,0,0,0⟩,fun h=>absurd h hj⟩
  obtain ⟨js,hjs⟩:=Classical.axiomOfChoice each;exact ⟨js,hjs⟩
 obtain ⟨ms,hm⟩:∃ ms:Nat→Ms,∀ j,j < m→g j=fM ms j:=by
  have each:∀ j,∃ a:Ms,j < m→g j=mp a:=fun j=>by
   by_cases hj:j < m
   ·obtain ⟨a,ha⟩:=row_M (g2 j hj); exact ⟨a,fun _=>ha⟩
   ·exact ⟨⟨0,0,⟨0,0,0⟩⟩,fun h=>absurd h hj⟩
  obtain ⟨ms,hms⟩:=Classical.axiomOfChoice each;exact ⟨ms,hms⟩
 have s:Sames [.lf n f,.lf m g] [.lf n (fJ js),.lf m (fM ms)]:=⟨zYF hj,zYF hm,trivial⟩
 exact ⟨js,ms,n,m,Same.a s _ _ _ hr⟩
set_option maxRecDepth 100000 in
theorem open_cons (hv:Value.okWide Tryz.prog W r base 26 v) (h:DataW.Trod enc Tryz.prog W 0 (fun _=>true) true 26 v d p):∃ (cs:Nat→Cn) (c:Nat),RW W (.lf c (fC cs)) v:=by
 obtain ⟨n,f,hr,hf⟩:=open_slc Tryz.underlying26 hv h shT_cs;obtain ⟨cs,hc⟩:=lf_fn (enc:=cp) (⟨0,0,⟨0,0,0⟩,⟨0,0,0⟩,0,0⟩:Cn) (fun _ h=>row_C h) hf hr;exact ⟨cs,n,hc⟩
end
end Go.Proofs.YtfcofnclgajfeaaGreat.Ni
namespace Go.Proofs.YtfcofnclgajfeaaGreat.Ax
open Go.Rx Rt
noncomputable def k117:List (List PV × Ret):=[([.a [.n .i64 65536,.n .i64 65536,.n .i64 0,.n .i64 0,.n .i64 0,.n .i64 0,.n .i64 0,.n .i64 0,.n .i64 65536,.n .i64 65536,.n .i64 0,.n .i64 0,.n .i64 0,.n .i64 0,.n .i64 0,.n .i64 0,.n .i64 65536,.n .i64 65536,.n .i64 0,.n .i64 0,.n .i64 0,.n .i64 0,.n .i64 0,.n .i64 0],.a [.n .i64 65536,.n .i64 65536,.n .i64 0,.n .i64 0,.n .i64 0,.n .i64 0,.n .i64 0,.n .i64 0,.n .i64 65536,.n .i64 65536,.n .i64 0,.n .i64 0,.n .i64 0,.n .i64 0,.n .i64 0,.n .i64 0,.n .i64 65536,.n .i64 65536,.n .i64 3,.n .i64 4,.n .i64 0,.n .i64 0,.n .i64 0,.n .i64 0]],.v (.a [.n .i64 65536,.n .i64 65536,.n .i64 0,.n .i64 0,.n .i64 0,.n .i64 0,.n .i64 0,.n .i64 0,.n .i64 65536,.n .i64 65536,.n .i64 0,.n .i64 0,.n .i64 0,.n .i64 0,.n .i64 0,.n .i64 0,.n .i64 65536,.n .i64 65536,.n .i64 3,.n .i64 4,.n .i64 0,.n .i64 0,.n .i64 0,.n .i64 0])),
 ([.a [.n .i64 65536,.n .i64 65536,.n .i64 0,.n .i64 0,.n .i64 0,.n .i64 0,.n .i64 0,.n .i64 0,.n .i64 65536,.n .i64 65536,.n .i64 0,.n .i64 0,.n .i64 0,.n .i64 0,.n .i64 0,.n .i64 0,.n .i64 65536,.n .i64 65536,.n .i64 0,.n .i64 0,.n .i64 0,.n .i64 0,.n .i64 0,.n .i64 0],.a [.n .i64 65536,.n .i64 65536,.n .i64 0,.n .i64 0,.n .i64 0,.n .i64 0,.n .i64 0,.n .i64 0,.n .i64 65536,.n .i64 65536,.n .i64 0,.n .i64 0,.n .i64 0,.n .i64 0,.n .i64 0,.n .i64 0,.n .i64 65536,.n .i64 65536,.n .i64 0,.n .i64 0,.n .i64 5,.n .i64 7,.n .i64 0,.n .i64 0]],.v (.a [.n .i64 65536,.n .i64 65536,.n .i64 0,.n .i64 0,.n .i64 0,.n .i64 0,.n .i64 0,.n .i64 0,.n .i64 65536,.n .i64 65536,.n .i64 0,.n .i64 0,.n .i64 0,.n .i64 0,.n .i64 0,.n .i64 0,.n .i64 65536,.n .i64 65536,.n .i64 0,.n .i64 0,.n .i64 5,.n .i64 7,.n .i64 0,.n .i64 0])),
 ([.a [.n .i64 65536,.n .i64 65536,.n .i64 0,.n .i64 0,.n .i64 0,.n .i64 0,.n .i64 0,.n .i64 0,.n .i64 65536,.n .i64 65536,.n .i64 0,.n .i64 0,.n .i64 0,.n .i64 0,.n .i64 0,.n .i64 0,.n .i64 65536,.n .i64 65536,.n .i64 3,.n .i64 4,.n .i64 0,.n .i64 0,.n .i64 0,.n .i64 0],.a [.n .i64 65536,.n .i64 65536,.n .i64 0,.n .i64 0,.n .i64 0,.n .i64 0,.n .i64 0,.n .i64 0,.n .i64 65536,.n .i64 65536,.n .i64 0,.n .i64 0,.n .i64 0,.n .i64 0,.n .i64 0,.n .i64 0,.n .i64 65536,.n .i64 65536,.n .i64 0,.n .i64 0,.n .i64 5,.n .i64 7,.n .i64 0,.n .i64 0]],.v (.a [.n .i64 65536,.n .i64 65536,.n .i64 0,.n .i64 0,.n .i64 0,.n .i64 0,.n .i64 0,.n .i64 0,.n .i64 65536,.n .i64 65536,.n .i64 0,.n .i64 0,.n .i64 0,.n .i64 0,.n .i64 0,.n .i64 0,.n .i64 65536,.n .i64 65536,.n .i64 3,.n .i64 4,.n .i64 5,.n .i64 7,.n .i64 0,.n .i64 0])),
 ([.a [.n .i64 65536,.n .i64 65536,.n .i64 0,.n .i64 0,.n .i64 0,.n .i64 0,.n .i64 0,.n .i64 0,.n .i64 65536,.n .i64 65536,.n .i64 0,.n .i64 0,.n .i64 0,.n .i64 0,.n .i64 0,.n .i64 0,.n .i64 65536,.n .i64 65536,.n .i64 0,.n .i64 0,.n .i64 0,.n .i64 0,.n .i64 0,.n .i64 0],.a [.n .i64 65536,.n .i64 65536,.n .i64 0,.n .i64 0,.n .i64 0,.n .i64 0,.n .i64 0,.n .i64 0,.n .i64 65536,.n .i64 65536,.n .i64 0,.n .i64 0,.n .i64 0,.n .i64 0,.n .i64 0,.n .i64 0,.n .i64 65536,.n .i64 65536,.n .i64 0,.n .i64 64,.n .i64 0,.n .i64 0,.n .i64 0,.n .i64 0]],.v (.a [.n .i64 65536,.n .i64 65536,.n .i64 0,.n .i64 0,.n .i64 0,.n .i64 0,.n .i64 0,.n .i64 0,.n .i64 65536,.n .i64 65536,.n .i64 0,.n .i64 0,.n .i64 0,.n .i64 0,.n .i64 0,.n .i64 0,.n .i64 65536,.n .i64 65536,.n .i64 0,.n .i64 64,.n .i64 0,.n .i64 0,.n .i64 0,.n .i64 0])),
 ([.a [.n .i64 65536,.n .i64 65536,.n .i64 0,.n .i64 0,.n .i64 0,.n .i64 0,.n .i64 0,.n .i64 0,.n .i64 65536,.n .i64 65536,.n .i64 0,.n .i64 0,.n .i64 0,.n .i64 0,.n .i64 0,.n .i64 0,.n .i64 65536,.n .i64 65536,.n .i64 0,.n .i64 0,.n .i64 0,.n .i64 0,.n .i64 0,.n .i64 0],.a [.n .i64 65536,.n .i64 65536,.n .i64 0,.n .i64 0,.n .i64 0,.n .i64 0,.n .i64 0,.n .i64 0,.n .i64 65536,.n .i64 65536,.n .i64 0,.n .i64 0,.n .i64 0,.n .i64 0,.n .i64 0,.n .i64 0,.n .i64 65536,.n .i64 65536,.n .i64 0,.n .i64 0,.n .i64 2,.n .i64 8,.n .i64 0,.n .i64 0]],.v (.a [.n .i64 65536,.n .i64 65536,.n .i64 0,.n .i64 0,.n .i64 0,.n .i64 0,.n .i64 0,.n .i64 0,.n .i64 65536,.n .i64 65536,.n .i64 0,.n .i64 0,.n .i64 0,.n .i64 0,.n .i64 0,.n .i64 0,.n .i64 65536,.n .i64 65536,.n .i64 0,.n .i64 0,.n .i64 2,.n .i64 8,.n .i64 0,.n .i64 0])),
 ([.a [.n .i64 65536,.n .i64 65536,.n .i64 0,.n .i64 0,.n .i64 0,.n .i64 0,.n .i64 0,.n .i64 0,.n .i64 65536,.n .i64 65536,.n .i64 0,.n .i64 0,.n .i64 0,.n .i64 0,.n .i64 0,.n .i64 0,.n .i64 65536,.n .i64 65536,.n .i64 0,.n .i64 64,.n .i64 0,.n .i64 0,.n .i64 0,.n .i64 0],.a [.n .i64 65536,.n .i64 65536,.n .i64 0,.n .i64 0,.n .i64 0,.n .i64 0,.n .i64 0,.n .i64 0,.n .i64 65536,.n .i64 65536,.n .i64 0,.n .i64 0,.n .i64 0,.n .i64 0,.n .i64 0,.n .i64 0,.n .i64 65536,.n .i64 65536,.n .i64 0,.n .i64 0,.n .i64 2,.n .i64 8,.n .i64 0,.n .i64 0]],.v (.a [.n .i64 65536,.n .i64 65536,.n .i64 0,.n .i64 0,.n .i64 0,.n .i64 0,.n .i64 0,.n .i64 0,.n .i64 65536,.n .i64 65536,.n .i64 0,.n .i64 0,.n .i64 0,.n .i64 0,.n .i64 0,.n .i64 0,.n .i64 65536,.n .i64 65536,.n .i64 0,.n .i64 64,.n .i64 2,.n .i64 8,.n .i64 0,.n .i64 0]))]
noncomputable def t117:Known:=(117,k117) :: ([]:Known)
theorem ok117:Known.Ok Tryz.prog t117:=Known.add yY yQ (Known.nil _) (N:=60) (by kernel_rfl)
noncomputable def k84:List (List PV × Ret):=[([.a [.l [[.s (ByteArray.mk #[97]),.n .i64 4,.n .i64 (-1),.n .i64 0,.n .i64 0,.n .i64 0,.n .i64 0,.n .i64 64,.n .i64 1,.n .i64 65536,.n .i64 65536,.n .i64 65536],[.s (ByteArray.mk #[98]),.n .i64 5,.n .i64 0,.n .i64 0,.n .i64 0,.n .i64 0,.n .i64 0,.n .i64 64,.n .i64 1,.n .i64 65536,.n .i64 65536,.n .i64 65536]],.l []],.l [[.n .i64 3,.n .i64 4],[.n .i64 5,.n .i64 7]]],.ow 115 24 (.l [[.n .i64 65536,.n .i64 65536,.n .i64 0,.n .i64 0,.n .i64 0,.n .i64 0,.n .i64 0,.n .i64 0,.n .i64 65536,.n .i64 65536,.n .i64 0,.n .i64 0,.n .i64 0,.n .i64 0,.n .i64 0,.n .i64 0,.n .i64 65536,.n .i64 65536,.n .i64 3,.n .i64 4,.n .i64 0,.n .i64 0,.n .i64 0,.n .i64 0],[.n .i64 65536,.n .i64 65536,.n .i64 0,.n .i64 0,.n .i64 0,.n .i64 0,.n .i64 0,.n .i64 0,.n .i64 65536,.n .i64 65536,.n .i64 0,.n .i64 0,.n .i64 0,.n .i64 0,.n .i64 0,.n .i64 0,.n .i64 65536,.n .i64 65536,.n .i64 3,.n .i64 4,.n .i64 5,.n .i64 7,.n .i64 0,.n .i64 0]])),
 ([.a [.l [[.s (ByteArray.mk #[97]),.n .i64 4,.n .i64 (-1),.n .i64 0,.n .i64 0,.n .i64 0,.n .i64 0,.n .i64 64,.n .i64 1,.n .i64 65536,.n .i64 65536,.n .i64 65536],[.s (ByteArray.mk #[98]),.n .i64 5,.n .i64 0,.n .i64 0,.n .i64 0,.n .i64 0,.n .i64 0,.n .i64 64,.n .i64 1,.n .i64 65536,.n .i64 65536,.n .i64 65536]],.l []],.l [[.n .i64 0,.n .i64 64],[.n .i64 2,.n .i64 8]]],.ow 115 24 (.l [[.n .i64 65536,.n .i64 65536,.n .i64 0,.n .i64 0,.n .i64 0,.n .i64 0,.n .i64 0,.n .i64 0,.n .i64 65536,.n .i64 65536,.n .i64 0,.n .i64 0,.n .i64 0,.n .i64 0,.n .i64 0,.n .i64 0,.n .i64 65536,.n .i64 65536,.n .i64 0,.n .i64 64,.n .i64 0,.n .i64 0,.n .i64 0,.n .i64 0],[.n .i64 65536,.n .i64 65536,.n .i64 0,.n .i64 0,.n .i64 0,.n .i64 0,.n .i64 0,.n .i64 0,.n .i64 65536,.n .i64 65536,.n .i64 0,.n .i64 0,.n .i64 0,.n .i64 0,.n .i64 0,.n .i64 0,.n .i64 65536,.n .i64 65536,.n .i64 0,.n .i64 64,.n .i64 2,.n .i64 8,.n .i64 0,.n .i64 0]]))]
noncomputable def t84:Known:=(84,k84) :: t117
theorem ok84:Known.Ok Tryz.prog t84:=Known.add yY yQ (ok117) (N:=60) (by kernel_rfl)
noncomputable def k54:List (List PV × Ret):=[([.a [.l [[.s (ByteArray.mk #[97]),.n .i64 4,.n .i64 (-1),.n .i64 0,.n .i64 0,.n .i64 0,.n .i64 0,.n .i64 64,.n .i64 1,.n .i64 65536,.n .i64 65536,.n .i64 65536],[.s (ByteArray.mk #[98]),.n .i64 5,.n .i64 0,.n .i64 0,.n .i64 0,.n .i64 0,.n .i64 0,.n .i64 64,.n .i64 1,.n .i64 65536,.n .i64 65536,.n .i64 65536]],.l []],.l [[.n .i64 3,.n .i64 4],[.n .i64 5,.n .i64 7]]],.v (.l [[.n .i64 65536,.n .i64 65536,.n .i64 0,.n .i64 0,.n .i64 0,.n .i64 0,.n .i64 0,.n .i64 0,.n .i64 65536,.n .i64 65536,.n .i64 0,.n .i64 0,.n .i64 0,.n .i64 0,.n .i64 0,.n .i64 0,.n .i64 65536,.n .i64 65536,.n .i64 3,.n .i64 4,.n .i64 0,.n .i64 0,.n .i64 0,.n .i64 0],[.n .i64 65536,.n .i64 65536,.n .i64 0,.n .i64 0,.n .i64 0,.n .i64 0,.n .i64 0,.n .i64 0,.n .i64 65536,.n .i64 65536,.n .i64 0,.n .i64 0,.n .i64 0,.n .i64 0,.n .i64 0,.n .i64 0,.n .i64 65536,.n .i64 65536,.n .i64 3,.n .i64 4,.n .i64 5,.n .i64 7,.n .i64 0,.n .i64 0]])),
 ([.a [.l [[.s (ByteArray.mk #[97]),.n .i64 4,.n .i64 (-1),.n .i64 0,.n .i64 0,.n .i64 0,.n .i64 0,.n .i64 64,.n .i64 1,.n .i64 65536,.n .i64 65536,.n .i64 65536],[.s (ByteArray.mk #[98]),.n .i64 5,.n .i64 0,.n .i64 0,.n .i64 0,.n .i64 0,.n .i64 0,.n .i64 64,.n .i64 1,.n .i64 65536,.n .i64 65536,.n .i64 65536]],.l []],.l [[.n .i64 0,.n .i64 64],[.n .i64 2,.n .i64 8]]],.v (.l [[.n .i64 65536,.n .i64 65536,.n .i64 0,.n .i64 0,.n .i64 0,.n .i64 0,.n .i64 0,.n .i64 0,.n .i64 65536,.n .i64 65536,.n .i64 0,.n .i64 0,.n .i64 0,.n .i64 0,.n .i64 0,.n .i64 0,.n .i64 65536,.n .i64 65536,.n .i64 0,.n .i64 64,.n .i64 0,.n .i64 0,.n .i64 0,.n .i64 0],[.n .i64 65536,.n .i64 65536,.n .i64 0,.n .i64 0,.n .i64 0,.n .i64 0,.n .i64 0,.n .i64 0,.n .i64 65536,.n .i64 65536,.n .i64 0,.n .i64 0,.n .i64 0,.n .i64 0,.n .i64 0,.n .i64 0,.n .i64 65536,.n .i64 65536,.n .i64 0,.n .i64 64,.n .i64 2,.n .i64 8,.n .i64 0,.n .i64 0]]))]
noncomputable def t54:Known:=(54,k54) :: t84
theorem ok54:Known.Ok Tryz.prog t54:=Known.add yY yQ (ok84) (N:=60) (by kernel_rfl)
noncomputable def k32:List (List PV × Ret):=[([.a [.l [[.s (ByteArray.mk #[97]),.n .i64 4,.n .i64 (-1),.n .i64 0,.n .i64 0,.n .i64 0,.n .i64 0,.n .i64 64,.n .i64 1,.n .i64 65536,.n .i64 65536,.n .i64 65536],[.s (ByteArray.mk #[98]),.n .i64 5,.n .i64 0,.n .i64 0,.n .i64 0,.n .i64 0,.n .i64 0,.n .i64 64,.n .i64 1,.n .i64 65536,.n .i64 65536,.n .i64 65536]],.l []],.l [[.n .i64 0,.n .i64 1,.n .i64 0,.n .i64 0,.n .i64 0,.n .i64 0,.n .i64 1,.n .i64 0,.n .i64 0,.n .i64 9]],.l [[.n .i64 3,.n .i64 4],[.n .i64 5,.n .i64 7]]],.ow 47 2 (.l [[.n .i64 5,.n .i64 7]])),
 ([.a [.l [[.s (ByteArray.mk #[97]),.n .i64 4,.n .i64 (-1),.n .i64 0,.n .i64 0,.n .i64 0,.n .i64 0,.n .i64 64,.n .i64 1,.n .i64 65536,.n .i64 65536,.n .i64 65536],[.s (ByteArray.mk #[98]),.n .i64 5,.n .i64 0,.n .i64 0,.n .i64 0,.n .i64 0,.n .i64 0,.n .i64 64,.n .i64 1,.n .i64 65536,.n .i64 65536,.n .i64 65536]],.l []],.l [[.n .i64 0,.n .i64 1,.n .i64 0,.n .i64 0,.n .i64 0,.n .i64 0,.n .i64 1,.n .i64 0,.n .i64 0,.n .i64 9]],.l [[.n .i64 0,.n .i64 64],[.n .i64 2,.n .i64 8]]],.ow 47 2 (.l [[.n .i64 2,.n .i64 8]]))]
noncomputable def t32:Known:=(32,k32) :: t54
theorem ok32:Known.Ok Tryz.prog t32:=Known.add yY yQ (ok54) (N:=60) (by kernel_rfl)
theorem call:yZ Tryz.prog 6 [] (.v (.b true)):=qVG (N:=60) yY yQ (Known.ok (ok32)) (by kernel_rfl:run T (Known.orc t32) 60 6 []=some (.v (.b true)))
end Go.Proofs.YtfcofnclgajfeaaGreat.Ax
namespace Go.Rx
open Go.RowKit Go.Sx Go.ChangeShapes Go.WideShapes
section
variable {P:Program} {W:World} {H:Type} {enc:TypeId × Value→H}
def qHH (W:World) (v:Value) (L:List Int):Prop:=RP (fun k=>k < W.heap.size) W (qHK L) v∧L.length≤9223372036854775807∧∀ x ∈ L,In64 x
theorem zYQ {t e:TypeId} {v:Value} {d:DataW H} {p:List MemPlace} (ht:P.underlying t=some (.slice e)) (he:P.underlying e=some (.int .i64)) (hc:P.cellsOf e=1)
  {r:Reach} {base:Nat} (hv:Value.okWide P W r base t v) (h:DataW.Trod enc P W 0 (fun _=>true) true t v d p):∃ L:List Int,qHH W v L:=by
 obtain ⟨a,l,c,rfl⟩:=slice_of ht hv;obtain ⟨fuel,h⟩:=h;have h':DataW.trod enc P W 0 (fun _=>true) true fuel t [.slice a l c]=some (d,p):=h;rcases open_ints ht he hc h' with ⟨h1,_⟩ | ⟨a',len,cap,zs,h1,_,hlc,hcap,hz,_,hcell,hwf⟩
 ·simp at h1;obtain ⟨rfl,rfl,rfl⟩:=h1;exact ⟨[],.l0 none 0,by simp,fun x hx=>by cases hx⟩
 ·simp at h1;obtain ⟨rfl,rfl,rfl⟩:=h1;simp only [if_true] at hz;have hlen:(zs.take l).length=l:=by simp; omega
  have hI:IntsAt W W.heap.size (.slice (some a') l c) (zs.take l):=⟨by have:maxLen=9223372036854775807:=rfl; omega,some a',c,by rw [hlen],fun j hj=>by
   rw [hlen] at hj;have h0:=hcell 0 (by omega);have hj':=hcell j (by omega);have hsp:a'.spot=none:=by
    have e:a'.add 0=a':=by simp [Addr.add]
    rw [e] at h0;unfold World.cell? at h0;cases hb:W.heap[a'.block]? with
    | none=>simp [hb] at h0
    | some o=>cases o <;> simp [hb] at h0; exact h0.1
   obtain ⟨bb,off,sp⟩:=a';simp only at hsp;subst hsp;rw [qZL] at hj';refine ⟨bb,off,rfl,?_,?_⟩
   ·unfold World.cell? at hj';cases hb:W.heap[bb]? with
    | none=>simp [hb] at hj'
    | some o=>exact qQU hb
   ·rw [hj'];simp [vZG,vZV,hj]⟩
  refine ⟨zs.take l,?_,hI.1,fun x hx => ?_⟩
  ·have:=rp_of_ints (F:=fun k=>k < W.heap.size) (w:=W) (L:=zs.take l) (a:=some a') (c:=c) (by rw [hlen]; exact hI) (by rw [hlen]; exact hlc) fun k hk=>hk
   rw [hlen] at this;exact this
  ·have:=hwf x (List.mem_of_mem_take hx)
   simpa [Lit.wf,IntKind.has,IntKind.min,IntKind.max,IntKind.signed,IntKind.bits,In64] using this
end
end Go.Rx
namespace Go.Proofs.YtfcofnclgajfeaaGreat
open Go.Rx Go.Sx Go.RowKit Od Nb Nd Nx
theorem wManifoldProves (v0:Value) (js0:Nat→J) (ms0:Nat→Ms) (n0 m0:Nat) (v1:Value) (cs1:Nat→Cn) (c1:Nat) (v2:Value) (L2:List Int) (v3:Value) (L3:List Int) (a4:Int) (v5:Value) (L5:List Int) (v6:Value) (L6:List Int) (v7:Value) (L7:List Int) (v8:Value) (L8:List Int) (a9:Int) (W:World) (h0:RP (fun k=>k < W.heap.size) W (.a [.lf n0 (fJ js0),.lf m0 (fM ms0)]) v0) (h1:RP (fun k=>k < W.heap.size) W (.lf c1 (fC cs1)) v1) (h2:qHH W v2 L2) (h3:qHH W v3 L3) (h5:qHH W v5 L5) (h6:qHH W v6 L6) (h7:qHH W v7 L7) (h8:qHH W v8 L8):Calls Tryz.prog 3 #[v0,v1,v2,v3,.int .i64 a4,v5,v6,v7,v8,.int .i64 a9] W (Rets (.bool true) W) :=
 qVB (Tg.snd_law _ _ _ _ _ _ _ _ _ _ _ _ _ _ h2.2.1 h3.2.1 h5.2.1 h6.2.1 h7.2.1 h8.2.1 Ax.call) rfl (qYL h0 (qYL h1 (qYL h2.1 (qYL h3.1 (qYL (.n _ _) (qYL h5.1 (qYL h6.1 (qYL h7.1 (qYL h8.1 (qYL (.n _ _) yQD))))))))))
end Go.Proofs.YtfcofnclgajfeaaGreat

/- Part 17 of the texts behind the last one: rules and contracts. No condition. -/
import Derived.Test.YtgmbkkkbfbocnaaGreatGH16
open Bool renaming and_eq_true → vQJ, and_self → vZJ
open Go.IntKind renaming wrap → vJJ
namespace Go.Proofs.YtgmbkkkbfbocnaaGreat.Ho
open Go.Rx Rt Go.Sx Go.RowKit Od Na Nb Nc Nx Nf Nl Nm Ga Gb Gc Gd Ge Gf Gg Sn Ha Hb Hc Hd He Hf Hg Hh Hi Hj Hk Hm Hn
def grQ (ws:Wsp) (k x y:Int):Nat→Int:=bif (decide (0 < (ws.ng:Int)) && decide (0 < (andI .i64 k 3))) then (fun v=>(bif (Nat.beq v 0) then (max 0 (min 64 (vJJ .i64 (((ws.gr ((k % (ws.ng:Int))).toNat).cf 0) + (vJJ .i64 ((x % 5) - 2)))))) else (max 0 (min 64 (vJJ .i64 (((ws.gr ((k % (ws.ng:Int))).toNat).cf 1) + (vJJ .i64 ((y % 5) - 2)))))))) else (fun v=>(bif (Nat.beq v 0) then (x % 65) else (y % 65)))
noncomputable def xVH (_:Wsp) (k x y:Int):OrS:=orS [(20,o_rn)] []
noncomputable def kUU (_:Wsp) (k x y:Int):List (List Nat × jG):=[]
set_option maxRecDepth 100000 in
theorem xWG (ws:Wsp) (k x y:Int):qYU Tf (xVH ws k x y) (qZ (kUU ws k x y)) 60 26 [.a (wP ws),.n .i64 k,.n .i64 x,.n .i64 y] =
 (bif (gF1 crn ern (x,65)) then (bif (gF1 crn ern (y,65)) then (bif (decide (0 < (ws.ng:Int))) then (bif (decide (0 < (andI .i64 k 3))) then (bif (gF1 crn ern (k,(ws.ng:Int))) then (bif (inB (k % (ws.ng:Int)) ws.ng) then (bif (inB 0 (ws.gr ((k % (ws.ng:Int))).toNat).na) then (bif (gF1 crn ern (x,5)) then (bif (inB 1 (ws.gr ((k % (ws.ng:Int))).toNat).na) then (bif (gF1 crn ern (y,5)) then some (.ow 2 1 (.fo 2 (fun v=>[.n .i64 (bif (Nat.beq v 0) then (max 0 (min 64 (vJJ .i64 (((ws.gr ((k % (ws.ng:Int))).toNat).cf 0) + (vJJ .i64 ((x % 5) - 2)))))) else (max 0 (min 64 (vJJ .i64 (((ws.gr ((k % (ws.ng:Int))).toNat).cf 1) + (vJJ .i64 ((y % 5) - 2)))))))])),[])
 else none)
 else none)
 else none)
 else none)
 else none)
 else none)
 else some (.ow 2 1 (.fo 2 (fun v=>[.n .i64 (bif (Nat.beq v 0) then (x % 65) else (y % 65))])),[]))
 else some (.ow 2 1 (.fo 2 (fun v=>[.n .i64 (bif (Nat.beq v 0) then (x % 65) else (y % 65))])),[]))
 else none)
 else none):=by kernel_rfl
theorem uQL (ws:Wsp) (k x y:Int) (hg:∀ i,i < ws.ng→(ws.gr i).na=2) (_:ws.ng≤9223372036854775807):yK Tryz.prog 26 [.a (wP ws),.n .i64 k,.n .i64 x,.n .i64 y] (.ow 2 1 (.fo 2 (fQ (grQ ws k x y)))):=by
 refine yQ (N:=60) (LO:=qZ (kUU ws k x y)) kX zW (uK (l:=[(20,o_rn)]) (m:=[]) ⟨Sn.ok_rn,trivial⟩ trivial) (fun p S hp => ?_) ?_
 ·refine zG (L:=qQ Tf 26) (l:=(kUU ws k x y)) (show AllP _ (kUU ws k x y) from trivial) p S hp
 ·refine (xWG ws k x y).trans ?_;unfold grQ;rw [kV (C:=crn) (t:=(x,65)) ⟨by decide,by decide⟩,kV (C:=crn) (t:=(y,65)) ⟨by decide,by decide⟩,vYV,vYV];by_cases h:0 < (ws.ng:Int)
  ·rw [vJQ h];cases hk:decide (0 < (andI .i64 k 3)) with
   | false=>rfl
   | true =>
    have h1:=Int.emod_nonneg k (show (ws.ng:Int) ≠ 0 by omega);have h2:=Int.emod_lt_of_pos k h;have h3:=hg (k % (ws.ng:Int)).toNat (by omega);have h4:inB (k % (ws.ng:Int)) ws.ng=true:=by
     have e:k % (ws.ng:Int)=(((k % (ws.ng:Int)).toNat:Nat):Int):=by omega
     rw [e]; exact yV (by omega)
    rw [kV (C:=crn) (t:=(k,(ws.ng:Int))) ⟨h,by omega⟩,h4,h3,kV (C:=crn) (t:=(x,5)) ⟨by decide,by decide⟩,kV (C:=crn) (t:=(y,5)) ⟨by decide,by decide⟩];rfl
  ·rw [vYH h];rfl
theorem xZF {ws:Wsp} (h:MadeW ws) (k x y:Int):yK Tryz.prog 26 [.a (wP ws),.n .i64 k,.n .i64 x,.n .i64 y] (.v (.lf 2 (fQ (grQ ws k x y)))) :=
 zVF (uQL ws k x y (fun i hi=>(h.gr i hi).2.2.1) (by have:=h.ng; omega))
theorem kVA (x k H R:Int) (h:(0 < k∧k≤9223372036854775807)∧(k=9→x % 9=H)∧(k=3→x % 3=R)):yK Tryz.prog 20 [.n .i64 x,.n .i64 k] (.v (.n .i64 (bif decide (k=9) then H else bif decide (k=3) then R else x % k))):=by
 have e:(bif decide (k=9) then H else bif decide (k=3) then R else x % k)=x % k:=by
  by_cases h9:k=9
  ·rw [vJQ h9,vYV,h9]; exact (h.2.1 h9).symm
  ·rw [vYH h9,vYG];by_cases h3:k=3
   ·rw [vJQ h3,vYV,h3]; exact (h.2.2 h3).symm
   ·rw [vYH h3,vYG]
 rw [e]; exact jJF x k h.1
end Go.Proofs.YtgmbkkkbfbocnaaGreat.Ho
namespace Go.Proofs.YtgmbkkkbfbocnaaGreat.So
open Go.Rx Rt Go.Sx Go.RowKit Od Nb Sn
theorem yVC {f:Nat} {hs:List HV} {ps qs:List PV} {x y:PV} (hs':Same x y) (h:qWG Tryz.prog f hs ps x qs):qWG Tryz.prog f hs ps y qs :=
 ⟨h.1,fun w F b vals us ty h1 h2 h3 h4 h5 h6 h7 h8=>(h.2 w F b vals us ty h1 h2 h3 h4 h5 h6 h7 h8).mono fun _ w' ⟨v,F',us',ty',he,hg,f1,f2,hr,hq⟩=>⟨v,F',us',ty',he,hg,f1,f2,hs' F' w' v hr,hq⟩⟩
def cjt0 (t:Nat × Nat × (Nat→Int) × Nat):Prop:=t.2.1≤t.1∧t.1≤9223372036854775807∧t.2.2.2 < 10
theorem yYL:∃ F:Nat × Nat × (Nat→Int) × Nat→J × Nat,∀ t,cjt0 t→((F t).2≤t.1∧JM t.2.2.2 (F t).1)∧qWG Tryz.prog 77 [.p pid 0,.v (.n .i64 (t.2.2.2:Int))] [.lf t.1 (fQ t.2.2.1),.n .i64 (t.2.1:Int)] (.a (jp (F t).1)) [.lf t.1 (fQ t.2.2.1),.n .i64 ((F t).2:Int)]:=by
 have each:∀ t:Nat × Nat × (Nat→Int) × Nat,∃ y:J × Nat,cjt0 t→(y.2≤t.1∧JM t.2.2.2 y.1)∧qWG Tryz.prog 77 [.p pid 0,.v (.n .i64 (t.2.2.2:Int))] [.lf t.1 (fQ t.2.2.1),.n .i64 (t.2.1:Int)] (.a (jp y.1)) [.lf t.1 (fQ t.2.2.1),.n .i64 (y.2:Int)]:=fun t=>by
  by_cases h:cjt0 t
  ·obtain ⟨j,m',h1,h2⟩:=kUL t.1 t.2.1 t.2.2.1 t.2.2.2 h.1 h.2.1 h.2.2;exact ⟨(j,m'),fun _=>⟨h1,h2⟩⟩
  ·exact ⟨(⟨ByteArray.empty,0,0,⟨0,0,0⟩,0,0,0,0,0,0⟩,0),fun h'=>absurd h' h⟩
 exact ⟨fun t=>Classical.choose (each t),fun t=>Classical.choose_spec (each t)⟩
noncomputable def jtF:Nat × Nat × (Nat→Int) × Nat→J × Nat:=Classical.choose yYL
theorem yHY {t:Nat × Nat × (Nat→Int) × Nat} (h:cjt0 t):((jtF t).2≤t.1∧JM t.2.2.2 (jtF t).1)∧qWG Tryz.prog 77 [.p pid 0,.v (.n .i64 (t.2.2.2:Int))] [.lf t.1 (fQ t.2.2.1),.n .i64 (t.2.1:Int)] (.a (jp (jtF t).1)) [.lf t.1 (fQ t.2.2.1),.n .i64 ((jtF t).2:Int)]:=Classical.choose_spec yYL t h
def cjt:Nat × Nat × (Nat→Int) × Int→Prop:=fun t=>match t with | (w,m,_,i)=>m≤w∧w≤9223372036854775807∧0≤i∧i < 10
def hjt:Nat × Nat × (Nat→Int) × Int→List HV:=fun t=>match t with | (_,_,_,i)=>[.p pid 0,.v (.n .i64 i)]
def ejt:Nat × Nat × (Nat→Int) × Int→List PV:=fun t=>match t with | (w,m,e,_)=>[.lf w (fQ e),.n .i64 (m:Int)]
noncomputable def xjt:Nat × Nat × (Nat→Int) × Int→PV:=fun t=>match t with | (w,m,e,i)=>.a (jp (jtF (w,m,e,i.toNat)).1)
noncomputable def qjt:Nat × Nat × (Nat→Int) × Int→List PV:=fun t=>match t with | (w,m,e,i)=>[.lf w (fQ e),.n .i64 (((jtF (w,m,e,i.toNat)).2:Nat):Int)]
def djt:List HV→List PV→Nat × Nat × (Nat→Int) × Int:=fun hs ps=>match hs,ps with
 | [_,.v (.n _ i)],[.lf w f,.n _ c]=>(w,c.toNat,unFQ f,i)
 | _,_=>(0,0,fun _=>0,0)
noncomputable def o_jt:List HV→List PV→Option (Bool × (PV × List PV)):=o_fb djt cjt hjt ejt xjt qjt
theorem xGW:zVW Tryz.prog 77 o_jt:=kJG fun t h=>by
 obtain ⟨w,m,e,i⟩:=t;exact (by
  have h1:=h.2.2.1;have h2:=h.2.2.2
  have:=(yHY (t:=(w,m,e,i.toNat)) ⟨h.1,h.2.1,(by show i.toNat < 10; omega)⟩).2
  dsimp only at this;rw [show ((i.toNat:Nat):Int)=i by omega] at this;exact this)
noncomputable def orRB:OrS:=orS [] [(30,o_nx),(77,o_jt)]
noncomputable def hRj (w:Nat) (e:Nat→Int) (n:Int) (m1:Nat) (i:Int) (m2:Nat) (r:Nat) (f:Nat→List PV):St:=⟨[(0,.p 1000000 0),(2,.p 2 0),(3,.p 3 0),(4,.v (.n .i64 n)),(5,.v (.n .i64 i))],[(1000000,.blk [.v (.lf w (fQ e)),.v (.n .i64 (m2:Int))]),(2,.blk [.nl,.nl]),(3,.blk [.o 21,.nl]),(21,.reg 88 12 (.fo r f))]⟩
set_option maxRecDepth 100000 in
theorem rdRj (G:St→Option (Ret × Mem)) (K:Cont) (w:Nat) (e:Nat→Int) (n:Int) (m1:Nat) (i:Int) (m2:Nat) (r:Nat) (f:Nat→List PV):kQ 60 (cxS Tf orRB 60 29 (ntmF Tf 29)) (evX Tf orRB 60 29 (ntmF Tf 29)) (qZ []) (qQ Tf 29 [0,1,0,1,1,1]) [0,1,0,1,1,1] (Tf.hint 29 (qJ (qQ Tf 29 [0,1,0,1,1,1]))) K G (hRj w e n m1 i m2 r f) =
 (bif (decide (i < n)) then (bif (gB1 cjt hjt ejt (w,m2,e,i)) then (bif (decide (r + 1≤1000000)) then (G (hRj w e n m1 (vJJ .i64 (i + 1)) ((jtF (w,m2,e,(i).toNat)).2) (r + 1) (fun v=>uV (Nat.beq v r) [.s (jtF (w,m2,e,(i).toNat)).1.name,.n .i64 (jtF (w,m2,e,(i).toNat)).1.kind,.n .i64 (jtF (w,m2,e,(i).toNat)).1.parent,.n .i64 (jtF (w,m2,e,(i).toNat)).1.off.x,.n .i64 (jtF (w,m2,e,(i).toNat)).1.off.y,.n .i64 (jtF (w,m2,e,(i).toNat)).1.off.z,.n .i64 (jtF (w,m2,e,(i).toNat)).1.lo,.n .i64 (jtF (w,m2,e,(i).toNat)).1.hi,.n .i64 (jtF (w,m2,e,(i).toNat)).1.weight,.n .i64 (jtF (w,m2,e,(i).toNat)).1.speed,.n .i64 (jtF (w,m2,e,(i).toNat)).1.accel,.n .i64 (jtF (w,m2,e,(i).toNat)).1.torque] (f v))))
 else none)
 else none)
 else (K (.exit 0) ⟨[(0,.p 1000000 0),(2,.p 2 0),(3,.p 3 0),(4,.v (.n .i64 n))],[(1000000,.blk [.v (.lf w (fQ e)),.v (.n .i64 (m2:Int))]),(2,.blk [.nl,.nl]),(3,.blk [.o 21,.nl]),(21,.reg 88 12 (.fo r f))]⟩)):=by kernel_rfl
noncomputable def zRj (w:Nat) (e:Nat→Int) (n:Int) (m1:Nat):St:=⟨[(0,.p 1000000 0),(2,.p 2 0),(3,.p 3 0),(4,.v (.n .i64 n)),(5,.v (.n .i64 0))],[(1000000,.blk [.v (.lf w (fQ e)),.v (.n .i64 (m1:Int))]),(2,.blk [.nl,.nl]),(3,.blk [.nl,.nl])]⟩
set_option maxRecDepth 100000 in
theorem rzRj (G:St→Option (Ret × Mem)) (K:Cont) (w:Nat) (e:Nat→Int) (n:Int) (m1:Nat):kQ 60 (cxS Tf orRB 60 29 (ntmF Tf 29)) (evX Tf orRB 60 29 (ntmF Tf 29)) (qZ []) (qQ Tf 29 [0,1,0,1,1,1]) [0,1,0,1,1,1] (Tf.hint 29 (qJ (qQ Tf 29 [0,1,0,1,1,1]))) K G (zRj w e n m1) =
 (bif (decide (0 < n)) then (bif (gB1 cjt hjt ejt (w,m1,e,0)) then (G (hRj w e n m1 1 ((jtF (w,m1,e,(0:Int).toNat)).2) 1 (fun _=>[.s (jtF (w,m1,e,(0:Int).toNat)).1.name,.n .i64 (jtF (w,m1,e,(0:Int).toNat)).1.kind,.n .i64 (jtF (w,m1,e,(0:Int).toNat)).1.parent,.n .i64 (jtF (w,m1,e,(0:Int).toNat)).1.off.x,.n .i64 (jtF (w,m1,e,(0:Int).toNat)).1.off.y,.n .i64 (jtF (w,m1,e,(0:Int).toNat)).1.off.z,.n .i64 (jtF (w,m1,e,(0:Int).toNat)).1.lo,.n .i64 (jtF (w,m1,e,(0:Int).toNat)).1.hi,.n .i64 (jtF (w,m1,e,(0:Int).toNat)).1.weight,.n .i64 (jtF (w,m1,e,(0:Int).toNat)).1.speed,.n .i64 (jtF (w,m1,e,(0:Int).toNat)).1.accel,.n .i64 (jtF (w,m1,e,(0:Int).toNat)).1.torque])))
 else none)
 else (K (.exit 0) ⟨[(0,.p 1000000 0),(2,.p 2 0),(3,.p 3 0),(4,.v (.n .i64 n))],[(1000000,.blk [.v (.lf w (fQ e)),.v (.n .i64 (m1:Int))]),(2,.blk [.nl,.nl]),(3,.blk [.nl,.nl])]⟩)):=by kernel_rfl
noncomputable def nxR (w:Nat) (e:Nat→Int) (i:Nat) (t:Nat × (Nat→List PV)):Nat × (Nat→List PV):=((jtF (w,t.1,e,i)).2,fun v=>uV (Nat.beq v i) (jp (jtF (w,t.1,e,i)).1) (t.2 v))
noncomputable def rjS (w:Nat) (e:Nat→Int) (n:Int) (m1:Nat):Nat × (Nat→List PV):=qGV (nxR w e) (n.toNat - 1) 1 ((jtF (w,m1,e,0)).2,fun _=>jp (jtF (w,m1,e,0)).1)
theorem kGU {w:Nat} {e:Nat→Int} {m1:Nat} (_:m1≤w) (hw:w≤9223372036854775807):∀ (i:Nat) (t:Nat × (Nat→List PV)),i < 10→(t.1≤w∧∀ v,v < i→∃ j,t.2 v=jp j∧JM v j)→((nxR w e i t).1≤w∧∀ v,v < i + 1→∃ j,(nxR w e i t).2 v=jp j∧JM v j):=fun i t hi h=>by
 have hj:=(yHY (t:=(w,t.1,e,i)) ⟨h.1,hw,hi⟩).1;refine ⟨hj.1,fun v hv => ?_⟩;show ∃ j,uV (Nat.beq v i) _ (t.2 v)=jp j∧_;rw [qQZ,qGH];by_cases e1:v=i
 ·subst e1;exact ⟨_,by rw [vJQ rfl]; rfl,hj.2⟩
 ·obtain ⟨j,h1,h2⟩:=h.2 v (by omega);exact ⟨j,by rw [vYH e1]; exact h1,h2⟩
theorem lpRj (K:Cont) (w:Nat) (e:Nat→Int) (n:Int) (m1:Nat) (hm:m1≤w) (hw:w≤9223372036854775807) (_:1≤n∧n≤9):LFX 60 (cxS Tf orRB 60 29 (ntmF Tf 29)) (evX Tf orRB 60 29 (ntmF Tf 29)) (qZ []) (qQ Tf 29 [0,1,0,1,1,1]) [0,1,0,1,1,1] (Tf.hint 29 (qJ (qQ Tf 29 [0,1,0,1,1,1]))) K 60 (zRj w e n m1)=(K (.exit 0) ⟨[(0,.p 1000000 0),(2,.p 2 0),(3,.p 3 0),(4,.v (.n .i64 n))],[(1000000,.blk [.v (.lf w (fQ e)),.v (.n .i64 (((rjS w e n m1).1:Nat):Int))]),(2,.blk [.nl,.nl]),(3,.blk [.o 21,.nl]),(21,.reg 88 12 (.fo n.toNat (rjS w e n m1).2))]⟩):=by
 have hj:=(yHY (t:=(w,m1,e,0)) ⟨hm,hw,(by show 0 < 10; decide)⟩).1;refine (rzRj (LFX 60 (cxS Tf orRB 60 29 (ntmF Tf 29)) (evX Tf orRB 60 29 (ntmF Tf 29)) (qZ []) (qQ Tf 29 [0,1,0,1,1,1]) [0,1,0,1,1,1] (Tf.hint 29 (qJ (qQ Tf 29 [0,1,0,1,1,1]))) K 59) K w e n m1).trans ?_;rw [vJQ (show 0 < n by omega),vYV,uZ (C:=cjt) (t:=(w,m1,e,0)) ⟨hm,hw,by decide,by decide⟩,vYV];refine (uH (L:=LFX 60 (cxS Tf orRB 60 29 (ntmF Tf 29)) (evX Tf orRB 60 29 (ntmF Tf 29)) (qZ []) (qQ Tf 29 [0,1,0,1,1,1]) [0,1,0,1,1,1] (Tf.hint 29 (qJ (qQ Tf 29 [0,1,0,1,1,1]))) K) (stp:=kQ 60 (cxS Tf orRB 60 29 (ntmF Tf 29)) (evX Tf orRB 60 29 (ntmF Tf 29)) (qZ []) (qQ Tf 29 [0,1,0,1,1,1]) [0,1,0,1,1,1] (Tf.hint 29 (qJ (qQ Tf 29 [0,1,0,1,1,1]))) K) (fun _ _=>rfl) (fun (i:Nat) (t:Nat × (Nat→List PV))=>hRj w e n m1 (i:Int) t.1 i t.2) (fun i t=>t.1≤w∧∀ v,v < i→∃ j,t.2 v=jp j∧JM v j) (fun _ _=>true) (nxR w e) (c:=n.toNat) (fun t=>(K (.exit 0) ⟨[(0,.p 1000000 0),(2,.p 2 0),(3,.p 3 0),(4,.v (.n .i64 n))],[(1000000,.blk [.v (.lf w (fQ e)),.v (.n .i64 ((t.1:Nat):Int))]),(2,.blk [.nl,.nl]),(3,.blk [.o 21,.nl]),(21,.reg 88 12 (.fo n.toNat t.2))]⟩)) (fun _ _=>none) (fun G i t hi hv => ?_) (fun i t hi hv _=>kGU hm hw i t (by omega) hv) (fun G t hv => ?_) (n.toNat - 1) 1 59 ((jtF (w,m1,e,0)).2,fun _=>jp (jtF (w,m1,e,0)).1) (by omega) (by omega) ⟨hj.1,fun v hv=>⟨_,rfl,(show v=0 by omega) ▸ hj.2⟩⟩).trans (qZI (n.toNat - 1) 1 _)
 ·refine (rdRj G K w e n m1 i t.1 i t.2).trans ?_;rw [vJQ (show (i:Int) < n by omega),vYV,uZ (C:=cjt) (t:=(w,t.1,e,(i:Int))) ⟨hv.1,hw,by omega,by omega⟩,vYV,vJQ (show i + 1≤1000000 by omega),vYV,uJ (by omega)];rfl
 ·refine (rdRj G K w e n m1 (n.toNat:Int) t.1 n.toNat t.2).trans ?_;rw [vYH (show ¬ ((n.toNat:Nat):Int) < n by omega)];rfl
noncomputable def hRm (w:Nat) (e:Nat→Int) (n:Int) (m1 r1:Nat) (f1:Nat→List PV) (k0:Int) (k:Int) (m2:Nat) (r2:Nat) (g:Nat→List PV):St:=⟨[(0,.p 1000000 0),(2,.p 2 0),(3,.p 3 0),(4,.v (.n .i64 n)),(6,.v (.n .i64 k))],[(1000000,.blk [.v (.lf w (fQ e)),.v (.n .i64 (m2:Int))]),(2,.blk [.nl,.nl]),(3,.blk [.o 21,.o 46]),(21,.reg 88 12 (.fo r1 f1)),(46,.reg 128 5 (.fo r2 g))]⟩
set_option maxRecDepth 100000 in
theorem rdRm (G:St→Option (Ret × Mem)) (K:Cont) (w:Nat) (e:Nat→Int) (n:Int) (m1 r1:Nat) (f1:Nat→List PV) (k0:Int) (k:Int) (m2:Nat) (r2:Nat) (g:Nat→List PV):kQ 60 (cxS Tf orRB 60 29 (ntmF Tf 29)) (evX Tf orRB 60 29 (ntmF Tf 29)) (qZ []) (qQ Tf 29 [0,1,0,1,1,1,1]) [0,1,0,1,1,1,1] (Tf.hint 29 (qJ (qQ Tf 29 [0,1,0,1,1,1,1]))) K G (hRm w e n m1 r1 f1 k0 k m2 r2 g) =
 (bif (decide (0 < k)) then (bif (gB1 cnx hnx enx (w,m2,e,n)) then (bif (gB1 cnx hnx enx (w,(mA w m2 1),e,9000)) then (bif (gB1 cnx hnx enx (w,(mA w m2 2),e,7)) then (bif (gB1 cnx hnx enx (w,(mA w m2 3),e,5)) then (bif (decide (r2 + 1≤1000000)) then (G (hRm w e n m1 r1 f1 k0 (vJJ .i64 (k - 1)) (mA w m2 4) (r2 + 1) (fun v=>uV (Nat.beq v r2) [.n .i64 (nxV e w m2 n),.n .i64 (vJJ .i64 (1 + (nxV e w (mA w m2 1) 9000))),.n .i64 (vJJ .i64 ((vJJ .i64 ((nxV e w (mA w m2 2) 7) - 3)) * 32768)),.n .i64 0,.n .i64 (vJJ .i64 ((vJJ .i64 ((nxV e w (mA w m2 3) 5) - 2)) * 32768))] (g v))))
 else none)
 else none)
 else none)
 else none)
 else none)
 else (K (.exit 2) ⟨[(2,.p 2 0),(3,.p 3 0)],[(1000000,.blk [.v (.lf w (fQ e)),.v (.n .i64 (m2:Int))]),(2,.blk [.nl,.nl]),(3,.blk [.o 21,.o 46]),(21,.reg 88 12 (.fo r1 f1)),(46,.reg 128 5 (.fo r2 g))]⟩)):=by kernel_rfl
noncomputable def zRm (w:Nat) (e:Nat→Int) (n:Int) (m1 r1:Nat) (f1:Nat→List PV) (k0:Int):St:=⟨[(0,.p 1000000 0),(2,.p 2 0),(3,.p 3 0),(4,.v (.n .i64 n)),(6,.v (.n .i64 k0))],[(1000000,.blk [.v (.lf w (fQ e)),.v (.n .i64 (m1:Int))]),(2,.blk [.nl,.nl]),(3,.blk [.o 21,.nl]),(21,.reg 88 12 (.fo r1 f1))]⟩
set_option maxRecDepth 100000 in
theorem rzRm (G:St→Option (Ret × Mem)) (K:Cont) (w:Nat) (e:Nat→Int) (n:Int) (m1 r1:Nat) (f1:Nat→List PV) (k0:Int):kQ 60 (cxS Tf orRB 60 29 (ntmF Tf 29)) (evX Tf orRB 60 29 (ntmF Tf 29)) (qZ []) (qQ Tf 29 [0,1,0,1,1,1,1]) [0,1,0,1,1,1,1] (Tf.hint 29 (qJ (qQ Tf 29 [0,1,0,1,1,1,1]))) K G (zRm w e n m1 r1 f1 k0) =
 (bif (decide (0 < k0)) then (bif (gB1 cnx hnx enx (w,m1,e,n)) then (bif (gB1 cnx hnx enx (w,(mA w m1 1),e,9000)) then (bif (gB1 cnx hnx enx (w,(mA w m1 2),e,7)) then (bif (gB1 cnx hnx enx (w,(mA w m1 3),e,5)) then (G (hRm w e n m1 r1 f1 k0 (vJJ .i64 (k0 - 1)) (mA w m1 4) 1 (fun _=>[.n .i64 (nxV e w m1 n),.n .i64 (vJJ .i64 (1 + (nxV e w (mA w m1 1) 9000))),.n .i64 (vJJ .i64 ((vJJ .i64 ((nxV e w (mA w m1 2) 7) - 3)) * 32768)),.n .i64 0,.n .i64 (vJJ .i64 ((vJJ .i64 ((nxV e w (mA w m1 3) 5) - 2)) * 32768))])))
 else none)
 else none)
 else none)
 else none)
 else (K (.exit 2) ⟨[(2,.p 2 0),(3,.p 3 0)],[(1000000,.blk [.v (.lf w (fQ e)),.v (.n .i64 (m1:Int))]),(2,.blk [.nl,.nl]),(3,.blk [.o 21,.nl]),(21,.reg 88 12 (.fo r1 f1))]⟩)):=by kernel_rfl
noncomputable def msR (w:Nat) (e:Nat→Int) (n:Int) (m:Nat):Ms:=⟨nxV e w m n,vJJ .i64 (1 + (nxV e w (mA w m 1) 9000)),⟨vJJ .i64 ((vJJ .i64 ((nxV e w (mA w m 2) 7) - 3)) * 32768),0,vJJ .i64 ((vJJ .i64 ((nxV e w (mA w m 3) 5) - 2)) * 32768)⟩⟩
def MM (n:Int) (q:Ms):Prop:=(0≤q.link∧q.link < n)∧(1≤q.mass∧q.mass≤65536)∧(-4194304≤q.p.x∧q.p.x≤4194304)∧(-4194304≤q.p.y∧q.p.y≤4194304)∧(-4194304≤q.p.z∧q.p.z≤4194304)
theorem jWC {w:Nat} {e:Nat→Int} {n:Int} (_:1≤n) (m:Nat):MM n (msR w e n m):=by
 have b0:=qQV (e:=e) (w:=w) (m:=m) (k:=n) (by omega);have b1:=qQV (e:=e) (w:=w) (m:=mA w m 1) (k:=9000) (by decide);have b2:=qQV (e:=e) (w:=w) (m:=mA w m 2) (k:=7) (by decide);have b3:=qQV (e:=e) (w:=w) (m:=mA w m 3) (k:=5) (by decide);have h1:vJJ .i64 (1 + (nxV e w (mA w m 1) 9000))=1 + nxV e w (mA w m 1) 9000:=qV (by omega);have h2:vJJ .i64 ((vJJ .i64 ((nxV e w (mA w m 2) 7) - 3)) * 32768)=(nxV e w (mA w m 2) 7 - 3) * 32768:=by rw [show vJJ .i64 ((nxV e w (mA w m 2) 7) - 3)=nxV e w (mA w m 2) 7 - 3 from qV (by omega)]; exact qV (by omega)
 have h3:=lY b3;unfold MM msR;dsimp only;rw [h1,h2];omega
noncomputable def nxM (w:Nat) (e:Nat→Int) (n:Int) (i:Nat) (t:Nat × (Nat→List PV)):Nat × (Nat→List PV):=(mA w t.1 4,fun v=>uV (Nat.beq v i) (mp (msR w e n t.1)) (t.2 v))
noncomputable def rmS (w:Nat) (e:Nat→Int) (n:Int) (m1:Nat) (k0:Int):Nat × (Nat→List PV):=qGV (nxM w e n) (k0.toNat - 1) 1 (mA w m1 4,fun _=>mp (msR w e n m1))
theorem kGX {w:Nat} {e:Nat→Int} {n:Int} (hn:1≤n):∀ (i:Nat) (t:Nat × (Nat→List PV)),(t.1≤w∧∀ v,v < i→∃ j,t.2 v=mp j∧MM n j)→((nxM w e n i t).1≤w∧∀ v,v < i + 1→∃ j,(nxM w e n i t).2 v=mp j∧MM n j):=fun i t h=>by
 refine ⟨yG h.1 4,fun v hv => ?_⟩;show ∃ j,uV (Nat.beq v i) _ (t.2 v)=mp j∧_;rw [qQZ,qGH];by_cases e1:v=i
 ·subst e1;exact ⟨_,by rw [vJQ rfl]; rfl,jWC hn t.1⟩
 ·obtain ⟨j,h1,h2⟩:=h.2 v (by omega);exact ⟨j,by rw [vYH e1]; exact h1,h2⟩
theorem lpRm (K:Cont) (w:Nat) (e:Nat→Int) (n:Int) (m1 r1:Nat) (f1:Nat→List PV) (k0:Int) (hm:m1≤w) (hw:w≤9223372036854775807) (hn:1≤n∧n≤9) (_:0≤k0∧k0≤9):LFX 60 (cxS Tf orRB 60 29 (ntmF Tf 29)) (evX Tf orRB 60 29 (ntmF Tf 29)) (qZ []) (qQ Tf 29 [0,1,0,1,1,1,1]) [0,1,0,1,1,1,1] (Tf.hint 29 (qJ (qQ Tf 29 [0,1,0,1,1,1,1]))) K 60 (zRm w e n m1 r1 f1 k0)=(bif decide (0 < k0) then (K (.exit 2) ⟨[(2,.p 2 0),(3,.p 3 0)],[(1000000,.blk [.v (.lf w (fQ e)),.v (.n .i64 (((rmS w e n m1 k0).1:Nat):Int))]),(2,.blk [.nl,.nl]),(3,.blk [.o 21,.o 46]),(21,.reg 88 12 (.fo r1 f1)),(46,.reg 128 5 (.fo (k0).toNat (rmS w e n m1 k0).2))]⟩) else (K (.exit 2) ⟨[(2,.p 2 0),(3,.p 3 0)],[(1000000,.blk [.v (.lf w (fQ e)),.v (.n .i64 ((m1:Nat):Int))]),(2,.blk [.nl,.nl]),(3,.blk [.o 21,.nl]),(21,.reg 88 12 (.fo r1 f1))]⟩)):=by
 refine (rzRm (LFX 60 (cxS Tf orRB 60 29 (ntmF Tf 29)) (evX Tf orRB 60 29 (ntmF Tf 29)) (qZ []) (qQ Tf 29 [0,1,0,1,1,1,1]) [0,1,0,1,1,1,1] (Tf.hint 29 (qJ (qQ Tf 29 [0,1,0,1,1,1,1]))) K 59) K w e n m1 r1 f1 k0).trans ?_;by_cases h0:0 < k0
 ·rw [vJQ h0,vYV,uZ (C:=cnx) (t:=(w,m1,e,n)) ⟨hm,hw,by omega,by omega⟩,vYV,uZ (C:=cnx) (t:=(w,(mA w m1 1),e,9000)) ⟨yG hm 1,hw,by decide,by decide⟩,vYV,uZ (C:=cnx) (t:=(w,(mA w m1 2),e,7)) ⟨yG hm 2,hw,by decide,by decide⟩,vYV,uZ (C:=cnx) (t:=(w,(mA w m1 3),e,5)) ⟨yG hm 3,hw,by decide,by decide⟩,vYV];refine Eq.trans (b:=LFX 60 (cxS Tf orRB 60 29 (ntmF Tf 29)) (evX Tf orRB 60 29 (ntmF Tf 29)) (qZ []) (qQ Tf 29 [0,1,0,1,1,1,1]) [0,1,0,1,1,1,1] (Tf.hint 29 (qJ (qQ Tf 29 [0,1,0,1,1,1,1]))) K 59 (hRm w e n m1 r1 f1 k0 (k0 - ((1:Nat):Int)) (mA w m1 4) 1 (fun _=>mp (msR w e n m1)))) ?_ ((uH (L:=LFX 60 (cxS Tf orRB 60 29 (ntmF Tf 29)) (evX Tf orRB 60 29 (ntmF Tf 29)) (qZ []) (qQ Tf 29 [0,1,0,1,1,1,1]) [0,1,0,1,1,1,1] (Tf.hint 29 (qJ (qQ Tf 29 [0,1,0,1,1,1,1]))) K) (stp:=kQ 60 (cxS Tf orRB 60 29 (ntmF Tf 29)) (evX Tf orRB 60 29 (ntmF Tf 29)) (qZ []) (qQ Tf 29 [0,1,0,1,1,1,1]) [0,1,0,1,1,1,1] (Tf.hint 29 (qJ (qQ Tf 29 [0,1,0,1,1,1,1]))) K) (fun _ _=>rfl) (fun (i:Nat) (t:Nat × (Nat→List PV))=>hRm w e n m1 r1 f1 k0 (k0 - (i:Int)) t.1 i t.2) (fun i t=>t.1≤w∧∀ v,v < i→∃ j,t.2 v=mp j∧MM n j) (fun _ _=>true) (nxM w e n) (c:=k0.toNat) (fun t=>(K (.exit 2) ⟨[(2,.p 2 0),(3,.p 3 0)],[(1000000,.blk [.v (.lf w (fQ e)),.v (.n .i64 ((t.1:Nat):Int))]),(2,.blk [.nl,.nl]),(3,.blk [.o 21,.o 46]),(21,.reg 88 12 (.fo r1 f1)),(46,.reg 128 5 (.fo k0.toNat t.2))]⟩)) (fun _ _=>none) (fun G i t hi hv => ?_) (fun i t hi hv _=>kGX hn.1 i t hv) (fun G t hv => ?_) (k0.toNat - 1) 1 59 (mA w m1 4,fun _=>mp (msR w e n m1)) (by omega) (by omega) ⟨yG hm 4,fun v hv=>⟨_,rfl,jWC hn.1 m1⟩⟩).trans (qZI (k0.toNat - 1) 1 _))
  ·rw [show vJJ .i64 (k0 - 1)=k0 - ((1:Nat):Int) from qV (by omega)];rfl
  ·refine (rdRm G K w e n m1 r1 f1 k0 (k0 - (i:Int)) t.1 i t.2).trans ?_;have ht:=hv.1;rw [vJQ (show 0 < k0 - (i:Int) by omega),vYV,uZ (C:=cnx) (t:=(w,t.1,e,n)) ⟨ht,hw,by omega,by omega⟩,vYV,uZ (C:=cnx) (t:=(w,(mA w t.1 1),e,9000)) ⟨yG ht 1,hw,by decide,by decide⟩,vYV,uZ (C:=cnx) (t:=(w,(mA w t.1 2),e,7)) ⟨yG ht 2,hw,by decide,by decide⟩,vYV,uZ (C:=cnx) (t:=(w,(mA w t.1 3),e,5)) ⟨yG ht 3,hw,by decide,by decide⟩,vYV,vJQ (show i + 1≤1000000 by omega),vYV,show vJJ .i64 (k0 - (i:Int) - 1)=k0 - ((i + 1:Nat):Int) from by rw [qV (by omega)]; omega];rfl
  ·refine (rdRm G K w e n m1 r1 f1 k0 (k0 - (k0.toNat:Int)) t.1 k0.toNat t.2).trans ?_;rw [vYH (show ¬ 0 < k0 - ((k0.toNat:Nat):Int) by omega)];rfl
 ·rw [vYH h0];rfl
theorem kVE {w:Nat} {e:Nat→Int} {n:Int} {m1:Nat} (hm:m1≤w) (hw:w≤9223372036854775807) (_:1≤n∧n≤9):(rjS w e n m1).1≤w∧∀ v,v < n.toNat→∃ j,(rjS w e n m1).2 v=jp j∧JM v j:=by
 have hj:=(yHY (t:=(w,m1,e,0)) ⟨hm,hw,(by show 0 < 10; decide)⟩).1;exact qQK (Q:=fun i (t:Nat × (Nat→List PV))=>t.1≤w∧∀ v,v < i→∃ j,t.2 v=jp j∧JM v j) (c:=n.toNat) (fun i t hi h=>kGU hm hw i t (by omega) h) (n.toNat - 1) 1 _ (by omega) ⟨hj.1,fun v hv=>⟨_,rfl,(show v=0 by omega) ▸ hj.2⟩⟩
theorem uVF {w:Nat} {e:Nat→Int} {n:Int} {m1:Nat} {k0:Int} (hm:m1≤w) (hn:1≤n) (_:0 < k0):(rmS w e n m1 k0).1≤w∧∀ v,v < k0.toNat→∃ j,(rmS w e n m1 k0).2 v=mp j∧MM n j :=
 qQK (Q:=fun i (t:Nat × (Nat→List PV))=>t.1≤w∧∀ v,v < i→∃ j,t.2 v=mp j∧MM n j) (c:=k0.toNat) (fun i t hi h=>kGX hn i t h) (k0.toNat - 1) 1 _ (by omega) ⟨yG hm 4,fun v hv=>⟨_,rfl,jWC hn m1⟩⟩
theorem jUC {α:Type} {n:Nat} {R:Nat→α→Prop} (d:α) (h:∀ v,v < n→∃ a,R v a):∃ g:Nat→α,∀ v,v < n→R v (g v):=by
 have each:∀ v,∃ a:α,v < n→R v a:=fun v=>by
  by_cases hv:v < n
  ·obtain ⟨a,ha⟩:=h v hv;exact ⟨a,fun _=>ha⟩
  ·exact ⟨d,fun h=>absurd h hv⟩
 exact ⟨fun v=>Classical.choose (each v),fun v=>Classical.choose_spec (each v)⟩
noncomputable def lsrb (w m:Nat) (e:Nat→Int):List (List Nat × jG):=[([0,1,0,1,1,1],sumF (fun t:Int × Nat=>(zRj w e t.1 t.2)) (fun σ=>(slI σ 4,(bkC σ 1000000 1).toNat)) (fun t K=>(bif (decide (t.2≤w∧w≤9223372036854775807) && decide (1≤t.1∧t.1≤9)) then (K (.exit 0) ⟨[(0,.p 1000000 0),(2,.p 2 0),(3,.p 3 0),(4,.v (.n .i64 t.1))],[(1000000,.blk [.v (.lf w (fQ e)),.v (.n .i64 (((rjS w e t.1 t.2).1:Nat):Int))]),(2,.blk [.nl,.nl]),(3,.blk [.o 21,.nl]),(21,.reg 88 12 (.fo (t.1).toNat (rjS w e t.1 t.2).2))]⟩) else none))),([0,1,0,1,1,1,1],sumF (fun t:Int × Nat × Nat × (Nat→List PV) × Int=>(zRm w e t.1 t.2.1 t.2.2.1 t.2.2.2.1 t.2.2.2.2)) (fun σ=>(slI σ 4,(bkC σ 1000000 1).toNat,rgN σ 21,rgF σ 21,slI σ 6)) (fun t K=>(bif (decide (t.2.1≤w∧w≤9223372036854775807) && decide ((1≤t.1∧t.1≤9)∧(0≤t.2.2.2.2∧t.2.2.2.2≤9))) then (bif decide (0 < t.2.2.2.2) then (K (.exit 2) ⟨[(2,.p 2 0),(3,.p 3 0)],[(1000000,.blk [.v (.lf w (fQ e)),.v (.n .i64 (((rmS w e t.1 t.2.1 t.2.2.2.2).1:Nat):Int))]),(2,.blk [.nl,.nl]),(3,.blk [.o 21,.o 46]),(21,.reg 88 12 (.fo t.2.2.1 t.2.2.2.1)),(46,.reg 128 5 (.fo (t.2.2.2.2).toNat (rmS w e t.1 t.2.1 t.2.2.2.2).2))]⟩) else (K (.exit 2) ⟨[(2,.p 2 0),(3,.p 3 0)],[(1000000,.blk [.v (.lf w (fQ e)),.v (.n .i64 ((t.2.1:Nat):Int))]),(2,.blk [.nl,.nl]),(3,.blk [.o 21,.nl]),(21,.reg 88 12 (.fo t.2.2.1 t.2.2.2.1))]⟩)) else none)))]
set_option maxRecDepth 100000 in
theorem pxrb (w m:Nat) (e:Nat→Int):jZX Tf orRB (qZ (lsrb w m e)) 60 29 [.p 1000000 0] [.lf w (fQ e),.n .i64 (m:Int)] =
 (bif (gB1 cnx hnx enx (w,m,e,3)) then (bif (gSt (zRj w e (vJJ .i64 (1 + (nxV e w m 3))) (mA w m 1)) (zRj w e (vJJ .i64 (1 + (nxV e w m 3))) (mA w m 1))) then (bif (decide ((mA w m 1)≤w∧w≤9223372036854775807) && decide (1≤(vJJ .i64 (1 + (nxV e w m 3)))∧(vJJ .i64 (1 + (nxV e w m 3)))≤9)) then (bif (gB1 cnx hnx enx (w,((rjS w e (vJJ .i64 (1 + (nxV e w m 3))) (mA w m 1)).1),e,3)) then (bif (gSt (zRm w e (vJJ .i64 (1 + (nxV e w m 3))) (mA w ((rjS w e (vJJ .i64 (1 + (nxV e w m 3))) (mA w m 1)).1) 1) (((vJJ .i64 (1 + (nxV e w m 3)))).toNat) ((rjS w e (vJJ .i64 (1 + (nxV e w m 3))) (mA w m 1)).2) (nxV e w ((rjS w e (vJJ .i64 (1 + (nxV e w m 3))) (mA w m 1)).1) 3)) (zRm w e (vJJ .i64 (1 + (nxV e w m 3))) (mA w ((rjS w e (vJJ .i64 (1 + (nxV e w m 3))) (mA w m 1)).1) 1) (((vJJ .i64 (1 + (nxV e w m 3)))).toNat) ((rjS w e (vJJ .i64 (1 + (nxV e w m 3))) (mA w m 1)).2) (nxV e w ((rjS w e (vJJ .i64 (1 + (nxV e w m 3))) (mA w m 1)).1) 3))) then (bif (decide ((mA w ((rjS w e (vJJ .i64 (1 + (nxV e w m 3))) (mA w m 1)).1) 1)≤w∧w≤9223372036854775807) && decide ((1≤(vJJ .i64 (1 + (nxV e w m 3)))∧(vJJ .i64 (1 + (nxV e w m 3)))≤9)∧(0≤(nxV e w ((rjS w e (vJJ .i64 (1 + (nxV e w m 3))) (mA w m 1)).1) 3)∧(nxV e w ((rjS w e (vJJ .i64 (1 + (nxV e w m 3))) (mA w m 1)).1) 3)≤9))) then (bif (decide (0 < (nxV e w ((rjS w e (vJJ .i64 (1 + (nxV e w m 3))) (mA w m 1)).1) 3))) then some (.v (.t [.a [.lf (((vJJ .i64 (1 + (nxV e w m 3)))).toNat) ((rjS w e (vJJ .i64 (1 + (nxV e w m 3))) (mA w m 1)).2),.lf ((nxV e w ((rjS w e (vJJ .i64 (1 + (nxV e w m 3))) (mA w m 1)).1) 3)).toNat (rmS w e (vJJ .i64 (1 + (nxV e w m 3))) (mA w ((rjS w e (vJJ .i64 (1 + (nxV e w m 3))) (mA w m 1)).1) 1) (nxV e w ((rjS w e (vJJ .i64 (1 + (nxV e w m 3))) (mA w m 1)).1) 3)).2],.lf w (fQ e),.n .i64 (((rmS w e (vJJ .i64 (1 + (nxV e w m 3))) (mA w ((rjS w e (vJJ .i64 (1 + (nxV e w m 3))) (mA w m 1)).1) 1) (nxV e w ((rjS w e (vJJ .i64 (1 + (nxV e w m 3))) (mA w m 1)).1) 3)).1:Nat):Int)]),[])
 else some (.v (.t [.a [.lf (((vJJ .i64 (1 + (nxV e w m 3)))).toNat) ((rjS w e (vJJ .i64 (1 + (nxV e w m 3))) (mA w m 1)).2),.l []],.lf w (fQ e),.n .i64 (((mA w ((rjS w e (vJJ .i64 (1 + (nxV e w m 3))) (mA w m 1)).1) 1):Nat):Int)]),[]))
 else none)
 else none)
 else none)
 else none)
 else none)
 else none):=by kernel_rfl
theorem uWE (w m:Nat) (e:Nat→Int) (hm:m≤w) (hw:w≤9223372036854775807):qWG Tryz.prog 29 [.p 1000000 0] [.lf w (fQ e),.n .i64 (m:Int)] (bif decide (0 < (nxV e w ((rjS w e (vJJ .i64 (1 + (nxV e w m 3))) (mA w m 1)).1) 3)) then (.a [.lf ((vJJ .i64 (1 + (nxV e w m 3))).toNat) ((rjS w e (vJJ .i64 (1 + (nxV e w m 3))) (mA w m 1)).2),.lf ((nxV e w ((rjS w e (vJJ .i64 (1 + (nxV e w m 3))) (mA w m 1)).1) 3).toNat) ((rmS w e (vJJ .i64 (1 + (nxV e w m 3))) (mA w ((rjS w e (vJJ .i64 (1 + (nxV e w m 3))) (mA w m 1)).1) 1) (nxV e w ((rjS w e (vJJ .i64 (1 + (nxV e w m 3))) (mA w m 1)).1) 3)).2)]) else (.a [.lf ((vJJ .i64 (1 + (nxV e w m 3))).toNat) ((rjS w e (vJJ .i64 (1 + (nxV e w m 3))) (mA w m 1)).2),.l []])) ([.lf w (fQ e),.n .i64 (((bif decide (0 < (nxV e w ((rjS w e (vJJ .i64 (1 + (nxV e w m 3))) (mA w m 1)).1) 3)) then (rmS w e (vJJ .i64 (1 + (nxV e w m 3))) (mA w ((rjS w e (vJJ .i64 (1 + (nxV e w m 3))) (mA w m 1)).1) 1) (nxV e w ((rjS w e (vJJ .i64 (1 + (nxV e w m 3))) (mA w m 1)).1) 3)).1 else mA w ((rjS w e (vJJ .i64 (1 + (nxV e w m 3))) (mA w m 1)).1) 1):Nat):Int)]):=by
 refine qXW (N:=60) (LO:=qZ (lsrb w m e)) kX zW (uK (l:=[]) (m:=[(30,o_nx),(77,o_jt)]) trivial ⟨jZI,xGW,trivial⟩) (fun p S hp => ?_) ?_
 ·refine zG (L:=qQ Tf 29) (l:=(lsrb w m e)) (show AllP _ (lsrb w m e) from ⟨?_,?_,trivial⟩) p S hp
  ·dsimp only;refine kZ (T:=Tf) (o:=orRB) (f:=29) (LO:=qZ []) (p:=[0,1,0,1,1,1]) kW ?_;intro t K r hr;obtain ⟨hg,hr⟩:=qY hr;simp only [vQJ,decide_eq_true_eq] at hg;exact (lpRj K w e t.1 t.2 hg.1.1 hg.1.2 hg.2).trans hr
  ·dsimp only;refine kZ (T:=Tf) (o:=orRB) (f:=29) (LO:=qZ []) (p:=[0,1,0,1,1,1,1]) kW ?_;intro t K r hr;obtain ⟨hg,hr⟩:=qY hr;simp only [vQJ,decide_eq_true_eq] at hg;exact (lpRm K w e t.1 t.2.1 t.2.2.1 t.2.2.2.1 t.2.2.2.2 hg.1.1 hg.1.2 hg.2.1 hg.2.2).trans hr
 ·refine (pxrb w m e).trans ?_;have b0:=qQV (e:=e) (w:=w) (m:=m) (k:=3) (by decide);have hN:(vJJ .i64 (1 + (nxV e w m 3)))=1 + nxV e w m 3:=qV (by omega);have hj:=kVE (e:=e) (n:=(vJJ .i64 (1 + (nxV e w m 3)))) (yG hm 1) hw (by omega);have bk:=qQV (e:=e) (w:=w) (m:=(rjS w e (vJJ .i64 (1 + (nxV e w m 3))) (mA w m 1)).1) (k:=3) (by decide);simp only [yU,uZ (C:=cnx) (t:=(w,m,e,3)) ⟨hm,hw,by decide,by decide⟩,uZ (C:=cnx) (t:=(w,(rjS w e (vJJ .i64 (1 + (nxV e w m 3))) (mA w m 1)).1,e,3)) ⟨hj.1,hw,by decide,by decide⟩,vJQ (show mA w m 1≤w∧w≤9223372036854775807 from ⟨yG hm 1,hw⟩),vJQ (show 1≤(vJJ .i64 (1 + (nxV e w m 3)))∧(vJJ .i64 (1 + (nxV e w m 3)))≤9 by omega),vJQ (show mA w ((rjS w e (vJJ .i64 (1 + (nxV e w m 3))) (mA w m 1)).1) 1≤w∧w≤9223372036854775807 from ⟨yG hj.1 1,hw⟩),vJQ (show (1≤(vJJ .i64 (1 + (nxV e w m 3)))∧(vJJ .i64 (1 + (nxV e w m 3)))≤9)∧(0≤(nxV e w ((rjS w e (vJJ .i64 (1 + (nxV e w m 3))) (mA w m 1)).1) 3)∧(nxV e w ((rjS w e (vJJ .i64 (1 + (nxV e w m 3))) (mA w m 1)).1) 3)≤9) by omega),vZJ,vYV];cases decide (0 < (nxV e w ((rjS w e (vJJ .i64 (1 + (nxV e w m 3))) (mA w m 1)).1) 3)) <;> rfl
def robC (w:Nat) (js:Nat→J) (ms:Nat→Ms) (n k m':Nat):Prop:=m'≤w∧(1≤n∧n≤3)∧k≤2∧(∀ v,v < n→JM v (js v))∧∀ v,v < k→MM n (ms v)
theorem kZU (w m:Nat) (e:Nat→Int) (hm:m≤w) (hw:w≤9223372036854775807):∃ (js:Nat→J) (ms:Nat→Ms) (n k m':Nat),robC w js ms n k m'∧qWG Tryz.prog 29 [.p pid 0] [.lf w (fQ e),.n .i64 (m:Int)] (.a [.lf n (fJ js),.lf k (fM ms)]) [.lf w (fQ e),.n .i64 (m':Int)]:=by
 have h:=uWE w m e hm hw;have b0:=qQV (e:=e) (w:=w) (m:=m) (k:=3) (by decide);have hN:(vJJ .i64 (1 + (nxV e w m 3)))=1 + nxV e w m 3:=qV (by omega);have hj:=kVE (e:=e) (n:=(vJJ .i64 (1 + (nxV e w m 3)))) (yG hm 1) hw (by omega);have bk:=qQV (e:=e) (w:=w) (m:=(rjS w e (vJJ .i64 (1 + (nxV e w m 3))) (mA w m 1)).1) (k:=3) (by decide);obtain ⟨js,hjs⟩:=jUC (⟨ByteArray.empty,0,0,⟨0,0,0⟩,0,0,0,0,0,0⟩:J) hj.2;by_cases h0:0 < (nxV e w ((rjS w e (vJJ .i64 (1 + (nxV e w m 3))) (mA w m 1)).1) 3)
 ·have hm2:=uVF (w:=w) (e:=e) (n:=(vJJ .i64 (1 + (nxV e w m 3)))) (m1:=mA w ((rjS w e (vJJ .i64 (1 + (nxV e w m 3))) (mA w m 1)).1) 1) (k0:=(nxV e w ((rjS w e (vJJ .i64 (1 + (nxV e w m 3))) (mA w m 1)).1) 3)) (yG hj.1 1) (by omega) h0;obtain ⟨ms,hms⟩:=jUC (⟨0,0,⟨0,0,0⟩⟩:Ms) hm2.2;rw [vJQ h0] at h;exact ⟨js,ms,_,((nxV e w ((rjS w e (vJJ .i64 (1 + (nxV e w m 3))) (mA w m 1)).1) 3)).toNat,_,⟨hm2.1,by omega,by omega,fun v hv=>(hjs v hv).2,fun v hv=>by have:=(hms v hv).2; rw [show (((vJJ .i64 (1 + (nxV e w m 3))).toNat:Nat):Int)=(vJJ .i64 (1 + (nxV e w m 3))) by omega]; exact this⟩,yVC (Same.a (xs:=[_,_]) ⟨qYW fun v hv=>(hjs v hv).1,qYW fun v hv=>(hms v hv).1,trivial⟩) h⟩
 ·rw [vYH h0] at h;exact ⟨js,fun _=>⟨0,0,⟨0,0,0⟩⟩,_,0,_,⟨yG hj.1 1,by omega,by omega,fun v hv=>(hjs v hv).2,fun v hv=>absurd hv (by omega)⟩,yVC (Same.a (xs:=[_,_]) ⟨qYW fun v hv=>(hjs v hv).1,Same.lf rfl,trivial⟩) h⟩
end Go.Proofs.YtgmbkkkbfbocnaaGreat.So
namespace Go.Proofs.YtgmbkkkbfbocnaaGreat.Sq
open Go.Rx Rt Go.Sx Go.RowKit Od Nb Sn So
theorem zVU {τ υ:Type} (d:υ) {C:τ→Prop} {R:τ→υ→Prop} (h:∀ t,C t→∃ y,R t y):∃ F:τ→υ,∀ t,C t→R t (F t):=by
 have each:∀ t,∃ y:υ,C t→R t y:=fun t=>by
  by_cases hc:C t
  ·obtain ⟨y,hy⟩:=h t hc;exact ⟨y,fun _=>hy⟩
  ·exact ⟨d,fun h'=>absurd h' hc⟩
 exact ⟨fun t=>Classical.choose (each t),fun t=>Classical.choose_spec (each t)⟩
def j00:J:=⟨ByteArray.empty,0,0,⟨0,0,0⟩,0,0,0,0,0,0⟩
def m00:Ms:=⟨0,0,⟨0,0,0⟩⟩
abbrev RbT:Type:=(Nat→J) × (Nat→Ms) × Nat × Nat × Nat
def rbC (t:Nat × Nat × (Nat→Int)):Prop:=t.2.1≤t.1∧t.1≤9223372036854775807
def rbR (t:Nat × Nat × (Nat→Int)) (y:RbT):Prop:=robC t.1 y.1 y.2.1 y.2.2.1 y.2.2.2.1 y.2.2.2.2∧qWG Tryz.prog 29 [.p pid 0] [.lf t.1 (fQ t.2.2),.n .i64 (t.2.1:Int)] (.a [.lf y.2.2.1 (fJ y.1),.lf y.2.2.2.1 (fM y.2.1)]) [.lf t.1 (fQ t.2.2),.n .i64 (y.2.2.2.2:Int)]
theorem kVF:∃ F:Nat × Nat × (Nat→Int)→RbT,∀ t,rbC t→rbR t (F t):=zVU (fun _=>j00,fun _=>m00,0,0,0) fun t h=>by
 obtain ⟨js,ms,n,k,m',h1,h2⟩:=kZU t.1 t.2.1 t.2.2 h.1 h.2;exact ⟨(js,ms,n,k,m'),h1,h2⟩
noncomputable def rbF:Nat × Nat × (Nat→Int)→RbT:=Classical.choose kVF
theorem yGQ {t:Nat × Nat × (Nat→Int)} (h:rbC t):rbR t (rbF t):=Classical.choose_spec kVF t h
def crb:Nat × Nat × (Nat→Int)→Prop:=fun t=>match t with | (w,m,_)=>m≤w∧w≤9223372036854775807
def hrb:Nat × Nat × (Nat→Int)→List HV:=fun t=>match t with | (_,_,_)=>[.p pid 0]
def erb:Nat × Nat × (Nat→Int)→List PV:=fun t=>match t with | (w,m,e)=>[.lf w (fQ e),.n .i64 (m:Int)]
noncomputable def xrb:Nat × Nat × (Nat→Int)→PV:=fun t=>match t with | (w,m,e)=>.a [.lf (rbF (w,m,e)).2.2.1 (fJ (rbF (w,m,e)).1),.lf (rbF (w,m,e)).2.2.2.1 (fM (rbF (w,m,e)).2.1)]
noncomputable def qrb:Nat × Nat × (Nat→Int)→List PV:=fun t=>match t with | (w,m,e)=>[.lf w (fQ e),.n .i64 (((rbF (w,m,e)).2.2.2.2:Nat):Int)]
def drb:List HV→List PV→Nat × Nat × (Nat→Int):=fun hs ps=>match hs,ps with
 | _,[.lf w f,.n _ c]=>(w,c.toNat,unFQ f)
 | _,_=>(0,0,fun _=>0)
noncomputable def o_rb:List HV→List PV→Option (Bool × (PV × List PV)):=o_fb drb crb hrb erb xrb qrb
theorem xGY:zVW Tryz.prog 29 o_rb:=kJG fun t h=>by
 obtain ⟨w,m,e⟩:=t;exact (yGQ (t:=(w,m,e)) h).2
noncomputable def orCg (w:Nat) (e:Nat→Int) (_:Nat→J) (_:Nat→Ms) (n m:Nat):OrS:=orS [] [(30,o_nx)]
noncomputable def hCg (w:Nat) (e:Nat→Int) (js:Nat→J) (ms:Nat→Ms) (n m:Nat) (i:Int) (m2:Nat) (r:Nat) (f:Nat→Int):St:=⟨[(2,.p 2 0),(5,.p 11 0),(6,.o 43),(7,.v (.n .i64 i))],[(2,.blk [.v (.lf n (fJ js)),.v (.lf m (fM ms))]),(11,.blk [.v (.lf w (fQ e)),.v (.n .i64 (m2:Int))]),(43,.reg 2 1 (.fo r (fun v=>[.n .i64 (f v)])))]⟩
set_option maxRecDepth 100000 in
theorem rdCg (G:St→Option (Ret × Mem)) (K:Cont) (w:Nat) (e:Nat→Int) (js:Nat→J) (ms:Nat→Ms) (n m:Nat) (i:Int) (m2:Nat) (r:Nat) (f:Nat→Int):kQ 60 (cxS Tf (orCg w e js ms n m) 60 21 (ntmF Tf 21)) (evX Tf (orCg w e js ms n m) 60 21 (ntmF Tf 21)) (qZ []) (qQ Tf 21 [0,1,0,1,1,1]) [0,1,0,1,1,1] (Tf.hint 21 (qJ (qQ Tf 21 [0,1,0,1,1,1]))) K G (hCg w e js ms n m i m2 r f) =
 (bif (decide (i < (n:Int))) then (bif (inB i n) then (bif (inB i n) then (bif (gB1 cnx hnx enx (w,m2,e,6)) then (bif (decide ((nxV e w m2 6)=0)) then (bif (decide (r + 1≤1000000)) then (G (hCg w e js ms n m (vJJ .i64 (i + 1)) (mA w m2 1) (r + 1) (fun v=>(bif (Nat.beq v r) then (js (i).toNat).lo else (f v)))))
 else none)
 else (bif (decide ((nxV e w m2 6)=1)) then (bif (decide (r + 1≤1000000)) then (G (hCg w e js ms n m (vJJ .i64 (i + 1)) (mA w m2 1) (r + 1) (fun v=>(bif (Nat.beq v r) then (js (i).toNat).hi else (f v)))))
 else none)
 else (bif (gB1 cnx hnx enx (w,(mA w m2 1),e,(vJJ .i64 ((vJJ .i64 ((js (i).toNat).hi - (js (i).toNat).lo)) + 1)))) then (bif (decide (r + 1≤1000000)) then (G (hCg w e js ms n m (vJJ .i64 (i + 1)) (mA w m2 2) (r + 1) (fun v=>(bif (Nat.beq v r) then (vJJ .i64 ((js (i).toNat).lo + (nxV e w (mA w m2 1) (vJJ .i64 ((vJJ .i64 ((js (i).toNat).hi - (js (i).toNat).lo)) + 1))))) else (f v)))))
 else none)
 else none)))
 else none)
 else none)
 else none)
 else (K (.exit 0) ⟨[(6,.o 43)],[(43,.reg 2 1 (.fo r (fun v=>[.n .i64 (f v)])))]⟩)):=by kernel_rfl
noncomputable def cfN (w:Nat) (e:Nat→Int) (js:Nat→J) (i:Nat) (t:Nat × (Nat→Int)):Nat × (Nat→Int) :=
 bif decide (nxV e w t.1 6=0) then (mA w t.1 1,fun v=>bif Nat.beq v i then (js i).lo else t.2 v) else bif decide (nxV e w t.1 6=1) then (mA w t.1 1,fun v=>bif Nat.beq v i then (js i).hi else t.2 v)
 else (mA w t.1 2,fun v=>bif Nat.beq v i then vJJ .i64 ((js i).lo + nxV e w (mA w t.1 1) (vJJ .i64 (vJJ .i64 ((js i).hi - (js i).lo) + 1))) else t.2 v)
def qHC (js:Nat→J) (n:Nat):Prop:=∀ v,v < n → -4194304≤(js v).lo∧(js v).lo≤(js v).hi∧(js v).hi≤4194304
theorem kGL {w:Nat} {e:Nat→Int} {js:Nat→J} {n:Nat} (hj:qHC js n):∀ (i:Nat) (t:Nat × (Nat→Int)),i < n→(t.1≤w∧∀ v,v < i→(js v).lo≤t.2 v∧t.2 v≤(js v).hi)→((cfN w e js i t).1≤w∧∀ v,v < i + 1→(js v).lo≤(cfN w e js i t).2 v∧(cfN w e js i t).2 v≤(js v).hi):=fun i t hi h=>by
 obtain ⟨h1,h2,h3⟩:=hj i hi;have hD:vJJ .i64 (vJJ .i64 ((js i).hi - (js i).lo) + 1)=(js i).hi - (js i).lo + 1:=by rw [show vJJ .i64 ((js i).hi - (js i).lo)=(js i).hi - (js i).lo from qV (by omega)]; exact qV (by omega)
 have hb:=qQV (e:=e) (w:=w) (m:=mA w t.1 1) (k:=(js i).hi - (js i).lo + 1) (by omega);have key:∀ (x:Int) (m':Nat),m'≤w→((js i).lo≤x∧x≤(js i).hi)→(m'≤w∧∀ v,v < i + 1→(js v).lo≤(bif Nat.beq v i then x else t.2 v)∧(bif Nat.beq v i then x else t.2 v)≤(js v).hi):=fun x m' hm hx=>⟨hm,fun v hv=>by
  rw [qGH];by_cases e1:v=i
  ·subst e1;rw [vJQ rfl]; exact hx
  ·rw [vYH e1]; exact h.2 v (by omega)⟩
 unfold cfN;rw [hD];cases decide (nxV e w t.1 6=0) with
 | true=>exact key _ _ (yG h.1 1) (by omega)
 | false =>
  cases decide (nxV e w t.1 6=1) with
  | true=>exact key _ _ (yG h.1 1) (by omega)
  | false =>
   refine key _ _ (yG h.1 2) ?_;rw [qV (by omega)];omega
noncomputable def cfS (w:Nat) (e:Nat→Int) (js:Nat→J) (_:Nat→Ms) (n m:Nat):Nat × (Nat→Int):=qGV (cfN w e js) n 0 (0,fun _=>0)
theorem lpCg (K:Cont) (w:Nat) (e:Nat→Int) (js:Nat→J) (ms:Nat→Ms) (n m:Nat) (hw:w≤9223372036854775807) (_:n≤50) (hj:qHC js n):LFX 60 (cxS Tf (orCg w e js ms n m) 60 21 (ntmF Tf 21)) (evX Tf (orCg w e js ms n m) 60 21 (ntmF Tf 21)) (qZ []) (qQ Tf 21 [0,1,0,1,1,1]) [0,1,0,1,1,1] (Tf.hint 21 (qJ (qQ Tf 21 [0,1,0,1,1,1]))) K 60 (hCg w e js ms n m 0 0 0 (fun _=>0))=(K (.exit 0) ⟨[(6,.o 43)],[(43,.reg 2 1 (.fo n (fQ (cfS w e js ms n m).2)))]⟩):=by
 refine (uH (L:=LFX 60 (cxS Tf (orCg w e js ms n m) 60 21 (ntmF Tf 21)) (evX Tf (orCg w e js ms n m) 60 21 (ntmF Tf 21)) (qZ []) (qQ Tf 21 [0,1,0,1,1,1]) [0,1,0,1,1,1] (Tf.hint 21 (qJ (qQ Tf 21 [0,1,0,1,1,1]))) K) (stp:=kQ 60 (cxS Tf (orCg w e js ms n m) 60 21 (ntmF Tf 21)) (evX Tf (orCg w e js ms n m) 60 21 (ntmF Tf 21)) (qZ []) (qQ Tf 21 [0,1,0,1,1,1]) [0,1,0,1,1,1] (Tf.hint 21 (qJ (qQ Tf 21 [0,1,0,1,1,1]))) K) (fun _ _=>rfl) (fun (i:Nat) (t:Nat × (Nat→Int))=>hCg w e js ms n m (i:Int) t.1 i t.2) (fun i t=>t.1≤w∧∀ v,v < i→(js v).lo≤t.2 v∧t.2 v≤(js v).hi) (fun _ _=>true) (cfN w e js) (c:=n) (fun t=>(K (.exit 0) ⟨[(6,.o 43)],[(43,.reg 2 1 (.fo n (fun v=>[.n .i64 (t.2 v)])))]⟩)) (fun _ _=>none) (fun G i t hi hv => ?_) (fun i t hi hv _=>kGL hj i t hi hv) (fun G t hv => ?_) n 0 60 (0,fun _=>0) (by omega) (by omega) ⟨Nat.zero_le _,fun v hv=>absurd hv (by omega)⟩).trans (qZI n 0 _)
 ·refine (rdCg G K w e js ms n m i t.1 i t.2).trans ?_;obtain ⟨h1,h2,h3⟩:=hj i hi;have hD:vJJ .i64 (vJJ .i64 ((js i).hi - (js i).lo) + 1)=(js i).hi - (js i).lo + 1:=by rw [show vJJ .i64 ((js i).hi - (js i).lo)=(js i).hi - (js i).lo from qV (by omega)]; exact qV (by omega)
  simp only [vJQ (show (i:Int) < (n:Int) by omega),yV hi,toN,uZ (C:=cnx) (t:=(w,t.1,e,6)) ⟨hv.1,hw,by decide,by decide⟩,vJQ (show i + 1≤1000000 by omega),uJ (show i < 1000000 by omega),vYV];unfold cfN;cases decide (nxV e w t.1 6=0) with
  | true=>rfl
  | false =>
   cases decide (nxV e w t.1 6=1) with
   | true=>rfl
   | false =>
    have g2:gB1 cnx hnx enx (w,(mA w t.1 1),e,vJJ .i64 (vJJ .i64 ((js i).hi - (js i).lo) + 1))=true:=uZ ⟨yG hv.1 1,hw,by omega,by omega⟩;rw [g2];rfl
 ·refine (rdCg G K w e js ms n m n t.1 n t.2).trans ?_;rw [vYH (show ¬ (n:Int) < (n:Int) by omega)];rfl
noncomputable def yGF (w:Nat) (e:Nat→Int) (js:Nat→J) (ms:Nat→Ms) (n m:Nat):List (List Nat × jG):=[([0,1,0,1,1,1],sumF (fun _:Unit=>(hCg w e js ms n m 0 0 0 (fun _=>0))) (fun _=>()) (fun _ K=>(bif gP (w≤9223372036854775807∧n≤50∧qHC js n) then (K (.exit 0) ⟨[(6,.o 43)],[(43,.reg 2 1 (.fo n (fun v=>[.n .i64 ((cfS w e js ms n m).2 v)])))]⟩) else none)))]
set_option maxRecDepth 100000 in
theorem uGD (w:Nat) (e:Nat→Int) (js:Nat→J) (ms:Nat→Ms) (n m:Nat):qYU Tf (orCg w e js ms n m) (qZ (yGF w e js ms n m)) 60 21 [.a [.lf n (fJ js),.lf m (fM ms)],.lf w (fQ e)] =
 (bif (gSt (hCg w e js ms n m 0 0 0 (fun _=>0)) (hCg w e js ms n m 0 0 0 (fun _=>0))) then (bif (gP (w≤9223372036854775807∧n≤50∧qHC js n)) then some (.ow 2 1 (.fo n (fQ (cfS w e js ms n m).2)),[])
 else none)
 else none):=by kernel_rfl
theorem kQI (w:Nat) (e:Nat→Int) (js:Nat→J) (ms:Nat→Ms) (n m:Nat) (hw:w≤9223372036854775807) (hn:n≤50) (hj:qHC js n):yK Tryz.prog 21 [.a [.lf n (fJ js),.lf m (fM ms)],.lf w (fQ e)] (.ow 2 1 (.fo n (fQ (cfS w e js ms n m).2))):=by
 refine yQ (N:=60) (LO:=qZ (yGF w e js ms n m)) kX zW (uK (l:=[]) (m:=[(30,o_nx)]) trivial ⟨jZI,trivial⟩) (fun p S hp => ?_) ?_
 ·refine zG (L:=qQ Tf 21) (l:=(yGF w e js ms n m)) (show AllP _ (yGF w e js ms n m) from ⟨?_,trivial⟩) p S hp
  ·dsimp only;refine kZ (T:=Tf) (o:=(orCg w e js ms n m)) (f:=21) (LO:=qZ []) (p:=[0,1,0,1,1,1]) kW ?_;intro t K r hr;obtain ⟨hg,hr⟩:=qY hr
   skip
   exact (lpCg K w e js ms n m (jH hg).1 (jH hg).2.1 (jH hg).2.2).trans hr
 ·refine (uGD w e js ms n m).trans ?_;simp only [yU,qVD (show w≤9223372036854775807∧n≤50∧qHC js n from ⟨hw,hn,hj⟩),vYV]
  all_goals rfl
theorem xJJ (w:Nat) (e:Nat→Int) (js:Nat→J) (ms:Nat→Ms) (n m:Nat) (hw:w≤9223372036854775807) (hn:n≤50) (hj:qHC js n):∃ q:Nat→Int,(∀ v,v < n→(js v).lo≤q v∧q v≤(js v).hi)∧yK Tryz.prog 21 [.a [.lf n (fJ js),.lf m (fM ms)],.lf w (fQ e)] (.v (.lf n (fQ q))) :=
 ⟨_,(qQK (Q:=fun i (t:Nat × (Nat→Int))=>t.1≤w∧∀ v,v < i→(js v).lo≤t.2 v∧t.2 v≤(js v).hi) (c:=n) (fun i t hi h=>kGL hj i t hi h) n 0 (0,fun _=>0) (by omega) ⟨Nat.zero_le _,fun v hv=>absurd hv (by omega)⟩).2,zVF (kQI w e js ms n m hw hn hj)⟩
end Go.Proofs.YtgmbkkkbfbocnaaGreat.Sq
namespace Go.Proofs.YtgmbkkkbfbocnaaGreat.Gm
end Go.Proofs.YtgmbkkkbfbocnaaGreat.Gm
namespace Go.Proofs.YtgmbkkkbfbocnaaGreat.Gn
open Go.Rx Rt Go.Sx Go.RowKit Od Na Nb Nc Nx Nf Ga Gb Gc Gd Ge Gf Gg Sn So Sq Gm
noncomputable def orPt (w m:Nat) (e:Nat→Int) (_:Z3):OrS:=orS [] [(30,o_nx)]
noncomputable def hPt (w m:Nat) (e:Nat→Int) (z:Z3) (k:Int) (m2:Nat) (r:Nat) (q:Nat→Nat→Int):St:=⟨[(0,.p 1000000 0),(3,.p 3 0),(5,.o 8),(6,.v (.n .i64 k))],[(1000000,.blk [.v (.lf w (fQ e)),.v (.n .i64 (m2:Int))]),(3,.blk [.v (.n .i64 z.x),.v (.n .i64 z.y),.v (.n .i64 z.z)]),(8,.reg 58 3 (.fo r (fun v=>[.n .i64 (q v 0),.n .i64 (q v 1),.n .i64 (q v 2)])))]⟩
set_option maxRecDepth 100000 in
theorem rdPt (G:St→Option (Ret × Mem)) (K:Cont) (w m:Nat) (e:Nat→Int) (z:Z3) (k:Int) (m2:Nat) (r:Nat) (q:Nat→Nat→Int):kQ 60 (cxS Tf (orPt w m e z) 60 31 (ntmF Tf 31)) (evX Tf (orPt w m e z) 60 31 (ntmF Tf 31)) (qZ []) (qQ Tf 31 [0,1,0,1,1]) [0,1,0,1,1] (Tf.hint 31 (qJ (qQ Tf 31 [0,1,0,1,1]))) K G (hPt w m e z k m2 r q) =
 (bif (decide (0 < k)) then (bif (gB1 cnx hnx enx (w,m2,e,7)) then (bif (gB1 cnx hnx enx (w,(mA w m2 1),e,5)) then (bif (gB1 cnx hnx enx (w,(mA w m2 2),e,5)) then (bif (decide (r + 1≤1000000)) then (G (hPt w m e z (vJJ .i64 (k - 1)) (mA w m2 3) (r + 1) (fun v k=>List.getD [(bif (Nat.beq v r) then (vJJ .i64 (z.x + (vJJ .i64 ((vJJ .i64 ((nxV e w m2 7) - 3)) * 32768)))) else (q v 0)),(bif (Nat.beq v r) then (vJJ .i64 (z.y + (vJJ .i64 ((vJJ .i64 ((nxV e w (mA w m2 1) 5) - 2)) * 32768)))) else (q v 1)),(bif (Nat.beq v r) then (vJJ .i64 (z.z + (vJJ .i64 ((vJJ .i64 ((nxV e w (mA w m2 2) 5) - 2)) * 32768)))) else (q v 2))] k 0)))
 else none)
 else none)
 else none)
 else none)
 else (K (.exit 0) ⟨[(5,.o 8)],[(1000000,.blk [.v (.lf w (fQ e)),.v (.n .i64 (m2:Int))]),(8,.reg 58 3 (.fo r (fun v=>[.n .i64 (q v 0),.n .i64 (q v 1),.n .i64 (q v 2)])))]⟩)):=by kernel_rfl
def ptN (w:Nat) (e:Nat→Int) (z:Z3) (i:Nat) (t:Nat × (Nat→Nat→Int)):Nat × (Nat→Nat→Int) :=
 ((mA w t.1 3),(fun v k=>List.getD [(bif (Nat.beq v (i + 1)) then (vJJ .i64 (z.x + (vJJ .i64 ((vJJ .i64 ((nxV e w t.1 7) - 3)) * 32768)))) else (t.2 v 0)),(bif (Nat.beq v (i + 1)) then (vJJ .i64 (z.y + (vJJ .i64 ((vJJ .i64 ((nxV e w (mA w t.1 1) 5) - 2)) * 32768)))) else (t.2 v 1)),(bif (Nat.beq v (i + 1)) then (vJJ .i64 (z.z + (vJJ .i64 ((vJJ .i64 ((nxV e w (mA w t.1 2) 5) - 2)) * 32768)))) else (t.2 v 2))] k 0))
def ptS (w m:Nat) (e:Nat→Int) (z:Z3):Nat × (Nat→Nat→Int):=qGV (ptN w e z) (nxV e w m 4).toNat 0 (mA w m 1,(fun v k=>List.getD [z.x,z.y,z.z] k 0))
theorem lpPt (K:Cont) (w m:Nat) (e:Nat→Int) (z:Z3) (hm:m≤w) (hw:w≤9223372036854775807):LFX 60 (cxS Tf (orPt w m e z) 60 31 (ntmF Tf 31)) (evX Tf (orPt w m e z) 60 31 (ntmF Tf 31)) (qZ []) (qQ Tf 31 [0,1,0,1,1]) [0,1,0,1,1] (Tf.hint 31 (qJ (qQ Tf 31 [0,1,0,1,1]))) K 60 (hPt w m e z (nxV e w m 4) (mA w m 1) 1 (fun v k=>List.getD [z.x,z.y,z.z] k 0))=(K (.exit 0) ⟨[(5,.o 8)],[(1000000,.blk [.v (.lf w (fQ e)),.v (.n .i64 ((ptS w m e z).1:Int))]),(8,.reg 58 3 (.fo ((nxV e w m 4).toNat + 1) (fun v=>[.n .i64 ((ptS w m e z).2 v 0),.n .i64 ((ptS w m e z).2 v 1),.n .i64 ((ptS w m e z).2 v 2)])))]⟩):=by
 have hk:=qQV (e:=e) (w:=w) (m:=m) (k:=4) (by decide);refine (congrArg (LFX 60 (cxS Tf (orPt w m e z) 60 31 (ntmF Tf 31)) (evX Tf (orPt w m e z) 60 31 (ntmF Tf 31)) (qZ []) (qQ Tf 31 [0,1,0,1,1]) [0,1,0,1,1] (Tf.hint 31 (qJ (qQ Tf 31 [0,1,0,1,1]))) K 60) (show (hPt w m e z (nxV e w m 4) (mA w m 1) 1 (fun v k=>List.getD [z.x,z.y,z.z] k 0))=hPt w m e z ((nxV e w m 4) - ((0:Nat):Int)) (mA w m 1) (0 + 1) (fun v k=>List.getD [z.x,z.y,z.z] k 0) from by rw [show (nxV e w m 4) - ((0:Nat):Int)=(nxV e w m 4) by omega])).trans ?_;refine (uH (L:=LFX 60 (cxS Tf (orPt w m e z) 60 31 (ntmF Tf 31)) (evX Tf (orPt w m e z) 60 31 (ntmF Tf 31)) (qZ []) (qQ Tf 31 [0,1,0,1,1]) [0,1,0,1,1] (Tf.hint 31 (qJ (qQ Tf 31 [0,1,0,1,1]))) K) (stp:=kQ 60 (cxS Tf (orPt w m e z) 60 31 (ntmF Tf 31)) (evX Tf (orPt w m e z) 60 31 (ntmF Tf 31)) (qZ []) (qQ Tf 31 [0,1,0,1,1]) [0,1,0,1,1] (Tf.hint 31 (qJ (qQ Tf 31 [0,1,0,1,1]))) K) (fun _ _=>rfl) (fun (i:Nat) (t:Nat × (Nat→Nat→Int))=>hPt w m e z ((nxV e w m 4) - (i:Int)) t.1 (i + 1) t.2) (fun i t=>t.1≤w) (fun _ _=>true) (ptN w e z) (c:=(nxV e w m 4).toNat) (fun t=>(K (.exit 0) ⟨[(5,.o 8)],[(1000000,.blk [.v (.lf w (fQ e)),.v (.n .i64 (t.1:Int))]),(8,.reg 58 3 (.fo ((nxV e w m 4).toNat + 1) (fun v=>[.n .i64 (t.2 v 0),.n .i64 (t.2 v 1),.n .i64 (t.2 v 2)])))]⟩)) (fun _ _=>none) (fun G i t hi hv => ?_) (fun i t hi hv _ => ?_) (fun G t hv => ?_) (nxV e w m 4).toNat 0 60 (mA w m 1,(fun v k=>List.getD [z.x,z.y,z.z] k 0)) (by omega) (by omega) (yG hm 1)).trans (qZI (nxV e w m 4).toNat 0 _)
 ·refine (rdPt G K w m e z ((nxV e w m 4) - (i:Int)) t.1 (i + 1) t.2).trans ?_;simp only [vJQ (show 0 < (nxV e w m 4) - (i:Int) by omega),uZ (C:=cnx) (t:=(w,t.1,e,7)) ⟨hv,hw,by decide,by decide⟩,uZ (C:=cnx) (t:=(w,mA w t.1 1,e,5)) ⟨yG hv 1,hw,by decide,by decide⟩,uZ (C:=cnx) (t:=(w,mA w t.1 2,e,5)) ⟨yG hv 2,hw,by decide,by decide⟩,vJQ (show i + 1 + 1≤1000000 by omega),show vJJ .i64 ((nxV e w m 4) - (i:Int) - 1)=(nxV e w m 4) - ((i + 1:Nat):Int) from by rw [show (nxV e w m 4) - (i:Int) - 1=(nxV e w m 4) - ((i + 1:Nat):Int) by omega]; exact qV (by omega),vYV];rfl
 ·exact yG hv 3
 ·refine (rdPt G K w m e z ((nxV e w m 4) - (((nxV e w m 4).toNat:Nat):Int)) t.1 ((nxV e w m 4).toNat + 1) t.2).trans ?_;rw [vYH (show ¬ 0 < (nxV e w m 4) - (((nxV e w m 4).toNat:Nat):Int) by omega)];rfl
def ptQ (w m:Nat) (e:Nat→Int) (z:Z3):Nat→Z3:=fun v=>⟨(ptS w m e z).2 v 0,(ptS w m e z).2 v 1,(ptS w m e z).2 v 2⟩
noncomputable def kKH (w m:Nat) (e:Nat→Int) (z:Z3):List (List Nat × jG):=[([0,1,0,1,1],sumF (fun _:Unit=>(hPt w m e z (nxV e w m 4) (mA w m 1) 1 (fun v k=>List.getD [z.x,z.y,z.z] k 0))) (fun _=>()) (fun _ K=>(bif gP (m≤w∧w≤9223372036854775807) then (K (.exit 0) ⟨[(5,.o 8)],[(1000000,.blk [.v (.lf w (fQ e)),.v (.n .i64 ((ptS w m e z).1:Int))]),(8,.reg 58 3 (.fo ((nxV e w m 4).toNat + 1) (fun v=>[.n .i64 ((ptS w m e z).2 v 0),.n .i64 ((ptS w m e z).2 v 1),.n .i64 ((ptS w m e z).2 v 2)])))]⟩) else none)))]
set_option maxRecDepth 100000 in
theorem xXC (w m:Nat) (e:Nat→Int) (z:Z3):jZX Tf (orPt w m e z) (qZ (kKH w m e z)) 60 31 [.p 1000000 0,.v (.a [.n .i64 z.x,.n .i64 z.y,.n .i64 z.z])] [.lf w (fQ e),.n .i64 (m:Int)] =
 (bif (gB1 cnx hnx enx (w,m,e,4)) then (bif (gSt (hPt w m e z (nxV e w m 4) (mA w m 1) 1 (fun v k=>List.getD [z.x,z.y,z.z] k 0)) (hPt w m e z (nxV e w m 4) (mA w m 1) 1 (fun v k=>List.getD [z.x,z.y,z.z] k 0))) then (bif gP (m≤w∧w≤9223372036854775807) then some (.v (.t [.lf ((nxV e w m 4).toNat + 1) (fZ (ptQ w m e z)),.lf w (fQ e),.n .i64 (((ptS w m e z).1:Nat):Int)]),[])
 else none)
 else none)
 else none):=by kernel_rfl
theorem uQZ (w m:Nat) (e:Nat→Int) (z:Z3) (hm:m≤w) (hw:w≤9223372036854775807):qWG Tryz.prog 31 [.p 1000000 0,.v (.a [.n .i64 z.x,.n .i64 z.y,.n .i64 z.z])] [.lf w (fQ e),.n .i64 (m:Int)] (.lf ((nxV e w m 4).toNat + 1) (fZ (ptQ w m e z))) ([.lf w (fQ e),.n .i64 (((ptS w m e z).1:Nat):Int)]):=by
 refine qXW (N:=60) (LO:=qZ (kKH w m e z)) kX zW (uK (l:=[]) (m:=[(30,o_nx)]) trivial ⟨jZI,trivial⟩) (fun p S hp => ?_) ?_
 ·refine zG (L:=qQ Tf 31) (l:=(kKH w m e z)) (show AllP _ (kKH w m e z) from ⟨?_,trivial⟩) p S hp
  ·dsimp only;refine kZ (T:=Tf) (o:=(orPt w m e z)) (f:=31) (LO:=qZ []) (p:=[0,1,0,1,1]) kW ?_;intro t K r hr;obtain ⟨hg,hr⟩:=qY hr
   skip
   exact (lpPt K w m e z (jH hg).1 (jH hg).2).trans hr
 ·refine (xXC w m e z).trans ?_;simp only [uZ (C:=cnx) (t:=(w,m,e,4)) ⟨hm,hw,by decide,by decide⟩,yU,qVD (show m≤w∧w≤9223372036854775807 from ⟨hm,hw⟩),vYV]
  all_goals rfl
theorem kGQ (w m:Nat) (e:Nat→Int) (z:Z3) (hm:m≤w):(ptS w m e z).1≤w:=by
 have hk:=qQV (e:=e) (w:=w) (m:=m) (k:=4) (by decide);exact qQK (Q:=fun (_:Nat) (t:Nat × (Nat→Nat→Int))=>t.1≤w) (c:=(nxV e w m 4).toNat) (fun i t hi h=>yG h 3) (nxV e w m 4).toNat 0 _ (by omega) (yG hm 1)
def cpt:Nat × Nat × (Nat→Int) × Z3→Prop:=fun t=>match t with | (w,m,_,_)=>m≤w∧w≤9223372036854775807
def hpt:Nat × Nat × (Nat→Int) × Z3→List HV:=fun t=>match t with | (_,_,_,z)=>[.p pid 0,.v (.a (zP z))]
def ept:Nat × Nat × (Nat→Int) × Z3→List PV:=fun t=>match t with | (w,m,e,_)=>[.lf w (fQ e),.n .i64 (m:Int)]
noncomputable def xpt:Nat × Nat × (Nat→Int) × Z3→PV:=fun t=>match t with | (w,m,e,z)=>.lf ((nxV e w m 4).toNat + 1) (fZ (ptQ w m e z))
noncomputable def qpt:Nat × Nat × (Nat→Int) × Z3→List PV:=fun t=>match t with | (w,m,e,z)=>[.lf w (fQ e),.n .i64 (((ptS w m e z).1:Nat):Int)]
def dpt:List HV→List PV→Nat × Nat × (Nat→Int) × Z3:=fun hs ps=>match hs,ps with
 | [_,.v (.a r)],[.lf w f,.n _ c]=>(w,c.toNat,unFQ f,unZ r)
 | _,_=>(0,0,fun _=>0,⟨0,0,0⟩)
noncomputable def o_pt:List HV→List PV→Option (Bool × (PV × List PV)):=o_fb dpt cpt hpt ept xpt qpt
theorem uHA:zVW Tryz.prog 31 o_pt:=kJG fun t h=>by
 obtain ⟨w,m,e,z⟩:=t;exact uQZ w m e z h.1 h.2
end Go.Proofs.YtgmbkkkbfbocnaaGreat.Gn
namespace Go.Proofs.YtgmbkkkbfbocnaaGreat.Go
open Go.Rx Rt Go.Sx Go.RowKit Od Na Nb Nc Nx Nf Ga Gb Gc Gd Ge Gf Gg Sn So Sq Gm Gn
noncomputable def orSc (w:Nat) (e:Nat→Int):OrS:=orS [] [(30,o_nx),(31,o_pt),(29,o_rb)]
noncomputable def hSc (w:Nat) (e:Nat→Int) (i:Int) (m2:Nat) (r:Nat) (f:Nat→List PV):St:=⟨[(2,.p 2 0),(3,.p 9 0),(4,.p 4 0),(5,.v (.n .i64 i))],[(2,.blk [.nl,.nl,.nl,.nl]),(4,.blk [.v (.lf (rbF (w,0,e)).2.2.1 (fJ (rbF (w,0,e)).1)),.v (.lf (rbF (w,0,e)).2.2.2.1 (fM (rbF (w,0,e)).2.1)),.o 40,.nl]),(9,.blk [.v (.lf w (fQ e)),.v (.n .i64 (m2:Int))]),(40,.reg 83 3 (.fo r f))]⟩
set_option maxRecDepth 100000 in
theorem rdSc (G:St→Option (Ret × Mem)) (K:Cont) (w:Nat) (e:Nat→Int) (i:Int) (m2:Nat) (r:Nat) (f:Nat→List PV):kQ 60 (cxS Tf (orSc w e) 60 8 (ntmF Tf 8)) (evX Tf (orSc w e) 60 8 (ntmF Tf 8)) (qZ []) (qQ Tf 8 [0,1,0,1,1,1]) [0,1,0,1,1,1] (Tf.hint 8 (qJ (qQ Tf 8 [0,1,0,1,1,1]))) K G (hSc w e i m2 r f) =
 (bif (decide (i < ((rbF (w,0,e)).2.2.1:Int))) then (bif (gB1 cnx hnx enx (w,m2,e,5)) then (bif (decide ((nxV e w m2 5) < 4)) then (bif (gB1 cnx hnx enx (w,(mA w m2 1),e,3)) then (bif (gB1 cnx hnx enx (w,(mA w m2 2),e,4)) then (bif (gB1 cpt hpt ept (w,(mA w m2 3),e,(Z3.mk (vJJ .i64 ((nxV e w (mA w m2 2) 4) * 32768)) 0 0))) then (bif (decide (r + 1≤1000000)) then (G (hSc w e (vJJ .i64 (i + 1)) ((ptS w (mA w m2 3) e (Z3.mk (vJJ .i64 ((nxV e w (mA w m2 2) 4) * 32768)) 0 0)).1) (r + 1) (fun v=>uV (Nat.beq v r) [.n .i64 i,.n .i64 (vJJ .i64 ((vJJ .i64 ((vJJ .i64 (1 + (nxV e w (mA w m2 1) 3))) * 65536)).tdiv 8)),.lf ((nxV e w (mA w m2 3) 4).toNat + 1) (fZ (ptQ w (mA w m2 3) e (Z3.mk (vJJ .i64 ((nxV e w (mA w m2 2) 4) * 32768)) 0 0)))] (f v))))
 else none)
 else none)
 else none)
 else none)
 else (G (hSc w e (vJJ .i64 (i + 1)) (mA w m2 1) r f)))
 else none)
 else (K (.exit 0) ⟨[(2,.p 2 0),(3,.p 9 0),(4,.p 4 0)],[(2,.blk [.nl,.nl,.nl,.nl]),(4,.blk [.v (.lf (rbF (w,0,e)).2.2.1 (fJ (rbF (w,0,e)).1)),.v (.lf (rbF (w,0,e)).2.2.2.1 (fM (rbF (w,0,e)).2.1)),.o 40,.nl]),(9,.blk [.v (.lf w (fQ e)),.v (.n .i64 (m2:Int))]),(40,.reg 83 3 (.fo r f))]⟩)):=by kernel_rfl
def IsS (r:List PV):Prop:=∃ s:Shp,r=sP s
theorem yHJ {r:Nat} {f:Nat→List PV} {x:List PV} (h:∀ v,v < r→IsS (f v)) (hx:IsS x):∀ v,v < r + 1→IsS (uV (Nat.beq v r) x (f v)):=fun v hv=>by
 rw [qQZ,qGH];by_cases e:v=r
 ·rw [vJQ e]; exact hx
 ·rw [vYH e]; exact h v (by omega)
theorem kGC (l q:Int) (k:Nat) (p:Nat→Z3):IsS [.n .i64 l,.n .i64 q,.lf k (fZ p)]:=⟨⟨l,q,k,p⟩,rfl⟩
def InvS (w:Nat) (b:Nat) (t:Nat × Nat × (Nat→List PV)):Prop:=t.1≤w∧t.2.1≤b∧∀ v,v < t.2.1→IsS (t.2.2 v)
theorem yUW (w:Nat) (e:Nat→Int) (hw:w≤9223372036854775807):((rbF (w,0,e)).2.2.2.2)≤w∧(1≤(rbF (w,0,e)).2.2.1∧(rbF (w,0,e)).2.2.1≤3):=⟨(yGQ (t:=(w,0,e)) ⟨Nat.zero_le _,hw⟩).1.1,(yGQ (t:=(w,0,e)) ⟨Nat.zero_le _,hw⟩).1.2.1⟩
noncomputable def sc1N (w:Nat) (e:Nat→Int) (i:Nat) (t:Nat × Nat × (Nat→List PV)):Nat × Nat × (Nat→List PV) :=
 (bif (decide ((nxV e w t.1 5) < 4)) then (((ptS w (mA w t.1 3) e (Z3.mk (vJJ .i64 ((nxV e w (mA w t.1 2) 4) * 32768)) 0 0)).1),(t.2.1 + 1),(fun v=>uV (Nat.beq v t.2.1) [.n .i64 (i:Int),.n .i64 (vJJ .i64 ((vJJ .i64 ((vJJ .i64 (1 + (nxV e w (mA w t.1 1) 3))) * 65536)).tdiv 8)),.lf ((nxV e w (mA w t.1 3) 4).toNat + 1) (fZ (ptQ w (mA w t.1 3) e (Z3.mk (vJJ .i64 ((nxV e w (mA w t.1 2) 4) * 32768)) 0 0)))] (t.2.2 v))) else ((mA w t.1 1),t.2.1,t.2.2))
theorem jKB {w:Nat} {e:Nat→Int} (i:Nat) (t:Nat × Nat × (Nat→List PV)) (h:InvS w i t):InvS w (i + 1) (sc1N w e i t):=by
 obtain ⟨h1,h2,h3⟩:=h;unfold sc1N;cases (decide ((nxV e w t.1 5) < 4)) with
 | true=>exact ⟨kGQ _ _ _ _ (yG h1 3),(by show t.2.1 + 1≤i + 1; omega),yHJ h3 (kGC _ _ _ _)⟩
 | false=>exact ⟨yG h1 1,(by show t.2.1≤i + 1; omega),h3⟩
noncomputable def sc1S (w:Nat) (e:Nat→Int):Nat × Nat × (Nat→List PV):=qGV (sc1N w e) (rbF (w,0,e)).2.2.1 0 (((rbF (w,0,e)).2.2.2.2),0,(fun _=>[.n .i64 0,.n .i64 0,.zs]))
theorem jKA (w:Nat) (e:Nat→Int) (hw:w≤9223372036854775807):InvS w 3 (sc1S w e):=by
 have hr:=yUW w e hw;obtain ⟨a,b,c⟩:=qQK (Q:=fun (i:Nat) (t:Nat × Nat × (Nat→List PV))=>InvS w i t) (c:=(rbF (w,0,e)).2.2.1) (nx:=sc1N w e) (fun i t _ h=>jKB i t h) (rbF (w,0,e)).2.2.1 0 (((rbF (w,0,e)).2.2.2.2),0,(fun _=>[.n .i64 0,.n .i64 0,.zs])) (by omega) ⟨hr.1,Nat.zero_le _,fun v hv=>absurd hv (by show ¬ v < 0; omega)⟩;exact ⟨a,Nat.le_trans b hr.2.2,c⟩
theorem lpSc (K:Cont) (w:Nat) (e:Nat→Int) (hw:w≤9223372036854775807):LFX 60 (cxS Tf (orSc w e) 60 8 (ntmF Tf 8)) (evX Tf (orSc w e) 60 8 (ntmF Tf 8)) (qZ []) (qQ Tf 8 [0,1,0,1,1,1]) [0,1,0,1,1,1] (Tf.hint 8 (qJ (qQ Tf 8 [0,1,0,1,1,1]))) K 60 (hSc w e 0 ((rbF (w,0,e)).2.2.2.2) 0 (fun _=>[.n .i64 0,.n .i64 0,.zs]))=(K (.exit 0) ⟨[(2,.p 2 0),(3,.p 9 0),(4,.p 4 0)],[(2,.blk [.nl,.nl,.nl,.nl]),(4,.blk [.v (.lf (rbF (w,0,e)).2.2.1 (fJ (rbF (w,0,e)).1)),.v (.lf (rbF (w,0,e)).2.2.2.1 (fM (rbF (w,0,e)).2.1)),.o 40,.nl]),(9,.blk [.v (.lf w (fQ e)),.v (.n .i64 ((sc1S w e).1:Int))]),(40,.reg 83 3 (.fo (sc1S w e).2.1 (sc1S w e).2.2))]⟩):=by
 have hr:=yUW w e hw;refine (uH (L:=LFX 60 (cxS Tf (orSc w e) 60 8 (ntmF Tf 8)) (evX Tf (orSc w e) 60 8 (ntmF Tf 8)) (qZ []) (qQ Tf 8 [0,1,0,1,1,1]) [0,1,0,1,1,1] (Tf.hint 8 (qJ (qQ Tf 8 [0,1,0,1,1,1]))) K) (stp:=kQ 60 (cxS Tf (orSc w e) 60 8 (ntmF Tf 8)) (evX Tf (orSc w e) 60 8 (ntmF Tf 8)) (qZ []) (qQ Tf 8 [0,1,0,1,1,1]) [0,1,0,1,1,1] (Tf.hint 8 (qJ (qQ Tf 8 [0,1,0,1,1,1]))) K) (fun _ _=>rfl) (fun (i:Nat) (t:Nat × Nat × (Nat→List PV))=>hSc w e (i:Int) t.1 t.2.1 t.2.2) (fun i t=>InvS w i t) (fun _ _=>true) (sc1N w e) (c:=(rbF (w,0,e)).2.2.1) (fun t=>(K (.exit 0) ⟨[(2,.p 2 0),(3,.p 9 0),(4,.p 4 0)],[(2,.blk [.nl,.nl,.nl,.nl]),(4,.blk [.v (.lf (rbF (w,0,e)).2.2.1 (fJ (rbF (w,0,e)).1)),.v (.lf (rbF (w,0,e)).2.2.2.1 (fM (rbF (w,0,e)).2.1)),.o 40,.nl]),(9,.blk [.v (.lf w (fQ e)),.v (.n .i64 (t.1:Int))]),(40,.reg 83 3 (.fo t.2.1 t.2.2))]⟩)) (fun _ _=>none) (fun G i t hi hv => ?_) (fun i t hi hv _=>jKB i t hv) (fun G t hv => ?_) (rbF (w,0,e)).2.2.1 0 60 (((rbF (w,0,e)).2.2.2.2),0,(fun _=>[.n .i64 0,.n .i64 0,.zs])) (by omega) (by omega) ⟨hr.1,Nat.zero_le _,fun v hv=>absurd hv (by show ¬ v < 0; omega)⟩).trans (qZI (rbF (w,0,e)).2.2.1 0 _)
 ·obtain ⟨h1,h2,h3⟩:=hv;refine (rdSc G K w e i t.1 t.2.1 t.2.2).trans ?_;simp only [vJQ (show (i:Int) < ((rbF (w,0,e)).2.2.1:Int) by omega),uZ (C:=cnx) (t:=(w,t.1,e,5)) ⟨h1,hw,by decide,by decide⟩,uZ (C:=cnx) (t:=(w,mA w t.1 1,e,3)) ⟨yG h1 1,hw,by decide,by decide⟩,uZ (C:=cnx) (t:=(w,mA w t.1 2,e,4)) ⟨yG h1 2,hw,by decide,by decide⟩,uZ (C:=cpt) (t:=(w,mA w t.1 3,e,Z3.mk (vJJ .i64 (nxV e w (mA w t.1 2) 4 * 32768)) 0 0)) ⟨yG h1 3,hw⟩,vJQ (show t.2.1 + 1≤1000000 by omega),uJ (show i < 1000000 by omega),vYV];unfold sc1N;cases (decide ((nxV e w t.1 5) < 4)) <;> rfl
 ·refine (rdSc G K w e ((rbF (w,0,e)).2.2.1:Int) t.1 t.2.1 t.2.2).trans ?_;rw [vYH (show ¬ ((rbF (w,0,e)).2.2.1:Int) < ((rbF (w,0,e)).2.2.1:Int) by omega)];rfl
noncomputable def hSd (w:Nat) (e:Nat→Int) (k:Int) (m2:Nat) (r:Nat) (f:Nat→List PV):St:=⟨[(2,.p 2 0),(3,.p 9 0),(4,.p 4 0),(6,.v (.n .i64 k))],[(2,.blk [.nl,.nl,.nl,.nl]),(4,.blk [.v (.lf (rbF (w,0,e)).2.2.1 (fJ (rbF (w,0,e)).1)),.v (.lf (rbF (w,0,e)).2.2.2.1 (fM (rbF (w,0,e)).2.1)),.o 40,.nl]),(9,.blk [.v (.lf w (fQ e)),.v (.n .i64 (m2:Int))]),(40,.reg 83 3 (.fo r f))]⟩
set_option maxRecDepth 100000 in
theorem rdSd (G:St→Option (Ret × Mem)) (K:Cont) (w:Nat) (e:Nat→Int) (k:Int) (m2:Nat) (r:Nat) (f:Nat→List PV):kQ 60 (cxS Tf (orSc w e) 60 8 (ntmF Tf 8)) (evX Tf (orSc w e) 60 8 (ntmF Tf 8)) (qZ []) (qQ Tf 8 [0,1,0,1,1,1,1]) [0,1,0,1,1,1,1] (Tf.hint 8 (qJ (qQ Tf 8 [0,1,0,1,1,1,1]))) K G (hSd w e k m2 r f) =
 (bif (decide (0 < k)) then (bif (gB1 cnx hnx enx (w,m2,e,19)) then (bif (gB1 cnx hnx enx (w,(mA w m2 1),e,19)) then (bif (gB1 cnx hnx enx (w,(mA w m2 2),e,5)) then (bif (gB1 cnx hnx enx (w,(mA w m2 3),e,4)) then (bif (gB1 cpt hpt ept (w,(mA w m2 4),e,(Z3.mk (vJJ .i64 ((vJJ .i64 ((nxV e w m2 19) - 9)) * 32768)) (vJJ .i64 ((vJJ .i64 ((nxV e w (mA w m2 1) 19) - 9)) * 32768)) (vJJ .i64 ((vJJ .i64 ((nxV e w (mA w m2 2) 5) - 2)) * 32768))))) then (bif (decide (r + 1≤1000000)) then (G (hSd w e (vJJ .i64 (k - 1)) ((ptS w (mA w m2 4) e (Z3.mk (vJJ .i64 ((vJJ .i64 ((nxV e w m2 19) - 9)) * 32768)) (vJJ .i64 ((vJJ .i64 ((nxV e w (mA w m2 1) 19) - 9)) * 32768)) (vJJ .i64 ((vJJ .i64 ((nxV e w (mA w m2 2) 5) - 2)) * 32768)))).1) (r + 1) (fun v=>uV (Nat.beq v r) [.n .i64 (-1),.n .i64 (vJJ .i64 ((vJJ .i64 ((vJJ .i64 (1 + (nxV e w (mA w m2 3) 4))) * 65536)).tdiv 8)),.lf ((nxV e w (mA w m2 4) 4).toNat + 1) (fZ (ptQ w (mA w m2 4) e (Z3.mk (vJJ .i64 ((vJJ .i64 ((nxV e w m2 19) - 9)) * 32768)) (vJJ .i64 ((vJJ .i64 ((nxV e w (mA w m2 1) 19) - 9)) * 32768)) (vJJ .i64 ((vJJ .i64 ((nxV e w (mA w m2 2) 5) - 2)) * 32768)))))] (f v))))
 else none)
 else none)
 else none)
 else none)
 else none)
 else none)
 else (K (.exit 2) ⟨[(2,.p 2 0),(3,.p 9 0),(4,.p 4 0)],[(2,.blk [.nl,.nl,.nl,.nl]),(4,.blk [.v (.lf (rbF (w,0,e)).2.2.1 (fJ (rbF (w,0,e)).1)),.v (.lf (rbF (w,0,e)).2.2.2.1 (fM (rbF (w,0,e)).2.1)),.o 40,.nl]),(9,.blk [.v (.lf w (fQ e)),.v (.n .i64 (m2:Int))]),(40,.reg 83 3 (.fo r f))]⟩)):=by kernel_rfl
noncomputable def sc2N (w:Nat) (e:Nat→Int) (_:Nat) (t:Nat × Nat × (Nat→List PV)):Nat × Nat × (Nat→List PV) :=
 (((ptS w (mA w t.1 4) e (Z3.mk (vJJ .i64 ((vJJ .i64 ((nxV e w t.1 19) - 9)) * 32768)) (vJJ .i64 ((vJJ .i64 ((nxV e w (mA w t.1 1) 19) - 9)) * 32768)) (vJJ .i64 ((vJJ .i64 ((nxV e w (mA w t.1 2) 5) - 2)) * 32768)))).1),(t.2.1 + 1),(fun v=>uV (Nat.beq v t.2.1) [.n .i64 (-1),.n .i64 (vJJ .i64 ((vJJ .i64 ((vJJ .i64 (1 + (nxV e w (mA w t.1 3) 4))) * 65536)).tdiv 8)),.lf ((nxV e w (mA w t.1 4) 4).toNat + 1) (fZ (ptQ w (mA w t.1 4) e (Z3.mk (vJJ .i64 ((vJJ .i64 ((nxV e w t.1 19) - 9)) * 32768)) (vJJ .i64 ((vJJ .i64 ((nxV e w (mA w t.1 1) 19) - 9)) * 32768)) (vJJ .i64 ((vJJ .i64 ((nxV e w (mA w t.1 2) 5) - 2)) * 32768)))))] (t.2.2 v)))
theorem jKH {w:Nat} {e:Nat→Int} (i:Nat) (t:Nat × Nat × (Nat→List PV)) (h:InvS w (3 + i) t):InvS w (3 + (i + 1)) (sc2N w e i t):=by
 obtain ⟨h1,h2,h3⟩:=h;exact ⟨kGQ _ _ _ _ (yG h1 4),(by show t.2.1 + 1≤3 + (i + 1); omega),yHJ h3 (kGC _ _ _ _)⟩
theorem k1_b (w:Nat) (e:Nat→Int):1≤(vJJ .i64 (1 + (nxV e w ((sc1S w e).1) 3)))∧(vJJ .i64 (1 + (nxV e w ((sc1S w e).1) 3)))≤3:=by
 have:=qQV (e:=e) (w:=w) (m:=((sc1S w e).1)) (k:=3) (by decide)
 rw [qV (by omega)]; omega
noncomputable def sc2S (w:Nat) (e:Nat→Int):Nat × Nat × (Nat→List PV):=qGV (sc2N w e) (vJJ .i64 (1 + (nxV e w ((sc1S w e).1) 3))).toNat 0 (mA w ((sc1S w e).1) 1,(sc1S w e).2.1,(sc1S w e).2.2)
theorem kVC (w:Nat) (e:Nat→Int) (hw:w≤9223372036854775807):InvS w (3 + 0) (mA w ((sc1S w e).1) 1,(sc1S w e).2.1,(sc1S w e).2.2):=by
 have h:=jKA w e hw;exact ⟨yG h.1 1,h.2.1,h.2.2⟩
theorem jKG (w:Nat) (e:Nat→Int) (hw:w≤9223372036854775807):InvS w 6 (sc2S w e):=by
 have hk:=k1_b w e;obtain ⟨a,b,c⟩:=qQK (Q:=fun (i:Nat) (t:Nat × Nat × (Nat→List PV))=>InvS w (3 + i) t) (c:=(vJJ .i64 (1 + (nxV e w ((sc1S w e).1) 3))).toNat) (nx:=sc2N w e) (fun i t _ h=>jKH i t h) (vJJ .i64 (1 + (nxV e w ((sc1S w e).1) 3))).toNat 0 _ (by omega) (kVC w e hw);exact ⟨a,Nat.le_trans b (by omega),c⟩
theorem lpSd (K:Cont) (w:Nat) (e:Nat→Int) (hw:w≤9223372036854775807):LFX 60 (cxS Tf (orSc w e) 60 8 (ntmF Tf 8)) (evX Tf (orSc w e) 60 8 (ntmF Tf 8)) (qZ []) (qQ Tf 8 [0,1,0,1,1,1,1]) [0,1,0,1,1,1,1] (Tf.hint 8 (qJ (qQ Tf 8 [0,1,0,1,1,1,1]))) K 60 (hSd w e (vJJ .i64 (1 + (nxV e w ((sc1S w e).1) 3))) (mA w ((sc1S w e).1) 1) ((sc1S w e).2.1) ((sc1S w e).2.2))=(K (.exit 2) ⟨[(2,.p 2 0),(3,.p 9 0),(4,.p 4 0)],[(2,.blk [.nl,.nl,.nl,.nl]),(4,.blk [.v (.lf (rbF (w,0,e)).2.2.1 (fJ (rbF (w,0,e)).1)),.v (.lf (rbF (w,0,e)).2.2.2.1 (fM (rbF (w,0,e)).2.1)),.o 40,.nl]),(9,.blk [.v (.lf w (fQ e)),.v (.n .i64 ((sc2S w e).1:Int))]),(40,.reg 83 3 (.fo (sc2S w e).2.1 (sc2S w e).2.2))]⟩):=by
 have hk:=k1_b w e;refine (congrArg (LFX 60 (cxS Tf (orSc w e) 60 8 (ntmF Tf 8)) (evX Tf (orSc w e) 60 8 (ntmF Tf 8)) (qZ []) (qQ Tf 8 [0,1,0,1,1,1,1]) [0,1,0,1,1,1,1] (Tf.hint 8 (qJ (qQ Tf 8 [0,1,0,1,1,1,1]))) K 60) (show (hSd w e (vJJ .i64 (1 + (nxV e w ((sc1S w e).1) 3))) (mA w ((sc1S w e).1) 1) ((sc1S w e).2.1) ((sc1S w e).2.2))=hSd w e ((vJJ .i64 (1 + (nxV e w ((sc1S w e).1) 3))) - ((0:Nat):Int)) (mA w ((sc1S w e).1) 1) (sc1S w e).2.1 (sc1S w e).2.2 from by rw [show (vJJ .i64 (1 + (nxV e w ((sc1S w e).1) 3))) - ((0:Nat):Int)=(vJJ .i64 (1 + (nxV e w ((sc1S w e).1) 3))) by omega])).trans ?_;refine (uH (L:=LFX 60 (cxS Tf (orSc w e) 60 8 (ntmF Tf 8)) (evX Tf (orSc w e) 60 8 (ntmF Tf 8)) (qZ []) (qQ Tf 8 [0,1,0,1,1,1,1]) [0,1,0,1,1,1,1] (Tf.hint 8 (qJ (qQ Tf 8 [0,1,0,1,1,1,1]))) K) (stp:=kQ 60 (cxS Tf (orSc w e) 60 8 (ntmF Tf 8)) (evX Tf (orSc w e) 60 8 (ntmF Tf 8)) (qZ []) (qQ Tf 8 [0,1,0,1,1,1,1]) [0,1,0,1,1,1,1] (Tf.hint 8 (qJ (qQ Tf 8 [0,1,0,1,1,1,1]))) K) (fun _ _=>rfl) (fun (i:Nat) (t:Nat × Nat × (Nat→List PV))=>hSd w e ((vJJ .i64 (1 + (nxV e w ((sc1S w e).1) 3))) - (i:Int)) t.1 t.2.1 t.2.2) (fun i t=>InvS w (3 + i) t) (fun _ _=>true) (sc2N w e) (c:=(vJJ .i64 (1 + (nxV e w ((sc1S w e).1) 3))).toNat) (fun t=>(K (.exit 2) ⟨[(2,.p 2 0),(3,.p 9 0),(4,.p 4 0)],[(2,.blk [.nl,.nl,.nl,.nl]),(4,.blk [.v (.lf (rbF (w,0,e)).2.2.1 (fJ (rbF (w,0,e)).1)),.v (.lf (rbF (w,0,e)).2.2.2.1 (fM (rbF (w,0,e)).2.1)),.o 40,.nl]),(9,.blk [.v (.lf w (fQ e)),.v (.n .i64 (t.1:Int))]),(40,.reg 83 3 (.fo t.2.1 t.2.2))]⟩)) (fun _ _=>none) (fun G i t hi hv => ?_) (fun i t hi hv _=>jKH i t hv) (fun G t hv => ?_) (vJJ .i64 (1 + (nxV e w ((sc1S w e).1) 3))).toNat 0 60 _ (by omega) (by omega) (kVC w e hw)).trans (qZI (vJJ .i64 (1 + (nxV e w ((sc1S w e).1) 3))).toNat 0 _)
 ·obtain ⟨h1,h2,h3⟩:=hv;refine (rdSd G K w e ((vJJ .i64 (1 + (nxV e w ((sc1S w e).1) 3))) - (i:Int)) t.1 t.2.1 t.2.2).trans ?_;simp only [vJQ (show 0 < (vJJ .i64 (1 + (nxV e w ((sc1S w e).1) 3))) - (i:Int) by omega),uZ (C:=cnx) (t:=(w,t.1,e,19)) ⟨h1,hw,by decide,by decide⟩,uZ (C:=cnx) (t:=(w,mA w t.1 1,e,19)) ⟨yG h1 1,hw,by decide,by decide⟩,uZ (C:=cnx) (t:=(w,mA w t.1 2,e,5)) ⟨yG h1 2,hw,by decide,by decide⟩,uZ (C:=cnx) (t:=(w,mA w t.1 3,e,4)) ⟨yG h1 3,hw,by decide,by decide⟩,uZ (C:=cpt) (t:=(w,(mA w t.1 4),e,(Z3.mk (vJJ .i64 ((vJJ .i64 ((nxV e w t.1 19) - 9)) * 32768)) (vJJ .i64 ((vJJ .i64 ((nxV e w (mA w t.1 1) 19) - 9)) * 32768)) (vJJ .i64 ((vJJ .i64 ((nxV e w (mA w t.1 2) 5) - 2)) * 32768))))) ⟨yG h1 4,hw⟩,vJQ (show t.2.1 + 1≤1000000 by omega),show vJJ .i64 ((vJJ .i64 (1 + (nxV e w ((sc1S w e).1) 3))) - (i:Int) - 1)=(vJJ .i64 (1 + (nxV e w ((sc1S w e).1) 3))) - ((i + 1:Nat):Int) from by rw [show (vJJ .i64 (1 + (nxV e w ((sc1S w e).1) 3))) - (i:Int) - 1=(vJJ .i64 (1 + (nxV e w ((sc1S w e).1) 3))) - ((i + 1:Nat):Int) by omega]; exact qV (by omega),vYV];rfl
 ·refine (rdSd G K w e ((vJJ .i64 (1 + (nxV e w ((sc1S w e).1) 3))) - (((vJJ .i64 (1 + (nxV e w ((sc1S w e).1) 3))).toNat:Nat):Int)) t.1 t.2.1 t.2.2).trans ?_;rw [vYH (show ¬ 0 < (vJJ .i64 (1 + (nxV e w ((sc1S w e).1) 3))) - (((vJJ .i64 (1 + (nxV e w ((sc1S w e).1) 3))).toNat:Nat):Int) by omega)];rfl
noncomputable def yGB (w:Nat) (e:Nat→Int):List (List Nat × jG):=[([0,1,0,1,1,1],sumF (fun _:Unit=>(hSc w e 0 ((rbF (w,0,e)).2.2.2.2) 0 (fun _=>[.n .i64 0,.n .i64 0,.zs]))) (fun _=>()) (fun _ K=>(bif gP (w≤9223372036854775807) then (K (.exit 0) ⟨[(2,.p 2 0),(3,.p 9 0),(4,.p 4 0)],[(2,.blk [.nl,.nl,.nl,.nl]),(4,.blk [.v (.lf (rbF (w,0,e)).2.2.1 (fJ (rbF (w,0,e)).1)),.v (.lf (rbF (w,0,e)).2.2.2.1 (fM (rbF (w,0,e)).2.1)),.o 40,.nl]),(9,.blk [.v (.lf w (fQ e)),.v (.n .i64 ((sc1S w e).1:Int))]),(40,.reg 83 3 (.fo (sc1S w e).2.1 (sc1S w e).2.2))]⟩) else none))),([0,1,0,1,1,1,1],sumF (fun _:Unit=>(hSd w e (vJJ .i64 (1 + (nxV e w ((sc1S w e).1) 3))) (mA w ((sc1S w e).1) 1) ((sc1S w e).2.1) ((sc1S w e).2.2))) (fun _=>()) (fun _ K=>(bif gP (w≤9223372036854775807) then (K (.exit 2) ⟨[(2,.p 2 0),(3,.p 9 0),(4,.p 4 0)],[(2,.blk [.nl,.nl,.nl,.nl]),(4,.blk [.v (.lf (rbF (w,0,e)).2.2.1 (fJ (rbF (w,0,e)).1)),.v (.lf (rbF (w,0,e)).2.2.2.1 (fM (rbF (w,0,e)).2.1)),.o 40,.nl]),(9,.blk [.v (.lf w (fQ e)),.v (.n .i64 ((sc2S w e).1:Int))]),(40,.reg 83 3 (.fo (sc2S w e).2.1 (sc2S w e).2.2))]⟩) else none)))]
set_option maxRecDepth 100000 in
theorem uGH (w:Nat) (e:Nat→Int):qYU Tf (orSc w e) (qZ (yGB w e)) 60 8 [.lf w (fQ e)] =
 (bif (gB1 crb hrb erb (w,0,e)) then (bif (gSt (hSc w e 0 ((rbF (w,0,e)).2.2.2.2) 0 (fun _=>[.n .i64 0,.n .i64 0,.zs])) (hSc w e 0 ((rbF (w,0,e)).2.2.2.2) 0 (fun _=>[.n .i64 0,.n .i64 0,.zs]))) then (bif gP (w≤9223372036854775807) then (bif (gB1 cnx hnx enx (w,((sc1S w e).1),e,3)) then (bif (gSt (hSd w e (vJJ .i64 (1 + (nxV e w ((sc1S w e).1) 3))) (mA w ((sc1S w e).1) 1) ((sc1S w e).2.1) ((sc1S w e).2.2)) (hSd w e (vJJ .i64 (1 + (nxV e w ((sc1S w e).1) 3))) (mA w ((sc1S w e).1) 1) ((sc1S w e).2.1) ((sc1S w e).2.2))) then (bif gP (w≤9223372036854775807) then (bif (gB1 cnx hnx enx (w,((sc2S w e).1),e,5)) then (bif (decide ((nxV e w ((sc2S w e).1) 5)=1)) then (bif (gB1 cnx hnx enx (w,(mA w ((sc2S w e).1) 1),e,((rbF (w,0,e)).2.2.1:Int))) then some (.v (.a [.lf (rbF (w,0,e)).2.2.1 (fJ (rbF (w,0,e)).1),.lf (rbF (w,0,e)).2.2.2.1 (fM (rbF (w,0,e)).2.1),.lf ((sc2S w e).2.1) ((sc2S w e).2.2),.l [[.n .i64 (-1),.n .i64 (nxV e w (mA w ((sc2S w e).1) 1) ((rbF (w,0,e)).2.2.1:Int))]]]),[])
 else none)
 else some (.v (.a [.lf (rbF (w,0,e)).2.2.1 (fJ (rbF (w,0,e)).1),.lf (rbF (w,0,e)).2.2.2.1 (fM (rbF (w,0,e)).2.1),.lf ((sc2S w e).2.1) ((sc2S w e).2.2),.l []]),[]))
 else none)
 else none)
 else none)
 else none)
 else none)
 else none)
 else none):=by kernel_rfl
theorem kQG (w:Nat) (e:Nat→Int) (hw:w≤9223372036854775807):yK Tryz.prog 8 [.lf w (fQ e)] (.v (.a [.lf (rbF (w,0,e)).2.2.1 (fJ (rbF (w,0,e)).1),.lf (rbF (w,0,e)).2.2.2.1 (fM (rbF (w,0,e)).2.1),.lf (sc2S w e).2.1 (sc2S w e).2.2,bif decide ((nxV e w ((sc2S w e).1) 5)=1) then .l [[.n .i64 (-1),.n .i64 (nxV e w (mA w ((sc2S w e).1) 1) ((rbF (w,0,e)).2.2.1:Int))]] else .l []])):=by
 refine yQ (N:=60) (LO:=qZ (yGB w e)) kX zW (uK (l:=[]) (m:=[(30,o_nx),(31,o_pt),(29,o_rb)]) trivial ⟨jZI,uHA,xGY,trivial⟩) (fun p S hp => ?_) ?_
 ·refine zG (L:=qQ Tf 8) (l:=(yGB w e)) (show AllP _ (yGB w e) from ⟨?_,?_,trivial⟩) p S hp
  ·dsimp only;refine kZ (T:=Tf) (o:=(orSc w e)) (f:=8) (LO:=qZ []) (p:=[0,1,0,1,1,1]) kW ?_;intro t K r hr;obtain ⟨hg,hr⟩:=qY hr
   skip
   exact (lpSc K w e (jH hg)).trans hr
  ·dsimp only;refine kZ (T:=Tf) (o:=(orSc w e)) (f:=8) (LO:=qZ []) (p:=[0,1,0,1,1,1,1]) kW ?_;intro t K r hr;obtain ⟨hg,hr⟩:=qY hr
   skip
   exact (lpSd K w e (jH hg)).trans hr
 ·refine (uGH w e).trans ?_;have hr:=yUW w e hw;have h1:=jKA w e hw;have h2:=jKG w e hw;simp only [uZ (C:=crb) (t:=(w,0,e)) ⟨Nat.zero_le _,hw⟩,yU,qVD hw,uZ (C:=cnx) (t:=(w,(sc1S w e).1,e,3)) ⟨h1.1,hw,by decide,by decide⟩,uZ (C:=cnx) (t:=(w,(sc2S w e).1,e,5)) ⟨h2.1,hw,by decide,by decide⟩,uZ (C:=cnx) (t:=(w,mA w (sc2S w e).1 1,e,((rbF (w,0,e)).2.2.1:Int))) ⟨yG h2.1 1,hw,by omega,by omega⟩,vYV];cases decide ((nxV e w ((sc2S w e).1) 5)=1) <;> rfl
theorem kGB {js:Nat→J} {n:Nat} (h:∀ v,v < n→JM v (js v)):qHC js n:=fun v hv=>by
 have h0:=(h v hv).2.1;unfold JF at h0;obtain ⟨_,_,_,_,_,⟨a,b,c⟩,_⟩:=h0;have hk:limK (js v).kind≤4194304:=by
  unfold limK;split
  ·decide
  ·split <;> decide
 omega
theorem uVC {f:Nat→List PV} {c:Nat} (h:∀ v,v < c→IsS (f v)):∃ sh:Nat→Shp,∀ v,v < c→f v=fS sh v:=by
 obtain ⟨sh,hs⟩:=zVU (τ:=Nat) (C:=fun v=>v < c) (R:=fun v s=>f v=sP s) (⟨0,0,0,fun _=>⟨0,0,0⟩⟩:Shp) h;exact ⟨sh,hs⟩
end Go.Proofs.YtgmbkkkbfbocnaaGreat.Go
namespace Go.Proofs.YtgmbkkkbfbocnaaGreat.Ht
open Go.Rx Rt Go.Sx Go.RowKit Od Na Nb Nc Nx Nf Nl Nm Ga Gb Gc Gd Ge Gf Gg Sn So Sq Gm Gn Go Ha Hb Hc Hd He Hf Hg Hh Hi Hj Hk Hm
theorem fQB:((ltrI 0).toList == (ltrI 1).toList)=false:=by kernel_rfl
theorem fQA:((ltrI 0).toList == (ltrI 2).toList)=false:=by kernel_rfl
theorem fQH:((ltrI 1).toList == (ltrI 2).toList)=false:=by kernel_rfl
theorem xZD {js:Nat→J} {n:Nat}:∀ (k p:Nat),(∀ i,p≤i→i < p + k→jErr js n i=0)→jE js n k p=0
 | 0,_,_=>rfl
 | k + 1,p,h=>by
  unfold jE;rw [h p (Nat.le_refl _) (by omega)];exact xZD k (p + 1) fun i h1 h2=>h i (by omega) (by omega)
theorem jWI {ms:Nat→Ms} {n:Nat}:∀ (k p:Nat),(∀ i,p≤i→i < p + k→MOK n (ms i))→mAll ms n k p=true
 | 0,_,_=>rfl
 | k + 1,p,h=>by
  unfold mAll mokB;rw [vJQ (h p (Nat.le_refl _) (by omega)),jWI k (p + 1) fun i h1 h2=>h i (by omega) (by omega)];rfl
theorem uKK {js:Nat→J} {n i:Nat} (hi:i < 3) (hj:∀ v,v≤i→JM v (js v)):jErr js n i=0:=by
 obtain ⟨h1,h2,_⟩:=hj i (Nat.le_refl _);unfold jErr;have hd:dup js (js i).name i 0=false:=by
  match i,hi,hj,h1 with
  | 0,_,_,_=>rfl
  | 1,_,hj,h1 =>
   have h0:=(hj 0 (by omega)).1;show (((js 0).name.toList == (js 1).name.toList) || false)=false;rw [h0,h1];show ((ltrI 0).toList == (ltrI 1).toList || false)=false;rw [fQB]; rfl
  | 2,_,hj,h1 =>
   have h0:=(hj 0 (by omega)).1;have h3:=(hj 1 (by omega)).1;show (((js 0).name.toList == (js 2).name.toList) || (((js 1).name.toList == (js 2).name.toList) || false))=false;rw [h0,h3,h1];show ((ltrI 0).toList == (ltrI 2).toList || ((ltrI 1).toList == (ltrI 2).toList || false))=false;rw [fQA,fQH]; rfl
 rw [hd,h1,xQL (by omega),vYV,vYG,xJY _ h2]
theorem uYQ {js:Nat→J} {ms:Nat→Ms} {n m:Nat} (_:1≤n∧n≤3) (_:m≤2) (hj:∀ v,v < n→JM v (js v)) (hms:∀ v,v < m→MM n (ms v)):rErr js ms n m=0:=by
 unfold rErr;rw [vYH (show ¬ (n:Int)=0 by omega),vYH (show ¬ 10 < (n:Int) by omega),xZD n 0 (fun i _ h2=>uKK (by omega) fun v hv=>hj v (by omega)),vJQ rfl,vYH (show ¬ 32 < (m:Int) by omega),jWI m 0 fun i _ h2=>hms i (by omega)];rfl
theorem uVA (w:Nat) (e:Nat→Int) (hw:w≤9223372036854775807):∃ (js:Nat→J) (ms:Nat→Ms) (sh:Nat→Shp) (sk:Nat→Skp) (n m c d:Nat),(1≤n∧n≤3)∧qHC js n∧rErr js ms n m=0∧yK Tryz.prog 8 [.lf w (fQ e)] (.v (.a [.lf n (fJ js),.lf m (fM ms),.lf c (fS sh),.lf d (fK sk)])):=by
 have h0:=kQG w e hw;have hr:=(yGQ (t:=(w,0,e)) ⟨Nat.zero_le _,hw⟩).1;obtain ⟨sh,hs⟩:=uVC (jKG w e hw).2.2;have hz:=uYQ hr.2.1 hr.2.2.1 hr.2.2.2.1 hr.2.2.2.2;cases hc:decide ((nxV e w ((sc2S w e).1) 5)=1) with
 | true =>
  rw [hc] at h0;exact ⟨_,_,sh,fun _=>⟨-1,(nxV e w (mA w ((sc2S w e).1) 1) ((rbF (w,0,e)).2.2.1:Int))⟩,_,_,_,1,hr.2.1,kGB hr.2.2.2.1,hz,qJZ (Same.a (xs:=[_,_,_,_]) ⟨qYW fun _ _=>rfl,qYW fun _ _=>rfl,qYW hs,Same.lf rfl,trivial⟩) h0⟩
 | false =>
  rw [hc] at h0;exact ⟨_,_,sh,fun _=>⟨0,0⟩,_,_,_,0,hr.2.1,kGB hr.2.2.2.1,hz,qJZ (Same.a (xs:=[_,_,_,_]) ⟨qYW fun _ _=>rfl,qYW fun _ _=>rfl,qYW hs,Same.lf rfl,trivial⟩) h0⟩
end Go.Proofs.YtgmbkkkbfbocnaaGreat.Ht

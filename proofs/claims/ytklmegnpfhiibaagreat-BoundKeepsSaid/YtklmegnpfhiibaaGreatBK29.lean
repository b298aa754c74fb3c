/- Part 29 of the texts behind the last one: rules and contracts. No condition. -/
import Derived.Test.YtklmegnpfhiibaaGreatBK28
open Bool renaming and_eq_true → vQJ, and_self → vZQ, true_and → vZW
open Go.IntKind renaming wrap → vYW
namespace Go.Proofs.YtklmegnpfhiibaaGreat.Yd
open Go.Rx Rt Go.Sx Go.RowKit Ba Bb Bc Bn Ya Yb Yc
theorem dcl0_step {g:Gr} (_:g.np≤100) {i:Nat} (hi:i < g.np) {s:(Nat→Int) × (Nat→Int)}:dcl0 g ((i:Int),s)=.inl (((i + 1:Nat):Int),setF s.1 i (-1),setF s.2 i (s.2 i)):=by
 obtain ⟨oc,oe⟩:=s;dsimp only [dcl0];simp only [toN,vYK (show (i:Int) < (g.np:Int) by omega),zU hi,jG (show i < 1000000 by omega),vYZ];rfl
theorem dcl0_end {g:Gr} {s:(Nat→Int) × (Nat→Int)}:dcl0 g ((g.np:Int),s)=.inr (0,(g.np:Int),s):=by
 obtain ⟨oc,oe⟩:=s;dsimp only [dcl0];rw [toN,vYJ (by omega)]; rfl
theorem it_l0 {g:Gr} (hp:g.np≤100) {N:Nat} (hN:g.np < N):∃ oc oe:Nat→Int,qG (dcl0 g) N (0,zN,zN)=some (0,(g.np:Int),oc,oe)∧∀ v,v < g.np→oc v = -1∧oe v=0:=by
 have h1:=qXH (dec:=dcl0 g) (nx:=fun (i:Nat) (s:(Nat→Int) × (Nat→Int))=>(setF s.1 i (-1),setF s.2 i (s.2 i))) (Q:=fun _ _=>True) (out:=fun s=>((g.np:Int),s)) (c:=g.np) (fun i s hi _=>dcl0_step hp hi) (fun _ _ _ _=>trivial) (fun s _=>dcl0_end) g.np 0 N (zN,zN) (by omega) hN trivial;have h2:=qZX (Q:=fun (i:Nat) (s:(Nat→Int) × (Nat→Int))=>(∀ v,v < i→s.1 v = -1)∧∀ v,s.2 v=0) (c:=g.np) (nx:=fun (i:Nat) (s:(Nat→Int) × (Nat→Int))=>(setF s.1 i (-1),setF s.2 i (s.2 i))) (fun i s hi hq=>⟨fun v hv=>by
  by_cases e:v=i
  ·subst e; exact qWJ _ _ _
  ·show setF s.1 i (-1) v = -1;rw [qKH e]; exact hq.1 v (by omega),fun v=>by
  by_cases e:v=i
  ·subst e; show setF s.2 v (s.2 v) v=0; rw [qWJ]; exact hq.2 v
  ·show setF s.2 i (s.2 i) v=0;rw [qKH e]; exact hq.2 v⟩) g.np 0 (zN,zN) (by omega) ⟨fun v hv=>absurd hv (Nat.not_lt_zero v),fun v=>rfl⟩
 exact ⟨_,_,h1,fun v hv=>⟨h2.1 v hv,h2.2 v⟩⟩
noncomputable def lbT (g:Gr) (b m:Int):Lbl:=(zYB NN g b m (true,(fun v=>(bif (Nat.beq v (b).toNat) then 0 else ((qYD NN g (0,zN,zN)).2.2.1 v))),(fun v=>(bif (Nat.beq v (b).toNat) then 0 else ((qYD NN g (0,zN,zN)).2.2.2 v))))).2
theorem zKE {g:Gr} {m:Int} {b:Nat} (hw:wfB g=true) (hp:g.np≤100) (hn:g.ne≤500) (hb:b < g.np):zWA NN g (0,zN,zN)=true∧(qYD NN g (0,zN,zN)).1=0∧zWH NN g (b:Int) m (true,(fun v=>(bif (Nat.beq v (b:Int).toNat) then 0 else ((qYD NN g (0,zN,zN)).2.2.1 v))),(fun v=>(bif (Nat.beq v (b:Int).toNat) then 0 else ((qYD NN g (0,zN,zN)).2.2.2 v))))=true∧(zYB NN g (b:Int) m (true,(fun v=>(bif (Nat.beq v (b:Int).toNat) then 0 else ((qYD NN g (0,zN,zN)).2.2.1 v))),(fun v=>(bif (Nat.beq v (b:Int).toNat) then 0 else ((qYD NN g (0,zN,zN)).2.2.2 v))))).1=0∧LbW g m b (lbT g b m).2.1 (lbT g b m).2.2∧BLb g m b (lbT g b m).2.1 (lbT g b m).2.2:=by
 have hl:=zKC (m:=m) hw hp;obtain ⟨oc,oe,h1,h2⟩:=it_l0 hp (show g.np < NN + 10 by rw [yQL]; omega);have o0:qYD NN g (0,zN,zN)=(0,(g.np:Int),oc,oe):=by unfold qYD; rw [h1]; rfl
 have k0:zWA NN g (0,zN,zN)=true:=by unfold zWA; rw [h1]; rfl
 have z:∀ (f:Nat→Int) (v:Nat),(bif Nat.beq v (b:Int).toNat then (0:Int) else f v)=if v=b then 0 else f v:=fun f v=>by
  rw [toN,qJH];by_cases e:v=b
  ·rw [vYK e,if_pos e]; rfl
  ·rw [vYJ e,if_neg e]; rfl
 have hW:LbW g m b (fun v=>(bif (Nat.beq v (b:Int).toNat) then 0 else (oc v))) (fun v=>(bif (Nat.beq v (b:Int).toNat) then 0 else (oe v))):=by
  refine ⟨fun v hv => ?_,?_⟩
  ·simp only [z];by_cases e:v=b
   ·subst e; rw [if_pos rfl,if_pos rfl]; exact .inr .nil
   ·rw [if_neg e,(h2 v hv).1]; exact .inl (by omega)
  ·simp only [z,if_true]; exact ⟨trivial,trivial⟩
 have hS:LbS g.np (fun v=>(bif (Nat.beq v (b:Int).toNat) then 0 else (oc v))) (fun v=>(bif (Nat.beq v (b:Int).toNat) then 0 else (oe v))) (1000 * ((0:Nat):Int)):=fun v hv=>by
  simp only [z];by_cases e:v=b
  ·rw [if_pos e,if_pos e]; omega
  ·rw [if_neg e,if_neg e,(h2 v hv).1,(h2 v hv).2]; omega
 have hK:KLb g m b (fun v=>(bif (Nat.beq v (b:Int).toNat) then 0 else (oc v))) (fun v=>(bif (Nat.beq v (b:Int).toNat) then 0 else (oe v))) ((0:Nat):Int):=fun v c p hv hpk=>by
  have hbd:=hv.bd hl;obtain ⟨rfl,rfl⟩:=hv.one hl (by omega);simp only [z,if_true];unfold leL leR; omega
 obtain ⟨oc',oe',q1,q2,q3⟩:=it_l1 hw hp hn hb (N:=NN) (show g.ne < NN + 10 by rw [yQL]; omega) (b:Int) 101 0 (NN + 10) _ _ (by omega) (by rw [yQL]; omega) hW hS hK;have o1:zYB NN g (b:Int) m (true,(fun v=>(bif (Nat.beq v (b:Int).toNat) then 0 else ((qYD NN g (0,zN,zN)).2.2.1 v))),(fun v=>(bif (Nat.beq v (b:Int).toNat) then 0 else ((qYD NN g (0,zN,zN)).2.2.2 v))))=(0,false,oc',oe'):=by rw [o0]; unfold zYB; rw [q1]; rfl
 have k1:zWH NN g (b:Int) m (true,(fun v=>(bif (Nat.beq v (b:Int).toNat) then 0 else ((qYD NN g (0,zN,zN)).2.2.1 v))),(fun v=>(bif (Nat.beq v (b:Int).toNat) then 0 else ((qYD NN g (0,zN,zN)).2.2.2 v))))=true:=by rw [o0]; unfold zWH; rw [q1]; rfl
 have hT:lbT g b m=(false,oc',oe'):=by unfold lbT; rw [o1]
 rw [hT];exact ⟨k0,by rw [o0],k1,by rw [o1],q2,q3⟩
noncomputable def lslb (N:Nat) (g:Gr) (b m:Int):List (List Nat × yV):=[([0,1,0,1,1],sumF (fun t:(Int × (Nat→Int) × (Nat→Int))=>(hl0 N g b m t.1 t.2.1 t.2.2)) (fun σ=>(slI σ 8,rgI σ 18 0,rgI σ 18 1)) (fun t K=>(bif zWA N g t then kxl0 N g b m K (qYD N g t) else none))),([0,1,0,1,1,1,1],sumF (fun t:(Bool × (Nat→Int) × (Nat→Int))=>(hl1 N g b m t.1 t.2.1 t.2.2)) (fun σ=>(slB σ 9,rgI σ 18 0,rgI σ 18 1)) (fun t K=>(bif zWH N g b m t then kxl1 N g b m K (zYB N g b m t) else none)))]
set_option maxRecDepth 100000 in
theorem pxlb (N:Nat) (g:Gr) (b m:Int):qQI Tf (orl0 N g b m) (qY (lslb N g b m)) (N + 10) 39 [.a (gP g),.n .i64 b,.n .i64 m] =
 (bif (decide (0≤(g.np:Int))) then (bif (decide ((g.np:Int)≤(g.np:Int))) then (bif (decide ((g.np:Int)≤1000000)) then (bif (gSt (hl0 N g b m 0 zN zN) (hl0 N g b m 0 zN zN)) then (bif (zWA N g (0,zN,zN)) then (bif (Nat.beq (qYD N g (0,zN,zN)).1 0) then (bif (inB b (g.np:Int).toNat) then (bif (gSt (hl1 N g b m true (fun v=>(bif (Nat.beq v (b).toNat) then 0 else ((qYD N g (0,zN,zN)).2.2.1 v))) (fun v=>(bif (Nat.beq v (b).toNat) then 0 else ((qYD N g (0,zN,zN)).2.2.2 v)))) (hl1 N g b m true (fun v=>(bif (Nat.beq v (b).toNat) then 0 else ((qYD N g (0,zN,zN)).2.2.1 v))) (fun v=>(bif (Nat.beq v (b).toNat) then 0 else ((qYD N g (0,zN,zN)).2.2.2 v))))) then (bif (zWH N g b m (true,(fun v=>(bif (Nat.beq v (b).toNat) then 0 else ((qYD N g (0,zN,zN)).2.2.1 v))),(fun v=>(bif (Nat.beq v (b).toNat) then 0 else ((qYD N g (0,zN,zN)).2.2.2 v))))) then (bif (Nat.beq (zYB N g b m (true,(fun v=>(bif (Nat.beq v (b).toNat) then 0 else ((qYD N g (0,zN,zN)).2.2.1 v))),(fun v=>(bif (Nat.beq v (b).toNat) then 0 else ((qYD N g (0,zN,zN)).2.2.2 v))))).1 0) then some (.ow 88 2 (.fo (g.np:Int).toNat (fun v=>[.n .i64 ((zYB N g b m (true,(fun v=>(bif (Nat.beq v (b).toNat) then 0 else ((qYD N g (0,zN,zN)).2.2.1 v))),(fun v=>(bif (Nat.beq v (b).toNat) then 0 else ((qYD N g (0,zN,zN)).2.2.2 v))))).2.2.1 v),.n .i64 ((zYB N g b m (true,(fun v=>(bif (Nat.beq v (b).toNat) then 0 else ((qYD N g (0,zN,zN)).2.2.1 v))),(fun v=>(bif (Nat.beq v (b).toNat) then 0 else ((qYD N g (0,zN,zN)).2.2.2 v))))).2.2.2 v)])),[])
 else none)
 else none)
 else none)
 else none)
 else none)
 else none)
 else none)
 else none)
 else none)
 else none):=by kernel_rfl
theorem snd_lb (N:Nat) (g:Gr) (b m:Int) (b0:Nat) (eb:b=(b0:Int)) (hN:N=NN) (hw:wfB g=true) (hp:g.np≤100) (hn:g.ne≤500) (hb:b0 < g.np):zY Tryz.prog 39 [.a (gP g),.n .i64 b,.n .i64 m] (.ow 88 2 (.fo g.np (tcP (lbT g b m).2.1 (lbT g b m).2.2))):=by
 refine qH (N:=(N + 10)) (LO:=qY (lslb N g b m)) jY yH (jK (l:=[(40,o_ru),(70,o_ls)]) (m:=[]) ⟨ok_ru,ok_ls,trivial⟩ trivial) (fun p S hp => ?_) ?_
 ·refine qX (L:=qZ Tf 39) (l:=(lslb N g b m)) (show AllP _ (lslb N g b m) from ⟨?_,?_,trivial⟩) p S hp
  ·dsimp only;refine jQ (T:=Tf) (o:=(orl0 N g b m)) (f:=39) (LO:=qY []) (p:=[0,1,0,1,1]) jU ?_;intro t K r hr;obtain ⟨hg,hr⟩:=qQ hr
   skip
   exact (lwl0 K N g b m t hg).trans hr
  ·dsimp only;refine jQ (T:=Tf) (o:=(orl0 N g b m)) (f:=39) (LO:=(qY (lil2 N g b m))) (p:=[0,1,0,1,1,1,1]) (okl2 N g b m) ?_;intro t K r hr;obtain ⟨hg,hr⟩:=qQ hr
   skip
   exact (lwl1 K N g b m t hg).trans hr
 ·refine (pxlb N g b m).trans ?_;subst eb hN;obtain ⟨s1,s2,s3,s4,_,_⟩:=zKE (m:=m) hw hp hn hb;simp only [vYK (show (0:Int)≤(g.np:Int) by omega),vYK (show (g.np:Int)≤(g.np:Int) by omega),vYK (show (g.np:Int)≤1000000 by omega),zW,s1,s2,qHD (n:=(g.np:Int).toNat) rfl (by rw [toN]; exact hb),vYZ,Nat.beq_refl];rw [s3,s4];rfl
end Go.Proofs.YtklmegnpfhiibaaGreat.Yd
namespace Go.Proofs.YtklmegnpfhiibaaGreat.Ye
open Go.Rx Rt Go.Sx Go.RowKit Ba Bb Bc Bn Ya Yb Yc Yd
def clb:Gr × Int × Int→Prop:=fun t=>match t with | (g,b,_)=>wfB g=true∧g.np≤100∧g.ne≤500∧0≤b∧b < (g.np:Int)
def elb:Gr × Int × Int→List PV:=fun t=>match t with | (g,b,m)=>[.a (gP g),.n .i64 b,.n .i64 m]
noncomputable def rlb:Gr × Int × Int→Ret:=fun t=>match t with | (g,b,m)=>.ow 88 2 (.fo g.np (tcP (lbT g b m).2.1 (lbT g b m).2.2))
def dlb:List PV→Gr × Int × Int:=fun ps=>match ps with
 | [.a [.lf np pt,.lf ne ed],.n _ b,.n _ m]=>(⟨np,pt,ne,unFE ed⟩,b,m)
 | _=>(⟨0,fun _=>[],0,fun _=>unE []⟩,0,0)
noncomputable def o_lb:List PV→Option (Bool × Ret):=o_fm dlb clb elb rlb
theorem ok_lb:jH Tryz.prog 39 o_lb:=qQD fun t h=>by
 obtain ⟨g,b,m⟩:=t;exact by
  have h:wfB g=true∧g.np≤100∧g.ne≤500∧0≤b∧b < (g.np:Int):=h;exact snd_lb NN g b m b.toNat (by omega) rfl h.1 h.2.1 h.2.2.1 (by omega)
noncomputable def orh1 (N:Nat) (g:Gr) (a b m:Int):OrS:=orS [(38,o_as),(39,o_lb),(40,o_ru)] []
noncomputable def hh2 (N:Nat) (g:Gr) (a b m:Int) (i:Int) (x:Int) (y:Int) (rn:Nat) (f:Nat→Int):St:=⟨[(2,.v (.n .i64 b)),(3,.v (.n .i64 m)),(4,.p 4 0),(8,.p 8 0),(10,.v (.lf g.np (fun v=>[.n .i64 ((lbT g b m).2.1 v),.n .i64 ((lbT g b m).2.2 v)]))),(11,.p 11 0),(12,.v (.n .i64 x)),(13,.v (.n .i64 y)),(14,.v (.n .i64 i))],[(4,.blk [.v (.lf g.np g.pt),.v (.lf g.ne (fE g.ed))]),(8,.blk [.nl,.v (.n .i64 0)]),(11,.blk [.o 43,.v (.n .i64 ((lbT g b m).2.1 (a).toNat))]),(43,.reg 3 1 (.fo rn (fun v=>[.n .i64 (f v)])))]⟩
set_option maxRecDepth 100000 in
theorem rdh2 (G:St→Option (Ret × Mem)) (K:Cont) (N:Nat) (g:Gr) (a b m:Int) (i:Int) (x:Int) (y:Int) (rn:Nat) (f:Nat→Int):stpT Tf 16 (orh1 N g a b m) (N + 10) [] [0,1,0,1,0,1,0,0,1,0,1,1,1,1,1] K G (hh2 N g a b m i x y rn f) =
 (bif (decide (i < (g.ne:Int))) then (bif (inB i g.ne) then (bif (gF1 cru eru ((g.ed (i).toNat),m)) then (bif (usB (g.ed (i).toNat).s m) then (bif (!decide ((g.ed (i).toNat).u=x)) then (bif (!decide ((g.ed (i).toNat).v=x)) then (G (hh2 N g a b m (vYW .i64 (i + 1)) x y rn (fun v=>(f v))))
 else (bif (inB (vYW .i64 ((vYW .i64 ((g.ed (i).toNat).u + (g.ed (i).toNat).v)) - x)) g.np) then (bif (decide (0≤((lbT g b m).2.1 ((vYW .i64 ((vYW .i64 ((g.ed (i).toNat).u + (g.ed (i).toNat).v)) - x))).toNat))) then (bif (inB (vYW .i64 ((vYW .i64 ((g.ed (i).toNat).u + (g.ed (i).toNat).v)) - x)) g.np) then (bif (inB x g.np) then (bif (decide ((vYW .i64 (((lbT g b m).2.1 ((vYW .i64 ((vYW .i64 ((g.ed (i).toNat).u + (g.ed (i).toNat).v)) - x))).toNat) + (g.ed (i).toNat).c))=((lbT g b m).2.1 (x).toNat))) then (bif (inB (vYW .i64 ((vYW .i64 ((g.ed (i).toNat).u + (g.ed (i).toNat).v)) - x)) g.np) then (bif (inB x g.np) then (bif (decide ((vYW .i64 (((lbT g b m).2.2 ((vYW .i64 ((vYW .i64 ((g.ed (i).toNat).u + (g.ed (i).toNat).v)) - x))).toNat) + 1))=((lbT g b m).2.2 (x).toNat))) then (bif (decide (y < 0)) then (G (hh2 N g a b m (vYW .i64 (i + 1)) x (vYW .i64 ((vYW .i64 ((g.ed (i).toNat).u + (g.ed (i).toNat).v)) - x)) rn (fun v=>(f v))))
 else (bif (decide ((vYW .i64 ((vYW .i64 ((g.ed (i).toNat).u + (g.ed (i).toNat).v)) - x)) < y)) then (G (hh2 N g a b m (vYW .i64 (i + 1)) x (vYW .i64 ((vYW .i64 ((g.ed (i).toNat).u + (g.ed (i).toNat).v)) - x)) rn (fun v=>(f v))))
 else (G (hh2 N g a b m (vYW .i64 (i + 1)) x y rn (fun v=>(f v))))))
 else (G (hh2 N g a b m (vYW .i64 (i + 1)) x y rn (fun v=>(f v)))))
 else none)
 else none)
 else (G (hh2 N g a b m (vYW .i64 (i + 1)) x y rn (fun v=>(f v)))))
 else none)
 else none)
 else (G (hh2 N g a b m (vYW .i64 (i + 1)) x y rn (fun v=>(f v)))))
 else none))
 else (bif (inB (vYW .i64 ((vYW .i64 ((g.ed (i).toNat).u + (g.ed (i).toNat).v)) - x)) g.np) then (bif (decide (0≤((lbT g b m).2.1 ((vYW .i64 ((vYW .i64 ((g.ed (i).toNat).u + (g.ed (i).toNat).v)) - x))).toNat))) then (bif (inB (vYW .i64 ((vYW .i64 ((g.ed (i).toNat).u + (g.ed (i).toNat).v)) - x)) g.np) then (bif (inB x g.np) then (bif (decide ((vYW .i64 (((lbT g b m).2.1 ((vYW .i64 ((vYW .i64 ((g.ed (i).toNat).u + (g.ed (i).toNat).v)) - x))).toNat) + (g.ed (i).toNat).c))=((lbT g b m).2.1 (x).toNat))) then (bif (inB (vYW .i64 ((vYW .i64 ((g.ed (i).toNat).u + (g.ed (i).toNat).v)) - x)) g.np) then (bif (inB x g.np) then (bif (decide ((vYW .i64 (((lbT g b m).2.2 ((vYW .i64 ((vYW .i64 ((g.ed (i).toNat).u + (g.ed (i).toNat).v)) - x))).toNat) + 1))=((lbT g b m).2.2 (x).toNat))) then (bif (decide (y < 0)) then (G (hh2 N g a b m (vYW .i64 (i + 1)) x (vYW .i64 ((vYW .i64 ((g.ed (i).toNat).u + (g.ed (i).toNat).v)) - x)) rn (fun v=>(f v))))
 else (bif (decide ((vYW .i64 ((vYW .i64 ((g.ed (i).toNat).u + (g.ed (i).toNat).v)) - x)) < y)) then (G (hh2 N g a b m (vYW .i64 (i + 1)) x (vYW .i64 ((vYW .i64 ((g.ed (i).toNat).u + (g.ed (i).toNat).v)) - x)) rn (fun v=>(f v))))
 else (G (hh2 N g a b m (vYW .i64 (i + 1)) x y rn (fun v=>(f v))))))
 else (G (hh2 N g a b m (vYW .i64 (i + 1)) x y rn (fun v=>(f v)))))
 else none)
 else none)
 else (G (hh2 N g a b m (vYW .i64 (i + 1)) x y rn (fun v=>(f v)))))
 else none)
 else none)
 else (G (hh2 N g a b m (vYW .i64 (i + 1)) x y rn (fun v=>(f v)))))
 else none))
 else (G (hh2 N g a b m (vYW .i64 (i + 1)) x y rn (fun v=>(f v)))))
 else none)
 else none)
 else (K (.exit 2) ⟨[(2,.v (.n .i64 b)),(3,.v (.n .i64 m)),(4,.p 4 0),(8,.p 8 0),(10,.v (.lf g.np (fun v=>[.n .i64 ((lbT g b m).2.1 v),.n .i64 ((lbT g b m).2.2 v)]))),(11,.p 11 0),(13,.v (.n .i64 y))],[(4,.blk [.v (.lf g.np g.pt),.v (.lf g.ne (fE g.ed))]),(8,.blk [.nl,.v (.n .i64 0)]),(11,.blk [.o 43,.v (.n .i64 ((lbT g b m).2.1 (a).toNat))]),(43,.reg 3 1 (.fo rn (fun v=>[.n .i64 (f v)])))]⟩)):=by kernel_rfl
noncomputable def dch2 (g:Gr) (b m:Int):(Int × Int × Int × Nat × (Nat→Int))→(Int × Int × Int × Nat × (Nat→Int)) ⊕ (Nat × Int × Int × Int × Nat × (Nat→Int)):=fun t=>match t with | (i,x,y,rn,f)=>(bif (decide (i < (g.ne:Int))) then (bif (inB i g.ne) then (bif (gF1 cru eru ((g.ed (i).toNat),m)) then (bif (usB (g.ed (i).toNat).s m) then (bif (decide ((g.ed (i).toNat).u=x)) then (bif (inB (vYW .i64 ((vYW .i64 ((g.ed (i).toNat).u + (g.ed (i).toNat).v)) - x)) g.np) then (bif (decide (0≤((lbT g b m).2.1 ((vYW .i64 ((vYW .i64 ((g.ed (i).toNat).u + (g.ed (i).toNat).v)) - x))).toNat))) then (bif (inB x g.np) then (bif (decide ((vYW .i64 (((lbT g b m).2.1 ((vYW .i64 ((vYW .i64 ((g.ed (i).toNat).u + (g.ed (i).toNat).v)) - x))).toNat) + (g.ed (i).toNat).c))=((lbT g b m).2.1 (x).toNat))) then (bif (decide ((vYW .i64 (((lbT g b m).2.2 ((vYW .i64 ((vYW .i64 ((g.ed (i).toNat).u + (g.ed (i).toNat).v)) - x))).toNat) + 1))=((lbT g b m).2.2 (x).toNat))) then (bif (decide (y < 0)) then (.inl ((vYW .i64 (i + 1)),x,(vYW .i64 ((vYW .i64 ((g.ed (i).toNat).u + (g.ed (i).toNat).v)) - x)),rn,(fun v=>(f v)))) else (bif (decide ((vYW .i64 ((vYW .i64 ((g.ed (i).toNat).u + (g.ed (i).toNat).v)) - x)) < y)) then (.inl ((vYW .i64 (i + 1)),x,(vYW .i64 ((vYW .i64 ((g.ed (i).toNat).u + (g.ed (i).toNat).v)) - x)),rn,(fun v=>(f v)))) else (.inl ((vYW .i64 (i + 1)),x,y,rn,(fun v=>(f v)))))) else (.inl ((vYW .i64 (i + 1)),x,y,rn,(fun v=>(f v))))) else (.inl ((vYW .i64 (i + 1)),x,y,rn,(fun v=>(f v))))) else (.inr (1,(i,x,y,rn,f)))) else (.inl ((vYW .i64 (i + 1)),x,y,rn,(fun v=>(f v))))) else (.inr (1,(i,x,y,rn,f)))) else (bif (decide ((g.ed (i).toNat).v=x)) then (bif (inB (vYW .i64 ((vYW .i64 ((g.ed (i).toNat).u + (g.ed (i).toNat).v)) - x)) g.np) then (bif (decide (0≤((lbT g b m).2.1 ((vYW .i64 ((vYW .i64 ((g.ed (i).toNat).u + (g.ed (i).toNat).v)) - x))).toNat))) then (bif (inB x g.np) then (bif (decide ((vYW .i64 (((lbT g b m).2.1 ((vYW .i64 ((vYW .i64 ((g.ed (i).toNat).u + (g.ed (i).toNat).v)) - x))).toNat) + (g.ed (i).toNat).c))=((lbT g b m).2.1 (x).toNat))) then (bif (decide ((vYW .i64 (((lbT g b m).2.2 ((vYW .i64 ((vYW .i64 ((g.ed (i).toNat).u + (g.ed (i).toNat).v)) - x))).toNat) + 1))=((lbT g b m).2.2 (x).toNat))) then (bif (decide (y < 0)) then (.inl ((vYW .i64 (i + 1)),x,(vYW .i64 ((vYW .i64 ((g.ed (i).toNat).u + (g.ed (i).toNat).v)) - x)),rn,(fun v=>(f v)))) else (bif (decide ((vYW .i64 ((vYW .i64 ((g.ed (i).toNat).u + (g.ed (i).toNat).v)) - x)) < y)) then (.inl ((vYW .i64 (i + 1)),x,(vYW .i64 ((vYW .i64 ((g.ed (i).toNat).u + (g.ed (i).toNat).v)) - x)),rn,(fun v=>(f v)))) else (.inl ((vYW .i64 (i + 1)),x,y,rn,(fun v=>(f v)))))) else (.inl ((vYW .i64 (i + 1)),x,y,rn,(fun v=>(f v))))) else (.inl ((vYW .i64 (i + 1)),x,y,rn,(fun v=>(f v))))) else (.inr (1,(i,x,y,rn,f)))) else (.inl ((vYW .i64 (i + 1)),x,y,rn,(fun v=>(f v))))) else (.inr (1,(i,x,y,rn,f)))) else (.inl ((vYW .i64 (i + 1)),x,y,rn,(fun v=>(f v)))))) else (.inl ((vYW .i64 (i + 1)),x,y,rn,(fun v=>(f v))))) else (.inr (1,(i,x,y,rn,f)))) else (.inr (1,(i,x,y,rn,f)))) else (.inr (0,(i,x,y,rn,f))))
noncomputable def kxh2 (N:Nat) (g:Gr) (a b m:Int) (K:Cont) (w9:Nat × Int × Int × Int × Nat × (Nat→Int)):Option (Ret × Mem):=bif Nat.beq w9.1 0 then (K (.exit 2) ⟨[(2,.v (.n .i64 b)),(3,.v (.n .i64 m)),(4,.p 4 0),(8,.p 8 0),(10,.v (.lf g.np (fun v=>[.n .i64 ((lbT g b m).2.1 v),.n .i64 ((lbT g b m).2.2 v)]))),(11,.p 11 0),(13,.v (.n .i64 w9.2.2.2.1))],[(4,.blk [.v (.lf g.np g.pt),.v (.lf g.ne (fE g.ed))]),(8,.blk [.nl,.v (.n .i64 0)]),(11,.blk [.o 43,.v (.n .i64 ((lbT g b m).2.1 (a).toNat))]),(43,.reg 3 1 (.fo w9.2.2.2.2.1 (fun v=>[.n .i64 (w9.2.2.2.2.2 v)])))]⟩) else none
theorem wlh2 (K:Cont) (N:Nat) (g:Gr) (a b m:Int):∀ n9 (t:(Int × Int × Int × Nat × (Nat→Int))),LFT Tf 16 (orh1 N g a b m) (N + 10) [] [0,1,0,1,0,1,0,0,1,0,1,1,1,1,1] K n9 (hh2 N g a b m t.1 t.2.1 t.2.2.1 t.2.2.2.1 t.2.2.2.2)=(qG (dch2 g b m) n9 t).bind (kxh2 N g a b m K):=fun n9 t=>by
 refine qYG (L:=LFT Tf 16 (orh1 N g a b m) (N + 10) [] [0,1,0,1,0,1,0,0,1,0,1,1,1,1,1] K) (stp:=stpT Tf 16 (orh1 N g a b m) (N + 10) [] [0,1,0,1,0,1,0,0,1,0,1,1,1,1,1] K) (fun _ _=>rfl) (fun _=>rfl) (fun t=>hh2 N g a b m t.1 t.2.1 t.2.2.1 t.2.2.2.1 t.2.2.2.2) (fun _=>True) (dch2 g b m) (kxh2 N g a b m K) (fun G t _ => ?_) (fun _ _ _ _=>trivial) n9 t trivial;obtain ⟨i,x,y,rn,f⟩:=t;refine (rdh2 G K N g a b m i x y rn f).trans ?_;dsimp only [dch2];cases (decide (i < (g.ne:Int)))
 ·rfl
 ·cases (inB i g.ne)
  ·rfl
  ·cases (gF1 cru eru ((g.ed (i).toNat),m))
   ·rfl
   ·cases (usB (g.ed (i).toNat).s m)
    ·rfl
    ·cases (decide ((g.ed (i).toNat).u=x))
     ·cases (decide ((g.ed (i).toNat).v=x))
      ·rfl
      ·cases (inB (vYW .i64 ((vYW .i64 ((g.ed (i).toNat).u + (g.ed (i).toNat).v)) - x)) g.np)
       ·rfl
       ·cases (decide (0≤((lbT g b m).2.1 ((vYW .i64 ((vYW .i64 ((g.ed (i).toNat).u + (g.ed (i).toNat).v)) - x))).toNat)))
        ·rfl
        ·cases (inB x g.np)
         ·rfl
         ·cases (decide ((vYW .i64 (((lbT g b m).2.1 ((vYW .i64 ((vYW .i64 ((g.ed (i).toNat).u + (g.ed (i).toNat).v)) - x))).toNat) + (g.ed (i).toNat).c))=((lbT g b m).2.1 (x).toNat)))
          ·rfl
          ·cases (decide ((vYW .i64 (((lbT g b m).2.2 ((vYW .i64 ((vYW .i64 ((g.ed (i).toNat).u + (g.ed (i).toNat).v)) - x))).toNat) + 1))=((lbT g b m).2.2 (x).toNat)))
           ·rfl
           ·cases (decide (y < 0))
            ·cases (decide ((vYW .i64 ((vYW .i64 ((g.ed (i).toNat).u + (g.ed (i).toNat).v)) - x)) < y))
             ·rfl
             ·rfl
            ·rfl
     ·cases (inB (vYW .i64 ((vYW .i64 ((g.ed (i).toNat).u + (g.ed (i).toNat).v)) - x)) g.np)
      ·rfl
      ·cases (decide (0≤((lbT g b m).2.1 ((vYW .i64 ((vYW .i64 ((g.ed (i).toNat).u + (g.ed (i).toNat).v)) - x))).toNat)))
       ·rfl
       ·cases (inB x g.np)
        ·rfl
        ·cases (decide ((vYW .i64 (((lbT g b m).2.1 ((vYW .i64 ((vYW .i64 ((g.ed (i).toNat).u + (g.ed (i).toNat).v)) - x))).toNat) + (g.ed (i).toNat).c))=((lbT g b m).2.1 (x).toNat)))
         ·rfl
         ·cases (decide ((vYW .i64 (((lbT g b m).2.2 ((vYW .i64 ((vYW .i64 ((g.ed (i).toNat).u + (g.ed (i).toNat).v)) - x))).toNat) + 1))=((lbT g b m).2.2 (x).toNat)))
          ·rfl
          ·cases (decide (y < 0))
           ·cases (decide ((vYW .i64 ((vYW .i64 ((g.ed (i).toNat).u + (g.ed (i).toNat).v)) - x)) < y))
            ·rfl
            ·rfl
           ·rfl
noncomputable def zXK (N:Nat) (g:Gr) (b m:Int) (t:(Int × Int × Int × Nat × (Nat→Int))):Bool:=(qG (dch2 g b m) (N + 10) t).isSome
noncomputable def qUD (N:Nat) (g:Gr) (b m:Int) (t:(Int × Int × Int × Nat × (Nat→Int))):Nat × Int × Int × Int × Nat × (Nat→Int):=(qG (dch2 g b m) (N + 10) t).getD (99,t)
theorem lwh2 (K:Cont) (N:Nat) (g:Gr) (a b m:Int) (t:(Int × Int × Int × Nat × (Nat→Int))) (hg:zXK N g b m t=true):LFT Tf 16 (orh1 N g a b m) (N + 10) [] [0,1,0,1,0,1,0,0,1,0,1,1,1,1,1] K (N + 10) (hh2 N g a b m t.1 t.2.1 t.2.2.1 t.2.2.2.1 t.2.2.2.2)=kxh2 N g a b m K (qUD N g b m t):=by
 refine (wlh2 K N g a b m (N + 10) t).trans ?_;unfold zXK at hg;unfold qUD;cases h:qG (dch2 g b m) (N + 10) t with
 | none=>rw [h] at hg; cases hg
 | some y=>rfl
noncomputable def lih2 (N:Nat) (g:Gr) (a b m:Int):List (List Nat × yV):=[([0,1,0,1,0,1,0,0,1,0,1,1,1,1,1],sumF (fun t:(Int × Int × Int × Nat × (Nat→Int))=>(hh2 N g a b m t.1 t.2.1 t.2.2.1 t.2.2.2.1 t.2.2.2.2)) (fun σ=>(slI σ 14,slI σ 12,slI σ 13,rgN σ 43,rgI σ 43 0)) (fun t K=>(bif zXK N g b m t then kxh2 N g a b m K (qUD N g b m t) else none)))]
theorem okh2 (N:Nat) (g:Gr) (a b m:Int):∀ p S,qY (lih2 N g a b m) p=some S→kX (N + 10) (cxS Tf (orh1 N g a b m) (N + 10) 16 (ntmF Tf 16)) (qZ Tf 16 p) S:=fun p S hp=>by
 refine qX (L:=qZ Tf 16) (l:=(lih2 N g a b m)) (show AllP _ (lih2 N g a b m) from ⟨?_,trivial⟩) p S hp;dsimp only;refine jQ (T:=Tf) (o:=(orh1 N g a b m)) (f:=16) (LO:=qY []) (p:=[0,1,0,1,0,1,0,0,1,0,1,1,1,1,1]) jU ?_;intro t K r hr;obtain ⟨hg,hr⟩:=qQ hr
 skip
 exact (lwh2 K N g a b m t hg).trans hr
noncomputable def hh1 (N:Nat) (g:Gr) (a b m:Int) (x:Int) (rn:Nat) (f:Nat→Int):St:=⟨[(2,.v (.n .i64 b)),(3,.v (.n .i64 m)),(4,.p 4 0),(8,.p 8 0),(10,.v (.lf g.np (fun v=>[.n .i64 ((lbT g b m).2.1 v),.n .i64 ((lbT g b m).2.2 v)]))),(11,.p 11 0),(12,.v (.n .i64 x))],[(4,.blk [.v (.lf g.np g.pt),.v (.lf g.ne (fE g.ed))]),(8,.blk [.nl,.v (.n .i64 0)]),(11,.blk [.o 43,.v (.n .i64 ((lbT g b m).2.1 (a).toNat))]),(43,.reg 3 1 (.fo rn (fun v=>[.n .i64 (f v)])))]⟩
set_option maxRecDepth 100000 in
theorem rdh1 (G:St→Option (Ret × Mem)) (K:Cont) (N:Nat) (g:Gr) (a b m:Int) (x:Int) (rn:Nat) (f:Nat→Int):stpT Tf 16 (orh1 N g a b m) (N + 10) (lih2 N g a b m) [0,1,0,1,1,1,1,1] K G (hh1 N g a b m x rn f) =
 (bif (!decide (x=b)) then (bif (gSt (hh2 N g a b m 0 x (-1) rn f) (hh2 N g a b m 0 x (-1) rn f)) then (bif (zXK N g b m (0,x,(-1),rn,f)) then (bif (Nat.beq (qUD N g b m (0,x,(-1),rn,f)).1 0) then (bif (decide ((qUD N g b m (0,x,(-1),rn,f)).2.2.2.2.1 + 1≤1000000)) then (G (hh1 N g a b m (qUD N g b m (0,x,(-1),rn,f)).2.2.2.1 ((qUD N g b m (0,x,(-1),rn,f)).2.2.2.2.1 + 1) (fun v=>(bif (Nat.beq v (qUD N g b m (0,x,(-1),rn,f)).2.2.2.2.1) then (qUD N g b m (0,x,(-1),rn,f)).2.2.2.1 else ((qUD N g b m (0,x,(-1),rn,f)).2.2.2.2.2 v)))))
 else none)
 else none)
 else none)
 else none)
 else (K (.exit 0) ⟨[(8,.p 8 0),(11,.p 11 0)],[(8,.blk [.nl,.v (.n .i64 0)]),(11,.blk [.o 43,.v (.n .i64 ((lbT g b m).2.1 (a).toNat))]),(43,.reg 3 1 (.fo rn (fun v=>[.n .i64 (f v)])))]⟩)):=by kernel_rfl
noncomputable def dch1 (N:Nat) (g:Gr) (a b m:Int):(Int × Nat × (Nat→Int))→(Int × Nat × (Nat→Int)) ⊕ (Nat × Int × Nat × (Nat→Int)):=fun t=>match t with | (x,rn,f)=>(bif (decide (x=b)) then (.inr (0,(x,rn,f))) else (bif (gSt (hh2 N g a b m 0 x (-1) rn f) (hh2 N g a b m 0 x (-1) rn f)) then (bif (zXK N g b m (0,x,(-1),rn,f)) then (bif (Nat.beq (qUD N g b m (0,x,(-1),rn,f)).1 0) then (bif (decide ((qUD N g b m (0,x,(-1),rn,f)).2.2.2.2.1 + 1≤1000000)) then (.inl ((qUD N g b m (0,x,(-1),rn,f)).2.2.2.1,((qUD N g b m (0,x,(-1),rn,f)).2.2.2.2.1 + 1),(fun v=>(bif (Nat.beq v (qUD N g b m (0,x,(-1),rn,f)).2.2.2.2.1) then (qUD N g b m (0,x,(-1),rn,f)).2.2.2.1 else ((qUD N g b m (0,x,(-1),rn,f)).2.2.2.2.2 v))))) else (.inr (1,(x,rn,f)))) else (.inr (1,(x,rn,f)))) else (.inr (1,(x,rn,f)))) else (.inr (1,(x,rn,f)))))
noncomputable def kxh1 (N:Nat) (g:Gr) (a b m:Int) (K:Cont) (w9:Nat × Int × Nat × (Nat→Int)):Option (Ret × Mem):=bif Nat.beq w9.1 0 then (K (.exit 0) ⟨[(8,.p 8 0),(11,.p 11 0)],[(8,.blk [.nl,.v (.n .i64 0)]),(11,.blk [.o 43,.v (.n .i64 ((lbT g b m).2.1 (a).toNat))]),(43,.reg 3 1 (.fo w9.2.2.1 (fun v=>[.n .i64 (w9.2.2.2 v)])))]⟩) else none
theorem wlh1 (K:Cont) (N:Nat) (g:Gr) (a b m:Int):∀ n9 (t:(Int × Nat × (Nat→Int))),LFT Tf 16 (orh1 N g a b m) (N + 10) (lih2 N g a b m) [0,1,0,1,1,1,1,1] K n9 (hh1 N g a b m t.1 t.2.1 t.2.2)=(qG (dch1 N g a b m) n9 t).bind (kxh1 N g a b m K):=fun n9 t=>by
 refine qYG (L:=LFT Tf 16 (orh1 N g a b m) (N + 10) (lih2 N g a b m) [0,1,0,1,1,1,1,1] K) (stp:=stpT Tf 16 (orh1 N g a b m) (N + 10) (lih2 N g a b m) [0,1,0,1,1,1,1,1] K) (fun _ _=>rfl) (fun _=>rfl) (fun t=>hh1 N g a b m t.1 t.2.1 t.2.2) (fun _=>True) (dch1 N g a b m) (kxh1 N g a b m K) (fun G t _ => ?_) (fun _ _ _ _=>trivial) n9 t trivial;obtain ⟨x,rn,f⟩:=t;refine (rdh1 G K N g a b m x rn f).trans ?_;dsimp only [dch1];cases (decide (x=b))
 ·cases (gSt (hh2 N g a b m 0 x (-1) rn f) (hh2 N g a b m 0 x (-1) rn f))
  ·rfl
  ·cases (zXK N g b m (0,x,(-1),rn,f))
   ·rfl
   ·cases (Nat.beq (qUD N g b m (0,x,(-1),rn,f)).1 0)
    ·rfl
    ·cases (decide ((qUD N g b m (0,x,(-1),rn,f)).2.2.2.2.1 + 1≤1000000))
     ·rfl
     ·rfl
 ·rfl
noncomputable def zHV (N:Nat) (g:Gr) (a b m:Int) (t:(Int × Nat × (Nat→Int))):Bool:=(qG (dch1 N g a b m) (N + 10) t).isSome
noncomputable def zYC (N:Nat) (g:Gr) (a b m:Int) (t:(Int × Nat × (Nat→Int))):Nat × Int × Nat × (Nat→Int):=(qG (dch1 N g a b m) (N + 10) t).getD (99,t)
theorem lwh1 (K:Cont) (N:Nat) (g:Gr) (a b m:Int) (t:(Int × Nat × (Nat→Int))) (hg:zHV N g a b m t=true):LFT Tf 16 (orh1 N g a b m) (N + 10) (lih2 N g a b m) [0,1,0,1,1,1,1,1] K (N + 10) (hh1 N g a b m t.1 t.2.1 t.2.2)=kxh1 N g a b m K (zYC N g a b m t):=by
 refine (wlh1 K N g a b m (N + 10) t).trans ?_;unfold zHV at hg;unfold zYC;cases h:qG (dch1 N g a b m) (N + 10) t with
 | none=>rw [h] at hg; cases hg
 | some y=>rfl
def othE (g:Gr) (x:Nat) (e:Nat):Int:=(g.ed e).u + (g.ed e).v - (x:Int)
section
variable {g:Gr} {m:Int} {b:Nat}
def QlE (g:Gr) (b m:Int) (x e:Nat):Prop:=usB (g.ed e).s m=true∧((g.ed e).u=(x:Int) ∨ (g.ed e).v=(x:Int))∧0≤(lbT g b m).2.1 (othE g x e).toNat∧(lbT g b m).2.1 (othE g x e).toNat + (g.ed e).c=(lbT g b m).2.1 x∧(lbT g b m).2.2 (othE g x e).toNat + 1=(lbT g b m).2.2 x
def GdP (g:Gr) (b m:Int) (x:Nat) (y:Int):Prop:=0≤y∧y < (g.np:Int)∧0≤(lbT g b m).2.1 y.toNat∧(lbT g b m).2.2 y.toNat + 1=(lbT g b m).2.2 x
theorem oth_in (hw:wfB g=true) {x e:Nat} (he:e < g.ne) (h:(g.ed e).u=(x:Int) ∨ (g.ed e).v=(x:Int)):0≤othE g x e∧othE g x e < (g.np:Int)∧x < g.np:=by
 obtain ⟨e1,e2,e3,_,_⟩:=qXU hw he;unfold othE;rcases h with h | h <;> omega
theorem zGQ (hw:wfB g=true) (hp:g.np≤100) (hn:g.ne≤500) (hb:b < g.np) {v:Nat} (hv:v < g.np) (_:0≤(lbT g (b:Int) m).2.1 v):(lbT g (b:Int) m).2.1 v≤109951162777600∧0≤(lbT g (b:Int) m).2.2 v∧(lbT g (b:Int) m).2.2 v≤100:=by
 have hl:=zKC (m:=m) hw hp;obtain ⟨_,_,_,_,h1,h2⟩:=zKE (m:=m) hw hp hn hb;rcases h1.wk v hv with h3 | h3
 ·omega
 ·have h4:=h3.bd hl;rcases bestW (m:=m) hw hp hb with h5 | ⟨c,p,h5,h6,h7⟩
  ·exact absurd h3 (h5 _ _)
  ·have h8:=h5.bd hl;have h9:=h7 _ _ h3;have h10:=h2 _ _ _ h5;unfold leL leR at *;omega
theorem pred_ex (hw:wfB g=true) (hp:g.np≤100) (hn:g.ne≤500) (hb:b < g.np) {x:Nat} (hx:x < g.np) (_:0≤(lbT g (b:Int) m).2.1 x) (hne:x ≠ b):∃ e,e < g.ne∧QlE g (b:Int) m x e:=by
 have hl:=zKC (m:=m) hw hp;obtain ⟨_,_,_,_,h1,h2⟩:=zKE (m:=m) hw hp hn hb;rcases h1.wk x hx with h3 | h3
 ·omega
 ·generalize hc:(lbT g (b:Int) m).2.1 x=c at h3;generalize hq:(lbT g (b:Int) m).2.2 x + 1=q at h3;cases h3 with
  | nil=>exact absurd rfl hne
  | @cons x0 _ w c0 p0 h4 h5 h6 h7 =>
   have h8:=h4.bd hl;have hj:=zHC h6 h7;have hlc:=hl.hco _ _ h5 h6;have h9:=h2 _ _ _ h4;have h10:0≤(lbT g (b:Int) m).2.1 x0:=by unfold leL at h9; omega
   have h11:WkG g m b x0 ((lbT g (b:Int) m).2.1 x0) ((lbT g (b:Int) m).2.2 x0 + 1):=by
    rcases h1.wk x0 h5 with h | h
    ·omega
    ·exact h
   have h12:=h2 _ _ _ (Wk.cons h11 h5 h6 h7);rw [hc] at h12;have e1:(lbT g (b:Int) m).2.1 x0=c0∧(lbT g (b:Int) m).2.2 x0=p0 - 1:=by
    unfold leL leR at h9 h12; omega
   obtain ⟨e,g1,g2,g3,g4⟩:=hj;obtain ⟨b1,b2,b3,_,_⟩:=qXU hw g1;have ho:(othE g x e).toNat=x0∧((g.ed e).u=(x:Int) ∨ (g.ed e).v=(x:Int)):=by
    unfold othE;rcases g4 with ⟨g4,g5⟩ | ⟨g4,g5⟩ <;> omega
   refine ⟨e,g1,g2,ho.2,?_,?_,?_⟩
   ·rw [ho.1]; exact h10
   ·rw [ho.1,g3,hc,e1.1]
   ·rw [ho.1]; omega
theorem st_h2 (hw:wfB g=true) (hp:g.np≤100) (hn:g.ne≤500) (hb:b < g.np) {x rn:Nat} {f:Nat→Int} (hx:x < g.np) {i:Nat} (hlt:i < g.ne) {y:Int} (h1:y < 0 ∨ GdP g (b:Int) m x y) (h2:∀ e,e < i→QlE g (b:Int) m x e→0≤y):∃ y',dch2 g (b:Int) m ((i:Int),(x:Int),y,rn,f)=.inl (((i + 1:Nat):Int),(x:Int),y',rn,f)∧(y' < 0 ∨ GdP g (b:Int) m x y')∧∀ e,e < i + 1→QlE g (b:Int) m x e→0≤y':=by
  have skip:¬ QlE g (b:Int) m x i→(y < 0 ∨ GdP g (b:Int) m x y)∧∀ e,e < i + 1→QlE g (b:Int) m x e→0≤y:=fun hq=>⟨h1,fun e he h=>by
    by_cases e2:e=i
    ·subst e2; exact absurd h hq
    ·exact h2 e (by omega) h⟩
  dsimp only [dch2];rw [vYK (show (i:Int) < (g.ne:Int) by omega),zU hlt,toN,jV (C:=cru) (t:=(g.ed i,m)) trivial,jG (show i < 1000000 by omega)];simp only [vYZ];obtain ⟨e1,e2,e3,e4,e5⟩:=qXU hw hlt;cases hu:usB (g.ed i).s m with
  | false =>
   rw [vYY];exact ⟨y,rfl,skip fun h=>by have:=h.1; rw [hu] at this; cases this⟩
  | true =>
   rw [vYZ];by_cases hends:(g.ed i).u=(x:Int) ∨ (g.ed i).v=(x:Int)
   ·obtain ⟨o1,o2,_⟩:=oth_in hw hlt hends;have hox:vYW .i64 (vYW .i64 ((g.ed i).u + (g.ed i).v) - (x:Int))=othE g x i:=by
     rw [zV (show -9223372036854775808≤(g.ed i).u + (g.ed i).v∧_ by omega),zV (show -9223372036854775808≤(g.ed i).u + (g.ed i).v - (x:Int)∧_ by omega)]; rfl
    have io:inB (othE g x i) g.np=true:=by unfold inB; rw [vYK o1,vYK (by omega)]; rfl
    have core:∃ y',(bif decide (0≤(lbT g (b:Int) m).2.1 (othE g x i).toNat) then (bif decide (vYW .i64 ((lbT g (b:Int) m).2.1 (othE g x i).toNat + (g.ed i).c)=(lbT g (b:Int) m).2.1 x) then (bif decide (vYW .i64 ((lbT g (b:Int) m).2.2 (othE g x i).toNat + 1)=(lbT g (b:Int) m).2.2 x) then (bif decide (y < 0) then .inl (((i + 1:Nat):Int),(x:Int),othE g x i,rn,f) else (bif decide (othE g x i < y) then .inl (((i + 1:Nat):Int),(x:Int),othE g x i,rn,f) else .inl (((i + 1:Nat):Int),(x:Int),y,rn,f))) else .inl (((i + 1:Nat):Int),(x:Int),y,rn,f)) else .inl (((i + 1:Nat):Int),(x:Int),y,rn,f)) else .inl (((i + 1:Nat):Int),(x:Int),y,rn,f):(Int × Int × Int × Nat × (Nat→Int)) ⊕ (Nat × Int × Int × Int × Nat × (Nat→Int)))=.inl (((i + 1:Nat):Int),(x:Int),y',rn,f)∧(y' < 0 ∨ GdP g (b:Int) m x y')∧∀ e,e < i + 1→QlE g (b:Int) m x e→0≤y':=by
     by_cases c1:0≤(lbT g (b:Int) m).2.1 (othE g x i).toNat
     ·obtain ⟨l1,l2,l3⟩:=zGQ hw hp hn hb (show (othE g x i).toNat < g.np by omega) c1;rw [vYK c1,zV (show -9223372036854775808≤(lbT g (b:Int) m).2.1 (othE g x i).toNat + (g.ed i).c∧_ by omega),zV (show -9223372036854775808≤(lbT g (b:Int) m).2.2 (othE g x i).toNat + 1∧_ by omega),vYZ];by_cases c2:(lbT g (b:Int) m).2.1 (othE g x i).toNat + (g.ed i).c=(lbT g (b:Int) m).2.1 x
      ·rw [vYK c2,vYZ];by_cases c3:(lbT g (b:Int) m).2.2 (othE g x i).toNat + 1=(lbT g (b:Int) m).2.2 x
       ·rw [vYK c3,vYZ];have gd:GdP g (b:Int) m x (othE g x i):=⟨o1,o2,c1,c3⟩
        by_cases c4:y < 0
        ·rw [vYK c4]; exact ⟨_,rfl,.inr gd,fun _ _ _=>o1⟩
        ·rw [vYJ c4,vYY];by_cases c5:othE g x i < y
         ·rw [vYK c5]; exact ⟨_,rfl,.inr gd,fun _ _ _=>o1⟩
         ·rw [vYJ c5,vYY];exact ⟨y,rfl,h1,fun _ _ _=>by omega⟩
       ·rw [vYJ c3,vYY];exact ⟨y,rfl,skip fun h=>c3 h.2.2.2.2⟩
      ·rw [vYJ c2,vYY];exact ⟨y,rfl,skip fun h=>c2 h.2.2.2.1⟩
     ·rw [vYJ c1,vYY];exact ⟨y,rfl,skip fun h=>c1 h.2.2.1⟩
    simp only [hox,io,zU hx,toN,vYZ];by_cases c6:(g.ed i).u=(x:Int)
    ·rw [vYK c6];exact core
    ·have c7:(g.ed i).v=(x:Int):=by omega
     rw [vYJ c6,vYK c7];exact core
   ·rw [vYJ (fun h=>hends (.inl h)),vYJ (fun h=>hends (.inr h))];exact ⟨y,rfl,skip fun h=>hends h.2.1⟩
theorem it_h2 (hw:wfB g=true) (hp:g.np≤100) (hn:g.ne≤500) (hb:b < g.np) {x rn:Nat} {f:Nat→Int} (hx:x < g.np):∀ (d i:Nat) (y:Int) (M:Nat),i + d=g.ne→d < M→(y < 0 ∨ GdP g (b:Int) m x y)→(∀ e,e < i→QlE g (b:Int) m x e→0≤y)→∃ y',qG (dch2 g (b:Int) m) M ((i:Int),(x:Int),y,rn,f)=some (0,(g.ne:Int),(x:Int),y',rn,f)∧(y' < 0 ∨ GdP g (b:Int) m x y')∧∀ e,e < g.ne→QlE g (b:Int) m x e→0≤y'
 | _,_,_,0,_,h,_,_=>by omega
 | 0,i,y,M + 1,hi,_,h1,h2=>by
  obtain rfl:i=g.ne:=by omega
  refine ⟨y,?_,h1,h2⟩;rw [qG];dsimp only [dch2];rw [vYJ (by omega)]; rfl
 | d + 1,i,y,M + 1,hi,hM,h1,h2=>by
  obtain ⟨y1,q1,q2,q3⟩:=st_h2 hw hp hn hb (rn:=rn) (f:=f) hx (show i < g.ne by omega) h1 h2;obtain ⟨y2,r1,r2⟩:=it_h2 hw hp hn hb (rn:=rn) (f:=f) hx d (i + 1) y1 M (by omega) (by omega) q2 q3;refine ⟨y2,?_,r2⟩;rw [qG,q1];exact r1
theorem it_h1 (hw:wfB g=true) (hp:g.np≤100) (hn:g.ne≤500) (hb:b < g.np) {N:Nat} (hN:g.ne < N) {a:Int}:∀ (M x rn:Nat) (f:Nat→Int),x < g.np→0≤(lbT g (b:Int) m).2.1 x→(lbT g (b:Int) m).2.2 x < (M:Int)→rn + M≤1000→∃ rn' f',qG (dch1 N g a (b:Int) m) M ((x:Int),rn,f)=some (0,(b:Int),rn',f')
 | 0,x,rn,f,hx,h0,h1,_=>by
  have:=zGQ hw hp hn hb hx h0
  omega
 | M + 1,x,rn,f,hx,h0,h1,h2=>by
  rw [qG];dsimp only [dch1];by_cases e:x=b
  ·subst e;rw [vYK rfl];exact ⟨rn,f,rfl⟩
  ·rw [vYJ (show ¬ (x:Int)=(b:Int) by omega)];obtain ⟨y,q1,q2,q3⟩:=it_h2 hw hp hn hb (rn:=rn) (f:=f) hx g.ne 0 (-1) (N + 10) (by omega) (by omega) (.inl (by decide)) (fun e he=>absurd he (Nat.not_lt_zero e));obtain ⟨e,he,hq⟩:=pred_ex hw hp hn hb hx h0 e;have hy:=q3 e he hq;obtain ⟨y,rfl⟩:∃ z:Nat,y=(z:Int):=⟨y.toNat,by omega⟩
   rcases q2 with q2 | ⟨g1,g2,g3,g4⟩
   ·omega
   ·rw [toN] at g3 g4;have o1:zXK N g (b:Int) m (0,(x:Int),-1,rn,f)=true:=by unfold zXK; rw [show (0:Int)=((0:Nat):Int) from rfl,q1]; rfl
    have o2:qUD N g (b:Int) m (0,(x:Int),-1,rn,f)=(0,(g.ne:Int),(x:Int),(y:Int),rn,f):=by unfold qUD; rw [show (0:Int)=((0:Nat):Int) from rfl,q1]; rfl
    simp only [Bool.not_false,vYZ,zW,o1,o2,Nat.beq_refl,vYK (show rn + 1≤1000000 by omega)];exact it_h1 hw hp hn hb hN M y (rn + 1) _ (by omega) g3 (by omega) (by omega)
end
noncomputable def yZI (N:Nat) (g:Gr) (a b m:Int):List (List Nat × yV):=[([0,1,0,1,1,1,1,1],sumF (fun t:(Int × Nat × (Nat→Int))=>(hh1 N g a b m t.1 t.2.1 t.2.2)) (fun σ=>(slI σ 12,rgN σ 43,rgI σ 43 0)) (fun t K=>(bif zHV N g a b m t then kxh1 N g a b m K (zYC N g a b m t) else none)))]
set_option maxRecDepth 100000 in
theorem pxrh0 (N:Nat) (g:Gr) (a b m:Int):qQI Tf (orh1 N g a b m) (qY (yZI N g a b m)) (N + 10) 16 [.a (gP g),.n .i64 a,.n .i64 b,.n .i64 m] =
 (bif (gF1 cas eas (g,a,b)) then (bif (frB g && (isP g a && isP g b)) then (bif (decide (m < 0)) then some (.v (.t [.a [.l [],.n .i64 0],.b false]),[])
 else (bif (decide (2 < m)) then some (.v (.t [.a [.l [],.n .i64 0],.b false]),[])
 else (bif (gF1 clb elb (g,b,m)) then (bif (inB a g.np) then (bif (decide (((lbT g b m).2.1 (a).toNat) < 0)) then some (.v (.t [.a [.l [],.n .i64 0],.b false]),[])
 else (bif (inB a g.np) then (bif (gSt (hh1 N g a b m a 1 (fun _=>a)) (hh1 N g a b m a 1 (fun _=>a))) then (bif (zHV N g a b m (a,1,(fun _=>a))) then (bif (Nat.beq (zYC N g a b m (a,1,(fun _=>a))).1 0) then some (.v (.t [.a [.lf (zYC N g a b m (a,1,(fun _=>a))).2.2.1 (fun v=>[.n .i64 ((zYC N g a b m (a,1,(fun _=>a))).2.2.2 v)]),.n .i64 ((lbT g b m).2.1 (a).toNat)],.b true]),[])
 else none)
 else none)
 else none)
 else none))
 else none)
 else none)))
 else some (.v (.t [.a [.l [],.n .i64 0],.b false]),[]))
 else none):=by kernel_rfl
theorem snd_rh0 (N:Nat) (g:Gr) (a b m:Int) (hN:N=NN) (hp:g.np≤100) (hn:g.ne≤500):zY Tryz.prog 16 [.a (gP g),.n .i64 a,.n .i64 b,.n .i64 m] (bif stQ g a b m && !decide ((lbT g b m).2.1 a.toNat < 0) then .v (.t [.a [.lf (zYC NN g a b m (a,1,(fun _=>a))).2.2.1 (fQ (zYC NN g a b m (a,1,(fun _=>a))).2.2.2),.n .i64 ((lbT g b m).2.1 a.toNat)],.b true]) else .v (.t [.a [.l [],.n .i64 0],.b false])):=by
 refine qH (N:=(N + 10)) (LO:=qY (yZI N g a b m)) jY yH (jK (l:=[(38,o_as),(39,o_lb),(40,o_ru)]) (m:=[]) ⟨ok_as,ok_lb,ok_ru,trivial⟩ trivial) (fun p S hp => ?_) ?_
 ·refine qX (L:=qZ Tf 16) (l:=(yZI N g a b m)) (show AllP _ (yZI N g a b m) from ⟨?_,trivial⟩) p S hp
  ·dsimp only;refine jQ (T:=Tf) (o:=(orh1 N g a b m)) (f:=16) (LO:=(qY (lih2 N g a b m))) (p:=[0,1,0,1,1,1,1,1]) (okh2 N g a b m) ?_;intro t K r hr;obtain ⟨hg,hr⟩:=qQ hr
   skip
   exact (lwh1 K N g a b m t hg).trans hr
 ·refine (pxrh0 N g a b m).trans ?_;subst hN;unfold stQ;simp only [jV (C:=cas) (t:=(g,a,b)) (show g.ne≤8192 by omega),vYZ,wf_fr];cases hw:wfB g with
  | false=>rfl
  | true =>
   cases ha:isP g a with
   | false=>rfl
   | true =>
    cases hb:isP g b with
    | false=>rfl
    | true =>
     cases decide (m < 0) with
     | true=>rfl
     | false =>
      cases decide (2 < m) with
      | true=>rfl
      | false =>
       have ia:=zGY ha;have ib:=zGY hb;have iA:inB a g.np=true:=by unfold inB; rw [vYK ia.1,vYK (by omega)]; rfl
       obtain ⟨x,rfl⟩:∃ n:Nat,a=(n:Int):=⟨a.toNat,by omega⟩
       obtain ⟨y,rfl⟩:∃ n:Nat,b=(n:Int):=⟨b.toNat,by omega⟩
       simp only [jV (C:=clb) (t:=(g,(y:Int),m)) ⟨hw,hp,hn,ib.1,ib.2⟩,iA,vZW,Bool.not_false,vYZ,vYY];by_cases h0:(lbT g (y:Int) m).2.1 (x:Int).toNat < 0
       ·rw [vYK h0]; rfl
       ·rw [vYJ h0];have h0':0≤(lbT g (y:Int) m).2.1 x:=by rw [toN] at h0; omega
        have hbd:=zGQ (m:=m) hw hp hn (show y < g.np by omega) (show x < g.np by omega) h0';obtain ⟨rn',f',q1⟩:=it_h1 (m:=m) hw hp hn (show y < g.np by omega) (N:=NN) (a:=(x:Int)) (by rw [yQL]; omega) 200 x 1 (fun _=>(x:Int)) (by omega) h0' (by omega) (by omega);have q2:=iterN_ok q1 (show 200≤NN + 10 by rw [yQL]; omega);have o1:zHV NN g (x:Int) (y:Int) m ((x:Int),1,(fun _=>(x:Int)))=true:=by unfold zHV; rw [q2]; rfl
        have o2:zYC NN g (x:Int) (y:Int) m ((x:Int),1,(fun _=>(x:Int)))=(0,(y:Int),rn',f'):=by unfold zYC; rw [q2]; rfl
        simp only [zW,o1,o2,vYZ,vYY,Bool.not_false,Nat.beq_refl];rfl
section
variable {g:Gr} {m:Int} {b:Nat}
theorem lb_least (hw:wfB g=true) (hp:g.np≤100) (hn:g.ne≤500) (hb:b < g.np) {v:Nat} (hv:v < g.np):((lbT g b m).2.1 v < 0∧∀ c p,¬ WkG g m b v c p) ∨ (0≤(lbT g b m).2.1 v∧Least g m b v ((lbT g b m).2.1 v)):=by
 have hl:=zKC (m:=m) hw hp;obtain ⟨_,_,_,_,h1,h2⟩:=zKE (m:=m) hw hp hn hb;by_cases h0:(lbT g b m).2.1 v < 0
 ·refine .inl ⟨h0,fun c p h => ?_⟩
  have:=h2 v c p h
  have hbd:=h.bd hl;unfold leL at this; omega
 ·refine .inr ⟨by omega,?_,fun c p h => ?_⟩
  ·rcases h1.wk v hv with h3 | h3
   ·omega
   ·exact ⟨_,h3⟩
  ·have:=h2 v c p h
   have hbd:=h.bd hl;unfold leL leR at this; omega
end
noncomputable def rsF (g:Gr) (a b:Int):Bool:=stQ g a b 2 && !decide ((lbT g b 2).2.1 a.toNat < 0)
noncomputable def rsC (g:Gr) (a b:Int):Int:=bif rsF g a b then (lbT g b 2).2.1 a.toNat else 0
theorem zHL (g:Gr) (a b:Int) (hp:g.np≤100) (hn:g.ne≤500):∃ (n:Nat) (f:Nat→Int),zY Tryz.prog 16 [.a (gP g),.n .i64 a,.n .i64 b,.n .i64 2] (.v (.t [.a [.lf n (fQ f),.n .i64 (rsC g a b)],.b (rsF g a b)])):=by
 have h:=snd_rh0 NN g a b 2 rfl hp hn;unfold rsC;cases hq:rsF g a b with
 | false =>
  rw [show (stQ g a b 2 && !decide ((lbT g b 2).2.1 a.toNat < 0))=false from hq] at h;exact ⟨0,fun _=>0,qKV (Same.t (xs:=[_,_]) (ys:=[_,_]) ⟨Same.a (xs:=[_,_]) (ys:=[_,_]) ⟨Same.lf rfl,Same.refl _,trivial⟩,Same.refl _,trivial⟩) h⟩
 | true =>
  rw [show (stQ g a b 2 && !decide ((lbT g b 2).2.1 a.toNat < 0))=true from hq] at h;exact ⟨_,_,h⟩
theorem rs_t {g:Gr} {a b:Nat} (hp:g.np≤100) (hn:g.ne≤500) (h:rsF g (a:Int) (b:Int)=true):wfB g=true∧a < g.np∧b < g.np∧Least g 2 b a (rsC g (a:Int) (b:Int)):=by
 have h0:=h;unfold rsF stQ at h;simp only [vQJ,Bool.not_eq_true',decide_eq_false_iff_not] at h;obtain ⟨⟨hw,ha,hb,_⟩,h1⟩:=h;have ia:=zGY ha;have ib:=zGY hb;refine ⟨hw,by omega,by omega,?_⟩;rw [toN] at h1;rcases lb_least (m:=2) hw hp hn (show b < g.np by omega) (show a < g.np by omega) with ⟨h2,_⟩ | ⟨_,h2⟩
 ·exact absurd h2 h1
 ·unfold rsC;rw [h0,vYZ,toN];exact h2
theorem rs_of {g:Gr} {a b:Nat} {c:Int} (hw:wfB g=true) (hp:g.np≤100) (hn:g.ne≤500) (ha:a < g.np) (hb:b < g.np) (h:Least g 2 b a c):rsF g (a:Int) (b:Int)=true∧rsC g (a:Int) (b:Int)=c:=by
 rcases lb_least (m:=2) hw hp hn hb ha with ⟨_,h2⟩ | ⟨h1,h2⟩
 ·obtain ⟨⟨p,h3⟩,_⟩:=h;exact absurd h3 (h2 _ _)
 ·have h0:rsF g (a:Int) (b:Int)=true:=by
   unfold rsF stQ;rw [toN,hw,Xn.isP_t (g:=g) (v:=(a:Int)) ⟨by omega,by omega⟩,Xn.isP_t (g:=g) (v:=(b:Int)) ⟨by omega,by omega⟩,vYJ (show ¬ (lbT g (b:Int) 2).2.1 a < 0 by omega)];rfl
  refine ⟨h0,?_⟩;unfold rsC;rw [h0,vYZ,toN];exact h2.uniq h
end Go.Proofs.YtklmegnpfhiibaaGreat.Ye
namespace Go.Proofs.YtklmegnpfhiibaaGreat.Xo
open Go.Rx Rt Go.Sx Go.RowKit Od Nb Nc Xb Xc Bb Xe Xf Xg Xh Xi Xk Xm Xn
noncomputable def hp1 (N:Nat) (js:Nat→J) (ms:Nat→Ms) (n m:Nat) (np:Nat) (pn:Nat→Nat) (pv:Nat→Nat→Int) (ne:Nat) (ed:Nat→Ed) (a b best:Int) (i:Int) (nu:Nat→Int) (r:Nat) (ol:Nat→Int) (q:Nat) (f:Nat→List PV):St:=⟨[(2,.v (.n .i64 a)),(3,.v (.n .i64 b)),(4,.v (.n .i64 best)),(5,.p 5 0),(6,.p 6 0),(10,.p 10 0),(12,.p 12 0),(13,.o 101),(14,.o 64),(15,.v (.n .i64 i))],[(5,.blk [.v (.lf n (fJ js)),.v (.lf m (fM ms))]),(6,.blk [.v (.lf np (fP pn pv)),.v (.lf ne (fE ed))]),(10,.blk [.nl,.nl]),(12,.blk [.o 110,.nl]),(64,.reg 3 1 (.fo (np:Int).toNat (fun v=>[.n .i64 (nu v)]))),(101,.reg 3 1 (.fo r (fun v=>[.n .i64 (ol v)]))),(110,.reg 30 1 (.fo q f))]⟩
noncomputable def hp2 (N:Nat) (js:Nat→J) (ms:Nat→Ms) (n m:Nat) (np:Nat) (pn:Nat→Nat) (pv:Nat→Nat→Int) (ne:Nat) (ed:Nat→Ed) (a b best:Int) (i:Int) (nu:Nat→Int) (r:Nat) (ol:Nat→Int) (q:Nat) (f:Nat→List PV) (s:Nat) (fe:Nat→List PV):St:=⟨[(6,.p 6 0),(10,.p 10 0),(12,.p 12 0),(13,.o 101),(14,.o 64),(16,.v (.n .i64 i))],[(6,.blk [.v (.lf np (fP pn pv)),.v (.lf ne (fE ed))]),(10,.blk [.nl,.nl]),(12,.blk [.o 110,.o 154]),(64,.reg 3 1 (.fo (np:Int).toNat (fun v=>[.n .i64 (nu v)]))),(101,.reg 3 1 (.fo r (fun v=>[.n .i64 (ol v)]))),(110,.reg 30 1 (.fo q f)),(154,.reg 61 12 (.fo s fe))]⟩
end Go.Proofs.YtklmegnpfhiibaaGreat.Xo
namespace Go.Proofs.YtklmegnpfhiibaaGreat.Xp
open Go.Rx Rt Go.Sx Go.RowKit Od Nb Nc Xb Xc Bb Xe Xf Xg Xh Xi Xk Xm Xn Xo
noncomputable def ors6 (k:Nat) (q:Nat→Int):OrS:=orS [] []
noncomputable def hs6 (k:Nat) (q:Nat→Int) (i:Int):St:=⟨[(0,.v (.lf k (fQ q))),(1,.v (.lf k (fQ q))),(5,.v (.n .i64 i))],[]⟩
set_option maxRecDepth 100000 in
theorem rds6 (G:St→Option (Ret × Mem)) (K:Cont) (k:Nat) (q:Nat→Int) (i:Int):stpT Tf 18 (ors6 k q) (k + 10) [] [0,1,0,1,1] K G (hs6 k q i) =
 (bif (decide (i < (k:Int))) then (bif (inB i k) then (bif (inB i k) then (bif (!decide ((q (i).toNat)=(q (i).toNat))) then (K .ret ⟨[(4,.v (.b false))],[]⟩)
 else (G (hs6 k q (vYW .i64 (i + 1)))))
 else none)
 else none)
 else (K (.exit 0) ⟨[],[]⟩)):=by kernel_rfl
theorem lps6 (K:Cont) (k:Nat) (q:Nat→Int) (_:k≤9223372036854775000):LFT Tf 18 (ors6 k q) (k + 10) [] [0,1,0,1,1] K (k + 10) (hs6 k q 0)=bif (allN (fun i:Nat=>true) k 0) then (K (.exit 0) ⟨[],[]⟩) else (K .ret ⟨[(4,.v (.b false))],[]⟩):=by
 refine (qKL (L:=LFT Tf 18 (ors6 k q) (k + 10) [] [0,1,0,1,1] K) (stp:=stpT Tf 18 (ors6 k q) (k + 10) [] [0,1,0,1,1] K) (fun _ _=>rfl) (fun (i:Nat) (_:Unit)=>hs6 k q (i:Int)) (fun _ _=>True) (fun (i:Nat) _=>true) (fun _ _=>()) (c:=k) (fun _=>(K (.exit 0) ⟨[],[]⟩)) (fun i _=>(K .ret ⟨[(4,.v (.b false))],[]⟩)) (fun G i f hi _ => ?_) (fun _ _ _ _ _=>trivial) (fun G f _ => ?_) k 0 (k + 10) () (by omega) (by omega) trivial).trans ((qKC _ _ _ _ _).trans (qQA _ _ _ _ _))
 ·refine (rds6 G K k q i).trans ?_;rw [vYK (show (i:Int) < (k:Int) by omega),zVC (by omega),zU (show i < k by omega),toN,vYK (show q i=q i from rfl)]
  all_goals rfl
 ·refine (rds6 G K k q k).trans ?_;rw [vYJ (show ¬ (k:Int) < (k:Int) by omega)];rfl
noncomputable def yZC (k:Nat) (q:Nat→Int):List (List Nat × yV):=[([0,1,0,1,1],sumF (fun _:Unit=>(hs6 k q 0)) (fun _=>()) (fun _ K=>(bif (decide (k≤9223372036854775000)) then (bif (allN (fun i:Nat=>true) k 0) then (K (.exit 0) ⟨[],[]⟩) else (K .ret ⟨[(4,.v (.b false))],[]⟩)) else none)))]
set_option maxRecDepth 100000 in
theorem pxs6w (k:Nat) (q:Nat→Int):qQI Tf (ors6 k q) (qY (yZC k q)) (k + 10) 18 [.lf k (fQ q),.lf k (fQ q)] =
 (bif (!decide ((k:Int)=(k:Int))) then some (.v (.b false),[])
 else (bif (gSt (hs6 k q 0) (hs6 k q 0)) then (bif (decide (k≤9223372036854775000)) then (bif (allN (fun i:Nat=>true) k 0) then some (.v (.b true),[])
 else some (.v (.b false),[]))
 else none)
 else none)):=by kernel_rfl
theorem snd_s6w (k:Nat) (q:Nat→Int) (hk:k≤9223372036854775000):zY Tryz.prog 18 [.lf k (fQ q),.lf k (fQ q)] (.v (.b true)):=by
 refine qH (N:=(k + 10)) (LO:=qY (yZC k q)) jY yH (jK (l:=[]) (m:=[]) trivial trivial) (fun p S hp => ?_) ?_
 ·refine qX (L:=qZ Tf 18) (l:=(yZC k q)) (show AllP _ (yZC k q) from ⟨?_,trivial⟩) p S hp
  ·dsimp only;refine jQ (T:=Tf) (o:=(ors6 k q)) (f:=18) (LO:=qY []) (p:=[0,1,0,1,1]) jU ?_;intro t K r hr;obtain ⟨hg,hr⟩:=qQ hr;have hk:=vYU hg;exact (lps6 K k q hk).trans hr
 ·refine (pxs6w k q).trans ?_;have e:(allN (fun i:Nat=>true) k 0)=true:=allN_iff.2 fun _ _ _=>rfl
  simp only [zW,vYK hk,e,vYK (show (k:Int)=(k:Int) from rfl),Bool.not_true,vYZ,vYY,vZQ]
  all_goals rfl
noncomputable def hsl (np:Nat) (pn:Nat→Nat) (pv:Nat→Nat→Int) (i:Int):St:=⟨[(0,.v (.lf np (fP pn pv))),(1,.v (.lf np (fP pn pv))),(5,.v (.n .i64 i))],[]⟩
end Go.Proofs.YtklmegnpfhiibaaGreat.Xp
namespace Go.Proofs.YtklmegnpfhiibaaGreat.Xq
end Go.Proofs.YtklmegnpfhiibaaGreat.Xq

/- Part 13 of the texts behind the last one: rules and contracts. No condition. -/
import Derived.Test.YtglkkhpdbfacfaaBV12
open Bool renaming and_eq_true → vQJ
open Go.IntKind renaming wrap → vYX
namespace Go.Proofs.Ytglkkhpdbfacfaa.Ci
open Go.Rx Rt Go.Sx Go.RowKit Ba Bb Bc Bd Be Bf Bi Bj Bk Bl Bh Bm Bn Bo Bp Bq Br Bs Bt Bu Bv Bw Bx By Bz Ca Cb Cc Cd Ch Ce
theorem yQY {α:Type} {c gd:Bool} {X Y r:Option α} (hg:c=true→gd=true) (hX:X=r) (hY:Y=r):(bif c then (bif gd then X else none) else Y)=r:=by
 cases hc:c with
 | false=>exact hY
 | true=>rw [hg hc]; exact hX
noncomputable def orpa (N:Nat) (g2:Gr) (wl:Nat) (e:Nat→Int) (_:Nat) (_:Nat→Int) (a b:Int) (n:Nat) (_:Nat→Int) (x y x0 y0:Int) (pp:Nat→Int) (l:Int):OrS:=orS [(10,o_cr [] (.v (.b true))),(11,o_cr [.lf wl (fQ e)] (.v (.a (gP g2)))),(12,o_cr [.a (gP g2),.n .i64 a,.n .i64 b] (.v (.t [.n .i64 x0,.n .i64 y0]))),(18,o_cr [.a (gP g2),.n .i64 x0,.n .i64 y0] (.v (.t [.lf g2.np (fQ pp),.n .i64 l,.b true]))),(14,o_rn),(20,o_ch),(19,o_ck)] []
noncomputable def hpa (N:Nat) (g2:Gr) (wl:Nat) (e:Nat→Int) (wk:Nat) (ew:Nat→Int) (a b:Int) (n:Nat) (_:Nat→Int) (x y x0 y0:Int) (pp:Nat→Int) (l:Int) (rn:Nat) (f:Nat→Int):St:=⟨[(1,.v (.lf wk (fQ ew))),(15,.p 15 0),(16,.v (.n .i64 x0)),(17,.v (.n .i64 y0)),(18,.v (.lf g2.np (fQ pp))),(19,.v (.n .i64 l)),(20,.v (.b true)),(21,.o 55),(22,.o 69)],[(15,.blk [.v (.lf g2.np g2.pt),.v (.lf g2.ne (fE g2.ed))]),(55,.reg 2 1 (.fo g2.np (fun v=>[.n .i64 (bif (Nat.beq v (x % (g2.np:Int)).toNat) then (vYX .i64 ((pp (x % (g2.np:Int)).toNat) + (vYX .i64 ((y % 7) - 3)))) else (pp v))]))),(69,.reg 2 1 (.fo rn (fun v=>[.n .i64 (f v)])))]⟩
set_option maxRecDepth 100000 in
theorem rdpa (G:St→Option (Ret × Mem)) (K:Cont) (N:Nat) (g2:Gr) (wl:Nat) (e:Nat→Int) (wk:Nat) (ew:Nat→Int) (a b:Int) (n:Nat) (q:Nat→Int) (x y x0 y0:Int) (pp:Nat→Int) (l:Int) (rn:Nat) (f:Nat→Int):yX (N + 10) (cxS Tf (orpa N g2 wl e wk ew a b n q x y x0 y0 pp l) (N + 10) 5 (ntmF Tf 5)) (evX Tf (orpa N g2 wl e wk ew a b n q x y x0 y0 pp l) (N + 10) 5 (ntmF Tf 5)) (qY []) (qZ Tf 5 [0,0,1,1,1,1,1,1,1,1,1]) [0,0,1,1,1,1,1,1,1,1,1] (Tf.hint 5 (qJ (qZ Tf 5 [0,0,1,1,1,1,1,1,1,1,1]))) K G (hpa N g2 wl e wk ew a b n q x y x0 y0 pp l rn f) =
 (bif (decide ((rn:Int) < (g2.np:Int))) then (bif (decide (rn + 1≤17592186044416)) then (G (hpa N g2 wl e wk ew a b n q x y x0 y0 pp l (rn + 1) (fun v=>(bif (Nat.beq v rn) then 0 else (f v)))))
 else none)
 else (K (.exit 0) ⟨[(1,.v (.lf wk (fQ ew))),(15,.p 15 0),(16,.v (.n .i64 x0)),(17,.v (.n .i64 y0)),(18,.v (.lf g2.np (fQ pp))),(19,.v (.n .i64 l)),(20,.v (.b true)),(21,.o 55),(22,.o 69)],[(15,.blk [.v (.lf g2.np g2.pt),.v (.lf g2.ne (fE g2.ed))]),(55,.reg 2 1 (.fo g2.np (fun v=>[.n .i64 (bif (Nat.beq v (x % (g2.np:Int)).toNat) then (vYX .i64 ((pp (x % (g2.np:Int)).toNat) + (vYX .i64 ((y % 7) - 3)))) else (pp v))]))),(69,.reg 2 1 (.fo rn (fun v=>[.n .i64 (f v)])))]⟩)):=by kernel_rfl
noncomputable def dcpa (g2:Gr):(Nat × (Nat→Int))→(Nat × (Nat→Int)) ⊕ (Nat × Nat × (Nat→Int)):=fun t=>match t with | (rn,f)=>(bif (decide ((rn:Int) < (g2.np:Int))) then (bif (decide (rn + 1≤17592186044416)) then (.inl ((rn + 1),(fun v=>(bif (Nat.beq v rn) then 0 else (f v))))) else (.inr (1,(rn,f)))) else (.inr (0,(rn,f))))
noncomputable def kxpa (N:Nat) (g2:Gr) (wl:Nat) (e:Nat→Int) (wk:Nat) (ew:Nat→Int) (a b:Int) (n:Nat) (_:Nat→Int) (x y x0 y0:Int) (pp:Nat→Int) (l:Int) (K:Cont) (w9:Nat × Nat × (Nat→Int)):Option (Ret × Mem):=bif Nat.beq w9.1 0 then (K (.exit 0) ⟨[(1,.v (.lf wk (fQ ew))),(15,.p 15 0),(16,.v (.n .i64 x0)),(17,.v (.n .i64 y0)),(18,.v (.lf g2.np (fQ pp))),(19,.v (.n .i64 l)),(20,.v (.b true)),(21,.o 55),(22,.o 69)],[(15,.blk [.v (.lf g2.np g2.pt),.v (.lf g2.ne (fE g2.ed))]),(55,.reg 2 1 (.fo g2.np (fun v=>[.n .i64 (bif (Nat.beq v (x % (g2.np:Int)).toNat) then (vYX .i64 ((pp (x % (g2.np:Int)).toNat) + (vYX .i64 ((y % 7) - 3)))) else (pp v))]))),(69,.reg 2 1 (.fo w9.2.1 (fun v=>[.n .i64 (w9.2.2 v)])))]⟩) else none
theorem wlpa (K:Cont) (N:Nat) (g2:Gr) (wl:Nat) (e:Nat→Int) (wk:Nat) (ew:Nat→Int) (a b:Int) (n:Nat) (q:Nat→Int) (x y x0 y0:Int) (pp:Nat→Int) (l:Int):∀ n9 (t:(Nat × (Nat→Int))),LFX (N + 10) (cxS Tf (orpa N g2 wl e wk ew a b n q x y x0 y0 pp l) (N + 10) 5 (ntmF Tf 5)) (evX Tf (orpa N g2 wl e wk ew a b n q x y x0 y0 pp l) (N + 10) 5 (ntmF Tf 5)) (qY []) (qZ Tf 5 [0,0,1,1,1,1,1,1,1,1,1]) [0,0,1,1,1,1,1,1,1,1,1] (Tf.hint 5 (qJ (qZ Tf 5 [0,0,1,1,1,1,1,1,1,1,1]))) K n9 (hpa N g2 wl e wk ew a b n q x y x0 y0 pp l t.1 t.2)=(qX (dcpa g2) n9 t).bind (kxpa N g2 wl e wk ew a b n q x y x0 y0 pp l K):=fun n9 t=>by
 refine qQY (L:=LFX (N + 10) (cxS Tf (orpa N g2 wl e wk ew a b n q x y x0 y0 pp l) (N + 10) 5 (ntmF Tf 5)) (evX Tf (orpa N g2 wl e wk ew a b n q x y x0 y0 pp l) (N + 10) 5 (ntmF Tf 5)) (qY []) (qZ Tf 5 [0,0,1,1,1,1,1,1,1,1,1]) [0,0,1,1,1,1,1,1,1,1,1] (Tf.hint 5 (qJ (qZ Tf 5 [0,0,1,1,1,1,1,1,1,1,1]))) K) (stp:=yX (N + 10) (cxS Tf (orpa N g2 wl e wk ew a b n q x y x0 y0 pp l) (N + 10) 5 (ntmF Tf 5)) (evX Tf (orpa N g2 wl e wk ew a b n q x y x0 y0 pp l) (N + 10) 5 (ntmF Tf 5)) (qY []) (qZ Tf 5 [0,0,1,1,1,1,1,1,1,1,1]) [0,0,1,1,1,1,1,1,1,1,1] (Tf.hint 5 (qJ (qZ Tf 5 [0,0,1,1,1,1,1,1,1,1,1]))) K) (fun _ _=>rfl) (fun _=>rfl) (fun t=>hpa N g2 wl e wk ew a b n q x y x0 y0 pp l t.1 t.2) (fun _=>True) (dcpa g2) (kxpa N g2 wl e wk ew a b n q x y x0 y0 pp l K) (fun G t _ => ?_) (fun _ _ _ _=>trivial) n9 t trivial;obtain ⟨rn,f⟩:=t;refine (rdpa G K N g2 wl e wk ew a b n q x y x0 y0 pp l rn f).trans ?_;dsimp only [dcpa];cases (decide ((rn:Int) < (g2.np:Int)))
 ·rfl
 ·cases (decide (rn + 1≤17592186044416))
  ·rfl
  ·rfl
noncomputable def qKH (N:Nat) (g2:Gr) (t:(Nat × (Nat→Int))):Bool:=(qX (dcpa g2) (N + 10) t).isSome
noncomputable def yH (N:Nat) (g2:Gr) (t:(Nat × (Nat→Int))):Nat × Nat × (Nat→Int):=(qX (dcpa g2) (N + 10) t).getD (99,t)
theorem lwpa (K:Cont) (N:Nat) (g2:Gr) (wl:Nat) (e:Nat→Int) (wk:Nat) (ew:Nat→Int) (a b:Int) (n:Nat) (q:Nat→Int) (x y x0 y0:Int) (pp:Nat→Int) (l:Int) (t:(Nat × (Nat→Int))) (hg:qKH N g2 t=true):LFX (N + 10) (cxS Tf (orpa N g2 wl e wk ew a b n q x y x0 y0 pp l) (N + 10) 5 (ntmF Tf 5)) (evX Tf (orpa N g2 wl e wk ew a b n q x y x0 y0 pp l) (N + 10) 5 (ntmF Tf 5)) (qY []) (qZ Tf 5 [0,0,1,1,1,1,1,1,1,1,1]) [0,0,1,1,1,1,1,1,1,1,1] (Tf.hint 5 (qJ (qZ Tf 5 [0,0,1,1,1,1,1,1,1,1,1]))) K (N + 10) (hpa N g2 wl e wk ew a b n q x y x0 y0 pp l t.1 t.2)=kxpa N g2 wl e wk ew a b n q x y x0 y0 pp l K (yH N g2 t):=by
 refine (wlpa K N g2 wl e wk ew a b n q x y x0 y0 pp l (N + 10) t).trans ?_;unfold qKH at hg;unfold yH;cases h:qX (dcpa g2) (N + 10) t with
 | none=>rw [h] at hg; cases hg
 | some y=>rfl
theorem yYH {g2:Gr} (h9:g2.np≤9):∀ (d rn M:Nat) (f:Nat→Int),g2.np≤rn + d→d < M→∃ s:Nat × (Nat→Int),qX (dcpa g2) M (rn,f)=some (0,s)∧g2.np≤s.1
 | _,_,0,_,_,h=>by omega
 | d,rn,M + 1,f,hd,hM=>by
  rw [qX];dsimp only [dcpa];by_cases h:rn < g2.np
  ·rw [vYJ (show (rn:Int) < (g2.np:Int) by omega),vYJ (show rn + 1≤17592186044416 by omega)];obtain ⟨d,rfl⟩:∃ d',d=d' + 1:=⟨d - 1,by omega⟩
   exact yYH h9 d (rn + 1) M _ (by omega) (by omega)
  ·rw [vYY (show ¬ (rn:Int) < (g2.np:Int) by omega)];exact ⟨(rn,f),rfl,by show g2.np≤rn; omega⟩
noncomputable def yWZ (N:Nat) (g2:Gr) (wl:Nat) (e:Nat→Int) (wk:Nat) (ew:Nat→Int) (a b:Int) (n:Nat) (q:Nat→Int) (x y x0 y0:Int) (pp:Nat→Int) (l:Int):List (List Nat × yK):=[([0,0,1,1,1,1,1,1,1,1,1],sumF (fun t:(Nat × (Nat→Int))=>(hpa N g2 wl e wk ew a b n q x y x0 y0 pp l t.1 t.2)) (fun σ=>(rgN σ 69,rgI σ 69 0)) (fun t K=>(bif qKH N g2 t then kxpa N g2 wl e wk ew a b n q x y x0 y0 pp l K (yH N g2 t) else none)))]
set_option maxRecDepth 100000 in
theorem jWQ (N:Nat) (g2:Gr) (wl:Nat) (e:Nat→Int) (wk:Nat) (ew:Nat→Int) (a b:Int) (n:Nat) (q:Nat→Int) (x y x0 y0:Int) (pp:Nat→Int) (l:Int):qZV Tf (orpa N g2 wl e wk ew a b n q x y x0 y0 pp l) (qY (yWZ N g2 wl e wk ew a b n q x y x0 y0 pp l)) (N + 10) 5 [.lf wl (fQ e),.lf wk (fQ ew),.n .i64 a,.n .i64 b,.lf n (fQ q),.n .i64 x,.n .i64 y] =
 (bif (g1 [.lf wl (fQ e)]) then (bif (g1 [.a (gP g2),.n .i64 a,.n .i64 b]) then (bif (g1 [.a (gP g2),.n .i64 x0,.n .i64 y0]) then (bif (!decide ((g2.np:Int)=(g2.np:Int))) then some (.v (.b false),[])
 else (bif (decide (g2.np≤17592186044416)) then (bif (gF1 crn ern (x,(g2.np:Int))) then (bif (inB (x % (g2.np:Int)) g2.np) then (bif (gF1 crn ern (y,7)) then (bif (inB (x % (g2.np:Int)) g2.np) then (bif (decide (n≤17592186044416)) then (bif (gSt (hpa N g2 wl e wk ew a b n q x y x0 y0 pp l n q) (hpa N g2 wl e wk ew a b n q x y x0 y0 pp l n q)) then (bif (qKH N g2 (n,q)) then (bif (Nat.beq (yH N g2 (n,q)).1 0) then (bif (decide (0≤(g2.np:Int))) then (bif (decide ((g2.np:Int).toNat≤(yH N g2 (n,q)).2.1)) then (bif (inB y0 g2.np) then (bif (gF1 cck eck (g2,x0,y0,(pp (y0).toNat),g2.np,pp)) then (bif (cbB g2 x0 y0 (pp (y0).toNat) g2.np pp) then (bif (inB y0 g2.np) then (bif (gF1 cch ech (g2,wk,ew,x0,y0,(pp (y0).toNat))) then (bif (inB y0 g2.np) then (bif (gF1 cck eck (g2,x0,y0,(bif (Nat.beq (y0).toNat (x % (g2.np:Int)).toNat) then (vYX .i64 ((pp (x % (g2.np:Int)).toNat) + (vYX .i64 ((y % 7) - 3)))) else (pp (y0).toNat)),g2.np,(fun v=>(bif (Nat.beq v (x % (g2.np:Int)).toNat) then (vYX .i64 ((pp (x % (g2.np:Int)).toNat) + (vYX .i64 ((y % 7) - 3)))) else (pp v))))) then (bif (cbB g2 x0 y0 (bif (Nat.beq (y0).toNat (x % (g2.np:Int)).toNat) then (vYX .i64 ((pp (x % (g2.np:Int)).toNat) + (vYX .i64 ((y % 7) - 3)))) else (pp (y0).toNat)) g2.np (fun v=>(bif (Nat.beq v (x % (g2.np:Int)).toNat) then (vYX .i64 ((pp (x % (g2.np:Int)).toNat) + (vYX .i64 ((y % 7) - 3)))) else (pp v)))) then (bif (inB y0 g2.np) then (bif (gF1 cch ech (g2,wk,ew,x0,y0,(bif (Nat.beq (y0).toNat (x % (g2.np:Int)).toNat) then (vYX .i64 ((pp (x % (g2.np:Int)).toNat) + (vYX .i64 ((y % 7) - 3)))) else (pp (y0).toNat)))) then (bif (inB y0 ((g2.np:Int).toNat)) then (bif (gF1 cck eck (g2,x0,y0,((yH N g2 (n,q)).2.2 (y0).toNat),((g2.np:Int).toNat),(fun v=>((yH N g2 (n,q)).2.2 v)))) then (bif (cbB g2 x0 y0 ((yH N g2 (n,q)).2.2 (y0).toNat) ((g2.np:Int).toNat) (fun v=>((yH N g2 (n,q)).2.2 v))) then (bif (inB y0 ((g2.np:Int).toNat)) then (bif (gF1 cch ech (g2,wk,ew,x0,y0,((yH N g2 (n,q)).2.2 (y0).toNat))) then (bif (g1 []) then (bif (gF1 cck eck (g2,x0,y0,l,g2.np,pp)) then (bif (cbB g2 x0 y0 l g2.np pp) then some (.v (.b true),[])
 else some (.v (.b false),[]))
 else none)
 else none)
 else none)
 else none)
 else (bif (g1 []) then (bif (gF1 cck eck (g2,x0,y0,l,g2.np,pp)) then (bif (cbB g2 x0 y0 l g2.np pp) then some (.v (.b true),[])
 else some (.v (.b false),[]))
 else none)
 else none))
 else none)
 else none)
 else none)
 else none)
 else (bif (inB y0 ((g2.np:Int).toNat)) then (bif (gF1 cck eck (g2,x0,y0,((yH N g2 (n,q)).2.2 (y0).toNat),((g2.np:Int).toNat),(fun v=>((yH N g2 (n,q)).2.2 v)))) then (bif (cbB g2 x0 y0 ((yH N g2 (n,q)).2.2 (y0).toNat) ((g2.np:Int).toNat) (fun v=>((yH N g2 (n,q)).2.2 v))) then (bif (inB y0 ((g2.np:Int).toNat)) then (bif (gF1 cch ech (g2,wk,ew,x0,y0,((yH N g2 (n,q)).2.2 (y0).toNat))) then (bif (g1 []) then (bif (gF1 cck eck (g2,x0,y0,l,g2.np,pp)) then (bif (cbB g2 x0 y0 l g2.np pp) then some (.v (.b true),[])
 else some (.v (.b false),[]))
 else none)
 else none)
 else none)
 else none)
 else (bif (g1 []) then (bif (gF1 cck eck (g2,x0,y0,l,g2.np,pp)) then (bif (cbB g2 x0 y0 l g2.np pp) then some (.v (.b true),[])
 else some (.v (.b false),[]))
 else none)
 else none))
 else none)
 else none))
 else none)
 else none)
 else none)
 else none)
 else (bif (inB y0 g2.np) then (bif (gF1 cck eck (g2,x0,y0,(bif (Nat.beq (y0).toNat (x % (g2.np:Int)).toNat) then (vYX .i64 ((pp (x % (g2.np:Int)).toNat) + (vYX .i64 ((y % 7) - 3)))) else (pp (y0).toNat)),g2.np,(fun v=>(bif (Nat.beq v (x % (g2.np:Int)).toNat) then (vYX .i64 ((pp (x % (g2.np:Int)).toNat) + (vYX .i64 ((y % 7) - 3)))) else (pp v))))) then (bif (cbB g2 x0 y0 (bif (Nat.beq (y0).toNat (x % (g2.np:Int)).toNat) then (vYX .i64 ((pp (x % (g2.np:Int)).toNat) + (vYX .i64 ((y % 7) - 3)))) else (pp (y0).toNat)) g2.np (fun v=>(bif (Nat.beq v (x % (g2.np:Int)).toNat) then (vYX .i64 ((pp (x % (g2.np:Int)).toNat) + (vYX .i64 ((y % 7) - 3)))) else (pp v)))) then (bif (inB y0 g2.np) then (bif (gF1 cch ech (g2,wk,ew,x0,y0,(bif (Nat.beq (y0).toNat (x % (g2.np:Int)).toNat) then (vYX .i64 ((pp (x % (g2.np:Int)).toNat) + (vYX .i64 ((y % 7) - 3)))) else (pp (y0).toNat)))) then (bif (inB y0 ((g2.np:Int).toNat)) then (bif (gF1 cck eck (g2,x0,y0,((yH N g2 (n,q)).2.2 (y0).toNat),((g2.np:Int).toNat),(fun v=>((yH N g2 (n,q)).2.2 v)))) then (bif (cbB g2 x0 y0 ((yH N g2 (n,q)).2.2 (y0).toNat) ((g2.np:Int).toNat) (fun v=>((yH N g2 (n,q)).2.2 v))) then (bif (inB y0 ((g2.np:Int).toNat)) then (bif (gF1 cch ech (g2,wk,ew,x0,y0,((yH N g2 (n,q)).2.2 (y0).toNat))) then (bif (g1 []) then (bif (gF1 cck eck (g2,x0,y0,l,g2.np,pp)) then (bif (cbB g2 x0 y0 l g2.np pp) then some (.v (.b true),[])
 else some (.v (.b false),[]))
 else none)
 else none)
 else none)
 else none)
 else (bif (g1 []) then (bif (gF1 cck eck (g2,x0,y0,l,g2.np,pp)) then (bif (cbB g2 x0 y0 l g2.np pp) then some (.v (.b true),[])
 else some (.v (.b false),[]))
 else none)
 else none))
 else none)
 else none)
 else none)
 else none)
 else (bif (inB y0 ((g2.np:Int).toNat)) then (bif (gF1 cck eck (g2,x0,y0,((yH N g2 (n,q)).2.2 (y0).toNat),((g2.np:Int).toNat),(fun v=>((yH N g2 (n,q)).2.2 v)))) then (bif (cbB g2 x0 y0 ((yH N g2 (n,q)).2.2 (y0).toNat) ((g2.np:Int).toNat) (fun v=>((yH N g2 (n,q)).2.2 v))) then (bif (inB y0 ((g2.np:Int).toNat)) then (bif (gF1 cch ech (g2,wk,ew,x0,y0,((yH N g2 (n,q)).2.2 (y0).toNat))) then (bif (g1 []) then (bif (gF1 cck eck (g2,x0,y0,l,g2.np,pp)) then (bif (cbB g2 x0 y0 l g2.np pp) then some (.v (.b true),[])
 else some (.v (.b false),[]))
 else none)
 else none)
 else none)
 else none)
 else (bif (g1 []) then (bif (gF1 cck eck (g2,x0,y0,l,g2.np,pp)) then (bif (cbB g2 x0 y0 l g2.np pp) then some (.v (.b true),[])
 else some (.v (.b false),[]))
 else none)
 else none))
 else none)
 else none))
 else none)
 else none))
 else none)
 else none)
 else none)
 else none)
 else none)
 else none)
 else none)
 else none)
 else none)
 else none)
 else none)
 else none)
 else none))
 else none)
 else none)
 else none):=by kernel_rfl
theorem yHZ (N:Nat) (g2:Gr) (wl:Nat) (e:Nat→Int) (wk:Nat) (ew:Nat→Int) (a b:Int) (n:Nat) (q:Nat→Int) (x y x0 y0:Int) (pp:Nat→Int) (l:Int) (hN:N=10) (hA:zH Try.prog 10 [] (.v (.b true))) (hG:zH Try.prog 11 [.lf wl (fQ e)] (.v (.a (gP g2)))) (hE:zH Try.prog 12 [.a (gP g2),.n .i64 a,.n .i64 b] (.v (.t [.n .i64 x0,.n .i64 y0]))) (hP:zH Try.prog 18 [.a (gP g2),.n .i64 x0,.n .i64 y0] (.v (.t [.lf g2.np (fQ pp),.n .i64 l,.b true]))) (hm:yQK g2) (hq:n≤17592186044416) (hy:0≤y0∧y0 < (g2.np:Int)) (hc:cbB g2 x0 y0 l g2.np pp=true):zH Try.prog 5 [.lf wl (fQ e),.lf wk (fQ ew),.n .i64 a,.n .i64 b,.lf n (fQ q),.n .i64 x,.n .i64 y] (.v (.b true)):=by
 refine zJ (N:=(N + 10)) (LO:=qY (yWZ N g2 wl e wk ew a b n q x y x0 y0 pp l)) kJ jJ (kX (l:=[(10,o_cr [] (.v (.b true))),(11,o_cr [.lf wl (fQ e)] (.v (.a (gP g2)))),(12,o_cr [.a (gP g2),.n .i64 a,.n .i64 b] (.v (.t [.n .i64 x0,.n .i64 y0]))),(18,o_cr [.a (gP g2),.n .i64 x0,.n .i64 y0] (.v (.t [.lf g2.np (fQ pp),.n .i64 l,.b true]))),(14,o_rn),(20,o_ch),(19,o_ck)]) (m:=[]) ⟨zJC hA,zJC hG,zJC hE,zJC hP,yZC,jKG,jKV,trivial⟩ trivial) (fun p S hp => ?_) ?_
 ·refine qV (L:=qZ Tf 5) (l:=(yWZ N g2 wl e wk ew a b n q x y x0 y0 pp l)) (show AllP _ (yWZ N g2 wl e wk ew a b n q x y x0 y0 pp l) from ⟨?_,trivial⟩) p S hp
  ·dsimp only;refine yV (T:=Tf) (o:=(orpa N g2 wl e wk ew a b n q x y x0 y0 pp l)) (f:=5) (LO:=qY []) (p:=[0,0,1,1,1,1,1,1,1,1,1]) kZ ?_;intro t K r hr;obtain ⟨hg,hr⟩:=qQ hr
   skip
   exact (lwpa K N g2 wl e wk ew a b n q x y x0 y0 pp l t hg).trans hr
 ·refine (jWQ N g2 wl e wk ew a b n q x y x0 y0 pp l).trans ?_;subst hN;obtain ⟨_,h2,h9,hn,_⟩:=id hm;obtain ⟨s,h1,h3⟩:=yYH h9 g2.np n 20 q (by omega) (by omega);have h1:qX (dcpa g2) (10 + 10) (n,q)=some (0,s):=h1;have o1:qKH 10 g2 (n,q)=true:=by unfold qKH; rw [h1]; rfl
  have o2:yH 10 g2 (n,q)=(0,s):=by unfold yH; rw [h1]; rfl
  have hp2:g2.np≤100∧g2.ne≤500:=by omega
  have k2:∀ l n q,gF1 cck eck (g2,x0,y0,l,n,q)=true:=fun l n q=>uX (C:=cck) (t:=(g2,x0,y0,l,n,q)) hp2
  have rk:gF1 crn ern (x,(g2.np:Int))=true:=uX (C:=crn) (t:=(x,(g2.np:Int))) (by show 0 < (g2.np:Int)∧_; omega);have r7:gF1 crn ern (y,7)=true:=uX (C:=crn) (t:=(y,7)) ⟨by decide,by decide⟩;have ib:inB (x % (g2.np:Int)) g2.np=true:=by
   have h1:=Int.emod_nonneg x (show (g2.np:Int) ≠ 0 by omega);have h3:=Int.emod_lt_of_pos x (show 0 < (g2.np:Int) by omega);unfold inB; rw [vYJ h1,vYJ (by omega)]; rfl
  have iy:inB y0 g2.np=true:=by unfold inB; rw [vYJ hy.1,vYJ (by omega)]; rfl
  have hk:∀ l n q,cbB g2 x0 y0 l n q=true→gF1 cch ech (g2,wk,ew,x0,y0,l)=true:=fun l n q h=>uX (C:=cch) (t:=(g2,wk,ew,x0,y0,l)) ⟨hm,n,q,h⟩
  simp only [g1_t,toN,rk,r7,ib,iy,k2,yY,o1,o2,decide_true,Bool.not_true,Nat.beq_refl,vYJ hq,vYJ (show g2.np≤17592186044416 by omega),vYJ (show (0:Int)≤(g2.np:Int) by omega),vYJ h3,hc,vYQ,vYZ];refine yQY (hk _ _ _) ?_ ?_ <;> refine yQY (hk _ _ _) ?_ ?_ <;> exact yQY (hk _ _ _) rfl rfl
noncomputable def orpb (N:Nat) (g2:Gr) (wl:Nat) (e:Nat→Int) (_:Nat) (_:Nat→Int) (a b:Int) (n:Nat) (_:Nat→Int) (x y x0 y0:Int) (pp:Nat→Int) (l:Int):OrS:=orS [(10,o_cr [] (.v (.b true))),(11,o_cr [.lf wl (fQ e)] (.v (.a (gP g2)))),(12,o_cr [.a (gP g2),.n .i64 a,.n .i64 b] (.v (.t [.n .i64 x0,.n .i64 y0]))),(18,o_cr [.a (gP g2),.n .i64 x0,.n .i64 y0] (.v (.t [.lf 0 (fQ pp),.n .i64 l,.b false]))),(14,o_rn),(20,o_ch),(19,o_ck)] []
noncomputable def hpb (N:Nat) (g2:Gr) (wl:Nat) (e:Nat→Int) (wk:Nat) (ew:Nat→Int) (a b:Int) (n:Nat) (_:Nat→Int) (x y x0 y0:Int) (_:Nat→Int) (l:Int) (rn:Nat) (f:Nat→Int):St:=⟨[(1,.v (.lf wk (fQ ew))),(15,.p 15 0),(16,.v (.n .i64 x0)),(17,.v (.n .i64 y0)),(18,.o 47),(19,.v (.n .i64 0)),(20,.v (.b false)),(21,.o 55),(22,.o 69)],[(15,.blk [.v (.lf g2.np g2.pt),.v (.lf g2.ne (fE g2.ed))]),(47,.reg 2 1 (.fo (g2.np:Int).toNat (fun _=>[.n .i64 0]))),(55,.reg 2 1 (.fo (g2.np:Int).toNat (fun v=>[.n .i64 (bif (Nat.beq v (x % ((g2.np:Int).toNat:Int)).toNat) then (vYX .i64 (0 + (vYX .i64 ((y % 7) - 3)))) else 0)]))),(69,.reg 2 1 (.fo rn (fun v=>[.n .i64 (f v)])))]⟩
set_option maxRecDepth 100000 in
theorem rdpb (G:St→Option (Ret × Mem)) (K:Cont) (N:Nat) (g2:Gr) (wl:Nat) (e:Nat→Int) (wk:Nat) (ew:Nat→Int) (a b:Int) (n:Nat) (q:Nat→Int) (x y x0 y0:Int) (pp:Nat→Int) (l:Int) (rn:Nat) (f:Nat→Int):yX (N + 10) (cxS Tf (orpb N g2 wl e wk ew a b n q x y x0 y0 pp l) (N + 10) 5 (ntmF Tf 5)) (evX Tf (orpb N g2 wl e wk ew a b n q x y x0 y0 pp l) (N + 10) 5 (ntmF Tf 5)) (qY []) (qZ Tf 5 [0,0,1,1,1,1,1,1,1,1,1]) [0,0,1,1,1,1,1,1,1,1,1] (Tf.hint 5 (qJ (qZ Tf 5 [0,0,1,1,1,1,1,1,1,1,1]))) K G (hpb N g2 wl e wk ew a b n q x y x0 y0 pp l rn f) =
 (bif (decide ((rn:Int) < (g2.np:Int))) then (bif (decide (rn + 1≤17592186044416)) then (G (hpb N g2 wl e wk ew a b n q x y x0 y0 pp l (rn + 1) (fun v=>(bif (Nat.beq v rn) then 0 else (f v)))))
 else none)
 else (K (.exit 0) ⟨[(1,.v (.lf wk (fQ ew))),(15,.p 15 0),(16,.v (.n .i64 x0)),(17,.v (.n .i64 y0)),(18,.o 47),(19,.v (.n .i64 0)),(20,.v (.b false)),(21,.o 55),(22,.o 69)],[(15,.blk [.v (.lf g2.np g2.pt),.v (.lf g2.ne (fE g2.ed))]),(47,.reg 2 1 (.fo (g2.np:Int).toNat (fun _=>[.n .i64 0]))),(55,.reg 2 1 (.fo (g2.np:Int).toNat (fun v=>[.n .i64 (bif (Nat.beq v (x % ((g2.np:Int).toNat:Int)).toNat) then (vYX .i64 (0 + (vYX .i64 ((y % 7) - 3)))) else 0)]))),(69,.reg 2 1 (.fo rn (fun v=>[.n .i64 (f v)])))]⟩)):=by kernel_rfl
noncomputable def dcpb (g2:Gr):(Nat × (Nat→Int))→(Nat × (Nat→Int)) ⊕ (Nat × Nat × (Nat→Int)):=fun t=>match t with | (rn,f)=>(bif (decide ((rn:Int) < (g2.np:Int))) then (bif (decide (rn + 1≤17592186044416)) then (.inl ((rn + 1),(fun v=>(bif (Nat.beq v rn) then 0 else (f v))))) else (.inr (1,(rn,f)))) else (.inr (0,(rn,f))))
noncomputable def kxpb (N:Nat) (g2:Gr) (wl:Nat) (e:Nat→Int) (wk:Nat) (ew:Nat→Int) (a b:Int) (n:Nat) (_:Nat→Int) (x y x0 y0:Int) (_:Nat→Int) (l:Int) (K:Cont) (w9:Nat × Nat × (Nat→Int)):Option (Ret × Mem):=bif Nat.beq w9.1 0 then (K (.exit 0) ⟨[(1,.v (.lf wk (fQ ew))),(15,.p 15 0),(16,.v (.n .i64 x0)),(17,.v (.n .i64 y0)),(18,.o 47),(19,.v (.n .i64 0)),(20,.v (.b false)),(21,.o 55),(22,.o 69)],[(15,.blk [.v (.lf g2.np g2.pt),.v (.lf g2.ne (fE g2.ed))]),(47,.reg 2 1 (.fo (g2.np:Int).toNat (fun _=>[.n .i64 0]))),(55,.reg 2 1 (.fo (g2.np:Int).toNat (fun v=>[.n .i64 (bif (Nat.beq v (x % ((g2.np:Int).toNat:Int)).toNat) then (vYX .i64 (0 + (vYX .i64 ((y % 7) - 3)))) else 0)]))),(69,.reg 2 1 (.fo w9.2.1 (fun v=>[.n .i64 (w9.2.2 v)])))]⟩) else none
theorem wlpb (K:Cont) (N:Nat) (g2:Gr) (wl:Nat) (e:Nat→Int) (wk:Nat) (ew:Nat→Int) (a b:Int) (n:Nat) (q:Nat→Int) (x y x0 y0:Int) (pp:Nat→Int) (l:Int):∀ n9 (t:(Nat × (Nat→Int))),LFX (N + 10) (cxS Tf (orpb N g2 wl e wk ew a b n q x y x0 y0 pp l) (N + 10) 5 (ntmF Tf 5)) (evX Tf (orpb N g2 wl e wk ew a b n q x y x0 y0 pp l) (N + 10) 5 (ntmF Tf 5)) (qY []) (qZ Tf 5 [0,0,1,1,1,1,1,1,1,1,1]) [0,0,1,1,1,1,1,1,1,1,1] (Tf.hint 5 (qJ (qZ Tf 5 [0,0,1,1,1,1,1,1,1,1,1]))) K n9 (hpb N g2 wl e wk ew a b n q x y x0 y0 pp l t.1 t.2)=(qX (dcpb g2) n9 t).bind (kxpb N g2 wl e wk ew a b n q x y x0 y0 pp l K):=fun n9 t=>by
 refine qQY (L:=LFX (N + 10) (cxS Tf (orpb N g2 wl e wk ew a b n q x y x0 y0 pp l) (N + 10) 5 (ntmF Tf 5)) (evX Tf (orpb N g2 wl e wk ew a b n q x y x0 y0 pp l) (N + 10) 5 (ntmF Tf 5)) (qY []) (qZ Tf 5 [0,0,1,1,1,1,1,1,1,1,1]) [0,0,1,1,1,1,1,1,1,1,1] (Tf.hint 5 (qJ (qZ Tf 5 [0,0,1,1,1,1,1,1,1,1,1]))) K) (stp:=yX (N + 10) (cxS Tf (orpb N g2 wl e wk ew a b n q x y x0 y0 pp l) (N + 10) 5 (ntmF Tf 5)) (evX Tf (orpb N g2 wl e wk ew a b n q x y x0 y0 pp l) (N + 10) 5 (ntmF Tf 5)) (qY []) (qZ Tf 5 [0,0,1,1,1,1,1,1,1,1,1]) [0,0,1,1,1,1,1,1,1,1,1] (Tf.hint 5 (qJ (qZ Tf 5 [0,0,1,1,1,1,1,1,1,1,1]))) K) (fun _ _=>rfl) (fun _=>rfl) (fun t=>hpb N g2 wl e wk ew a b n q x y x0 y0 pp l t.1 t.2) (fun _=>True) (dcpb g2) (kxpb N g2 wl e wk ew a b n q x y x0 y0 pp l K) (fun G t _ => ?_) (fun _ _ _ _=>trivial) n9 t trivial;obtain ⟨rn,f⟩:=t;refine (rdpb G K N g2 wl e wk ew a b n q x y x0 y0 pp l rn f).trans ?_;dsimp only [dcpb];cases (decide ((rn:Int) < (g2.np:Int)))
 ·rfl
 ·cases (decide (rn + 1≤17592186044416))
  ·rfl
  ·rfl
noncomputable def zHQ (N:Nat) (g2:Gr) (t:(Nat × (Nat→Int))):Bool:=(qX (dcpb g2) (N + 10) t).isSome
noncomputable def qQK (N:Nat) (g2:Gr) (t:(Nat × (Nat→Int))):Nat × Nat × (Nat→Int):=(qX (dcpb g2) (N + 10) t).getD (99,t)
theorem lwpb (K:Cont) (N:Nat) (g2:Gr) (wl:Nat) (e:Nat→Int) (wk:Nat) (ew:Nat→Int) (a b:Int) (n:Nat) (q:Nat→Int) (x y x0 y0:Int) (pp:Nat→Int) (l:Int) (t:(Nat × (Nat→Int))) (hg:zHQ N g2 t=true):LFX (N + 10) (cxS Tf (orpb N g2 wl e wk ew a b n q x y x0 y0 pp l) (N + 10) 5 (ntmF Tf 5)) (evX Tf (orpb N g2 wl e wk ew a b n q x y x0 y0 pp l) (N + 10) 5 (ntmF Tf 5)) (qY []) (qZ Tf 5 [0,0,1,1,1,1,1,1,1,1,1]) [0,0,1,1,1,1,1,1,1,1,1] (Tf.hint 5 (qJ (qZ Tf 5 [0,0,1,1,1,1,1,1,1,1,1]))) K (N + 10) (hpb N g2 wl e wk ew a b n q x y x0 y0 pp l t.1 t.2)=kxpb N g2 wl e wk ew a b n q x y x0 y0 pp l K (qQK N g2 t):=by
 refine (wlpb K N g2 wl e wk ew a b n q x y x0 y0 pp l (N + 10) t).trans ?_;unfold zHQ at hg;unfold qQK;cases h:qX (dcpb g2) (N + 10) t with
 | none=>rw [h] at hg; cases hg
 | some y=>rfl
theorem jKL {g2:Gr} (h9:g2.np≤9):∀ (d rn M:Nat) (f:Nat→Int),g2.np≤rn + d→d < M→∃ s:Nat × (Nat→Int),qX (dcpb g2) M (rn,f)=some (0,s)∧g2.np≤s.1
 | _,_,0,_,_,h=>by omega
 | d,rn,M + 1,f,hd,hM=>by
  rw [qX];dsimp only [dcpb];by_cases h:rn < g2.np
  ·rw [vYJ (show (rn:Int) < (g2.np:Int) by omega),vYJ (show rn + 1≤17592186044416 by omega)];obtain ⟨d,rfl⟩:∃ d',d=d' + 1:=⟨d - 1,by omega⟩
   exact jKL h9 d (rn + 1) M _ (by omega) (by omega)
  ·rw [vYY (show ¬ (rn:Int) < (g2.np:Int) by omega)];exact ⟨(rn,f),rfl,by show g2.np≤rn; omega⟩
noncomputable def yWQ (N:Nat) (g2:Gr) (wl:Nat) (e:Nat→Int) (wk:Nat) (ew:Nat→Int) (a b:Int) (n:Nat) (q:Nat→Int) (x y x0 y0:Int) (pp:Nat→Int) (l:Int):List (List Nat × yK):=[([0,0,1,1,1,1,1,1,1,1,1],sumF (fun t:(Nat × (Nat→Int))=>(hpb N g2 wl e wk ew a b n q x y x0 y0 pp l t.1 t.2)) (fun σ=>(rgN σ 69,rgI σ 69 0)) (fun t K=>(bif zHQ N g2 t then kxpb N g2 wl e wk ew a b n q x y x0 y0 pp l K (qQK N g2 t) else none)))]
set_option maxRecDepth 100000 in
theorem jXL (N:Nat) (g2:Gr) (wl:Nat) (e:Nat→Int) (wk:Nat) (ew:Nat→Int) (a b:Int) (n:Nat) (q:Nat→Int) (x y x0 y0:Int) (pp:Nat→Int) (l:Int):qZV Tf (orpb N g2 wl e wk ew a b n q x y x0 y0 pp l) (qY (yWQ N g2 wl e wk ew a b n q x y x0 y0 pp l)) (N + 10) 5 [.lf wl (fQ e),.lf wk (fQ ew),.n .i64 a,.n .i64 b,.lf n (fQ q),.n .i64 x,.n .i64 y] =
 (bif (g1 [.lf wl (fQ e)]) then (bif (g1 [.a (gP g2),.n .i64 a,.n .i64 b]) then (bif (g1 [.a (gP g2),.n .i64 x0,.n .i64 y0]) then (bif (decide (0≤(g2.np:Int))) then (bif (decide ((g2.np:Int)≤(g2.np:Int))) then (bif (decide ((g2.np:Int)≤1000000)) then (bif (!decide (((g2.np:Int).toNat:Int)=(g2.np:Int))) then some (.v (.b false),[])
 else (bif (decide ((g2.np:Int).toNat≤17592186044416)) then (bif (gF1 crn ern (x,((g2.np:Int).toNat:Int))) then (bif (inB (x % ((g2.np:Int).toNat:Int)) (g2.np:Int).toNat) then (bif (gF1 crn ern (y,7)) then (bif (inB (x % ((g2.np:Int).toNat:Int)) (g2.np:Int).toNat) then (bif (decide (n≤17592186044416)) then (bif (gSt (hpb N g2 wl e wk ew a b n q x y x0 y0 pp l n q) (hpb N g2 wl e wk ew a b n q x y x0 y0 pp l n q)) then (bif (zHQ N g2 (n,q)) then (bif (Nat.beq (qQK N g2 (n,q)).1 0) then (bif (decide (0≤(g2.np:Int))) then (bif (decide ((g2.np:Int).toNat≤(qQK N g2 (n,q)).2.1)) then (bif (inB y0 ((g2.np:Int).toNat)) then (bif (gF1 cck eck (g2,x0,y0,0,((g2.np:Int).toNat),zN)) then (bif (cbB g2 x0 y0 0 ((g2.np:Int).toNat) zN) then (bif (inB y0 ((g2.np:Int).toNat)) then (bif (gF1 cch ech (g2,wk,ew,x0,y0,0)) then (bif (inB y0 ((g2.np:Int).toNat)) then (bif (gF1 cck eck (g2,x0,y0,(bif (Nat.beq (y0).toNat (x % ((g2.np:Int).toNat:Int)).toNat) then (vYX .i64 (0 + (vYX .i64 ((y % 7) - 3)))) else 0),((g2.np:Int).toNat),(fun v=>(bif (Nat.beq v (x % ((g2.np:Int).toNat:Int)).toNat) then (vYX .i64 (0 + (vYX .i64 ((y % 7) - 3)))) else 0)))) then (bif (cbB g2 x0 y0 (bif (Nat.beq (y0).toNat (x % ((g2.np:Int).toNat:Int)).toNat) then (vYX .i64 (0 + (vYX .i64 ((y % 7) - 3)))) else 0) ((g2.np:Int).toNat) (fun v=>(bif (Nat.beq v (x % ((g2.np:Int).toNat:Int)).toNat) then (vYX .i64 (0 + (vYX .i64 ((y % 7) - 3)))) else 0))) then (bif (inB y0 ((g2.np:Int).toNat)) then (bif (gF1 cch ech (g2,wk,ew,x0,y0,(bif (Nat.beq (y0).toNat (x % ((g2.np:Int).toNat:Int)).toNat) then (vYX .i64 (0 + (vYX .i64 ((y % 7) - 3)))) else 0))) then (bif (inB y0 ((g2.np:Int).toNat)) then (bif (gF1 cck eck (g2,x0,y0,((qQK N g2 (n,q)).2.2 (y0).toNat),((g2.np:Int).toNat),(fun v=>((qQK N g2 (n,q)).2.2 v)))) then (bif (cbB g2 x0 y0 ((qQK N g2 (n,q)).2.2 (y0).toNat) ((g2.np:Int).toNat) (fun v=>((qQK N g2 (n,q)).2.2 v))) then (bif (inB y0 ((g2.np:Int).toNat)) then (bif (gF1 cch ech (g2,wk,ew,x0,y0,((qQK N g2 (n,q)).2.2 (y0).toNat))) then (bif (g1 []) then some (.v (.b true),[])
 else none)
 else none)
 else none)
 else (bif (g1 []) then some (.v (.b true),[])
 else none))
 else none)
 else none)
 else none)
 else none)
 else (bif (inB y0 ((g2.np:Int).toNat)) then (bif (gF1 cck eck (g2,x0,y0,((qQK N g2 (n,q)).2.2 (y0).toNat),((g2.np:Int).toNat),(fun v=>((qQK N g2 (n,q)).2.2 v)))) then (bif (cbB g2 x0 y0 ((qQK N g2 (n,q)).2.2 (y0).toNat) ((g2.np:Int).toNat) (fun v=>((qQK N g2 (n,q)).2.2 v))) then (bif (inB y0 ((g2.np:Int).toNat)) then (bif (gF1 cch ech (g2,wk,ew,x0,y0,((qQK N g2 (n,q)).2.2 (y0).toNat))) then (bif (g1 []) then some (.v (.b true),[])
 else none)
 else none)
 else none)
 else (bif (g1 []) then some (.v (.b true),[])
 else none))
 else none)
 else none))
 else none)
 else none)
 else none)
 else none)
 else (bif (inB y0 ((g2.np:Int).toNat)) then (bif (gF1 cck eck (g2,x0,y0,(bif (Nat.beq (y0).toNat (x % ((g2.np:Int).toNat:Int)).toNat) then (vYX .i64 (0 + (vYX .i64 ((y % 7) - 3)))) else 0),((g2.np:Int).toNat),(fun v=>(bif (Nat.beq v (x % ((g2.np:Int).toNat:Int)).toNat) then (vYX .i64 (0 + (vYX .i64 ((y % 7) - 3)))) else 0)))) then (bif (cbB g2 x0 y0 (bif (Nat.beq (y0).toNat (x % ((g2.np:Int).toNat:Int)).toNat) then (vYX .i64 (0 + (vYX .i64 ((y % 7) - 3)))) else 0) ((g2.np:Int).toNat) (fun v=>(bif (Nat.beq v (x % ((g2.np:Int).toNat:Int)).toNat) then (vYX .i64 (0 + (vYX .i64 ((y % 7) - 3)))) else 0))) then (bif (inB y0 ((g2.np:Int).toNat)) then (bif (gF1 cch ech (g2,wk,ew,x0,y0,(bif (Nat.beq (y0).toNat (x % ((g2.np:Int).toNat:Int)).toNat) then (vYX .i64 (0 + (vYX .i64 ((y % 7) - 3)))) else 0))) then (bif (inB y0 ((g2.np:Int).toNat)) then (bif (gF1 cck eck (g2,x0,y0,((qQK N g2 (n,q)).2.2 (y0).toNat),((g2.np:Int).toNat),(fun v=>((qQK N g2 (n,q)).2.2 v)))) then (bif (cbB g2 x0 y0 ((qQK N g2 (n,q)).2.2 (y0).toNat) ((g2.np:Int).toNat) (fun v=>((qQK N g2 (n,q)).2.2 v))) then (bif (inB y0 ((g2.np:Int).toNat)) then (bif (gF1 cch ech (g2,wk,ew,x0,y0,((qQK N g2 (n,q)).2.2 (y0).toNat))) then (bif (g1 []) then some (.v (.b true),[])
 else none)
 else none)
 else none)
 else (bif (g1 []) then some (.v (.b true),[])
 else none))
 else none)
 else none)
 else none)
 else none)
 else (bif (inB y0 ((g2.np:Int).toNat)) then (bif (gF1 cck eck (g2,x0,y0,((qQK N g2 (n,q)).2.2 (y0).toNat),((g2.np:Int).toNat),(fun v=>((qQK N g2 (n,q)).2.2 v)))) then (bif (cbB g2 x0 y0 ((qQK N g2 (n,q)).2.2 (y0).toNat) ((g2.np:Int).toNat) (fun v=>((qQK N g2 (n,q)).2.2 v))) then (bif (inB y0 ((g2.np:Int).toNat)) then (bif (gF1 cch ech (g2,wk,ew,x0,y0,((qQK N g2 (n,q)).2.2 (y0).toNat))) then (bif (g1 []) then some (.v (.b true),[])
 else none)
 else none)
 else none)
 else (bif (g1 []) then some (.v (.b true),[])
 else none))
 else none)
 else none))
 else none)
 else none))
 else none)
 else none)
 else none)
 else none)
 else none)
 else none)
 else none)
 else none)
 else none)
 else none)
 else none)
 else none)
 else none))
 else none)
 else none)
 else none)
 else none)
 else none)
 else none):=by kernel_rfl
theorem yHQ (N:Nat) (g2:Gr) (wl:Nat) (e:Nat→Int) (wk:Nat) (ew:Nat→Int) (a b:Int) (n:Nat) (q:Nat→Int) (x y x0 y0:Int) (pp:Nat→Int) (l:Int) (hN:N=10) (hA:zH Try.prog 10 [] (.v (.b true))) (hG:zH Try.prog 11 [.lf wl (fQ e)] (.v (.a (gP g2)))) (hE:zH Try.prog 12 [.a (gP g2),.n .i64 a,.n .i64 b] (.v (.t [.n .i64 x0,.n .i64 y0]))) (hP:zH Try.prog 18 [.a (gP g2),.n .i64 x0,.n .i64 y0] (.v (.t [.lf 0 (fQ pp),.n .i64 l,.b false]))) (hm:yQK g2) (hq:n≤17592186044416) (hy:0≤y0∧y0 < (g2.np:Int)):zH Try.prog 5 [.lf wl (fQ e),.lf wk (fQ ew),.n .i64 a,.n .i64 b,.lf n (fQ q),.n .i64 x,.n .i64 y] (.v (.b true)):=by
 refine zJ (N:=(N + 10)) (LO:=qY (yWQ N g2 wl e wk ew a b n q x y x0 y0 pp l)) kJ jJ (kX (l:=[(10,o_cr [] (.v (.b true))),(11,o_cr [.lf wl (fQ e)] (.v (.a (gP g2)))),(12,o_cr [.a (gP g2),.n .i64 a,.n .i64 b] (.v (.t [.n .i64 x0,.n .i64 y0]))),(18,o_cr [.a (gP g2),.n .i64 x0,.n .i64 y0] (.v (.t [.lf 0 (fQ pp),.n .i64 l,.b false]))),(14,o_rn),(20,o_ch),(19,o_ck)]) (m:=[]) ⟨zJC hA,zJC hG,zJC hE,zJC hP,yZC,jKG,jKV,trivial⟩ trivial) (fun p S hp => ?_) ?_
 ·refine qV (L:=qZ Tf 5) (l:=(yWQ N g2 wl e wk ew a b n q x y x0 y0 pp l)) (show AllP _ (yWQ N g2 wl e wk ew a b n q x y x0 y0 pp l) from ⟨?_,trivial⟩) p S hp
  ·dsimp only;refine yV (T:=Tf) (o:=(orpb N g2 wl e wk ew a b n q x y x0 y0 pp l)) (f:=5) (LO:=qY []) (p:=[0,0,1,1,1,1,1,1,1,1,1]) kZ ?_;intro t K r hr;obtain ⟨hg,hr⟩:=qQ hr
   skip
   exact (lwpb K N g2 wl e wk ew a b n q x y x0 y0 pp l t hg).trans hr
 ·refine (jXL N g2 wl e wk ew a b n q x y x0 y0 pp l).trans ?_;subst hN;obtain ⟨_,h2,h9,hn,_⟩:=id hm;obtain ⟨s,h1,h3⟩:=jKL h9 g2.np n 20 q (by omega) (by omega);have h1:qX (dcpb g2) (10 + 10) (n,q)=some (0,s):=h1;have o1:zHQ 10 g2 (n,q)=true:=by unfold zHQ; rw [h1]; rfl
  have o2:qQK 10 g2 (n,q)=(0,s):=by unfold qQK; rw [h1]; rfl
  have hp2:g2.np≤100∧g2.ne≤500:=by omega
  have k2:∀ l n q,gF1 cck eck (g2,x0,y0,l,n,q)=true:=fun l n q=>uX (C:=cck) (t:=(g2,x0,y0,l,n,q)) hp2
  have rk:gF1 crn ern (x,(g2.np:Int))=true:=uX (C:=crn) (t:=(x,(g2.np:Int))) (by show 0 < (g2.np:Int)∧_; omega);have r7:gF1 crn ern (y,7)=true:=uX (C:=crn) (t:=(y,7)) ⟨by decide,by decide⟩;have ib:inB (x % (g2.np:Int)) g2.np=true:=by
   have h1:=Int.emod_nonneg x (show (g2.np:Int) ≠ 0 by omega);have h3:=Int.emod_lt_of_pos x (show 0 < (g2.np:Int) by omega);unfold inB; rw [vYJ h1,vYJ (by omega)]; rfl
  have iy:inB y0 g2.np=true:=by unfold inB; rw [vYJ hy.1,vYJ (by omega)]; rfl
  have hk:∀ l n q,cbB g2 x0 y0 l n q=true→gF1 cch ech (g2,wk,ew,x0,y0,l)=true:=fun l n q h=>uX (C:=cch) (t:=(g2,wk,ew,x0,y0,l)) ⟨hm,n,q,h⟩
  simp only [g1_t,toN,rk,r7,ib,iy,k2,yY,o1,o2,decide_true,Bool.not_true,Nat.beq_refl,vYJ hq,vYJ (show g2.np≤17592186044416 by omega),vYJ (show (0:Int)≤(g2.np:Int) by omega),vYJ h3,vYJ (show g2.np≤g2.np by omega),vYJ (show (g2.np:Int)≤(g2.np:Int) by omega),vYJ (show (g2.np:Int)≤1000000 by omega),vYQ,vYZ];refine yQY (hk _ _ _) ?_ ?_ <;> refine yQY (hk _ _ _) ?_ ?_ <;> exact yQY (hk _ _ _) rfl rfl
end Go.Proofs.Ytglkkhpdbfacfaa.Ci
namespace Go.Proofs.Ytglkkhpdbfacfaa.Ck
open Go.Rx Rt Go.Sx Go.RowKit Ba Bb Bc Bd Be Bf Bi Bj Bk Bl Bh Bm Bn Bo Bp Bq Br Bs Bt Bu Bv Bw Bx By Bz Ca Cb Cc Cd
section
variable {g:Gr} (hw:wfB g=true) (hp:g.np≤100) (hn:g.ne≤500) {a:Nat} (ha:a < g.np)
include hw hp hn ha
theorem jZL:csT g (a:Int) a=0:=by
 rcases qUJ hw hp hn ha ha with ⟨_,h⟩ | ⟨h0,_,_,h⟩
 ·exact absurd Wk.nil (h 0 1)
 ·have:=h 0 1 Wk.nil
  omega
theorem yZH {x y:Nat} {c s:Int} (hx:x < g.np) (hy:y < g.np) (hj:Jn g 2 g.ne x (y:Int) c) (_:0≤c) (_:s≤1152921504606846976):min (csT g (a:Int) y) s≤min (csT g (a:Int) x) s + c:=by
 rcases qUJ hw hp hn ha hx with ⟨h1,_⟩ | ⟨_,_,⟨p,h1⟩,_⟩
 ·rw [h1]; omega
 ·obtain ⟨w,w1,w2,w3⟩:=((zQI g 2).2 x (y:Int) c).2 hj;have h2:WkG g 2 a y (csT g (a:Int) x + c) (p + 1):=by
   rw [← w3];exact Wk.cons h1 hx w1 w2
  rcases qUJ hw hp hn ha hy with ⟨_,h3⟩ | ⟨_,_,_,h3⟩
  ·exact absurd h2 (h3 _ _)
  ·have:=h3 _ _ h2
   omega
theorem jWK {b:Nat} (hb:b < g.np) (hf:stF g (a:Int) (b:Int) 2=true):cbB g (a:Int) (b:Int) (stC g (a:Int) (b:Int) 2) g.np (ptV g (a:Int) (b:Int))=true:=by
 have ha':isP g (a:Int)=true:=by unfold isP; simp; omega
 have hb':isP g (b:Int)=true:=by unfold isP; simp; omega
 have hst:stQ g (a:Int) (b:Int) 2=true:=by
  unfold stQ; rw [hw,ha',hb']; rfl
 have hl:Least g 2 a b (stC g (a:Int) (b:Int) 2):=by
  have hc:stC g (a:Int) (b:Int) 2=shC g.np (lkO g 2).1 (lkO g 2).2.1 (lkO g 2).2.2 a b:=by unfold stC; rw [hst]; rfl
  have hf':stF g (a:Int) (b:Int) 2=shF g.np (lkO g 2).1 (lkO g 2).2.1 (lkO g 2).2.2 a b:=by unfold stF; rw [hst]; rfl
  rw [hc];rcases zWA (m:=2) hw hp hn ha hb with ⟨h1,_⟩ | ⟨_,h1⟩
  ·rw [← hf',hf] at h1; cases h1
  ·exact h1
 obtain ⟨_,_,hv⟩:=yZG (g:=g) (a:Int) (b:Int) hp;generalize stC g (a:Int) (b:Int) 2=s at hl hv ⊢;have hs:0≤s∧s≤109951162777600:=by
  obtain ⟨⟨p,h1⟩,h2⟩:=id hl;have h3:=h1.bd (qKE (m:=2) hw hp hn).1;rcases yVA (m:=2) hw hp hn hb ha with h4 | ⟨c,p',h4,h5,_⟩
  ·exact absurd h1 (h4 _ _)
  ·have h6:=h4.bd (qKE (m:=2) hw hp hn).1
   have:=h2 _ _ h4
   omega
 have hcb:csT g (a:Int) b=s:=by
  rcases qUJ hw hp hn ha hb with ⟨_,h1⟩ | ⟨_,_,h1⟩
  ·obtain ⟨⟨p,h2⟩,_⟩:=hl;exact absurd h2 (h1 _ _)
  ·exact h1.uniq hl
 have hr:∀ v,v < g.np→0≤ptV g (a:Int) (b:Int) v∧ptV g (a:Int) (b:Int) v≤s:=fun v h=>by
  rw [hv v h];rcases qUJ hw hp hn ha h with ⟨h1,_⟩ | ⟨h1,_⟩ <;> omega
 unfold cbB;simp only [vQJ,decide_eq_true_eq];refine ⟨⟨hw,ha',hb'⟩,trivial,allN_iff.2 fun v _ h => ?_,?_,?_,allN_iff.2 fun m _ h => ?_⟩
 ·have:=hr v (by omega)
  unfold nqB;simp only [vQJ,Bool.not_eq_true',decide_eq_false_iff_not];omega
 ·rw [toN,hv a ha,jZL hw hp hn ha]; omega
 ·rw [toN,hv b hb,hcb]; omega
 ·have hm:m < g.ne:=by omega
  obtain ⟨e1,e2,e3,e4,_⟩:=uG hw hm;unfold gdE;by_cases h2:(g.ed m).s=2
  ·rw [vYJ h2]; rfl
  ·have hu:usB (g.ed m).s 2=true:=by unfold usB; simp [h2]
   have r1:=hr (g.ed m).u.toNat (by omega);have r2:=hr (g.ed m).v.toNat (by omega);have l1:=yZH hw hp hn ha (s:=s) (show (g.ed m).u.toNat < g.np by omega) (show (g.ed m).v.toNat < g.np by omega) ⟨m,hm,hu,rfl,.inl ⟨rfl,by omega⟩⟩ e4 (by omega);have l2:=yZH hw hp hn ha (s:=s) (show (g.ed m).v.toNat < g.np by omega) (show (g.ed m).u.toNat < g.np by omega) ⟨m,hm,hu,rfl,.inr ⟨rfl,by omega⟩⟩ e4 (by omega);rw [← hv _ (by omega),← hv _ (by omega)] at l1 l2;rw [vYY h2,Bool.false_or,yG (by omega),yG (by omega),vYY (by omega)];rfl
end
end Go.Proofs.Ytglkkhpdbfacfaa.Ck
namespace Go.Proofs.Ytglkkhpdbfacfaa.Cl
open Go.Rx Rt Go.Sx Go.RowKit Go.ChangeShapes Go.WideShapes Ba Bb Bc Bd Be Bf Bi Bj Bk Bl Bh Bm Bn Bo Bp Bq Br Bs Bt Bu Bv Bw Bx By Bz Ca Cb Cc Cd Ce Cf Ch Ci Ck
section
variable {W:World} {H:Type} {enc:TypeId × Value→H} {r:Reach} {base:Nat} {v:Value} {d:DataW H} {p:List MemPlace}
theorem rowI {ps:List PV} (h:FitsB shI ps):∃ a:Int,ps=[PV.n .i64 a]:=by
 unfold shI at h;obtain ⟨p0,q0,rfl,f0,h⟩:=h.cons;obtain rfl:=h.nil;obtain ⟨x0,rfl,_⟩:=f0.int;exact ⟨x0,rfl⟩
theorem jXG:shTB Try.prog 9 26=some [.l shI]:=by kernel_rfl
set_option maxRecDepth 100000 in
theorem open_lst (hv:Value.okWide Try.prog W r base 26 v) (h:DataW.Trod enc Try.prog W 0 (fun _=>true) true 26 v d p) (hw:∀ y ∈ DataW.weights Try.prog 26 d,y≤reachBytes):∃ (n:Nat) (q:Nat→Int),n≤17592186044416∧RP (fun k=>k < W.heap.size) W (.lf n (fQ q)) v:=by
 obtain ⟨a,l,c,rfl⟩:=zWH Try.underlying26 hv;obtain ⟨fuel,h⟩:=h;have h':DataW.trod enc Try.prog W 0 (fun _=>true) true fuel 26 [.slice a l c]=some (d,p):=h;obtain ⟨ps,h1,h2,h3,_⟩:=qWJ fuel 26 [.slice a l c] (d,p) 9 [.l shI] h' jXG hw;obtain ⟨p0,rfl⟩:∃ p0,ps=[p0]:=by
  match ps,h1 with
  | [p0],_=>exact ⟨p0,rfl⟩
 have h4:RP (fun k=>k < W.heap.size) W p0 (.slice a l c):=h3.2 0 p0 _ rfl rfl;obtain ⟨n,f,rfl,hb,hr⟩:=(h2 0 _ p0 rfl rfl).slc;obtain ⟨q,hq⟩:=jVE (0:Int) (R:=fun ps z=>ps=[PV.n .i64 z]) fun j hj=>rowI (hr j hj)
 refine ⟨n,q,?_,jZH (g:=fQ q) hq _ _ _ h4⟩;have hb':n * (8 * 1)≤reachBytes:=hb;unfold reachBytes at hb';omega
end
theorem snd_bpr (hA:zH Try.prog 10 [] (.v (.b true))) (l:List Int) (hl:l.length≤9223372036854775807) (m:List Int) (_:m.length≤9223372036854775807) (a b:Int) (n:Nat) (q:Nat→Int) (hq:n≤17592186044416) (x y:Int):zH Try.prog 5 [zXV l,zXV m,.n .i64 a,.n .i64 b,.lf n (fQ q),.n .i64 x,.n .i64 y] (.v (.b true)):=by
 obtain ⟨g2,hG,hm⟩:=jVD l.length (iqOf l) hl;obtain ⟨hw,h2,h9,hn,_⟩:=id hm;refine yUJ (fun F w vals h=>Sames.al (xs:=[zXV l,zXV m,.n .i64 a,.n .i64 b,.lf n (fQ q),.n .i64 x,.n .i64 y]) (ys:=[.lf l.length (fQ (iqOf l)),.lf m.length (fQ (iqOf m)),.n .i64 a,.n .i64 b,.lf n (fQ q),.n .i64 x,.n .i64 y]) ⟨zKK l,zKK m,fun _ _ _ h=>h,fun _ _ _ h=>h,fun _ _ _ h=>h,fun _ _ _ h=>h,fun _ _ _ h=>h,trivial⟩ h) ?_;have hz:(g2.np:Int) ≠ 0:=by omega
 have a1:=Int.emod_nonneg a hz;have a2:=Int.emod_lt_of_pos a (show 0 < (g2.np:Int) by omega);have b1:=Int.emod_nonneg b hz;have b2:=Int.emod_lt_of_pos b (show 0 < (g2.np:Int) by omega);have hE:=jYI g2 a b (by omega) (by omega);have hP:=jYH g2 (a % (g2.np:Int)) (b % (g2.np:Int)) (by omega) (by omega);cases hf:stF g2 (a % (g2.np:Int)) (b % (g2.np:Int)) 2 with
 | true =>
  rw [hf] at hP;refine yHZ 10 g2 _ _ _ _ a b n q x y _ _ _ _ rfl hA hG hE hP hm hq ⟨b1,b2⟩ ?_;obtain ⟨x0,hx⟩:∃ n:Nat,a % (g2.np:Int)=(n:Int):=⟨(a % (g2.np:Int)).toNat,by omega⟩
  obtain ⟨y0,hy⟩:∃ n:Nat,b % (g2.np:Int)=(n:Int):=⟨(b % (g2.np:Int)).toNat,by omega⟩
  rw [hx,hy] at hf ⊢;exact jWK hw (by omega) (by omega) (by omega) (by omega) hf
 | false =>
  rw [hf] at hP;exact yHQ 10 g2 _ _ _ _ a b n q x y _ _ _ _ rfl hA hG hE hP hm hq ⟨b1,b2⟩
end Go.Proofs.Ytglkkhpdbfacfaa.Cl
namespace Go.Proofs.Ytglkkhpdbfacfaa
open Go.Rx Go.Sx Go.RowKit Bb
theorem zZD (v0:Value) (L0:List Int) (v1:Value) (L1:List Int) (a2:Int) (a3:Int) (v4:Value) (n4:Nat) (q4:Nat→Int) (o4:n4≤17592186044416) (a5:Int) (a6:Int) (W:World) (h0:zWK W v0 L0) (h1:zWK W v1 L1) (h4:RP (fun k=>k < W.heap.size) W (.lf n4 (fQ q4)) v4):Calls Try.prog 5 #[v0,v1,.int .i64 a2,.int .i64 a3,v4,.int .i64 a5,.int .i64 a6] W (Rets (.bool true) W) :=
 zYA (Cl.snd_bpr Ag.call L0 h0.2.1 L1 h1.2.1 a2 a3 n4 q4 o4 a5 a6) rfl (qZB h0.1 (qZB h1.1 (qZB (.n _ _) (qZB (.n _ _) (qZB h4 (qZB (.n _ _) (qZB (.n _ _) zKF)))))))
end Go.Proofs.Ytglkkhpdbfacfaa

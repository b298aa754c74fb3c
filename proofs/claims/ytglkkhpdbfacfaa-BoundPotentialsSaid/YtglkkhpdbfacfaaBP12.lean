/- Part 12 of the texts behind the last one: rules and contracts. No condition. -/
import Derived.Test.YtglkkhpdbfacfaaBP11
open Bool renaming and_eq_true → vQJ, true_and → vZW
open Go.IntKind renaming wrap → vYX
namespace Go.Proofs.Ytglkkhpdbfacfaa.Bu
open Go.Rx Rt Go.Sx Go.RowKit Ba Bb Bp Bt
noncomputable def orc0 (N:Nat) (g:Gr) (b:Int):OrS:=orS [] []
noncomputable def hc0 (N:Nat) (g:Gr) (b:Int) (i:Int) (oc:Nat→Int):St:=⟨[(1,.v (.n .i64 b)),(2,.p 2 0),(5,.o 15),(17,.v (.n .i64 ((g.np:Int).toNat:Int))),(18,.v (.n .i64 i))],[(2,.blk [.v (.lf g.np g.pt),.v (.lf g.ne (fE g.ed))]),(15,.reg 2 1 (.fo (g.np:Int).toNat (fun v=>[.n .i64 (oc v)])))]⟩
set_option maxRecDepth 100000 in
theorem rdc0 (G:St→Option (Ret × Mem)) (K:Cont) (N:Nat) (g:Gr) (b:Int) (i:Int) (oc:Nat→Int):zH (N + 10) (cxS Tf (orc0 N g b) (N + 10) 38 (ntmF Tf 38)) (evX Tf (orc0 N g b) (N + 10) 38 (ntmF Tf 38)) (qY []) (qQ Tf 38 [0,1,0,1,1]) [0,1,0,1,1] (Tf.hint 38 (qJ (qQ Tf 38 [0,1,0,1,1]))) K G (hc0 N g b i oc) =
 (bif (decide (i < ((g.np:Int).toNat:Int))) then (bif (inB i (g.np:Int).toNat) then (G (hc0 N g b (vYX .i64 (i + 1)) (fun v=>(bif (Nat.beq v (i).toNat) then 1152921504606846976 else (oc v)))))
 else none)
 else (K (.exit 0) ⟨[(1,.v (.n .i64 b)),(2,.p 2 0),(5,.o 15)],[(2,.blk [.v (.lf g.np g.pt),.v (.lf g.ne (fE g.ed))]),(15,.reg 2 1 (.fo (g.np:Int).toNat (fun v=>[.n .i64 (oc v)])))]⟩)):=by kernel_rfl
noncomputable def dcc0 (g:Gr):(Int × (Nat→Int))→(Int × (Nat→Int)) ⊕ (Nat × Int × (Nat→Int)):=fun t=>match t with | (i,oc)=>(bif (decide (i < ((g.np:Int).toNat:Int))) then (bif (inB i (g.np:Int).toNat) then (.inl ((vYX .i64 (i + 1)),(fun v=>(bif (Nat.beq v (i).toNat) then 1152921504606846976 else (oc v))))) else (.inr (1,(i,oc)))) else (.inr (0,(i,oc))))
noncomputable def kxc0 (N:Nat) (g:Gr) (b:Int) (K:Cont) (w9:Nat × Int × (Nat→Int)):Option (Ret × Mem):=bif Nat.beq w9.1 0 then (K (.exit 0) ⟨[(1,.v (.n .i64 b)),(2,.p 2 0),(5,.o 15)],[(2,.blk [.v (.lf g.np g.pt),.v (.lf g.ne (fE g.ed))]),(15,.reg 2 1 (.fo (g.np:Int).toNat (fun v=>[.n .i64 (w9.2.2 v)])))]⟩) else none
theorem wlc0 (K:Cont) (N:Nat) (g:Gr) (b:Int):∀ n9 (t:(Int × (Nat→Int))),LFX (N + 10) (cxS Tf (orc0 N g b) (N + 10) 38 (ntmF Tf 38)) (evX Tf (orc0 N g b) (N + 10) 38 (ntmF Tf 38)) (qY []) (qQ Tf 38 [0,1,0,1,1]) [0,1,0,1,1] (Tf.hint 38 (qJ (qQ Tf 38 [0,1,0,1,1]))) K n9 (hc0 N g b t.1 t.2)=(qW (dcc0 g) n9 t).bind (kxc0 N g b K):=fun n9 t=>by
 refine qQG (L:=LFX (N + 10) (cxS Tf (orc0 N g b) (N + 10) 38 (ntmF Tf 38)) (evX Tf (orc0 N g b) (N + 10) 38 (ntmF Tf 38)) (qY []) (qQ Tf 38 [0,1,0,1,1]) [0,1,0,1,1] (Tf.hint 38 (qJ (qQ Tf 38 [0,1,0,1,1]))) K) (stp:=zH (N + 10) (cxS Tf (orc0 N g b) (N + 10) 38 (ntmF Tf 38)) (evX Tf (orc0 N g b) (N + 10) 38 (ntmF Tf 38)) (qY []) (qQ Tf 38 [0,1,0,1,1]) [0,1,0,1,1] (Tf.hint 38 (qJ (qQ Tf 38 [0,1,0,1,1]))) K) (fun _ _=>rfl) (fun _=>rfl) (fun t=>hc0 N g b t.1 t.2) (fun _=>True) (dcc0 g) (kxc0 N g b K) (fun G t _ => ?_) (fun _ _ _ _=>trivial) n9 t trivial;obtain ⟨i,oc⟩:=t;refine (rdc0 G K N g b i oc).trans ?_;dsimp only [dcc0];cases (decide (i < ((g.np:Int).toNat:Int)))
 ·rfl
 ·cases (inB i (g.np:Int).toNat)
  ·rfl
  ·rfl
noncomputable def zXK (N:Nat) (g:Gr) (t:(Int × (Nat→Int))):Bool:=(qW (dcc0 g) (N + 10) t).isSome
noncomputable def qJZ (N:Nat) (g:Gr) (t:(Int × (Nat→Int))):Nat × Int × (Nat→Int):=(qW (dcc0 g) (N + 10) t).getD (99,t)
theorem lwc0 (K:Cont) (N:Nat) (g:Gr) (b:Int) (t:(Int × (Nat→Int))) (hg:zXK N g t=true):LFX (N + 10) (cxS Tf (orc0 N g b) (N + 10) 38 (ntmF Tf 38)) (evX Tf (orc0 N g b) (N + 10) 38 (ntmF Tf 38)) (qY []) (qQ Tf 38 [0,1,0,1,1]) [0,1,0,1,1] (Tf.hint 38 (qJ (qQ Tf 38 [0,1,0,1,1]))) K (N + 10) (hc0 N g b t.1 t.2)=kxc0 N g b K (qJZ N g t):=by
 refine (wlc0 K N g b (N + 10) t).trans ?_;unfold zXK at hg;unfold qJZ;cases h:qW (dcc0 g) (N + 10) t with
 | none=>rw [h] at hg; cases hg
 | some y=>rfl
noncomputable def hc2 (N:Nat) (g:Gr) (b:Int) (i:Int) (ch:Bool) (oc:Nat→Int):St:=⟨[(2,.p 2 0),(5,.o 15),(7,.v (.b (ch))),(31,.v (.n .i64 (g.ne:Int))),(32,.v (.n .i64 i))],[(2,.blk [.v (.lf g.np g.pt),.v (.lf g.ne (fE g.ed))]),(15,.reg 2 1 (.fo (g.np:Int).toNat (fun v=>[.n .i64 (oc v)])))]⟩
set_option maxRecDepth 100000 in
theorem rdc2 (G:St→Option (Ret × Mem)) (K:Cont) (N:Nat) (g:Gr) (b:Int) (i:Int) (ch:Bool) (oc:Nat→Int):zH (N + 10) (cxS Tf (orc0 N g b) (N + 10) 38 (ntmF Tf 38)) (evX Tf (orc0 N g b) (N + 10) 38 (ntmF Tf 38)) (qY []) (qQ Tf 38 [0,1,1,0,1,0,0,1,0,1,1,1,1]) [0,1,1,0,1,0,0,1,0,1,1,1,1] (Tf.hint 38 (qJ (qQ Tf 38 [0,1,1,0,1,0,0,1,0,1,1,1,1]))) K G (hc2 N g b i ch oc) =
 (bif (decide (i < (g.ne:Int))) then (bif (inB i g.ne) then (bif (decide ((g.ed (i).toNat).s=2)) then (G (hc2 N g b (vYX .i64 (i + 1)) ch (fun v=>(oc v))))
 else (bif (inB (g.ed (i).toNat).u (g.np:Int).toNat) then (bif (inB (g.ed (i).toNat).v (g.np:Int).toNat) then (bif (inB (g.ed (i).toNat).v (g.np:Int).toNat) then (bif (inB (g.ed (i).toNat).u (g.np:Int).toNat) then (bif (inB (g.ed (i).toNat).u (g.np:Int).toNat) then (bif (decide ((min (oc (g.ed (i).toNat).u.toNat) (vYX .i64 ((oc (g.ed (i).toNat).v.toNat) + (g.ed (i).toNat).c))) < (oc (g.ed (i).toNat).u.toNat))) then (bif (inB (g.ed (i).toNat).u (g.np:Int).toNat) then (bif (inB (g.ed (i).toNat).v (g.np:Int).toNat) then (G (hc2 N g b (vYX .i64 (i + 1)) true (fun v=>(bif (Nat.beq v (g.ed (i).toNat).v.toNat) then (min (oc (g.ed (i).toNat).v.toNat) (vYX .i64 ((oc (g.ed (i).toNat).u.toNat) + (g.ed (i).toNat).c))) else (bif (Nat.beq v (g.ed (i).toNat).u.toNat) then (min (oc (g.ed (i).toNat).u.toNat) (vYX .i64 ((oc (g.ed (i).toNat).v.toNat) + (g.ed (i).toNat).c))) else (oc v))))))
 else none)
 else none)
 else (bif (inB (g.ed (i).toNat).v (g.np:Int).toNat) then (bif (decide ((min (oc (g.ed (i).toNat).v.toNat) (vYX .i64 ((oc (g.ed (i).toNat).u.toNat) + (g.ed (i).toNat).c))) < (oc (g.ed (i).toNat).v.toNat))) then (bif (inB (g.ed (i).toNat).u (g.np:Int).toNat) then (bif (inB (g.ed (i).toNat).v (g.np:Int).toNat) then (G (hc2 N g b (vYX .i64 (i + 1)) true (fun v=>(bif (Nat.beq v (g.ed (i).toNat).v.toNat) then (min (oc (g.ed (i).toNat).v.toNat) (vYX .i64 ((oc (g.ed (i).toNat).u.toNat) + (g.ed (i).toNat).c))) else (bif (Nat.beq v (g.ed (i).toNat).u.toNat) then (min (oc (g.ed (i).toNat).u.toNat) (vYX .i64 ((oc (g.ed (i).toNat).v.toNat) + (g.ed (i).toNat).c))) else (oc v))))))
 else none)
 else none)
 else (G (hc2 N g b (vYX .i64 (i + 1)) ch (fun v=>(oc v)))))
 else none))
 else none)
 else none)
 else none)
 else none)
 else none))
 else none)
 else (K (.exit 4) ⟨[(2,.p 2 0),(5,.o 15),(7,.v (.b (ch)))],[(2,.blk [.v (.lf g.np g.pt),.v (.lf g.ne (fE g.ed))]),(15,.reg 2 1 (.fo (g.np:Int).toNat (fun v=>[.n .i64 (oc v)])))]⟩)):=by kernel_rfl
noncomputable def dcc2 (g:Gr):(Int × Bool × (Nat→Int))→(Int × Bool × (Nat→Int)) ⊕ (Nat × Int × Bool × (Nat→Int)):=fun t=>match t with | (i,ch,oc)=>(bif (decide (i < (g.ne:Int))) then (bif (inB i g.ne) then (bif (decide ((g.ed (i).toNat).s=2)) then (.inl ((vYX .i64 (i + 1)),ch,(fun v=>(oc v)))) else (bif (inB (g.ed (i).toNat).u (g.np:Int).toNat) then (bif (inB (g.ed (i).toNat).v (g.np:Int).toNat) then (bif (decide ((min (oc (g.ed (i).toNat).u.toNat) (vYX .i64 ((oc (g.ed (i).toNat).v.toNat) + (g.ed (i).toNat).c))) < (oc (g.ed (i).toNat).u.toNat))) then (.inl ((vYX .i64 (i + 1)),true,(fun v=>(bif (Nat.beq v (g.ed (i).toNat).v.toNat) then (min (oc (g.ed (i).toNat).v.toNat) (vYX .i64 ((oc (g.ed (i).toNat).u.toNat) + (g.ed (i).toNat).c))) else (bif (Nat.beq v (g.ed (i).toNat).u.toNat) then (min (oc (g.ed (i).toNat).u.toNat) (vYX .i64 ((oc (g.ed (i).toNat).v.toNat) + (g.ed (i).toNat).c))) else (oc v)))))) else (bif (decide ((min (oc (g.ed (i).toNat).v.toNat) (vYX .i64 ((oc (g.ed (i).toNat).u.toNat) + (g.ed (i).toNat).c))) < (oc (g.ed (i).toNat).v.toNat))) then (.inl ((vYX .i64 (i + 1)),true,(fun v=>(bif (Nat.beq v (g.ed (i).toNat).v.toNat) then (min (oc (g.ed (i).toNat).v.toNat) (vYX .i64 ((oc (g.ed (i).toNat).u.toNat) + (g.ed (i).toNat).c))) else (bif (Nat.beq v (g.ed (i).toNat).u.toNat) then (min (oc (g.ed (i).toNat).u.toNat) (vYX .i64 ((oc (g.ed (i).toNat).v.toNat) + (g.ed (i).toNat).c))) else (oc v)))))) else (.inl ((vYX .i64 (i + 1)),ch,(fun v=>(oc v)))))) else (.inr (1,(i,ch,oc)))) else (.inr (1,(i,ch,oc))))) else (.inr (1,(i,ch,oc)))) else (.inr (0,(i,ch,oc))))
noncomputable def kxc2 (N:Nat) (g:Gr) (b:Int) (K:Cont) (w9:Nat × Int × Bool × (Nat→Int)):Option (Ret × Mem):=bif Nat.beq w9.1 0 then (K (.exit 4) ⟨[(2,.p 2 0),(5,.o 15),(7,.v (.b (w9.2.2.1)))],[(2,.blk [.v (.lf g.np g.pt),.v (.lf g.ne (fE g.ed))]),(15,.reg 2 1 (.fo (g.np:Int).toNat (fun v=>[.n .i64 (w9.2.2.2 v)])))]⟩) else none
theorem wlc2 (K:Cont) (N:Nat) (g:Gr) (b:Int):∀ n9 (t:(Int × Bool × (Nat→Int))),LFX (N + 10) (cxS Tf (orc0 N g b) (N + 10) 38 (ntmF Tf 38)) (evX Tf (orc0 N g b) (N + 10) 38 (ntmF Tf 38)) (qY []) (qQ Tf 38 [0,1,1,0,1,0,0,1,0,1,1,1,1]) [0,1,1,0,1,0,0,1,0,1,1,1,1] (Tf.hint 38 (qJ (qQ Tf 38 [0,1,1,0,1,0,0,1,0,1,1,1,1]))) K n9 (hc2 N g b t.1 t.2.1 t.2.2)=(qW (dcc2 g) n9 t).bind (kxc2 N g b K):=fun n9 t=>by
 refine qQG (L:=LFX (N + 10) (cxS Tf (orc0 N g b) (N + 10) 38 (ntmF Tf 38)) (evX Tf (orc0 N g b) (N + 10) 38 (ntmF Tf 38)) (qY []) (qQ Tf 38 [0,1,1,0,1,0,0,1,0,1,1,1,1]) [0,1,1,0,1,0,0,1,0,1,1,1,1] (Tf.hint 38 (qJ (qQ Tf 38 [0,1,1,0,1,0,0,1,0,1,1,1,1]))) K) (stp:=zH (N + 10) (cxS Tf (orc0 N g b) (N + 10) 38 (ntmF Tf 38)) (evX Tf (orc0 N g b) (N + 10) 38 (ntmF Tf 38)) (qY []) (qQ Tf 38 [0,1,1,0,1,0,0,1,0,1,1,1,1]) [0,1,1,0,1,0,0,1,0,1,1,1,1] (Tf.hint 38 (qJ (qQ Tf 38 [0,1,1,0,1,0,0,1,0,1,1,1,1]))) K) (fun _ _=>rfl) (fun _=>rfl) (fun t=>hc2 N g b t.1 t.2.1 t.2.2) (fun _=>True) (dcc2 g) (kxc2 N g b K) (fun G t _ => ?_) (fun _ _ _ _=>trivial) n9 t trivial;obtain ⟨i,ch,oc⟩:=t;refine (rdc2 G K N g b i ch oc).trans ?_;dsimp only [dcc2];cases (decide (i < (g.ne:Int)))
 ·rfl
 ·cases (inB i g.ne)
  ·rfl
  ·cases (decide ((g.ed (i).toNat).s=2))
   ·cases (inB (g.ed (i).toNat).u (g.np:Int).toNat)
    ·rfl
    ·cases (inB (g.ed (i).toNat).v (g.np:Int).toNat)
     ·rfl
     ·cases (decide ((min (oc (g.ed (i).toNat).u.toNat) (vYX .i64 ((oc (g.ed (i).toNat).v.toNat) + (g.ed (i).toNat).c))) < (oc (g.ed (i).toNat).u.toNat)))
      ·cases (decide ((min (oc (g.ed (i).toNat).v.toNat) (vYX .i64 ((oc (g.ed (i).toNat).u.toNat) + (g.ed (i).toNat).c))) < (oc (g.ed (i).toNat).v.toNat)))
       ·rfl
       ·rfl
      ·rfl
   ·rfl
noncomputable def qJE (N:Nat) (g:Gr) (t:(Int × Bool × (Nat→Int))):Bool:=(qW (dcc2 g) (N + 10) t).isSome
noncomputable def qYW (N:Nat) (g:Gr) (t:(Int × Bool × (Nat→Int))):Nat × Int × Bool × (Nat→Int):=(qW (dcc2 g) (N + 10) t).getD (99,t)
theorem lwc2 (K:Cont) (N:Nat) (g:Gr) (b:Int) (t:(Int × Bool × (Nat→Int))) (hg:qJE N g t=true):LFX (N + 10) (cxS Tf (orc0 N g b) (N + 10) 38 (ntmF Tf 38)) (evX Tf (orc0 N g b) (N + 10) 38 (ntmF Tf 38)) (qY []) (qQ Tf 38 [0,1,1,0,1,0,0,1,0,1,1,1,1]) [0,1,1,0,1,0,0,1,0,1,1,1,1] (Tf.hint 38 (qJ (qQ Tf 38 [0,1,1,0,1,0,0,1,0,1,1,1,1]))) K (N + 10) (hc2 N g b t.1 t.2.1 t.2.2)=kxc2 N g b K (qYW N g t):=by
 refine (wlc2 K N g b (N + 10) t).trans ?_;unfold qJE at hg;unfold qYW;cases h:qW (dcc2 g) (N + 10) t with
 | none=>rw [h] at hg; cases hg
 | some y=>rfl
theorem okc2 (N:Nat) (g:Gr) (b:Int):∀ p S,qY [([0,1,1,0,1,0,0,1,0,1,1,1,1],sumF (fun t:(Int × Bool × (Nat→Int))=>(hc2 N g b t.1 t.2.1 t.2.2)) (fun σ=>(slI σ 32,slB σ 7,rgI σ 15 0)) (fun t K=>(bif qJE N g t then kxc2 N g b K (qYW N g t) else none)))] p=some S→kK (N + 10) (cxS Tf (orc0 N g b) (N + 10) 38 (ntmF Tf 38)) (qQ Tf 38 p) S:=fun p S hp=>by
 refine qX (L:=qQ Tf 38) (l:=[([0,1,1,0,1,0,0,1,0,1,1,1,1],sumF (fun t:(Int × Bool × (Nat→Int))=>(hc2 N g b t.1 t.2.1 t.2.2)) (fun σ=>(slI σ 32,slB σ 7,rgI σ 15 0)) (fun t K=>(bif qJE N g t then kxc2 N g b K (qYW N g t) else none)))]) ⟨?_,trivial⟩ p S hp;dsimp only;refine yY (T:=Tf) (o:=(orc0 N g b)) (f:=38) (LO:=qY []) (p:=[0,1,1,0,1,0,0,1,0,1,1,1,1]) yG ?_;intro t K r hr;obtain ⟨hg,hr⟩:=qZ hr
 skip
 exact (lwc2 K N g b t hg).trans hr
noncomputable def hc1 (N:Nat) (g:Gr) (b:Int) (ch:Bool) (oc:Nat→Int):St:=⟨[(2,.p 2 0),(5,.o 15),(7,.v (.b (ch)))],[(2,.blk [.v (.lf g.np g.pt),.v (.lf g.ne (fE g.ed))]),(15,.reg 2 1 (.fo (g.np:Int).toNat (fun v=>[.n .i64 (oc v)])))]⟩
set_option maxRecDepth 100000 in
theorem rdc1 (G:St→Option (Ret × Mem)) (K:Cont) (N:Nat) (g:Gr) (b:Int) (ch:Bool) (oc:Nat→Int):zH (N + 10) (cxS Tf (orc0 N g b) (N + 10) 38 (ntmF Tf 38)) (evX Tf (orc0 N g b) (N + 10) 38 (ntmF Tf 38)) (qY [([0,1,1,0,1,0,0,1,0,1,1,1,1],sumF (fun t:(Int × Bool × (Nat→Int))=>(hc2 N g b t.1 t.2.1 t.2.2)) (fun σ=>(slI σ 32,slB σ 7,rgI σ 15 0)) (fun t K=>(bif qJE N g t then kxc2 N g b K (qYW N g t) else none)))]) (qQ Tf 38 [0,1,0,1,1,1,1]) [0,1,0,1,1,1,1] (Tf.hint 38 (qJ (qQ Tf 38 [0,1,0,1,1,1,1]))) K G (hc1 N g b ch oc) =
 (bif ch then (bif (gSt (hc2 N g b 0 false (fun v=>(oc v))) (hc2 N g b 0 false (fun v=>(oc v)))) then (bif (qJE N g (0,false,(fun v=>(oc v)))) then (bif (Nat.beq (qYW N g (0,false,(fun v=>(oc v)))).1 0) then (G (hc1 N g b (qYW N g (0,false,(fun v=>(oc v)))).2.2.1 (fun v=>((qYW N g (0,false,(fun v=>(oc v)))).2.2.2 v))))
 else none)
 else none)
 else none)
 else (K (.exit 2) ⟨[(5,.o 15)],[(15,.reg 2 1 (.fo (g.np:Int).toNat (fun v=>[.n .i64 (oc v)])))]⟩)):=by kernel_rfl
noncomputable def dcc1 (N:Nat) (g:Gr) (b:Int):(Bool × (Nat→Int))→(Bool × (Nat→Int)) ⊕ (Nat × Bool × (Nat→Int)):=fun t=>match t with | (ch,oc)=>(bif ch then (bif (gSt (hc2 N g b 0 false (fun v=>(oc v))) (hc2 N g b 0 false (fun v=>(oc v)))) then (bif (qJE N g (0,false,(fun v=>(oc v)))) then (bif (Nat.beq (qYW N g (0,false,(fun v=>(oc v)))).1 0) then (.inl ((qYW N g (0,false,(fun v=>(oc v)))).2.2.1,(fun v=>((qYW N g (0,false,(fun v=>(oc v)))).2.2.2 v)))) else (.inr (1,(ch,oc)))) else (.inr (1,(ch,oc)))) else (.inr (1,(ch,oc)))) else (.inr (0,(ch,oc))))
noncomputable def kxc1 (N:Nat) (g:Gr) (b:Int) (K:Cont) (w9:Nat × Bool × (Nat→Int)):Option (Ret × Mem):=bif Nat.beq w9.1 0 then (K (.exit 2) ⟨[(5,.o 15)],[(15,.reg 2 1 (.fo (g.np:Int).toNat (fun v=>[.n .i64 (w9.2.2 v)])))]⟩) else none
theorem wlc1 (K:Cont) (N:Nat) (g:Gr) (b:Int):∀ n9 (t:(Bool × (Nat→Int))),LFX (N + 10) (cxS Tf (orc0 N g b) (N + 10) 38 (ntmF Tf 38)) (evX Tf (orc0 N g b) (N + 10) 38 (ntmF Tf 38)) (qY [([0,1,1,0,1,0,0,1,0,1,1,1,1],sumF (fun t:(Int × Bool × (Nat→Int))=>(hc2 N g b t.1 t.2.1 t.2.2)) (fun σ=>(slI σ 32,slB σ 7,rgI σ 15 0)) (fun t K=>(bif qJE N g t then kxc2 N g b K (qYW N g t) else none)))]) (qQ Tf 38 [0,1,0,1,1,1,1]) [0,1,0,1,1,1,1] (Tf.hint 38 (qJ (qQ Tf 38 [0,1,0,1,1,1,1]))) K n9 (hc1 N g b t.1 t.2)=(qW (dcc1 N g b) n9 t).bind (kxc1 N g b K):=fun n9 t=>by
 refine qQG (L:=LFX (N + 10) (cxS Tf (orc0 N g b) (N + 10) 38 (ntmF Tf 38)) (evX Tf (orc0 N g b) (N + 10) 38 (ntmF Tf 38)) (qY [([0,1,1,0,1,0,0,1,0,1,1,1,1],sumF (fun t:(Int × Bool × (Nat→Int))=>(hc2 N g b t.1 t.2.1 t.2.2)) (fun σ=>(slI σ 32,slB σ 7,rgI σ 15 0)) (fun t K=>(bif qJE N g t then kxc2 N g b K (qYW N g t) else none)))]) (qQ Tf 38 [0,1,0,1,1,1,1]) [0,1,0,1,1,1,1] (Tf.hint 38 (qJ (qQ Tf 38 [0,1,0,1,1,1,1]))) K) (stp:=zH (N + 10) (cxS Tf (orc0 N g b) (N + 10) 38 (ntmF Tf 38)) (evX Tf (orc0 N g b) (N + 10) 38 (ntmF Tf 38)) (qY [([0,1,1,0,1,0,0,1,0,1,1,1,1],sumF (fun t:(Int × Bool × (Nat→Int))=>(hc2 N g b t.1 t.2.1 t.2.2)) (fun σ=>(slI σ 32,slB σ 7,rgI σ 15 0)) (fun t K=>(bif qJE N g t then kxc2 N g b K (qYW N g t) else none)))]) (qQ Tf 38 [0,1,0,1,1,1,1]) [0,1,0,1,1,1,1] (Tf.hint 38 (qJ (qQ Tf 38 [0,1,0,1,1,1,1]))) K) (fun _ _=>rfl) (fun _=>rfl) (fun t=>hc1 N g b t.1 t.2) (fun _=>True) (dcc1 N g b) (kxc1 N g b K) (fun G t _ => ?_) (fun _ _ _ _=>trivial) n9 t trivial;obtain ⟨ch,oc⟩:=t;refine (rdc1 G K N g b ch oc).trans ?_;dsimp only [dcc1];cases ch
 ·rfl
 ·cases (gSt (hc2 N g b 0 false (fun v=>(oc v))) (hc2 N g b 0 false (fun v=>(oc v))))
  ·rfl
  ·cases (qJE N g (0,false,(fun v=>(oc v))))
   ·rfl
   ·cases (Nat.beq (qYW N g (0,false,(fun v=>(oc v)))).1 0)
    ·rfl
    ·rfl
noncomputable def zXJ (N:Nat) (g:Gr) (b:Int) (t:(Bool × (Nat→Int))):Bool:=(qW (dcc1 N g b) (N + 10) t).isSome
noncomputable def zQC (N:Nat) (g:Gr) (b:Int) (t:(Bool × (Nat→Int))):Nat × Bool × (Nat→Int):=(qW (dcc1 N g b) (N + 10) t).getD (99,t)
theorem lwc1 (K:Cont) (N:Nat) (g:Gr) (b:Int) (t:(Bool × (Nat→Int))) (hg:zXJ N g b t=true):LFX (N + 10) (cxS Tf (orc0 N g b) (N + 10) 38 (ntmF Tf 38)) (evX Tf (orc0 N g b) (N + 10) 38 (ntmF Tf 38)) (qY [([0,1,1,0,1,0,0,1,0,1,1,1,1],sumF (fun t:(Int × Bool × (Nat→Int))=>(hc2 N g b t.1 t.2.1 t.2.2)) (fun σ=>(slI σ 32,slB σ 7,rgI σ 15 0)) (fun t K=>(bif qJE N g t then kxc2 N g b K (qYW N g t) else none)))]) (qQ Tf 38 [0,1,0,1,1,1,1]) [0,1,0,1,1,1,1] (Tf.hint 38 (qJ (qQ Tf 38 [0,1,0,1,1,1,1]))) K (N + 10) (hc1 N g b t.1 t.2)=kxc1 N g b K (zQC N g b t):=by
 refine (wlc1 K N g b (N + 10) t).trans ?_;unfold zXJ at hg;unfold zQC;cases h:qW (dcc1 N g b) (N + 10) t with
 | none=>rw [h] at hg; cases hg
 | some y=>rfl
end Go.Proofs.Ytglkkhpdbfacfaa.Bu
namespace Go.Proofs.Ytglkkhpdbfacfaa.Bv
open Go.Rx Rt Go.Sx Go.RowKit Ba Bb Bc Bd Be Bf Bi Bj Bk Bm Bn Bo Bp Bq Br Bs Bu
abbrev Cst:=Bool × (Nat→Int)
def nxC (g:Gr) (i:Nat) (s:Cst):Cst:=bif decide ((g.ed i).s=2) then s else
 bif decide (min (s.2 (g.ed i).u.toNat) (s.2 (g.ed i).v.toNat + (g.ed i).c) < s.2 (g.ed i).u.toNat) || decide (min (s.2 (g.ed i).v.toNat) (s.2 (g.ed i).u.toNat + (g.ed i).c) < s.2 (g.ed i).v.toNat) then
  (true,setF (setF s.2 (g.ed i).u.toNat (min (s.2 (g.ed i).u.toNat) (s.2 (g.ed i).v.toNat + (g.ed i).c))) (g.ed i).v.toNat (min (s.2 (g.ed i).v.toNat) (s.2 (g.ed i).u.toNat + (g.ed i).c))) else s
def CsS (np:Nat) (oc:Nat→Int):Prop:=∀ v,v < np→0≤oc v∧oc v≤1152921504606846976
theorem yJL {g:Gr} (h:wfB g=true) {i:Nat} (hi:i < g.ne) (_:g.ne≤8192) {s:Cst} (hs:CsS g.np s.2):dcc2 g ((i:Int),s)=.inl (((i + 1:Nat):Int),nxC g i s):=by
 obtain ⟨e1,e2,e3,e4,e5⟩:=qQF h hi;obtain ⟨ch,oc⟩:=s;have hU:inB (g.ed i).u g.np=true:=qZW (y:=(g.ed i).u.toNat) (by omega) (by omega);have hV:inB (g.ed i).v g.np=true:=qZW (y:=(g.ed i).v.toNat) (by omega) (by omega);have u1:=hs (g.ed i).u.toNat (by omega);have v1:=hs (g.ed i).v.toNat (by omega);dsimp only at u1 v1;have w1:vYX .i64 (oc (g.ed i).u.toNat + (g.ed i).c)=oc (g.ed i).u.toNat + (g.ed i).c:=jJ (by omega);have w3:vYX .i64 (oc (g.ed i).v.toNat + (g.ed i).c)=oc (g.ed i).v.toNat + (g.ed i).c:=jJ (by omega);dsimp only [dcc2];unfold nxC;simp only [toN,vYJ (show (i:Int) < (g.ne:Int) by omega),zU hi,uJ (show i < 1000000 by omega),hU,hV,w1,w3,vYQ];cases decide ((g.ed i).s=2)
 ·simp only [vYZ];cases decide (min (oc (g.ed i).u.toNat) (oc (g.ed i).v.toNat + (g.ed i).c) < oc (g.ed i).u.toNat)
  ·simp only [vYZ,Bool.false_or];cases decide (min (oc (g.ed i).v.toNat) (oc (g.ed i).u.toNat + (g.ed i).c) < oc (g.ed i).v.toNat) <;> rfl
  ·rfl
 ·rfl
theorem yVH {g:Gr} {s:Cst}:dcc2 g ((g.ne:Int),s)=.inr (0,(g.ne:Int),s):=by
 obtain ⟨ch,oc⟩:=s;dsimp only [dcc2];rw [vYY (by omega)]; rfl
section
variable {g:Gr} {b:Nat}
structure CsW (g:Gr) (b:Nat) (oc:Nat→Int):Prop where
 wk:∀ v,v < g.np→oc v=1152921504606846976 ∨ ∃ p,WkG g 2 b v (oc v) p
 src:oc b=0
 sm:CsS g.np oc
structure CI (g:Gr) (b i:Nat) (c0:Nat→Int) (s:Cst):Prop where
 w:CsW g b s.2
 le:∀ v,v < g.np→s.2 v≤c0 v
 ed:∀ x y c,Jn g 2 i x ((y:Nat):Int) c→s.2 y≤c0 x + c
 ch:s.1=false→s=(false,c0)
theorem CI.next (hw:wfB g=true) (_:g.np≤100) (_:g.ne≤500) {i:Nat} {c0:Nat→Int} {s:Cst} (hi:i < g.ne) (h:CI g b i c0 s):CI g b (i + 1) c0 (nxC g i s):=by
 obtain ⟨e1,e2,e3,e4,e5⟩:=qQF hw hi;have hU:(g.ed i).u.toNat < g.np:=by omega
 have hV:(g.ed i).v.toNat < g.np:=by omega
 have hne:(g.ed i).u.toNat ≠ (g.ed i).v.toNat:=by omega
 unfold nxC;cases hu:decide ((g.ed i).s=2) with
 | true =>
  simp only [vYQ];refine ⟨h.w,h.le,fun x y c ⟨e,q1,q2,q3⟩=>h.ed x y c ⟨e,?_,q2,q3⟩,h.ch⟩;by_cases ei:e=i
  ·subst ei
   have:=vYK hu
   rw [this] at q2;cases q2
  ·omega
 | false =>
  have hus:usB (g.ed i).s 2=true:=by unfold usB; rw [hu]; rfl
  have j1:Jn g 2 g.ne (g.ed i).u.toNat ((g.ed i).v.toNat:Int) (g.ed i).c:=⟨i,hi,hus,rfl,.inl ⟨rfl,by omega⟩⟩
  have j2:Jn g 2 g.ne (g.ed i).v.toNat ((g.ed i).u.toNat:Int) (g.ed i).c:=⟨i,hi,hus,rfl,.inr ⟨rfl,by omega⟩⟩
  have hle1:=h.le _ hU;have hle2:=h.le _ hV;have hs1:=h.w.sm _ hU;have hs2:=h.w.sm _ hV;simp only [vYZ];have edge:∀ (x y:Nat) (c:Int) (f:Nat→Int),(∀ v,v < g.np→f v≤s.2 v)→f (g.ed i).v.toNat≤s.2 (g.ed i).u.toNat + (g.ed i).c→f (g.ed i).u.toNat≤s.2 (g.ed i).v.toNat + (g.ed i).c→Jn g 2 (i + 1) x ((y:Nat):Int) c→f y≤c0 x + c:=fun x y c f hf h1 h2 ⟨e,q1,q2,q3,q4⟩=>by
   by_cases ei:e=i
   ·subst ei;rcases q4 with ⟨r1,r2⟩ | ⟨r1,r2⟩
    ·obtain rfl:y=(g.ed e).v.toNat:=by omega
     subst r1; omega
    ·obtain rfl:y=(g.ed e).u.toNat:=by omega
     subst r1; omega
   ·have he:=qQF hw (show e < g.ne by omega)
    have:=h.ed x y c ⟨e,by omega,q2,q3,q4⟩
    have:=hf y (by rcases q4 with q4 | q4 <;> omega)
    omega
  cases hc:decide (min (s.2 (g.ed i).u.toNat) (s.2 (g.ed i).v.toNat + (g.ed i).c) < s.2 (g.ed i).u.toNat) || decide (min (s.2 (g.ed i).v.toNat) (s.2 (g.ed i).u.toNat + (g.ed i).c) < s.2 (g.ed i).v.toNat) with
  | false =>
   simp only [Bool.or_eq_false_iff,decide_eq_false_iff_not] at hc;simp only [vYZ];exact ⟨h.w,h.le,fun x y c hj=>edge x y c s.2 (fun _ _=>Int.le_refl _) (by omega) (by omega) hj,h.ch⟩
  | true =>
   simp only [vYQ];have eU:setF (setF s.2 (g.ed i).u.toNat (min (s.2 (g.ed i).u.toNat) (s.2 (g.ed i).v.toNat + (g.ed i).c))) (g.ed i).v.toNat (min (s.2 (g.ed i).v.toNat) (s.2 (g.ed i).u.toNat + (g.ed i).c)) (g.ed i).u.toNat=min (s.2 (g.ed i).u.toNat) (s.2 (g.ed i).v.toNat + (g.ed i).c):=by rw [zG hne,jY]
   have eV:setF (setF s.2 (g.ed i).u.toNat (min (s.2 (g.ed i).u.toNat) (s.2 (g.ed i).v.toNat + (g.ed i).c))) (g.ed i).v.toNat (min (s.2 (g.ed i).v.toNat) (s.2 (g.ed i).u.toNat + (g.ed i).c)) (g.ed i).v.toNat=min (s.2 (g.ed i).v.toNat) (s.2 (g.ed i).u.toNat + (g.ed i).c):=by rw [jY]
   have eN:∀ v,v ≠ (g.ed i).u.toNat→v ≠ (g.ed i).v.toNat→setF (setF s.2 (g.ed i).u.toNat (min (s.2 (g.ed i).u.toNat) (s.2 (g.ed i).v.toNat + (g.ed i).c))) (g.ed i).v.toNat (min (s.2 (g.ed i).v.toNat) (s.2 (g.ed i).u.toNat + (g.ed i).c)) v=s.2 v:=fun v h1 h2=>by rw [zG h2,zG h1]
   generalize setF (setF s.2 (g.ed i).u.toNat (min (s.2 (g.ed i).u.toNat) (s.2 (g.ed i).v.toNat + (g.ed i).c))) (g.ed i).v.toNat (min (s.2 (g.ed i).v.toNat) (s.2 (g.ed i).u.toNat + (g.ed i).c))=f at eU eV eN;have hf:∀ v,v < g.np→f v≤s.2 v:=fun v hv=>by
    by_cases h1:v=(g.ed i).u.toNat
    ·rw [h1,eU]; omega
    ·by_cases h2:v=(g.ed i).v.toNat
     ·rw [h2,eV]; omega
     ·rw [eN v h1 h2]; exact Int.le_refl _
   refine ⟨⟨fun v hv => ?_,?_,fun v hv => ?_⟩,fun v hv=>by have:=hf v hv; have:=h.le v hv; dsimp only; omega,fun x y c hj=>edge x y c f hf (by omega) (by omega) hj,fun hf=>by cases hf⟩
   ·dsimp only;by_cases h1:v=(g.ed i).u.toNat
    ·subst h1;rw [eU];rcases Int.le_total (s.2 (g.ed i).u.toNat) (s.2 (g.ed i).v.toNat + (g.ed i).c) with hm | hm
     ·rw [Int.min_eq_left hm]; exact h.w.wk _ hU
     ·rw [Int.min_eq_right hm];rcases h.w.wk _ hV with q | ⟨p,q⟩
      ·exact .inl (by omega)
      ·exact .inr ⟨_,q.edge hV j2⟩
    ·by_cases h2:v=(g.ed i).v.toNat
     ·subst h2;rw [eV];rcases Int.le_total (s.2 (g.ed i).v.toNat) (s.2 (g.ed i).u.toNat + (g.ed i).c) with hm | hm
      ·rw [Int.min_eq_left hm]; exact h.w.wk _ hV
      ·rw [Int.min_eq_right hm];rcases h.w.wk _ hU with q | ⟨p,q⟩
       ·exact .inl (by omega)
       ·exact .inr ⟨_,q.edge hU j1⟩
     ·rw [eN v h1 h2]; exact h.w.wk v hv
   ·dsimp only;have hb:=h.w.src;by_cases h1:b=(g.ed i).u.toNat
    ·rw [h1,eU]; rw [h1] at hb; omega
    ·by_cases h2:b=(g.ed i).v.toNat
     ·rw [h2,eV]; rw [h2] at hb; omega
     ·rw [eN b h1 h2]; exact hb
   ·dsimp only
    have:=h.w.sm v hv
    by_cases h1:v=(g.ed i).u.toNat
    ·rw [h1,eU]; omega
    ·by_cases h2:v=(g.ed i).v.toNat
     ·rw [h2,eV]; omega
     ·rw [eN v h1 h2]; exact this
end
end Go.Proofs.Ytglkkhpdbfacfaa.Bv
namespace Go.Proofs.Ytglkkhpdbfacfaa.Bw
open Go.Rx Rt Go.Sx Go.RowKit Ba Bb Bc Bd Be Bf Bi Bj Bk Bm Bn Bo Bp Bq Br Bs Bu Bv
section
variable {g:Gr} {b:Nat}
def KCs (g:Gr) (b:Nat) (oc:Nat→Int) (k:Int):Prop:=∀ v c p,WkG g 2 b v c p→p≤k + 1→oc v≤c
def BCs (g:Gr) (b:Nat) (oc:Nat→Int):Prop:=∀ v c p,WkG g 2 b v c p→oc v≤c
theorem KCs.best (hw:wfB g=true) (hp:g.np≤100) (hn:g.ne≤500) (hb:b < g.np) {oc:Nat→Int} {k:Int} (_:100≤k) (h:KCs g b oc k):BCs g b oc:=fun v c p hv=>by
 have hl:=(qUQ (m:=2) hw hp hn).1;have hvn:=Wk.ltn hl hb hv;rcases jYA (m:=2) hw hp hn hvn hb with h1 | ⟨c0,p0,h1,h2,h3⟩
 ·exact absurd hv (h1 c p)
 ·have:=h v c0 p0 h1 (by omega)
  have h4:=h3 c p hv;unfold leR at h4; omega
theorem CI.step (_:wfB g=true) (_:g.np≤100) (_:g.ne≤500) {c0:Nat→Int} {s:Cst} {k:Int} (h:CI g b g.ne c0 s) (hk:KCs g b c0 k):KCs g b s.2 (k + 1):=fun v c p hv hpk=>by
 cases hv with
 | nil=>rw [h.w.src]; exact Int.le_refl _
 | @cons x y w c p hv hx hwl hy =>
  have h1:=hk x c p hv (by omega);have h2:=h.ed x v _ (yWB hwl hy);omega
theorem CI.stable {c0:Nat→Int} (h:CI g b g.ne c0 (false,c0)):BCs g b c0:=fun v c p hv=>by
 induction hv with
 | nil=>rw [show c0 b=0 from h.w.src]; exact Int.le_refl _
 | @cons x y w c p hv hx hwl hy ih =>
  have h2:c0 y≤c0 x + _:=h.ed x y _ (yWB hwl hy);omega
theorem yXB (hw:wfB g=true) {oc:Nat→Int} (h:CsW g b oc) (hb:BCs g b oc) {i:Nat} (hi:i < g.ne):nxC g i (false,oc)=(false,oc):=by
 obtain ⟨e1,e2,e3,e4,e5⟩:=qQF hw hi;have hU:(g.ed i).u.toNat < g.np:=by omega
 have hV:(g.ed i).v.toNat < g.np:=by omega
 unfold nxC;cases hu:decide ((g.ed i).s=2) with
 | true=>rfl
 | false =>
  have hus:usB (g.ed i).s 2=true:=by unfold usB; rw [hu]; rfl
  have s1:=h.sm _ hU;have s2:=h.sm _ hV;have q1:oc (g.ed i).v.toNat≤oc (g.ed i).u.toNat + (g.ed i).c:=by
   rcases h.wk _ hU with q | ⟨p,q⟩
   ·omega
   ·exact hb _ _ _ (q.edge hU ⟨i,hi,hus,rfl,.inl ⟨rfl,by omega⟩⟩)
  have q2:oc (g.ed i).u.toNat≤oc (g.ed i).v.toNat + (g.ed i).c:=by
   rcases h.wk _ hV with q | ⟨p,q⟩
   ·omega
   ·exact hb _ _ _ (q.edge hV ⟨i,hi,hus,rfl,.inr ⟨rfl,by omega⟩⟩)
  simp only [vYZ];rw [vYY (show ¬ min (oc (g.ed i).u.toNat) (oc (g.ed i).v.toNat + (g.ed i).c) < oc (g.ed i).u.toNat by omega),vYY (show ¬ min (oc (g.ed i).v.toNat) (oc (g.ed i).u.toNat + (g.ed i).c) < oc (g.ed i).v.toNat by omega)];rfl
theorem jHC (hw:wfB g=true) (hp:g.np≤100) (hn:g.ne≤500) {c0:Nat→Int} (h:CsW g b c0) {N:Nat} (hN:g.ne < N) :
  qW (dcc2 g) N (0,false,c0)=some (0,(g.ne:Int),qJF (nxC g) g.ne 0 (false,c0))∧CI g b g.ne c0 (qJF (nxC g) g.ne 0 (false,c0)):=by
 have hR:CI g b 0 c0 (false,c0):=⟨h,fun v _=>Int.le_refl _,fun x y c ⟨e,h,_⟩=>absurd h (Nat.not_lt_zero e),fun _=>rfl⟩
 refine ⟨kV (dec:=dcc2 g) (nx:=nxC g) (Q:=fun (i:Nat) (s:Cst)=>CI g b i c0 s) (out:=fun s=>((g.ne:Int),s)) (c:=g.ne) (fun i s hi hq=>yJL hw hi (by omega) hq.w.sm) (fun i s hi hq=>hq.next hw hp hn hi) (fun s _=>yVH) g.ne 0 N _ (by omega) hN hR,?_⟩;exact uX (Q:=fun (i:Nat) (s:Cst)=>CI g b i c0 s) (c:=g.ne) (nx:=nxC g) (fun i s hi hq=>hq.next hw hp hn hi) g.ne 0 _ (by omega) hR
theorem jYV {N:Nat} {B:Int} {oc:Nat→Int} {j:Int} {s:Cst} (h:qW (dcc2 g) (N + 10) (0,false,oc)=some (0,j,s)):dcc1 N g B (true,oc)=.inl s:=by
 have ho:qYW N g (0,false,(fun v=>(oc v)))=(0,j,s):=by
  unfold qYW;show (qW (dcc2 g) (N + 10) (0,false,oc)).getD _=_;rw [h]; rfl
 have hk:qJE N g (0,false,(fun v=>(oc v)))=true:=by
  unfold qJE;show (qW (dcc2 g) (N + 10) (0,false,oc)).isSome=_;rw [h]; rfl
 dsimp only [dcc1];rw [yQ,ho,hk]; rfl
theorem yVA {N:Nat} {B:Int} {oc:Nat→Int}:dcc1 N g B (false,oc)=.inr (0,false,oc):=rfl
theorem jXH (hw:wfB g=true) (hp:g.np≤100) (hn:g.ne≤500) (hb:b < g.np) {N:Nat} (hN:g.ne < N + 10) (B:Int):∀ (j k M:Nat) (oc:Nat→Int),j + k=101→j + 2 < M→CsW g b oc→KCs g b oc (k:Int) →
  ∃ oc',qW (dcc1 N g B) M (true,oc)=some (0,false,oc')∧CsW g b oc'∧BCs g b oc'
 | j,k,0,oc,hj,hM,h,hk=>by omega
 | j,k,M + 1,oc,hj,hM,h,hk=>by
  obtain ⟨h1,h2⟩:=jHC hw hp hn h hN;rw [qW,jYV h1];cases hs1:(qJF (nxC g) g.ne 0 (false,oc)).1 with
  | false =>
   have e:=h2.ch hs1;rw [e] at h2 ⊢;obtain ⟨M,rfl⟩:∃ K,M=K + 1:=⟨M - 1,by omega⟩
   exact ⟨oc,by simp only [qW,yVA],h,CI.stable h2⟩
  | true =>
   by_cases h101:100≤k
   ·exfalso;have hbst:=KCs.best hw hp hn hb (show (100:Int)≤(k:Int) by omega) hk
    have:qJF (nxC g) g.ne 0 (false,oc)=(false,oc):=uX (Q:=fun (_:Nat) (s:Cst)=>s=(false,oc)) (c:=g.ne) (nx:=nxC g) (fun i s hi hq=>by rw [hq]; exact yXB hw h hbst hi) g.ne 0 _ (by omega) rfl
    rw [this] at hs1; cases hs1
   ·generalize qJF (nxC g) g.ne 0 (false,oc)=s at *;obtain ⟨ag,oc'⟩:=s;dsimp only at hs1;subst hs1;exact jXH hw hp hn hb hN B (j - 1) (k + 1) M oc' (by omega) (by omega) h2.w (by
     have:=CI.step hw hp hn h2 hk
     rw [show ((k + 1:Nat):Int)=(k:Int) + 1 by omega];exact this)
end
end Go.Proofs.Ytglkkhpdbfacfaa.Bw
namespace Go.Proofs.Ytglkkhpdbfacfaa.Bx
open Go.Rx Rt Go.Sx Go.RowKit Ba Bb Bc Bd Be Bf Bi Bj Bk Bh Bm Bn Bo Bp Bq Br Bs Bt Bu Bv Bw
theorem yKQ {g:Gr} (_:g.np≤100) {i:Nat} (hi:i < g.np) {s:Nat→Int}:dcc0 g ((i:Int),s)=.inl (((i + 1:Nat):Int),setF s i 1152921504606846976):=by
 dsimp only [dcc0];simp only [toN,vYJ (show (i:Int) < (g.np:Int) by omega),zU hi,uJ (show i < 1000000 by omega),vYQ];rfl
theorem yVB {g:Gr} {s:Nat→Int}:dcc0 g ((g.np:Int),s)=.inr (0,(g.np:Int),s):=by
 dsimp only [dcc0];rw [toN,vYY (by omega)]; rfl
theorem jHD {g:Gr} (hp:g.np≤100) {N:Nat} (hN:g.np < N):∃ oc:Nat→Int,qW (dcc0 g) N (0,zN)=some (0,(g.np:Int),oc)∧∀ v,v < g.np→oc v=1152921504606846976:=by
 have h1:=kV (dec:=dcc0 g) (nx:=fun (i:Nat) (s:Nat→Int)=>setF s i 1152921504606846976) (Q:=fun _ _=>True) (out:=fun s=>((g.np:Int),s)) (c:=g.np) (fun i s hi _=>yKQ hp hi) (fun _ _ _ _=>trivial) (fun s _=>yVB) g.np 0 N zN (by omega) hN trivial;have h2:=uX (Q:=fun (i:Nat) (s:Nat→Int)=>∀ v,v < i→s v=1152921504606846976) (c:=g.np) (nx:=fun (i:Nat) (s:Nat→Int)=>setF s i 1152921504606846976) (fun i s hi hq v hv=>by
  by_cases e:v=i
  ·subst e; exact jY _ _ _
  ·rw [zG e]; exact hq v (by omega)) g.np 0 zN (by omega) (fun v hv=>absurd hv (Nat.not_lt_zero v))
 exact ⟨_,h1,h2⟩
noncomputable def csT (g:Gr) (b:Int):Nat→Int:=(zQC NN g b (true,(fun v=>(bif (Nat.beq v (b).toNat) then 0 else ((qJZ NN g (0,zN)).2.2 v))))).2.2
theorem yKK {g:Gr} {b:Nat} (hw:wfB g=true) (hp:g.np≤100) (hn:g.ne≤500) (hb:b < g.np):zXK NN g (0,zN)=true∧(qJZ NN g (0,zN)).1=0∧zXJ NN g (b:Int) (true,(fun v=>(bif (Nat.beq v (b:Int).toNat) then 0 else ((qJZ NN g (0,zN)).2.2 v))))=true∧(zQC NN g (b:Int) (true,(fun v=>(bif (Nat.beq v (b:Int).toNat) then 0 else ((qJZ NN g (0,zN)).2.2 v))))).1=0∧CsW g b (csT g b)∧BCs g b (csT g b):=by
 have hl:=(qUQ (m:=2) hw hp hn).1;obtain ⟨oc,h1,h2⟩:=jHD hp (show g.np < NN + 10 by rw [qUH]; omega);have o0:qJZ NN g (0,zN)=(0,(g.np:Int),oc):=by unfold qJZ; rw [h1]; rfl
 have k0:zXK NN g (0,zN)=true:=by unfold zXK; rw [h1]; rfl
 have z:∀ (f:Nat→Int) (v:Nat),(bif Nat.beq v (b:Int).toNat then (0:Int) else f v)=if v=b then 0 else f v:=fun f v=>by
  rw [toN,qQZ];by_cases e:v=b
  ·rw [vYJ e,if_pos e]; rfl
  ·rw [vYY e,if_neg e]; rfl
 have hW:CsW g b (fun v=>(bif (Nat.beq v (b:Int).toNat) then 0 else (oc v))):=by
  refine ⟨fun v hv => ?_,?_,fun v hv => ?_⟩
  ·simp only [z];by_cases e:v=b
   ·subst e; rw [if_pos rfl]; exact .inr ⟨1,.nil⟩
   ·rw [if_neg e]; exact .inl (h2 v hv)
  ·simp only [z,if_true]
  ·simp only [z];by_cases e:v=b
   ·rw [if_pos e]; omega
   ·rw [if_neg e,h2 v hv]; omega
 have hK:KCs g b (fun v=>(bif (Nat.beq v (b:Int).toNat) then 0 else (oc v))) ((0:Nat):Int):=fun v c p hv hpk=>by
  have hbd:=hv.bd hl;obtain ⟨rfl,rfl⟩:=hv.one hl (by omega);simp only [z,if_true];omega
 obtain ⟨oc',q1,q2,q3⟩:=jXH hw hp hn hb (N:=NN) (show g.ne < NN + 10 by rw [qUH]; omega) (b:Int) 101 0 (NN + 10) _ (by omega) (by rw [qUH]; omega) hW hK;have o1:zQC NN g (b:Int) (true,(fun v=>(bif (Nat.beq v (b:Int).toNat) then 0 else ((qJZ NN g (0,zN)).2.2 v))))=(0,false,oc'):=by rw [o0]; unfold zQC; rw [q1]; rfl
 have k1:zXJ NN g (b:Int) (true,(fun v=>(bif (Nat.beq v (b:Int).toNat) then 0 else ((qJZ NN g (0,zN)).2.2 v))))=true:=by rw [o0]; unfold zXJ; rw [q1]; rfl
 have hT:csT g b=oc':=by unfold csT; rw [o1]
 rw [hT];exact ⟨k0,by rw [o0],k1,by rw [o1],q2,q3⟩
noncomputable def lscs (N:Nat) (g:Gr) (b:Int):List (List Nat × yJ):=[([0,1,0,1,1],sumF (fun t:(Int × (Nat→Int))=>(hc0 N g b t.1 t.2)) (fun σ=>(slI σ 18,rgI σ 15 0)) (fun t K=>(bif zXK N g t then kxc0 N g b K (qJZ N g t) else none))),([0,1,0,1,1,1,1],sumF (fun t:(Bool × (Nat→Int))=>(hc1 N g b t.1 t.2)) (fun σ=>(slB σ 7,rgI σ 15 0)) (fun t K=>(bif zXJ N g b t then kxc1 N g b K (zQC N g b t) else none)))]
set_option maxRecDepth 100000 in
theorem pxcs (N:Nat) (g:Gr) (b:Int):qQU Tf (orc0 N g b) (qY (lscs N g b)) (N + 10) 38 [.a (gP g),.n .i64 b] =
 (bif (decide (0≤(g.np:Int))) then (bif (decide ((g.np:Int)≤(g.np:Int))) then (bif (decide ((g.np:Int)≤1000000)) then (bif (gSt (hc0 N g b 0 zN) (hc0 N g b 0 zN)) then (bif (zXK N g (0,zN)) then (bif (Nat.beq (qJZ N g (0,zN)).1 0) then (bif (inB b (g.np:Int).toNat) then (bif (gSt (hc1 N g b true (fun v=>(bif (Nat.beq v (b).toNat) then 0 else ((qJZ N g (0,zN)).2.2 v)))) (hc1 N g b true (fun v=>(bif (Nat.beq v (b).toNat) then 0 else ((qJZ N g (0,zN)).2.2 v))))) then (bif (zXJ N g b (true,(fun v=>(bif (Nat.beq v (b).toNat) then 0 else ((qJZ N g (0,zN)).2.2 v))))) then (bif (Nat.beq (zQC N g b (true,(fun v=>(bif (Nat.beq v (b).toNat) then 0 else ((qJZ N g (0,zN)).2.2 v))))).1 0) then some (.ow 2 1 (.fo (g.np:Int).toNat (fun v=>[.n .i64 ((zQC N g b (true,(fun v=>(bif (Nat.beq v (b).toNat) then 0 else ((qJZ N g (0,zN)).2.2 v))))).2.2 v)])),[])
 else none)
 else none)
 else none)
 else none)
 else none)
 else none)
 else none)
 else none)
 else none)
 else none):=by kernel_rfl
theorem jJI (N:Nat) (g:Gr) (b:Int) (b0:Nat) (eb:b=(b0:Int)) (hN:N=NN) (hw:wfB g=true) (hp:g.np≤100) (hn:g.ne≤500) (hb:b0 < g.np):yZ Try.prog 38 [.a (gP g),.n .i64 b] (.ow 2 1 (.fo g.np (fQ (csT g b)))):=by
 refine qG (N:=(N + 10)) (LO:=qY (lscs N g b)) yW yU (yV (l:=[]) (m:=[]) trivial trivial) (fun p S hp => ?_) ?_
 ·refine qX (L:=qQ Tf 38) (l:=(lscs N g b)) (show AllP _ (lscs N g b) from ⟨?_,?_,trivial⟩) p S hp
  ·dsimp only;refine yY (T:=Tf) (o:=(orc0 N g b)) (f:=38) (LO:=qY []) (p:=[0,1,0,1,1]) yG ?_;intro t K r hr;obtain ⟨hg,hr⟩:=qZ hr
   skip
   exact (lwc0 K N g b t hg).trans hr
  ·dsimp only;refine yY (T:=Tf) (o:=(orc0 N g b)) (f:=38) (LO:=(qY [([0,1,1,0,1,0,0,1,0,1,1,1,1],sumF (fun t:(Int × Bool × (Nat→Int))=>(hc2 N g b t.1 t.2.1 t.2.2)) (fun σ=>(slI σ 32,slB σ 7,rgI σ 15 0)) (fun t K=>(bif qJE N g t then kxc2 N g b K (qYW N g t) else none)))])) (p:=[0,1,0,1,1,1,1]) (okc2 N g b) ?_;intro t K r hr;obtain ⟨hg,hr⟩:=qZ hr
   skip
   exact (lwc1 K N g b t hg).trans hr
 ·refine (pxcs N g b).trans ?_;subst eb hN;obtain ⟨s1,s2,s3,s4,_,_⟩:=yKK hw hp hn hb;simp only [vYJ (show (0:Int)≤(g.np:Int) by omega),vYJ (show (g.np:Int)≤(g.np:Int) by omega),vYJ (show (g.np:Int)≤1000000 by omega),yQ,s1,s2,qZW (n:=(g.np:Int).toNat) rfl (by rw [toN]; exact hb),vYQ,Nat.beq_refl];rw [s3,s4];rfl
end Go.Proofs.Ytglkkhpdbfacfaa.Bx
namespace Go.Proofs.Ytglkkhpdbfacfaa.By
open Go.Rx Rt Go.Sx Go.RowKit Ba Bb Bc Bd Be Bf Bi Bj Bk Bl Bm Bn Bo Bp Bq Br Bs Bt Bu Bv Bw Bx
section
variable {np:Nat} {ln:Nat→Nat} {lt lc:Nat→Nat→Int}
theorem Wk.front {x y w:Nat} (hy:y < np) (hw:w < ln y) (hx:lt y w=(x:Int)) {z:Nat} {c p:Int} (h:Wk np ln lt lc x z c p):Wk np ln lt lc y z (c + lc y w) (p + 1):=by
 induction h with
 | nil=>exact .cons .nil hy hw hx
 | @cons u z w2 c p h hu hw2 hz ih =>
  rw [show c + lc u w2 + lc y w=c + lc y w + lc u w2 by omega];exact .cons ih hu hw2 hz
theorem Wk.rev (hl:LOk np ln lt lc) (hs:LSym np ln lt lc) {b x:Nat} {c p:Int} (h:Wk np ln lt lc b x c p):Wk np ln lt lc x b c p:=by
 induction h with
 | nil=>exact .nil
 | @cons x y w c p h hx hw hy ih =>
  obtain ⟨w',g1,g2,g3⟩:=hs x w y hx hw hy;have ht:=hl.hto x w hx hw;rw [← g3];exact Wk.front (by omega) g1 g2 ih
end
section
variable {g:Gr} {m:Int} {b:Nat}
theorem WkG.rev (hw:wfB g=true) (hp:g.np≤100) (hn:g.ne≤500) {x:Nat} {c p:Int} (h:WkG g m b x c p):WkG g m x b c p:=Wk.rev (qUQ hw hp hn).1 (qUQ hw hp hn).2 h
def Least (g:Gr) (m:Int) (b v:Nat) (c:Int):Prop:=(∃ p,WkG g m b v c p)∧∀ c' p',WkG g m b v c' p'→c≤c'
theorem Least.uniq {v:Nat} {c c':Int} (h:Least g m b v c) (h':Least g m b v c'):c=c':=by
 obtain ⟨⟨p,h1⟩,h2⟩:=h;obtain ⟨⟨p',h3⟩,h4⟩:=h'
 have:=h2 _ _ h3
 have:=h4 _ _ h1
 omega
theorem zVU (hw:wfB g=true) (hp:g.np≤100) (hn:g.ne≤500) (hb:b < g.np) {v:Nat} (hv:v < g.np):((lbT g b m).2.1 v < 0∧∀ c p,¬ WkG g m b v c p) ∨ (0≤(lbT g b m).2.1 v∧Least g m b v ((lbT g b m).2.1 v)):=by
 have hl:=(qUQ (m:=m) hw hp hn).1;obtain ⟨_,_,_,_,h1,h2⟩:=yYX (m:=m) hw hp hn hb;by_cases h0:(lbT g b m).2.1 v < 0
 ·refine .inl ⟨h0,fun c p h => ?_⟩
  have:=h2 v c p h
  have hbd:=h.bd hl;unfold leL at this; omega
 ·refine .inr ⟨by omega,?_,fun c p h => ?_⟩
  ·rcases h1.wk v hv with h3 | h3
   ·omega
   ·exact ⟨_,h3⟩
  ·have:=h2 v c p h
   have hbd:=h.bd hl;unfold leL leR at this; omega
theorem zZF (hw:wfB g=true) (hp:g.np≤100) (hn:g.ne≤500) (hb:b < g.np) {v:Nat} (hv:v < g.np):(csT g b v=1152921504606846976∧∀ c p,¬ WkG g 2 b v c p) ∨ (0≤csT g b v∧csT g b v < 1152921504606846976∧Least g 2 b v (csT g b v)):=by
 have hl:=(qUQ (m:=2) hw hp hn).1;obtain ⟨_,_,_,_,h1,h2⟩:=yKK hw hp hn hb;rcases jYA (m:=2) hw hp hn hv hb with h3 | ⟨c0,p0,h3,h4,h5⟩
 ·rcases h1.wk v hv with h6 | ⟨p,h6⟩
  ·exact .inl ⟨h6,h3⟩
  ·exact absurd h6 (h3 _ _)
 ·have hbd:=h3.bd hl;have h6:=h2 v c0 p0 h3;have h7:=h1.sm v hv;refine .inr ⟨h7.1,by omega,?_,fun c p h=>h2 v c p h⟩;rcases h1.wk v hv with h8 | h8
  ·omega
  ·exact h8
theorem zWD (hw:wfB g=true) (hp:g.np≤100) (hn:g.ne≤500) {a:Nat} (ha:a < g.np) (hb:b < g.np):(shF g.np (lkO g m).1 (lkO g m).2.1 (lkO g m).2.2 a b=false∧∀ c p,¬ WkG g m a b c p) ∨ (shF g.np (lkO g m).1 (lkO g m).2.1 (lkO g m).2.2 a b=true∧Least g m a b (shC g.np (lkO g m).1 (lkO g m).2.1 (lkO g m).2.2 a b)):=by
 obtain ⟨h1,h2⟩:=qUQ (m:=m) hw hp hn;obtain ⟨_,_,h3⟩:=qVG h1 h2 ha hb;rcases h3 with ⟨h3,h4⟩ | ⟨h3,_,_,_,⟨p,h5⟩,h6⟩
 ·exact .inl ⟨h3,fun c p h=>h4 c p (Wk.rev h1 h2 h)⟩
 ·exact .inr ⟨h3,⟨p,Wk.rev h1 h2 h5⟩,fun c p h=>h6 c p (Wk.rev h1 h2 h)⟩
theorem yHC (hw:wfB g=true) (hp:g.np≤100) (hn:g.ne≤500) (hb:b < g.np):shF g.np (lkO g m).1 (lkO g m).2.1 (lkO g m).2.2 b b=true:=by
 rcases zWD (m:=m) hw hp hn hb hb with ⟨_,h⟩ | ⟨h,_⟩
 ·exact absurd Wk.nil (h 0 1)
 ·exact h
end
end Go.Proofs.Ytglkkhpdbfacfaa.By
namespace Go.Proofs.Ytglkkhpdbfacfaa.Bz
open Go.Rx Rt Go.Sx Go.RowKit Ba Bb Bc Bd Be Bf Bi Bj Bk Bl Bh Bm Bn Bo Bp Bq Br Bs Bt Bu Bv Bw Bx By
def clb:Gr × Int × Int→Prop:=fun t=>match t with | (g,b,_)=>wfB g=true∧g.np≤100∧g.ne≤500∧0≤b∧b < (g.np:Int)
def elb:Gr × Int × Int→List PV:=fun t=>match t with | (g,b,m)=>[.a (gP g),.n .i64 b,.n .i64 m]
noncomputable def rlb:Gr × Int × Int→Ret:=fun t=>match t with | (g,b,m)=>.ow 76 2 (.fo g.np (tcP (lbT g b m).2.1 (lbT g b m).2.2))
def dlb:List PV→Gr × Int × Int:=fun ps=>match ps with
 | [.a [.lf np pt,.lf ne ed],.n _ b,.n _ m]=>(⟨np,pt,ne,unFE ed⟩,b,m)
 | _=>(⟨0,fun _=>[],0,fun _=>unE []⟩,0,0)
noncomputable def o_lb:List PV→Option (Bool × Ret):=o_fm dlb clb elb rlb
theorem jGB:uV Try.prog 33 o_lb:=qQB fun t h=>by
 obtain ⟨g,b,m⟩:=t;exact by
  have h:wfB g=true∧g.np≤100∧g.ne≤500∧0≤b∧b < (g.np:Int):=h;exact jJA NN g b m b.toNat (by omega) rfl h.1 h.2.1 h.2.2.1 (by omega)
def ccs:Gr × Int→Prop:=fun t=>match t with | (g,b)=>wfB g=true∧g.np≤100∧g.ne≤500∧0≤b∧b < (g.np:Int)
def ecs:Gr × Int→List PV:=fun t=>match t with | (g,b)=>[.a (gP g),.n .i64 b]
noncomputable def rcs:Gr × Int→Ret:=fun t=>match t with | (g,b)=>.ow 2 1 (.fo g.np (fQ (csT g b)))
def dcs:List PV→Gr × Int:=fun ps=>match ps with
 | [.a [.lf np pt,.lf ne ed],.n _ b]=>(⟨np,pt,ne,unFE ed⟩,b)
 | _=>(⟨0,fun _=>[],0,fun _=>unE []⟩,0)
noncomputable def o_cs:List PV→Option (Bool × Ret):=o_fm dcs ccs ecs rcs
theorem jGL:uV Try.prog 38 o_cs:=qQB fun t h=>by
 obtain ⟨g,b⟩:=t;exact by
  have h:wfB g=true∧g.np≤100∧g.ne≤500∧0≤b∧b < (g.np:Int):=h;exact jJI NN g b b.toNat (by omega) rfl h.1 h.2.1 h.2.2.1 (by omega)
theorem yUZ {g:Gr} (hp:g.np≤100) (hn:g.ne≤500) (v:Int):stF g v v 2=(wfB g && isP g v):=by
 unfold stF stQ;cases hw:wfB g with
 | false=>rfl
 | true =>
  cases hv:isP g v with
  | false=>rfl
  | true =>
   have h:=qUZ hv;obtain ⟨n,rfl⟩:∃ n:Nat,v=(n:Int):=⟨v.toNat,by omega⟩
   exact yHC hw hp hn (by omega)
noncomputable def orhp (g:Gr) (a b:Int):OrS:=orS [(37,o_st)] []
noncomputable def lshp (g:Gr) (a b:Int):List (List Nat × yJ):=[]
set_option maxRecDepth 100000 in
theorem pxhp (g:Gr) (a b:Int):qQU Tf (orhp g a b) (qY (lshp g a b)) 60 41 [.a (gP g),.n .i64 a,.n .i64 b] =
 (bif (gF1 cst est (g,a,a,2)) then (bif (stF g a a 2) then (bif (gF1 cst est (g,b,b,2)) then (bif (stF g b b 2) then some (.v (.b true),[])
 else some (.v (.b false),[]))
 else none)
 else some (.v (.b false),[]))
 else none):=by kernel_rfl
theorem jJD (g:Gr) (a b:Int) (hp:g.np≤100) (hn:g.ne≤500):yZ Try.prog 41 [.a (gP g),.n .i64 a,.n .i64 b] (.v (.b (wfB g && (isP g a && isP g b)))):=by
 refine qG (N:=60) (LO:=qY (lshp g a b)) yW yU (yV (l:=[(37,o_st)]) (m:=[]) ⟨jKC,trivial⟩ trivial) (fun p S hp => ?_) ?_
 ·refine qX (L:=qQ Tf 41) (l:=(lshp g a b)) (show AllP _ (lshp g a b) from trivial) p S hp
 ·refine (pxhp g a b).trans ?_;simp only [jK (C:=cst) (t:=(g,a,a,2)) ⟨hp,hn⟩,jK (C:=cst) (t:=(g,b,b,2)) ⟨hp,hn⟩,yUZ hp hn,vYQ];cases wfB g <;> cases isP g a <;> cases isP g b <;> rfl
def chp:Gr × Int × Int→Prop:=fun t=>match t with | (g,_,_)=>g.np≤100∧g.ne≤500
def ehp:Gr × Int × Int→List PV:=fun t=>match t with | (g,a,b)=>[.a (gP g),.n .i64 a,.n .i64 b]
noncomputable def rhp:Gr × Int × Int→Ret:=fun t=>match t with | (g,a,b)=>.v (.b (wfB g && (isP g a && isP g b)))
def dhp:List PV→Gr × Int × Int:=fun ps=>match ps with
 | [.a [.lf np pt,.lf ne ed],.n _ a,.n _ b]=>(⟨np,pt,ne,unFE ed⟩,a,b)
 | _=>(⟨0,fun _=>[],0,fun _=>unE []⟩,0,0)
noncomputable def o_hp:List PV→Option (Bool × Ret):=o_fm dhp chp ehp rhp
theorem jGD:uV Try.prog 41 o_hp:=qQB fun t h=>by
 obtain ⟨g,a,b⟩:=t;exact jJD g a b h.1 h.2
end Go.Proofs.Ytglkkhpdbfacfaa.Bz
namespace Go.Proofs.Ytglkkhpdbfacfaa.Ca
open Go.Rx Rt Go.Sx Go.RowKit Ba Bb Bc Bd Be Bf Bi Bj Bk Bl Bh Bm Bn Bo Bp Bq Br Bs Bt Bu Bv Bw Bx By Bz
noncomputable def orpt (N:Nat) (g:Gr) (a b:Int):OrS:=orS [(37,o_st),(38,o_cs)] []
noncomputable def hpt (N:Nat) (g:Gr) (a b:Int) (i:Int) (f:Nat→Int):St:=⟨[(6,.p 6 0),(7,.p 7 0),(8,.p 8 0),(9,.p 9 0),(26,.v (.n .i64 (g.np:Int))),(27,.v (.n .i64 i))],[(6,.blk [.o 24]),(7,.blk [.v (.n .i64 0)]),(8,.blk [.v (.b false)]),(9,.blk [.v (.lf (stN g a b 2) (fQ (stV g a b 2))),.v (.n .i64 (stC g a b 2))]),(24,.reg 2 1 (.fo g.np (fun v=>[.n .i64 (f v)])))]⟩
set_option maxRecDepth 100000 in
theorem rdpt (G:St→Option (Ret × Mem)) (K:Cont) (N:Nat) (g:Gr) (a b:Int) (i:Int) (f:Nat→Int):zH (N + 10) (cxS Tf (orpt N g a b) (N + 10) 18 (ntmF Tf 18)) (evX Tf (orpt N g a b) (N + 10) 18 (ntmF Tf 18)) (qY []) (qQ Tf 18 [0,1,0,1,1,1,1,1]) [0,1,0,1,1,1,1,1] (Tf.hint 18 (qJ (qQ Tf 18 [0,1,0,1,1,1,1,1]))) K G (hpt N g a b i f) =
 (bif (decide (i < (g.np:Int))) then (bif (inB i g.np) then (bif (inB i g.np) then (G (hpt N g a b (vYX .i64 (i + 1)) (fun v=>(bif (Nat.beq v (i).toNat) then (min (f (i).toNat) (stC g a b 2)) else (f v)))))
 else none)
 else none)
 else (K (.exit 0) ⟨[(6,.p 6 0),(7,.p 7 0),(8,.p 8 0),(9,.p 9 0)],[(6,.blk [.o 24]),(7,.blk [.v (.n .i64 0)]),(8,.blk [.v (.b false)]),(9,.blk [.v (.lf (stN g a b 2) (fQ (stV g a b 2))),.v (.n .i64 (stC g a b 2))]),(24,.reg 2 1 (.fo g.np (fun v=>[.n .i64 (f v)])))]⟩)):=by kernel_rfl
noncomputable def dcpt (g:Gr) (a b:Int):(Int × (Nat→Int))→(Int × (Nat→Int)) ⊕ (Nat × Int × (Nat→Int)):=fun t=>match t with | (i,f)=>(bif (decide (i < (g.np:Int))) then (bif (inB i g.np) then (.inl ((vYX .i64 (i + 1)),(fun v=>(bif (Nat.beq v (i).toNat) then (min (f (i).toNat) (stC g a b 2)) else (f v))))) else (.inr (1,(i,f)))) else (.inr (0,(i,f))))
noncomputable def kxpt (N:Nat) (g:Gr) (a b:Int) (K:Cont) (w9:Nat × Int × (Nat→Int)):Option (Ret × Mem):=bif Nat.beq w9.1 0 then (K (.exit 0) ⟨[(6,.p 6 0),(7,.p 7 0),(8,.p 8 0),(9,.p 9 0)],[(6,.blk [.o 24]),(7,.blk [.v (.n .i64 0)]),(8,.blk [.v (.b false)]),(9,.blk [.v (.lf (stN g a b 2) (fQ (stV g a b 2))),.v (.n .i64 (stC g a b 2))]),(24,.reg 2 1 (.fo g.np (fun v=>[.n .i64 (w9.2.2 v)])))]⟩) else none
theorem wlpt (K:Cont) (N:Nat) (g:Gr) (a b:Int):∀ n9 (t:(Int × (Nat→Int))),LFX (N + 10) (cxS Tf (orpt N g a b) (N + 10) 18 (ntmF Tf 18)) (evX Tf (orpt N g a b) (N + 10) 18 (ntmF Tf 18)) (qY []) (qQ Tf 18 [0,1,0,1,1,1,1,1]) [0,1,0,1,1,1,1,1] (Tf.hint 18 (qJ (qQ Tf 18 [0,1,0,1,1,1,1,1]))) K n9 (hpt N g a b t.1 t.2)=(qW (dcpt g a b) n9 t).bind (kxpt N g a b K):=fun n9 t=>by
 refine qQG (L:=LFX (N + 10) (cxS Tf (orpt N g a b) (N + 10) 18 (ntmF Tf 18)) (evX Tf (orpt N g a b) (N + 10) 18 (ntmF Tf 18)) (qY []) (qQ Tf 18 [0,1,0,1,1,1,1,1]) [0,1,0,1,1,1,1,1] (Tf.hint 18 (qJ (qQ Tf 18 [0,1,0,1,1,1,1,1]))) K) (stp:=zH (N + 10) (cxS Tf (orpt N g a b) (N + 10) 18 (ntmF Tf 18)) (evX Tf (orpt N g a b) (N + 10) 18 (ntmF Tf 18)) (qY []) (qQ Tf 18 [0,1,0,1,1,1,1,1]) [0,1,0,1,1,1,1,1] (Tf.hint 18 (qJ (qQ Tf 18 [0,1,0,1,1,1,1,1]))) K) (fun _ _=>rfl) (fun _=>rfl) (fun t=>hpt N g a b t.1 t.2) (fun _=>True) (dcpt g a b) (kxpt N g a b K) (fun G t _ => ?_) (fun _ _ _ _=>trivial) n9 t trivial;obtain ⟨i,f⟩:=t;refine (rdpt G K N g a b i f).trans ?_;dsimp only [dcpt];cases (decide (i < (g.np:Int)))
 ·rfl
 ·cases (inB i g.np)
  ·rfl
  ·rfl
noncomputable def zUI (N:Nat) (g:Gr) (a b:Int) (t:(Int × (Nat→Int))):Bool:=(qW (dcpt g a b) (N + 10) t).isSome
noncomputable def qGH (N:Nat) (g:Gr) (a b:Int) (t:(Int × (Nat→Int))):Nat × Int × (Nat→Int):=(qW (dcpt g a b) (N + 10) t).getD (99,t)
theorem lwpt (K:Cont) (N:Nat) (g:Gr) (a b:Int) (t:(Int × (Nat→Int))) (hg:zUI N g a b t=true):LFX (N + 10) (cxS Tf (orpt N g a b) (N + 10) 18 (ntmF Tf 18)) (evX Tf (orpt N g a b) (N + 10) 18 (ntmF Tf 18)) (qY []) (qQ Tf 18 [0,1,0,1,1,1,1,1]) [0,1,0,1,1,1,1,1] (Tf.hint 18 (qJ (qQ Tf 18 [0,1,0,1,1,1,1,1]))) K (N + 10) (hpt N g a b t.1 t.2)=kxpt N g a b K (qGH N g a b t):=by
 refine (wlpt K N g a b (N + 10) t).trans ?_;unfold zUI at hg;unfold qGH;cases h:qW (dcpt g a b) (N + 10) t with
 | none=>rw [h] at hg; cases hg
 | some y=>rfl
theorem yJB {g:Gr} {a b:Int} (_:g.np≤100) {i:Nat} (hi:i < g.np) {s:Nat→Int}:dcpt g a b ((i:Int),s)=.inl (((i + 1:Nat):Int),setF s i (min (s i) (stC g a b 2))):=by
 dsimp only [dcpt];simp only [toN,vYJ (show (i:Int) < (g.np:Int) by omega),zU hi,uJ (show i < 1000000 by omega),vYQ];rfl
theorem yVK {g:Gr} {a b:Int} {s:Nat→Int}:dcpt g a b ((g.np:Int),s)=.inr (0,(g.np:Int),s):=by
 dsimp only [dcpt];rw [vYY (by omega)]; rfl
theorem jHV {g:Gr} {a b:Int} (hp:g.np≤100) {N:Nat} (hN:g.np < N) (f0:Nat→Int):∃ f:Nat→Int,qW (dcpt g a b) N (0,f0)=some (0,(g.np:Int),f)∧∀ v,v < g.np→f v=min (f0 v) (stC g a b 2):=by
 have h1:=kV (dec:=dcpt g a b) (nx:=fun (i:Nat) (s:Nat→Int)=>setF s i (min (s i) (stC g a b 2))) (Q:=fun _ _=>True) (out:=fun s=>((g.np:Int),s)) (c:=g.np) (fun i s hi _=>yJB hp hi) (fun _ _ _ _=>trivial) (fun s _=>yVK) g.np 0 N f0 (by omega) hN trivial;have h2:=uX (Q:=fun (i:Nat) (s:Nat→Int)=>(∀ v,v < i→s v=min (f0 v) (stC g a b 2))∧∀ v,i≤v→s v=f0 v) (c:=g.np) (nx:=fun (i:Nat) (s:Nat→Int)=>setF s i (min (s i) (stC g a b 2))) (fun i s hi hq=>⟨fun v hv=>by
  by_cases e:v=i
  ·subst e; rw [jY,hq.2 v (Nat.le_refl _)]
  ·rw [zG e]; exact hq.1 v (by omega),fun v hv=>by
  rw [zG (show v ≠ i by omega)]; exact hq.2 v (by omega)⟩) g.np 0 f0 (by omega) ⟨fun v hv=>absurd hv (Nat.not_lt_zero v),fun v _=>rfl⟩
 exact ⟨_,h1,h2.1⟩
noncomputable def ptV (g:Gr) (a b:Int):Nat→Int:=(qGH NN g a b (0,(csT g a))).2.2
theorem yZG {g:Gr} (a b:Int) (hp:g.np≤100):zUI NN g a b (0,(csT g a))=true∧(qGH NN g a b (0,(csT g a))).1=0∧∀ v,v < g.np→ptV g a b v=min (csT g a v) (stC g a b 2):=by
 obtain ⟨f,h1,h2⟩:=jHV (g:=g) (a:=a) (b:=b) hp (show g.np < NN + 10 by rw [qUH]; omega) (csT g a);have ho:qGH NN g a b (0,(csT g a))=(0,(g.np:Int),f):=by unfold qGH; rw [h1]; rfl
 refine ⟨by unfold zUI; rw [h1]; rfl,by rw [ho],fun v hv => ?_⟩;unfold ptV;rw [ho];exact h2 v hv
noncomputable def yWU (N:Nat) (g:Gr) (a b:Int):List (List Nat × yJ):=[([0,1,0,1,1,1,1,1],sumF (fun t:(Int × (Nat→Int))=>(hpt N g a b t.1 t.2)) (fun σ=>(slI σ 27,rgI σ 24 0)) (fun t K=>(bif zUI N g a b t then kxpt N g a b K (qGH N g a b t) else none)))]
set_option maxRecDepth 100000 in
theorem jVH (N:Nat) (g:Gr) (a b:Int):qQU Tf (orpt N g a b) (qY (yWU N g a b)) (N + 10) 18 [.a (gP g),.n .i64 a,.n .i64 b] =
 (bif (gF1 cst est (g,a,b,2)) then (bif (stF g a b 2) then (bif (gF1 ccs ecs (g,a)) then (bif (gSt (hpt N g a b 0 (fun v=>((csT g a) v))) (hpt N g a b 0 (fun v=>((csT g a) v)))) then (bif (zUI N g a b (0,(fun v=>((csT g a) v)))) then (bif (Nat.beq (qGH N g a b (0,(fun v=>((csT g a) v)))).1 0) then some (.v (.t [.lf g.np (fun v=>[.n .i64 ((qGH N g a b (0,(fun v=>((csT g a) v)))).2.2 v)]),.n .i64 (stC g a b 2),.b true]),[])
 else none)
 else none)
 else none)
 else none)
 else some (.v (.t [.l [],.n .i64 0,.b false]),[]))
 else none):=by kernel_rfl
theorem yHG (N:Nat) (g:Gr) (a b:Int) (hN:N=NN) (hp:g.np≤100) (hn:g.ne≤500):yZ Try.prog 18 [.a (gP g),.n .i64 a,.n .i64 b] (bif stF g a b 2 then .v (.t [.lf g.np (fQ (ptV g a b)),.n .i64 (stC g a b 2),.b true]) else .v (.t [.l [],.n .i64 0,.b false])):=by
 refine qG (N:=(N + 10)) (LO:=qY (yWU N g a b)) yW yU (yV (l:=[(37,o_st),(38,o_cs)]) (m:=[]) ⟨jKC,jGL,trivial⟩ trivial) (fun p S hp => ?_) ?_
 ·refine qX (L:=qQ Tf 18) (l:=(yWU N g a b)) (show AllP _ (yWU N g a b) from ⟨?_,trivial⟩) p S hp
  ·dsimp only;refine yY (T:=Tf) (o:=(orpt N g a b)) (f:=18) (LO:=qY []) (p:=[0,1,0,1,1,1,1,1]) yG ?_;intro t K r hr;obtain ⟨hg,hr⟩:=qZ hr
   skip
   exact (lwpt K N g a b t hg).trans hr
 ·refine (jVH N g a b).trans ?_;subst hN;obtain ⟨s1,s2,_⟩:=yZG (g:=g) a b hp;simp only [jK (C:=cst) (t:=(g,a,b,2)) ⟨hp,hn⟩,vYQ];cases hf:stF g a b 2 with
  | false=>rfl
  | true =>
   have hq:stQ g a b 2=true:=by
    cases hq:stQ g a b 2 with
    | true=>rfl
    | false=>unfold stF at hf; rw [hq] at hf; cases hf
   unfold stQ at hq;simp only [vQJ] at hq;have ha:=qUZ hq.2.1;simp only [jK (C:=ccs) (t:=(g,a)) ⟨hq.1,hp,hn,ha.1,ha.2⟩,yQ,vYQ];rw [show zUI NN g a b (0,(fun v=>((csT g a) v)))=true from s1,show (qGH NN g a b (0,(fun v=>((csT g a) v)))).1=0 from s2];rfl
theorem jJU (g:Gr) (a b:Int) (hp:g.np≤100) (hn:g.ne≤500):yZ Try.prog 18 [.a (gP g),.n .i64 a,.n .i64 b] (.v (.t [.lf (bif stF g a b 2 then g.np else 0) (fQ (ptV g a b)),.n .i64 (bif stF g a b 2 then stC g a b 2 else 0),.b (stF g a b 2)])):=by
 have h:=yHG NN g a b rfl hp hn;cases hf:stF g a b 2 with
 | true=>rw [hf] at h; exact h
 | false=>rw [hf] at h; exact qZC (Same.t (xs:=[_,_,_]) (ys:=[_,_,_]) ⟨Same.lf rfl,Same.refl _,Same.refl _,trivial⟩) h
noncomputable def orrp (N:Nat) (g:Gr) (a b:Int):OrS:=orS [(32,o_as),(33,o_lb)] []
noncomputable def hrp (N:Nat) (g:Gr) (a b:Int) (i:Int) (rn:Nat) (f:Nat→Int):St:=⟨[(9,.v (.lf g.np (fun v=>[.n .i64 ((lbT g a 2).2.1 v),.n .i64 ((lbT g a 2).2.2 v)]))),(10,.v (.n .i64 ((lbT g a 2).2.1 (b).toNat))),(11,.o 56),(12,.v (.n .i64 i))],[(56,.reg 2 1 (.fo rn (fun v=>[.n .i64 (f v)])))]⟩
set_option maxRecDepth 100000 in
theorem rdrp (G:St→Option (Ret × Mem)) (K:Cont) (N:Nat) (g:Gr) (a b:Int) (i:Int) (rn:Nat) (f:Nat→Int):zH (N + 10) (cxS Tf (orrp N g a b) (N + 10) 13 (ntmF Tf 13)) (evX Tf (orrp N g a b) (N + 10) 13 (ntmF Tf 13)) (qY []) (qQ Tf 13 [0,1,0,1,1,1,1,1,1]) [0,1,0,1,1,1,1,1,1] (Tf.hint 13 (qJ (qQ Tf 13 [0,1,0,1,1,1,1,1,1]))) K G (hrp N g a b i rn f) =
 (bif (decide (i < (g.np:Int))) then (bif (inB i g.np) then (bif (decide (0≤((lbT g a 2).2.1 (i).toNat))) then (bif (inB i g.np) then (bif (decide (rn + 1≤17592186044416)) then (G (hrp N g a b (vYX .i64 (i + 1)) (rn + 1) (fun v=>(bif (Nat.beq v rn) then (min ((lbT g a 2).2.1 (b).toNat) ((lbT g a 2).2.1 (i).toNat)) else (f v)))))
 else none)
 else none)
 else (bif (decide (rn + 1≤17592186044416)) then (G (hrp N g a b (vYX .i64 (i + 1)) (rn + 1) (fun v=>(bif (Nat.beq v rn) then ((lbT g a 2).2.1 (b).toNat) else (f v)))))
 else none))
 else none)
 else (K (.exit 0) ⟨[(10,.v (.n .i64 ((lbT g a 2).2.1 (b).toNat))),(11,.o 56)],[(56,.reg 2 1 (.fo rn (fun v=>[.n .i64 (f v)])))]⟩)):=by kernel_rfl
noncomputable def dcrp (g:Gr) (a b:Int):(Int × Nat × (Nat→Int))→(Int × Nat × (Nat→Int)) ⊕ (Nat × Int × Nat × (Nat→Int)):=fun t=>match t with | (i,rn,f)=>(bif (decide (i < (g.np:Int))) then (bif (inB i g.np) then (bif (decide (0≤((lbT g a 2).2.1 (i).toNat))) then (bif (decide (rn + 1≤17592186044416)) then (.inl ((vYX .i64 (i + 1)),(rn + 1),(fun v=>(bif (Nat.beq v rn) then (min ((lbT g a 2).2.1 (b).toNat) ((lbT g a 2).2.1 (i).toNat)) else (f v))))) else (.inr (1,(i,rn,f)))) else (bif (decide (rn + 1≤17592186044416)) then (.inl ((vYX .i64 (i + 1)),(rn + 1),(fun v=>(bif (Nat.beq v rn) then ((lbT g a 2).2.1 (b).toNat) else (f v))))) else (.inr (1,(i,rn,f))))) else (.inr (1,(i,rn,f)))) else (.inr (0,(i,rn,f))))
noncomputable def kxrp (N:Nat) (g:Gr) (a b:Int) (K:Cont) (w9:Nat × Int × Nat × (Nat→Int)):Option (Ret × Mem):=bif Nat.beq w9.1 0 then (K (.exit 0) ⟨[(10,.v (.n .i64 ((lbT g a 2).2.1 (b).toNat))),(11,.o 56)],[(56,.reg 2 1 (.fo w9.2.2.1 (fun v=>[.n .i64 (w9.2.2.2 v)])))]⟩) else none
theorem wlrp (K:Cont) (N:Nat) (g:Gr) (a b:Int):∀ n9 (t:(Int × Nat × (Nat→Int))),LFX (N + 10) (cxS Tf (orrp N g a b) (N + 10) 13 (ntmF Tf 13)) (evX Tf (orrp N g a b) (N + 10) 13 (ntmF Tf 13)) (qY []) (qQ Tf 13 [0,1,0,1,1,1,1,1,1]) [0,1,0,1,1,1,1,1,1] (Tf.hint 13 (qJ (qQ Tf 13 [0,1,0,1,1,1,1,1,1]))) K n9 (hrp N g a b t.1 t.2.1 t.2.2)=(qW (dcrp g a b) n9 t).bind (kxrp N g a b K):=fun n9 t=>by
 refine qQG (L:=LFX (N + 10) (cxS Tf (orrp N g a b) (N + 10) 13 (ntmF Tf 13)) (evX Tf (orrp N g a b) (N + 10) 13 (ntmF Tf 13)) (qY []) (qQ Tf 13 [0,1,0,1,1,1,1,1,1]) [0,1,0,1,1,1,1,1,1] (Tf.hint 13 (qJ (qQ Tf 13 [0,1,0,1,1,1,1,1,1]))) K) (stp:=zH (N + 10) (cxS Tf (orrp N g a b) (N + 10) 13 (ntmF Tf 13)) (evX Tf (orrp N g a b) (N + 10) 13 (ntmF Tf 13)) (qY []) (qQ Tf 13 [0,1,0,1,1,1,1,1,1]) [0,1,0,1,1,1,1,1,1] (Tf.hint 13 (qJ (qQ Tf 13 [0,1,0,1,1,1,1,1,1]))) K) (fun _ _=>rfl) (fun _=>rfl) (fun t=>hrp N g a b t.1 t.2.1 t.2.2) (fun _=>True) (dcrp g a b) (kxrp N g a b K) (fun G t _ => ?_) (fun _ _ _ _=>trivial) n9 t trivial;obtain ⟨i,rn,f⟩:=t;refine (rdrp G K N g a b i rn f).trans ?_;dsimp only [dcrp];cases (decide (i < (g.np:Int)))
 ·rfl
 ·cases (inB i g.np)
  ·rfl
  ·cases (decide (0≤((lbT g a 2).2.1 (i).toNat)))
   ·cases (decide (rn + 1≤17592186044416))
    ·rfl
    ·rfl
   ·cases (decide (rn + 1≤17592186044416))
    ·rfl
    ·rfl
noncomputable def zHK (N:Nat) (g:Gr) (a b:Int) (t:(Int × Nat × (Nat→Int))):Bool:=(qW (dcrp g a b) (N + 10) t).isSome
noncomputable def qVL (N:Nat) (g:Gr) (a b:Int) (t:(Int × Nat × (Nat→Int))):Nat × Int × Nat × (Nat→Int):=(qW (dcrp g a b) (N + 10) t).getD (99,t)
theorem lwrp (K:Cont) (N:Nat) (g:Gr) (a b:Int) (t:(Int × Nat × (Nat→Int))) (hg:zHK N g a b t=true):LFX (N + 10) (cxS Tf (orrp N g a b) (N + 10) 13 (ntmF Tf 13)) (evX Tf (orrp N g a b) (N + 10) 13 (ntmF Tf 13)) (qY []) (qQ Tf 13 [0,1,0,1,1,1,1,1,1]) [0,1,0,1,1,1,1,1,1] (Tf.hint 13 (qJ (qQ Tf 13 [0,1,0,1,1,1,1,1,1]))) K (N + 10) (hrp N g a b t.1 t.2.1 t.2.2)=kxrp N g a b K (qVL N g a b t):=by
 refine (wlrp K N g a b (N + 10) t).trans ?_;unfold zHK at hg;unfold qVL;cases h:qW (dcrp g a b) (N + 10) t with
 | none=>rw [h] at hg; cases hg
 | some y=>rfl
theorem yJG {g:Gr} {a b:Int} (_:g.np≤100) {i:Nat} (hi:i < g.np) {f:Nat→Int}:dcrp g a b ((i:Int),i,f)=.inl (((i + 1:Nat):Int),i + 1,setF f i (bif decide (0≤(lbT g a 2).2.1 i) then min ((lbT g a 2).2.1 b.toNat) ((lbT g a 2).2.1 i) else (lbT g a 2).2.1 b.toNat)):=by
 dsimp only [dcrp];simp only [toN,vYJ (show (i:Int) < (g.np:Int) by omega),zU hi,uJ (show i < 1000000 by omega),vYQ,vYJ (show i + 1≤17592186044416 by omega)];cases decide (0≤(lbT g a 2).2.1 i) <;> rfl
theorem yVJ {g:Gr} {a b:Int} {f:Nat→Int}:dcrp g a b ((g.np:Int),g.np,f)=.inr (0,(g.np:Int),g.np,f):=by
 dsimp only [dcrp];rw [vYY (by omega)]; rfl
noncomputable def rpV (g:Gr) (a b:Int) (v:Nat):Int:=bif decide (0≤(lbT g a 2).2.1 v) then min ((lbT g a 2).2.1 b.toNat) ((lbT g a 2).2.1 v) else (lbT g a 2).2.1 b.toNat
theorem jXU {g:Gr} {a b:Int} (hp:g.np≤100) {N:Nat} (hN:g.np < N):∃ f:Nat→Int,qW (dcrp g a b) N (0,0,zN)=some (0,(g.np:Int),g.np,f)∧∀ v,v < g.np→f v=rpV g a b v:=by
 have h1:=kV (dec:=dcrp g a b) (nx:=fun (i:Nat) (s:Nat × (Nat→Int))=>(i + 1,setF s.2 i (rpV g a b i))) (Q:=fun i s=>s.1=i) (out:=fun s=>((g.np:Int),s)) (c:=g.np) (fun i s hi hq=>by obtain ⟨x,s⟩:=s; obtain rfl:x=i:=hq; exact yJG hp hi) (fun _ _ _ _=>rfl) (fun s hq=>by obtain ⟨x,s⟩:=s; obtain rfl:x=g.np:=hq; exact yVJ) g.np 0 N (0,zN) (by omega) hN rfl;have h2:=uX (Q:=fun (i:Nat) (s:Nat × (Nat→Int))=>s.1=i∧∀ v,v < i→s.2 v=rpV g a b v) (c:=g.np) (nx:=fun (i:Nat) (s:Nat × (Nat→Int))=>(i + 1,setF s.2 i (rpV g a b i))) (fun i s hi hq=>⟨rfl,fun v hv=>by
  show setF s.2 i _ v=_;by_cases e:v=i
  ·subst e; rw [jY]
  ·rw [zG e]; exact hq.2 v (by omega)⟩) g.np 0 (0,zN) (by omega) ⟨rfl,fun v hv=>absurd hv (Nat.not_lt_zero v)⟩
 refine ⟨_,h1.trans ?_,h2.2⟩;generalize hz:qJF (fun (i:Nat) (s:Nat × (Nat→Int))=>(i + 1,setF s.2 i (rpV g a b i))) g.np 0 (0,zN)=z at h2 ⊢;obtain ⟨x,z⟩:=z;obtain rfl:x=g.np:=h2.1;rfl
theorem jKX {g:Gr} (hw:wfB g=true) (hp:g.np≤100) (hn:g.ne≤500) {a b:Nat} (ha:a < g.np) (hb:b < g.np):((lbT g (a:Int) 2).2.1 b < 0∧stF g (a:Int) (b:Int) 2=false) ∨ (0≤(lbT g (a:Int) 2).2.1 b∧stF g (a:Int) (b:Int) 2=true∧(lbT g (a:Int) 2).2.1 b=stC g (a:Int) (b:Int) 2∧∀ v,v < g.np→rpV g (a:Int) (b:Int) v=ptV g (a:Int) (b:Int) v):=by
 have hst:stQ g (a:Int) (b:Int) 2=true:=by
  unfold stQ isP; rw [hw]; simp; omega
 have hf:stF g (a:Int) (b:Int) 2=shF g.np (lkO g 2).1 (lkO g 2).2.1 (lkO g 2).2.2 a b:=by unfold stF; rw [hst]; rfl
 have hc:stC g (a:Int) (b:Int) 2=shC g.np (lkO g 2).1 (lkO g 2).2.1 (lkO g 2).2.2 a b:=by unfold stC; rw [hst]; rfl
 rw [hf];have h1:=zWD (m:=2) hw hp hn ha hb;have h2:=zVU (m:=2) hw hp hn ha hb;rcases h1 with ⟨h1,h3⟩ | ⟨h1,h3⟩
 ·rcases h2 with ⟨h2,h4⟩ | ⟨h2,h4⟩
  ·exact .inl ⟨h2,h1⟩
  ·obtain ⟨⟨p,h5⟩,_⟩:=h4;exact absurd h5 (h3 _ _)
 ·rcases h2 with ⟨h2,h4⟩ | ⟨h2,h4⟩
  ·obtain ⟨⟨p,h5⟩,_⟩:=h3;exact absurd h5 (h4 _ _)
  ·have he:(lbT g (a:Int) 2).2.1 b=stC g (a:Int) (b:Int) 2:=by rw [hc]; exact h4.uniq h3
   refine .inr ⟨h2,h1,he,fun v hv => ?_⟩;obtain ⟨_,_,h5⟩:=yZG (g:=g) (a:Int) (b:Int) hp;rw [h5 v hv];unfold rpV;rw [toN,he];have h0:0≤stC g (a:Int) (b:Int) 2:=by omega
   have hs:stC g (a:Int) (b:Int) 2≤1152921504606846976:=by
    rcases zZF hw hp hn ha hb with ⟨_,h6⟩ | ⟨_,h6,h7⟩
    ·obtain ⟨⟨p,h8⟩,_⟩:=h3;exact absurd h8 (h6 _ _)
    ·rw [hc,← h7.uniq h3]; omega
   rcases zVU (m:=2) hw hp hn ha hv with ⟨h6,h7⟩ | ⟨h6,h7⟩
   ·rw [vYY (by omega)];rcases zZF hw hp hn ha hv with ⟨h8,_⟩ | ⟨_,_,⟨p,h8⟩,_⟩
    ·rw [h8,Int.min_eq_right hs]; rfl
    ·exact absurd h8 (h7 _ _)
   ·rw [vYJ h6];rcases zZF hw hp hn ha hv with ⟨_,h8⟩ | ⟨_,_,h8⟩
    ·obtain ⟨⟨p,h9⟩,_⟩:=h7;exact absurd h9 (h8 _ _)
    ·rw [h7.uniq h8,vYQ,Int.min_comm]
noncomputable def yWY (N:Nat) (g:Gr) (a b:Int):List (List Nat × yJ):=[([0,1,0,1,1,1,1,1,1],sumF (fun t:(Int × Nat × (Nat→Int))=>(hrp N g a b t.1 t.2.1 t.2.2)) (fun σ=>(slI σ 12,rgN σ 56,rgI σ 56 0)) (fun t K=>(bif zHK N g a b t then kxrp N g a b K (qVL N g a b t) else none)))]
set_option maxRecDepth 100000 in
theorem jVW (N:Nat) (g:Gr) (a b:Int):qQU Tf (orrp N g a b) (qY (yWY N g a b)) (N + 10) 13 [.a (gP g),.n .i64 a,.n .i64 b] =
 (bif (gF1 cas eas (g,a,b)) then (bif (frB g && (isP g a && isP g b)) then (bif (gF1 clb elb (g,a,2)) then (bif (inB b g.np) then (bif (decide (((lbT g a 2).2.1 (b).toNat) < 0)) then some (.v (.t [.l [],.n .i64 0,.b false]),[])
 else (bif (inB b g.np) then (bif (gSt (hrp N g a b 0 0 zN) (hrp N g a b 0 0 zN)) then (bif (zHK N g a b (0,0,zN)) then (bif (Nat.beq (qVL N g a b (0,0,zN)).1 0) then some (.v (.t [.lf (qVL N g a b (0,0,zN)).2.2.1 (fun v=>[.n .i64 ((qVL N g a b (0,0,zN)).2.2.2 v)]),.n .i64 ((lbT g a 2).2.1 (b).toNat),.b true]),[])
 else none)
 else none)
 else none)
 else none))
 else none)
 else none)
 else some (.v (.t [.l [],.n .i64 0,.b false]),[]))
 else none):=by kernel_rfl
theorem yHX (N:Nat) (g:Gr) (a b:Int) (hN:N=NN) (hp:g.np≤100) (hn:g.ne≤500):yZ Try.prog 13 [.a (gP g),.n .i64 a,.n .i64 b] (bif stF g a b 2 then .v (.t [.lf g.np (fQ (qVL NN g a b (0,0,zN)).2.2.2),.n .i64 (stC g a b 2),.b true]) else .v (.t [.l [],.n .i64 0,.b false])):=by
 refine qG (N:=(N + 10)) (LO:=qY (yWY N g a b)) yW yU (yV (l:=[(32,o_as),(33,o_lb)]) (m:=[]) ⟨jUI,jGB,trivial⟩ trivial) (fun p S hp => ?_) ?_
 ·refine qX (L:=qQ Tf 13) (l:=(yWY N g a b)) (show AllP _ (yWY N g a b) from ⟨?_,trivial⟩) p S hp
  ·dsimp only;refine yY (T:=Tf) (o:=(orrp N g a b)) (f:=13) (LO:=qY []) (p:=[0,1,0,1,1,1,1,1,1]) yG ?_;intro t K r hr;obtain ⟨hg,hr⟩:=qZ hr
   skip
   exact (lwrp K N g a b t hg).trans hr
 ·refine (jVW N g a b).trans ?_;subst hN;simp only [jK (C:=cas) (t:=(g,a,b)) (show g.ne≤8192 by omega),vYQ,jYE];cases hq:wfB g && (isP g a && isP g b) with
  | false =>
   have hs:stF g a b 2=false:=by
    unfold stF stQ;cases hw:wfB g <;> cases ha:isP g a <;> cases hb:isP g b <;> first | rfl | (rw [hw,ha,hb] at hq; cases hq)
   rw [hs]; rfl
  | true =>
   simp only [vQJ] at hq;obtain ⟨hw,ha,hb⟩:=hq;have ha:=qUZ ha;have hb:=qUZ hb;obtain ⟨x,rfl⟩:∃ n:Nat,a=(n:Int):=⟨a.toNat,by omega⟩
   obtain ⟨y,rfl⟩:∃ n:Nat,b=(n:Int):=⟨b.toNat,by omega⟩
   simp only [jK (C:=clb) (t:=(g,(x:Int),2)) ⟨hw,hp,hn,ha.1,ha.2⟩,vYQ,zU (show y < g.np by omega),toN];rcases jKX hw hp hn (show x < g.np by omega) (show y < g.np by omega) with ⟨h1,h2⟩ | ⟨h1,h2,h3,_⟩
   ·rw [vYJ h1,h2]; rfl
   ·rw [vYY (show ¬ _ by omega),h2];obtain ⟨f,h4,_⟩:=jXU (g:=g) (a:=(x:Int)) (b:=(y:Int)) hp (show g.np < NN + 10 by rw [qUH]; omega);have h5:zHK NN g (x:Int) (y:Int) (0,0,zN)=true:=by unfold zHK; rw [h4]; rfl
    have h6:qVL NN g (x:Int) (y:Int) (0,0,zN)=(0,(g.np:Int),g.np,f):=by unfold qVL; rw [h4]; rfl
    simp only [yQ,h5,h6,vYQ,vYZ,h3];rfl
theorem Same.fq {n:Nat} {f f':Nat→Int} (h:∀ v,v < n→f v=f' v):Same (.lf n (fQ f)) (.lf n (fQ f')):=fun _ _ _ hr=>zQU (rows:=(List.range n).map (fQ f)) (List.map_congr_left fun v hv=>by unfold fQ; rw [h v (List.mem_range.1 hv)]) (zQX rfl hr)
theorem jJJ (g:Gr) (a b:Int) (hp:g.np≤100) (hn:g.ne≤500):yZ Try.prog 13 [.a (gP g),.n .i64 a,.n .i64 b] (.v (.t [.lf (bif stF g a b 2 then g.np else 0) (fQ (ptV g a b)),.n .i64 (bif stF g a b 2 then stC g a b 2 else 0),.b (stF g a b 2)])):=by
 have h:=yHX NN g a b rfl hp hn;cases hf:stF g a b 2 with
 | false=>rw [hf] at h; exact qZC (Same.t (xs:=[_,_,_]) (ys:=[_,_,_]) ⟨Same.lf rfl,Same.refl _,Same.refl _,trivial⟩) h
 | true =>
  rw [hf] at h;have hq:stQ g a b 2=true:=by
   cases hq:stQ g a b 2 with
   | true=>rfl
   | false=>unfold stF at hf; rw [hq] at hf; cases hf
  unfold stQ at hq;simp only [vQJ] at hq;have ha:=qUZ hq.2.1;have hb:=qUZ hq.2.2.1;obtain ⟨x,rfl⟩:∃ n:Nat,a=(n:Int):=⟨a.toNat,by omega⟩
  obtain ⟨y,rfl⟩:∃ n:Nat,b=(n:Int):=⟨b.toNat,by omega⟩
  rcases jKX hq.1 hp hn (show x < g.np by omega) (show y < g.np by omega) with ⟨_,h2⟩ | ⟨_,_,_,h3⟩
  ·rw [hf] at h2; cases h2
  ·obtain ⟨f,h4,h5⟩:=jXU (g:=g) (a:=(x:Int)) (b:=(y:Int)) hp (show g.np < NN + 10 by rw [qUH]; omega);have h6:qVL NN g (x:Int) (y:Int) (0,0,zN)=(0,(g.np:Int),g.np,f):=by unfold qVL; rw [h4]; rfl
   rw [h6] at h;exact qZC (Same.t (xs:=[_,_,_]) (ys:=[_,_,_]) ⟨Same.fq (fun v hv=>(h5 v hv).trans (h3 v hv)),Same.refl _,Same.refl _,trivial⟩) h
end Go.Proofs.Ytglkkhpdbfacfaa.Ca
namespace Go.Proofs.Ytglkkhpdbfacfaa.Cb
open Go.Rx Rt Go.Sx Go.RowKit Ba Bb Bc Bd Be Bf Bi Bj Bk Bl Bh Bm Bn Bo Bp Bq Br Bs Bt Bu Bv Bw Bx By Bz
noncomputable def orc1 (g:Gr) (a b _:Int) (n:Nat) (_:Nat→Int):OrS:=orS [(41,o_hp)] []
def nqB (q:Nat→Int) (i:Nat):Bool:=!decide (q i < -1125899906842624) && !decide (1125899906842624 < q i)
theorem yGH (c d:Int):vYX .i64 (0 - vYX .i64 (c - d))=vYX .i64 (d - c):=by
 unfold IntKind.wrap;have hb:IntKind.i64.bits=64:=rfl;have hs:IntKind.i64.signed=true:=rfl;simp only [hb,hs,vZW,decide_eq_true_eq];have h2:(2:Int) ^ 64=18446744073709551616:=rfl;have h3:(2:Int) ^ (64 - 1)=9223372036854775808:=rfl;simp only [h2,h3]
 split <;> split <;> split <;> omega
theorem jXA {g:Gr} (hw:wfB g=true) {i:Nat} (hi:i < g.ne):inB (g.ed i).u g.np=true∧inB (g.ed i).v g.np=true:=by
 obtain ⟨h1,h2,h3,_,_⟩:=qQF hw hi;exact ⟨by unfold inB; rw [vYJ h1,vYJ (by omega)]; rfl,by unfold inB; rw [vYJ (by omega),vYJ (by omega)]; rfl⟩
def okC (g:Gr) (n:Nat):Bool:=wfB g && (decide (n=g.np) && decide (g.ne≤500))
theorem yGK {g:Gr} {n:Nat} (h:okC g n=true):wfB g=true∧n=g.np∧g.ne≤500:=by
 unfold okC at h;simp only [vQJ,decide_eq_true_eq] at h;exact h
def gdE (g:Gr) (q:Nat→Int) (i:Nat):Bool:=decide ((g.ed i).s=2) || !decide ((g.ed i).c < max (vYX .i64 (q (g.ed i).u.toNat - q (g.ed i).v.toNat)) (vYX .i64 (q (g.ed i).v.toNat - q (g.ed i).u.toNat)))
noncomputable def hc1 (g:Gr) (a b low:Int) (n:Nat) (q:Nat→Int) (i:Int):St:=⟨[(1,.v (.n .i64 a)),(2,.v (.n .i64 b)),(3,.v (.n .i64 low)),(4,.v (.lf n (fQ q))),(5,.p 5 0),(10,.p 10 0),(30,.v (.lf n (fQ q))),(31,.v (.n .i64 (n:Int))),(32,.v (.n .i64 i))],[(5,.blk [.v (.lf g.np g.pt),.v (.lf g.ne (fE g.ed))]),(10,.blk [.v (.b false)])]⟩
set_option maxRecDepth 100000 in
theorem rdc1 (G:St→Option (Ret × Mem)) (K:Cont) (g:Gr) (a b low:Int) (n:Nat) (q:Nat→Int) (i:Int):zH (g.ne + n + 10) (cxS Tf (orc1 g a b low n q) (g.ne + n + 10) 19 (ntmF Tf 19)) (evX Tf (orc1 g a b low n q) (g.ne + n + 10) 19 (ntmF Tf 19)) (qY []) (qQ Tf 19 [0,1,0,1,1,1]) [0,1,0,1,1,1] (Tf.hint 19 (qJ (qQ Tf 19 [0,1,0,1,1,1]))) K G (hc1 g a b low n q i) =
 (bif (decide (i < (n:Int))) then (bif (inB i n) then (bif (decide ((q (i).toNat) < (-1125899906842624))) then (K .ret ⟨[(1,.v (.n .i64 a)),(2,.v (.n .i64 b)),(3,.v (.n .i64 low)),(4,.v (.lf n (fQ q))),(5,.p 5 0),(10,.p 10 0)],[(5,.blk [.v (.lf g.np g.pt),.v (.lf g.ne (fE g.ed))]),(10,.blk [.v (.b false)])]⟩)
 else (bif (decide (1125899906842624 < (q (i).toNat))) then (K .ret ⟨[(1,.v (.n .i64 a)),(2,.v (.n .i64 b)),(3,.v (.n .i64 low)),(4,.v (.lf n (fQ q))),(5,.p 5 0),(10,.p 10 0)],[(5,.blk [.v (.lf g.np g.pt),.v (.lf g.ne (fE g.ed))]),(10,.blk [.v (.b false)])]⟩)
 else (G (hc1 g a b low n q (vYX .i64 (i + 1))))))
 else none)
 else (K (.exit 0) ⟨[(1,.v (.n .i64 a)),(2,.v (.n .i64 b)),(3,.v (.n .i64 low)),(4,.v (.lf n (fQ q))),(5,.p 5 0),(10,.p 10 0)],[(5,.blk [.v (.lf g.np g.pt),.v (.lf g.ne (fE g.ed))]),(10,.blk [.v (.b false)])]⟩)):=by kernel_rfl
theorem lpc1 (K:Cont) (g:Gr) (a b low:Int) (n:Nat) (q:Nat→Int) (_:n≤1000):LFX (g.ne + n + 10) (cxS Tf (orc1 g a b low n q) (g.ne + n + 10) 19 (ntmF Tf 19)) (evX Tf (orc1 g a b low n q) (g.ne + n + 10) 19 (ntmF Tf 19)) (qY []) (qQ Tf 19 [0,1,0,1,1,1]) [0,1,0,1,1,1] (Tf.hint 19 (qJ (qQ Tf 19 [0,1,0,1,1,1]))) K (g.ne + n + 10) (hc1 g a b low n q 0)=bif (allN (fun i:Nat=>nqB q i) n 0) then (K (.exit 0) ⟨[(1,.v (.n .i64 a)),(2,.v (.n .i64 b)),(3,.v (.n .i64 low)),(4,.v (.lf n (fQ q))),(5,.p 5 0),(10,.p 10 0)],[(5,.blk [.v (.lf g.np g.pt),.v (.lf g.ne (fE g.ed))]),(10,.blk [.v (.b false)])]⟩) else (K .ret ⟨[(1,.v (.n .i64 a)),(2,.v (.n .i64 b)),(3,.v (.n .i64 low)),(4,.v (.lf n (fQ q))),(5,.p 5 0),(10,.p 10 0)],[(5,.blk [.v (.lf g.np g.pt),.v (.lf g.ne (fE g.ed))]),(10,.blk [.v (.b false)])]⟩):=by
 refine (qJW (L:=LFX (g.ne + n + 10) (cxS Tf (orc1 g a b low n q) (g.ne + n + 10) 19 (ntmF Tf 19)) (evX Tf (orc1 g a b low n q) (g.ne + n + 10) 19 (ntmF Tf 19)) (qY []) (qQ Tf 19 [0,1,0,1,1,1]) [0,1,0,1,1,1] (Tf.hint 19 (qJ (qQ Tf 19 [0,1,0,1,1,1]))) K) (stp:=zH (g.ne + n + 10) (cxS Tf (orc1 g a b low n q) (g.ne + n + 10) 19 (ntmF Tf 19)) (evX Tf (orc1 g a b low n q) (g.ne + n + 10) 19 (ntmF Tf 19)) (qY []) (qQ Tf 19 [0,1,0,1,1,1]) [0,1,0,1,1,1] (Tf.hint 19 (qJ (qQ Tf 19 [0,1,0,1,1,1]))) K) (fun _ _=>rfl) (fun (i:Nat) (_:Unit)=>hc1 g a b low n q (i:Int)) (fun _ _=>True) (fun (i:Nat) _=>nqB q i) (fun _ _=>()) (c:=n) (fun _=>(K (.exit 0) ⟨[(1,.v (.n .i64 a)),(2,.v (.n .i64 b)),(3,.v (.n .i64 low)),(4,.v (.lf n (fQ q))),(5,.p 5 0),(10,.p 10 0)],[(5,.blk [.v (.lf g.np g.pt),.v (.lf g.ne (fE g.ed))]),(10,.blk [.v (.b false)])]⟩)) (fun i _=>(K .ret ⟨[(1,.v (.n .i64 a)),(2,.v (.n .i64 b)),(3,.v (.n .i64 low)),(4,.v (.lf n (fQ q))),(5,.p 5 0),(10,.p 10 0)],[(5,.blk [.v (.lf g.np g.pt),.v (.lf g.ne (fE g.ed))]),(10,.blk [.v (.b false)])]⟩)) (fun G i f hi _ => ?_) (fun _ _ _ _ _=>trivial) (fun G f _ => ?_) n 0 (g.ne + n + 10) () (by omega) (by omega) trivial).trans ((uK _ _ _ _ _).trans (kH _ _ _ _ _))
 ·refine (rdc1 G K g a b low n q i).trans ?_;rw [vYJ (show (i:Int) < (n:Int) by omega),uJ (by omega),zU (show i < n by omega)];simp only [toN,vYQ,nqB];cases decide (q i < -1125899906842624) <;> cases decide (1125899906842624 < q i) <;> rfl
 ·refine (rdc1 G K g a b low n q n).trans ?_;rw [vYY (show ¬ (n:Int) < (n:Int) by omega)];rfl
noncomputable def orb1 (g:Gr) (a b _:Int) (n:Nat) (_:Nat→Int):OrS:=orS [(32,o_as)] []
noncomputable def hb1 (g:Gr) (a b _:Int) (n:Nat) (q:Nat→Int) (i:Int):St:=⟨[(4,.v (.lf n (fQ q))),(5,.p 5 0),(11,.v (.n .i64 i))],[(5,.blk [.v (.lf g.np g.pt),.v (.lf g.ne (fE g.ed))])]⟩
set_option maxRecDepth 100000 in
theorem rdb1 (G:St→Option (Ret × Mem)) (K:Cont) (g:Gr) (a b low:Int) (n:Nat) (q:Nat→Int) (i:Int):zH (g.ne + n + 10) (cxS Tf (orb1 g a b low n q) (g.ne + n + 10) 34 (ntmF Tf 34)) (evX Tf (orb1 g a b low n q) (g.ne + n + 10) 34 (ntmF Tf 34)) (qY []) (qQ Tf 34 [0,1,0,1,1]) [0,1,0,1,1] (Tf.hint 34 (qJ (qQ Tf 34 [0,1,0,1,1]))) K G (hb1 g a b low n q i) =
 (bif (decide (i < (n:Int))) then (bif (inB i n) then (bif (decide ((q (i).toNat) < (-1125899906842624))) then (K .ret ⟨[(4,.v (.lf n (fQ q))),(5,.p 5 0),(10,.v (.b false))],[(5,.blk [.v (.lf g.np g.pt),.v (.lf g.ne (fE g.ed))])]⟩)
 else (bif (inB i n) then (bif (decide (1125899906842624 < (q (i).toNat))) then (K .ret ⟨[(4,.v (.lf n (fQ q))),(5,.p 5 0),(10,.v (.b false))],[(5,.blk [.v (.lf g.np g.pt),.v (.lf g.ne (fE g.ed))])]⟩)
 else (G (hb1 g a b low n q (vYX .i64 (i + 1)))))
 else none))
 else none)
 else (K (.exit 0) ⟨[(4,.v (.lf n (fQ q))),(5,.p 5 0)],[(5,.blk [.v (.lf g.np g.pt),.v (.lf g.ne (fE g.ed))])]⟩)):=by kernel_rfl
theorem lpb1 (K:Cont) (g:Gr) (a b low:Int) (n:Nat) (q:Nat→Int) (_:n≤1000):LFX (g.ne + n + 10) (cxS Tf (orb1 g a b low n q) (g.ne + n + 10) 34 (ntmF Tf 34)) (evX Tf (orb1 g a b low n q) (g.ne + n + 10) 34 (ntmF Tf 34)) (qY []) (qQ Tf 34 [0,1,0,1,1]) [0,1,0,1,1] (Tf.hint 34 (qJ (qQ Tf 34 [0,1,0,1,1]))) K (g.ne + n + 10) (hb1 g a b low n q 0)=bif (allN (fun i:Nat=>nqB q i) n 0) then (K (.exit 0) ⟨[(4,.v (.lf n (fQ q))),(5,.p 5 0)],[(5,.blk [.v (.lf g.np g.pt),.v (.lf g.ne (fE g.ed))])]⟩) else (K .ret ⟨[(4,.v (.lf n (fQ q))),(5,.p 5 0),(10,.v (.b false))],[(5,.blk [.v (.lf g.np g.pt),.v (.lf g.ne (fE g.ed))])]⟩):=by
 refine (qJW (L:=LFX (g.ne + n + 10) (cxS Tf (orb1 g a b low n q) (g.ne + n + 10) 34 (ntmF Tf 34)) (evX Tf (orb1 g a b low n q) (g.ne + n + 10) 34 (ntmF Tf 34)) (qY []) (qQ Tf 34 [0,1,0,1,1]) [0,1,0,1,1] (Tf.hint 34 (qJ (qQ Tf 34 [0,1,0,1,1]))) K) (stp:=zH (g.ne + n + 10) (cxS Tf (orb1 g a b low n q) (g.ne + n + 10) 34 (ntmF Tf 34)) (evX Tf (orb1 g a b low n q) (g.ne + n + 10) 34 (ntmF Tf 34)) (qY []) (qQ Tf 34 [0,1,0,1,1]) [0,1,0,1,1] (Tf.hint 34 (qJ (qQ Tf 34 [0,1,0,1,1]))) K) (fun _ _=>rfl) (fun (i:Nat) (_:Unit)=>hb1 g a b low n q (i:Int)) (fun _ _=>True) (fun (i:Nat) _=>nqB q i) (fun _ _=>()) (c:=n) (fun _=>(K (.exit 0) ⟨[(4,.v (.lf n (fQ q))),(5,.p 5 0)],[(5,.blk [.v (.lf g.np g.pt),.v (.lf g.ne (fE g.ed))])]⟩)) (fun i _=>(K .ret ⟨[(4,.v (.lf n (fQ q))),(5,.p 5 0),(10,.v (.b false))],[(5,.blk [.v (.lf g.np g.pt),.v (.lf g.ne (fE g.ed))])]⟩)) (fun G i f hi _ => ?_) (fun _ _ _ _ _=>trivial) (fun G f _ => ?_) n 0 (g.ne + n + 10) () (by omega) (by omega) trivial).trans ((uK _ _ _ _ _).trans (kH _ _ _ _ _))
 ·refine (rdb1 G K g a b low n q i).trans ?_;rw [vYJ (show (i:Int) < (n:Int) by omega),uJ (by omega),zU (show i < n by omega)];simp only [toN,vYQ,nqB];cases decide (q i < -1125899906842624) <;> cases decide (1125899906842624 < q i) <;> rfl
 ·refine (rdb1 G K g a b low n q n).trans ?_;rw [vYY (show ¬ (n:Int) < (n:Int) by omega)];rfl
noncomputable def hc2 (g:Gr) (a b _:Int) (n:Nat) (q:Nat→Int) (i:Int):St:=⟨[(4,.v (.lf n (fQ q))),(10,.p 10 0),(57,.v (.lf g.ne (fE g.ed))),(58,.v (.n .i64 (g.ne:Int))),(59,.v (.n .i64 i))],[(10,.blk [.v (.b false)])]⟩
set_option maxRecDepth 100000 in
theorem rdc2 (G:St→Option (Ret × Mem)) (K:Cont) (g:Gr) (a b low:Int) (n:Nat) (q:Nat→Int) (i:Int):zH (g.ne + n + 10) (cxS Tf (orc1 g a b low n q) (g.ne + n + 10) 19 (ntmF Tf 19)) (evX Tf (orc1 g a b low n q) (g.ne + n + 10) 19 (ntmF Tf 19)) (qY []) (qQ Tf 19 [0,1,0,1,1,1,1,1]) [0,1,0,1,1,1,1,1] (Tf.hint 19 (qJ (qQ Tf 19 [0,1,0,1,1,1,1,1]))) K G (hc2 g a b low n q i) =
 (bif (decide (i < (g.ne:Int))) then (bif (inB i g.ne) then (bif (inB (g.ed (i).toNat).u n) then (bif (inB (g.ed (i).toNat).v n) then (bif (!decide ((g.ed (i).toNat).s=2)) then (bif (decide ((g.ed (i).toNat).c < (max (vYX .i64 ((q ((g.ed (i).toNat).u).toNat) - (q ((g.ed (i).toNat).v).toNat))) (vYX .i64 (0 - (vYX .i64 ((q ((g.ed (i).toNat).u).toNat) - (q ((g.ed (i).toNat).v).toNat)))))))) then (K .ret ⟨[(10,.p 10 0)],[(10,.blk [.v (.b false)])]⟩)
 else (G (hc2 g a b low n q (vYX .i64 (i + 1)))))
 else (G (hc2 g a b low n q (vYX .i64 (i + 1)))))
 else none)
 else none)
 else none)
 else (K (.exit 2) ⟨[(10,.p 10 0)],[(10,.blk [.v (.b false)])]⟩)):=by kernel_rfl
noncomputable def hb2 (g:Gr) (a b _:Int) (n:Nat) (q:Nat→Int) (i:Int):St:=⟨[(4,.v (.lf n (fQ q))),(5,.p 5 0),(12,.v (.n .i64 i))],[(5,.blk [.v (.lf g.np g.pt),.v (.lf g.ne (fE g.ed))])]⟩
set_option maxRecDepth 100000 in
theorem rdb2 (G:St→Option (Ret × Mem)) (K:Cont) (g:Gr) (a b low:Int) (n:Nat) (q:Nat→Int) (i:Int):zH (g.ne + n + 10) (cxS Tf (orb1 g a b low n q) (g.ne + n + 10) 34 (ntmF Tf 34)) (evX Tf (orb1 g a b low n q) (g.ne + n + 10) 34 (ntmF Tf 34)) (qY []) (qQ Tf 34 [0,1,0,1,1,1]) [0,1,0,1,1,1] (Tf.hint 34 (qJ (qQ Tf 34 [0,1,0,1,1,1]))) K G (hb2 g a b low n q i) =
 (bif (decide (i < (g.ne:Int))) then (bif (inB i g.ne) then (bif (!decide ((g.ed (i).toNat).s=2)) then (bif (inB (g.ed (i).toNat).u n) then (bif (inB (g.ed (i).toNat).v n) then (bif (inB (g.ed (i).toNat).v n) then (bif (inB (g.ed (i).toNat).u n) then (bif (decide ((g.ed (i).toNat).c < (max (vYX .i64 ((q ((g.ed (i).toNat).u).toNat) - (q ((g.ed (i).toNat).v).toNat))) (vYX .i64 ((q ((g.ed (i).toNat).v).toNat) - (q ((g.ed (i).toNat).u).toNat)))))) then (K .ret ⟨[(10,.v (.b false))],[]⟩)
 else (G (hb2 g a b low n q (vYX .i64 (i + 1)))))
 else none)
 else none)
 else none)
 else none)
 else (G (hb2 g a b low n q (vYX .i64 (i + 1)))))
 else none)
 else (K (.exit 2) ⟨[],[]⟩)):=by kernel_rfl
theorem lpc2 (K:Cont) (g:Gr) (a b low:Int) (n:Nat) (q:Nat→Int) (hw:wfB g=true) (hN:n=g.np) (_:g.ne≤500):LFX (g.ne + n + 10) (cxS Tf (orc1 g a b low n q) (g.ne + n + 10) 19 (ntmF Tf 19)) (evX Tf (orc1 g a b low n q) (g.ne + n + 10) 19 (ntmF Tf 19)) (qY []) (qQ Tf 19 [0,1,0,1,1,1,1,1]) [0,1,0,1,1,1,1,1] (Tf.hint 19 (qJ (qQ Tf 19 [0,1,0,1,1,1,1,1]))) K (g.ne + n + 10) (hc2 g a b low n q 0)=bif (allN (fun i:Nat=>gdE g q i) g.ne 0) then (K (.exit 2) ⟨[(10,.p 10 0)],[(10,.blk [.v (.b false)])]⟩) else (K .ret ⟨[(10,.p 10 0)],[(10,.blk [.v (.b false)])]⟩):=by
 refine (qJW (L:=LFX (g.ne + n + 10) (cxS Tf (orc1 g a b low n q) (g.ne + n + 10) 19 (ntmF Tf 19)) (evX Tf (orc1 g a b low n q) (g.ne + n + 10) 19 (ntmF Tf 19)) (qY []) (qQ Tf 19 [0,1,0,1,1,1,1,1]) [0,1,0,1,1,1,1,1] (Tf.hint 19 (qJ (qQ Tf 19 [0,1,0,1,1,1,1,1]))) K) (stp:=zH (g.ne + n + 10) (cxS Tf (orc1 g a b low n q) (g.ne + n + 10) 19 (ntmF Tf 19)) (evX Tf (orc1 g a b low n q) (g.ne + n + 10) 19 (ntmF Tf 19)) (qY []) (qQ Tf 19 [0,1,0,1,1,1,1,1]) [0,1,0,1,1,1,1,1] (Tf.hint 19 (qJ (qQ Tf 19 [0,1,0,1,1,1,1,1]))) K) (fun _ _=>rfl) (fun (i:Nat) (_:Unit)=>hc2 g a b low n q (i:Int)) (fun _ _=>True) (fun (i:Nat) _=>gdE g q i) (fun _ _=>()) (c:=g.ne) (fun _=>(K (.exit 2) ⟨[(10,.p 10 0)],[(10,.blk [.v (.b false)])]⟩)) (fun i _=>(K .ret ⟨[(10,.p 10 0)],[(10,.blk [.v (.b false)])]⟩)) (fun G i f hi _ => ?_) (fun _ _ _ _ _=>trivial) (fun G f _ => ?_) g.ne 0 (g.ne + n + 10) () (by omega) (by omega) trivial).trans ((uK _ _ _ _ _).trans (kH _ _ _ _ _))
 ·refine (rdc2 G K g a b low n q i).trans ?_;rw [vYJ (show (i:Int) < (g.ne:Int) by omega),uJ (by omega),zU (show i < g.ne by omega)];subst hN;simp only [toN,vYQ,vYZ,gdE,jXA hw hi]
  try rw [yGH]
  cases decide ((g.ed i).s=2) <;> cases decide ((g.ed i).c < max (vYX .i64 (q (g.ed i).u.toNat - q (g.ed i).v.toNat)) (vYX .i64 (q (g.ed i).v.toNat - q (g.ed i).u.toNat))) <;> rfl
 ·refine (rdc2 G K g a b low n q g.ne).trans ?_;rw [vYY (show ¬ (g.ne:Int) < (g.ne:Int) by omega)];rfl
theorem lpb2 (K:Cont) (g:Gr) (a b low:Int) (n:Nat) (q:Nat→Int) (hw:wfB g=true) (hN:n=g.np) (_:g.ne≤500):LFX (g.ne + n + 10) (cxS Tf (orb1 g a b low n q) (g.ne + n + 10) 34 (ntmF Tf 34)) (evX Tf (orb1 g a b low n q) (g.ne + n + 10) 34 (ntmF Tf 34)) (qY []) (qQ Tf 34 [0,1,0,1,1,1]) [0,1,0,1,1,1] (Tf.hint 34 (qJ (qQ Tf 34 [0,1,0,1,1,1]))) K (g.ne + n + 10) (hb2 g a b low n q 0)=bif (allN (fun i:Nat=>gdE g q i) g.ne 0) then (K (.exit 2) ⟨[],[]⟩) else (K .ret ⟨[(10,.v (.b false))],[]⟩):=by
 refine (qJW (L:=LFX (g.ne + n + 10) (cxS Tf (orb1 g a b low n q) (g.ne + n + 10) 34 (ntmF Tf 34)) (evX Tf (orb1 g a b low n q) (g.ne + n + 10) 34 (ntmF Tf 34)) (qY []) (qQ Tf 34 [0,1,0,1,1,1]) [0,1,0,1,1,1] (Tf.hint 34 (qJ (qQ Tf 34 [0,1,0,1,1,1]))) K) (stp:=zH (g.ne + n + 10) (cxS Tf (orb1 g a b low n q) (g.ne + n + 10) 34 (ntmF Tf 34)) (evX Tf (orb1 g a b low n q) (g.ne + n + 10) 34 (ntmF Tf 34)) (qY []) (qQ Tf 34 [0,1,0,1,1,1]) [0,1,0,1,1,1] (Tf.hint 34 (qJ (qQ Tf 34 [0,1,0,1,1,1]))) K) (fun _ _=>rfl) (fun (i:Nat) (_:Unit)=>hb2 g a b low n q (i:Int)) (fun _ _=>True) (fun (i:Nat) _=>gdE g q i) (fun _ _=>()) (c:=g.ne) (fun _=>(K (.exit 2) ⟨[],[]⟩)) (fun i _=>(K .ret ⟨[(10,.v (.b false))],[]⟩)) (fun G i f hi _ => ?_) (fun _ _ _ _ _=>trivial) (fun G f _ => ?_) g.ne 0 (g.ne + n + 10) () (by omega) (by omega) trivial).trans ((uK _ _ _ _ _).trans (kH _ _ _ _ _))
 ·refine (rdb2 G K g a b low n q i).trans ?_;rw [vYJ (show (i:Int) < (g.ne:Int) by omega),uJ (by omega),zU (show i < g.ne by omega)];subst hN;simp only [toN,vYQ,vYZ,gdE,jXA hw hi]
  try rw [yGH]
  cases decide ((g.ed i).s=2) <;> cases decide ((g.ed i).c < max (vYX .i64 (q (g.ed i).u.toNat - q (g.ed i).v.toNat)) (vYX .i64 (q (g.ed i).v.toNat - q (g.ed i).u.toNat))) <;> rfl
 ·refine (rdb2 G K g a b low n q g.ne).trans ?_;rw [vYY (show ¬ (g.ne:Int) < (g.ne:Int) by omega)];rfl
def cbB (g:Gr) (a b low:Int) (n:Nat) (q:Nat→Int):Bool:=(wfB g && (isP g a && isP g b)) && (decide ((n:Int)=(g.np:Int)) && (allN (fun i:Nat=>nqB q i) n 0 && (decide (q a.toNat=0) && (decide (q b.toNat=low) && allN (fun i:Nat=>gdE g q i) g.ne 0))))
theorem zZU {g:Gr} {a:Int} (h:isP g a=true):inB a g.np=true:=by
 have:=qUZ h
 unfold inB;rw [vYJ (show 0≤a by omega),vYJ (by omega)]; rfl
theorem jXZ {g:Gr} (hw:wfB g=true) (hn:g.ne≤500):okC g g.np=true:=by
 unfold okC;rw [hw,vYJ rfl,vYJ hn]; rfl
noncomputable def lsck (g:Gr) (a b low:Int) (n:Nat) (q:Nat→Int):List (List Nat × yJ):=[([0,1,0,1,1,1],sumF (fun _:Unit=>(hc1 g a b low n q 0)) (fun _=>()) (fun _ K=>(bif (decide (n≤1000)) then (bif (allN (fun i:Nat=>nqB q i) n 0) then (K (.exit 0) ⟨[(1,.v (.n .i64 a)),(2,.v (.n .i64 b)),(3,.v (.n .i64 low)),(4,.v (.lf n (fQ q))),(5,.p 5 0),(10,.p 10 0)],[(5,.blk [.v (.lf g.np g.pt),.v (.lf g.ne (fE g.ed))]),(10,.blk [.v (.b false)])]⟩) else (K .ret ⟨[(1,.v (.n .i64 a)),(2,.v (.n .i64 b)),(3,.v (.n .i64 low)),(4,.v (.lf n (fQ q))),(5,.p 5 0),(10,.p 10 0)],[(5,.blk [.v (.lf g.np g.pt),.v (.lf g.ne (fE g.ed))]),(10,.blk [.v (.b false)])]⟩)) else none))),([0,1,0,1,1,1,1,1],sumF (fun _:Unit=>(hc2 g a b low n q 0)) (fun _=>()) (fun _ K=>(bif (okC g n) then (bif (allN (fun i:Nat=>gdE g q i) g.ne 0) then (K (.exit 2) ⟨[(10,.p 10 0)],[(10,.blk [.v (.b false)])]⟩) else (K .ret ⟨[(10,.p 10 0)],[(10,.blk [.v (.b false)])]⟩)) else none)))]
set_option maxRecDepth 100000 in
theorem pxck (g:Gr) (a b low:Int) (n:Nat) (q:Nat→Int):qQU Tf (orc1 g a b low n q) (qY (lsck g a b low n q)) (g.ne + n + 10) 19 [.a (gP g),.n .i64 a,.n .i64 b,.n .i64 low,.lf n (fQ q)] =
 (bif (gF1 chp ehp (g,a,b)) then (bif (wfB g && (isP g a && isP g b)) then (bif (!decide ((n:Int)=(g.np:Int))) then some (.v (.b false),[])
 else (bif (gSt (hc1 g a b low n q 0) (hc1 g a b low n q 0)) then (bif (decide (n≤1000)) then (bif (allN (fun i:Nat=>nqB q i) n 0) then (bif (inB a n) then (bif (!decide ((q (a).toNat)=0)) then some (.v (.b false),[])
 else (bif (inB b n) then (bif (!decide ((q (b).toNat)=low)) then some (.v (.b false),[])
 else (bif (gSt (hc2 g a b low n q 0) (hc2 g a b low n q 0)) then (bif (okC g n) then (bif (allN (fun i:Nat=>gdE g q i) g.ne 0) then some (.v (.b true),[])
 else some (.v (.b false),[]))
 else none)
 else none))
 else none))
 else none)
 else some (.v (.b false),[]))
 else none)
 else none))
 else some (.v (.b false),[]))
 else none):=by kernel_rfl
theorem jKZ (g:Gr) (a b low:Int) (n:Nat) (q:Nat→Int) (hp:g.np≤100) (hn:g.ne≤500):yZ Try.prog 19 [.a (gP g),.n .i64 a,.n .i64 b,.n .i64 low,.lf n (fQ q)] (.v (.b (cbB g a b low n q))):=by
 refine qG (N:=(g.ne + n + 10)) (LO:=qY (lsck g a b low n q)) yW yU (yV (l:=[(41,o_hp)]) (m:=[]) ⟨jGD,trivial⟩ trivial) (fun p S hp => ?_) ?_
 ·refine qX (L:=qQ Tf 19) (l:=(lsck g a b low n q)) (show AllP _ (lsck g a b low n q) from ⟨?_,?_,trivial⟩) p S hp
  ·dsimp only;refine yY (T:=Tf) (o:=(orc1 g a b low n q)) (f:=19) (LO:=qY []) (p:=[0,1,0,1,1,1]) yG ?_;intro t K r hr;obtain ⟨hg,hr⟩:=qZ hr;have hn:=vYK hg;exact (lpc1 K g a b low n q hn).trans hr
  ·dsimp only;refine yY (T:=Tf) (o:=(orc1 g a b low n q)) (f:=19) (LO:=qY []) (p:=[0,1,0,1,1,1,1,1]) yG ?_;intro t K r hr;obtain ⟨hg,hr⟩:=qZ hr;obtain ⟨hw,hN,hn⟩:=yGK hg;exact (lpc2 K g a b low n q hw hN hn).trans hr
 ·refine (pxck g a b low n q).trans ?_;unfold cbB;simp only [jK (C:=chp) (t:=(g,a,b)) ⟨hp,hn⟩,vYQ];cases hq:wfB g && (isP g a && isP g b) with
  | false=>rfl
  | true =>
   simp only [vQJ] at hq;obtain ⟨hw,ha,hb⟩:=hq;by_cases h1:(n:Int)=(g.np:Int)
   ·obtain rfl:n=g.np:=by omega
    simp only [decide_true,Bool.not_true,vYQ,vYZ,vZW,yQ,vYJ (show g.np≤1000 by omega),zZU ha,zZU hb,jXZ hw hn];cases allN (fun i:Nat=>nqB q i) g.np 0 <;> cases decide (q a.toNat=0) <;> cases decide (q b.toNat=low) <;> cases allN (fun i:Nat=>gdE g q i) g.ne 0 <;> rfl
   ·rw [vYY h1]; rfl
noncomputable def lscb (g:Gr) (a b low:Int) (n:Nat) (q:Nat→Int):List (List Nat × yJ):=[([0,1,0,1,1],sumF (fun _:Unit=>(hb1 g a b low n q 0)) (fun _=>()) (fun _ K=>(bif (decide (n≤1000)) then (bif (allN (fun i:Nat=>nqB q i) n 0) then (K (.exit 0) ⟨[(4,.v (.lf n (fQ q))),(5,.p 5 0)],[(5,.blk [.v (.lf g.np g.pt),.v (.lf g.ne (fE g.ed))])]⟩) else (K .ret ⟨[(4,.v (.lf n (fQ q))),(5,.p 5 0),(10,.v (.b false))],[(5,.blk [.v (.lf g.np g.pt),.v (.lf g.ne (fE g.ed))])]⟩)) else none))),([0,1,0,1,1,1],sumF (fun _:Unit=>(hb2 g a b low n q 0)) (fun _=>()) (fun _ K=>(bif (okC g n) then (bif (allN (fun i:Nat=>gdE g q i) g.ne 0) then (K (.exit 2) ⟨[],[]⟩) else (K .ret ⟨[(10,.v (.b false))],[]⟩)) else none)))]
set_option maxRecDepth 100000 in
theorem pxcb (g:Gr) (a b low:Int) (n:Nat) (q:Nat→Int):qQU Tf (orb1 g a b low n q) (qY (lscb g a b low n q)) (g.ne + n + 10) 34 [.a (gP g),.n .i64 a,.n .i64 b,.n .i64 low,.lf n (fQ q)] =
 (bif (gF1 cas eas (g,a,b)) then (bif (frB g && (isP g a && isP g b)) then (bif (!decide ((n:Int)=(g.np:Int))) then some (.v (.b false),[])
 else (bif (inB a n) then (bif (!decide ((q (a).toNat)=0)) then some (.v (.b false),[])
 else (bif (inB b n) then (bif (!decide ((q (b).toNat)=low)) then some (.v (.b false),[])
 else (bif (gSt (hb1 g a b low n q 0) (hb1 g a b low n q 0)) then (bif (decide (n≤1000)) then (bif (allN (fun i:Nat=>nqB q i) n 0) then (bif (gSt (hb2 g a b low n q 0) (hb2 g a b low n q 0)) then (bif (okC g n) then (bif (allN (fun i:Nat=>gdE g q i) g.ne 0) then some (.v (.b true),[])
 else some (.v (.b false),[]))
 else none)
 else none)
 else some (.v (.b false),[]))
 else none)
 else none))
 else none))
 else none))
 else some (.v (.b false),[]))
 else none):=by kernel_rfl
theorem jKY (g:Gr) (a b low:Int) (n:Nat) (q:Nat→Int) (hp:g.np≤100) (hn:g.ne≤500):yZ Try.prog 34 [.a (gP g),.n .i64 a,.n .i64 b,.n .i64 low,.lf n (fQ q)] (.v (.b (cbB g a b low n q))):=by
 refine qG (N:=(g.ne + n + 10)) (LO:=qY (lscb g a b low n q)) yW yU (yV (l:=[(32,o_as)]) (m:=[]) ⟨jUI,trivial⟩ trivial) (fun p S hp => ?_) ?_
 ·refine qX (L:=qQ Tf 34) (l:=(lscb g a b low n q)) (show AllP _ (lscb g a b low n q) from ⟨?_,?_,trivial⟩) p S hp
  ·dsimp only;refine yY (T:=Tf) (o:=(orb1 g a b low n q)) (f:=34) (LO:=qY []) (p:=[0,1,0,1,1]) yG ?_;intro t K r hr;obtain ⟨hg,hr⟩:=qZ hr;have hn:=vYK hg;exact (lpb1 K g a b low n q hn).trans hr
  ·dsimp only;refine yY (T:=Tf) (o:=(orb1 g a b low n q)) (f:=34) (LO:=qY []) (p:=[0,1,0,1,1,1]) yG ?_;intro t K r hr;obtain ⟨hg,hr⟩:=qZ hr;obtain ⟨hw,hN,hn⟩:=yGK hg;exact (lpb2 K g a b low n q hw hN hn).trans hr
 ·refine (pxcb g a b low n q).trans ?_;unfold cbB;simp only [jK (C:=cas) (t:=(g,a,b)) (show g.ne≤8192 by omega),vYQ,jYE];cases hq:wfB g && (isP g a && isP g b) with
  | false=>rfl
  | true =>
   simp only [vQJ] at hq;obtain ⟨hw,ha,hb⟩:=hq;by_cases h1:(n:Int)=(g.np:Int)
   ·obtain rfl:n=g.np:=by omega
    simp only [decide_true,Bool.not_true,vYQ,vYZ,vZW,yQ,vYJ (show g.np≤1000 by omega),zZU ha,zZU hb,jXZ hw hn];cases allN (fun i:Nat=>nqB q i) g.np 0 <;> cases decide (q a.toNat=0) <;> cases decide (q b.toNat=low) <;> cases allN (fun i:Nat=>gdE g q i) g.ne 0 <;> rfl
   ·rw [vYY h1]; rfl
end Go.Proofs.Ytglkkhpdbfacfaa.Cb

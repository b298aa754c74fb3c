/- Part 12 of the texts behind the last one: rules and contracts. No condition. -/
import Derived.Test.YtglkkhpdbfacfaaBE11
open Bool renaming and_eq_true → vQJ, true_and → vZW
open Nat renaming eq_of_beq_eq_true → vQU
open Go.IntKind renaming wrap → vYX
namespace Go.Proofs.Ytglkkhpdbfacfaa.Bu
open Go.Rx Rt Go.Sx Go.RowKit Ba Bb Bp Bt
noncomputable def orc0 (N:Nat) (g:Gr) (b:Int):OrS:=orS [] []
noncomputable def hc0 (N:Nat) (g:Gr) (b:Int) (i:Int) (oc:Nat→Int):St:=⟨[(1,.v (.n .i64 b)),(2,.p 2 0),(5,.o 15),(17,.v (.n .i64 ((g.np:Int).toNat:Int))),(18,.v (.n .i64 i))],[(2,.blk [.v (.lf g.np g.pt),.v (.lf g.ne (fE g.ed))]),(15,.reg 2 1 (.fo (g.np:Int).toNat (fun v=>[.n .i64 (oc v)])))]⟩
set_option maxRecDepth 100000 in
theorem rdc0 (G:St→Option (Ret × Mem)) (K:Cont) (N:Nat) (g:Gr) (b:Int) (i:Int) (oc:Nat→Int):zH (N + 10) (cxS Tf (orc0 N g b) (N + 10) 38 (ntmF Tf 38)) (evX Tf (orc0 N g b) (N + 10) 38 (ntmF Tf 38)) (qY []) (qQ Tf 38 [0,1,0,1,1]) [0,1,0,1,1] (Tf.hint 38 (qJ (qQ Tf 38 [0,1,0,1,1]))) K G (hc0 N g b i oc) =
 (bif (decide (i < ((g.np:Int).toNat:Int))) then (bif (inB i (g.np:Int).toNat) then (G (hc0 N g b (vYX .i64 (i + 1)) (fun v=>(bif (Nat.beq v (i).toNat) then 1152921504606846976 else (oc v)))))
 else none)
 else (K (.exit 0) ⟨[(1,.v (.n .i64 b)),(2,.p 2 0),(5,.o 15)],[(2,.blk [.v (.lf g.np g.pt),.v (.lf g.ne (fE g.ed))]),(15,.reg 2 1 (.fo (g.np:Int).toNat (fun v=>[.n .i64 (oc v)])))]⟩)):=by kernel_rfl
noncomputable def dcc0 (g:Gr):(Int × (Nat→Int))→(Int × (Nat→Int)) ⊕ (Nat × Int × (Nat→Int)):=fun t=>match t with | (i,oc)=>(bif (decide (i < ((g.np:Int).toNat:Int))) then (bif (inB i (g.np:Int).toNat) then (.inl ((vYX .i64 (i + 1)),(fun v=>(bif (Nat.beq v (i).toNat) then 1152921504606846976 else (oc v))))) else (.inr (1,(i,oc)))) else (.inr (0,(i,oc))))
noncomputable def kxc0 (N:Nat) (g:Gr) (b:Int) (K:Cont) (w9:Nat × Int × (Nat→Int)):Option (Ret × Mem):=bif Nat.beq w9.1 0 then (K (.exit 0) ⟨[(1,.v (.n .i64 b)),(2,.p 2 0),(5,.o 15)],[(2,.blk [.v (.lf g.np g.pt),.v (.lf g.ne (fE g.ed))]),(15,.reg 2 1 (.fo (g.np:Int).toNat (fun v=>[.n .i64 (w9.2.2 v)])))]⟩) else none
theorem wlc0 (K:Cont) (N:Nat) (g:Gr) (b:Int):∀ n9 (t:(Int × (Nat→Int))),LFX (N + 10) (cxS Tf (orc0 N g b) (N + 10) 38 (ntmF Tf 38)) (evX Tf (orc0 N g b) (N + 10) 38 (ntmF Tf 38)) (qY []) (qQ Tf 38 [0,1,0,1,1]) [0,1,0,1,1] (Tf.hint 38 (qJ (qQ Tf 38 [0,1,0,1,1]))) K n9 (hc0 N g b t.1 t.2)=(qU (dcc0 g) n9 t).bind (kxc0 N g b K):=fun n9 t=>by
 refine kG (L:=LFX (N + 10) (cxS Tf (orc0 N g b) (N + 10) 38 (ntmF Tf 38)) (evX Tf (orc0 N g b) (N + 10) 38 (ntmF Tf 38)) (qY []) (qQ Tf 38 [0,1,0,1,1]) [0,1,0,1,1] (Tf.hint 38 (qJ (qQ Tf 38 [0,1,0,1,1]))) K) (stp:=zH (N + 10) (cxS Tf (orc0 N g b) (N + 10) 38 (ntmF Tf 38)) (evX Tf (orc0 N g b) (N + 10) 38 (ntmF Tf 38)) (qY []) (qQ Tf 38 [0,1,0,1,1]) [0,1,0,1,1] (Tf.hint 38 (qJ (qQ Tf 38 [0,1,0,1,1]))) K) (fun _ _=>rfl) (fun _=>rfl) (fun t=>hc0 N g b t.1 t.2) (fun _=>True) (dcc0 g) (kxc0 N g b K) (fun G t _ => ?_) (fun _ _ _ _=>trivial) n9 t trivial;obtain ⟨i,oc⟩:=t;refine (rdc0 G K N g b i oc).trans ?_;dsimp only [dcc0];cases (decide (i < ((g.np:Int).toNat:Int)))
 ·rfl
 ·cases (inB i (g.np:Int).toNat)
  ·rfl
  ·rfl
noncomputable def zWV (N:Nat) (g:Gr) (t:(Int × (Nat→Int))):Bool:=(qU (dcc0 g) (N + 10) t).isSome
noncomputable def qJX (N:Nat) (g:Gr) (t:(Int × (Nat→Int))):Nat × Int × (Nat→Int):=(qU (dcc0 g) (N + 10) t).getD (99,t)
theorem lwc0 (K:Cont) (N:Nat) (g:Gr) (b:Int) (t:(Int × (Nat→Int))) (hg:zWV N g t=true):LFX (N + 10) (cxS Tf (orc0 N g b) (N + 10) 38 (ntmF Tf 38)) (evX Tf (orc0 N g b) (N + 10) 38 (ntmF Tf 38)) (qY []) (qQ Tf 38 [0,1,0,1,1]) [0,1,0,1,1] (Tf.hint 38 (qJ (qQ Tf 38 [0,1,0,1,1]))) K (N + 10) (hc0 N g b t.1 t.2)=kxc0 N g b K (qJX N g t):=by
 refine (wlc0 K N g b (N + 10) t).trans ?_;unfold zWV at hg;unfold qJX;cases h:qU (dcc0 g) (N + 10) t with
 | none=>rw [h] at hg; cases hg
 | some y=>rfl
noncomputable def hc2 (N:Nat) (g:Gr) (b:Int) (i:Int) (ch:Bool) (oc:Nat→Int):St:=⟨[(2,.p 2 0),(5,.o 15),(7,.v (.b (ch))),(31,.v (.n .i64 (g.ne:Int))),(32,.v (.n .i64 i))],[(2,.blk [.v (.lf g.np g.pt),.v (.lf g.ne (fE g.ed))]),(15,.reg 2 1 (.fo (g.np:Int).toNat (fun v=>[.n .i64 (oc v)])))]⟩
set_option maxRecDepth 100000 in
theorem rdc2 (G:St→Option (Ret × Mem)) (K:Cont) (N:Nat) (g:Gr) (b:Int) (i:Int) (ch:Bool) (oc:Nat→Int):zH (N + 10) (cxS Tf (orc0 N g b) (N + 10) 38 (ntmF Tf 38)) (evX Tf (orc0 N g b) (N + 10) 38 (ntmF Tf 38)) (qY []) (qQ Tf 38 [0,1,1,0,1,0,0,1,0,1,1,1,1]) [0,1,1,0,1,0,0,1,0,1,1,1,1] (Tf.hint 38 (qJ (qQ Tf 38 [0,1,1,0,1,0,0,1,0,1,1,1,1]))) K G (hc2 N g b i ch oc) =
 (bif (decide (i < (g.ne:Int))) then (bif (inB i g.ne) then (bif (decide ((g.ed (i).toNat).s=2)) then (G (hc2 N g b (vYX .i64 (i + 1)) ch (fun v=>(oc v))))
 else (bif (inB (g.ed (i).toNat).u (g.np:Int).toNat) then (bif (inB (g.ed (i).toNat).v (g.np:Int).toNat) then (bif (inB (g.ed (i).toNat).v (g.np:Int).toNat) then (bif (inB (g.ed (i).toNat).u (g.np:Int).toNat) then (bif (inB (g.ed (i).toNat).u (g.np:Int).toNat) then (bif (decide ((min (oc (g.ed (i).toNat).u.toNat) (vYX .i64 ((oc (g.ed (i).toNat).v.toNat) + (g.ed (i).toNat).c))) < (oc (g.ed (i).toNat).u.toNat))) then (bif (inB (g.ed (i).toNat).u (g.np:Int).toNat) then (bif (inB (g.ed (i).toNat).v (g.np:Int).toNat) then (G (hc2 N g b (vYX .i64 (i + 1)) true (fun v=>(bif (Nat.beq v (g.ed (i).toNat).v.toNat) then (min (oc (g.ed (i).toNat).v.toNat) (vYX .i64 ((oc (g.ed (i).toNat).u.toNat) + (g.ed (i).toNat).c))) else (bif (Nat.beq v (g.ed (i).toNat).u.toNat) then (min (oc (g.ed (i).toNat).u.toNat) (vYX .i64 ((oc (g.ed (i).toNat).v.toNat) + (g.ed (i).toNat).c))) else (oc v))))))
 else none)
 else none)
 else (bif (inB (g.ed (i).toNat).v (g.np:Int).toNat) then (bif (decide ((min (oc (g.ed (i).toNat).v.toNat) (vYX .i64 ((oc (g.ed (i).toNat).u.toNat) + (g.ed (i).toNat).c))) < (oc (g.ed (i).toNat).v.toNat))) then (bif (inB (g.ed (i).toNat).u (g.np:Int).toNat) then (bif (inB (g.ed (i).toNat).v (g.np:Int).toNat) then (G (hc2 N g b (vYX .i64 (i + 1)) true (fun v=>(bif (Nat.beq v (g.ed (i).toNat).v.toNat) then (min (oc (g.ed (i).toNat).v.toNat) (vYX .i64 ((oc (g.ed (i).toNat).u.toNat) + (g.ed (i).toNat).c))) else (bif (Nat.beq v (g.ed (i).toNat).u.toNat) then (min (oc (g.ed (i).toNat).u.toNat) (vYX .i64 ((oc (g.ed (i).toNat).v.toNat) + (g.ed (i).toNat).c))) else (oc v))))))
 else none)
 else none)
 else (G (hc2 N g b (vYX .i64 (i + 1)) ch (fun v=>(oc v)))))
 else none))
 else none)
 else none)
 else none)
 else none)
 else none))
 else none)
 else (K (.exit 4) ⟨[(2,.p 2 0),(5,.o 15),(7,.v (.b (ch)))],[(2,.blk [.v (.lf g.np g.pt),.v (.lf g.ne (fE g.ed))]),(15,.reg 2 1 (.fo (g.np:Int).toNat (fun v=>[.n .i64 (oc v)])))]⟩)):=by kernel_rfl
noncomputable def dcc2 (g:Gr):(Int × Bool × (Nat→Int))→(Int × Bool × (Nat→Int)) ⊕ (Nat × Int × Bool × (Nat→Int)):=fun t=>match t with | (i,ch,oc)=>(bif (decide (i < (g.ne:Int))) then (bif (inB i g.ne) then (bif (decide ((g.ed (i).toNat).s=2)) then (.inl ((vYX .i64 (i + 1)),ch,(fun v=>(oc v)))) else (bif (inB (g.ed (i).toNat).u (g.np:Int).toNat) then (bif (inB (g.ed (i).toNat).v (g.np:Int).toNat) then (bif (decide ((min (oc (g.ed (i).toNat).u.toNat) (vYX .i64 ((oc (g.ed (i).toNat).v.toNat) + (g.ed (i).toNat).c))) < (oc (g.ed (i).toNat).u.toNat))) then (.inl ((vYX .i64 (i + 1)),true,(fun v=>(bif (Nat.beq v (g.ed (i).toNat).v.toNat) then (min (oc (g.ed (i).toNat).v.toNat) (vYX .i64 ((oc (g.ed (i).toNat).u.toNat) + (g.ed (i).toNat).c))) else (bif (Nat.beq v (g.ed (i).toNat).u.toNat) then (min (oc (g.ed (i).toNat).u.toNat) (vYX .i64 ((oc (g.ed (i).toNat).v.toNat) + (g.ed (i).toNat).c))) else (oc v)))))) else (bif (decide ((min (oc (g.ed (i).toNat).v.toNat) (vYX .i64 ((oc (g.ed (i).toNat).u.toNat) + (g.ed (i).toNat).c))) < (oc (g.ed (i).toNat).v.toNat))) then (.inl ((vYX .i64 (i + 1)),true,(fun v=>(bif (Nat.beq v (g.ed (i).toNat).v.toNat) then (min (oc (g.ed (i).toNat).v.toNat) (vYX .i64 ((oc (g.ed (i).toNat).u.toNat) + (g.ed (i).toNat).c))) else (bif (Nat.beq v (g.ed (i).toNat).u.toNat) then (min (oc (g.ed (i).toNat).u.toNat) (vYX .i64 ((oc (g.ed (i).toNat).v.toNat) + (g.ed (i).toNat).c))) else (oc v)))))) else (.inl ((vYX .i64 (i + 1)),ch,(fun v=>(oc v)))))) else (.inr (1,(i,ch,oc)))) else (.inr (1,(i,ch,oc))))) else (.inr (1,(i,ch,oc)))) else (.inr (0,(i,ch,oc))))
noncomputable def kxc2 (N:Nat) (g:Gr) (b:Int) (K:Cont) (w9:Nat × Int × Bool × (Nat→Int)):Option (Ret × Mem):=bif Nat.beq w9.1 0 then (K (.exit 4) ⟨[(2,.p 2 0),(5,.o 15),(7,.v (.b (w9.2.2.1)))],[(2,.blk [.v (.lf g.np g.pt),.v (.lf g.ne (fE g.ed))]),(15,.reg 2 1 (.fo (g.np:Int).toNat (fun v=>[.n .i64 (w9.2.2.2 v)])))]⟩) else none
theorem wlc2 (K:Cont) (N:Nat) (g:Gr) (b:Int):∀ n9 (t:(Int × Bool × (Nat→Int))),LFX (N + 10) (cxS Tf (orc0 N g b) (N + 10) 38 (ntmF Tf 38)) (evX Tf (orc0 N g b) (N + 10) 38 (ntmF Tf 38)) (qY []) (qQ Tf 38 [0,1,1,0,1,0,0,1,0,1,1,1,1]) [0,1,1,0,1,0,0,1,0,1,1,1,1] (Tf.hint 38 (qJ (qQ Tf 38 [0,1,1,0,1,0,0,1,0,1,1,1,1]))) K n9 (hc2 N g b t.1 t.2.1 t.2.2)=(qU (dcc2 g) n9 t).bind (kxc2 N g b K):=fun n9 t=>by
 refine kG (L:=LFX (N + 10) (cxS Tf (orc0 N g b) (N + 10) 38 (ntmF Tf 38)) (evX Tf (orc0 N g b) (N + 10) 38 (ntmF Tf 38)) (qY []) (qQ Tf 38 [0,1,1,0,1,0,0,1,0,1,1,1,1]) [0,1,1,0,1,0,0,1,0,1,1,1,1] (Tf.hint 38 (qJ (qQ Tf 38 [0,1,1,0,1,0,0,1,0,1,1,1,1]))) K) (stp:=zH (N + 10) (cxS Tf (orc0 N g b) (N + 10) 38 (ntmF Tf 38)) (evX Tf (orc0 N g b) (N + 10) 38 (ntmF Tf 38)) (qY []) (qQ Tf 38 [0,1,1,0,1,0,0,1,0,1,1,1,1]) [0,1,1,0,1,0,0,1,0,1,1,1,1] (Tf.hint 38 (qJ (qQ Tf 38 [0,1,1,0,1,0,0,1,0,1,1,1,1]))) K) (fun _ _=>rfl) (fun _=>rfl) (fun t=>hc2 N g b t.1 t.2.1 t.2.2) (fun _=>True) (dcc2 g) (kxc2 N g b K) (fun G t _ => ?_) (fun _ _ _ _=>trivial) n9 t trivial;obtain ⟨i,ch,oc⟩:=t;refine (rdc2 G K N g b i ch oc).trans ?_;dsimp only [dcc2];cases (decide (i < (g.ne:Int)))
 ·rfl
 ·cases (inB i g.ne)
  ·rfl
  ·cases (decide ((g.ed (i).toNat).s=2))
   ·cases (inB (g.ed (i).toNat).u (g.np:Int).toNat)
    ·rfl
    ·cases (inB (g.ed (i).toNat).v (g.np:Int).toNat)
     ·rfl
     ·cases (decide ((min (oc (g.ed (i).toNat).u.toNat) (vYX .i64 ((oc (g.ed (i).toNat).v.toNat) + (g.ed (i).toNat).c))) < (oc (g.ed (i).toNat).u.toNat)))
      ·cases (decide ((min (oc (g.ed (i).toNat).v.toNat) (vYX .i64 ((oc (g.ed (i).toNat).u.toNat) + (g.ed (i).toNat).c))) < (oc (g.ed (i).toNat).v.toNat)))
       ·rfl
       ·rfl
      ·rfl
   ·rfl
noncomputable def qKY (N:Nat) (g:Gr) (t:(Int × Bool × (Nat→Int))):Bool:=(qU (dcc2 g) (N + 10) t).isSome
noncomputable def qYA (N:Nat) (g:Gr) (t:(Int × Bool × (Nat→Int))):Nat × Int × Bool × (Nat→Int):=(qU (dcc2 g) (N + 10) t).getD (99,t)
theorem lwc2 (K:Cont) (N:Nat) (g:Gr) (b:Int) (t:(Int × Bool × (Nat→Int))) (hg:qKY N g t=true):LFX (N + 10) (cxS Tf (orc0 N g b) (N + 10) 38 (ntmF Tf 38)) (evX Tf (orc0 N g b) (N + 10) 38 (ntmF Tf 38)) (qY []) (qQ Tf 38 [0,1,1,0,1,0,0,1,0,1,1,1,1]) [0,1,1,0,1,0,0,1,0,1,1,1,1] (Tf.hint 38 (qJ (qQ Tf 38 [0,1,1,0,1,0,0,1,0,1,1,1,1]))) K (N + 10) (hc2 N g b t.1 t.2.1 t.2.2)=kxc2 N g b K (qYA N g t):=by
 refine (wlc2 K N g b (N + 10) t).trans ?_;unfold qKY at hg;unfold qYA;cases h:qU (dcc2 g) (N + 10) t with
 | none=>rw [h] at hg; cases hg
 | some y=>rfl
theorem okc2 (N:Nat) (g:Gr) (b:Int):∀ p S,qY [([0,1,1,0,1,0,0,1,0,1,1,1,1],sumF (fun t:(Int × Bool × (Nat→Int))=>(hc2 N g b t.1 t.2.1 t.2.2)) (fun σ=>(slI σ 32,slB σ 7,rgI σ 15 0)) (fun t K=>(bif qKY N g t then kxc2 N g b K (qYA N g t) else none)))] p=some S→kQ (N + 10) (cxS Tf (orc0 N g b) (N + 10) 38 (ntmF Tf 38)) (qQ Tf 38 p) S:=fun p S hp=>by
 refine qW (L:=qQ Tf 38) (l:=[([0,1,1,0,1,0,0,1,0,1,1,1,1],sumF (fun t:(Int × Bool × (Nat→Int))=>(hc2 N g b t.1 t.2.1 t.2.2)) (fun σ=>(slI σ 32,slB σ 7,rgI σ 15 0)) (fun t K=>(bif qKY N g t then kxc2 N g b K (qYA N g t) else none)))]) ⟨?_,trivial⟩ p S hp;dsimp only;refine yZ (T:=Tf) (o:=(orc0 N g b)) (f:=38) (LO:=qY []) (p:=[0,1,1,0,1,0,0,1,0,1,1,1,1]) jQ ?_;intro t K r hr;obtain ⟨hg,hr⟩:=qZ hr
 skip
 exact (lwc2 K N g b t hg).trans hr
noncomputable def hc1 (N:Nat) (g:Gr) (b:Int) (ch:Bool) (oc:Nat→Int):St:=⟨[(2,.p 2 0),(5,.o 15),(7,.v (.b (ch)))],[(2,.blk [.v (.lf g.np g.pt),.v (.lf g.ne (fE g.ed))]),(15,.reg 2 1 (.fo (g.np:Int).toNat (fun v=>[.n .i64 (oc v)])))]⟩
set_option maxRecDepth 100000 in
theorem rdc1 (G:St→Option (Ret × Mem)) (K:Cont) (N:Nat) (g:Gr) (b:Int) (ch:Bool) (oc:Nat→Int):zH (N + 10) (cxS Tf (orc0 N g b) (N + 10) 38 (ntmF Tf 38)) (evX Tf (orc0 N g b) (N + 10) 38 (ntmF Tf 38)) (qY [([0,1,1,0,1,0,0,1,0,1,1,1,1],sumF (fun t:(Int × Bool × (Nat→Int))=>(hc2 N g b t.1 t.2.1 t.2.2)) (fun σ=>(slI σ 32,slB σ 7,rgI σ 15 0)) (fun t K=>(bif qKY N g t then kxc2 N g b K (qYA N g t) else none)))]) (qQ Tf 38 [0,1,0,1,1,1,1]) [0,1,0,1,1,1,1] (Tf.hint 38 (qJ (qQ Tf 38 [0,1,0,1,1,1,1]))) K G (hc1 N g b ch oc) =
 (bif ch then (bif (gSt (hc2 N g b 0 false (fun v=>(oc v))) (hc2 N g b 0 false (fun v=>(oc v)))) then (bif (qKY N g (0,false,(fun v=>(oc v)))) then (bif (Nat.beq (qYA N g (0,false,(fun v=>(oc v)))).1 0) then (G (hc1 N g b (qYA N g (0,false,(fun v=>(oc v)))).2.2.1 (fun v=>((qYA N g (0,false,(fun v=>(oc v)))).2.2.2 v))))
 else none)
 else none)
 else none)
 else (K (.exit 2) ⟨[(5,.o 15)],[(15,.reg 2 1 (.fo (g.np:Int).toNat (fun v=>[.n .i64 (oc v)])))]⟩)):=by kernel_rfl
noncomputable def dcc1 (N:Nat) (g:Gr) (b:Int):(Bool × (Nat→Int))→(Bool × (Nat→Int)) ⊕ (Nat × Bool × (Nat→Int)):=fun t=>match t with | (ch,oc)=>(bif ch then (bif (gSt (hc2 N g b 0 false (fun v=>(oc v))) (hc2 N g b 0 false (fun v=>(oc v)))) then (bif (qKY N g (0,false,(fun v=>(oc v)))) then (bif (Nat.beq (qYA N g (0,false,(fun v=>(oc v)))).1 0) then (.inl ((qYA N g (0,false,(fun v=>(oc v)))).2.2.1,(fun v=>((qYA N g (0,false,(fun v=>(oc v)))).2.2.2 v)))) else (.inr (1,(ch,oc)))) else (.inr (1,(ch,oc)))) else (.inr (1,(ch,oc)))) else (.inr (0,(ch,oc))))
noncomputable def kxc1 (N:Nat) (g:Gr) (b:Int) (K:Cont) (w9:Nat × Bool × (Nat→Int)):Option (Ret × Mem):=bif Nat.beq w9.1 0 then (K (.exit 2) ⟨[(5,.o 15)],[(15,.reg 2 1 (.fo (g.np:Int).toNat (fun v=>[.n .i64 (w9.2.2 v)])))]⟩) else none
theorem wlc1 (K:Cont) (N:Nat) (g:Gr) (b:Int):∀ n9 (t:(Bool × (Nat→Int))),LFX (N + 10) (cxS Tf (orc0 N g b) (N + 10) 38 (ntmF Tf 38)) (evX Tf (orc0 N g b) (N + 10) 38 (ntmF Tf 38)) (qY [([0,1,1,0,1,0,0,1,0,1,1,1,1],sumF (fun t:(Int × Bool × (Nat→Int))=>(hc2 N g b t.1 t.2.1 t.2.2)) (fun σ=>(slI σ 32,slB σ 7,rgI σ 15 0)) (fun t K=>(bif qKY N g t then kxc2 N g b K (qYA N g t) else none)))]) (qQ Tf 38 [0,1,0,1,1,1,1]) [0,1,0,1,1,1,1] (Tf.hint 38 (qJ (qQ Tf 38 [0,1,0,1,1,1,1]))) K n9 (hc1 N g b t.1 t.2)=(qU (dcc1 N g b) n9 t).bind (kxc1 N g b K):=fun n9 t=>by
 refine kG (L:=LFX (N + 10) (cxS Tf (orc0 N g b) (N + 10) 38 (ntmF Tf 38)) (evX Tf (orc0 N g b) (N + 10) 38 (ntmF Tf 38)) (qY [([0,1,1,0,1,0,0,1,0,1,1,1,1],sumF (fun t:(Int × Bool × (Nat→Int))=>(hc2 N g b t.1 t.2.1 t.2.2)) (fun σ=>(slI σ 32,slB σ 7,rgI σ 15 0)) (fun t K=>(bif qKY N g t then kxc2 N g b K (qYA N g t) else none)))]) (qQ Tf 38 [0,1,0,1,1,1,1]) [0,1,0,1,1,1,1] (Tf.hint 38 (qJ (qQ Tf 38 [0,1,0,1,1,1,1]))) K) (stp:=zH (N + 10) (cxS Tf (orc0 N g b) (N + 10) 38 (ntmF Tf 38)) (evX Tf (orc0 N g b) (N + 10) 38 (ntmF Tf 38)) (qY [([0,1,1,0,1,0,0,1,0,1,1,1,1],sumF (fun t:(Int × Bool × (Nat→Int))=>(hc2 N g b t.1 t.2.1 t.2.2)) (fun σ=>(slI σ 32,slB σ 7,rgI σ 15 0)) (fun t K=>(bif qKY N g t then kxc2 N g b K (qYA N g t) else none)))]) (qQ Tf 38 [0,1,0,1,1,1,1]) [0,1,0,1,1,1,1] (Tf.hint 38 (qJ (qQ Tf 38 [0,1,0,1,1,1,1]))) K) (fun _ _=>rfl) (fun _=>rfl) (fun t=>hc1 N g b t.1 t.2) (fun _=>True) (dcc1 N g b) (kxc1 N g b K) (fun G t _ => ?_) (fun _ _ _ _=>trivial) n9 t trivial;obtain ⟨ch,oc⟩:=t;refine (rdc1 G K N g b ch oc).trans ?_;dsimp only [dcc1];cases ch
 ·rfl
 ·cases (gSt (hc2 N g b 0 false (fun v=>(oc v))) (hc2 N g b 0 false (fun v=>(oc v))))
  ·rfl
  ·cases (qKY N g (0,false,(fun v=>(oc v))))
   ·rfl
   ·cases (Nat.beq (qYA N g (0,false,(fun v=>(oc v)))).1 0)
    ·rfl
    ·rfl
noncomputable def zWW (N:Nat) (g:Gr) (b:Int) (t:(Bool × (Nat→Int))):Bool:=(qU (dcc1 N g b) (N + 10) t).isSome
noncomputable def zZA (N:Nat) (g:Gr) (b:Int) (t:(Bool × (Nat→Int))):Nat × Bool × (Nat→Int):=(qU (dcc1 N g b) (N + 10) t).getD (99,t)
theorem lwc1 (K:Cont) (N:Nat) (g:Gr) (b:Int) (t:(Bool × (Nat→Int))) (hg:zWW N g b t=true):LFX (N + 10) (cxS Tf (orc0 N g b) (N + 10) 38 (ntmF Tf 38)) (evX Tf (orc0 N g b) (N + 10) 38 (ntmF Tf 38)) (qY [([0,1,1,0,1,0,0,1,0,1,1,1,1],sumF (fun t:(Int × Bool × (Nat→Int))=>(hc2 N g b t.1 t.2.1 t.2.2)) (fun σ=>(slI σ 32,slB σ 7,rgI σ 15 0)) (fun t K=>(bif qKY N g t then kxc2 N g b K (qYA N g t) else none)))]) (qQ Tf 38 [0,1,0,1,1,1,1]) [0,1,0,1,1,1,1] (Tf.hint 38 (qJ (qQ Tf 38 [0,1,0,1,1,1,1]))) K (N + 10) (hc1 N g b t.1 t.2)=kxc1 N g b K (zZA N g b t):=by
 refine (wlc1 K N g b (N + 10) t).trans ?_;unfold zWW at hg;unfold zZA;cases h:qU (dcc1 N g b) (N + 10) t with
 | none=>rw [h] at hg; cases hg
 | some y=>rfl
end Go.Proofs.Ytglkkhpdbfacfaa.Bu
namespace Go.Proofs.Ytglkkhpdbfacfaa.Bv
open Go.Rx Rt Go.Sx Go.RowKit Ba Bb Bc Bd Be Bf Bi Bj Bk Bm Bn Bo Bp Bq Br Bs Bu
abbrev Cst:=Bool × (Nat→Int)
def nxC (g:Gr) (i:Nat) (s:Cst):Cst:=bif decide ((g.ed i).s=2) then s else
 bif decide (min (s.2 (g.ed i).u.toNat) (s.2 (g.ed i).v.toNat + (g.ed i).c) < s.2 (g.ed i).u.toNat) || decide (min (s.2 (g.ed i).v.toNat) (s.2 (g.ed i).u.toNat + (g.ed i).c) < s.2 (g.ed i).v.toNat) then
  (true,setF (setF s.2 (g.ed i).u.toNat (min (s.2 (g.ed i).u.toNat) (s.2 (g.ed i).v.toNat + (g.ed i).c))) (g.ed i).v.toNat (min (s.2 (g.ed i).v.toNat) (s.2 (g.ed i).u.toNat + (g.ed i).c))) else s
def CsS (np:Nat) (oc:Nat→Int):Prop:=∀ v,v < np→0≤oc v∧oc v≤1152921504606846976
theorem yUY {g:Gr} (h:wfB g=true) {i:Nat} (hi:i < g.ne) (_:g.ne≤8192) {s:Cst} (hs:CsS g.np s.2):dcc2 g ((i:Int),s)=.inl (((i + 1:Nat):Int),nxC g i s):=by
 obtain ⟨e1,e2,e3,e4,e5⟩:=jU h hi;obtain ⟨ch,oc⟩:=s;have hU:inB (g.ed i).u g.np=true:=qZG (y:=(g.ed i).u.toNat) (by omega) (by omega);have hV:inB (g.ed i).v g.np=true:=qZG (y:=(g.ed i).v.toNat) (by omega) (by omega);have u1:=hs (g.ed i).u.toNat (by omega);have v1:=hs (g.ed i).v.toNat (by omega);dsimp only at u1 v1;have w1:vYX .i64 (oc (g.ed i).u.toNat + (g.ed i).c)=oc (g.ed i).u.toNat + (g.ed i).c:=yH (by omega);have w3:vYX .i64 (oc (g.ed i).v.toNat + (g.ed i).c)=oc (g.ed i).v.toNat + (g.ed i).c:=yH (by omega);dsimp only [dcc2];unfold nxC;simp only [toN,vYJ (show (i:Int) < (g.ne:Int) by omega),zU hi,uK (show i < 1000000 by omega),hU,hV,w1,w3,vYQ];cases decide ((g.ed i).s=2)
 ·simp only [vYZ];cases decide (min (oc (g.ed i).u.toNat) (oc (g.ed i).v.toNat + (g.ed i).c) < oc (g.ed i).u.toNat)
  ·simp only [vYZ,Bool.false_or];cases decide (min (oc (g.ed i).v.toNat) (oc (g.ed i).u.toNat + (g.ed i).c) < oc (g.ed i).v.toNat) <;> rfl
  ·rfl
 ·rfl
theorem yGE {g:Gr} {s:Cst}:dcc2 g ((g.ne:Int),s)=.inr (0,(g.ne:Int),s):=by
 obtain ⟨ch,oc⟩:=s;dsimp only [dcc2];rw [vYY (by omega)]; rfl
section
variable {g:Gr} {b:Nat}
structure CsW (g:Gr) (b:Nat) (oc:Nat→Int):Prop where
 wk:∀ v,v < g.np→oc v=1152921504606846976 ∨ ∃ p,WkG g 2 b v (oc v) p
 src:oc b=0
 sm:CsS g.np oc
structure CI (g:Gr) (b i:Nat) (c0:Nat→Int) (s:Cst):Prop where
 w:CsW g b s.2
 le:∀ v,v < g.np→s.2 v≤c0 v
 ed:∀ x y c,Jn g 2 i x ((y:Nat):Int) c→s.2 y≤c0 x + c
 ch:s.1=false→s=(false,c0)
theorem CI.next (hw:wfB g=true) (_:g.np≤100) (_:g.ne≤500) {i:Nat} {c0:Nat→Int} {s:Cst} (hi:i < g.ne) (h:CI g b i c0 s):CI g b (i + 1) c0 (nxC g i s):=by
 obtain ⟨e1,e2,e3,e4,e5⟩:=jU hw hi;have hU:(g.ed i).u.toNat < g.np:=by omega
 have hV:(g.ed i).v.toNat < g.np:=by omega
 have hne:(g.ed i).u.toNat ≠ (g.ed i).v.toNat:=by omega
 unfold nxC;cases hu:decide ((g.ed i).s=2) with
 | true =>
  simp only [vYQ];refine ⟨h.w,h.le,fun x y c ⟨e,q1,q2,q3⟩=>h.ed x y c ⟨e,?_,q2,q3⟩,h.ch⟩;by_cases ei:e=i
  ·subst ei
   have:=vYK hu
   rw [this] at q2;cases q2
  ·omega
 | false =>
  have hus:usB (g.ed i).s 2=true:=by unfold usB; rw [hu]; rfl
  have j1:Jn g 2 g.ne (g.ed i).u.toNat ((g.ed i).v.toNat:Int) (g.ed i).c:=⟨i,hi,hus,rfl,.inl ⟨rfl,by omega⟩⟩
  have j2:Jn g 2 g.ne (g.ed i).v.toNat ((g.ed i).u.toNat:Int) (g.ed i).c:=⟨i,hi,hus,rfl,.inr ⟨rfl,by omega⟩⟩
  have hle1:=h.le _ hU;have hle2:=h.le _ hV;have hs1:=h.w.sm _ hU;have hs2:=h.w.sm _ hV;simp only [vYZ];have edge:∀ (x y:Nat) (c:Int) (f:Nat→Int),(∀ v,v < g.np→f v≤s.2 v)→f (g.ed i).v.toNat≤s.2 (g.ed i).u.toNat + (g.ed i).c→f (g.ed i).u.toNat≤s.2 (g.ed i).v.toNat + (g.ed i).c→Jn g 2 (i + 1) x ((y:Nat):Int) c→f y≤c0 x + c:=fun x y c f hf h1 h2 ⟨e,q1,q2,q3,q4⟩=>by
   by_cases ei:e=i
   ·subst ei;rcases q4 with ⟨r1,r2⟩ | ⟨r1,r2⟩
    ·obtain rfl:y=(g.ed e).v.toNat:=by omega
     subst r1; omega
    ·obtain rfl:y=(g.ed e).u.toNat:=by omega
     subst r1; omega
   ·have he:=jU hw (show e < g.ne by omega)
    have:=h.ed x y c ⟨e,by omega,q2,q3,q4⟩
    have:=hf y (by rcases q4 with q4 | q4 <;> omega)
    omega
  cases hc:decide (min (s.2 (g.ed i).u.toNat) (s.2 (g.ed i).v.toNat + (g.ed i).c) < s.2 (g.ed i).u.toNat) || decide (min (s.2 (g.ed i).v.toNat) (s.2 (g.ed i).u.toNat + (g.ed i).c) < s.2 (g.ed i).v.toNat) with
  | false =>
   simp only [Bool.or_eq_false_iff,decide_eq_false_iff_not] at hc;simp only [vYZ];exact ⟨h.w,h.le,fun x y c hj=>edge x y c s.2 (fun _ _=>Int.le_refl _) (by omega) (by omega) hj,h.ch⟩
  | true =>
   simp only [vYQ];have eU:setF (setF s.2 (g.ed i).u.toNat (min (s.2 (g.ed i).u.toNat) (s.2 (g.ed i).v.toNat + (g.ed i).c))) (g.ed i).v.toNat (min (s.2 (g.ed i).v.toNat) (s.2 (g.ed i).u.toNat + (g.ed i).c)) (g.ed i).u.toNat=min (s.2 (g.ed i).u.toNat) (s.2 (g.ed i).v.toNat + (g.ed i).c):=by rw [zY hne,yU]
   have eV:setF (setF s.2 (g.ed i).u.toNat (min (s.2 (g.ed i).u.toNat) (s.2 (g.ed i).v.toNat + (g.ed i).c))) (g.ed i).v.toNat (min (s.2 (g.ed i).v.toNat) (s.2 (g.ed i).u.toNat + (g.ed i).c)) (g.ed i).v.toNat=min (s.2 (g.ed i).v.toNat) (s.2 (g.ed i).u.toNat + (g.ed i).c):=by rw [yU]
   have eN:∀ v,v ≠ (g.ed i).u.toNat→v ≠ (g.ed i).v.toNat→setF (setF s.2 (g.ed i).u.toNat (min (s.2 (g.ed i).u.toNat) (s.2 (g.ed i).v.toNat + (g.ed i).c))) (g.ed i).v.toNat (min (s.2 (g.ed i).v.toNat) (s.2 (g.ed i).u.toNat + (g.ed i).c)) v=s.2 v:=fun v h1 h2=>by rw [zY h2,zY h1]
   generalize setF (setF s.2 (g.ed i).u.toNat (min (s.2 (g.ed i).u.toNat) (s.2 (g.ed i).v.toNat + (g.ed i).c))) (g.ed i).v.toNat (min (s.2 (g.ed i).v.toNat) (s.2 (g.ed i).u.toNat + (g.ed i).c))=f at eU eV eN;have hf:∀ v,v < g.np→f v≤s.2 v:=fun v hv=>by
    by_cases h1:v=(g.ed i).u.toNat
    ·rw [h1,eU]; omega
    ·by_cases h2:v=(g.ed i).v.toNat
     ·rw [h2,eV]; omega
     ·rw [eN v h1 h2]; exact Int.le_refl _
   refine ⟨⟨fun v hv => ?_,?_,fun v hv => ?_⟩,fun v hv=>by have:=hf v hv; have:=h.le v hv; dsimp only; omega,fun x y c hj=>edge x y c f hf (by omega) (by omega) hj,fun hf=>by cases hf⟩
   ·dsimp only;by_cases h1:v=(g.ed i).u.toNat
    ·subst h1;rw [eU];rcases Int.le_total (s.2 (g.ed i).u.toNat) (s.2 (g.ed i).v.toNat + (g.ed i).c) with hm | hm
     ·rw [Int.min_eq_left hm]; exact h.w.wk _ hU
     ·rw [Int.min_eq_right hm];rcases h.w.wk _ hV with q | ⟨p,q⟩
      ·exact .inl (by omega)
      ·exact .inr ⟨_,q.edge hV j2⟩
    ·by_cases h2:v=(g.ed i).v.toNat
     ·subst h2;rw [eV];rcases Int.le_total (s.2 (g.ed i).v.toNat) (s.2 (g.ed i).u.toNat + (g.ed i).c) with hm | hm
      ·rw [Int.min_eq_left hm]; exact h.w.wk _ hV
      ·rw [Int.min_eq_right hm];rcases h.w.wk _ hU with q | ⟨p,q⟩
       ·exact .inl (by omega)
       ·exact .inr ⟨_,q.edge hU j1⟩
     ·rw [eN v h1 h2]; exact h.w.wk v hv
   ·dsimp only;have hb:=h.w.src;by_cases h1:b=(g.ed i).u.toNat
    ·rw [h1,eU]; rw [h1] at hb; omega
    ·by_cases h2:b=(g.ed i).v.toNat
     ·rw [h2,eV]; rw [h2] at hb; omega
     ·rw [eN b h1 h2]; exact hb
   ·dsimp only
    have:=h.w.sm v hv
    by_cases h1:v=(g.ed i).u.toNat
    ·rw [h1,eU]; omega
    ·by_cases h2:v=(g.ed i).v.toNat
     ·rw [h2,eV]; omega
     ·rw [eN v h1 h2]; exact this
end
end Go.Proofs.Ytglkkhpdbfacfaa.Bv
namespace Go.Proofs.Ytglkkhpdbfacfaa.Bw
open Go.Rx Rt Go.Sx Go.RowKit Ba Bb Bc Bd Be Bf Bi Bj Bk Bm Bn Bo Bp Bq Br Bs Bu Bv
section
variable {g:Gr} {b:Nat}
def KCs (g:Gr) (b:Nat) (oc:Nat→Int) (k:Int):Prop:=∀ v c p,WkG g 2 b v c p→p≤k + 1→oc v≤c
def BCs (g:Gr) (b:Nat) (oc:Nat→Int):Prop:=∀ v c p,WkG g 2 b v c p→oc v≤c
theorem KCs.best (hw:wfB g=true) (hp:g.np≤100) (hn:g.ne≤500) (hb:b < g.np) {oc:Nat→Int} {k:Int} (_:100≤k) (h:KCs g b oc k):BCs g b oc:=fun v c p hv=>by
 have hl:=(qKJ (m:=2) hw hp hn).1;have hvn:=Wk.ltn hl hb hv;rcases jKK (m:=2) hw hp hn hvn hb with h1 | ⟨c0,p0,h1,h2,h3⟩
 ·exact absurd hv (h1 c p)
 ·have:=h v c0 p0 h1 (by omega)
  have h4:=h3 c p hv;unfold leR at h4; omega
theorem CI.step (_:wfB g=true) (_:g.np≤100) (_:g.ne≤500) {c0:Nat→Int} {s:Cst} {k:Int} (h:CI g b g.ne c0 s) (hk:KCs g b c0 k):KCs g b s.2 (k + 1):=fun v c p hv hpk=>by
 cases hv with
 | nil=>rw [h.w.src]; exact Int.le_refl _
 | @cons x y w c p hv hx hwl hy =>
  have h1:=hk x c p hv (by omega);have h2:=h.ed x v _ (yJA hwl hy);omega
theorem CI.stable {c0:Nat→Int} (h:CI g b g.ne c0 (false,c0)):BCs g b c0:=fun v c p hv=>by
 induction hv with
 | nil=>rw [show c0 b=0 from h.w.src]; exact Int.le_refl _
 | @cons x y w c p hv hx hwl hy ih =>
  have h2:c0 y≤c0 x + _:=h.ed x y _ (yJA hwl hy);omega
theorem yWE (hw:wfB g=true) {oc:Nat→Int} (h:CsW g b oc) (hb:BCs g b oc) {i:Nat} (hi:i < g.ne):nxC g i (false,oc)=(false,oc):=by
 obtain ⟨e1,e2,e3,e4,e5⟩:=jU hw hi;have hU:(g.ed i).u.toNat < g.np:=by omega
 have hV:(g.ed i).v.toNat < g.np:=by omega
 unfold nxC;cases hu:decide ((g.ed i).s=2) with
 | true=>rfl
 | false =>
  have hus:usB (g.ed i).s 2=true:=by unfold usB; rw [hu]; rfl
  have s1:=h.sm _ hU;have s2:=h.sm _ hV;have q1:oc (g.ed i).v.toNat≤oc (g.ed i).u.toNat + (g.ed i).c:=by
   rcases h.wk _ hU with q | ⟨p,q⟩
   ·omega
   ·exact hb _ _ _ (q.edge hU ⟨i,hi,hus,rfl,.inl ⟨rfl,by omega⟩⟩)
  have q2:oc (g.ed i).u.toNat≤oc (g.ed i).v.toNat + (g.ed i).c:=by
   rcases h.wk _ hV with q | ⟨p,q⟩
   ·omega
   ·exact hb _ _ _ (q.edge hV ⟨i,hi,hus,rfl,.inr ⟨rfl,by omega⟩⟩)
  simp only [vYZ];rw [vYY (show ¬ min (oc (g.ed i).u.toNat) (oc (g.ed i).v.toNat + (g.ed i).c) < oc (g.ed i).u.toNat by omega),vYY (show ¬ min (oc (g.ed i).v.toNat) (oc (g.ed i).u.toNat + (g.ed i).c) < oc (g.ed i).v.toNat by omega)];rfl
theorem kZB (hw:wfB g=true) (hp:g.np≤100) (hn:g.ne≤500) {c0:Nat→Int} (h:CsW g b c0) {N:Nat} (hN:g.ne < N) :
  qU (dcc2 g) N (0,false,c0)=some (0,(g.ne:Int),qUW (nxC g) g.ne 0 (false,c0))∧CI g b g.ne c0 (qUW (nxC g) g.ne 0 (false,c0)):=by
 have hR:CI g b 0 c0 (false,c0):=⟨h,fun v _=>Int.le_refl _,fun x y c ⟨e,h,_⟩=>absurd h (Nat.not_lt_zero e),fun _=>rfl⟩
 refine ⟨jZ (dec:=dcc2 g) (nx:=nxC g) (Q:=fun (i:Nat) (s:Cst)=>CI g b i c0 s) (out:=fun s=>((g.ne:Int),s)) (c:=g.ne) (fun i s hi hq=>yUY hw hi (by omega) hq.w.sm) (fun i s hi hq=>hq.next hw hp hn hi) (fun s _=>yGE) g.ne 0 N _ (by omega) hN hR,?_⟩;exact jG (Q:=fun (i:Nat) (s:Cst)=>CI g b i c0 s) (c:=g.ne) (nx:=nxC g) (fun i s hi hq=>hq.next hw hp hn hi) g.ne 0 _ (by omega) hR
theorem jKQ {N:Nat} {B:Int} {oc:Nat→Int} {j:Int} {s:Cst} (h:qU (dcc2 g) (N + 10) (0,false,oc)=some (0,j,s)):dcc1 N g B (true,oc)=.inl s:=by
 have ho:qYA N g (0,false,(fun v=>(oc v)))=(0,j,s):=by
  unfold qYA;show (qU (dcc2 g) (N + 10) (0,false,oc)).getD _=_;rw [h]; rfl
 have hk:qKY N g (0,false,(fun v=>(oc v)))=true:=by
  unfold qKY;show (qU (dcc2 g) (N + 10) (0,false,oc)).isSome=_;rw [h]; rfl
 dsimp only [dcc1];rw [yQ,ho,hk]; rfl
theorem yGF {N:Nat} {B:Int} {oc:Nat→Int}:dcc1 N g B (false,oc)=.inr (0,false,oc):=rfl
theorem jVX (hw:wfB g=true) (hp:g.np≤100) (hn:g.ne≤500) (hb:b < g.np) {N:Nat} (hN:g.ne < N + 10) (B:Int):∀ (j k M:Nat) (oc:Nat→Int),j + k=101→j + 2 < M→CsW g b oc→KCs g b oc (k:Int) →
  ∃ oc',qU (dcc1 N g B) M (true,oc)=some (0,false,oc')∧CsW g b oc'∧BCs g b oc'
 | j,k,0,oc,hj,hM,h,hk=>by omega
 | j,k,M + 1,oc,hj,hM,h,hk=>by
  obtain ⟨h1,h2⟩:=kZB hw hp hn h hN;rw [qU,jKQ h1];cases hs1:(qUW (nxC g) g.ne 0 (false,oc)).1 with
  | false =>
   have e:=h2.ch hs1;rw [e] at h2 ⊢;obtain ⟨M,rfl⟩:∃ K,M=K + 1:=⟨M - 1,by omega⟩
   exact ⟨oc,by simp only [qU,yGF],h,CI.stable h2⟩
  | true =>
   by_cases h101:100≤k
   ·exfalso;have hbst:=KCs.best hw hp hn hb (show (100:Int)≤(k:Int) by omega) hk
    have:qUW (nxC g) g.ne 0 (false,oc)=(false,oc):=jG (Q:=fun (_:Nat) (s:Cst)=>s=(false,oc)) (c:=g.ne) (nx:=nxC g) (fun i s hi hq=>by rw [hq]; exact yWE hw h hbst hi) g.ne 0 _ (by omega) rfl
    rw [this] at hs1; cases hs1
   ·generalize qUW (nxC g) g.ne 0 (false,oc)=s at *;obtain ⟨ag,oc'⟩:=s;dsimp only at hs1;subst hs1;exact jVX hw hp hn hb hN B (j - 1) (k + 1) M oc' (by omega) (by omega) h2.w (by
     have:=CI.step hw hp hn h2 hk
     rw [show ((k + 1:Nat):Int)=(k:Int) + 1 by omega];exact this)
end
end Go.Proofs.Ytglkkhpdbfacfaa.Bw
namespace Go.Proofs.Ytglkkhpdbfacfaa.Bx
open Go.Rx Rt Go.Sx Go.RowKit Ba Bb Bc Bd Be Bf Bi Bj Bk Bh Bm Bn Bo Bp Bq Br Bs Bt Bu Bv Bw
theorem yUJ {g:Gr} (_:g.np≤100) {i:Nat} (hi:i < g.np) {s:Nat→Int}:dcc0 g ((i:Int),s)=.inl (((i + 1:Nat):Int),setF s i 1152921504606846976):=by
 dsimp only [dcc0];simp only [toN,vYJ (show (i:Int) < (g.np:Int) by omega),zU hi,uK (show i < 1000000 by omega),vYQ];rfl
theorem yGI {g:Gr} {s:Nat→Int}:dcc0 g ((g.np:Int),s)=.inr (0,(g.np:Int),s):=by
 dsimp only [dcc0];rw [toN,vYY (by omega)]; rfl
theorem kZC {g:Gr} (hp:g.np≤100) {N:Nat} (hN:g.np < N):∃ oc:Nat→Int,qU (dcc0 g) N (0,zN)=some (0,(g.np:Int),oc)∧∀ v,v < g.np→oc v=1152921504606846976:=by
 have h1:=jZ (dec:=dcc0 g) (nx:=fun (i:Nat) (s:Nat→Int)=>setF s i 1152921504606846976) (Q:=fun _ _=>True) (out:=fun s=>((g.np:Int),s)) (c:=g.np) (fun i s hi _=>yUJ hp hi) (fun _ _ _ _=>trivial) (fun s _=>yGI) g.np 0 N zN (by omega) hN trivial;have h2:=jG (Q:=fun (i:Nat) (s:Nat→Int)=>∀ v,v < i→s v=1152921504606846976) (c:=g.np) (nx:=fun (i:Nat) (s:Nat→Int)=>setF s i 1152921504606846976) (fun i s hi hq v hv=>by
  by_cases e:v=i
  ·subst e; exact yU _ _ _
  ·rw [zY e]; exact hq v (by omega)) g.np 0 zN (by omega) (fun v hv=>absurd hv (Nat.not_lt_zero v))
 exact ⟨_,h1,h2⟩
noncomputable def csT (g:Gr) (b:Int):Nat→Int:=(zZA NN g b (true,(fun v=>(bif (Nat.beq v (b).toNat) then 0 else ((qJX NN g (0,zN)).2.2 v))))).2.2
theorem jKY {g:Gr} {b:Nat} (hw:wfB g=true) (hp:g.np≤100) (hn:g.ne≤500) (hb:b < g.np):zWV NN g (0,zN)=true∧(qJX NN g (0,zN)).1=0∧zWW NN g (b:Int) (true,(fun v=>(bif (Nat.beq v (b:Int).toNat) then 0 else ((qJX NN g (0,zN)).2.2 v))))=true∧(zZA NN g (b:Int) (true,(fun v=>(bif (Nat.beq v (b:Int).toNat) then 0 else ((qJX NN g (0,zN)).2.2 v))))).1=0∧CsW g b (csT g b)∧BCs g b (csT g b):=by
 have hl:=(qKJ (m:=2) hw hp hn).1;obtain ⟨oc,h1,h2⟩:=kZC hp (show g.np < NN + 10 by rw [qYK]; omega);have o0:qJX NN g (0,zN)=(0,(g.np:Int),oc):=by unfold qJX; rw [h1]; rfl
 have k0:zWV NN g (0,zN)=true:=by unfold zWV; rw [h1]; rfl
 have z:∀ (f:Nat→Int) (v:Nat),(bif Nat.beq v (b:Int).toNat then (0:Int) else f v)=if v=b then 0 else f v:=fun f v=>by
  rw [toN,uH];by_cases e:v=b
  ·rw [vYJ e,if_pos e]; rfl
  ·rw [vYY e,if_neg e]; rfl
 have hW:CsW g b (fun v=>(bif (Nat.beq v (b:Int).toNat) then 0 else (oc v))):=by
  refine ⟨fun v hv => ?_,?_,fun v hv => ?_⟩
  ·simp only [z];by_cases e:v=b
   ·subst e; rw [if_pos rfl]; exact .inr ⟨1,.nil⟩
   ·rw [if_neg e]; exact .inl (h2 v hv)
  ·simp only [z,if_true]
  ·simp only [z];by_cases e:v=b
   ·rw [if_pos e]; omega
   ·rw [if_neg e,h2 v hv]; omega
 have hK:KCs g b (fun v=>(bif (Nat.beq v (b:Int).toNat) then 0 else (oc v))) ((0:Nat):Int):=fun v c p hv hpk=>by
  have hbd:=hv.bd hl;obtain ⟨rfl,rfl⟩:=hv.one hl (by omega);simp only [z,if_true];omega
 obtain ⟨oc',q1,q2,q3⟩:=jVX hw hp hn hb (N:=NN) (show g.ne < NN + 10 by rw [qYK]; omega) (b:Int) 101 0 (NN + 10) _ (by omega) (by rw [qYK]; omega) hW hK;have o1:zZA NN g (b:Int) (true,(fun v=>(bif (Nat.beq v (b:Int).toNat) then 0 else ((qJX NN g (0,zN)).2.2 v))))=(0,false,oc'):=by rw [o0]; unfold zZA; rw [q1]; rfl
 have k1:zWW NN g (b:Int) (true,(fun v=>(bif (Nat.beq v (b:Int).toNat) then 0 else ((qJX NN g (0,zN)).2.2 v))))=true:=by rw [o0]; unfold zWW; rw [q1]; rfl
 have hT:csT g b=oc':=by unfold csT; rw [o1]
 rw [hT];exact ⟨k0,by rw [o0],k1,by rw [o1],q2,q3⟩
noncomputable def lscs (N:Nat) (g:Gr) (b:Int):List (List Nat × yK):=[([0,1,0,1,1],sumF (fun t:(Int × (Nat→Int))=>(hc0 N g b t.1 t.2)) (fun σ=>(slI σ 18,rgI σ 15 0)) (fun t K=>(bif zWV N g t then kxc0 N g b K (qJX N g t) else none))),([0,1,0,1,1,1,1],sumF (fun t:(Bool × (Nat→Int))=>(hc1 N g b t.1 t.2)) (fun σ=>(slB σ 7,rgI σ 15 0)) (fun t K=>(bif zWW N g b t then kxc1 N g b K (zZA N g b t) else none)))]
set_option maxRecDepth 100000 in
theorem pxcs (N:Nat) (g:Gr) (b:Int):qQK Tf (orc0 N g b) (qY (lscs N g b)) (N + 10) 38 [.a (gP g),.n .i64 b] =
 (bif (decide (0≤(g.np:Int))) then (bif (decide ((g.np:Int)≤(g.np:Int))) then (bif (decide ((g.np:Int)≤1000000)) then (bif (gSt (hc0 N g b 0 zN) (hc0 N g b 0 zN)) then (bif (zWV N g (0,zN)) then (bif (Nat.beq (qJX N g (0,zN)).1 0) then (bif (inB b (g.np:Int).toNat) then (bif (gSt (hc1 N g b true (fun v=>(bif (Nat.beq v (b).toNat) then 0 else ((qJX N g (0,zN)).2.2 v)))) (hc1 N g b true (fun v=>(bif (Nat.beq v (b).toNat) then 0 else ((qJX N g (0,zN)).2.2 v))))) then (bif (zWW N g b (true,(fun v=>(bif (Nat.beq v (b).toNat) then 0 else ((qJX N g (0,zN)).2.2 v))))) then (bif (Nat.beq (zZA N g b (true,(fun v=>(bif (Nat.beq v (b).toNat) then 0 else ((qJX N g (0,zN)).2.2 v))))).1 0) then some (.ow 2 1 (.fo (g.np:Int).toNat (fun v=>[.n .i64 ((zZA N g b (true,(fun v=>(bif (Nat.beq v (b).toNat) then 0 else ((qJX N g (0,zN)).2.2 v))))).2.2 v)])),[])
 else none)
 else none)
 else none)
 else none)
 else none)
 else none)
 else none)
 else none)
 else none)
 else none):=by kernel_rfl
theorem jUB (N:Nat) (g:Gr) (b:Int) (b0:Nat) (eb:b=(b0:Int)) (hN:N=NN) (hw:wfB g=true) (hp:g.np≤100) (hn:g.ne≤500) (hb:b0 < g.np):yY Try.prog 38 [.a (gP g),.n .i64 b] (.ow 2 1 (.fo g.np (fQ (csT g b)))):=by
 refine qG (N:=(N + 10)) (LO:=qY (lscs N g b)) yV yX (yG (l:=[]) (m:=[]) trivial trivial) (fun p S hp => ?_) ?_
 ·refine qW (L:=qQ Tf 38) (l:=(lscs N g b)) (show AllP _ (lscs N g b) from ⟨?_,?_,trivial⟩) p S hp
  ·dsimp only;refine yZ (T:=Tf) (o:=(orc0 N g b)) (f:=38) (LO:=qY []) (p:=[0,1,0,1,1]) jQ ?_;intro t K r hr;obtain ⟨hg,hr⟩:=qZ hr
   skip
   exact (lwc0 K N g b t hg).trans hr
  ·dsimp only;refine yZ (T:=Tf) (o:=(orc0 N g b)) (f:=38) (LO:=(qY [([0,1,1,0,1,0,0,1,0,1,1,1,1],sumF (fun t:(Int × Bool × (Nat→Int))=>(hc2 N g b t.1 t.2.1 t.2.2)) (fun σ=>(slI σ 32,slB σ 7,rgI σ 15 0)) (fun t K=>(bif qKY N g t then kxc2 N g b K (qYA N g t) else none)))])) (p:=[0,1,0,1,1,1,1]) (okc2 N g b) ?_;intro t K r hr;obtain ⟨hg,hr⟩:=qZ hr
   skip
   exact (lwc1 K N g b t hg).trans hr
 ·refine (pxcs N g b).trans ?_;subst eb hN;obtain ⟨s1,s2,s3,s4,_,_⟩:=jKY hw hp hn hb;simp only [vYJ (show (0:Int)≤(g.np:Int) by omega),vYJ (show (g.np:Int)≤(g.np:Int) by omega),vYJ (show (g.np:Int)≤1000000 by omega),yQ,s1,s2,qZG (n:=(g.np:Int).toNat) rfl (by rw [toN]; exact hb),vYQ,Nat.beq_refl];rw [s3,s4];rfl
end Go.Proofs.Ytglkkhpdbfacfaa.Bx
namespace Go.Proofs.Ytglkkhpdbfacfaa.By
open Go.Rx Rt Go.Sx Go.RowKit Ba Bb Bc Bd Be Bf Bi Bj Bk Bl Bm Bn Bo Bp Bq Br Bs Bt Bu Bv Bw Bx
section
variable {np:Nat} {ln:Nat→Nat} {lt lc:Nat→Nat→Int}
theorem Wk.front {x y w:Nat} (hy:y < np) (hw:w < ln y) (hx:lt y w=(x:Int)) {z:Nat} {c p:Int} (h:Wk np ln lt lc x z c p):Wk np ln lt lc y z (c + lc y w) (p + 1):=by
 induction h with
 | nil=>exact .cons .nil hy hw hx
 | @cons u z w2 c p h hu hw2 hz ih =>
  rw [show c + lc u w2 + lc y w=c + lc y w + lc u w2 by omega];exact .cons ih hu hw2 hz
theorem Wk.rev (hl:LOk np ln lt lc) (hs:LSym np ln lt lc) {b x:Nat} {c p:Int} (h:Wk np ln lt lc b x c p):Wk np ln lt lc x b c p:=by
 induction h with
 | nil=>exact .nil
 | @cons x y w c p h hx hw hy ih =>
  obtain ⟨w',g1,g2,g3⟩:=hs x w y hx hw hy;have ht:=hl.hto x w hx hw;rw [← g3];exact Wk.front (by omega) g1 g2 ih
end
section
variable {g:Gr} {m:Int} {b:Nat}
theorem WkG.rev (hw:wfB g=true) (hp:g.np≤100) (hn:g.ne≤500) {x:Nat} {c p:Int} (h:WkG g m b x c p):WkG g m x b c p:=Wk.rev (qKJ hw hp hn).1 (qKJ hw hp hn).2 h
def Least (g:Gr) (m:Int) (b v:Nat) (c:Int):Prop:=(∃ p,WkG g m b v c p)∧∀ c' p',WkG g m b v c' p'→c≤c'
theorem Least.uniq {v:Nat} {c c':Int} (h:Least g m b v c) (h':Least g m b v c'):c=c':=by
 obtain ⟨⟨p,h1⟩,h2⟩:=h;obtain ⟨⟨p',h3⟩,h4⟩:=h'
 have:=h2 _ _ h3
 have:=h4 _ _ h1
 omega
theorem yVF (hw:wfB g=true) (hp:g.np≤100) (hn:g.ne≤500) (hb:b < g.np) {v:Nat} (hv:v < g.np):((lbT g b m).2.1 v < 0∧∀ c p,¬ WkG g m b v c p) ∨ (0≤(lbT g b m).2.1 v∧Least g m b v ((lbT g b m).2.1 v)):=by
 have hl:=(qKJ (m:=m) hw hp hn).1;obtain ⟨_,_,_,_,h1,h2⟩:=zYJ (m:=m) hw hp hn hb;by_cases h0:(lbT g b m).2.1 v < 0
 ·refine .inl ⟨h0,fun c p h => ?_⟩
  have:=h2 v c p h
  have hbd:=h.bd hl;unfold leL at this; omega
 ·refine .inr ⟨by omega,?_,fun c p h => ?_⟩
  ·rcases h1.wk v hv with h3 | h3
   ·omega
   ·exact ⟨_,h3⟩
  ·have:=h2 v c p h
   have hbd:=h.bd hl;unfold leL leR at this; omega
theorem zZQ (hw:wfB g=true) (hp:g.np≤100) (hn:g.ne≤500) {a:Nat} (ha:a < g.np) (hb:b < g.np):(shF g.np (lkO g m).1 (lkO g m).2.1 (lkO g m).2.2 a b=false∧∀ c p,¬ WkG g m a b c p) ∨ (shF g.np (lkO g m).1 (lkO g m).2.1 (lkO g m).2.2 a b=true∧Least g m a b (shC g.np (lkO g m).1 (lkO g m).2.1 (lkO g m).2.2 a b)):=by
 obtain ⟨h1,h2⟩:=qKJ (m:=m) hw hp hn;obtain ⟨_,_,h3⟩:=qGZ h1 h2 ha hb;rcases h3 with ⟨h3,h4⟩ | ⟨h3,_,_,_,⟨p,h5⟩,h6⟩
 ·exact .inl ⟨h3,fun c p h=>h4 c p (Wk.rev h1 h2 h)⟩
 ·exact .inr ⟨h3,⟨p,Wk.rev h1 h2 h5⟩,fun c p h=>h6 c p (Wk.rev h1 h2 h)⟩
theorem jZY (hw:wfB g=true) (hp:g.np≤100) (hn:g.ne≤500) (hb:b < g.np):shF g.np (lkO g m).1 (lkO g m).2.1 (lkO g m).2.2 b b=true:=by
 rcases zZQ (m:=m) hw hp hn hb hb with ⟨_,h⟩ | ⟨h,_⟩
 ·exact absurd Wk.nil (h 0 1)
 ·exact h
end
end Go.Proofs.Ytglkkhpdbfacfaa.By
namespace Go.Proofs.Ytglkkhpdbfacfaa.Bz
open Go.Rx Rt Go.Sx Go.RowKit Ba Bb Bc Bd Be Bf Bi Bj Bk Bl Bh Bm Bn Bo Bp Bq Br Bs Bt Bu Bv Bw Bx By
def clb:Gr × Int × Int→Prop:=fun t=>match t with | (g,b,_)=>wfB g=true∧g.np≤100∧g.ne≤500∧0≤b∧b < (g.np:Int)
def elb:Gr × Int × Int→List PV:=fun t=>match t with | (g,b,m)=>[.a (gP g),.n .i64 b,.n .i64 m]
noncomputable def rlb:Gr × Int × Int→Ret:=fun t=>match t with | (g,b,m)=>.ow 76 2 (.fo g.np (tcP (lbT g b m).2.1 (lbT g b m).2.2))
def dlb:List PV→Gr × Int × Int:=fun ps=>match ps with
 | [.a [.lf np pt,.lf ne ed],.n _ b,.n _ m]=>(⟨np,pt,ne,unFE ed⟩,b,m)
 | _=>(⟨0,fun _=>[],0,fun _=>unE []⟩,0,0)
noncomputable def o_lb:List PV→Option (Bool × Ret):=o_fm dlb clb elb rlb
theorem kQW:qQY Try.prog 33 o_lb:=qQF fun t h=>by
 obtain ⟨g,b,m⟩:=t;exact by
  have h:wfB g=true∧g.np≤100∧g.ne≤500∧0≤b∧b < (g.np:Int):=h;exact jUU NN g b m b.toNat (by omega) rfl h.1 h.2.1 h.2.2.1 (by omega)
def ccs:Gr × Int→Prop:=fun t=>match t with | (g,b)=>wfB g=true∧g.np≤100∧g.ne≤500∧0≤b∧b < (g.np:Int)
def ecs:Gr × Int→List PV:=fun t=>match t with | (g,b)=>[.a (gP g),.n .i64 b]
noncomputable def rcs:Gr × Int→Ret:=fun t=>match t with | (g,b)=>.ow 2 1 (.fo g.np (fQ (csT g b)))
def dcs:List PV→Gr × Int:=fun ps=>match ps with
 | [.a [.lf np pt,.lf ne ed],.n _ b]=>(⟨np,pt,ne,unFE ed⟩,b)
 | _=>(⟨0,fun _=>[],0,fun _=>unE []⟩,0)
noncomputable def o_cs:List PV→Option (Bool × Ret):=o_fm dcs ccs ecs rcs
theorem kQC:qQY Try.prog 38 o_cs:=qQF fun t h=>by
 obtain ⟨g,b⟩:=t;exact by
  have h:wfB g=true∧g.np≤100∧g.ne≤500∧0≤b∧b < (g.np:Int):=h;exact jUB NN g b b.toNat (by omega) rfl h.1 h.2.1 h.2.2.1 (by omega)
theorem yXK {g:Gr} (hp:g.np≤100) (hn:g.ne≤500) (v:Int):stF g v v 2=(wfB g && isP g v):=by
 unfold stF stQ;cases hw:wfB g with
 | false=>rfl
 | true =>
  cases hv:isP g v with
  | false=>rfl
  | true =>
   have h:=qUV hv;obtain ⟨n,rfl⟩:∃ n:Nat,v=(n:Int):=⟨v.toNat,by omega⟩
   exact jZY hw hp hn (by omega)
noncomputable def orhp (g:Gr) (a b:Int):OrS:=orS [(37,o_st)] []
noncomputable def lshp (g:Gr) (a b:Int):List (List Nat × yK):=[]
set_option maxRecDepth 100000 in
theorem pxhp (g:Gr) (a b:Int):qQK Tf (orhp g a b) (qY (lshp g a b)) 60 41 [.a (gP g),.n .i64 a,.n .i64 b] =
 (bif (gF1 cst est (g,a,a,2)) then (bif (stF g a a 2) then (bif (gF1 cst est (g,b,b,2)) then (bif (stF g b b 2) then some (.v (.b true),[])
 else some (.v (.b false),[]))
 else none)
 else some (.v (.b false),[]))
 else none):=by kernel_rfl
theorem jUV (g:Gr) (a b:Int) (hp:g.np≤100) (hn:g.ne≤500):yY Try.prog 41 [.a (gP g),.n .i64 a,.n .i64 b] (.v (.b (wfB g && (isP g a && isP g b)))):=by
 refine qG (N:=60) (LO:=qY (lshp g a b)) yV yX (yG (l:=[(37,o_st)]) (m:=[]) ⟨jXW,trivial⟩ trivial) (fun p S hp => ?_) ?_
 ·refine qW (L:=qQ Tf 41) (l:=(lshp g a b)) (show AllP _ (lshp g a b) from trivial) p S hp
 ·refine (pxhp g a b).trans ?_;simp only [kW (C:=cst) (t:=(g,a,a,2)) ⟨hp,hn⟩,kW (C:=cst) (t:=(g,b,b,2)) ⟨hp,hn⟩,yXK hp hn,vYQ];cases wfB g <;> cases isP g a <;> cases isP g b <;> rfl
def chp:Gr × Int × Int→Prop:=fun t=>match t with | (g,_,_)=>g.np≤100∧g.ne≤500
def ehp:Gr × Int × Int→List PV:=fun t=>match t with | (g,a,b)=>[.a (gP g),.n .i64 a,.n .i64 b]
noncomputable def rhp:Gr × Int × Int→Ret:=fun t=>match t with | (g,a,b)=>.v (.b (wfB g && (isP g a && isP g b)))
def dhp:List PV→Gr × Int × Int:=fun ps=>match ps with
 | [.a [.lf np pt,.lf ne ed],.n _ a,.n _ b]=>(⟨np,pt,ne,unFE ed⟩,a,b)
 | _=>(⟨0,fun _=>[],0,fun _=>unE []⟩,0,0)
noncomputable def o_hp:List PV→Option (Bool × Ret):=o_fm dhp chp ehp rhp
theorem jWY:qQY Try.prog 41 o_hp:=qQF fun t h=>by
 obtain ⟨g,a,b⟩:=t;exact jUV g a b h.1 h.2
end Go.Proofs.Ytglkkhpdbfacfaa.Bz
namespace Go.Proofs.Ytglkkhpdbfacfaa.Ca
open Go.Rx Rt Go.Sx Go.RowKit Ba Bb Bc Bd Be Bf Bi Bj Bk Bl Bh Bm Bn Bo Bp Bq Br Bs Bt Bu Bv Bw Bx By Bz
noncomputable def orpt (N:Nat) (g:Gr) (a b:Int):OrS:=orS [(37,o_st),(38,o_cs)] []
noncomputable def hpt (N:Nat) (g:Gr) (a b:Int) (i:Int) (f:Nat→Int):St:=⟨[(6,.p 6 0),(7,.p 7 0),(8,.p 8 0),(9,.p 9 0),(26,.v (.n .i64 (g.np:Int))),(27,.v (.n .i64 i))],[(6,.blk [.o 24]),(7,.blk [.v (.n .i64 0)]),(8,.blk [.v (.b false)]),(9,.blk [.v (.lf (stN g a b 2) (fQ (stV g a b 2))),.v (.n .i64 (stC g a b 2))]),(24,.reg 2 1 (.fo g.np (fun v=>[.n .i64 (f v)])))]⟩
set_option maxRecDepth 100000 in
theorem rdpt (G:St→Option (Ret × Mem)) (K:Cont) (N:Nat) (g:Gr) (a b:Int) (i:Int) (f:Nat→Int):zH (N + 10) (cxS Tf (orpt N g a b) (N + 10) 18 (ntmF Tf 18)) (evX Tf (orpt N g a b) (N + 10) 18 (ntmF Tf 18)) (qY []) (qQ Tf 18 [0,1,0,1,1,1,1,1]) [0,1,0,1,1,1,1,1] (Tf.hint 18 (qJ (qQ Tf 18 [0,1,0,1,1,1,1,1]))) K G (hpt N g a b i f) =
 (bif (decide (i < (g.np:Int))) then (bif (inB i g.np) then (bif (inB i g.np) then (G (hpt N g a b (vYX .i64 (i + 1)) (fun v=>(bif (Nat.beq v (i).toNat) then (min (f (i).toNat) (stC g a b 2)) else (f v)))))
 else none)
 else none)
 else (K (.exit 0) ⟨[(6,.p 6 0),(7,.p 7 0),(8,.p 8 0),(9,.p 9 0)],[(6,.blk [.o 24]),(7,.blk [.v (.n .i64 0)]),(8,.blk [.v (.b false)]),(9,.blk [.v (.lf (stN g a b 2) (fQ (stV g a b 2))),.v (.n .i64 (stC g a b 2))]),(24,.reg 2 1 (.fo g.np (fun v=>[.n .i64 (f v)])))]⟩)):=by kernel_rfl
noncomputable def dcpt (g:Gr) (a b:Int):(Int × (Nat→Int))→(Int × (Nat→Int)) ⊕ (Nat × Int × (Nat→Int)):=fun t=>match t with | (i,f)=>(bif (decide (i < (g.np:Int))) then (bif (inB i g.np) then (.inl ((vYX .i64 (i + 1)),(fun v=>(bif (Nat.beq v (i).toNat) then (min (f (i).toNat) (stC g a b 2)) else (f v))))) else (.inr (1,(i,f)))) else (.inr (0,(i,f))))
noncomputable def kxpt (N:Nat) (g:Gr) (a b:Int) (K:Cont) (w9:Nat × Int × (Nat→Int)):Option (Ret × Mem):=bif Nat.beq w9.1 0 then (K (.exit 0) ⟨[(6,.p 6 0),(7,.p 7 0),(8,.p 8 0),(9,.p 9 0)],[(6,.blk [.o 24]),(7,.blk [.v (.n .i64 0)]),(8,.blk [.v (.b false)]),(9,.blk [.v (.lf (stN g a b 2) (fQ (stV g a b 2))),.v (.n .i64 (stC g a b 2))]),(24,.reg 2 1 (.fo g.np (fun v=>[.n .i64 (w9.2.2 v)])))]⟩) else none
theorem wlpt (K:Cont) (N:Nat) (g:Gr) (a b:Int):∀ n9 (t:(Int × (Nat→Int))),LFX (N + 10) (cxS Tf (orpt N g a b) (N + 10) 18 (ntmF Tf 18)) (evX Tf (orpt N g a b) (N + 10) 18 (ntmF Tf 18)) (qY []) (qQ Tf 18 [0,1,0,1,1,1,1,1]) [0,1,0,1,1,1,1,1] (Tf.hint 18 (qJ (qQ Tf 18 [0,1,0,1,1,1,1,1]))) K n9 (hpt N g a b t.1 t.2)=(qU (dcpt g a b) n9 t).bind (kxpt N g a b K):=fun n9 t=>by
 refine kG (L:=LFX (N + 10) (cxS Tf (orpt N g a b) (N + 10) 18 (ntmF Tf 18)) (evX Tf (orpt N g a b) (N + 10) 18 (ntmF Tf 18)) (qY []) (qQ Tf 18 [0,1,0,1,1,1,1,1]) [0,1,0,1,1,1,1,1] (Tf.hint 18 (qJ (qQ Tf 18 [0,1,0,1,1,1,1,1]))) K) (stp:=zH (N + 10) (cxS Tf (orpt N g a b) (N + 10) 18 (ntmF Tf 18)) (evX Tf (orpt N g a b) (N + 10) 18 (ntmF Tf 18)) (qY []) (qQ Tf 18 [0,1,0,1,1,1,1,1]) [0,1,0,1,1,1,1,1] (Tf.hint 18 (qJ (qQ Tf 18 [0,1,0,1,1,1,1,1]))) K) (fun _ _=>rfl) (fun _=>rfl) (fun t=>hpt N g a b t.1 t.2) (fun _=>True) (dcpt g a b) (kxpt N g a b K) (fun G t _ => ?_) (fun _ _ _ _=>trivial) n9 t trivial;obtain ⟨i,f⟩:=t;refine (rdpt G K N g a b i f).trans ?_;dsimp only [dcpt];cases (decide (i < (g.np:Int)))
 ·rfl
 ·cases (inB i g.np)
  ·rfl
  ·rfl
noncomputable def zWY (N:Nat) (g:Gr) (a b:Int) (t:(Int × (Nat→Int))):Bool:=(qU (dcpt g a b) (N + 10) t).isSome
noncomputable def qHG (N:Nat) (g:Gr) (a b:Int) (t:(Int × (Nat→Int))):Nat × Int × (Nat→Int):=(qU (dcpt g a b) (N + 10) t).getD (99,t)
theorem lwpt (K:Cont) (N:Nat) (g:Gr) (a b:Int) (t:(Int × (Nat→Int))) (hg:zWY N g a b t=true):LFX (N + 10) (cxS Tf (orpt N g a b) (N + 10) 18 (ntmF Tf 18)) (evX Tf (orpt N g a b) (N + 10) 18 (ntmF Tf 18)) (qY []) (qQ Tf 18 [0,1,0,1,1,1,1,1]) [0,1,0,1,1,1,1,1] (Tf.hint 18 (qJ (qQ Tf 18 [0,1,0,1,1,1,1,1]))) K (N + 10) (hpt N g a b t.1 t.2)=kxpt N g a b K (qHG N g a b t):=by
 refine (wlpt K N g a b (N + 10) t).trans ?_;unfold zWY at hg;unfold qHG;cases h:qU (dcpt g a b) (N + 10) t with
 | none=>rw [h] at hg; cases hg
 | some y=>rfl
theorem yKE {g:Gr} {a b:Int} (_:g.np≤100) {i:Nat} (hi:i < g.np) {s:Nat→Int}:dcpt g a b ((i:Int),s)=.inl (((i + 1:Nat):Int),setF s i (min (s i) (stC g a b 2))):=by
 dsimp only [dcpt];simp only [toN,vYJ (show (i:Int) < (g.np:Int) by omega),zU hi,uK (show i < 1000000 by omega),vYQ];rfl
theorem yGV {g:Gr} {a b:Int} {s:Nat→Int}:dcpt g a b ((g.np:Int),s)=.inr (0,(g.np:Int),s):=by
 dsimp only [dcpt];rw [vYY (by omega)]; rfl
theorem kZK {g:Gr} {a b:Int} (hp:g.np≤100) {N:Nat} (hN:g.np < N) (f0:Nat→Int):∃ f:Nat→Int,qU (dcpt g a b) N (0,f0)=some (0,(g.np:Int),f)∧∀ v,v < g.np→f v=min (f0 v) (stC g a b 2):=by
 have h1:=jZ (dec:=dcpt g a b) (nx:=fun (i:Nat) (s:Nat→Int)=>setF s i (min (s i) (stC g a b 2))) (Q:=fun _ _=>True) (out:=fun s=>((g.np:Int),s)) (c:=g.np) (fun i s hi _=>yKE hp hi) (fun _ _ _ _=>trivial) (fun s _=>yGV) g.np 0 N f0 (by omega) hN trivial;have h2:=jG (Q:=fun (i:Nat) (s:Nat→Int)=>(∀ v,v < i→s v=min (f0 v) (stC g a b 2))∧∀ v,i≤v→s v=f0 v) (c:=g.np) (nx:=fun (i:Nat) (s:Nat→Int)=>setF s i (min (s i) (stC g a b 2))) (fun i s hi hq=>⟨fun v hv=>by
  by_cases e:v=i
  ·subst e; rw [yU,hq.2 v (Nat.le_refl _)]
  ·rw [zY e]; exact hq.1 v (by omega),fun v hv=>by
  rw [zY (show v ≠ i by omega)]; exact hq.2 v (by omega)⟩) g.np 0 f0 (by omega) ⟨fun v hv=>absurd hv (Nat.not_lt_zero v),fun v _=>rfl⟩
 exact ⟨_,h1,h2.1⟩
noncomputable def ptV (g:Gr) (a b:Int):Nat→Int:=(qHG NN g a b (0,(csT g a))).2.2
theorem jZE {g:Gr} (a b:Int) (hp:g.np≤100):zWY NN g a b (0,(csT g a))=true∧(qHG NN g a b (0,(csT g a))).1=0∧∀ v,v < g.np→ptV g a b v=min (csT g a v) (stC g a b 2):=by
 obtain ⟨f,h1,h2⟩:=kZK (g:=g) (a:=a) (b:=b) hp (show g.np < NN + 10 by rw [qYK]; omega) (csT g a);have ho:qHG NN g a b (0,(csT g a))=(0,(g.np:Int),f):=by unfold qHG; rw [h1]; rfl
 refine ⟨by unfold zWY; rw [h1]; rfl,by rw [ho],fun v hv => ?_⟩;unfold ptV;rw [ho];exact h2 v hv
noncomputable def yVG (N:Nat) (g:Gr) (a b:Int):List (List Nat × yK):=[([0,1,0,1,1,1,1,1],sumF (fun t:(Int × (Nat→Int))=>(hpt N g a b t.1 t.2)) (fun σ=>(slI σ 27,rgI σ 24 0)) (fun t K=>(bif zWY N g a b t then kxpt N g a b K (qHG N g a b t) else none)))]
set_option maxRecDepth 100000 in
theorem jHX (N:Nat) (g:Gr) (a b:Int):qQK Tf (orpt N g a b) (qY (yVG N g a b)) (N + 10) 18 [.a (gP g),.n .i64 a,.n .i64 b] =
 (bif (gF1 cst est (g,a,b,2)) then (bif (stF g a b 2) then (bif (gF1 ccs ecs (g,a)) then (bif (gSt (hpt N g a b 0 (fun v=>((csT g a) v))) (hpt N g a b 0 (fun v=>((csT g a) v)))) then (bif (zWY N g a b (0,(fun v=>((csT g a) v)))) then (bif (Nat.beq (qHG N g a b (0,(fun v=>((csT g a) v)))).1 0) then some (.v (.t [.lf g.np (fun v=>[.n .i64 ((qHG N g a b (0,(fun v=>((csT g a) v)))).2.2 v)]),.n .i64 (stC g a b 2),.b true]),[])
 else none)
 else none)
 else none)
 else none)
 else some (.v (.t [.l [],.n .i64 0,.b false]),[]))
 else none):=by kernel_rfl
theorem jQF (N:Nat) (g:Gr) (a b:Int) (hN:N=NN) (hp:g.np≤100) (hn:g.ne≤500):yY Try.prog 18 [.a (gP g),.n .i64 a,.n .i64 b] (bif stF g a b 2 then .v (.t [.lf g.np (fQ (ptV g a b)),.n .i64 (stC g a b 2),.b true]) else .v (.t [.l [],.n .i64 0,.b false])):=by
 refine qG (N:=(N + 10)) (LO:=qY (yVG N g a b)) yV yX (yG (l:=[(37,o_st),(38,o_cs)]) (m:=[]) ⟨jXW,kQC,trivial⟩ trivial) (fun p S hp => ?_) ?_
 ·refine qW (L:=qQ Tf 18) (l:=(yVG N g a b)) (show AllP _ (yVG N g a b) from ⟨?_,trivial⟩) p S hp
  ·dsimp only;refine yZ (T:=Tf) (o:=(orpt N g a b)) (f:=18) (LO:=qY []) (p:=[0,1,0,1,1,1,1,1]) jQ ?_;intro t K r hr;obtain ⟨hg,hr⟩:=qZ hr
   skip
   exact (lwpt K N g a b t hg).trans hr
 ·refine (jHX N g a b).trans ?_;subst hN;obtain ⟨s1,s2,_⟩:=jZE (g:=g) a b hp;simp only [kW (C:=cst) (t:=(g,a,b,2)) ⟨hp,hn⟩,vYQ];cases hf:stF g a b 2 with
  | false=>rfl
  | true =>
   have hq:stQ g a b 2=true:=by
    cases hq:stQ g a b 2 with
    | true=>rfl
    | false=>unfold stF at hf; rw [hq] at hf; cases hf
   unfold stQ at hq;simp only [vQJ] at hq;have ha:=qUV hq.2.1;simp only [kW (C:=ccs) (t:=(g,a)) ⟨hq.1,hp,hn,ha.1,ha.2⟩,yQ,vYQ];rw [show zWY NN g a b (0,(fun v=>((csT g a) v)))=true from s1,show (qHG NN g a b (0,(fun v=>((csT g a) v)))).1=0 from s2];rfl
theorem jKL (g:Gr) (a b:Int) (hp:g.np≤100) (hn:g.ne≤500):yY Try.prog 18 [.a (gP g),.n .i64 a,.n .i64 b] (.v (.t [.lf (bif stF g a b 2 then g.np else 0) (fQ (ptV g a b)),.n .i64 (bif stF g a b 2 then stC g a b 2 else 0),.b (stF g a b 2)])):=by
 have h:=jQF NN g a b rfl hp hn;cases hf:stF g a b 2 with
 | true=>rw [hf] at h; exact h
 | false=>rw [hf] at h; exact qQE (Same.t (xs:=[_,_,_]) (ys:=[_,_,_]) ⟨Same.lf rfl,Same.refl _,Same.refl _,trivial⟩) h
end Go.Proofs.Ytglkkhpdbfacfaa.Ca
namespace Go.Proofs.Ytglkkhpdbfacfaa.Cb
open Go.Rx Rt Go.Sx Go.RowKit Ba Bb Bc Bd Be Bf Bi Bj Bk Bl Bh Bm Bn Bo Bp Bq Br Bs Bt Bu Bv Bw Bx By Bz
noncomputable def orc1 (g:Gr) (a b _:Int) (n:Nat) (_:Nat→Int):OrS:=orS [(41,o_hp)] []
theorem kZE {g:Gr} (hw:wfB g=true) {i:Nat} (hi:i < g.ne):inB (g.ed i).u g.np=true∧inB (g.ed i).v g.np=true:=by
 obtain ⟨h1,h2,h3,_,_⟩:=jU hw hi;exact ⟨by unfold inB; rw [vYJ h1,vYJ (by omega)]; rfl,by unfold inB; rw [vYJ (by omega),vYJ (by omega)]; rfl⟩
def okC (g:Gr) (n:Nat):Bool:=wfB g && (decide (n=g.np) && decide (g.ne≤500))
theorem jWC {g:Gr} {n:Nat} (h:okC g n=true):wfB g=true∧n=g.np∧g.ne≤500:=by
 unfold okC at h;simp only [vQJ,decide_eq_true_eq] at h;exact h
noncomputable def hc1 (g:Gr) (a b low:Int) (n:Nat) (q:Nat→Int) (i:Int):St:=⟨[(1,.v (.n .i64 a)),(2,.v (.n .i64 b)),(3,.v (.n .i64 low)),(4,.v (.lf n (fQ q))),(5,.p 5 0),(10,.p 10 0),(30,.v (.lf n (fQ q))),(31,.v (.n .i64 (n:Int))),(32,.v (.n .i64 i))],[(5,.blk [.v (.lf g.np g.pt),.v (.lf g.ne (fE g.ed))]),(10,.blk [.v (.b false)])]⟩
set_option maxRecDepth 100000 in
theorem rdc1 (G:St→Option (Ret × Mem)) (K:Cont) (g:Gr) (a b low:Int) (n:Nat) (q:Nat→Int) (i:Int):zH (g.ne + n + 10) (cxS Tf (orc1 g a b low n q) (g.ne + n + 10) 19 (ntmF Tf 19)) (evX Tf (orc1 g a b low n q) (g.ne + n + 10) 19 (ntmF Tf 19)) (qY []) (qQ Tf 19 [0,1,0,1,1,1]) [0,1,0,1,1,1] (Tf.hint 19 (qJ (qQ Tf 19 [0,1,0,1,1,1]))) K G (hc1 g a b low n q i) =
 (bif (decide (i < (n:Int))) then (bif (inB i n) then (bif (decide ((q (i).toNat) < (-1125899906842624))) then (K .ret ⟨[(1,.v (.n .i64 a)),(2,.v (.n .i64 b)),(3,.v (.n .i64 low)),(4,.v (.lf n (fQ q))),(5,.p 5 0),(10,.p 10 0)],[(5,.blk [.v (.lf g.np g.pt),.v (.lf g.ne (fE g.ed))]),(10,.blk [.v (.b false)])]⟩)
 else (bif (decide (1125899906842624 < (q (i).toNat))) then (K .ret ⟨[(1,.v (.n .i64 a)),(2,.v (.n .i64 b)),(3,.v (.n .i64 low)),(4,.v (.lf n (fQ q))),(5,.p 5 0),(10,.p 10 0)],[(5,.blk [.v (.lf g.np g.pt),.v (.lf g.ne (fE g.ed))]),(10,.blk [.v (.b false)])]⟩)
 else (G (hc1 g a b low n q (vYX .i64 (i + 1))))))
 else none)
 else (K (.exit 0) ⟨[(1,.v (.n .i64 a)),(2,.v (.n .i64 b)),(3,.v (.n .i64 low)),(4,.v (.lf n (fQ q))),(5,.p 5 0),(10,.p 10 0)],[(5,.blk [.v (.lf g.np g.pt),.v (.lf g.ne (fE g.ed))]),(10,.blk [.v (.b false)])]⟩)):=by kernel_rfl
noncomputable def hb1 (g:Gr) (a b _:Int) (n:Nat) (q:Nat→Int) (i:Int):St:=⟨[(4,.v (.lf n (fQ q))),(5,.p 5 0),(11,.v (.n .i64 i))],[(5,.blk [.v (.lf g.np g.pt),.v (.lf g.ne (fE g.ed))])]⟩
noncomputable def hc2 (g:Gr) (a b _:Int) (n:Nat) (q:Nat→Int) (i:Int):St:=⟨[(4,.v (.lf n (fQ q))),(10,.p 10 0),(57,.v (.lf g.ne (fE g.ed))),(58,.v (.n .i64 (g.ne:Int))),(59,.v (.n .i64 i))],[(10,.blk [.v (.b false)])]⟩
set_option maxRecDepth 100000 in
theorem rdc2 (G:St→Option (Ret × Mem)) (K:Cont) (g:Gr) (a b low:Int) (n:Nat) (q:Nat→Int) (i:Int):zH (g.ne + n + 10) (cxS Tf (orc1 g a b low n q) (g.ne + n + 10) 19 (ntmF Tf 19)) (evX Tf (orc1 g a b low n q) (g.ne + n + 10) 19 (ntmF Tf 19)) (qY []) (qQ Tf 19 [0,1,0,1,1,1,1,1]) [0,1,0,1,1,1,1,1] (Tf.hint 19 (qJ (qQ Tf 19 [0,1,0,1,1,1,1,1]))) K G (hc2 g a b low n q i) =
 (bif (decide (i < (g.ne:Int))) then (bif (inB i g.ne) then (bif (inB (g.ed (i).toNat).u n) then (bif (inB (g.ed (i).toNat).v n) then (bif (!decide ((g.ed (i).toNat).s=2)) then (bif (decide ((g.ed (i).toNat).c < (max (vYX .i64 ((q ((g.ed (i).toNat).u).toNat) - (q ((g.ed (i).toNat).v).toNat))) (vYX .i64 (0 - (vYX .i64 ((q ((g.ed (i).toNat).u).toNat) - (q ((g.ed (i).toNat).v).toNat)))))))) then (K .ret ⟨[(10,.p 10 0)],[(10,.blk [.v (.b false)])]⟩)
 else (G (hc2 g a b low n q (vYX .i64 (i + 1)))))
 else (G (hc2 g a b low n q (vYX .i64 (i + 1)))))
 else none)
 else none)
 else none)
 else (K (.exit 2) ⟨[(10,.p 10 0)],[(10,.blk [.v (.b false)])]⟩)):=by kernel_rfl
noncomputable def hb2 (g:Gr) (a b _:Int) (n:Nat) (q:Nat→Int) (i:Int):St:=⟨[(4,.v (.lf n (fQ q))),(5,.p 5 0),(12,.v (.n .i64 i))],[(5,.blk [.v (.lf g.np g.pt),.v (.lf g.ne (fE g.ed))])]⟩
theorem qGE {g:Gr} {a:Int} (h:isP g a=true):inB a g.np=true:=by
 have:=qUV h
 unfold inB;rw [vYJ (show 0≤a by omega),vYJ (by omega)]; rfl
theorem kQL {g:Gr} (hw:wfB g=true) (hn:g.ne≤500):okC g g.np=true:=by
 unfold okC;rw [hw,vYJ rfl,vYJ hn]; rfl
end Go.Proofs.Ytglkkhpdbfacfaa.Cb
namespace Go.Proofs.Ytglkkhpdbfacfaa.Cc
open Go.Rx Rt Go.Sx Go.RowKit Ba Bb Bc Bd Be Bf Bi Bj Bk Bl Bh Bm Bn Bo Bp Bq Br Bs Bt Bu Bv Bw Bx By Bz
noncomputable def jHC (x k:Int):OrS:=orS [] []
noncomputable def yVW (x k:Int):List (List Nat × yK):=[]
set_option maxRecDepth 100000 in
theorem jHK (x k:Int):qQK Tf (jHC x k) (qY (yVW x k)) 60 14 [.n .i64 x,.n .i64 k] =
 (bif (decide (k=0)) then none
 else (bif (decide ((x.tmod k) < 0)) then some (.v (.n .i64 (vYX .i64 ((x.tmod k) + k))),[])
 else some (.v (.n .i64 (x.tmod k)),[]))):=by kernel_rfl
theorem jQD (x k:Int) (hk:0 < k∧k≤9223372036854775807):yY Try.prog 14 [.n .i64 x,.n .i64 k] (.v (.n .i64 (x % k))):=by
 refine qG (N:=60) (LO:=qY (yVW x k)) yV yX (yG (l:=[]) (m:=[]) trivial trivial) (fun p S hp => ?_) ?_
 ·refine qW (L:=qQ Tf 14) (l:=(yVW x k)) (show AllP _ (yVW x k) from trivial) p S hp
 ·refine (jHK x k).trans ?_;have hk0:k ≠ 0:=by omega
  have h1:=Int.emod_nonneg x hk0;have h2:=Int.emod_lt_of_pos x hk.1;rw [vYY (show ¬ k=0 by omega),Int.tmod_eq_emod];by_cases h:0≤x ∨ k ∣ x
  ·rw [if_pos h,show ((0:Nat):Int)=0 from rfl,Int.sub_zero,vYY (show ¬ x % k < 0 by omega)];rfl
  ·rw [if_neg h,show ((k.natAbs:Nat):Int)=k by omega,vYJ (show x % k - k < 0 by omega),show vYX .i64 (x % k - k + k)=x % k from by rw [show x % k - k + k=x % k by omega]; exact yH (by omega)];rfl
def crn:Int × Int→Prop:=fun t=>match t with | (_,k)=>0 < k∧k≤9223372036854775807
def ern:Int × Int→List PV:=fun t=>match t with | (x,k)=>[.n .i64 x,.n .i64 k]
noncomputable def rrn:Int × Int→Ret:=fun t=>match t with | (x,k)=>.v (.n .i64 (x % k))
def drn:List PV→Int × Int:=fun ps=>match ps with
 | [.n _ x,.n _ k]=>(x,k)
 | _=>(0,0)
noncomputable def o_rn:List PV→Option (Bool × Ret):=o_fm drn crn ern rrn
theorem jXH:qQY Try.prog 14 o_rn:=qQF fun t h=>by
 obtain ⟨x,k⟩:=t;exact jQD x k h
noncomputable def ornx (_ m:Nat) (e:Nat→Int) (k:Int):OrS:=orS [(14,o_rn)] []
noncomputable def lsnx (_ m:Nat) (e:Nat→Int) (k:Int):List (List Nat × yK):=[]
set_option maxRecDepth 100000 in
theorem pxnx (wl m:Nat) (e:Nat→Int) (k:Int):zHE Tf (ornx wl m e k) (qY (lsnx wl m e k)) 60 30 [.p 1000000 0,.v (.n .i64 k)] [.lf wl (fQ e),.n .i64 (m:Int)] =
 (bif (decide ((wl:Int)≤(m:Int))) then some (.v (.t [.n .i64 0,.lf wl (fQ e),.n .i64 (m:Int)]),[])
 else (bif (inB (vYX .i64 ((vYX .i64 ((m:Int) + 1)) - 1)) wl) then (bif (gF1 crn ern ((e ((vYX .i64 ((vYX .i64 ((m:Int) + 1)) - 1))).toNat),k)) then some (.v (.t [.n .i64 ((e ((vYX .i64 ((vYX .i64 ((m:Int) + 1)) - 1))).toNat) % k),.lf wl (fQ e),.n .i64 (vYX .i64 ((m:Int) + 1))]),[])
 else none)
 else none)):=by kernel_rfl
theorem jUY (wl m:Nat) (e:Nat→Int) (k:Int) (_:m≤wl) (_:wl≤9223372036854775807) (hk:0 < k∧k≤9223372036854775807):yZG Try.prog 30 [.p 1000000 0,.v (.n .i64 k)] [.lf wl (fQ e),.n .i64 (m:Int)] (.n .i64 (nxV e wl m k)) ([.lf wl (fQ e),.n .i64 ((min (m + 1) wl:Nat):Int)]):=by
 refine zXB (N:=60) (LO:=qY (lsnx wl m e k)) yV yX (yG (l:=[(14,o_rn)]) (m:=[]) ⟨jXH,trivial⟩ trivial) (fun p S hp => ?_) ?_
 ·refine qW (L:=qQ Tf 30) (l:=(lsnx wl m e k)) (show AllP _ (lsnx wl m e k) from trivial) p S hp
 ·refine (pxnx wl m e k).trans ?_;unfold nxV eW;by_cases h:m < wl
  ·have h1:vYX .i64 ((m:Int) + 1)=(m:Int) + 1:=yH (by omega);have h2:vYX .i64 ((m:Int) + 1 - 1)=((m:Nat):Int):=by rw [yH (by omega)]; omega
   rw [vYY (show ¬ (wl:Int)≤(m:Int) by omega),h1,h2,zU h,toN,kW (C:=crn) (t:=(_,k)) hk,show Nat.blt m wl=true from by rw [Nat.blt_eq]; exact h,show min (m + 1) wl=m + 1 by omega];rfl
  ·rw [vYJ (show (wl:Int)≤(m:Int) by omega),show Nat.blt m wl=false from by rw [Bool.eq_false_iff,ne_eq,Nat.blt_eq]; exact h,show min (m + 1) wl=m by omega]
   simp
def cnx:Nat × Nat × (Nat→Int) × Int→Prop:=fun t=>match t with | (w,m,_,k)=>m≤w∧w≤9223372036854775807∧0 < k∧k≤9223372036854775807
def hnx:Nat × Nat × (Nat→Int) × Int→List HV:=fun t=>match t with | (_,_,_,k)=>[.p pid 0,.v (.n .i64 k)]
def enx:Nat × Nat × (Nat→Int) × Int→List PV:=fun t=>match t with | (w,m,e,_)=>[.lf w (fQ e),.n .i64 (m:Int)]
noncomputable def xnx:Nat × Nat × (Nat→Int) × Int→PV:=fun t=>match t with | (w,m,e,k)=>.n .i64 (nxV e w m k)
noncomputable def qnx:Nat × Nat × (Nat→Int) × Int→List PV:=fun t=>match t with | (w,m,e,_)=>[.lf w (fQ e),.n .i64 ((min (m + 1) w:Nat):Int)]
def dnx:List HV→List PV→Nat × Nat × (Nat→Int) × Int:=fun hs ps=>match hs,ps with
 | [_,.v (.n _ k)],[.lf w f,.n _ c]=>(w,c.toNat,unFQ f,k)
 | _,_=>(0,0,fun _=>0,0)
noncomputable def o_nx:List HV→List PV→Option (Bool × (PV × List PV)):=o_fb dnx cnx hnx enx xnx qnx
theorem kQU:yUD Try.prog 30 o_nx:=kQB fun t h=>by
 obtain ⟨w,m,e,k⟩:=t;exact jUY w m e k h.1 h.2.1 h.2.2
def clK (x:Int):Int:=bif decide (x=1) then 1 else bif decide (x=2) then 2 else 0
def clA (x:Int):Nat:=bif decide (x=1) then 1 else 0
def clB (x:Int):Nat:=bif decide (x=2) then 1 else 0
def clD (x:Int):Int:=bif decide (x=3) then 1 else 0
def clF:Nat→List PV:=fun _=>[.n .i64 0,.n .i64 0,.zs]
def clG:Nat→List PV:=fun _=>[.n .i64 1]
theorem jUD (x:Int) (_:0≤x∧x≤3):yY Try.prog 31 [.n .i64 x] (.v (.a [.n .i64 (clK x),.lf (clA x) clF,.n .i64 (clD x),.n .i64 0,.lf 0 clG,.n .i64 0,.lf (clB x) clG,.lf (clB x) clG])):=by
 have hs:x=0 ∨ x=1 ∨ x=2 ∨ x=3:=by omega
 rcases hs with rfl | rfl | rfl | rfl
 ·exact qQE (x:=.a [.n .i64 0,.l [],.n .i64 0,.n .i64 0,.l [],.n .i64 0,.l [],.l []]) (Same.a (xs:=[_,_,_,_,_,_,_,_]) ⟨Same.refl _,Same.lf rfl,Same.refl _,Same.refl _,Same.lf rfl,Same.refl _,Same.lf rfl,Same.lf rfl,trivial⟩) (qZK (N:=60) qYL yX qVX (by kernel_rfl))
 ·exact qQE (x:=.a [.n .i64 1,.l [[.n .i64 0,.n .i64 0,.zs]],.n .i64 0,.n .i64 0,.l [],.n .i64 0,.l [],.l []]) (Same.a (xs:=[_,_,_,_,_,_,_,_]) ⟨Same.refl _,Same.lf rfl,Same.refl _,Same.refl _,Same.lf rfl,Same.refl _,Same.lf rfl,Same.lf rfl,trivial⟩) (qZK (N:=60) qYL yX qVX (by kernel_rfl))
 ·exact qQE (x:=.a [.n .i64 2,.l [],.n .i64 0,.n .i64 0,.l [],.n .i64 0,.l [[.n .i64 1]],.l [[.n .i64 1]]]) (Same.a (xs:=[_,_,_,_,_,_,_,_]) ⟨Same.refl _,Same.lf rfl,Same.refl _,Same.refl _,Same.lf rfl,Same.refl _,Same.lf rfl,Same.lf rfl,trivial⟩) (qZK (N:=60) qYL yX qVX (by kernel_rfl))
 ·exact qQE (x:=.a [.n .i64 0,.l [],.n .i64 1,.n .i64 0,.l [],.n .i64 0,.l [],.l []]) (Same.a (xs:=[_,_,_,_,_,_,_,_]) ⟨Same.refl _,Same.lf rfl,Same.refl _,Same.refl _,Same.lf rfl,Same.refl _,Same.lf rfl,Same.lf rfl,trivial⟩) (qZK (N:=60) qYL yX qVX (by kernel_rfl))
def ccl:Int→Prop:=fun t=>match t with | x=>0≤x∧x≤3
def ecl:Int→List PV:=fun t=>match t with | x=>[.n .i64 x]
noncomputable def rcl:Int→Ret:=fun t=>match t with | x=>.v (.a [.n .i64 (clK x),.lf (clA x) clF,.n .i64 (clD x),.n .i64 0,.lf 0 clG,.n .i64 0,.lf (clB x) clG,.lf (clB x) clG])
def dcl:List PV→Int:=fun ps=>match ps with
 | [.n _ x]=>x
 | _=>0
noncomputable def o_cl:List PV→Option (Bool × Ret):=o_fm dcl ccl ecl rcl
theorem kQF:qQY Try.prog 31 o_cl:=qQF fun t h=>by
 revert h; revert t; intro x h
 exact jUD x h
noncomputable def org0 (N _:Nat) (e:Nat→Int):OrS:=orS [(31,o_cl)] [(30,o_nx)]
def gsF (x:Int):Int:=(bif (decide (x=0)) then 0 else (bif (decide ((x - 1)=0)) then 0 else (bif (decide (((x - 1) - 1)=0)) then 1 else (bif (decide ((((x - 1) - 1) - 1)=0)) then 1 else (bif (decide (((((x - 1) - 1) - 1) - 1)=0)) then 1 else (bif (decide ((((((x - 1) - 1) - 1) - 1) - 1)=0)) then 2 else (bif (decide (((((((x - 1) - 1) - 1) - 1) - 1) - 1)=0)) then 3 else 1)))))))
noncomputable def hg0 (N wl:Nat) (e:Nat→Int) (i:Int) (rn:Nat) (f:Nat→List PV):St:=⟨[(2,.p 2 0),(3,.p 11 0),(4,.p 4 0),(5,.v (.n .i64 (vYX .i64 (2 + (nxV e wl 0 8))))),(6,.v (.n .i64 i))],[(2,.blk [.nl,.nl]),(4,.blk [.o 25,.nl]),(11,.blk [.v (.lf wl (fQ e)),.v (.n .i64 ((mA wl 0 1:Nat):Int))]),(25,.reg 26 1 (.fo rn f))]⟩
set_option maxRecDepth 100000 in
theorem rdg0 (G:St→Option (Ret × Mem)) (K:Cont) (N wl:Nat) (e:Nat→Int) (i:Int) (rn:Nat) (f:Nat→List PV):zH (N + 10) (cxS Tf (org0 N wl e) (N + 10) 11 (ntmF Tf 11)) (evX Tf (org0 N wl e) (N + 10) 11 (ntmF Tf 11)) (qY []) (qQ Tf 11 [0,1,0,1,1,1,1]) [0,1,0,1,1,1,1] (Tf.hint 11 (qJ (qQ Tf 11 [0,1,0,1,1,1,1]))) K G (hg0 N wl e i rn f) =
 (bif (decide (i < (vYX .i64 (2 + (nxV e wl 0 8))))) then (bif (decide (rn + 1≤1000000)) then (G (hg0 N wl e (vYX .i64 (i + 1)) (rn + 1) (fun v=>kV (Nat.beq v rn) [.l [[.n .i64 i]]] (f v))))
 else none)
 else (K (.exit 0) ⟨[(2,.p 2 0),(3,.p 11 0),(4,.p 4 0),(5,.v (.n .i64 (vYX .i64 (2 + (nxV e wl 0 8)))))],[(2,.blk [.nl,.nl]),(4,.blk [.o 25,.nl]),(11,.blk [.v (.lf wl (fQ e)),.v (.n .i64 ((mA wl 0 1:Nat):Int))]),(25,.reg 26 1 (.fo rn f))]⟩)):=by kernel_rfl
noncomputable def dcg0 (wl:Nat) (e:Nat→Int):(Int × Nat × (Nat→List PV))→(Int × Nat × (Nat→List PV)) ⊕ (Nat × Int × Nat × (Nat→List PV)):=fun t=>match t with | (i,rn,f)=>(bif (decide (i < (vYX .i64 (2 + (nxV e wl 0 8))))) then (bif (decide (rn + 1≤1000000)) then (.inl ((vYX .i64 (i + 1)),(rn + 1),(fun v=>kV (Nat.beq v rn) [.l [[.n .i64 i]]] (f v)))) else (.inr (1,(i,rn,f)))) else (.inr (0,(i,rn,f))))
noncomputable def kxg0 (N wl:Nat) (e:Nat→Int) (K:Cont) (w9:Nat × Int × Nat × (Nat→List PV)):Option (Ret × Mem):=bif Nat.beq w9.1 0 then (K (.exit 0) ⟨[(2,.p 2 0),(3,.p 11 0),(4,.p 4 0),(5,.v (.n .i64 (vYX .i64 (2 + (nxV e wl 0 8)))))],[(2,.blk [.nl,.nl]),(4,.blk [.o 25,.nl]),(11,.blk [.v (.lf wl (fQ e)),.v (.n .i64 ((mA wl 0 1:Nat):Int))]),(25,.reg 26 1 (.fo w9.2.2.1 w9.2.2.2))]⟩) else none
theorem wlg0 (K:Cont) (N wl:Nat) (e:Nat→Int):∀ n9 (t:(Int × Nat × (Nat→List PV))),LFX (N + 10) (cxS Tf (org0 N wl e) (N + 10) 11 (ntmF Tf 11)) (evX Tf (org0 N wl e) (N + 10) 11 (ntmF Tf 11)) (qY []) (qQ Tf 11 [0,1,0,1,1,1,1]) [0,1,0,1,1,1,1] (Tf.hint 11 (qJ (qQ Tf 11 [0,1,0,1,1,1,1]))) K n9 (hg0 N wl e t.1 t.2.1 t.2.2)=(qU (dcg0 wl e) n9 t).bind (kxg0 N wl e K):=fun n9 t=>by
 refine kG (L:=LFX (N + 10) (cxS Tf (org0 N wl e) (N + 10) 11 (ntmF Tf 11)) (evX Tf (org0 N wl e) (N + 10) 11 (ntmF Tf 11)) (qY []) (qQ Tf 11 [0,1,0,1,1,1,1]) [0,1,0,1,1,1,1] (Tf.hint 11 (qJ (qQ Tf 11 [0,1,0,1,1,1,1]))) K) (stp:=zH (N + 10) (cxS Tf (org0 N wl e) (N + 10) 11 (ntmF Tf 11)) (evX Tf (org0 N wl e) (N + 10) 11 (ntmF Tf 11)) (qY []) (qQ Tf 11 [0,1,0,1,1,1,1]) [0,1,0,1,1,1,1] (Tf.hint 11 (qJ (qQ Tf 11 [0,1,0,1,1,1,1]))) K) (fun _ _=>rfl) (fun _=>rfl) (fun t=>hg0 N wl e t.1 t.2.1 t.2.2) (fun _=>True) (dcg0 wl e) (kxg0 N wl e K) (fun G t _ => ?_) (fun _ _ _ _=>trivial) n9 t trivial;obtain ⟨i,rn,f⟩:=t;refine (rdg0 G K N wl e i rn f).trans ?_;dsimp only [dcg0];cases (decide (i < (vYX .i64 (2 + (nxV e wl 0 8)))))
 ·rfl
 ·cases (decide (rn + 1≤1000000))
  ·rfl
  ·rfl
noncomputable def yQB (N:Nat) (wl:Nat) (e:Nat→Int) (t:(Int × Nat × (Nat→List PV))):Bool:=(qU (dcg0 wl e) (N + 10) t).isSome
noncomputable def qZB (N:Nat) (wl:Nat) (e:Nat→Int) (t:(Int × Nat × (Nat→List PV))):Nat × Int × Nat × (Nat→List PV):=(qU (dcg0 wl e) (N + 10) t).getD (99,t)
theorem lwg0 (K:Cont) (N wl:Nat) (e:Nat→Int) (t:(Int × Nat × (Nat→List PV))) (hg:yQB N wl e t=true):LFX (N + 10) (cxS Tf (org0 N wl e) (N + 10) 11 (ntmF Tf 11)) (evX Tf (org0 N wl e) (N + 10) 11 (ntmF Tf 11)) (qY []) (qQ Tf 11 [0,1,0,1,1,1,1]) [0,1,0,1,1,1,1] (Tf.hint 11 (qJ (qQ Tf 11 [0,1,0,1,1,1,1]))) K (N + 10) (hg0 N wl e t.1 t.2.1 t.2.2)=kxg0 N wl e K (qZB N wl e t):=by
 refine (wlg0 K N wl e (N + 10) t).trans ?_;unfold yQB at hg;unfold qZB;cases h:qU (dcg0 wl e) (N + 10) t with
 | none=>rw [h] at hg; cases hg
 | some y=>rfl
noncomputable def hg2 (N wl:Nat) (e:Nat→Int) (x:Int) (y:Int) (m2:Nat) (pn:Nat) (pf:Nat→List PV) (rn:Nat) (f:Nat→List PV):St:=⟨[(2,.p 2 0),(3,.p 11 0),(4,.p 4 0),(5,.v (.n .i64 (vYX .i64 (2 + (nxV e wl 0 8))))),(7,.v (.n .i64 x)),(8,.v (.n .i64 y))],[(2,.blk [.nl,.nl]),(4,.blk [.o 25,.o 59]),(11,.blk [.v (.lf wl (fQ e)),.v (.n .i64 (m2:Int))]),(25,.reg 26 1 (.fo pn pf)),(59,.reg 66 12 (.fo rn f))]⟩
set_option maxRecDepth 100000 in
theorem rdg2 (G:St→Option (Ret × Mem)) (K:Cont) (N wl:Nat) (e:Nat→Int) (x:Int) (y:Int) (m2:Nat) (pn:Nat) (pf:Nat→List PV) (rn:Nat) (f:Nat→List PV):zH (N + 10) (cxS Tf (org0 N wl e) (N + 10) 11 (ntmF Tf 11)) (evX Tf (org0 N wl e) (N + 10) 11 (ntmF Tf 11)) (qY []) (qQ Tf 11 [0,1,0,0,1,0,0,1,0,1,1,1,1,1]) [0,1,0,0,1,0,0,1,0,1,1,1,1,1] (Tf.hint 11 (qJ (qQ Tf 11 [0,1,0,0,1,0,0,1,0,1,1,1,1,1]))) K G (hg2 N wl e x y m2 pn pf rn f) =
 (bif (decide (y < (vYX .i64 (2 + (nxV e wl 0 8))))) then (bif (gB1 cnx hnx enx (wl,m2,e,5)) then (bif (decide ((nxV e wl m2 5) < 2)) then (bif (gB1 cnx hnx enx (wl,(mA wl m2 1),e,7)) then (bif (gB1 cnx hnx enx (wl,(mA wl m2 2),e,8)) then (bif (inB (nxV e wl (mA wl m2 2) 8) 8 && true) then (bif (gF1 ccl ecl (gsF (nxV e wl (mA wl m2 2) 8))) then (bif (decide (rn + 1≤1000000)) then (G (hg2 N wl e x (vYX .i64 (y + 1)) (mA wl m2 3) pn pf (rn + 1) (fun v=>kV (Nat.beq v rn) [.n .i64 x,.n .i64 y,.n .i64 (nxV e wl (mA wl m2 1) 7),.n .i64 (gsF (nxV e wl (mA wl m2 2) 8)),.n .i64 (clK (gsF (nxV e wl (mA wl m2 2) 8))),.lf (clA (gsF (nxV e wl (mA wl m2 2) 8))) clF,.n .i64 (clD (gsF (nxV e wl (mA wl m2 2) 8))),.n .i64 0,.lf 0 clG,.n .i64 0,.lf (clB (gsF (nxV e wl (mA wl m2 2) 8))) clG,.lf (clB (gsF (nxV e wl (mA wl m2 2) 8))) clG] (f v))))
 else none)
 else none)
 else none)
 else none)
 else none)
 else (G (hg2 N wl e x (vYX .i64 (y + 1)) (mA wl m2 1) pn pf rn f)))
 else none)
 else (K (.exit 4) ⟨[(2,.p 2 0),(3,.p 11 0),(4,.p 4 0),(5,.v (.n .i64 (vYX .i64 (2 + (nxV e wl 0 8))))),(7,.v (.n .i64 x))],[(2,.blk [.nl,.nl]),(4,.blk [.o 25,.o 59]),(11,.blk [.v (.lf wl (fQ e)),.v (.n .i64 (m2:Int))]),(25,.reg 26 1 (.fo pn pf)),(59,.reg 66 12 (.fo rn f))]⟩)):=by kernel_rfl
noncomputable def dcg2 (wl:Nat) (e:Nat→Int):(Int × Int × Nat × Nat × (Nat→List PV) × Nat × (Nat→List PV))→(Int × Int × Nat × Nat × (Nat→List PV) × Nat × (Nat→List PV)) ⊕ (Nat × Int × Int × Nat × Nat × (Nat→List PV) × Nat × (Nat→List PV)):=fun t=>match t with | (x,y,m2,pn,pf,rn,f)=>(bif (decide (y < (vYX .i64 (2 + (nxV e wl 0 8))))) then (bif (gB1 cnx hnx enx (wl,m2,e,5)) then (bif (decide ((nxV e wl m2 5) < 2)) then (bif (gB1 cnx hnx enx (wl,(mA wl m2 1),e,7)) then (bif (gB1 cnx hnx enx (wl,(mA wl m2 2),e,8)) then (bif (inB (nxV e wl (mA wl m2 2) 8) 8 && true) then (bif (gF1 ccl ecl (gsF (nxV e wl (mA wl m2 2) 8))) then (bif (decide (rn + 1≤1000000)) then (.inl (x,(vYX .i64 (y + 1)),(mA wl m2 3),pn,pf,(rn + 1),(fun v=>kV (Nat.beq v rn) [.n .i64 x,.n .i64 y,.n .i64 (nxV e wl (mA wl m2 1) 7),.n .i64 (gsF (nxV e wl (mA wl m2 2) 8)),.n .i64 (clK (gsF (nxV e wl (mA wl m2 2) 8))),.lf (clA (gsF (nxV e wl (mA wl m2 2) 8))) clF,.n .i64 (clD (gsF (nxV e wl (mA wl m2 2) 8))),.n .i64 0,.lf 0 clG,.n .i64 0,.lf (clB (gsF (nxV e wl (mA wl m2 2) 8))) clG,.lf (clB (gsF (nxV e wl (mA wl m2 2) 8))) clG] (f v)))) else (.inr (1,(x,y,m2,pn,pf,rn,f)))) else (.inr (1,(x,y,m2,pn,pf,rn,f)))) else (.inr (1,(x,y,m2,pn,pf,rn,f)))) else (.inr (1,(x,y,m2,pn,pf,rn,f)))) else (.inr (1,(x,y,m2,pn,pf,rn,f)))) else (.inl (x,(vYX .i64 (y + 1)),(mA wl m2 1),pn,pf,rn,f))) else (.inr (1,(x,y,m2,pn,pf,rn,f)))) else (.inr (0,(x,y,m2,pn,pf,rn,f))))
noncomputable def kxg2 (N wl:Nat) (e:Nat→Int) (K:Cont) (w9:Nat × Int × Int × Nat × Nat × (Nat→List PV) × Nat × (Nat→List PV)):Option (Ret × Mem):=bif Nat.beq w9.1 0 then (K (.exit 4) ⟨[(2,.p 2 0),(3,.p 11 0),(4,.p 4 0),(5,.v (.n .i64 (vYX .i64 (2 + (nxV e wl 0 8))))),(7,.v (.n .i64 w9.2.1))],[(2,.blk [.nl,.nl]),(4,.blk [.o 25,.o 59]),(11,.blk [.v (.lf wl (fQ e)),.v (.n .i64 (w9.2.2.2.1:Int))]),(25,.reg 26 1 (.fo w9.2.2.2.2.1 w9.2.2.2.2.2.1)),(59,.reg 66 12 (.fo w9.2.2.2.2.2.2.1 w9.2.2.2.2.2.2.2))]⟩) else none
theorem wlg2 (K:Cont) (N wl:Nat) (e:Nat→Int):∀ n9 (t:(Int × Int × Nat × Nat × (Nat→List PV) × Nat × (Nat→List PV))),LFX (N + 10) (cxS Tf (org0 N wl e) (N + 10) 11 (ntmF Tf 11)) (evX Tf (org0 N wl e) (N + 10) 11 (ntmF Tf 11)) (qY []) (qQ Tf 11 [0,1,0,0,1,0,0,1,0,1,1,1,1,1]) [0,1,0,0,1,0,0,1,0,1,1,1,1,1] (Tf.hint 11 (qJ (qQ Tf 11 [0,1,0,0,1,0,0,1,0,1,1,1,1,1]))) K n9 (hg2 N wl e t.1 t.2.1 t.2.2.1 t.2.2.2.1 t.2.2.2.2.1 t.2.2.2.2.2.1 t.2.2.2.2.2.2)=(qU (dcg2 wl e) n9 t).bind (kxg2 N wl e K):=fun n9 t=>by
 refine kG (L:=LFX (N + 10) (cxS Tf (org0 N wl e) (N + 10) 11 (ntmF Tf 11)) (evX Tf (org0 N wl e) (N + 10) 11 (ntmF Tf 11)) (qY []) (qQ Tf 11 [0,1,0,0,1,0,0,1,0,1,1,1,1,1]) [0,1,0,0,1,0,0,1,0,1,1,1,1,1] (Tf.hint 11 (qJ (qQ Tf 11 [0,1,0,0,1,0,0,1,0,1,1,1,1,1]))) K) (stp:=zH (N + 10) (cxS Tf (org0 N wl e) (N + 10) 11 (ntmF Tf 11)) (evX Tf (org0 N wl e) (N + 10) 11 (ntmF Tf 11)) (qY []) (qQ Tf 11 [0,1,0,0,1,0,0,1,0,1,1,1,1,1]) [0,1,0,0,1,0,0,1,0,1,1,1,1,1] (Tf.hint 11 (qJ (qQ Tf 11 [0,1,0,0,1,0,0,1,0,1,1,1,1,1]))) K) (fun _ _=>rfl) (fun _=>rfl) (fun t=>hg2 N wl e t.1 t.2.1 t.2.2.1 t.2.2.2.1 t.2.2.2.2.1 t.2.2.2.2.2.1 t.2.2.2.2.2.2) (fun _=>True) (dcg2 wl e) (kxg2 N wl e K) (fun G t _ => ?_) (fun _ _ _ _=>trivial) n9 t trivial;obtain ⟨x,y,m2,pn,pf,rn,f⟩:=t;refine (rdg2 G K N wl e x y m2 pn pf rn f).trans ?_;dsimp only [dcg2];cases (decide (y < (vYX .i64 (2 + (nxV e wl 0 8)))))
 ·rfl
 ·cases (gB1 cnx hnx enx (wl,m2,e,5))
  ·rfl
  ·cases (decide ((nxV e wl m2 5) < 2))
   ·rfl
   ·cases (gB1 cnx hnx enx (wl,(mA wl m2 1),e,7))
    ·rfl
    ·cases (gB1 cnx hnx enx (wl,(mA wl m2 2),e,8))
     ·rfl
     ·cases (inB (nxV e wl (mA wl m2 2) 8) 8 && true)
      ·rfl
      ·cases (gF1 ccl ecl (gsF (nxV e wl (mA wl m2 2) 8)))
       ·rfl
       ·cases (decide (rn + 1≤1000000))
        ·rfl
        ·rfl
noncomputable def qKZ (N:Nat) (wl:Nat) (e:Nat→Int) (t:(Int × Int × Nat × Nat × (Nat→List PV) × Nat × (Nat→List PV))):Bool:=(qU (dcg2 wl e) (N + 10) t).isSome
noncomputable def qQH (N:Nat) (wl:Nat) (e:Nat→Int) (t:(Int × Int × Nat × Nat × (Nat→List PV) × Nat × (Nat→List PV))):Nat × Int × Int × Nat × Nat × (Nat→List PV) × Nat × (Nat→List PV):=(qU (dcg2 wl e) (N + 10) t).getD (99,t)
theorem lwg2 (K:Cont) (N wl:Nat) (e:Nat→Int) (t:(Int × Int × Nat × Nat × (Nat→List PV) × Nat × (Nat→List PV))) (hg:qKZ N wl e t=true):LFX (N + 10) (cxS Tf (org0 N wl e) (N + 10) 11 (ntmF Tf 11)) (evX Tf (org0 N wl e) (N + 10) 11 (ntmF Tf 11)) (qY []) (qQ Tf 11 [0,1,0,0,1,0,0,1,0,1,1,1,1,1]) [0,1,0,0,1,0,0,1,0,1,1,1,1,1] (Tf.hint 11 (qJ (qQ Tf 11 [0,1,0,0,1,0,0,1,0,1,1,1,1,1]))) K (N + 10) (hg2 N wl e t.1 t.2.1 t.2.2.1 t.2.2.2.1 t.2.2.2.2.1 t.2.2.2.2.2.1 t.2.2.2.2.2.2)=kxg2 N wl e K (qQH N wl e t):=by
 refine (wlg2 K N wl e (N + 10) t).trans ?_;unfold qKZ at hg;unfold qQH;cases h:qU (dcg2 wl e) (N + 10) t with
 | none=>rw [h] at hg; cases hg
 | some y=>rfl
theorem okg2 (N wl:Nat) (e:Nat→Int):∀ p S,qY [([0,1,0,0,1,0,0,1,0,1,1,1,1,1],sumF (fun t:(Int × Int × Nat × Nat × (Nat→List PV) × Nat × (Nat→List PV))=>(hg2 N wl e t.1 t.2.1 t.2.2.1 t.2.2.2.1 t.2.2.2.2.1 t.2.2.2.2.2.1 t.2.2.2.2.2.2)) (fun σ=>(slI σ 7,slI σ 8,(bkC σ 11 1).toNat,rgN σ 25,rgF σ 25,rgN σ 59,rgF σ 59)) (fun t K=>(bif qKZ N wl e t then kxg2 N wl e K (qQH N wl e t) else none)))] p=some S→kQ (N + 10) (cxS Tf (org0 N wl e) (N + 10) 11 (ntmF Tf 11)) (qQ Tf 11 p) S:=fun p S hp=>by
 refine qW (L:=qQ Tf 11) (l:=[([0,1,0,0,1,0,0,1,0,1,1,1,1,1],sumF (fun t:(Int × Int × Nat × Nat × (Nat→List PV) × Nat × (Nat→List PV))=>(hg2 N wl e t.1 t.2.1 t.2.2.1 t.2.2.2.1 t.2.2.2.2.1 t.2.2.2.2.2.1 t.2.2.2.2.2.2)) (fun σ=>(slI σ 7,slI σ 8,(bkC σ 11 1).toNat,rgN σ 25,rgF σ 25,rgN σ 59,rgF σ 59)) (fun t K=>(bif qKZ N wl e t then kxg2 N wl e K (qQH N wl e t) else none)))]) ⟨?_,trivial⟩ p S hp;dsimp only;refine yZ (T:=Tf) (o:=(org0 N wl e)) (f:=11) (LO:=qY []) (p:=[0,1,0,0,1,0,0,1,0,1,1,1,1,1]) jQ ?_;intro t K r hr;obtain ⟨hg,hr⟩:=qZ hr
 skip
 exact (lwg2 K N wl e t hg).trans hr
noncomputable def hg1 (N wl:Nat) (e:Nat→Int) (x:Int) (m2:Nat) (pn:Nat) (pf:Nat→List PV) (rn:Nat) (f:Nat→List PV):St:=⟨[(2,.p 2 0),(3,.p 11 0),(4,.p 4 0),(5,.v (.n .i64 (vYX .i64 (2 + (nxV e wl 0 8))))),(7,.v (.n .i64 x))],[(2,.blk [.nl,.nl]),(4,.blk [.o 25,.o 59]),(11,.blk [.v (.lf wl (fQ e)),.v (.n .i64 (m2:Int))]),(25,.reg 26 1 (.fo pn pf)),(59,.reg 66 12 (.fo rn f))]⟩
set_option maxRecDepth 100000 in
theorem rdg1 (G:St→Option (Ret × Mem)) (K:Cont) (N wl:Nat) (e:Nat→Int) (x:Int) (m2:Nat) (pn:Nat) (pf:Nat→List PV) (rn:Nat) (f:Nat→List PV):zH (N + 10) (cxS Tf (org0 N wl e) (N + 10) 11 (ntmF Tf 11)) (evX Tf (org0 N wl e) (N + 10) 11 (ntmF Tf 11)) (qY [([0,1,0,0,1,0,0,1,0,1,1,1,1,1],sumF (fun t:(Int × Int × Nat × Nat × (Nat→List PV) × Nat × (Nat→List PV))=>(hg2 N wl e t.1 t.2.1 t.2.2.1 t.2.2.2.1 t.2.2.2.2.1 t.2.2.2.2.2.1 t.2.2.2.2.2.2)) (fun σ=>(slI σ 7,slI σ 8,(bkC σ 11 1).toNat,rgN σ 25,rgF σ 25,rgN σ 59,rgF σ 59)) (fun t K=>(bif qKZ N wl e t then kxg2 N wl e K (qQH N wl e t) else none)))]) (qQ Tf 11 [0,1,0,1,1,1,1,1]) [0,1,0,1,1,1,1,1] (Tf.hint 11 (qJ (qQ Tf 11 [0,1,0,1,1,1,1,1]))) K G (hg1 N wl e x m2 pn pf rn f) =
 (bif (decide (x < (vYX .i64 (2 + (nxV e wl 0 8))))) then (bif (gSt (hg2 N wl e x (vYX .i64 (x + 1)) m2 pn pf rn f) (hg2 N wl e x (vYX .i64 (x + 1)) m2 pn pf rn f)) then (bif (qKZ N wl e (x,(vYX .i64 (x + 1)),m2,pn,pf,rn,f)) then (bif (Nat.beq (qQH N wl e (x,(vYX .i64 (x + 1)),m2,pn,pf,rn,f)).1 0) then (G (hg1 N wl e (vYX .i64 ((qQH N wl e (x,(vYX .i64 (x + 1)),m2,pn,pf,rn,f)).2.1 + 1)) ((qQH N wl e (x,(vYX .i64 (x + 1)),m2,pn,pf,rn,f)).2.2.2.1) (qQH N wl e (x,(vYX .i64 (x + 1)),m2,pn,pf,rn,f)).2.2.2.2.1 (qQH N wl e (x,(vYX .i64 (x + 1)),m2,pn,pf,rn,f)).2.2.2.2.2.1 (qQH N wl e (x,(vYX .i64 (x + 1)),m2,pn,pf,rn,f)).2.2.2.2.2.2.1 (qQH N wl e (x,(vYX .i64 (x + 1)),m2,pn,pf,rn,f)).2.2.2.2.2.2.2))
 else none)
 else none)
 else none)
 else (K (.exit 2) ⟨[(2,.p 2 0),(4,.p 4 0)],[(2,.blk [.nl,.nl]),(4,.blk [.o 25,.o 59]),(25,.reg 26 1 (.fo pn pf)),(59,.reg 66 12 (.fo rn f))]⟩)):=by kernel_rfl
noncomputable def dcg1 (N wl:Nat) (e:Nat→Int):(Int × Nat × Nat × (Nat→List PV) × Nat × (Nat→List PV))→(Int × Nat × Nat × (Nat→List PV) × Nat × (Nat→List PV)) ⊕ (Nat × Int × Nat × Nat × (Nat→List PV) × Nat × (Nat→List PV)):=fun t=>match t with | (x,m2,pn,pf,rn,f)=>(bif (decide (x < (vYX .i64 (2 + (nxV e wl 0 8))))) then (bif (gSt (hg2 N wl e x (vYX .i64 (x + 1)) m2 pn pf rn f) (hg2 N wl e x (vYX .i64 (x + 1)) m2 pn pf rn f)) then (bif (qKZ N wl e (x,(vYX .i64 (x + 1)),m2,pn,pf,rn,f)) then (bif (Nat.beq (qQH N wl e (x,(vYX .i64 (x + 1)),m2,pn,pf,rn,f)).1 0) then (.inl ((vYX .i64 ((qQH N wl e (x,(vYX .i64 (x + 1)),m2,pn,pf,rn,f)).2.1 + 1)),((qQH N wl e (x,(vYX .i64 (x + 1)),m2,pn,pf,rn,f)).2.2.2.1),(qQH N wl e (x,(vYX .i64 (x + 1)),m2,pn,pf,rn,f)).2.2.2.2.1,(qQH N wl e (x,(vYX .i64 (x + 1)),m2,pn,pf,rn,f)).2.2.2.2.2.1,(qQH N wl e (x,(vYX .i64 (x + 1)),m2,pn,pf,rn,f)).2.2.2.2.2.2.1,(qQH N wl e (x,(vYX .i64 (x + 1)),m2,pn,pf,rn,f)).2.2.2.2.2.2.2)) else (.inr (1,(x,m2,pn,pf,rn,f)))) else (.inr (1,(x,m2,pn,pf,rn,f)))) else (.inr (1,(x,m2,pn,pf,rn,f)))) else (.inr (0,(x,m2,pn,pf,rn,f))))
noncomputable def kxg1 (N _:Nat) (e:Nat→Int) (K:Cont) (w9:Nat × Int × Nat × Nat × (Nat→List PV) × Nat × (Nat→List PV)):Option (Ret × Mem):=bif Nat.beq w9.1 0 then (K (.exit 2) ⟨[(2,.p 2 0),(4,.p 4 0)],[(2,.blk [.nl,.nl]),(4,.blk [.o 25,.o 59]),(25,.reg 26 1 (.fo w9.2.2.2.1 w9.2.2.2.2.1)),(59,.reg 66 12 (.fo w9.2.2.2.2.2.1 w9.2.2.2.2.2.2))]⟩) else none
theorem wlg1 (K:Cont) (N wl:Nat) (e:Nat→Int):∀ n9 (t:(Int × Nat × Nat × (Nat→List PV) × Nat × (Nat→List PV))),LFX (N + 10) (cxS Tf (org0 N wl e) (N + 10) 11 (ntmF Tf 11)) (evX Tf (org0 N wl e) (N + 10) 11 (ntmF Tf 11)) (qY [([0,1,0,0,1,0,0,1,0,1,1,1,1,1],sumF (fun t:(Int × Int × Nat × Nat × (Nat→List PV) × Nat × (Nat→List PV))=>(hg2 N wl e t.1 t.2.1 t.2.2.1 t.2.2.2.1 t.2.2.2.2.1 t.2.2.2.2.2.1 t.2.2.2.2.2.2)) (fun σ=>(slI σ 7,slI σ 8,(bkC σ 11 1).toNat,rgN σ 25,rgF σ 25,rgN σ 59,rgF σ 59)) (fun t K=>(bif qKZ N wl e t then kxg2 N wl e K (qQH N wl e t) else none)))]) (qQ Tf 11 [0,1,0,1,1,1,1,1]) [0,1,0,1,1,1,1,1] (Tf.hint 11 (qJ (qQ Tf 11 [0,1,0,1,1,1,1,1]))) K n9 (hg1 N wl e t.1 t.2.1 t.2.2.1 t.2.2.2.1 t.2.2.2.2.1 t.2.2.2.2.2)=(qU (dcg1 N wl e) n9 t).bind (kxg1 N wl e K):=fun n9 t=>by
 refine kG (L:=LFX (N + 10) (cxS Tf (org0 N wl e) (N + 10) 11 (ntmF Tf 11)) (evX Tf (org0 N wl e) (N + 10) 11 (ntmF Tf 11)) (qY [([0,1,0,0,1,0,0,1,0,1,1,1,1,1],sumF (fun t:(Int × Int × Nat × Nat × (Nat→List PV) × Nat × (Nat→List PV))=>(hg2 N wl e t.1 t.2.1 t.2.2.1 t.2.2.2.1 t.2.2.2.2.1 t.2.2.2.2.2.1 t.2.2.2.2.2.2)) (fun σ=>(slI σ 7,slI σ 8,(bkC σ 11 1).toNat,rgN σ 25,rgF σ 25,rgN σ 59,rgF σ 59)) (fun t K=>(bif qKZ N wl e t then kxg2 N wl e K (qQH N wl e t) else none)))]) (qQ Tf 11 [0,1,0,1,1,1,1,1]) [0,1,0,1,1,1,1,1] (Tf.hint 11 (qJ (qQ Tf 11 [0,1,0,1,1,1,1,1]))) K) (stp:=zH (N + 10) (cxS Tf (org0 N wl e) (N + 10) 11 (ntmF Tf 11)) (evX Tf (org0 N wl e) (N + 10) 11 (ntmF Tf 11)) (qY [([0,1,0,0,1,0,0,1,0,1,1,1,1,1],sumF (fun t:(Int × Int × Nat × Nat × (Nat→List PV) × Nat × (Nat→List PV))=>(hg2 N wl e t.1 t.2.1 t.2.2.1 t.2.2.2.1 t.2.2.2.2.1 t.2.2.2.2.2.1 t.2.2.2.2.2.2)) (fun σ=>(slI σ 7,slI σ 8,(bkC σ 11 1).toNat,rgN σ 25,rgF σ 25,rgN σ 59,rgF σ 59)) (fun t K=>(bif qKZ N wl e t then kxg2 N wl e K (qQH N wl e t) else none)))]) (qQ Tf 11 [0,1,0,1,1,1,1,1]) [0,1,0,1,1,1,1,1] (Tf.hint 11 (qJ (qQ Tf 11 [0,1,0,1,1,1,1,1]))) K) (fun _ _=>rfl) (fun _=>rfl) (fun t=>hg1 N wl e t.1 t.2.1 t.2.2.1 t.2.2.2.1 t.2.2.2.2.1 t.2.2.2.2.2) (fun _=>True) (dcg1 N wl e) (kxg1 N wl e K) (fun G t _ => ?_) (fun _ _ _ _=>trivial) n9 t trivial;obtain ⟨x,m2,pn,pf,rn,f⟩:=t;refine (rdg1 G K N wl e x m2 pn pf rn f).trans ?_;dsimp only [dcg1];cases (decide (x < (vYX .i64 (2 + (nxV e wl 0 8)))))
 ·rfl
 ·cases (gSt (hg2 N wl e x (vYX .i64 (x + 1)) m2 pn pf rn f) (hg2 N wl e x (vYX .i64 (x + 1)) m2 pn pf rn f))
  ·rfl
  ·cases (qKZ N wl e (x,(vYX .i64 (x + 1)),m2,pn,pf,rn,f))
   ·rfl
   ·cases (Nat.beq (qQH N wl e (x,(vYX .i64 (x + 1)),m2,pn,pf,rn,f)).1 0)
    ·rfl
    ·rfl
noncomputable def yQA (N:Nat) (N wl:Nat) (e:Nat→Int) (t:(Int × Nat × Nat × (Nat→List PV) × Nat × (Nat→List PV))):Bool:=(qU (dcg1 N wl e) (N + 10) t).isSome
noncomputable def qHB (N:Nat) (N wl:Nat) (e:Nat→Int) (t:(Int × Nat × Nat × (Nat→List PV) × Nat × (Nat→List PV))):Nat × Int × Nat × Nat × (Nat→List PV) × Nat × (Nat→List PV):=(qU (dcg1 N wl e) (N + 10) t).getD (99,t)
theorem lwg1 (K:Cont) (N wl:Nat) (e:Nat→Int) (t:(Int × Nat × Nat × (Nat→List PV) × Nat × (Nat→List PV))) (hg:yQA N N wl e t=true):LFX (N + 10) (cxS Tf (org0 N wl e) (N + 10) 11 (ntmF Tf 11)) (evX Tf (org0 N wl e) (N + 10) 11 (ntmF Tf 11)) (qY [([0,1,0,0,1,0,0,1,0,1,1,1,1,1],sumF (fun t:(Int × Int × Nat × Nat × (Nat→List PV) × Nat × (Nat→List PV))=>(hg2 N wl e t.1 t.2.1 t.2.2.1 t.2.2.2.1 t.2.2.2.2.1 t.2.2.2.2.2.1 t.2.2.2.2.2.2)) (fun σ=>(slI σ 7,slI σ 8,(bkC σ 11 1).toNat,rgN σ 25,rgF σ 25,rgN σ 59,rgF σ 59)) (fun t K=>(bif qKZ N wl e t then kxg2 N wl e K (qQH N wl e t) else none)))]) (qQ Tf 11 [0,1,0,1,1,1,1,1]) [0,1,0,1,1,1,1,1] (Tf.hint 11 (qJ (qQ Tf 11 [0,1,0,1,1,1,1,1]))) K (N + 10) (hg1 N wl e t.1 t.2.1 t.2.2.1 t.2.2.2.1 t.2.2.2.2.1 t.2.2.2.2.2)=kxg1 N wl e K (qHB N N wl e t):=by
 refine (wlg1 K N wl e (N + 10) t).trans ?_;unfold yQA at hg;unfold qHB;cases h:qU (dcg1 N wl e) (N + 10) t with
 | none=>rw [h] at hg; cases hg
 | some y=>rfl
def zP:Nat→List PV:=fun _=>[.zs]
def zE:Nat→List PV:=fun _=>[.n .i64 0,.n .i64 0,.n .i64 0,.n .i64 0,.n .i64 0,.zs,.n .i64 0,.n .i64 0,.zs,.n .i64 0,.zs,.zs]
theorem kZD (x:Int):0≤gsF x∧gsF x≤3:=by
 unfold gsF;cases decide (x=0) <;> cases decide (x - 1=0) <;> cases decide (x - 1 - 1=0) <;> cases decide (x - 1 - 1 - 1=0) <;> cases decide (x - 1 - 1 - 1 - 1=0) <;> cases decide (x - 1 - 1 - 1 - 1 - 1=0) <;> cases decide (x - 1 - 1 - 1 - 1 - 1 - 1=0) <;> simp only [vYQ,vYZ] <;> omega
def pusR (f:Nat→List PV) (rn:Nat) (c:List PV):Nat→List PV:=fun v=>kV (Nat.beq v rn) c (f v)
theorem jXJ (f:Nat→List PV) (rn:Nat) (c:List PV):pusR f rn c rn=c:=by
 unfold pusR; rw [Nat.beq_refl,qXA]
theorem jZC {f:Nat→List PV} {rn v:Nat} {c:List PV} (h:v ≠ rn):pusR f rn c v=f v:=by
 have hb:Nat.beq v rn=false:=by
  cases hb:Nat.beq v rn with
  | false=>rfl
  | true=>exact absurd (vQU hb) h
 unfold pusR;rw [hb,qXB]
def LX (a b c d:Int):Prop:=a < c ∨ (a=c∧b < d)
structure GI (n x y rn:Nat) (f:Nat→List PV) (ed:Nat→Ed):Prop where
 row:∀ v,v < rn→f v=edP (ed v)
 ok:∀ v,v < rn→0≤(ed v).u∧(ed v).u < (ed v).v∧(ed v).v < (n:Int)∧0≤(ed v).c∧(ed v).c≤6
 so:∀ v,v + 1 < rn→LX (ed v).u (ed v).v (ed (v + 1)).u (ed (v + 1)).v
 la:∀ v,v < rn→LX (ed v).u (ed v).v x y
def pusE (ed:Nat→Ed) (rn:Nat) (c:Ed):Nat→Ed:=fun v=>if v=rn then c else ed v
theorem GI.push {n x y rn:Nat} {f:Nat→List PV} {ed:Nat→Ed} (h:GI n x y rn f ed) {c:Ed} (hu:c.u=x) (hv:c.v=y) (_:x < y) (_:y < n) (_:0≤c.c∧c.c≤6):GI n x (y + 1) (rn + 1) (pusR f rn (edP c)) (pusE ed rn c) where
 row:=fun v hv=>by
  by_cases e:v=rn
  ·subst e; rw [jXJ]; unfold pusE; rw [if_pos rfl]
  ·rw [jZC e,h.row v (by omega)]; unfold pusE; rw [if_neg e]
 ok:=fun v hl=>by
  unfold pusE;by_cases e:v=rn
  ·rw [if_pos e]; omega
  ·rw [if_neg e]; exact h.ok v (by omega)
 so:=fun v hl=>by
  unfold pusE;rw [if_neg (show v ≠ rn by omega)];by_cases e:v + 1=rn
  ·rw [if_pos e,hu,hv]; exact h.la v (by omega)
  ·rw [if_neg e]; exact h.so v (by omega)
 la:=fun v hl=>by
  unfold pusE;by_cases e:v=rn
  ·rw [if_pos e]; unfold LX; omega
  ·rw [if_neg e]
   have:=h.la v (by omega)
   unfold LX at this ⊢; omega
theorem GI.skip {n x y rn:Nat} {f:Nat→List PV} {ed:Nat→Ed} (h:GI n x y rn f ed):GI n x (y + 1) rn f ed:=⟨h.row,h.ok,h.so,fun v hl=>by
 have:=h.la v hl
 unfold LX at this ⊢; omega⟩
theorem GI.next {n x rn:Nat} {f:Nat→List PV} {ed:Nat→Ed} (h:GI n x n rn f ed) (y:Nat):GI n (x + 1) y rn f ed:=⟨h.row,h.ok,h.so,fun v hl=>by
 have h1:=h.la v hl;have h2:=h.ok v hl;unfold LX at h1 ⊢; omega⟩
section
variable {wl:Nat} {e:Nat→Int} {n:Nat} (hn:vYX .i64 (2 + nxV e wl 0 8)=(n:Int)) (h9:n≤9)
include hn h9
theorem jVU:∀ (d x:Nat) (f:Nat→List PV) (M:Nat),x + d=n→d < M→∃ f',qU (dcg0 wl e) M ((x:Int),x,f)=some (0,(n:Int),n,f')
 | _,_,_,0,_,h=>by omega
 | 0,x,f,M + 1,hd,_=>by
  obtain rfl:x=n:=by omega
  refine ⟨f,?_⟩;rw [qU];dsimp only [dcg0];rw [hn,vYY (by omega)]; rfl
 | d + 1,x,f,M + 1,hd,hM=>by
  rw [qU];dsimp only [dcg0];rw [hn,vYJ (show (x:Int) < (n:Int) by omega),uK (show x < 1000000 by omega),vYJ (show x + 1≤1000000 by omega)];exact jVU d (x + 1) _ M (by omega) (by omega)
end
section
variable {wl:Nat} {e:Nat→Int} (hw:wl≤9223372036854775807) {n:Nat} (hn:vYX .i64 (2 + nxV e wl 0 8)=(n:Int)) (h9:n≤9)
include hw hn h9
theorem jJE {x pn:Nat} {pf:Nat→List PV}:∀ (d y m2 rn:Nat) (f:Nat→List PV) (ed:Nat→Ed) (M:Nat),y + d=n→d < M→x < y→m2≤wl→rn≤9 * x + y→rn≤1000→GI n x y rn f ed→∃ m' rn' f' ed',qU (dcg2 wl e) M ((x:Int),(y:Int),m2,pn,pf,rn,f)=some (0,(x:Int),(n:Int),m',pn,pf,rn',f')∧m'≤wl∧rn'≤9 * x + n∧GI n x n rn' f' ed'
 | _,_,_,_,_,_,0,_,h,_,_,_,_,_=>by omega
 | 0,y,m2,rn,f,ed,M + 1,hd,_,hx,hm,hr,_,hI=>by
  obtain rfl:y=n:=by omega
  refine ⟨m2,rn,f,ed,?_,hm,hr,hI⟩;rw [qU];dsimp only [dcg2];rw [hn,vYY (by omega)]; rfl
 | d + 1,y,m2,rn,f,ed,M + 1,hd,hM,hx,hm,hr,hr1,hI=>by
  rw [qU];dsimp only [dcg2];rw [hn,vYJ (show (y:Int) < (n:Int) by omega),qGL (C:=cnx) (t:=(wl,m2,e,5)) ⟨hm,hw,by decide,by decide⟩,uK (show y < 1000000 by omega),vYQ,vYQ];by_cases hc:nxV e wl m2 5 < 2
  ·have b8:=jJV (e:=e) (w:=wl) (m:=mA wl m2 2) (k:=8) (by decide);have b7:=jJV (e:=e) (w:=wl) (m:=mA wl m2 1) (k:=7) (by decide);have i8:inB (nxV e wl (mA wl m2 2) 8) 8=true:=by unfold inB; rw [vYJ b8.1,vYJ (by omega)]; rfl
   rw [vYJ hc,qGL (C:=cnx) (t:=(wl,mA wl m2 1,e,7)) ⟨yJY hm 1,hw,by decide,by decide⟩,qGL (C:=cnx) (t:=(wl,mA wl m2 2,e,8)) ⟨yJY hm 2,hw,by decide,by decide⟩,i8,kW (C:=ccl) (t:=gsF _) (kZD _),vYJ (show rn + 1≤1000000 by omega)];simp only [vYQ,Bool.and_true];have hp:=hI.push (c:=⟨x,y,nxV e wl (mA wl m2 1) 7,gsF (nxV e wl (mA wl m2 2) 8),clK (gsF (nxV e wl (mA wl m2 2) 8)),clD (gsF (nxV e wl (mA wl m2 2) 8)),0,0,clA (gsF (nxV e wl (mA wl m2 2) 8)),clF,0,clG,clB (gsF (nxV e wl (mA wl m2 2) 8)),clG,clB (gsF (nxV e wl (mA wl m2 2) 8)),clG⟩) rfl rfl hx (by omega) (by dsimp only; omega);exact jJE d (y + 1) (mA wl m2 3) (rn + 1) _ _ M (by omega) (by omega) (by omega) (yJY hm 3) (by omega) (by omega) hp
  ·rw [vYY hc,vYZ];exact jJE d (y + 1) (mA wl m2 1) rn f ed M (by omega) (by omega) (by omega) (yJY hm 1) (by omega) hr1 hI.skip
theorem jVK {N pn:Nat} {pf:Nat→List PV} (hN:10≤N):∀ (d x m2 rn:Nat) (f:Nat→List PV) (ed:Nat→Ed) (M:Nat),x + d=n→d < M→m2≤wl→rn≤9 * x→GI n x (x + 1) rn f ed→∃ m' rn' f' ed',qU (dcg1 N wl e) M ((x:Int),m2,pn,pf,rn,f)=some (0,(n:Int),m',pn,pf,rn',f')∧rn'≤9 * n∧GI n n (n + 1) rn' f' ed'
 | _,_,_,_,_,_,0,_,h,_,_,_=>by omega
 | 0,x,m2,rn,f,ed,M + 1,hd,_,hm,hr,hI=>by
  obtain rfl:x=n:=by omega
  refine ⟨m2,rn,f,ed,?_,hr,hI⟩;rw [qU];dsimp only [dcg1];rw [hn,vYY (by omega)]; rfl
 | d + 1,x,m2,rn,f,ed,M + 1,hd,hM,hm,hr,hI=>by
  obtain ⟨m',rn',f',ed',q1,q2,q3,q4⟩:=jJE hw hn h9 (x:=x) (pn:=pn) (pf:=pf) (n - (x + 1)) (x + 1) m2 rn f ed (N + 10) (by omega) (by omega) (by omega) hm (by omega) (by omega) hI;have o1:qKZ N wl e ((x:Int),((x + 1:Nat):Int),m2,pn,pf,rn,f)=true:=by unfold qKZ; rw [q1]; rfl
  have o2:qQH N wl e ((x:Int),((x + 1:Nat):Int),m2,pn,pf,rn,f)=(0,(x:Int),(n:Int),m',pn,pf,rn',f'):=by unfold qQH; rw [q1]; rfl
  rw [qU];dsimp only [dcg1];rw [hn,vYJ (show (x:Int) < (n:Int) by omega),yQ,uK (show x < 1000000 by omega),o1,o2];simp only [vYQ,uK (show x < 1000000 by omega)];exact jVK hN d (x + 1) m' rn' f' ed' M (by omega) (by omega) q2 (by omega) (q4.next (x + 1 + 1))
end
noncomputable def yVA (N wl:Nat) (e:Nat→Int):List (List Nat × yK):=[([0,1,0,1,1,1,1],sumF (fun t:(Int × Nat × (Nat→List PV))=>(hg0 N wl e t.1 t.2.1 t.2.2)) (fun σ=>(slI σ 6,rgN σ 25,rgF σ 25)) (fun t K=>(bif yQB N wl e t then kxg0 N wl e K (qZB N wl e t) else none))),([0,1,0,1,1,1,1,1],sumF (fun t:(Int × Nat × Nat × (Nat→List PV) × Nat × (Nat→List PV))=>(hg1 N wl e t.1 t.2.1 t.2.2.1 t.2.2.2.1 t.2.2.2.2.1 t.2.2.2.2.2)) (fun σ=>(slI σ 7,(bkC σ 11 1).toNat,rgN σ 25,rgF σ 25,rgN σ 59,rgF σ 59)) (fun t K=>(bif yQA N N wl e t then kxg1 N wl e K (qHB N N wl e t) else none)))]
set_option maxRecDepth 100000 in
theorem jHV (N wl:Nat) (e:Nat→Int):qQK Tf (org0 N wl e) (qY (yVA N wl e)) (N + 10) 11 [.lf wl (fQ e)] =
 (bif (gB1 cnx hnx enx (wl,0,e,8)) then (bif (gSt (hg0 N wl e 0 0 zP) (hg0 N wl e 0 0 zP)) then (bif (yQB N wl e (0,0,zP)) then (bif (Nat.beq (qZB N wl e (0,0,zP)).1 0) then (bif (gSt (hg1 N wl e 0 (mA wl 0 1) (qZB N wl e (0,0,zP)).2.2.1 (qZB N wl e (0,0,zP)).2.2.2 0 zE) (hg1 N wl e 0 (mA wl 0 1) (qZB N wl e (0,0,zP)).2.2.1 (qZB N wl e (0,0,zP)).2.2.2 0 zE)) then (bif (yQA N N wl e (0,(mA wl 0 1),(qZB N wl e (0,0,zP)).2.2.1,(qZB N wl e (0,0,zP)).2.2.2,0,zE)) then (bif (Nat.beq (qHB N N wl e (0,(mA wl 0 1),(qZB N wl e (0,0,zP)).2.2.1,(qZB N wl e (0,0,zP)).2.2.2,0,zE)).1 0) then some (.v (.a [.lf (qHB N N wl e (0,(mA wl 0 1),(qZB N wl e (0,0,zP)).2.2.1,(qZB N wl e (0,0,zP)).2.2.2,0,zE)).2.2.2.1 (qHB N N wl e (0,(mA wl 0 1),(qZB N wl e (0,0,zP)).2.2.1,(qZB N wl e (0,0,zP)).2.2.2,0,zE)).2.2.2.2.1,.lf (qHB N N wl e (0,(mA wl 0 1),(qZB N wl e (0,0,zP)).2.2.1,(qZB N wl e (0,0,zP)).2.2.2,0,zE)).2.2.2.2.2.1 (qHB N N wl e (0,(mA wl 0 1),(qZB N wl e (0,0,zP)).2.2.1,(qZB N wl e (0,0,zP)).2.2.2,0,zE)).2.2.2.2.2.2]),[])
 else none)
 else none)
 else none)
 else none)
 else none)
 else none)
 else none):=by kernel_rfl
theorem jQL (N wl:Nat) (e:Nat→Int) {n m3 en:Nat} {pf ef:Nat→List PV} (hw:wl≤9223372036854775807) (h0:qU (dcg0 wl e) (N + 10) (0,0,zP)=some (0,(n:Int),n,pf)) (h1:qU (dcg1 N wl e) (N + 10) (0,mA wl 0 1,n,pf,0,zE)=some (0,(n:Int),m3,n,pf,en,ef)):yY Try.prog 11 [.lf wl (fQ e)] (.v (.a [.lf n pf,.lf en ef])):=by
 refine qG (N:=(N + 10)) (LO:=qY (yVA N wl e)) yV yX (yG (l:=[(31,o_cl)]) (m:=[(30,o_nx)]) ⟨kQF,trivial⟩ ⟨kQU,trivial⟩) (fun p S hp => ?_) ?_
 ·refine qW (L:=qQ Tf 11) (l:=(yVA N wl e)) (show AllP _ (yVA N wl e) from ⟨?_,?_,trivial⟩) p S hp
  ·dsimp only;refine yZ (T:=Tf) (o:=(org0 N wl e)) (f:=11) (LO:=qY []) (p:=[0,1,0,1,1,1,1]) jQ ?_;intro t K r hr;obtain ⟨hg,hr⟩:=qZ hr
   skip
   exact (lwg0 K N wl e t hg).trans hr
  ·dsimp only;refine yZ (T:=Tf) (o:=(org0 N wl e)) (f:=11) (LO:=(qY [([0,1,0,0,1,0,0,1,0,1,1,1,1,1],sumF (fun t:(Int × Int × Nat × Nat × (Nat→List PV) × Nat × (Nat→List PV))=>(hg2 N wl e t.1 t.2.1 t.2.2.1 t.2.2.2.1 t.2.2.2.2.1 t.2.2.2.2.2.1 t.2.2.2.2.2.2)) (fun σ=>(slI σ 7,slI σ 8,(bkC σ 11 1).toNat,rgN σ 25,rgF σ 25,rgN σ 59,rgF σ 59)) (fun t K=>(bif qKZ N wl e t then kxg2 N wl e K (qQH N wl e t) else none)))])) (p:=[0,1,0,1,1,1,1,1]) (okg2 N wl e) ?_;intro t K r hr;obtain ⟨hg,hr⟩:=qZ hr
   skip
   exact (lwg1 K N wl e t hg).trans hr
 ·refine (jHV N wl e).trans ?_;have o1:yQB N wl e (0,0,zP)=true:=by unfold yQB; rw [h0]; rfl
  have o2:qZB N wl e (0,0,zP)=(0,(n:Int),n,pf):=by unfold qZB; rw [h0]; rfl
  have o3:yQA N N wl e (0,mA wl 0 1,n,pf,0,zE)=true:=by unfold yQA; rw [h1]; rfl
  have o4:qHB N N wl e (0,mA wl 0 1,n,pf,0,zE)=(0,(n:Int),m3,n,pf,en,ef):=by unfold qHB; rw [h1]; rfl
  rw [qGL (C:=cnx) (t:=(wl,0,e,8)) ⟨Nat.zero_le _,hw,by decide,by decide⟩,yQ,o1,o2];simp only [vYQ];rw [yQ,o3,o4];rfl
def kYZ (g:Gr):Prop:=wfB g=true∧2≤g.np∧g.np≤9∧g.ne≤81∧∀ i,i < g.ne→0≤(g.ed i).c∧(g.ed i).c≤6
theorem kZF (wl:Nat) (e:Nat→Int) (hw:wl≤9223372036854775807):∃ g:Gr,yY Try.prog 11 [.lf wl (fQ e)] (.v (.a (gP g)))∧kYZ g:=by
 have b:=jJV (e:=e) (w:=wl) (m:=0) (k:=8) (by decide);obtain ⟨n,hn,h2,h9⟩:∃ n:Nat,vYX .i64 (2 + nxV e wl 0 8)=(n:Int)∧2≤n∧n≤9:=⟨(2 + nxV e wl 0 8).toNat,by rw [yH (by omega)]; omega,by omega,by omega⟩
 obtain ⟨pf,h0⟩:=jVU hn h9 n 0 zP 30 (by omega) (by omega);obtain ⟨m3,en,ef,ed,h1,hr,hI⟩:=jVK hw hn h9 (N:=20) (pn:=n) (pf:=pf) (by decide) n 0 (mA wl 0 1) 0 zE (fun _=>unE []) 30 (by omega) (by omega) (yJY (Nat.zero_le _) 1) (by omega) ⟨fun v h=>absurd h (Nat.not_lt_zero v),fun v h=>absurd h (Nat.not_lt_zero v),fun v h=>absurd h (Nat.not_lt_zero _),fun v h=>absurd h (Nat.not_lt_zero v)⟩;have hs:=jQL 20 wl e hw h0 h1;refine ⟨⟨n,pf,en,ed⟩,qQE (Same.a (xs:=[_,_]) (ys:=[_,_]) ⟨Same.refl _,fun F w v h=>zXD (rows:=(List.range en).map (fE ed)) rfl (zXE (List.map_congr_left fun v hv=>by rw [hI.row v (List.mem_range.1 hv)]; rfl) h),trivial⟩) hs,?_,h2,h9,by show en≤81; omega,fun i hi=>⟨(hI.ok i hi).2.2.2.1,(hI.ok i hi).2.2.2.2⟩⟩;unfold wfB;rw [vYJ (show n≤1024 by omega),vYJ (show en≤8192 by omega),vZW,vZW];refine allN_iff.2 fun i _ hi => ?_
 have hi:i < en:=by have:i < 0 + en:=hi; omega
 have h3:=hI.ok i hi;show okE ⟨n,pf,en,ed⟩ i=true;unfold okE isP cpI;simp only [vQJ,Bool.or_eq_true,Bool.not_eq_true',decide_eq_true_eq,decide_eq_false_iff_not];refine ⟨by omega,by omega,by omega,by omega,by omega,?_⟩;by_cases h4:i=0
 ·exact .inl h4
 ·have h5:=hI.so (i - 1) (by omega);rw [show i - 1 + 1=i by omega] at h5;refine .inr ?_;unfold LX at h5;rcases h5 with h5 | ⟨h5,h6⟩
  ·rw [vYJ h5,vYQ]; omega
  ·rw [vYY (show ¬ (ed (i - 1)).u < (ed i).u by omega),vYY (show ¬ (ed i).u < (ed (i - 1)).u by omega),vYJ h6,vYZ,vYZ,vYQ]; omega
end Go.Proofs.Ytglkkhpdbfacfaa.Cc

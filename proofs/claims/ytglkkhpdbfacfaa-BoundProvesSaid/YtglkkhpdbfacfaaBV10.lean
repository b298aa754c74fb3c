/- Part 10 of the texts behind the last one: rules and contracts. No condition. -/
import Derived.Test.YtglkkhpdbfacfaaBV9
open Bool renaming and_eq_true → vQJ, true_and → vZW
open Go.IntKind renaming wrap → vYX
namespace Go.Proofs.Ytglkkhpdbfacfaa.Bg
open Go.Rx Rt Go.Sx Go.RowKit Ba Bb Bc Bd Be Bf Bh
noncomputable def orst (N _:Nat) (_:Nat→Nat) (_ _:Nat→Nat→Int) (a b:Int):OrS:=orS [(65,o_bt),(67,o_ix)] [(66,o_pu),(64,o_po)]
noncomputable def hsi (N np:Nat) (ln:Nat→Nat) (lt lc:Nat→Nat→Int) (a b:Int) (j:Int) (xc:Int) (xp:Int) (xv:Int) (rc:Nat→Int) (rp:Nat→Int) (qn:Nat) (qc:Nat→Int) (qp:Nat→Int) (qx:Nat→Int):St:=⟨[(0,.v (.lf np (fun u=>[.lf (ln u) (fun w=>[.n .i64 (lt u w),.n .i64 (lc u w)])]))),(1,.v (.n .i64 a)),(2,.v (.n .i64 b)),(6,.p 6 0),(8,.p 8 0),(9,.p 9 0),(10,.p 10 0),(53,.v (.lf (ln (xv).toNat) (fun w=>[.n .i64 (lt (xv).toNat w),.n .i64 (lc (xv).toNat w)]))),(54,.v (.n .i64 ((ln (xv).toNat):Int))),(55,.v (.n .i64 j))],[(6,.blk [.nl,.v (.n .i64 0)]),(8,.blk [.o 19]),(9,.blk [.o 30]),(10,.blk [.v (.n .i64 xc),.v (.n .i64 xp),.v (.n .i64 xv)]),(19,.reg 96 2 (.fo (np:Int).toNat (fun v=>[.n .i64 (rc v),.n .i64 (rp v)]))),(30,.reg 98 3 (.fo qn (q3 qc qp qx)))]⟩
set_option maxRecDepth 100000 in
theorem rdsi (G:St→Option (Ret × Mem)) (K:Cont) (N np:Nat) (ln:Nat→Nat) (lt lc:Nat→Nat→Int) (a b:Int) (j:Int) (xc:Int) (xp:Int) (xv:Int) (rc:Nat→Int) (rp:Nat→Int) (qn:Nat) (qc:Nat→Int) (qp:Nat→Int) (qx:Nat→Int):yX N (cxS Tf (orst N np ln lt lc a b) N 55 (ntmF Tf 55)) (evX Tf (orst N np ln lt lc a b) N 55 (ntmF Tf 55)) (qY []) (qZ Tf 55 [0,1,1,1,0,1,0,0,0,1,1,1,1,0,1]) [0,1,1,1,0,1,0,0,0,1,1,1,1,0,1] (Tf.hint 55 (qJ (qZ Tf 55 [0,1,1,1,0,1,0,0,0,1,1,1,1,0,1]))) K G (hsi N np ln lt lc a b j xc xp xv rc rp qn qc qp qx) =
 (bif (decide (j < ((ln (xv).toNat):Int))) then (bif (inB j (ln (xv).toNat)) then (bif (inB (lt (xv).toNat (j).toNat) (np:Int).toNat) then (bif (gF1 cbt ebt ((vYX .i64 (xc + (lc (xv).toNat (j).toNat))),(vYX .i64 (xp + 1)),(rc (lt (xv).toNat (j).toNat).toNat),(rp (lt (xv).toNat (j).toNat).toNat))) then (bif (btB (vYX .i64 (xc + (lc (xv).toNat (j).toNat))) (vYX .i64 (xp + 1)) (rc (lt (xv).toNat (j).toNat).toNat) (rp (lt (xv).toNat (j).toNat).toNat)) then (bif (inB (lt (xv).toNat (j).toNat) (np:Int).toNat) then (bif (gB1 cpu hpu epu (qn,qc,qp,qx,(vYX .i64 (xc + (lc (xv).toNat (j).toNat))),(vYX .i64 (xp + 1)),(lt (xv).toNat (j).toNat))) then (G (hsi N np ln lt lc a b (vYX .i64 (j + 1)) xc xp xv (fun v=>(bif (Nat.beq v (lt (xv).toNat (j).toNat).toNat) then (vYX .i64 (xc + (lc (xv).toNat (j).toNat))) else (rc v))) (fun v=>(bif (Nat.beq v (lt (xv).toNat (j).toNat).toNat) then (vYX .i64 (xp + 1)) else (rp v))) (qn + 1) (fun v=>((puT qn qc qp qx (vYX .i64 (xc + (lc (xv).toNat (j).toNat))) (vYX .i64 (xp + 1)) (lt (xv).toNat (j).toNat)).1 v)) (fun v=>((puT qn qc qp qx (vYX .i64 (xc + (lc (xv).toNat (j).toNat))) (vYX .i64 (xp + 1)) (lt (xv).toNat (j).toNat)).2.1 v)) (fun v=>((puT qn qc qp qx (vYX .i64 (xc + (lc (xv).toNat (j).toNat))) (vYX .i64 (xp + 1)) (lt (xv).toNat (j).toNat)).2.2 v))))
 else none)
 else none)
 else (G (hsi N np ln lt lc a b (vYX .i64 (j + 1)) xc xp xv (fun v=>(rc v)) (fun v=>(rp v)) qn (fun v=>(qc v)) (fun v=>(qp v)) (fun v=>(qx v)))))
 else none)
 else none)
 else none)
 else (K (.exit 3) ⟨[(0,.v (.lf np (fun u=>[.lf (ln u) (fun w=>[.n .i64 (lt u w),.n .i64 (lc u w)])]))),(1,.v (.n .i64 a)),(2,.v (.n .i64 b)),(6,.p 6 0),(8,.p 8 0),(9,.p 9 0)],[(6,.blk [.nl,.v (.n .i64 0)]),(8,.blk [.o 19]),(9,.blk [.o 30]),(19,.reg 96 2 (.fo (np:Int).toNat (fun v=>[.n .i64 (rc v),.n .i64 (rp v)]))),(30,.reg 98 3 (.fo qn (q3 qc qp qx)))]⟩)):=by kernel_rfl
noncomputable def dcsi (np:Nat) (ln:Nat→Nat) (lt lc:Nat→Nat→Int):(Int × Int × Int × Int × (Nat→Int) × (Nat→Int) × Nat × (Nat→Int) × (Nat→Int) × (Nat→Int))→(Int × Int × Int × Int × (Nat→Int) × (Nat→Int) × Nat × (Nat→Int) × (Nat→Int) × (Nat→Int)) ⊕ (Nat × Int × Int × Int × Int × (Nat→Int) × (Nat→Int) × Nat × (Nat→Int) × (Nat→Int) × (Nat→Int)):=fun t=>match t with | (j,xc,xp,xv,rc,rp,qn,qc,qp,qx)=>(bif (decide (j < ((ln (xv).toNat):Int))) then (bif (inB j (ln (xv).toNat)) then (bif (inB (lt (xv).toNat (j).toNat) (np:Int).toNat) then (bif (gF1 cbt ebt ((vYX .i64 (xc + (lc (xv).toNat (j).toNat))),(vYX .i64 (xp + 1)),(rc (lt (xv).toNat (j).toNat).toNat),(rp (lt (xv).toNat (j).toNat).toNat))) then (bif (btB (vYX .i64 (xc + (lc (xv).toNat (j).toNat))) (vYX .i64 (xp + 1)) (rc (lt (xv).toNat (j).toNat).toNat) (rp (lt (xv).toNat (j).toNat).toNat)) then (bif (gB1 cpu hpu epu (qn,qc,qp,qx,(vYX .i64 (xc + (lc (xv).toNat (j).toNat))),(vYX .i64 (xp + 1)),(lt (xv).toNat (j).toNat))) then (.inl ((vYX .i64 (j + 1)),xc,xp,xv,(fun v=>(bif (Nat.beq v (lt (xv).toNat (j).toNat).toNat) then (vYX .i64 (xc + (lc (xv).toNat (j).toNat))) else (rc v))),(fun v=>(bif (Nat.beq v (lt (xv).toNat (j).toNat).toNat) then (vYX .i64 (xp + 1)) else (rp v))),(qn + 1),(fun v=>((puT qn qc qp qx (vYX .i64 (xc + (lc (xv).toNat (j).toNat))) (vYX .i64 (xp + 1)) (lt (xv).toNat (j).toNat)).1 v)),(fun v=>((puT qn qc qp qx (vYX .i64 (xc + (lc (xv).toNat (j).toNat))) (vYX .i64 (xp + 1)) (lt (xv).toNat (j).toNat)).2.1 v)),(fun v=>((puT qn qc qp qx (vYX .i64 (xc + (lc (xv).toNat (j).toNat))) (vYX .i64 (xp + 1)) (lt (xv).toNat (j).toNat)).2.2 v)))) else (.inr (1,(j,xc,xp,xv,rc,rp,qn,qc,qp,qx)))) else (.inl ((vYX .i64 (j + 1)),xc,xp,xv,(fun v=>(rc v)),(fun v=>(rp v)),qn,(fun v=>(qc v)),(fun v=>(qp v)),(fun v=>(qx v))))) else (.inr (1,(j,xc,xp,xv,rc,rp,qn,qc,qp,qx)))) else (.inr (1,(j,xc,xp,xv,rc,rp,qn,qc,qp,qx)))) else (.inr (1,(j,xc,xp,xv,rc,rp,qn,qc,qp,qx)))) else (.inr (0,(j,xc,xp,xv,rc,rp,qn,qc,qp,qx))))
noncomputable def kxsi (N np:Nat) (ln:Nat→Nat) (lt lc:Nat→Nat→Int) (a b:Int) (K:Cont) (w9:Nat × Int × Int × Int × Int × (Nat→Int) × (Nat→Int) × Nat × (Nat→Int) × (Nat→Int) × (Nat→Int)):Option (Ret × Mem):=bif Nat.beq w9.1 0 then (K (.exit 3) ⟨[(0,.v (.lf np (fun u=>[.lf (ln u) (fun w=>[.n .i64 (lt u w),.n .i64 (lc u w)])]))),(1,.v (.n .i64 a)),(2,.v (.n .i64 b)),(6,.p 6 0),(8,.p 8 0),(9,.p 9 0)],[(6,.blk [.nl,.v (.n .i64 0)]),(8,.blk [.o 19]),(9,.blk [.o 30]),(19,.reg 96 2 (.fo (np:Int).toNat (fun v=>[.n .i64 (w9.2.2.2.2.2.1 v),.n .i64 (w9.2.2.2.2.2.2.1 v)]))),(30,.reg 98 3 (.fo w9.2.2.2.2.2.2.2.1 (q3 w9.2.2.2.2.2.2.2.2.1 w9.2.2.2.2.2.2.2.2.2.1 w9.2.2.2.2.2.2.2.2.2.2)))]⟩) else none
theorem wlsi (K:Cont) (N np:Nat) (ln:Nat→Nat) (lt lc:Nat→Nat→Int) (a b:Int):∀ n9 (t:(Int × Int × Int × Int × (Nat→Int) × (Nat→Int) × Nat × (Nat→Int) × (Nat→Int) × (Nat→Int))),LFX N (cxS Tf (orst N np ln lt lc a b) N 55 (ntmF Tf 55)) (evX Tf (orst N np ln lt lc a b) N 55 (ntmF Tf 55)) (qY []) (qZ Tf 55 [0,1,1,1,0,1,0,0,0,1,1,1,1,0,1]) [0,1,1,1,0,1,0,0,0,1,1,1,1,0,1] (Tf.hint 55 (qJ (qZ Tf 55 [0,1,1,1,0,1,0,0,0,1,1,1,1,0,1]))) K n9 (hsi N np ln lt lc a b t.1 t.2.1 t.2.2.1 t.2.2.2.1 t.2.2.2.2.1 t.2.2.2.2.2.1 t.2.2.2.2.2.2.1 t.2.2.2.2.2.2.2.1 t.2.2.2.2.2.2.2.2.1 t.2.2.2.2.2.2.2.2.2)=(qX (dcsi np ln lt lc) n9 t).bind (kxsi N np ln lt lc a b K):=fun n9 t=>by
 refine qQY (L:=LFX N (cxS Tf (orst N np ln lt lc a b) N 55 (ntmF Tf 55)) (evX Tf (orst N np ln lt lc a b) N 55 (ntmF Tf 55)) (qY []) (qZ Tf 55 [0,1,1,1,0,1,0,0,0,1,1,1,1,0,1]) [0,1,1,1,0,1,0,0,0,1,1,1,1,0,1] (Tf.hint 55 (qJ (qZ Tf 55 [0,1,1,1,0,1,0,0,0,1,1,1,1,0,1]))) K) (stp:=yX N (cxS Tf (orst N np ln lt lc a b) N 55 (ntmF Tf 55)) (evX Tf (orst N np ln lt lc a b) N 55 (ntmF Tf 55)) (qY []) (qZ Tf 55 [0,1,1,1,0,1,0,0,0,1,1,1,1,0,1]) [0,1,1,1,0,1,0,0,0,1,1,1,1,0,1] (Tf.hint 55 (qJ (qZ Tf 55 [0,1,1,1,0,1,0,0,0,1,1,1,1,0,1]))) K) (fun _ _=>rfl) (fun _=>rfl) (fun t=>hsi N np ln lt lc a b t.1 t.2.1 t.2.2.1 t.2.2.2.1 t.2.2.2.2.1 t.2.2.2.2.2.1 t.2.2.2.2.2.2.1 t.2.2.2.2.2.2.2.1 t.2.2.2.2.2.2.2.2.1 t.2.2.2.2.2.2.2.2.2) (fun _=>True) (dcsi np ln lt lc) (kxsi N np ln lt lc a b K) (fun G t _ => ?_) (fun _ _ _ _=>trivial) n9 t trivial;obtain ⟨j,xc,xp,xv,rc,rp,qn,qc,qp,qx⟩:=t;refine (rdsi G K N np ln lt lc a b j xc xp xv rc rp qn qc qp qx).trans ?_;dsimp only [dcsi];cases (decide (j < ((ln (xv).toNat):Int)))
 ·rfl
 ·cases (inB j (ln (xv).toNat))
  ·rfl
  ·cases (inB (lt (xv).toNat (j).toNat) (np:Int).toNat)
   ·rfl
   ·cases (gF1 cbt ebt ((vYX .i64 (xc + (lc (xv).toNat (j).toNat))),(vYX .i64 (xp + 1)),(rc (lt (xv).toNat (j).toNat).toNat),(rp (lt (xv).toNat (j).toNat).toNat)))
    ·rfl
    ·cases (btB (vYX .i64 (xc + (lc (xv).toNat (j).toNat))) (vYX .i64 (xp + 1)) (rc (lt (xv).toNat (j).toNat).toNat) (rp (lt (xv).toNat (j).toNat).toNat))
     ·rfl
     ·cases (gB1 cpu hpu epu (qn,qc,qp,qx,(vYX .i64 (xc + (lc (xv).toNat (j).toNat))),(vYX .i64 (xp + 1)),(lt (xv).toNat (j).toNat)))
      ·rfl
      ·rfl
noncomputable def qJA (N:Nat) (np:Nat) (ln:Nat→Nat) (lt lc:Nat→Nat→Int) (t:(Int × Int × Int × Int × (Nat→Int) × (Nat→Int) × Nat × (Nat→Int) × (Nat→Int) × (Nat→Int))):Bool:=(qX (dcsi np ln lt lc) N t).isSome
noncomputable def qQJ (N:Nat) (np:Nat) (ln:Nat→Nat) (lt lc:Nat→Nat→Int) (t:(Int × Int × Int × Int × (Nat→Int) × (Nat→Int) × Nat × (Nat→Int) × (Nat→Int) × (Nat→Int))):Nat × Int × Int × Int × Int × (Nat→Int) × (Nat→Int) × Nat × (Nat→Int) × (Nat→Int) × (Nat→Int):=(qX (dcsi np ln lt lc) N t).getD (99,t)
theorem lwsi (K:Cont) (N np:Nat) (ln:Nat→Nat) (lt lc:Nat→Nat→Int) (a b:Int) (t:(Int × Int × Int × Int × (Nat→Int) × (Nat→Int) × Nat × (Nat→Int) × (Nat→Int) × (Nat→Int))) (hg:qJA N np ln lt lc t=true):LFX N (cxS Tf (orst N np ln lt lc a b) N 55 (ntmF Tf 55)) (evX Tf (orst N np ln lt lc a b) N 55 (ntmF Tf 55)) (qY []) (qZ Tf 55 [0,1,1,1,0,1,0,0,0,1,1,1,1,0,1]) [0,1,1,1,0,1,0,0,0,1,1,1,1,0,1] (Tf.hint 55 (qJ (qZ Tf 55 [0,1,1,1,0,1,0,0,0,1,1,1,1,0,1]))) K N (hsi N np ln lt lc a b t.1 t.2.1 t.2.2.1 t.2.2.2.1 t.2.2.2.2.1 t.2.2.2.2.2.1 t.2.2.2.2.2.2.1 t.2.2.2.2.2.2.2.1 t.2.2.2.2.2.2.2.2.1 t.2.2.2.2.2.2.2.2.2)=kxsi N np ln lt lc a b K (qQJ N np ln lt lc t):=by
 refine (wlsi K N np ln lt lc a b N t).trans ?_;unfold qJA at hg;unfold qQJ;cases h:qX (dcsi np ln lt lc) N t with
 | none=>rw [h] at hg; cases hg
 | some y=>rfl
theorem oksi (N np:Nat) (ln:Nat→Nat) (lt lc:Nat→Nat→Int) (a b:Int):∀ p S,qY [([0,1,1,1,0,1,0,0,0,1,1,1,1,0,1],sumF (fun t:(Int × Int × Int × Int × (Nat→Int) × (Nat→Int) × Nat × (Nat→Int) × (Nat→Int) × (Nat→Int))=>(hsi N np ln lt lc a b t.1 t.2.1 t.2.2.1 t.2.2.2.1 t.2.2.2.2.1 t.2.2.2.2.2.1 t.2.2.2.2.2.2.1 t.2.2.2.2.2.2.2.1 t.2.2.2.2.2.2.2.2.1 t.2.2.2.2.2.2.2.2.2)) (fun σ=>(slI σ 55,bkC σ 10 0,bkC σ 10 1,bkC σ 10 2,rgI σ 19 0,rgI σ 19 1,rgN σ 30,rgI σ 30 0,rgI σ 30 1,rgI σ 30 2)) (fun t K=>(bif qJA N np ln lt lc t then kxsi N np ln lt lc a b K (qQJ N np ln lt lc t) else none)))] p=some S→kV N (cxS Tf (orst N np ln lt lc a b) N 55 (ntmF Tf 55)) (qZ Tf 55 p) S:=fun p S hp=>by
 refine qV (L:=qZ Tf 55) (l:=[([0,1,1,1,0,1,0,0,0,1,1,1,1,0,1],sumF (fun t:(Int × Int × Int × Int × (Nat→Int) × (Nat→Int) × Nat × (Nat→Int) × (Nat→Int) × (Nat→Int))=>(hsi N np ln lt lc a b t.1 t.2.1 t.2.2.1 t.2.2.2.1 t.2.2.2.2.1 t.2.2.2.2.2.1 t.2.2.2.2.2.2.1 t.2.2.2.2.2.2.2.1 t.2.2.2.2.2.2.2.2.1 t.2.2.2.2.2.2.2.2.2)) (fun σ=>(slI σ 55,bkC σ 10 0,bkC σ 10 1,bkC σ 10 2,rgI σ 19 0,rgI σ 19 1,rgN σ 30,rgI σ 30 0,rgI σ 30 1,rgI σ 30 2)) (fun t K=>(bif qJA N np ln lt lc t then kxsi N np ln lt lc a b K (qQJ N np ln lt lc t) else none)))]) ⟨?_,trivial⟩ p S hp;dsimp only;refine yV (T:=Tf) (o:=(orst N np ln lt lc a b)) (f:=55) (LO:=qY []) (p:=[0,1,1,1,0,1,0,0,0,1,1,1,1,0,1]) kZ ?_;intro t K r hr;obtain ⟨hg,hr⟩:=qQ hr
 skip
 exact (lwsi K N np ln lt lc a b t hg).trans hr
noncomputable def hst (N np:Nat) (ln:Nat→Nat) (lt lc:Nat→Nat→Int) (a b:Int) (rc:Nat→Int) (rp:Nat→Int) (qn:Nat) (qc:Nat→Int) (qp:Nat→Int) (qx:Nat→Int):St:=⟨[(0,.v (.lf np (fun u=>[.lf (ln u) (fun w=>[.n .i64 (lt u w),.n .i64 (lc u w)])]))),(1,.v (.n .i64 a)),(2,.v (.n .i64 b)),(6,.p 6 0),(8,.p 8 0),(9,.p 9 0)],[(6,.blk [.nl,.v (.n .i64 0)]),(8,.blk [.o 19]),(9,.blk [.o 30]),(19,.reg 96 2 (.fo (np:Int).toNat (fun v=>[.n .i64 (rc v),.n .i64 (rp v)]))),(30,.reg 98 3 (.fo qn (q3 qc qp qx)))]⟩
set_option maxRecDepth 100000 in
theorem rdst (G:St→Option (Ret × Mem)) (K:Cont) (N np:Nat) (ln:Nat→Nat) (lt lc:Nat→Nat→Int) (a b:Int) (rc:Nat→Int) (rp:Nat→Int) (qn:Nat) (qc:Nat→Int) (qp:Nat→Int) (qx:Nat→Int):yX N (cxS Tf (orst N np ln lt lc a b) N 55 (ntmF Tf 55)) (evX Tf (orst N np ln lt lc a b) N 55 (ntmF Tf 55)) (qY [([0,1,1,1,0,1,0,0,0,1,1,1,1,0,1],sumF (fun t:(Int × Int × Int × Int × (Nat→Int) × (Nat→Int) × Nat × (Nat→Int) × (Nat→Int) × (Nat→Int))=>(hsi N np ln lt lc a b t.1 t.2.1 t.2.2.1 t.2.2.2.1 t.2.2.2.2.1 t.2.2.2.2.2.1 t.2.2.2.2.2.2.1 t.2.2.2.2.2.2.2.1 t.2.2.2.2.2.2.2.2.1 t.2.2.2.2.2.2.2.2.2)) (fun σ=>(slI σ 55,bkC σ 10 0,bkC σ 10 1,bkC σ 10 2,rgI σ 19 0,rgI σ 19 1,rgN σ 30,rgI σ 30 0,rgI σ 30 1,rgI σ 30 2)) (fun t K=>(bif qJA N np ln lt lc t then kxsi N np ln lt lc a b K (qQJ N np ln lt lc t) else none)))]) (qZ Tf 55 [0,0,1,1,1,1,0,1]) [0,0,1,1,1,1,0,1] (Tf.hint 55 (qJ (qZ Tf 55 [0,0,1,1,1,1,0,1]))) K G (hst N np ln lt lc a b rc rp qn qc qp qx) =
 (bif (decide (0 < (qn:Int))) then (bif (gB1 cpo hpo epo (qn,qc,qp,qx)) then (bif (decide ((qx 0)=a)) then (K (.exit 0) ⟨[(0,.v (.lf np (fun u=>[.lf (ln u) (fun w=>[.n .i64 (lt u w),.n .i64 (lc u w)])]))),(1,.v (.n .i64 a)),(2,.v (.n .i64 b)),(6,.p 6 0),(8,.p 8 0)],[(6,.blk [.nl,.v (.n .i64 0)]),(8,.blk [.o 19]),(19,.reg 96 2 (.fo (np:Int).toNat (fun v=>[.n .i64 (rc v),.n .i64 (rp v)])))]⟩)
 else (bif (inB (qx 0) (np:Int).toNat) then (bif (!((decide ((qc 0)=(rc (qx 0).toNat))) && ((decide ((qp 0)=(rp (qx 0).toNat))) && true))) then (G (hst N np ln lt lc a b (fun v=>(rc v)) (fun v=>(rp v)) (qn - 1) (fun v=>((poT qn qc qp qx).1 v)) (fun v=>((poT qn qc qp qx).2.1 v)) (fun v=>((poT qn qc qp qx).2.2 v))))
 else (bif (inB (qx 0) np) then (bif (gSt (hsi N np ln lt lc a b 0 (qc 0) (qp 0) (qx 0) (fun v=>(rc v)) (fun v=>(rp v)) (qn - 1) (fun v=>((poT qn qc qp qx).1 v)) (fun v=>((poT qn qc qp qx).2.1 v)) (fun v=>((poT qn qc qp qx).2.2 v))) (hsi N np ln lt lc a b 0 (qc 0) (qp 0) (qx 0) (fun v=>(rc v)) (fun v=>(rp v)) (qn - 1) (fun v=>((poT qn qc qp qx).1 v)) (fun v=>((poT qn qc qp qx).2.1 v)) (fun v=>((poT qn qc qp qx).2.2 v)))) then (bif (qJA N np ln lt lc (0,(qc 0),(qp 0),(qx 0),(fun v=>(rc v)),(fun v=>(rp v)),(qn - 1),(fun v=>((poT qn qc qp qx).1 v)),(fun v=>((poT qn qc qp qx).2.1 v)),(fun v=>((poT qn qc qp qx).2.2 v)))) then (bif (Nat.beq (qQJ N np ln lt lc (0,(qc 0),(qp 0),(qx 0),(fun v=>(rc v)),(fun v=>(rp v)),(qn - 1),(fun v=>((poT qn qc qp qx).1 v)),(fun v=>((poT qn qc qp qx).2.1 v)),(fun v=>((poT qn qc qp qx).2.2 v)))).1 0) then (G (hst N np ln lt lc a b (fun v=>((qQJ N np ln lt lc (0,(qc 0),(qp 0),(qx 0),(fun v=>(rc v)),(fun v=>(rp v)),(qn - 1),(fun v=>((poT qn qc qp qx).1 v)),(fun v=>((poT qn qc qp qx).2.1 v)),(fun v=>((poT qn qc qp qx).2.2 v)))).2.2.2.2.2.1 v)) (fun v=>((qQJ N np ln lt lc (0,(qc 0),(qp 0),(qx 0),(fun v=>(rc v)),(fun v=>(rp v)),(qn - 1),(fun v=>((poT qn qc qp qx).1 v)),(fun v=>((poT qn qc qp qx).2.1 v)),(fun v=>((poT qn qc qp qx).2.2 v)))).2.2.2.2.2.2.1 v)) (qQJ N np ln lt lc (0,(qc 0),(qp 0),(qx 0),(fun v=>(rc v)),(fun v=>(rp v)),(qn - 1),(fun v=>((poT qn qc qp qx).1 v)),(fun v=>((poT qn qc qp qx).2.1 v)),(fun v=>((poT qn qc qp qx).2.2 v)))).2.2.2.2.2.2.2.1 (fun v=>((qQJ N np ln lt lc (0,(qc 0),(qp 0),(qx 0),(fun v=>(rc v)),(fun v=>(rp v)),(qn - 1),(fun v=>((poT qn qc qp qx).1 v)),(fun v=>((poT qn qc qp qx).2.1 v)),(fun v=>((poT qn qc qp qx).2.2 v)))).2.2.2.2.2.2.2.2.1 v)) (fun v=>((qQJ N np ln lt lc (0,(qc 0),(qp 0),(qx 0),(fun v=>(rc v)),(fun v=>(rp v)),(qn - 1),(fun v=>((poT qn qc qp qx).1 v)),(fun v=>((poT qn qc qp qx).2.1 v)),(fun v=>((poT qn qc qp qx).2.2 v)))).2.2.2.2.2.2.2.2.2.1 v)) (fun v=>((qQJ N np ln lt lc (0,(qc 0),(qp 0),(qx 0),(fun v=>(rc v)),(fun v=>(rp v)),(qn - 1),(fun v=>((poT qn qc qp qx).1 v)),(fun v=>((poT qn qc qp qx).2.1 v)),(fun v=>((poT qn qc qp qx).2.2 v)))).2.2.2.2.2.2.2.2.2.2 v))))
 else none)
 else none)
 else none)
 else none))
 else none))
 else none)
 else (K (.exit 0) ⟨[(0,.v (.lf np (fun u=>[.lf (ln u) (fun w=>[.n .i64 (lt u w),.n .i64 (lc u w)])]))),(1,.v (.n .i64 a)),(2,.v (.n .i64 b)),(6,.p 6 0),(8,.p 8 0)],[(6,.blk [.nl,.v (.n .i64 0)]),(8,.blk [.o 19]),(19,.reg 96 2 (.fo (np:Int).toNat (fun v=>[.n .i64 (rc v),.n .i64 (rp v)])))]⟩)):=by kernel_rfl
noncomputable def dcst (N:Nat) (np:Nat) (ln:Nat→Nat) (lt lc:Nat→Nat→Int) (a b:Int):((Nat→Int) × (Nat→Int) × Nat × (Nat→Int) × (Nat→Int) × (Nat→Int))→((Nat→Int) × (Nat→Int) × Nat × (Nat→Int) × (Nat→Int) × (Nat→Int)) ⊕ (Nat × (Nat→Int) × (Nat→Int) × Nat × (Nat→Int) × (Nat→Int) × (Nat→Int)):=fun t=>match t with | (rc,rp,qn,qc,qp,qx)=>(bif (decide (0 < (qn:Int))) then (bif (gB1 cpo hpo epo (qn,qc,qp,qx)) then (bif (decide ((qx 0)=a)) then (.inr (0,(rc,rp,qn,qc,qp,qx))) else (bif (inB (qx 0) (np:Int).toNat) then (bif (!((decide ((qc 0)=(rc (qx 0).toNat))) && ((decide ((qp 0)=(rp (qx 0).toNat))) && true))) then (.inl ((fun v=>(rc v)),(fun v=>(rp v)),(qn - 1),(fun v=>((poT qn qc qp qx).1 v)),(fun v=>((poT qn qc qp qx).2.1 v)),(fun v=>((poT qn qc qp qx).2.2 v)))) else (bif (inB (qx 0) np) then (bif (gSt (hsi N np ln lt lc a b 0 (qc 0) (qp 0) (qx 0) (fun v=>(rc v)) (fun v=>(rp v)) (qn - 1) (fun v=>((poT qn qc qp qx).1 v)) (fun v=>((poT qn qc qp qx).2.1 v)) (fun v=>((poT qn qc qp qx).2.2 v))) (hsi N np ln lt lc a b 0 (qc 0) (qp 0) (qx 0) (fun v=>(rc v)) (fun v=>(rp v)) (qn - 1) (fun v=>((poT qn qc qp qx).1 v)) (fun v=>((poT qn qc qp qx).2.1 v)) (fun v=>((poT qn qc qp qx).2.2 v)))) then (bif (qJA N np ln lt lc (0,(qc 0),(qp 0),(qx 0),(fun v=>(rc v)),(fun v=>(rp v)),(qn - 1),(fun v=>((poT qn qc qp qx).1 v)),(fun v=>((poT qn qc qp qx).2.1 v)),(fun v=>((poT qn qc qp qx).2.2 v)))) then (bif (Nat.beq (qQJ N np ln lt lc (0,(qc 0),(qp 0),(qx 0),(fun v=>(rc v)),(fun v=>(rp v)),(qn - 1),(fun v=>((poT qn qc qp qx).1 v)),(fun v=>((poT qn qc qp qx).2.1 v)),(fun v=>((poT qn qc qp qx).2.2 v)))).1 0) then (.inl ((fun v=>((qQJ N np ln lt lc (0,(qc 0),(qp 0),(qx 0),(fun v=>(rc v)),(fun v=>(rp v)),(qn - 1),(fun v=>((poT qn qc qp qx).1 v)),(fun v=>((poT qn qc qp qx).2.1 v)),(fun v=>((poT qn qc qp qx).2.2 v)))).2.2.2.2.2.1 v)),(fun v=>((qQJ N np ln lt lc (0,(qc 0),(qp 0),(qx 0),(fun v=>(rc v)),(fun v=>(rp v)),(qn - 1),(fun v=>((poT qn qc qp qx).1 v)),(fun v=>((poT qn qc qp qx).2.1 v)),(fun v=>((poT qn qc qp qx).2.2 v)))).2.2.2.2.2.2.1 v)),(qQJ N np ln lt lc (0,(qc 0),(qp 0),(qx 0),(fun v=>(rc v)),(fun v=>(rp v)),(qn - 1),(fun v=>((poT qn qc qp qx).1 v)),(fun v=>((poT qn qc qp qx).2.1 v)),(fun v=>((poT qn qc qp qx).2.2 v)))).2.2.2.2.2.2.2.1,(fun v=>((qQJ N np ln lt lc (0,(qc 0),(qp 0),(qx 0),(fun v=>(rc v)),(fun v=>(rp v)),(qn - 1),(fun v=>((poT qn qc qp qx).1 v)),(fun v=>((poT qn qc qp qx).2.1 v)),(fun v=>((poT qn qc qp qx).2.2 v)))).2.2.2.2.2.2.2.2.1 v)),(fun v=>((qQJ N np ln lt lc (0,(qc 0),(qp 0),(qx 0),(fun v=>(rc v)),(fun v=>(rp v)),(qn - 1),(fun v=>((poT qn qc qp qx).1 v)),(fun v=>((poT qn qc qp qx).2.1 v)),(fun v=>((poT qn qc qp qx).2.2 v)))).2.2.2.2.2.2.2.2.2.1 v)),(fun v=>((qQJ N np ln lt lc (0,(qc 0),(qp 0),(qx 0),(fun v=>(rc v)),(fun v=>(rp v)),(qn - 1),(fun v=>((poT qn qc qp qx).1 v)),(fun v=>((poT qn qc qp qx).2.1 v)),(fun v=>((poT qn qc qp qx).2.2 v)))).2.2.2.2.2.2.2.2.2.2 v)))) else (.inr (1,(rc,rp,qn,qc,qp,qx)))) else (.inr (1,(rc,rp,qn,qc,qp,qx)))) else (.inr (1,(rc,rp,qn,qc,qp,qx)))) else (.inr (1,(rc,rp,qn,qc,qp,qx))))) else (.inr (1,(rc,rp,qn,qc,qp,qx))))) else (.inr (1,(rc,rp,qn,qc,qp,qx)))) else (.inr (0,(rc,rp,qn,qc,qp,qx))))
noncomputable def kxst (N np:Nat) (ln:Nat→Nat) (lt lc:Nat→Nat→Int) (a b:Int) (K:Cont) (w9:Nat × (Nat→Int) × (Nat→Int) × Nat × (Nat→Int) × (Nat→Int) × (Nat→Int)):Option (Ret × Mem):=bif Nat.beq w9.1 0 then (K (.exit 0) ⟨[(0,.v (.lf np (fun u=>[.lf (ln u) (fun w=>[.n .i64 (lt u w),.n .i64 (lc u w)])]))),(1,.v (.n .i64 a)),(2,.v (.n .i64 b)),(6,.p 6 0),(8,.p 8 0)],[(6,.blk [.nl,.v (.n .i64 0)]),(8,.blk [.o 19]),(19,.reg 96 2 (.fo (np:Int).toNat (fun v=>[.n .i64 (w9.2.1 v),.n .i64 (w9.2.2.1 v)])))]⟩) else none
theorem wlst (K:Cont) (N np:Nat) (ln:Nat→Nat) (lt lc:Nat→Nat→Int) (a b:Int):∀ n9 (t:((Nat→Int) × (Nat→Int) × Nat × (Nat→Int) × (Nat→Int) × (Nat→Int))),LFX N (cxS Tf (orst N np ln lt lc a b) N 55 (ntmF Tf 55)) (evX Tf (orst N np ln lt lc a b) N 55 (ntmF Tf 55)) (qY [([0,1,1,1,0,1,0,0,0,1,1,1,1,0,1],sumF (fun t:(Int × Int × Int × Int × (Nat→Int) × (Nat→Int) × Nat × (Nat→Int) × (Nat→Int) × (Nat→Int))=>(hsi N np ln lt lc a b t.1 t.2.1 t.2.2.1 t.2.2.2.1 t.2.2.2.2.1 t.2.2.2.2.2.1 t.2.2.2.2.2.2.1 t.2.2.2.2.2.2.2.1 t.2.2.2.2.2.2.2.2.1 t.2.2.2.2.2.2.2.2.2)) (fun σ=>(slI σ 55,bkC σ 10 0,bkC σ 10 1,bkC σ 10 2,rgI σ 19 0,rgI σ 19 1,rgN σ 30,rgI σ 30 0,rgI σ 30 1,rgI σ 30 2)) (fun t K=>(bif qJA N np ln lt lc t then kxsi N np ln lt lc a b K (qQJ N np ln lt lc t) else none)))]) (qZ Tf 55 [0,0,1,1,1,1,0,1]) [0,0,1,1,1,1,0,1] (Tf.hint 55 (qJ (qZ Tf 55 [0,0,1,1,1,1,0,1]))) K n9 (hst N np ln lt lc a b t.1 t.2.1 t.2.2.1 t.2.2.2.1 t.2.2.2.2.1 t.2.2.2.2.2)=(qX (dcst N np ln lt lc a b) n9 t).bind (kxst N np ln lt lc a b K):=fun n9 t=>by
 refine qQY (L:=LFX N (cxS Tf (orst N np ln lt lc a b) N 55 (ntmF Tf 55)) (evX Tf (orst N np ln lt lc a b) N 55 (ntmF Tf 55)) (qY [([0,1,1,1,0,1,0,0,0,1,1,1,1,0,1],sumF (fun t:(Int × Int × Int × Int × (Nat→Int) × (Nat→Int) × Nat × (Nat→Int) × (Nat→Int) × (Nat→Int))=>(hsi N np ln lt lc a b t.1 t.2.1 t.2.2.1 t.2.2.2.1 t.2.2.2.2.1 t.2.2.2.2.2.1 t.2.2.2.2.2.2.1 t.2.2.2.2.2.2.2.1 t.2.2.2.2.2.2.2.2.1 t.2.2.2.2.2.2.2.2.2)) (fun σ=>(slI σ 55,bkC σ 10 0,bkC σ 10 1,bkC σ 10 2,rgI σ 19 0,rgI σ 19 1,rgN σ 30,rgI σ 30 0,rgI σ 30 1,rgI σ 30 2)) (fun t K=>(bif qJA N np ln lt lc t then kxsi N np ln lt lc a b K (qQJ N np ln lt lc t) else none)))]) (qZ Tf 55 [0,0,1,1,1,1,0,1]) [0,0,1,1,1,1,0,1] (Tf.hint 55 (qJ (qZ Tf 55 [0,0,1,1,1,1,0,1]))) K) (stp:=yX N (cxS Tf (orst N np ln lt lc a b) N 55 (ntmF Tf 55)) (evX Tf (orst N np ln lt lc a b) N 55 (ntmF Tf 55)) (qY [([0,1,1,1,0,1,0,0,0,1,1,1,1,0,1],sumF (fun t:(Int × Int × Int × Int × (Nat→Int) × (Nat→Int) × Nat × (Nat→Int) × (Nat→Int) × (Nat→Int))=>(hsi N np ln lt lc a b t.1 t.2.1 t.2.2.1 t.2.2.2.1 t.2.2.2.2.1 t.2.2.2.2.2.1 t.2.2.2.2.2.2.1 t.2.2.2.2.2.2.2.1 t.2.2.2.2.2.2.2.2.1 t.2.2.2.2.2.2.2.2.2)) (fun σ=>(slI σ 55,bkC σ 10 0,bkC σ 10 1,bkC σ 10 2,rgI σ 19 0,rgI σ 19 1,rgN σ 30,rgI σ 30 0,rgI σ 30 1,rgI σ 30 2)) (fun t K=>(bif qJA N np ln lt lc t then kxsi N np ln lt lc a b K (qQJ N np ln lt lc t) else none)))]) (qZ Tf 55 [0,0,1,1,1,1,0,1]) [0,0,1,1,1,1,0,1] (Tf.hint 55 (qJ (qZ Tf 55 [0,0,1,1,1,1,0,1]))) K) (fun _ _=>rfl) (fun _=>rfl) (fun t=>hst N np ln lt lc a b t.1 t.2.1 t.2.2.1 t.2.2.2.1 t.2.2.2.2.1 t.2.2.2.2.2) (fun _=>True) (dcst N np ln lt lc a b) (kxst N np ln lt lc a b K) (fun G t _ => ?_) (fun _ _ _ _=>trivial) n9 t trivial;obtain ⟨rc,rp,qn,qc,qp,qx⟩:=t;refine (rdst G K N np ln lt lc a b rc rp qn qc qp qx).trans ?_;dsimp only [dcst];cases (decide (0 < (qn:Int)))
 ·rfl
 ·cases (gB1 cpo hpo epo (qn,qc,qp,qx))
  ·rfl
  ·cases (decide ((qx 0)=a))
   ·cases (inB (qx 0) (np:Int).toNat)
    ·rfl
    ·cases (!((decide ((qc 0)=(rc (qx 0).toNat))) && ((decide ((qp 0)=(rp (qx 0).toNat))) && true)))
     ·cases (inB (qx 0) np)
      ·rfl
      ·cases (gSt (hsi N np ln lt lc a b 0 (qc 0) (qp 0) (qx 0) (fun v=>(rc v)) (fun v=>(rp v)) (qn - 1) (fun v=>((poT qn qc qp qx).1 v)) (fun v=>((poT qn qc qp qx).2.1 v)) (fun v=>((poT qn qc qp qx).2.2 v))) (hsi N np ln lt lc a b 0 (qc 0) (qp 0) (qx 0) (fun v=>(rc v)) (fun v=>(rp v)) (qn - 1) (fun v=>((poT qn qc qp qx).1 v)) (fun v=>((poT qn qc qp qx).2.1 v)) (fun v=>((poT qn qc qp qx).2.2 v))))
       ·rfl
       ·cases (qJA N np ln lt lc (0,(qc 0),(qp 0),(qx 0),(fun v=>(rc v)),(fun v=>(rp v)),(qn - 1),(fun v=>((poT qn qc qp qx).1 v)),(fun v=>((poT qn qc qp qx).2.1 v)),(fun v=>((poT qn qc qp qx).2.2 v))))
        ·rfl
        ·cases (Nat.beq (qQJ N np ln lt lc (0,(qc 0),(qp 0),(qx 0),(fun v=>(rc v)),(fun v=>(rp v)),(qn - 1),(fun v=>((poT qn qc qp qx).1 v)),(fun v=>((poT qn qc qp qx).2.1 v)),(fun v=>((poT qn qc qp qx).2.2 v)))).1 0)
         ·rfl
         ·rfl
     ·rfl
   ·rfl
def iz (b:Int):Nat→Int:=fun v=>(bif (Nat.beq v (b).toNat) then 0 else 0)
def io (b:Int):Nat→Int:=fun v=>(bif (Nat.beq v (b).toNat) then 1 else 0)
def jz (b:Int):Nat→Int:=fun _=>(bif (Nat.beq (b).toNat (b).toNat) then 0 else 0)
def jo (b:Int):Nat→Int:=fun _=>(bif (Nat.beq (b).toNat (b).toNat) then 1 else 0)
def jb (b:Int):Nat→Int:=fun _=>b
noncomputable def zUD (N:Nat) (np:Nat) (ln:Nat→Nat) (lt lc:Nat→Nat→Int) (a b:Int) (t:((Nat→Int) × (Nat→Int) × Nat × (Nat→Int) × (Nat→Int) × (Nat→Int))):Bool:=(qX (dcst N np ln lt lc a b) N t).isSome
noncomputable def jY (N:Nat) (np:Nat) (ln:Nat→Nat) (lt lc:Nat→Nat→Int) (a b:Int) (t:((Nat→Int) × (Nat→Int) × Nat × (Nat→Int) × (Nat→Int) × (Nat→Int))):Nat × (Nat→Int) × (Nat→Int) × Nat × (Nat→Int) × (Nat→Int) × (Nat→Int):=(qX (dcst N np ln lt lc a b) N t).getD (99,t)
theorem lwst (K:Cont) (N np:Nat) (ln:Nat→Nat) (lt lc:Nat→Nat→Int) (a b:Int) (t:((Nat→Int) × (Nat→Int) × Nat × (Nat→Int) × (Nat→Int) × (Nat→Int))) (hg:zUD N np ln lt lc a b t=true):LFX N (cxS Tf (orst N np ln lt lc a b) N 55 (ntmF Tf 55)) (evX Tf (orst N np ln lt lc a b) N 55 (ntmF Tf 55)) (qY [([0,1,1,1,0,1,0,0,0,1,1,1,1,0,1],sumF (fun t:(Int × Int × Int × Int × (Nat→Int) × (Nat→Int) × Nat × (Nat→Int) × (Nat→Int) × (Nat→Int))=>(hsi N np ln lt lc a b t.1 t.2.1 t.2.2.1 t.2.2.2.1 t.2.2.2.2.1 t.2.2.2.2.2.1 t.2.2.2.2.2.2.1 t.2.2.2.2.2.2.2.1 t.2.2.2.2.2.2.2.2.1 t.2.2.2.2.2.2.2.2.2)) (fun σ=>(slI σ 55,bkC σ 10 0,bkC σ 10 1,bkC σ 10 2,rgI σ 19 0,rgI σ 19 1,rgN σ 30,rgI σ 30 0,rgI σ 30 1,rgI σ 30 2)) (fun t K=>(bif qJA N np ln lt lc t then kxsi N np ln lt lc a b K (qQJ N np ln lt lc t) else none)))]) (qZ Tf 55 [0,0,1,1,1,1,0,1]) [0,0,1,1,1,1,0,1] (Tf.hint 55 (qJ (qZ Tf 55 [0,0,1,1,1,1,0,1]))) K N (hst N np ln lt lc a b t.1 t.2.1 t.2.2.1 t.2.2.2.1 t.2.2.2.2.1 t.2.2.2.2.2)=kxst N np ln lt lc a b K (jY N np ln lt lc a b t):=by
 refine (wlst K N np ln lt lc a b N t).trans ?_;unfold zUD at hg;unfold jY;cases h:qX (dcst N np ln lt lc a b) N t with
 | none=>rw [h] at hg; cases hg
 | some y=>rfl
noncomputable def hpa (N np:Nat) (ln:Nat→Nat) (lt lc:Nat→Nat→Int) (a b:Int) (cv:Int) (co:Int) (rc:Nat→Int) (rp:Nat→Int) (vn:Nat) (vf:Nat→Int):St:=⟨[(0,.v (.lf np (fun u=>[.lf (ln u) (fun w=>[.n .i64 (lt u w),.n .i64 (lc u w)])]))),(2,.v (.n .i64 b)),(6,.p 6 0),(8,.p 8 0),(14,.p 14 0),(15,.p 15 0)],[(6,.blk [.nl,.v (.n .i64 0)]),(8,.blk [.o 19]),(14,.blk [.o 96,.v (.n .i64 co)]),(15,.blk [.v (.n .i64 cv)]),(19,.reg 96 2 (.fo (np:Int).toNat (fun v=>[.n .i64 (rc v),.n .i64 (rp v)]))),(96,.reg 3 1 (.fo vn (fun v=>[.n .i64 (vf v)])))]⟩
set_option maxRecDepth 100000 in
theorem rdpa (G:St→Option (Ret × Mem)) (K:Cont) (N np:Nat) (ln:Nat→Nat) (lt lc:Nat→Nat→Int) (a b:Int) (cv:Int) (co:Int) (rc:Nat→Int) (rp:Nat→Int) (vn:Nat) (vf:Nat→Int):yX N (cxS Tf (orst N np ln lt lc a b) N 55 (ntmF Tf 55)) (evX Tf (orst N np ln lt lc a b) N 55 (ntmF Tf 55)) (qY []) (qZ Tf 55 [0,1,0,1,1,1,1,1,1,1,0,1]) [0,1,0,1,1,1,1,1,1,1,0,1] (Tf.hint 55 (qJ (qZ Tf 55 [0,1,0,1,1,1,1,1,1,1,0,1]))) K G (hpa N np ln lt lc a b cv co rc rp vn vf) =
 (bif (!decide (cv=b)) then (bif (inB cv np) then (bif (gF1 cix eix ((ln (cv).toNat),(lt (cv).toNat),(lc (cv).toNat),((np:Int).toNat),rc,rp,cv)) then (bif (inB cv np) then (bif (inB (ixI (ln (cv).toNat) (lt (cv).toNat) (lc (cv).toNat) rc rp cv) (ln (cv).toNat)) then (bif (decide (vn + 1≤1000000)) then (G (hpa N np ln lt lc a b (lt (cv).toNat ((ixI (ln (cv).toNat) (lt (cv).toNat) (lc (cv).toNat) rc rp cv)).toNat) co (fun v=>(rc v)) (fun v=>(rp v)) (vn + 1) (fun v=>(bif (Nat.beq v vn) then (lt (cv).toNat ((ixI (ln (cv).toNat) (lt (cv).toNat) (lc (cv).toNat) rc rp cv)).toNat) else (vf v)))))
 else none)
 else none)
 else none)
 else none)
 else none)
 else (K (.exit 5) ⟨[(6,.p 6 0),(14,.p 14 0)],[(6,.blk [.nl,.v (.n .i64 0)]),(14,.blk [.o 96,.v (.n .i64 co)]),(96,.reg 3 1 (.fo vn (fun v=>[.n .i64 (vf v)])))]⟩)):=by kernel_rfl
noncomputable def dcpa (np:Nat) (ln:Nat→Nat) (lt lc:Nat→Nat→Int) (b:Int):(Int × Int × (Nat→Int) × (Nat→Int) × Nat × (Nat→Int))→(Int × Int × (Nat→Int) × (Nat→Int) × Nat × (Nat→Int)) ⊕ (Nat × Int × Int × (Nat→Int) × (Nat→Int) × Nat × (Nat→Int)):=fun t=>match t with | (cv,co,rc,rp,vn,vf)=>(bif (!decide (cv=b)) then (bif (inB cv np) then (bif (gF1 cix eix ((ln (cv).toNat),(lt (cv).toNat),(lc (cv).toNat),((np:Int).toNat),rc,rp,cv)) then (bif (inB (ixI (ln (cv).toNat) (lt (cv).toNat) (lc (cv).toNat) rc rp cv) (ln (cv).toNat)) then (bif (decide (vn + 1≤1000000)) then (.inl ((lt (cv).toNat ((ixI (ln (cv).toNat) (lt (cv).toNat) (lc (cv).toNat) rc rp cv)).toNat),co,(fun v=>(rc v)),(fun v=>(rp v)),(vn + 1),(fun v=>(bif (Nat.beq v vn) then (lt (cv).toNat ((ixI (ln (cv).toNat) (lt (cv).toNat) (lc (cv).toNat) rc rp cv)).toNat) else (vf v))))) else (.inr (1,(cv,co,rc,rp,vn,vf)))) else (.inr (1,(cv,co,rc,rp,vn,vf)))) else (.inr (1,(cv,co,rc,rp,vn,vf)))) else (.inr (1,(cv,co,rc,rp,vn,vf)))) else (.inr (0,(cv,co,rc,rp,vn,vf))))
noncomputable def kxpa (N _:Nat) (_:Nat→Nat) (_ _:Nat→Nat→Int) (a b:Int) (K:Cont) (w9:Nat × Int × Int × (Nat→Int) × (Nat→Int) × Nat × (Nat→Int)):Option (Ret × Mem):=bif Nat.beq w9.1 0 then (K (.exit 5) ⟨[(6,.p 6 0),(14,.p 14 0)],[(6,.blk [.nl,.v (.n .i64 0)]),(14,.blk [.o 96,.v (.n .i64 w9.2.2.1)]),(96,.reg 3 1 (.fo w9.2.2.2.2.2.1 (fun v=>[.n .i64 (w9.2.2.2.2.2.2 v)])))]⟩) else none
theorem wlpa (K:Cont) (N np:Nat) (ln:Nat→Nat) (lt lc:Nat→Nat→Int) (a b:Int):∀ n9 (t:(Int × Int × (Nat→Int) × (Nat→Int) × Nat × (Nat→Int))),LFX N (cxS Tf (orst N np ln lt lc a b) N 55 (ntmF Tf 55)) (evX Tf (orst N np ln lt lc a b) N 55 (ntmF Tf 55)) (qY []) (qZ Tf 55 [0,1,0,1,1,1,1,1,1,1,0,1]) [0,1,0,1,1,1,1,1,1,1,0,1] (Tf.hint 55 (qJ (qZ Tf 55 [0,1,0,1,1,1,1,1,1,1,0,1]))) K n9 (hpa N np ln lt lc a b t.1 t.2.1 t.2.2.1 t.2.2.2.1 t.2.2.2.2.1 t.2.2.2.2.2)=(qX (dcpa np ln lt lc b) n9 t).bind (kxpa N np ln lt lc a b K):=fun n9 t=>by
 refine qQY (L:=LFX N (cxS Tf (orst N np ln lt lc a b) N 55 (ntmF Tf 55)) (evX Tf (orst N np ln lt lc a b) N 55 (ntmF Tf 55)) (qY []) (qZ Tf 55 [0,1,0,1,1,1,1,1,1,1,0,1]) [0,1,0,1,1,1,1,1,1,1,0,1] (Tf.hint 55 (qJ (qZ Tf 55 [0,1,0,1,1,1,1,1,1,1,0,1]))) K) (stp:=yX N (cxS Tf (orst N np ln lt lc a b) N 55 (ntmF Tf 55)) (evX Tf (orst N np ln lt lc a b) N 55 (ntmF Tf 55)) (qY []) (qZ Tf 55 [0,1,0,1,1,1,1,1,1,1,0,1]) [0,1,0,1,1,1,1,1,1,1,0,1] (Tf.hint 55 (qJ (qZ Tf 55 [0,1,0,1,1,1,1,1,1,1,0,1]))) K) (fun _ _=>rfl) (fun _=>rfl) (fun t=>hpa N np ln lt lc a b t.1 t.2.1 t.2.2.1 t.2.2.2.1 t.2.2.2.2.1 t.2.2.2.2.2) (fun _=>True) (dcpa np ln lt lc b) (kxpa N np ln lt lc a b K) (fun G t _ => ?_) (fun _ _ _ _=>trivial) n9 t trivial;obtain ⟨cv,co,rc,rp,vn,vf⟩:=t;refine (rdpa G K N np ln lt lc a b cv co rc rp vn vf).trans ?_;dsimp only [dcpa];cases (!decide (cv=b))
 ·rfl
 ·cases (inB cv np)
  ·rfl
  ·cases (gF1 cix eix ((ln (cv).toNat),(lt (cv).toNat),(lc (cv).toNat),((np:Int).toNat),rc,rp,cv))
   ·rfl
   ·cases (inB (ixI (ln (cv).toNat) (lt (cv).toNat) (lc (cv).toNat) rc rp cv) (ln (cv).toNat))
    ·rfl
    ·cases (decide (vn + 1≤1000000))
     ·rfl
     ·rfl
noncomputable def qKH (N:Nat) (np:Nat) (ln:Nat→Nat) (lt lc:Nat→Nat→Int) (b:Int) (t:(Int × Int × (Nat→Int) × (Nat→Int) × Nat × (Nat→Int))):Bool:=(qX (dcpa np ln lt lc b) N t).isSome
noncomputable def yH (N:Nat) (np:Nat) (ln:Nat→Nat) (lt lc:Nat→Nat→Int) (b:Int) (t:(Int × Int × (Nat→Int) × (Nat→Int) × Nat × (Nat→Int))):Nat × Int × Int × (Nat→Int) × (Nat→Int) × Nat × (Nat→Int):=(qX (dcpa np ln lt lc b) N t).getD (99,t)
theorem lwpa (K:Cont) (N np:Nat) (ln:Nat→Nat) (lt lc:Nat→Nat→Int) (a b:Int) (t:(Int × Int × (Nat→Int) × (Nat→Int) × Nat × (Nat→Int))) (hg:qKH N np ln lt lc b t=true):LFX N (cxS Tf (orst N np ln lt lc a b) N 55 (ntmF Tf 55)) (evX Tf (orst N np ln lt lc a b) N 55 (ntmF Tf 55)) (qY []) (qZ Tf 55 [0,1,0,1,1,1,1,1,1,1,0,1]) [0,1,0,1,1,1,1,1,1,1,0,1] (Tf.hint 55 (qJ (qZ Tf 55 [0,1,0,1,1,1,1,1,1,1,0,1]))) K N (hpa N np ln lt lc a b t.1 t.2.1 t.2.2.1 t.2.2.2.1 t.2.2.2.2.1 t.2.2.2.2.2)=kxpa N np ln lt lc a b K (yH N np ln lt lc b t):=by
 refine (wlpa K N np ln lt lc a b N t).trans ?_;unfold qKH at hg;unfold yH;cases h:qX (dcpa np ln lt lc b) N t with
 | none=>rw [h] at hg; cases hg
 | some y=>rfl
end Go.Proofs.Ytglkkhpdbfacfaa.Bg
namespace Go.Proofs.Ytglkkhpdbfacfaa.Bi
open Go.Rx Rt Go.Sx Go.RowKit Ba Bb Bc Bd Be Bf Bh Bg
structure LOk (np:Nat) (ln:Nat→Nat) (lt lc:Nat→Nat→Int):Prop where
 hnp:np≤100
 hln:∀ u,u < np→ln u≤1000
 hto:∀ u w,u < np→w < ln u→0≤lt u w∧lt u w < (np:Int)
 hco:∀ u w,u < np→w < ln u→0≤lc u w∧lc u w≤1099511627776
inductive Wk (np:Nat) (ln:Nat→Nat) (lt lc:Nat→Nat→Int) (b:Nat):Nat→Int→Int→Prop
 | nil:Wk np ln lt lc b b 0 1
 | cons {x y w:Nat} {c p:Int} (h:Wk np ln lt lc b x c p) (hx:x < np) (hw:w < ln x) (hy:lt x w=(y:Int)):Wk np ln lt lc b y (c + lc x w) (p + 1)
theorem leR.add {a b c d k:Int} (_:leR a b c d):leR (a + k) (b + 1) (c + k) (d + 1):=by unfold leR at *; omega
theorem leR.up {a b k:Int} (_:0≤k):leR a b (a + k) (b + 1):=by unfold leR; omega
theorem leR.anti {a b c d:Int} (_:leR a b c d) (_:leR c d a b):a=c∧b=d:=by unfold leR at *; omega
theorem leR.not_up {a b c d k:Int} (_:leR (a + k) (b + 1) c d) (_:leR c d a b) (_:0≤k):False:=by unfold leR at *; omega
theorem jXZ {a b c d:Int} (h:leR c d a b) (_:0 < d):btB a b c d=false:=by
 cases hb:btB a b c d with
 | false=>rfl
 | true =>
  exfalso;unfold btB at hb;simp only [Bool.or_eq_true,vQJ,decide_eq_true_eq] at hb;unfold leR at h; omega
theorem jVL {a b c d:Int} (h:btB a b c d=false):d ≠ 0:=by
 intro e; subst e;unfold btB at h; simp at h
section
variable {np:Nat} {ln:Nat→Nat} {lt lc:Nat→Nat→Int} {b:Nat}
theorem Wk.bd (hl:LOk np ln lt lc) {x:Nat} {c p:Int} (h:Wk np ln lt lc b x c p):0≤c∧1≤p∧c≤(p - 1) * 1099511627776:=by
 induction h with
 | nil=>omega
 | cons h hx hw hy ih =>
  have:=hl.hco _ _ hx hw
  omega
theorem Wk.one (hl:LOk np ln lt lc) {x:Nat} {c p:Int} (h:Wk np ln lt lc b x c p) (_:p=1):x=b∧c=0:=by
 cases h with
 | nil=>exact ⟨rfl,rfl⟩
 | cons h hx hw hy=>have:=h.bd hl; omega
theorem Wk.ltn (hl:LOk np ln lt lc) (hb:b < np) {x:Nat} {c p:Int} (h:Wk np ln lt lc b x c p):x < np:=by
 cases h with
 | nil=>exact hb
 | cons h hx hw hy=>have:=hl.hto _ _ hx hw; omega
def cntS (s:Nat→Bool):Nat→Nat
 | 0=>0
 | n + 1=>(bif s n then 1 else 0) + cntS s n
def setS (s:Nat→Bool) (x:Nat):Nat→Bool:=fun v=>bif Nat.beq v x then true else s v
theorem qXJ (s:Nat→Bool) (x:Nat):setS s x x=true:=by unfold setS; rw [Nat.beq_refl]; rfl
theorem qZL {s:Nat→Bool} {x v:Nat} (h:v ≠ x):setS s x v=s v:=by unfold setS; rw [qQW,vYY h]; rfl
theorem zYJ {s:Nat→Bool} {x v:Nat} (h:s v=true):setS s x v=true:=by
 by_cases e:v=x
 ·subst e; exact qXJ _ _
 ·rw [qZL e]; exact h
theorem qHB (s:Nat→Bool):∀ n,cntS s n≤n
 | 0=>Nat.le_refl _
 | n + 1=>by
  have:=qHB s n
  unfold cntS; cases s n <;> simp <;> omega
theorem yGK {s:Nat→Bool} {x:Nat}:∀ n,n≤x→cntS (setS s x) n=cntS s n
 | 0,_=>rfl
 | n + 1,h=>by unfold cntS; rw [qZL (by omega),yGK n (by omega)]
theorem zZH {s:Nat→Bool} {x:Nat} (hs:s x=false):∀ n,x < n→cntS (setS s x) n=cntS s n + 1
 | 0,h=>by omega
 | n + 1,h=>by
  unfold cntS;by_cases e:n=x
  ·subst e; rw [qXJ,hs,yGK n (Nat.le_refl _)]; simp; omega
  ·rw [qZL e,zZH hs n (by omega)]; omega
structure II (np:Nat) (ln:Nat→Nat) (lt lc:Nat→Nat→Int) (b:Nat) (S:Nat→Bool) (x j B:Nat) (rc rp:Nat→Int) (qn:Nat) (qc qp qx:Nat→Int):Prop where
 q:QOk qn qc qp
 qb:qn≤B + (if S x=true then 0 else j)
 ent:∀ k,k < qn→∃ y,y < np∧qx k=(y:Int)∧Wk np ln lt lc b y (qc k) (qp k)∧qp k≤1 + (cntS (setS S x) np:Int)∧0 < rp y∧leR (rc y) (rp y) (qc k) (qp k)
 rk:∀ v,v < np→(rp v=0∧setS S x v=false) ∨ (0 < rp v∧Wk np ln lt lc b v (rc v) (rp v))
 live:∀ v,v < np→0 < rp v→setS S x v=false→∃ k,k < qn∧qc k=rc v∧qp k=rp v∧qx k=(v:Int)
 cl:∀ u w y,u < np→S u=true→w < ln u→lt u w=((y:Nat):Int)→0 < rp y∧leR (rc y) (rp y) (rc u + lc u w) (rp u + 1)
 clx:∀ w y,w < j→w < ln x→lt x w=((y:Nat):Int)→0 < rp y∧leR (rc y) (rp y) (rc x + lc x w) (rp x + 1)
 mono:∀ u k,u < np→setS S x u=true→k < qn→leR (rc u) (rp u) (qc k) (qp k)
 base:∀ u,u < np→setS S x u=true→leR (rc u) (rp u) (rc x) (rp x)
 src:rc b=0∧rp b=1
 px:rp x≤1 + (cntS S np:Int)
 rb:∀ v,v < np→rp v≤1 + (cntS (setS S x) np:Int)
def setF (f:Nat→Int) (y:Nat) (z:Int):Nat→Int:=fun v=>bif Nat.beq v y then z else f v
theorem jG (f:Nat→Int) (y:Nat) (z:Int):setF f y z y=z:=by unfold setF; rw [Nat.beq_refl]; rfl
theorem zG {f:Nat→Int} {y v:Nat} {z:Int} (h:v ≠ y):setF f y z v=f v:=by unfold setF; rw [qQW,vYY h]; rfl
theorem II.skip {S:Nat→Bool} {x j B:Nat} {rc rp:Nat→Int} {qn:Nat} {qc qp qx:Nat→Int} (hl:LOk np ln lt lc) (hx:x < np) (h:II np ln lt lc b S x j B rc rp qn qc qp qx) (hj:j < ln x) {y:Nat} (_:lt x j=(y:Int)) (hb:btB (rc x + lc x j) (rp x + 1) (rc y) (rp y)=false):II np ln lt lc b S x (j + 1) B rc rp qn qc qp qx:=by
 have hyn:y < np:=by have:=hl.hto x j hx hj; omega
 refine { h with qb:=by have:=h.qb; cases hs:S x <;> simp [hs] at this ⊢ <;> omega,clx:=fun w z hw hwl hz => ?_ };by_cases e:w=j
 ·subst e;obtain rfl:z=y:=by omega
  have h0:=jVL hb;rcases h.rk z hyn with ⟨h1,_⟩ | ⟨h1,_⟩
  ·exact absurd h1 h0
  ·exact ⟨h1,bt_f hb⟩
 ·exact h.clx w z (by omega) hwl hz
theorem II.push {S:Nat→Bool} {x j B:Nat} {rc rp:Nat→Int} {qn:Nat} {qc qp qx:Nat→Int} (hl:LOk np ln lt lc) (hx:x < np) (_:B≤100001) (h:II np ln lt lc b S x j B rc rp qn qc qp qx) (hj:j < ln x) {y:Nat} (hy:lt x j=(y:Int)) (hb:btB (rc x + lc x j) (rp x + 1) (rc y) (rp y)=true) :
  qn + 1≤1000000∧0 < rp x + 1∧II np ln lt lc b S x (j + 1) B (setF rc y (rc x + lc x j)) (setF rp y (rp x + 1)) (qn + 1) (puT qn qc qp qx (rc x + lc x j) (rp x + 1) (y:Int)).1 (puT qn qc qp qx (rc x + lc x j) (rp x + 1) (y:Int)).2.1 (puT qn qc qp qx (rc x + lc x j) (rp x + 1) (y:Int)).2.2:=by
 have hyn:y < np:=by have:=hl.hto x j hx hj; omega
 have hc:=hl.hco x j hx hj;have hxr:0 < rp x∧Wk np ln lt lc b x (rc x) (rp x):=by
  rcases h.rk x hx with ⟨_,h2⟩ | h2
  ·rw [qXJ] at h2; cases h2
  ·exact h2
 have hwy:Wk np ln lt lc b y (rc x + lc x j) (rp x + 1):=.cons hxr.2 hx hj hy;have hSy:setS S x y=false:=by
  cases hs:setS S x y with
  | false=>rfl
  | true =>
   exfalso;have h1:0 < rp y:=by
    rcases h.rk y hyn with ⟨_,h2⟩ | h2
    ·rw [hs] at h2; cases h2
    ·exact h2.1
   have:=jXZ ((h.base y hyn hs).trans (leR.up (k:=lc x j) hc.1)) h1
   rw [this] at hb; cases hb
 have hyx:y ≠ x:=fun e=>by rw [e,qXJ] at hSy; cases hSy
 have hSx:S x=false:=by
  cases hs:S x with
  | false=>rfl
  | true =>
   exfalso;obtain ⟨h1,h2⟩:=h.cl x j y hx hs hj hy;rw [jXZ h2 h1] at hb; cases hb
 have hlx:=hl.hln x hx;have hqb:qn≤B + j:=by have:=h.qb; rw [hSx] at this; simpa using this
 have hn:qn + 1≤1000000:=by omega
 obtain ⟨_,_,p3,p4,p5,p6⟩:=zWL (x:=qx) (ec:=rc x + lc x j) (ep:=rp x + 1) (ex:=(y:Int)) h.q hn (by omega);generalize puT qn qc qp qx (rc x + lc x j) (rp x + 1) (y:Int)=T at *;have hcnt:cntS (setS S x) np=cntS S np + 1:=zZH hSx np hx
 -- a rank gets no worse
 have hle:∀ v,0 < rp v→0 < setF rp y (rp x + 1) v∧leR (setF rc y (rc x + lc x j) v) (setF rp y (rp x + 1) v) (rc v) (rp v):=fun v hv=>by
  by_cases e:v=y
  ·subst e; rw [jG,jG]; exact ⟨by omega,bt_t hb hv⟩
  ·rw [zG e,zG e]; exact ⟨hv,leR.refl _ _⟩
 have hS:∀ u,setS S x u=true→setF rc y (rc x + lc x j) u=rc u∧setF rp y (rp x + 1) u=rp u:=fun u hu=>by
  have:u ≠ y:=fun e=>by rw [e,hSy] at hu; cases hu
  exact ⟨zG this,zG this⟩
 have hxx:=hS x (qXJ _ _);refine ⟨hn,by omega,{ q:=p3,qb:=by rw [hSx]; simp; omega,ent:=fun k hk => ?_,rk:=fun v hv => ?_,live:=fun v hv hr hs => ?_,cl:=fun u w z hu hs hw hz => ?_,clx:=fun w z hw hwl hz => ?_,mono:=fun u k hu hs hk => ?_,base:=fun u hu hs => ?_,src:=?_,px:=by rw [hxx.2]; exact h.px,rb:=fun v hv => ?_ }⟩
 ·rcases p4 k hk with ⟨e1,e2,e3⟩ | ⟨i,hi,e1,e2,e3⟩
  ·refine ⟨y,hyn,e3,by rw [e1,e2]; exact hwy,by rw [e2,hcnt]; have:=h.px; omega,?_,?_⟩
   ·rw [jG]; omega
   ·rw [jG,jG,e1,e2]; exact leR.refl _ _
  ·obtain ⟨z,z1,z2,z3,z4,z5,z6⟩:=h.ent i hi;obtain ⟨g1,g2⟩:=hle z z5;exact ⟨z,z1,e3.trans z2,by rw [e1,e2]; exact z3,by rw [e2]; exact z4,g1,by rw [e1,e2]; exact g2.trans z6⟩
 ·by_cases e:v=y
  ·subst e; rw [jG,jG]; exact .inr ⟨by omega,hwy⟩
  ·rw [zG e,zG e]; exact h.rk v hv
 ·by_cases e:v=y
  ·subst e;obtain ⟨k,hk,e1,e2,e3⟩:=p5;exact ⟨k,hk,by rw [e1,jG],by rw [e2,jG],e3⟩
  ·rw [zG e] at hr ⊢;rw [zG e];obtain ⟨k,hk,e1,e2,e3⟩:=h.live v hv hr hs;obtain ⟨i,hi,g1,g2,g3⟩:=p6 k hk;exact ⟨i,hi,by rw [← g1]; exact e1,by rw [← g2]; exact e2,by rw [← g3]; exact e3⟩
 ·obtain ⟨g1,g2⟩:=h.cl u w z hu hs hw hz;obtain ⟨g3,g4⟩:=hle z g1;obtain ⟨u1,u2⟩:=hS u (zYJ hs);rw [u1,u2];exact ⟨g3,g4.trans g2⟩
 ·rw [hxx.1,hxx.2];by_cases e:w=j
  ·subst e;obtain rfl:z=y:=by omega
   rw [jG,jG];exact ⟨by omega,leR.refl _ _⟩
  ·obtain ⟨g1,g2⟩:=h.clx w z (by omega) hwl hz;obtain ⟨g3,g4⟩:=hle z g1;exact ⟨g3,g4.trans g2⟩
 ·obtain ⟨u1,u2⟩:=hS u hs;rw [u1,u2];rcases p4 k hk with ⟨e1,e2,_⟩ | ⟨i,hi,e1,e2,_⟩
  ·rw [e1,e2]; exact (h.base u hu hs).trans (leR.up hc.1)
  ·rw [e1,e2]; exact h.mono u i hu hs hi
 ·obtain ⟨u1,u2⟩:=hS u hs;rw [u1,u2,hxx.1,hxx.2]; exact h.base u hu hs
 ·have e:b ≠ y:=fun e=>by
   subst e;have h1:=h.src;rw [h1.1,h1.2] at hb
   have:=hxr.2.bd hl
   have h3:=bt_t hb (by omega);unfold leR at h3; omega
  rw [zG e,zG e]; exact h.src
 ·by_cases e:v=y
  ·subst e; rw [jG,hcnt]; have:=h.px; omega
  ·rw [zG e]; exact h.rb v hv
end
end Go.Proofs.Ytglkkhpdbfacfaa.Bi
namespace Go.Proofs.Ytglkkhpdbfacfaa.Bj
open Go.Rx Rt Go.Sx Go.RowKit Ba Bb Bc Bd Be Bf Bh Bg Bi
section
variable {np:Nat} {ln:Nat→Nat} {lt lc:Nat→Nat→Int} {b:Nat}
theorem qYL {y n:Nat} {z:Int} (h:z=(y:Int)) (hn:y < n):inB z n=true:=by subst h; exact zV hn
theorem yJA {x j y:Nat} {xc xp:Int} {rc rp:Nat→Int} {qn:Nat} {qc qp qx:Nat→Int} (hj:j < ln x) (_:ln x≤1000) (hy:lt x j=(y:Int)) (hyn:y < np)
  (hc : -9223372036854775808≤xc + lc x j∧xc + lc x j≤9223372036854775807) (hp : -9223372036854775808≤xp + 1∧xp + 1≤9223372036854775807) (hg:btB (xc + lc x j) (xp + 1) (rc y) (rp y)=true→QOk qn qc qp∧qn + 1≤1000000∧0 < xp + 1) :
  dcsi np ln lt lc ((j:Int),xc,xp,(x:Int),rc,rp,qn,qc,qp,qx)=bif btB (xc + lc x j) (xp + 1) (rc y) (rp y) then .inl (((j + 1:Nat):Int),xc,xp,(x:Int),setF rc y (xc + lc x j),setF rp y (xp + 1),qn + 1,(puT qn qc qp qx (xc + lc x j) (xp + 1) (y:Int)).1,(puT qn qc qp qx (xc + lc x j) (xp + 1) (y:Int)).2.1,(puT qn qc qp qx (xc + lc x j) (xp + 1) (y:Int)).2.2) else .inl (((j + 1:Nat):Int),xc,xp,(x:Int),rc,rp,qn,qc,qp,qx):=by
 dsimp only [dcsi];simp only [toN,hy,yG hc,yG hp,vYJ (show (j:Int) < ((ln x:Nat):Int) by omega),zV hj,zV hyn,uX (C:=cbt) (t:=_) trivial,qQB (show j < 1000000 by omega),vYQ];cases hb:btB (xc + lc x j) (xp + 1) (rc y) (rp y) with
 | false=>rfl
 | true=>rw [zKX (C:=cpu) (t:=(qn,qc,qp,qx,xc + lc x j,xp + 1,(y:Int))) (hg hb)]; rfl
theorem yWI {x:Nat} {xc xp:Int} {rc rp:Nat→Int} {qn:Nat} {qc qp qx:Nat→Int}:dcsi np ln lt lc (((ln x:Nat):Int),xc,xp,(x:Int),rc,rp,qn,qc,qp,qx)=.inr (0,((ln x:Nat):Int),xc,xp,(x:Int),rc,rp,qn,qc,qp,qx):=by
 dsimp only [dcsi];rw [toN,vYY (by omega)]; rfl
theorem jZA (hl:LOk np ln lt lc) {S:Nat→Bool} {x B:Nat} (hx:x < np) (hB:B≤100001):∀ (d j N:Nat) (rc rp:Nat→Int) (qn:Nat) (qc qp qx:Nat→Int),ln x - j=d→j≤ln x→d < N→II np ln lt lc b S x j B rc rp qn qc qp qx →
  ∃ rc' rp' qn' qc' qp' qx',qX (dcsi np ln lt lc) N ((j:Int),rc x,rp x,(x:Int),rc,rp,qn,qc,qp,qx)=some (0,((ln x:Nat):Int),rc x,rp x,(x:Int),rc',rp',qn',qc',qp',qx')∧II np ln lt lc b S x (ln x) B rc' rp' qn' qc' qp' qx'
 | d,j,0,rc,rp,qn,qc,qp,qx,hd,hj,hN,h=>by omega
 | 0,j,N + 1,rc,rp,qn,qc,qp,qx,hd,hj,hN,h=>by
  obtain rfl:j=ln x:=by omega
  exact ⟨rc,rp,qn,qc,qp,qx,by rw [qX,yWI],h⟩
 | d + 1,j,N + 1,rc,rp,qn,qc,qp,qx,hd,hj,hN,h=>by
  have hjx:j < ln x:=by omega
  have hlx:=hl.hln x hx;have ht:=hl.hto x j hx hjx;have hc:=hl.hco x j hx hjx;obtain ⟨y,hy⟩:∃ y:Nat,lt x j=(y:Int):=⟨(lt x j).toNat,by omega⟩
  have hyn:y < np:=by omega
  have hxr:0 < rp x∧Wk np ln lt lc b x (rc x) (rp x):=by
   rcases h.rk x hx with ⟨_,h2⟩ | h2
   ·rw [qXJ] at h2; cases h2
   ·exact h2
  have hbd:=hxr.2.bd hl;have hpx:=h.px;have hcn:=qHB S np;have hnp:=hl.hnp;rw [qX,yJA hjx hlx hy hyn (by omega) (by omega) (fun hb=>⟨h.q,(h.push hl hx hB hjx hy hb).1,by omega⟩)];cases hb:btB (rc x + lc x j) (rp x + 1) (rc y) (rp y) with
  | false =>
   simp only [vYZ];exact jZA hl hx hB d (j + 1) N rc rp qn qc qp qx (by omega) (by omega) (by omega) (h.skip hl hx hjx hy hb)
  | true =>
   simp only [vYQ];have h2:=(h.push hl hx hB hjx hy hb).2.2;have e:=fun e:x=y=>by
    subst e;exact leR.not_up (bt_t hb hxr.1) (leR.refl _ _) hc.1
   have:=jZA hl hx hB d (j + 1) N _ _ _ _ _ _ (by omega) (by omega) (by omega) h2
   rw [zG e,zG e] at this;exact this
theorem zZA (s:Nat→Bool) (x:Nat):∀ n,cntS s n≤cntS (setS s x) n
 | 0=>Nat.le_refl _
 | n + 1=>by
  have:=zZA s x n
  unfold cntS;cases h:s n with
  | false=>simp; omega
  | true=>rw [zYJ h]; simp; exact this
theorem zVE {s:Nat→Bool} {x:Nat} (h:s x=true):setS s x=s:=by
 funext v;by_cases e:v=x
 ·subst e; rw [qXJ,h]
 ·exact qZL e
structure DI (np:Nat) (ln:Nat→Nat) (lt lc:Nat→Nat→Int) (b:Nat) (S:Nat→Bool) (rc rp:Nat→Int) (qn:Nat) (qc qp qx:Nat→Int):Prop where
 q:QOk qn qc qp
 qb:qn≤1 + 1000 * cntS S np
 ent:∀ k,k < qn→∃ y,y < np∧qx k=((y:Nat):Int)∧Wk np ln lt lc b y (qc k) (qp k)∧qp k≤1 + (cntS S np:Int)∧0 < rp y∧leR (rc y) (rp y) (qc k) (qp k)
 rk:∀ v,v < np→(rp v=0∧S v=false) ∨ (0 < rp v∧Wk np ln lt lc b v (rc v) (rp v))
 live:∀ v,v < np→0 < rp v→S v=false→∃ k,k < qn∧qc k=rc v∧qp k=rp v∧qx k=(v:Int)
 cl:∀ u w y,u < np→S u=true→w < ln u→lt u w=((y:Nat):Int)→0 < rp y∧leR (rc y) (rp y) (rc u + lc u w) (rp u + 1)
 mono:∀ u k,u < np→S u=true→k < qn→leR (rc u) (rp u) (qc k) (qp k)
 src:rc b=0∧rp b=1
 rb:∀ v,v < np→rp v≤1 + (cntS S np:Int)
theorem DI.start {S:Nat→Bool} {rc rp:Nat→Int} {qn:Nat} {qc qp qx:Nat→Int} (h:DI np ln lt lc b S rc rp qn qc qp qx) (h1:1≤qn) {x:Nat} (_:x < np) (ex:qx 0=(x:Int)) (e1:qc 0=rc x) (e2:qp 0=rp x):II np ln lt lc b S x 0 (qn - 1) rc rp (qn - 1) (poT qn qc qp qx).1 (poT qn qc qp qx).2.1 (poT qn qc qp qx).2.2:=by
 obtain ⟨_,_,p3,p4,p5⟩:=zQJ (x:=qx) h.q h1;generalize poT qn qc qp qx=T at *;have hmin:=zVJ h.q.heap;obtain ⟨y,y1,y2,y3,y4,y5,y6⟩:=h.ent 0 (by omega);obtain rfl:y=x:=by omega
 refine ⟨p3,by split <;> omega,fun k hk => ?_,fun v hv => ?_,fun v hv hr hs => ?_,h.cl,fun w y hw=>absurd hw (by omega),fun u k hu hs hk => ?_,fun u hu hs => ?_,h.src,by omega,fun v hv=>by have:=zZA S y np; have:=h.rb v hv; omega⟩
 ·obtain ⟨i,hi,g1,g2,g3⟩:=p4 k hk;obtain ⟨z,z1,z2,z3,z4,z5,z6⟩:=h.ent i hi
  have:=zZA S y np
  exact ⟨z,z1,g3.trans z2,by rw [g1,g2]; exact z3,by rw [g2]; omega,z5,by rw [g1,g2]; exact z6⟩
 ·rcases h.rk v hv with ⟨r1,r2⟩ | r
  ·by_cases e:v=y
   ·subst e; omega
   ·exact .inl ⟨r1,by rw [qZL e]; exact r2⟩
  ·exact .inr r
 ·have e:v ≠ y:=fun e=>by rw [e,qXJ] at hs; cases hs
  rw [qZL e] at hs;obtain ⟨k,hk,g1,g2,g3⟩:=h.live v hv hr hs;rcases p5 k hk with rfl | ⟨i,hi,f1,f2,f3⟩
  ·omega
  ·exact ⟨i,hi,by rw [← f1]; exact g1,by rw [← f2]; exact g2,by rw [← f3]; exact g3⟩
 ·obtain ⟨i,hi,g1,g2,_⟩:=p4 k hk;rw [g1,g2];by_cases e:u=y
  ·subst e; rw [← e1,← e2]; exact hmin i hi
  ·rw [qZL e] at hs; exact h.mono u i hu hs hi
 ·by_cases e:u=y
  ·subst e; exact leR.refl _ _
  ·rw [qZL e] at hs; rw [← e1,← e2]; exact h.mono u 0 hu hs (by omega)
theorem II.done {S:Nat→Bool} {x B:Nat} {rc rp:Nat→Int} {qn:Nat} {qc qp qx:Nat→Int} (hl:LOk np ln lt lc) (hx:x < np) (h:II np ln lt lc b S x (ln x) B rc rp qn qc qp qx) (_:B≤1000 * cntS S np):DI np ln lt lc b (setS S x) rc rp qn qc qp qx:=by
 have hlx:=hl.hln x hx;refine ⟨h.q,?_,h.ent,h.rk,h.live,fun u w y hu hs hw hy => ?_,h.mono,h.src,h.rb⟩
 ·have:=h.qb
  cases hs:S x with
  | true=>rw [hs] at this; rw [zVE hs]; simp at this; omega
  | false=>rw [hs] at this; rw [zZH hs np hx]; simp at this; omega
 ·by_cases e:u=x
  ·subst e; exact h.clx w y hw hw hy
  ·rw [qZL e] at hs; exact h.cl u w y hu hs hw hy
theorem DI.stale {S:Nat→Bool} {rc rp:Nat→Int} {qn:Nat} {qc qp qx:Nat→Int} (h:DI np ln lt lc b S rc rp qn qc qp qx) (h1:1≤qn) {x:Nat} (ex:qx 0=(x:Int)) (hne:¬ (qc 0=rc x∧qp 0=rp x)):DI np ln lt lc b S rc rp (qn - 1) (poT qn qc qp qx).1 (poT qn qc qp qx).2.1 (poT qn qc qp qx).2.2:=by
 obtain ⟨_,_,p3,p4,p5⟩:=zQJ (x:=qx) h.q h1;generalize poT qn qc qp qx=T at *;refine ⟨p3,by have:=h.qb; omega,fun k hk => ?_,h.rk,fun v hv hr hs => ?_,h.cl,fun u k hu hs hk => ?_,h.src,h.rb⟩
 ·obtain ⟨i,hi,g1,g2,g3⟩:=p4 k hk;obtain ⟨z,z1,z2,z3,z4,z5,z6⟩:=h.ent i hi;exact ⟨z,z1,g3.trans z2,by rw [g1,g2]; exact z3,by rw [g2]; omega,z5,by rw [g1,g2]; exact z6⟩
 ·obtain ⟨k,hk,g1,g2,g3⟩:=h.live v hv hr hs;rcases p5 k hk with rfl | ⟨i,hi,f1,f2,f3⟩
  ·have e:v=x:=by omega
   subst e;exact absurd ⟨g1,g2⟩ hne
  ·exact ⟨i,hi,by rw [← f1]; exact g1,by rw [← f2]; exact g2,by rw [← f3]; exact g3⟩
 ·obtain ⟨i,hi,g1,g2,_⟩:=p4 k hk;rw [g1,g2]; exact h.mono u i hu hs hi
end
end Go.Proofs.Ytglkkhpdbfacfaa.Bj
namespace Go.Proofs.Ytglkkhpdbfacfaa.Bk
open Go.Rx Rt Go.Sx Go.RowKit Ba Bb Bc Bd Be Bf Bh Bg Bi Bj
section
variable {np:Nat} {ln:Nat→Nat} {lt lc:Nat→Nat→Int} {b:Nat}
abbrev Rks:=(Nat→Int) × (Nat→Int) × Nat × (Nat→Int) × (Nat→Int) × (Nat→Int)
theorem yWE {N:Nat} {a B:Int} {rc rp:Nat→Int} {qc qp qx:Nat→Int}:dcst N np ln lt lc a B (rc,rp,0,qc,qp,qx)=.inr (0,rc,rp,0,qc,qp,qx):=by
 dsimp only [dcst];rw [vYY (show ¬ (0:Int) < ((0:Nat):Int) by omega)]; rfl
theorem yWF {N:Nat} {a B:Int} {rc rp:Nat→Int} {qn:Nat} {qc qp qx:Nat→Int} (hq:QOk qn qc qp) (h1:1≤qn) (ha:qx 0=a):dcst N np ln lt lc a B (rc,rp,qn,qc,qp,qx)=.inr (0,rc,rp,qn,qc,qp,qx):=by
 dsimp only [dcst];rw [vYJ (show (0:Int) < (qn:Int) by omega),zKX (C:=cpo) (t:=(qn,qc,qp,qx)) ⟨hq,h1⟩,vYJ ha]; rfl
theorem yQQ {N x:Nat} {a B:Int} {rc rp:Nat→Int} {qn:Nat} {qc qp qx:Nat→Int} (hq:QOk qn qc qp) (h1:1≤qn) (ha:qx 0 ≠ a) (ex:qx 0=(x:Int)) (hx:x < np) (hne:¬ (qc 0=rc x∧qp 0=rp x)) :
  dcst N np ln lt lc a B (rc,rp,qn,qc,qp,qx)=.inl (rc,rp,qn - 1,(poT qn qc qp qx).1,(poT qn qc qp qx).2.1,(poT qn qc qp qx).2.2):=by
 have e:(!((decide ((qc 0)=(rc (qx 0).toNat))) && ((decide ((qp 0)=(rp (qx 0).toNat))) && true)))=true:=by
  rw [ex,toN];by_cases e1:qc 0=rc x
  ·have e2:¬ qp 0=rp x:=fun e2=>hne ⟨e1,e2⟩
   rw [vYY e2]; simp
  ·rw [vYY e1]; rfl
 dsimp only [dcst];rw [vYJ (show (0:Int) < (qn:Int) by omega),zKX (C:=cpo) (t:=(qn,qc,qp,qx)) ⟨hq,h1⟩,vYY ha,e,toN,qYL ex hx]; rfl
theorem yJH {N x:Nat} {a B:Int} {rc rp:Nat→Int} {qn:Nat} {qc qp qx:Nat→Int} (hq:QOk qn qc qp) (h1:1≤qn) (ha:qx 0 ≠ a) (ex:qx 0=(x:Int)) (hx:x < np) (e1:qc 0=rc x) (e2:qp 0=rp x) {j:Int} {c p:Int} {y:Int} {s:Rks}
  (hi:qX (dcsi np ln lt lc) N (0,rc x,rp x,(x:Int),rc,rp,qn - 1,(poT qn qc qp qx).1,(poT qn qc qp qx).2.1,(poT qn qc qp qx).2.2)=some (0,j,c,p,y,s)) :
  dcst N np ln lt lc a B (rc,rp,qn,qc,qp,qx)=.inl s:=by
 have e:(!((decide ((qc 0)=(rc (qx 0).toNat))) && ((decide ((qp 0)=(rp (qx 0).toNat))) && true)))=false:=by
  rw [ex,toN,vYJ e1,vYJ e2]; rfl
 have ho:qQJ N np ln lt lc (0,(qc 0),(qp 0),(qx 0),(fun v=>(rc v)),(fun v=>(rp v)),(qn - 1),(fun v=>((poT qn qc qp qx).1 v)),(fun v=>((poT qn qc qp qx).2.1 v)),(fun v=>((poT qn qc qp qx).2.2 v)))=(0,j,c,p,y,s):=by
  unfold qQJ; rw [e1,e2,ex];show (qX (dcsi np ln lt lc) N (0,rc x,rp x,(x:Int),rc,rp,qn - 1,(poT qn qc qp qx).1,(poT qn qc qp qx).2.1,(poT qn qc qp qx).2.2)).getD _=_;rw [hi]; rfl
 have hk:qJA N np ln lt lc (0,(qc 0),(qp 0),(qx 0),(fun v=>(rc v)),(fun v=>(rp v)),(qn - 1),(fun v=>((poT qn qc qp qx).1 v)),(fun v=>((poT qn qc qp qx).2.1 v)),(fun v=>((poT qn qc qp qx).2.2 v)))=true:=by
  unfold qJA; rw [e1,e2,ex];show (qX (dcsi np ln lt lc) N (0,rc x,rp x,(x:Int),rc,rp,qn - 1,(poT qn qc qp qx).1,(poT qn qc qp qx).2.1,(poT qn qc qp qx).2.2)).isSome=_;rw [hi]; rfl
 dsimp only [dcst];rw [vYJ (show (0:Int) < (qn:Int) by omega),zKX (C:=cpo) (t:=(qn,qc,qp,qx)) ⟨hq,h1⟩,vYY ha,e,toN,qYL ex hx,yY,ho,hk]; rfl
theorem jXK {z q q' l m:Nat} (_:z + 1001 + q=m) (_:q'≤q - 1 + l) (_:l≤1000) (_:¬ q=0):z + q' < m:=by omega
theorem jKI (hl:LOk np ln lt lc) {N:Nat} (hN:1001≤N) (a B:Int):∀ (m M:Nat) (S:Nat→Bool) (rc rp:Nat→Int) (qn:Nat) (qc qp qx:Nat→Int),(np - cntS S np) * 1001 + qn=m→m < M→DI np ln lt lc b S rc rp qn qc qp qx →
  ∃ S' rc' rp' qn' qc' qp' qx',qX (dcst N np ln lt lc a B) M (rc,rp,qn,qc,qp,qx)=some (0,rc',rp',qn',qc',qp',qx')∧DI np ln lt lc b S' rc' rp' qn' qc' qp' qx'∧(qn'=0 ∨ (1≤qn'∧qx' 0=a)):=fun m=>by
 induction m using Nat.strongRecOn with
 | ind m ih =>
  intro M S rc rp qn qc qp qx hm hM h;obtain ⟨M,rfl⟩:∃ K,M=K + 1:=⟨M - 1,by omega⟩
  by_cases h0:qn=0
  ·subst h0;exact ⟨S,rc,rp,0,qc,qp,qx,by rw [qX,yWE],h,.inl rfl⟩
  by_cases ha:qx 0=a
  ·exact ⟨S,rc,rp,qn,qc,qp,qx,by rw [qX,yWF h.q (by omega) ha],h,.inr ⟨by omega,ha⟩⟩
  obtain ⟨x,hx,ex,_⟩:=h.ent 0 (by omega);by_cases hs:qc 0=rc x∧qp 0=rp x
  ·have hst:=h.start (by omega) hx ex hs.1 hs.2;have hcn:=qHB S np;have hnp:=hl.hnp;have hqb:=h.qb;have hlx:=hl.hln x hx;obtain ⟨rc',rp',qn',qc',qp',qx',g1,g2⟩:=jZA hl hx (by omega) (ln x) 0 N rc rp _ _ _ _ (by omega) (by omega) (by omega) hst;have hd:=II.done hl hx g2 (by omega);have hq2:=g2.qb;have hcs:=qHB (setS S x) np;have hlt:(np - cntS (setS S x) np) * 1001 + qn' < m:=by
    cases hsx:S x with
    | true=>rw [hsx] at hq2; rw [zVE hsx]; simp at hq2; omega
    | false =>
     rw [hsx] at hq2; simp at hq2;have hc:=zZH hsx np hx;rw [hc] at hcs ⊢;have e1:np - cntS S np=(np - (cntS S np + 1)) + 1:=by omega
     rw [e1,Nat.add_mul] at hm;rw [Nat.one_mul] at hm;exact jXK hm hq2 hlx h0
   obtain ⟨S',r1,r2,r3,r4,r5,r6,w1,w2,w3⟩:=ih _ hlt M _ _ _ _ _ _ _ rfl (by omega) hd;exact ⟨S',r1,r2,r3,r4,r5,r6,by rw [qX,yJH h.q (by omega) ha ex hx hs.1 hs.2 g1]; exact w1,w2,w3⟩
  ·obtain ⟨S',r1,r2,r3,r4,r5,r6,w1,w2,w3⟩:=ih _ (show (np - cntS S np) * 1001 + (qn - 1) < m by omega) M _ _ _ _ _ _ _ rfl (by omega) (h.stale (by omega) ex hs);exact ⟨S',r1,r2,r3,r4,r5,r6,by rw [qX,yQQ h.q (by omega) ha ex hx hs]; exact w1,w2,w3⟩
theorem DI.init (hb:b < np):DI np ln lt lc b (fun _=>false) (iz b) (io b) 1 (jz b) (jo b) (jb b):=by
 have z:∀ v,iz b v=0:=fun v=>by unfold iz; cases Nat.beq v (b:Int).toNat <;> rfl
 have o:∀ v,io b v=if v=b then 1 else 0:=fun v=>by
  unfold io; rw [toN,qQW];by_cases e:v=b
  ·rw [vYJ e,if_pos e]; rfl
  ·rw [vYY e,if_neg e]; rfl
 have j0:∀ v,jz b v=0:=fun v=>by unfold jz; cases Nat.beq (b:Int).toNat (b:Int).toNat <;> rfl
 have j1:∀ v,jo b v=1:=fun v=>by unfold jo; rw [Nat.beq_refl]; rfl
 refine ⟨⟨by omega,fun k k0 kn=>by omega,fun k _=>by rw [j1]; omega⟩,by omega,fun k hk=>⟨b,hb,rfl,?_,?_,?_,?_⟩,fun v hv => ?_,fun v hv hr _ => ?_,fun u w y hu hs=>(by cases hs),fun u k hu hs=>(by cases hs),⟨z b,by rw [o,if_pos rfl]⟩,fun v _=>by rw [o]; split <;> omega⟩
 ·rw [j0,j1]; exact .nil
 ·rw [j1]; omega
 ·rw [o,if_pos rfl]; omega
 ·rw [z,o,if_pos rfl,j0,j1]; exact leR.refl _ _
 ·by_cases e:v=b
  ·subst e; rw [z,o,if_pos rfl]; exact .inr ⟨by omega,.nil⟩
  ·rw [o,if_neg e]; exact .inl ⟨rfl,rfl⟩
 ·rw [o] at hr;by_cases e:v=b
  ·subst e; exact ⟨0,by omega,by rw [j0,z],by rw [j1,o,if_pos rfl],rfl⟩
  ·rw [if_neg e] at hr; omega
theorem DI.best (hl:LOk np ln lt lc) (hb:b < np) {S:Nat→Bool} {rc rp:Nat→Int} {qn:Nat} {qc qp qx:Nat→Int} (h:DI np ln lt lc b S rc rp qn qc qp qx) {a:Nat} (ha:a < np) (hr:0 < rp a) (he:qn=0 ∨ (1≤qn∧qx 0=(a:Int))) :
  (∀ k,k < qn→leR (rc a) (rp a) (qc k) (qp k))∧∀ x c p,Wk np ln lt lc b x c p→leR (rc a) (rp a) c p ∨ (S x=true∧leR (rc x) (rp x) c p):=by
 have hq:∀ k,k < qn→leR (rc a) (rp a) (qc k) (qp k):=fun k hk=>by
  rcases he with rfl | ⟨h1,ea⟩
  ·omega
  ·cases hs:S a with
   | true=>exact h.mono a k ha hs hk
   | false =>
    have hmin:=zVJ h.q.heap;obtain ⟨i,hi,g1,g2,g3⟩:=h.live a ha hr hs;obtain ⟨y,y1,y2,y3,y4,y5,y6⟩:=h.ent 0 (by omega);obtain rfl:y=a:=by omega
    exact y6.trans (hmin k hk)
 refine ⟨hq,fun x c p hw => ?_⟩;have step:∀ v c p,v < np→0 < rp v→leR (rc v) (rp v) c p→leR (rc a) (rp a) c p ∨ (S v=true∧leR (rc v) (rp v) c p):=fun v c p hv h0 hle=>by
  cases hs:S v with
  | true=>exact .inr ⟨rfl,hle⟩
  | false =>
   obtain ⟨k,hk,g1,g2,_⟩:=h.live v hv h0 hs
   have:=hq k hk
   rw [g1,g2] at this;exact .inl (this.trans hle)
 induction hw with
 | nil=>exact step b 0 1 hb (by rw [h.src.2]; omega) (by rw [h.src.1,h.src.2]; exact leR.refl _ _)
 | cons hw hx hwl hy ih =>
  have hc:=hl.hco _ _ hx hwl;have ht:=hl.hto _ _ hx hwl;rcases ih with ih | ⟨hs,ih⟩
  ·exact .inl (ih.trans (leR.up hc.1))
  ·obtain ⟨g1,g2⟩:=h.cl _ _ _ hx hs hwl hy;exact step _ _ _ (by omega) g1 (g2.trans (leR.add ih))
theorem DI.none (_:LOk np ln lt lc) {S:Nat→Bool} {rc rp:Nat→Int} {qn:Nat} {qc qp qx:Nat→Int} (h:DI np ln lt lc b S rc rp qn qc qp qx) {a:Nat} (_:a < np) (_:rp a=0) (he:qn=0 ∨ (1≤qn∧qx 0=(a:Int))):∀ c p,¬ Wk np ln lt lc b a c p:=by
 rcases he with rfl | ⟨h1,ea⟩
 ·have key:∀ x c p,Wk np ln lt lc b x c p→0 < rp x:=fun x c p hw=>by
   induction hw with
   | nil=>rw [h.src.2]; omega
   | @cons x y w c p hw hx hwl hy ih =>
    have hs:S x=true:=by
     cases hs:S x with
     | true=>rfl
     | false =>
      obtain ⟨k,hk,_⟩:=h.live _ hx ih hs;omega
    exact (h.cl _ _ _ hx hs hwl hy).1
  intro c p hw
  have:=key a c p hw
  omega
 ·obtain ⟨y,y1,y2,y3,y4,y5,y6⟩:=h.ent 0 (by omega);obtain rfl:y=a:=by omega
  omega
end
end Go.Proofs.Ytglkkhpdbfacfaa.Bk
namespace Go.Proofs.Ytglkkhpdbfacfaa.Bl
open Go.Rx Rt Go.Sx Go.RowKit Ba Bb Bc Bd Be Bf Bh Bg Bi Bj Bk
theorem qGK {good:Nat→Bool}:∀ n p,allN good n p=false→p≤Rx.firstK good n p∧Rx.firstK good n p < p + n∧good (Rx.firstK good n p)=false
 | 0,p,h=>by cases h
 | n + 1,p,h=>by
  simp only [allN] at h;unfold Rx.firstK;cases hg:good p with
  | false=>simp only [vYZ]; exact ⟨Nat.le_refl _,by omega,hg⟩
  | true =>
   rw [hg,vZW] at h;obtain ⟨h1,h2,h3⟩:=qGK n (p + 1) h;simp only [vYQ];exact ⟨by omega,by omega,h3⟩
section
variable {np:Nat} {ln:Nat→Nat} {lt lc:Nat→Nat→Int} {b:Nat}
def LSym (np:Nat) (ln:Nat→Nat) (lt lc:Nat→Nat→Int):Prop:=∀ u w y,u < np→w < ln u→lt u w=((y:Nat):Int)→∃ w',w' < ln y∧lt y w'=(u:Int)∧lc y w'=lc u w
structure OnR (np:Nat) (ln:Nat→Nat) (lt lc:Nat→Nat→Int) (b:Nat) (rc rp:Nat→Int) (a v:Nat):Prop where
 ltn:v < np
 wk:Wk np ln lt lc b v (rc v) (rp v)
 opt:∀ c p,Wk np ln lt lc b v c p→leR (rc v) (rp v) c p
 le:leR (rc v) (rp v) (rc a) (rp a)
theorem leR.sub {a b c d k:Int} (_:leR (a + k) (b + 1) (c + k) (d + 1)):leR a b c d:=by unfold leR at *; omega
theorem OnR.ex (hl:LOk np ln lt lc) (hs:LSym np ln lt lc) {rc rp:Nat→Int} {a v:Nat} {S:Nat→Bool} (hbest:∀ x c p,Wk np ln lt lc b x c p→leR (rc a) (rp a) c p ∨ (S x=true∧leR (rc x) (rp x) c p)) (hrk:∀ v,v < np→(rp v=0∧S v=false) ∨ (0 < rp v∧Wk np ln lt lc b v (rc v) (rp v)))
  (h:OnR np ln lt lc b rc rp a v) (hv:v ≠ b):∃ w x,w < ln v∧lt v w=((x:Nat):Int)∧rp x=rp v - 1∧rc x + lc v w=rc v:=by
 have hw:=h.wk;generalize hc:rc v=cv at hw;generalize hp:rp v=pv at hw;cases hw with
 | nil=>exact absurd rfl hv
 | @cons x y w c p hw hx hwl hy =>
  have hco:=hl.hco x w hx hwl;obtain ⟨w',g1,g2,g3⟩:=hs x w v hx hwl hy;have hle:leR (rc x) (rp x) c p∧S x=true:=by
   rcases hbest x c p hw with h1 | ⟨h1,h2⟩
   ·exfalso
    have:=h.le.trans h1
    rw [hc,hp] at this;exact leR.not_up this (leR.refl _ _) hco.1
   ·exact ⟨h2,h1⟩
  have hwx:Wk np ln lt lc b x (rc x) (rp x):=by
   rcases hrk x hx with ⟨_,h2⟩ | h2
   ·rw [hle.2] at h2; cases h2
   ·exact h2.2
  have:=h.opt _ _ (.cons hwx hx hwl hy)
  rw [hc,hp] at this;have e:=leR.anti hle.1 (leR.sub this);exact ⟨w',x,g1,g2,by omega,by rw [g3]; omega⟩
theorem OnR.next (hl:LOk np ln lt lc) (hs:LSym np ln lt lc) {rc rp:Nat→Int} {a v x w:Nat} {S:Nat→Bool} (hrk:∀ v,v < np→(rp v=0∧S v=false) ∨ (0 < rp v∧Wk np ln lt lc b v (rc v) (rp v)))
  (h:OnR np ln lt lc b rc rp a v) (hv:v ≠ b) (hw:w < ln v) (hx:lt v w=(x:Int)) (e1:rp x=rp v - 1) (e2:rc x + lc v w=rc v):OnR np ln lt lc b rc rp a x:=by
 have ht:=hl.hto v w h.ltn hw;have hco:=hl.hco v w h.ltn hw;have hbd:=h.wk.bd hl;have hp:rp v ≠ 1:=fun e=>hv (h.wk.one hl e).1
 obtain ⟨w',g1,g2,g3⟩:=hs v w x h.ltn hw hx;refine ⟨by omega,?_,fun c p hc => ?_,?_⟩
 ·rcases hrk x (by omega) with ⟨h1,_⟩ | h1
  ·omega
  ·exact h1.2
 ·have:=h.opt _ _ (.cons hc (by omega) g1 g2)
  rw [g3] at this;unfold leR at *; omega
 ·have:=h.le
  unfold leR at *; omega
theorem yJF {v w x:Nat} {bb co:Int} {rc rp:Nat→Int} {vn:Nat} {vf:Nat→Int} (hl:LOk np ln lt lc) (hv:v < np) (hb:(v:Int) ≠ bb) (hi:ixI (ln v) (lt v) (lc v) rc rp (v:Int)=(w:Int)) (hw:w < ln v) (hx:lt v w=(x:Int)) (hn:vn + 1≤1000000) :
  dcpa np ln lt lc bb ((v:Int),co,rc,rp,vn,vf)=.inl ((x:Int),co,rc,rp,vn + 1,fun k=>bif Nat.beq k vn then (x:Int) else vf k):=by
 have hlx:=hl.hln v hv;have hg:cix (ln v,lt v,lc v,np,rc,rp,(v:Int)):=⟨by omega,fun i hi=>by
  have:=hl.hto v i hv hi
  exact qYL (y:=(lt v i).toNat) (by omega) (by omega),zV hv⟩
 dsimp only [dcpa];rw [vYY hb];simp only [toN,zV hv,uX (C:=cix) (t:=(ln v,lt v,lc v,np,rc,rp,(v:Int))) hg,hi,zV hw,vYJ hn,hx,Bool.not_false,vYQ]
theorem yVQ {co:Int} {rc rp:Nat→Int} {vn:Nat} {vf:Nat→Int}:dcpa np ln lt lc (b:Int) ((b:Int),co,rc,rp,vn,vf)=.inr (0,(b:Int),co,rc,rp,vn,vf):=by
 dsimp only [dcpa];rw [vYJ rfl]; rfl
theorem yYH (hl:LOk np ln lt lc) (hs:LSym np ln lt lc) {rc rp:Nat→Int} {a:Nat} {S:Nat→Bool} (hbest:∀ x c p,Wk np ln lt lc b x c p→leR (rc a) (rp a) c p ∨ (S x=true∧leR (rc x) (rp x) c p)) (hrk:∀ v,v < np→(rp v=0∧S v=false) ∨ (0 < rp v∧Wk np ln lt lc b v (rc v) (rp v)))
  (hrb:∀ v,v < np→rp v≤1000) (co:Int):∀ (m M:Nat) (v:Nat) (vn:Nat) (vf:Nat→Int),rp v=(m:Int)→m < M→vn + m≤2000→OnR np ln lt lc b rc rp a v →
  ∃ vn' vf',qX (dcpa np ln lt lc (b:Int)) M ((v:Int),co,rc,rp,vn,vf)=some (0,(b:Int),co,rc,rp,vn',vf')
 | m,0,v,vn,vf,hm,hM,hn,h=>by omega
 | m,M + 1,v,vn,vf,hm,hM,hn,h=>by
  by_cases hv:v=b
  ·subst hv;exact ⟨vn,vf,by rw [qX,yVQ]⟩
  ·have hbd:=h.wk.bd hl;have hrv:=hrb v h.ltn;have hp:rp v ≠ 1:=fun e=>hv (h.wk.one hl e).1
   have hlx:=hl.hln v h.ltn;obtain ⟨w0,x0,q1,q2,q3,q4⟩:=h.ex hl hs hbest hrk hv;have hw1:vYX .i64 (rp v - 1)=rp v - 1:=yG (by omega);have hall:allN (fun i:Nat=>ixB (lt v) (lc v) rc rp (v:Int) i) (ln v) 0=false:=by
    cases ha:allN (fun i:Nat=>ixB (lt v) (lc v) rc rp (v:Int) i) (ln v) 0 with
    | false=>rfl
    | true =>
     exfalso
     have:=allN_iff.1 ha w0 (by omega) (by omega)
     unfold ixB at this;rw [toN,q2,toN,hw1,vYJ q3,q4,yG (by omega),vYJ rfl] at this;cases this
   obtain ⟨f1,f2,f3⟩:=qGK _ _ hall;have hi:ixI (ln v) (lt v) (lc v) rc rp (v:Int)=((Rx.firstK (fun i:Nat=>ixB (lt v) (lc v) rc rp (v:Int) i) (ln v) 0:Nat):Int):=by
    unfold ixI; rw [hall]; rfl
   generalize Rx.firstK (fun i:Nat=>ixB (lt v) (lc v) rc rp (v:Int) i) (ln v) 0=w at *;have ht:=hl.hto v w h.ltn (by omega);have hco:=hl.hco v w h.ltn (by omega);obtain ⟨x,hx⟩:∃ x:Nat,lt v w=(x:Int):=⟨(lt v w).toNat,by omega⟩
   have hxn:x < np:=by omega
   unfold ixB at f3;simp only [Bool.not_eq_false',vQJ,decide_eq_true_eq,toN,hx,hw1] at f3;obtain ⟨f3,f4⟩:=f3;have hxw:Wk np ln lt lc b x (rc x) (rp x):=by
    rcases hrk x hxn with ⟨h1,_⟩ | h1
    ·omega
    ·exact h1.2
   have hxb:=hxw.bd hl;rw [yG (by omega)] at f4;rw [qX,yJF hl h.ltn (by omega) hi (by omega) hx (by omega)];exact yYH hl hs hbest hrk hrb co (m - 1) M x (vn + 1) _ (by omega) (by omega) (by omega) (h.next hl hs hrk hv (by omega) hx f3 f4)
end
end Go.Proofs.Ytglkkhpdbfacfaa.Bl
namespace Go.Proofs.Ytglkkhpdbfacfaa.Bm
open Go.Rx Rt Go.Sx Go.RowKit Ba Bb Bc Bd Be Bf Bh Bg Bi Bj Bk Bl
def NN:Nat:=200000
theorem qGB:NN=200000:=rfl
section
variable (np:Nat) (ln:Nat→Nat) (lt lc:Nat→Nat→Int) (a b:Int)
noncomputable def seT:Rks:=(jY NN np ln lt lc a b ((iz b),(io b),1,(jz b),(jo b),(jb b))).2
noncomputable def paT:Int × Int × (Nat→Int) × (Nat→Int) × Nat × (Nat→Int):=(yH NN np ln lt lc b (a,(seT np ln lt lc a b).1 a.toNat,(seT np ln lt lc a b).1,(seT np ln lt lc a b).2.1,1,jb a)).2
noncomputable def shF:Bool:=!decide ((seT np ln lt lc a b).2.1 a.toNat=0)
noncomputable def shC:Int:=bif shF np ln lt lc a b then (seT np ln lt lc a b).1 a.toNat else 0
noncomputable def shN:Nat:=bif shF np ln lt lc a b then (paT np ln lt lc a b).2.2.2.2.1 else 0
noncomputable def shV:Nat→Int:=(paT np ln lt lc a b).2.2.2.2.2
end
section
variable {np:Nat} {ln:Nat→Nat} {lt lc:Nat→Nat→Int}
theorem qVU (hl:LOk np ln lt lc) (hs:LSym np ln lt lc) {a b:Nat} (ha:a < np) (hb:b < np):zUD NN np ln lt lc (a:Int) (b:Int) ((iz b),(io b),1,(jz b),(jo b),(jb b))=true∧(jY NN np ln lt lc (a:Int) (b:Int) ((iz b),(io b),1,(jz b),(jo b),(jb b))).1=0 ∧
  ((shF np ln lt lc a b=false∧∀ c p,¬ Wk np ln lt lc b a c p) ∨ (shF np ln lt lc a b=true∧qKH NN np ln lt lc (b:Int) ((a:Int),(seT np ln lt lc a b).1 a,(seT np ln lt lc a b).1,(seT np ln lt lc a b).2.1,1,jb a)=true∧(yH NN np ln lt lc (b:Int) ((a:Int),(seT np ln lt lc a b).1 a,(seT np ln lt lc a b).1,(seT np ln lt lc a b).2.1,1,jb a)).1=0∧(yH NN np ln lt lc (b:Int) ((a:Int),(seT np ln lt lc a b).1 a,(seT np ln lt lc a b).1,(seT np ln lt lc a b).2.1,1,jb a)).2.2.1=(seT np ln lt lc a b).1 a ∧
   (∃ p,Wk np ln lt lc b a (shC np ln lt lc a b) p)∧∀ c p,Wk np ln lt lc b a c p→shC np ln lt lc a b≤c)):=by
 have hnp:=hl.hnp;have hm:(np - cntS (fun _=>false) np) * 1001 + 1 < NN:=by
  have:(np - cntS (fun _=>false) np) * 1001≤100 * 1001:=Nat.mul_le_mul_right _ (by omega)
  rw [qGB]; omega
 obtain ⟨S,rc,rp,qn,qc,qp,qx,g1,g2,g3⟩:=jKI hl (N:=NN) (by rw [qGB]; omega) (a:Int) (b:Int) _ NN _ _ _ _ _ _ _ rfl hm (DI.init hb);have ho:jY NN np ln lt lc (a:Int) (b:Int) ((iz b),(io b),1,(jz b),(jo b),(jb b))=(0,rc,rp,qn,qc,qp,qx):=by unfold jY; rw [g1]; rfl
 have hT:seT np ln lt lc a b=(rc,rp,qn,qc,qp,qx):=by unfold seT; rw [ho]
 have hk:zUD NN np ln lt lc (a:Int) (b:Int) ((iz b),(io b),1,(jz b),(jo b),(jb b))=true:=by unfold zUD; rw [g1]; rfl
 refine ⟨hk,by rw [ho],?_⟩;unfold shC shF;rw [hT,toN];by_cases h0:rp a=0
 ·refine .inl ⟨by rw [vYJ h0]; rfl,DI.none hl g2 ha h0 g3⟩
 ·have hr:0 < rp a∧Wk np ln lt lc b a (rc a) (rp a):=by
   rcases g2.rk a ha with ⟨h1,_⟩ | h1
   ·exact absurd h1 h0
   ·exact h1
  obtain ⟨b1,b2⟩:=DI.best hl hb g2 ha hr.1 g3;have hon:OnR np ln lt lc b rc rp a a:=⟨ha,hr.2,fun c p hw=>by
   rcases b2 a c p hw with h | ⟨_,h⟩ <;> exact h,leR.refl _ _⟩
  have hcn:=qHB S np;have hra:=g2.rb a ha;obtain ⟨vn,vf,p1⟩:=yYH hl hs b2 g2.rk (fun v hv=>by have:=g2.rb v hv; omega) (rc a) (rp a).toNat NN a 1 (jb a) (by omega) (by rw [qGB]; omega) (by omega) hon;refine .inr ⟨by rw [vYY h0]; rfl,by unfold qKH; rw [p1]; rfl,by unfold yH; rw [p1]; rfl,by unfold yH; rw [p1]; rfl,?_,fun c p hw => ?_⟩
  ·rw [vYY h0]; exact ⟨rp a,hr.2⟩
  ·rw [vYY h0]
   have:=hon.opt c p hw
   simp only [Bool.not_false,vYQ];unfold leR at this; omega
end
noncomputable def yXF (N np:Nat) (ln:Nat→Nat) (lt lc:Nat→Nat→Int) (a b:Int):List (List Nat × yK):=[([0,0,1,1,1,1,0,1],sumF (fun t:((Nat→Int) × (Nat→Int) × Nat × (Nat→Int) × (Nat→Int) × (Nat→Int))=>(hst N np ln lt lc a b t.1 t.2.1 t.2.2.1 t.2.2.2.1 t.2.2.2.2.1 t.2.2.2.2.2)) (fun σ=>(rgI σ 19 0,rgI σ 19 1,rgN σ 30,rgI σ 30 0,rgI σ 30 1,rgI σ 30 2)) (fun t K=>(bif zUD N np ln lt lc a b t then kxst N np ln lt lc a b K (jY N np ln lt lc a b t) else none))),([0,1,0,1,1,1,1,1,1,1,0,1],sumF (fun t:(Int × Int × (Nat→Int) × (Nat→Int) × Nat × (Nat→Int))=>(hpa N np ln lt lc a b t.1 t.2.1 t.2.2.1 t.2.2.2.1 t.2.2.2.2.1 t.2.2.2.2.2)) (fun σ=>(bkC σ 15 0,bkC σ 14 1,rgI σ 19 0,rgI σ 19 1,rgN σ 96,rgI σ 96 0)) (fun t K=>(bif qKH N np ln lt lc b t then kxpa N np ln lt lc a b K (yH N np ln lt lc b t) else none)))]
set_option maxRecDepth 100000 in
theorem jXE (N np:Nat) (ln:Nat→Nat) (lt lc:Nat→Nat→Int) (a b:Int):qZV Tf (orst N np ln lt lc a b) (qY (yXF N np ln lt lc a b)) N 55 [.lf np (fun u=>[.lf (ln u) (fun w=>[.n .i64 (lt u w),.n .i64 (lc u w)])]),.n .i64 a,.n .i64 b] =
 (bif (decide (0≤(np:Int))) then (bif (decide ((np:Int)≤(np:Int))) then (bif (decide ((np:Int)≤1000000)) then (bif (inB b (np:Int).toNat) then (bif (inB b (np:Int).toNat) then (bif (gSt (hst N np ln lt lc a b (iz b) (io b) 1 (jz b) (jo b) (jb b)) (hst N np ln lt lc a b (iz b) (io b) 1 (jz b) (jo b) (jb b))) then (bif (zUD N np ln lt lc a b ((iz b),(io b),1,(jz b),(jo b),(jb b))) then (bif (Nat.beq (jY N np ln lt lc a b ((iz b),(io b),1,(jz b),(jo b),(jb b))).1 0) then (bif (inB a (np:Int).toNat) then (bif (decide (((jY N np ln lt lc a b ((iz b),(io b),1,(jz b),(jo b),(jb b))).2.2.1 (a).toNat)=0)) then some (.v (.t [.a [.l [],.n .i64 0],.b false]),[])
 else (bif (inB a (np:Int).toNat) then (bif (gSt (hpa N np ln lt lc a b a ((jY N np ln lt lc a b ((iz b),(io b),1,(jz b),(jo b),(jb b))).2.1 (a).toNat) (fun v=>((jY N np ln lt lc a b ((iz b),(io b),1,(jz b),(jo b),(jb b))).2.1 v)) (fun v=>((jY N np ln lt lc a b ((iz b),(io b),1,(jz b),(jo b),(jb b))).2.2.1 v)) 1 (jb a)) (hpa N np ln lt lc a b a ((jY N np ln lt lc a b ((iz b),(io b),1,(jz b),(jo b),(jb b))).2.1 (a).toNat) (fun v=>((jY N np ln lt lc a b ((iz b),(io b),1,(jz b),(jo b),(jb b))).2.1 v)) (fun v=>((jY N np ln lt lc a b ((iz b),(io b),1,(jz b),(jo b),(jb b))).2.2.1 v)) 1 (jb a))) then (bif (qKH N np ln lt lc b (a,((jY N np ln lt lc a b ((iz b),(io b),1,(jz b),(jo b),(jb b))).2.1 (a).toNat),(fun v=>((jY N np ln lt lc a b ((iz b),(io b),1,(jz b),(jo b),(jb b))).2.1 v)),(fun v=>((jY N np ln lt lc a b ((iz b),(io b),1,(jz b),(jo b),(jb b))).2.2.1 v)),1,(jb a))) then (bif (Nat.beq (yH N np ln lt lc b (a,((jY N np ln lt lc a b ((iz b),(io b),1,(jz b),(jo b),(jb b))).2.1 (a).toNat),(fun v=>((jY N np ln lt lc a b ((iz b),(io b),1,(jz b),(jo b),(jb b))).2.1 v)),(fun v=>((jY N np ln lt lc a b ((iz b),(io b),1,(jz b),(jo b),(jb b))).2.2.1 v)),1,(jb a))).1 0) then some (.v (.t [.a [.lf (yH N np ln lt lc b (a,((jY N np ln lt lc a b ((iz b),(io b),1,(jz b),(jo b),(jb b))).2.1 (a).toNat),(fun v=>((jY N np ln lt lc a b ((iz b),(io b),1,(jz b),(jo b),(jb b))).2.1 v)),(fun v=>((jY N np ln lt lc a b ((iz b),(io b),1,(jz b),(jo b),(jb b))).2.2.1 v)),1,(jb a))).2.2.2.2.2.1 (fun v=>[.n .i64 ((yH N np ln lt lc b (a,((jY N np ln lt lc a b ((iz b),(io b),1,(jz b),(jo b),(jb b))).2.1 (a).toNat),(fun v=>((jY N np ln lt lc a b ((iz b),(io b),1,(jz b),(jo b),(jb b))).2.1 v)),(fun v=>((jY N np ln lt lc a b ((iz b),(io b),1,(jz b),(jo b),(jb b))).2.2.1 v)),1,(jb a))).2.2.2.2.2.2 v)]),.n .i64 (yH N np ln lt lc b (a,((jY N np ln lt lc a b ((iz b),(io b),1,(jz b),(jo b),(jb b))).2.1 (a).toNat),(fun v=>((jY N np ln lt lc a b ((iz b),(io b),1,(jz b),(jo b),(jb b))).2.1 v)),(fun v=>((jY N np ln lt lc a b ((iz b),(io b),1,(jz b),(jo b),(jb b))).2.2.1 v)),1,(jb a))).2.2.1],.b true]),[])
 else none)
 else none)
 else none)
 else none))
 else none)
 else none)
 else none)
 else none)
 else none)
 else none)
 else none)
 else none)
 else none):=by kernel_rfl
theorem yGF (N np:Nat) (ln:Nat→Nat) (lt lc:Nat→Nat→Int) (a b:Int) (a0 b0:Nat) (ea:a=(a0:Int)) (eb:b=(b0:Int)) (hN:N=NN) (hl:LOk np ln lt lc) (hs:LSym np ln lt lc) (ha:a0 < np) (hb:b0 < np):zH Try.prog 55 [.lf np (fun u=>[.lf (ln u) (fun w=>[.n .i64 (lt u w),.n .i64 (lc u w)])]),.n .i64 a,.n .i64 b] (bif shF np ln lt lc a b then .v (.t [.a [.lf (paT np ln lt lc a b).2.2.2.2.1 (fQ (paT np ln lt lc a b).2.2.2.2.2),.n .i64 ((seT np ln lt lc a b).1 a.toNat)],.b true]) else .v (.t [.a [.l [],.n .i64 0],.b false])):=by
 refine zJ (N:=N) (LO:=qY (yXF N np ln lt lc a b)) kJ jJ (kX (l:=[(65,o_bt),(67,o_ix)]) (m:=[(66,o_pu),(64,o_po)]) ⟨jZJ,jWC,trivial⟩ ⟨jWH,jWA,trivial⟩) (fun p S hp => ?_) ?_
 ·refine qV (L:=qZ Tf 55) (l:=(yXF N np ln lt lc a b)) (show AllP _ (yXF N np ln lt lc a b) from ⟨?_,?_,trivial⟩) p S hp
  ·dsimp only;refine yV (T:=Tf) (o:=(orst N np ln lt lc a b)) (f:=55) (LO:=(qY [([0,1,1,1,0,1,0,0,0,1,1,1,1,0,1],sumF (fun t:(Int × Int × Int × Int × (Nat→Int) × (Nat→Int) × Nat × (Nat→Int) × (Nat→Int) × (Nat→Int))=>(hsi N np ln lt lc a b t.1 t.2.1 t.2.2.1 t.2.2.2.1 t.2.2.2.2.1 t.2.2.2.2.2.1 t.2.2.2.2.2.2.1 t.2.2.2.2.2.2.2.1 t.2.2.2.2.2.2.2.2.1 t.2.2.2.2.2.2.2.2.2)) (fun σ=>(slI σ 55,bkC σ 10 0,bkC σ 10 1,bkC σ 10 2,rgI σ 19 0,rgI σ 19 1,rgN σ 30,rgI σ 30 0,rgI σ 30 1,rgI σ 30 2)) (fun t K=>(bif qJA N np ln lt lc t then kxsi N np ln lt lc a b K (qQJ N np ln lt lc t) else none)))])) (p:=[0,0,1,1,1,1,0,1]) (oksi N np ln lt lc a b) ?_;intro t K r hr;obtain ⟨hg,hr⟩:=qQ hr
   skip
   exact (lwst K N np ln lt lc a b t hg).trans hr
  ·dsimp only;refine yV (T:=Tf) (o:=(orst N np ln lt lc a b)) (f:=55) (LO:=qY []) (p:=[0,1,0,1,1,1,1,1,1,1,0,1]) kZ ?_;intro t K r hr;obtain ⟨hg,hr⟩:=qQ hr
   skip
   exact (lwpa K N np ln lt lc a b t hg).trans hr
 ·refine (jXE N np ln lt lc a b).trans ?_;subst ea eb hN;have hnp:=hl.hnp;obtain ⟨s1,s2,s3⟩:=qVU hl hs ha hb;simp only [toN,vYJ (show (0:Int)≤(np:Int) by omega),vYJ (show (np:Int)≤(np:Int) by omega),vYJ (show (np:Int)≤1000000 by omega),zV ha,zV hb,yY,s1,s2,vYQ,Nat.beq_refl];rcases s3 with ⟨h1,h2⟩ | ⟨h1,h2,h3,h4,_⟩
  ·have h0:(jY NN np ln lt lc (a0:Int) (b0:Int) ((iz b0),(io b0),1,(jz b0),(jo b0),(jb b0))).2.2.1 a0=0:=by
    unfold shF at h1;rw [toN] at h1;unfold seT at h1
    simpa using h1
   rw [vYJ h0,h1]; rfl
  ·have h0:¬ (jY NN np ln lt lc (a0:Int) (b0:Int) ((iz b0),(io b0),1,(jz b0),(jo b0),(jb b0))).2.2.1 a0=0:=by
    unfold shF at h1;rw [toN] at h1;unfold seT at h1
    simpa using h1
   rw [vYY h0,show qKH NN np ln lt lc (b0:Int) ((a0:Int),((jY NN np ln lt lc (a0:Int) (b0:Int) ((iz b0),(io b0),1,(jz b0),(jo b0),(jb b0))).2.1 a0),(fun v=>((jY NN np ln lt lc (a0:Int) (b0:Int) ((iz b0),(io b0),1,(jz b0),(jo b0),(jb b0))).2.1 v)),(fun v=>((jY NN np ln lt lc (a0:Int) (b0:Int) ((iz b0),(io b0),1,(jz b0),(jo b0),(jb b0))).2.2.1 v)),1,(jb a0))=true from h2,
    show (yH NN np ln lt lc (b0:Int) ((a0:Int),((jY NN np ln lt lc (a0:Int) (b0:Int) ((iz b0),(io b0),1,(jz b0),(jo b0),(jb b0))).2.1 a0),(fun v=>((jY NN np ln lt lc (a0:Int) (b0:Int) ((iz b0),(io b0),1,(jz b0),(jo b0),(jb b0))).2.1 v)),(fun v=>((jY NN np ln lt lc (a0:Int) (b0:Int) ((iz b0),(io b0),1,(jz b0),(jo b0),(jb b0))).2.2.1 v)),1,(jb a0))).1=0 from h3,
    show (yH NN np ln lt lc (b0:Int) ((a0:Int),((jY NN np ln lt lc (a0:Int) (b0:Int) ((iz b0),(io b0),1,(jz b0),(jo b0),(jb b0))).2.1 a0),(fun v=>((jY NN np ln lt lc (a0:Int) (b0:Int) ((iz b0),(io b0),1,(jz b0),(jo b0),(jb b0))).2.1 v)),(fun v=>((jY NN np ln lt lc (a0:Int) (b0:Int) ((iz b0),(io b0),1,(jz b0),(jo b0),(jb b0))).2.2.1 v)),1,(jb a0))).2.2.1=(seT np ln lt lc a0 b0).1 a0 from h4]
   rw [h1];unfold paT;rw [toN];rfl
theorem jYV (np:Nat) (ln:Nat→Nat) (lt lc:Nat→Nat→Int) (a b:Int) (a0 b0:Nat) (ea:a=(a0:Int)) (eb:b=(b0:Int)) (hl:LOk np ln lt lc) (hs:LSym np ln lt lc) (ha:a0 < np) (hb:b0 < np):zH Try.prog 55 [.lf np (fun u=>[.lf (ln u) (fun w=>[.n .i64 (lt u w),.n .i64 (lc u w)])]),.n .i64 a,.n .i64 b] (.v (.t [.a [.lf (shN np ln lt lc a b) (fQ (shV np ln lt lc a b)),.n .i64 (shC np ln lt lc a b)],.b (shF np ln lt lc a b)])):=by
 have h:=yGF NN np ln lt lc a b a0 b0 ea eb rfl hl hs ha hb;unfold shN shC shV;cases hf:shF np ln lt lc a b with
 | true=>rw [hf] at h; exact h
 | false=>rw [hf] at h; exact qYC (Same.t (xs:=[_,_]) (ys:=[_,_]) ⟨Same.a (xs:=[_,_]) (ys:=[_,_]) ⟨Same.lf rfl,Same.refl _,trivial⟩,Same.refl _,trivial⟩) h
end Go.Proofs.Ytglkkhpdbfacfaa.Bm
namespace Go.Proofs.Ytglkkhpdbfacfaa.Bn
open Go.Rx Rt Go.Sx Go.RowKit Ba Bb Bc Bd Be Bf Bh Bg Bi Bj Bk Bl Bm
abbrev Lk:=(Nat→Nat) × (Nat→Nat→Int) × (Nat→Nat→Int)
def addN (l:Nat→Nat) (u:Nat):Nat→Nat:=fun x=>bif Nat.beq x u then l u + 1 else l x
def addV (l:Nat→Nat) (t:Nat→Nat→Int) (u:Nat) (y:Int):Nat→Nat→Int:=fun x w=>bif Nat.beq x u then (bif Nat.beq w (l u) then y else t u w) else t x w
def addL (s:Lk) (u:Nat) (y c:Int):Lk:=(addN s.1 u,addV s.1 s.2.1 u y,addV s.1 s.2.2 u c)
def HasL (s:Lk) (x:Nat) (y c:Int):Prop:=∃ w,w < s.1 x∧s.2.1 x w=y∧s.2.2 x w=c
theorem yYE {s:Lk} {u x:Nat} {y0 c0 y c:Int}:HasL (addL s u y0 c0) x y c ↔ HasL s x y c ∨ (x=u∧y=y0∧c=c0):=by
 unfold HasL addL addN addV;by_cases e:x=u
 ·subst e;simp only [Nat.beq_refl,vYQ,true_and];refine ⟨fun ⟨w,h1,h2,h3⟩ => ?_,fun h => ?_⟩
  ·by_cases e:w=s.1 x
   ·subst e; simp only [Nat.beq_refl,vYQ] at h2 h3; exact .inr ⟨h2.symm,h3.symm⟩
   ·simp only [qQW,vYY e,vYZ] at h2 h3; exact .inl ⟨w,by omega,h2,h3⟩
  ·rcases h with ⟨w,h1,h2,h3⟩ | ⟨rfl,rfl⟩
   ·refine ⟨w,by omega,?_,?_⟩ <;> simp only [qQW,vYY (show ¬ w=s.1 x by omega),vYZ] <;> assumption
   ·exact ⟨s.1 x,by omega,by simp only [Nat.beq_refl,vYQ],by simp only [Nat.beq_refl,vYQ]⟩
 ·simp only [qQW,vYY e,vYZ,false_and,or_false];simp only [e,false_and,or_false]
theorem yGX {s:Lk} {u:Nat} {y c:Int} {k:Nat} (h:∀ x,s.1 x≤k):∀ x,(addL s u y c).1 x≤k + 1:=fun x=>by
 have h1:=h x; have h2:=h u;show (bif Nat.beq x u then s.1 u + 1 else s.1 x)≤k + 1;cases Nat.beq x u <;> simp only [vYQ,vYZ] <;> omega
def nxL (g:Gr) (m:Int) (i:Nat) (s:Lk):Lk:=bif usB (g.ed i).s m then addL (addL s (g.ed i).u.toNat (g.ed i).v (g.ed i).c) (g.ed i).v.toNat (g.ed i).u (g.ed i).c else s
def lkO (g:Gr) (m:Int):Lk:=zQL (nxL g m) g.ne 0 (fun _=>0,fun _ _=>0,fun _ _=>0)
def Jn (g:Gr) (m:Int) (k:Nat) (x:Nat) (y c:Int):Prop:=∃ e,e < k∧usB (g.ed e).s m=true∧(g.ed e).c=c∧(((g.ed e).u.toNat=x∧(g.ed e).v=y) ∨ ((g.ed e).v.toNat=x∧(g.ed e).u=y))
theorem yZI {g:Gr} {m:Int} {i:Nat} {s:Lk} (h:(∀ x,s.1 x≤2 * i)∧∀ x y c,HasL s x y c ↔ Jn g m i x y c):(∀ x,(nxL g m i s).1 x≤2 * (i + 1))∧∀ x y c,HasL (nxL g m i s) x y c ↔ Jn g m (i + 1) x y c:=by
 unfold nxL;cases hu:usB (g.ed i).s m with
 | false =>
  simp only [vYZ];refine ⟨fun x=>by have:=h.1 x; omega,fun x y c=>(h.2 x y c).trans ⟨fun ⟨e,h1,h2⟩=>⟨e,by omega,h2⟩,fun ⟨e,h1,h2⟩ => ?_⟩⟩;by_cases ei:e=i
  ·subst ei; rw [hu] at h2; cases h2.1
  ·exact ⟨e,by omega,h2⟩
 | true =>
  simp only [vYQ];refine ⟨fun x=>by have:=yGX (u:=(g.ed i).v.toNat) (y:=(g.ed i).u) (c:=(g.ed i).c) (yGX (u:=(g.ed i).u.toNat) (y:=(g.ed i).v) (c:=(g.ed i).c) h.1) x; omega,fun x y c => ?_⟩;rw [yYE,yYE,h.2];refine ⟨fun hh => ?_,fun ⟨e,h1,h2,h3,h4⟩ => ?_⟩
  ·rcases hh with (⟨e,h1,h2⟩ | ⟨e1,e2,e3⟩) | ⟨e1,e2,e3⟩
   ·exact ⟨e,by omega,h2⟩
   ·exact ⟨i,by omega,hu,e3.symm,.inl ⟨e1.symm,e2.symm⟩⟩
   ·exact ⟨i,by omega,hu,e3.symm,.inr ⟨e1.symm,e2.symm⟩⟩
  ·by_cases ei:e=i
   ·subst ei;rcases h4 with ⟨a1,a2⟩ | ⟨a1,a2⟩
    ·exact .inl (.inr ⟨a1.symm,a2.symm,h3.symm⟩)
    ·exact .inr ⟨a1.symm,a2.symm,h3.symm⟩
   ·exact .inl (.inl ⟨e,by omega,h2,h3,h4⟩)
theorem qQX {σ τ:Type} {dec:Int × τ→(Int × τ) ⊕ (Nat × σ)} {nx:Nat→τ→τ} {Q:Nat→τ→Prop} {out:τ→σ} {c:Nat} (h1:∀ i s,i < c→Q i s→dec ((i:Int),s)=.inl (((i + 1:Nat):Int),nx i s)) (hq:∀ i s,i < c→Q i s→Q (i + 1) (nx i s)) (h2:∀ s,Q c s→dec ((c:Int),s)=.inr (0,out s)) :
  ∀ (d i N:Nat) (s:τ),i + d=c→d < N→Q i s→qX dec N ((i:Int),s)=some (0,out (zQL nx d i s))
 | _,_,0,_,_,h,_=>by omega
 | 0,i,N + 1,s,hi,hN,hs=>by
  obtain rfl:i=c:=by omega
  rw [qX,h2 s hs]; rfl
 | d + 1,i,N + 1,s,hi,hN,hs=>by
  rw [qX,h1 i s (by omega) hs];exact qQX h1 hq h2 d (i + 1) N (nx i s) (by omega) (by omega) (hq i s (by omega) hs)
theorem zQI (g:Gr) (m:Int):(∀ x,(lkO g m).1 x≤2 * g.ne)∧∀ x y c,HasL (lkO g m) x y c ↔ Jn g m g.ne x y c :=
 qZY (Q:=fun (i:Nat) (s:Lk)=>(∀ x,s.1 x≤2 * i)∧∀ x y c,HasL s x y c ↔ Jn g m i x y c) (c:=g.ne) (nx:=nxL g m) (fun i s _ h=>yZI h) g.ne 0 _ (by omega)
  ⟨fun _=>Nat.le_refl _,fun x y c=>⟨fun ⟨w,h,_⟩=>absurd h (Nat.not_lt_zero w),fun ⟨e,h,_⟩=>absurd h (Nat.not_lt_zero e)⟩⟩
theorem uG {g:Gr} (h:wfB g=true) {i:Nat} (_:i < g.ne):0≤(g.ed i).u∧(g.ed i).u < (g.ed i).v∧(g.ed i).v < (g.np:Int)∧0≤(g.ed i).c∧(g.ed i).c≤1099511627776:=by
 unfold wfB at h;simp only [vQJ] at h
 have:=allN_iff.1 h.2.2 i (by omega) (by omega)
 unfold okE isP at this;simp only [vQJ,Bool.not_eq_true',decide_eq_true_eq,decide_eq_false_iff_not] at this;omega
theorem yJI {g:Gr} {m:Int} (h:wfB g=true) {i:Nat} (hi:i < g.ne) (_:g.ne≤8192) {s:Lk} (hs:∀ x,s.1 x≤2 * i):dclk g m ((i:Int),s)=.inl (((i + 1:Nat):Int),nxL g m i s):=by
 obtain ⟨e1,e2,e3,e4,e5⟩:=uG h hi;obtain ⟨ln,lt,lc⟩:=s;have hU:inB (g.ed i).u g.np=true:=qYL (y:=(g.ed i).u.toNat) (by omega) (by omega);have hV:inB (g.ed i).v g.np=true:=qYL (y:=(g.ed i).v.toNat) (by omega) (by omega);have b1:=hs (g.ed i).u.toNat;have b2:=hs (g.ed i).v.toNat;dsimp only at b1 b2;have hb:decide ((bif (Nat.beq (g.ed i).v.toNat (g.ed i).u.toNat) then ((ln (g.ed i).u.toNat) + 1) else (ln (g.ed i).v.toNat)) + 1≤1000000)=true:=by
  cases Nat.beq (g.ed i).v.toNat (g.ed i).u.toNat <;> simp <;> omega
 dsimp only [dclk];unfold nxL;simp only [toN,vYJ (show (i:Int) < (g.ne:Int) by omega),zV hi,uX (C:=cus) (t:=_) trivial,qQB (show i < 1000000 by omega),hU,hV,hb,vYJ (show ln (g.ed i).u.toNat + 1≤1000000 by omega),Nat.beq_refl,vYQ];cases usB (g.ed i).s m <;> rfl
theorem yVZ {g:Gr} {m:Int} {s:Lk}:dclk g m ((g.ne:Int),s)=.inr (0,(g.ne:Int),s):=by
 obtain ⟨ln,lt,lc⟩:=s;dsimp only [dclk];rw [vYY (by omega)]; rfl
theorem jVV {g:Gr} {m:Int} (h:wfB g=true) (hn:g.ne≤8192):qX (dclk g m) (g.ne + 1) (0,(fun _=>0),(fun _ _=>0),(fun _ _=>0))=some (0,(g.ne:Int),lkO g m) :=
 qQX (dec:=dclk g m) (nx:=nxL g m) (Q:=fun (i:Nat) (s:Lk)=>(∀ x,s.1 x≤2 * i)∧∀ x y c,HasL s x y c ↔ Jn g m i x y c) (out:=fun s=>((g.ne:Int),s)) (c:=g.ne) (fun i s hi hq=>yJI h hi hn hq.1) (fun i s _ hq=>yZI hq) (fun s _=>yVZ) g.ne 0 (g.ne + 1) _ (by omega) (by omega)
  ⟨fun _=>Nat.le_refl _,fun x y c=>⟨fun ⟨w,h,_⟩=>absurd h (Nat.not_lt_zero w),fun ⟨e,h,_⟩=>absurd h (Nat.not_lt_zero e)⟩⟩
theorem qKE {g:Gr} {m:Int} (h:wfB g=true) (hp:g.np≤100) (_:g.ne≤500):LOk g.np (lkO g m).1 (lkO g m).2.1 (lkO g m).2.2∧LSym g.np (lkO g m).1 (lkO g m).2.1 (lkO g m).2.2:=by
 obtain ⟨k1,k2⟩:=zQI g m;have key:∀ u w,w < (lkO g m).1 u→Jn g m g.ne u ((lkO g m).2.1 u w) ((lkO g m).2.2 u w):=fun u w hw=>(k2 u _ _).1 ⟨w,hw,rfl,rfl⟩
 refine ⟨⟨hp,fun u _=>by have:=k1 u; omega,fun u w _ hw => ?_,fun u w _ hw => ?_⟩,fun u w y hu hw hy => ?_⟩
 ·obtain ⟨e,he,_,_,h4⟩:=key u w hw
  have:=uG h he
  rcases h4 with h4 | h4 <;> omega
 ·obtain ⟨e,he,_,h3,_⟩:=key u w hw
  have:=uG h he
  omega
 ·obtain ⟨e,he,h2,h3,h4⟩:=key u w hw
  have:=uG h he
  rw [hy] at h4;obtain ⟨w',g1,g2,g3⟩:=(k2 y (u:Int) ((lkO g m).2.2 u w)).2 ⟨e,he,h2,h3,by
   rcases h4 with h4 | h4
   ·exact .inr ⟨by omega,by omega⟩
   ·exact .inl ⟨by omega,by omega⟩⟩
  exact ⟨w',g1,g2,g3⟩
noncomputable def lslk (N:Nat) (g:Gr) (m:Int):List (List Nat × yK):=[([0,1,0,1,1],sumF (fun t:(Int × (Nat→Nat) × (Nat→Nat→Int) × (Nat→Nat→Int))=>(hlk N g m t.1 t.2.1 t.2.2.1 t.2.2.2)) (fun σ=>(slI σ 15,nsN σ 11,nsI σ 11 0,nsI σ 11 1)) (fun t K=>(bif zHZ N g m t then kxlk N g m K (zQU N g m t) else none)))]
set_option maxRecDepth 100000 in
theorem pxlk (N:Nat) (g:Gr) (m:Int):qZV Tf (orlk N g m) (qY (lslk N g m)) N 56 [.a (gP g),.n .i64 m] =
 (bif (decide (0≤(g.np:Int))) then (bif (decide ((g.np:Int)≤(g.np:Int))) then (bif (decide ((g.np:Int)≤1000000)) then (bif (gSt (hlk N g m 0 (fun _=>0) (fun u w=>0) (fun u w=>0)) (hlk N g m 0 (fun _=>0) (fun u w=>0) (fun u w=>0))) then (bif (zHZ N g m (0,(fun _=>0),(fun u w=>0),(fun u w=>0))) then (bif (Nat.beq (zQU N g m (0,(fun _=>0),(fun u w=>0),(fun u w=>0))).1 0) then some (.ow 102 1 (.fo (g.np:Int).toNat (fun u=>[.lf ((zQU N g m (0,(fun _=>0),(fun u w=>0),(fun u w=>0))).2.2.1 u) (fun w=>[.n .i64 ((zQU N g m (0,(fun _=>0),(fun u w=>0),(fun u w=>0))).2.2.2.1 u w),.n .i64 ((zQU N g m (0,(fun _=>0),(fun u w=>0),(fun u w=>0))).2.2.2.2 u w)])])),[])
 else none)
 else none)
 else none)
 else none)
 else none)
 else none):=by kernel_rfl
theorem jYC (N:Nat) (g:Gr) (m:Int) (hN:N=g.ne + 1) (h:wfB g=true) (hp:g.np≤1000000) (hn:g.ne≤8192):zH Try.prog 56 [.a (gP g),.n .i64 m] (.ow 102 1 (.fo g.np (fun u=>[.lf ((lkO g m).1 u) (tcP ((lkO g m).2.1 u) ((lkO g m).2.2 u))]))):=by
 refine zJ (N:=N) (LO:=qY (lslk N g m)) kJ jJ (kX (l:=[(69,o_us)]) (m:=[]) ⟨jWV,trivial⟩ trivial) (fun p S hp => ?_) ?_
 ·refine qV (L:=qZ Tf 56) (l:=(lslk N g m)) (show AllP _ (lslk N g m) from ⟨?_,trivial⟩) p S hp
  ·dsimp only;refine yV (T:=Tf) (o:=(orlk N g m)) (f:=56) (LO:=qY []) (p:=[0,1,0,1,1]) kZ ?_;intro t K r hr;obtain ⟨hg,hr⟩:=qQ hr
   skip
   exact (lwlk K N g m t hg).trans hr
 ·refine (pxlk N g m).trans ?_;subst hN;have hi:=jVV (m:=m) h hn;have ho:zQU (g.ne + 1) g m (0,(fun _=>0),(fun u w=>0),(fun u w=>0))=(0,(g.ne:Int),lkO g m):=by unfold zQU; rw [hi]; rfl
  have hk:zHZ (g.ne + 1) g m (0,(fun _=>0),(fun u w=>0),(fun u w=>0))=true:=by unfold zHZ; rw [hi]; rfl
  simp only [vYJ (show (0:Int)≤(g.np:Int) by omega),vYJ (show (g.np:Int)≤(g.np:Int) by omega),vYJ (show (g.np:Int)≤1000000 by omega),yY,hk,ho,toN,vYQ,Nat.beq_refl];rfl
end Go.Proofs.Ytglkkhpdbfacfaa.Bn
namespace Go.Proofs.Ytglkkhpdbfacfaa.Bo
open Go.Rx Rt Go.Sx Go.RowKit Ba Bb Bc Bd Be Bf Bh Bg Bi Bj Bk Bl Bm Bn
def clk:Gr × Int→Prop:=fun t=>match t with | (g,_)=>wfB g=true∧g.np≤1000000∧g.ne≤8192
def elk:Gr × Int→List PV:=fun t=>match t with | (g,m)=>[.a (gP g),.n .i64 m]
noncomputable def rlk:Gr × Int→Ret:=fun t=>match t with | (g,m)=>.ow 102 1 (.fo g.np (fun u=>[.lf ((lkO g m).1 u) (tcP ((lkO g m).2.1 u) ((lkO g m).2.2 u))]))
def dlk:List PV→Gr × Int:=fun ps=>match ps with
 | [.a [.lf np pt,.lf ne ed],.n _ b]=>(⟨np,pt,ne,unFE ed⟩,b)
 | _=>(⟨0,fun _=>[],0,fun _=>unE []⟩,0)
noncomputable def o_lk:List PV→Option (Bool × Ret):=o_fm dlk clk elk rlk
theorem jKQ:qZC Try.prog 56 o_lk:=qJJ fun t h=>by
 obtain ⟨g,m⟩:=t;exact jYC (g.ne + 1) g m rfl h.1 h.2.1 h.2.2
def ladP (ln:Nat→Nat) (lt lc:Nat→Nat→Int):Nat→List PV:=fun u=>[.lf (ln u) (tcP (lt u) (lc u))]
def unLn (f:Nat→List PV):Nat→Nat:=fun u=>match f u with
 | [.lf n _]=>n
 | _=>0
def unLc (k:Nat) (f:Nat→List PV):Nat→Nat→Int:=fun u w=>match f u with
 | [.lf _ h]=>unq k h w
 | _=>0
def csh:Nat × (Nat→Nat) × (Nat→Nat→Int) × (Nat→Nat→Int) × Int × Int→Prop:=fun t=>match t with | (np,ln,lt,lc,a,b)=>LOk np ln lt lc∧LSym np ln lt lc∧(0≤a∧a < (np:Int))∧0≤b∧b < (np:Int)
def esh:Nat × (Nat→Nat) × (Nat→Nat→Int) × (Nat→Nat→Int) × Int × Int→List PV:=fun t=>match t with | (np,ln,lt,lc,a,b)=>[.lf np (ladP ln lt lc),.n .i64 a,.n .i64 b]
noncomputable def rsh:Nat × (Nat→Nat) × (Nat→Nat→Int) × (Nat→Nat→Int) × Int × Int→Ret:=fun t=>match t with | (np,ln,lt,lc,a,b)=>.v (.t [.a [.lf (shN np ln lt lc a b) (fQ (shV np ln lt lc a b)),.n .i64 (shC np ln lt lc a b)],.b (shF np ln lt lc a b)])
def dsh:List PV→Nat × (Nat→Nat) × (Nat→Nat→Int) × (Nat→Nat→Int) × Int × Int:=fun ps=>match ps with
 | [.lf n f,.n _ a,.n _ b]=>(n,unLn f,unLc 0 f,unLc 1 f,a,b)
 | _=>(0,fun _=>0,fun _ _=>0,fun _ _=>0,0,0)
noncomputable def o_sh:List PV→Option (Bool × Ret):=o_fm dsh csh esh rsh
theorem jWG:qZC Try.prog 55 o_sh:=qJJ fun t h=>by
 obtain ⟨np,ln,lt,lc,a,b⟩:=t;exact by
  have h:LOk np ln lt lc∧LSym np ln lt lc∧(0≤a∧a < (np:Int))∧0≤b∧b < (np:Int):=h;exact jYV np ln lt lc a b a.toNat b.toNat (by omega) (by omega) h.1 h.2.1 (by omega) (by omega)
def stQ (g:Gr) (a b m:Int):Bool:=wfB g && (isP g a && (isP g b && (!decide (m < 0) && !decide (2 < m))))
noncomputable def stF (g:Gr) (a b m:Int):Bool:=bif stQ g a b m then shF g.np (lkO g m).1 (lkO g m).2.1 (lkO g m).2.2 a b else false
noncomputable def stC (g:Gr) (a b m:Int):Int:=bif stQ g a b m then shC g.np (lkO g m).1 (lkO g m).2.1 (lkO g m).2.2 a b else 0
noncomputable def stN (g:Gr) (a b m:Int):Nat:=bif stQ g a b m then shN g.np (lkO g m).1 (lkO g m).2.1 (lkO g m).2.2 a b else 0
noncomputable def stV (g:Gr) (a b m:Int):Nat→Int:=shV g.np (lkO g m).1 (lkO g m).2.1 (lkO g m).2.2 a b
theorem qGQ {g:Gr} {v:Int} (h:isP g v=true):0≤v∧v < (g.np:Int):=by
 unfold isP at h
 simpa using h
noncomputable def jWU (g:Gr) (a b m:Int):OrS:=orS [(53,o_wf),(54,o_ip),(56,o_lk),(55,o_sh)] []
noncomputable def yXE (g:Gr) (a b m:Int):List (List Nat × yK):=[]
set_option maxRecDepth 100000 in
theorem jXD (g:Gr) (a b m:Int):qZV Tf (jWU g a b m) (qY (yXE g a b m)) 60 37 [.a (gP g),.n .i64 a,.n .i64 b,.n .i64 m] =
 (bif (gF1 cwf ewf g) then (bif (wfB g) then (bif (gF1 cip eip (g,a)) then (bif (isP g a) then (bif (gF1 cip eip (g,b)) then (bif (isP g b) then (bif (decide (m < 0)) then some (.v (.t [.a [.l [],.n .i64 0],.b false]),[])
 else (bif (decide (2 < m)) then some (.v (.t [.a [.l [],.n .i64 0],.b false]),[])
 else (bif (gF1 clk elk (g,m)) then (bif (gF1 csh esh (g.np,((lkO g m).1),((lkO g m).2.1),((lkO g m).2.2),a,b)) then (bif (shF g.np ((lkO g m).1) ((lkO g m).2.1) ((lkO g m).2.2) a b) then some (.v (.t [.a [.lf (shN g.np ((lkO g m).1) ((lkO g m).2.1) ((lkO g m).2.2) a b) (fun v=>[.n .i64 ((shV g.np ((lkO g m).1) ((lkO g m).2.1) ((lkO g m).2.2) a b) v)]),.n .i64 (shC g.np ((lkO g m).1) ((lkO g m).2.1) ((lkO g m).2.2) a b)],.b true]),[])
 else some (.v (.t [.a [.lf (shN g.np ((lkO g m).1) ((lkO g m).2.1) ((lkO g m).2.2) a b) (fun v=>[.n .i64 ((shV g.np ((lkO g m).1) ((lkO g m).2.1) ((lkO g m).2.2) a b) v)]),.n .i64 (shC g.np ((lkO g m).1) ((lkO g m).2.1) ((lkO g m).2.2) a b)],.b false]),[]))
 else none)
 else none)))
 else some (.v (.t [.a [.l [],.n .i64 0],.b false]),[]))
 else none)
 else some (.v (.t [.a [.l [],.n .i64 0],.b false]),[]))
 else none)
 else some (.v (.t [.a [.l [],.n .i64 0],.b false]),[]))
 else none):=by kernel_rfl
theorem yGE (g:Gr) (a b m:Int) (hp:g.np≤100) (hn:g.ne≤500):zH Try.prog 37 [.a (gP g),.n .i64 a,.n .i64 b,.n .i64 m] (bif stQ g a b m then .v (.t [.a [.lf (shN g.np (lkO g m).1 (lkO g m).2.1 (lkO g m).2.2 a b) (fQ (shV g.np (lkO g m).1 (lkO g m).2.1 (lkO g m).2.2 a b)),.n .i64 (shC g.np (lkO g m).1 (lkO g m).2.1 (lkO g m).2.2 a b)],.b (shF g.np (lkO g m).1 (lkO g m).2.1 (lkO g m).2.2 a b)]) else .v (.t [.a [.l [],.n .i64 0],.b false])):=by
 refine zJ (N:=60) (LO:=qY (yXE g a b m)) kJ jJ (kX (l:=[(53,o_wf),(54,o_ip),(56,o_lk),(55,o_sh)]) (m:=[]) ⟨jWW,jKY,jKQ,jWG,trivial⟩ trivial) (fun p S hp => ?_) ?_
 ·refine qV (L:=qZ Tf 37) (l:=(yXE g a b m)) (show AllP _ (yXE g a b m) from trivial) p S hp
 ·refine (jXD g a b m).trans ?_;unfold stQ;simp only [uX (C:=cwf) (t:=g) trivial,uX (C:=cip) (t:=(g,a)) trivial,uX (C:=cip) (t:=(g,b)) trivial,vYQ];cases hw:wfB g with
  | false=>rfl
  | true =>
   cases ha:isP g a with
   | false=>rfl
   | true =>
    cases hb:isP g b with
    | false=>rfl
    | true =>
     cases decide (m < 0) with
     | true=>rfl
     | false =>
      cases decide (2 < m) with
      | true=>rfl
      | false =>
       have hl:=qKE (m:=m) hw hp hn;rw [uX (C:=clk) (t:=(g,m)) ⟨hw,by omega,by omega⟩,uX (C:=csh) (t:=(g.np,(lkO g m).1,(lkO g m).2.1,(lkO g m).2.2,a,b)) ⟨hl.1,hl.2,qGQ ha,qGQ hb⟩];cases hf:shF g.np (lkO g m).1 (lkO g m).2.1 (lkO g m).2.2 a b <;> simp only [hf,vYQ,vYZ] <;> rfl
theorem jYW (g:Gr) (a b m:Int) (hp:g.np≤100) (hn:g.ne≤500):zH Try.prog 37 [.a (gP g),.n .i64 a,.n .i64 b,.n .i64 m] (.v (.t [.a [.lf (stN g a b m) (fQ (stV g a b m)),.n .i64 (stC g a b m)],.b (stF g a b m)])):=by
 have h:=yGE g a b m hp hn;unfold stN stC stV stF;cases hf:stQ g a b m with
 | true=>rw [hf] at h; exact h
 | false=>rw [hf] at h; exact qYC (Same.t (xs:=[_,_]) (ys:=[_,_]) ⟨Same.a (xs:=[_,_]) (ys:=[_,_]) ⟨Same.lf rfl,Same.refl _,trivial⟩,Same.refl _,trivial⟩) h
def cst:Gr × Int × Int × Int→Prop:=fun t=>match t with | (g,_,_,_)=>g.np≤100∧g.ne≤500
def est:Gr × Int × Int × Int→List PV:=fun t=>match t with | (g,a,b,m)=>[.a (gP g),.n .i64 a,.n .i64 b,.n .i64 m]
noncomputable def rst:Gr × Int × Int × Int→Ret:=fun t=>match t with | (g,a,b,m)=>.v (.t [.a [.lf (stN g a b m) (fQ (stV g a b m)),.n .i64 (stC g a b m)],.b (stF g a b m)])
def dst:List PV→Gr × Int × Int × Int:=fun ps=>match ps with
 | [.a [.lf np pt,.lf ne ed],.n _ a,.n _ b,.n _ m]=>(⟨np,pt,ne,unFE ed⟩,a,b,m)
 | _=>(⟨0,fun _=>[],0,fun _=>unE []⟩,0,0,0)
noncomputable def o_st:List PV→Option (Bool × Ret):=o_fm dst cst est rst
theorem jJA:qZC Try.prog 37 o_st:=qJJ fun t h=>by
 obtain ⟨g,a,b,m⟩:=t;exact jYW g a b m h.1 h.2
end Go.Proofs.Ytglkkhpdbfacfaa.Bo
namespace Go.Proofs.Ytglkkhpdbfacfaa.Bp
open Go.Rx Rt Go.Sx Go.RowKit Ba Bb Bo
def zN:Nat→Int:=fun _=>0
noncomputable def hl2 (N:Nat) (g:Gr) (b m:Int) (i:Int) (ag:Bool) (oc:Nat→Int) (oe:Nat→Int):St:=⟨[(2,.v (.n .i64 m)),(3,.p 3 0),(7,.o 18),(9,.v (.b (ag))),(10,.v (.n .i64 i))],[(3,.blk [.v (.lf g.np g.pt),.v (.lf g.ne (fE g.ed))]),(18,.reg 76 2 (.fo (g.np:Int).toNat (fun v=>[.n .i64 (oc v),.n .i64 (oe v)])))]⟩
noncomputable def hl1 (N:Nat) (g:Gr) (b m:Int) (ag:Bool) (oc:Nat→Int) (oe:Nat→Int):St:=⟨[(2,.v (.n .i64 m)),(3,.p 3 0),(7,.o 18),(9,.v (.b (ag)))],[(3,.blk [.v (.lf g.np g.pt),.v (.lf g.ne (fE g.ed))]),(18,.reg 76 2 (.fo (g.np:Int).toNat (fun v=>[.n .i64 (oc v),.n .i64 (oe v)])))]⟩
end Go.Proofs.Ytglkkhpdbfacfaa.Bp

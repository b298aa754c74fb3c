/- Part 14 of the texts behind the last one: rules and contracts. No condition. -/
import Derived.Test.YtglkkhpdbfacfaaBE13
open Bool renaming and_eq_true → vQJ, true_and → vZW
open List renaming getElem?_take → vZU, getD_eq_getElem?_getD → vZX
open Go.IntKind renaming wrap → vYX
namespace Go.Proofs.Ytglkkhpdbfacfaa.Cr
open Go.Rx Rt Go.Sx Go.RowKit Ba Bb Bc Bd Be Bf Bg Bi Bj Bk Bl Bh Bm Bn Bo Bp Bq Br Bs Bt Bu Bv Bw Bx By Bz
noncomputable def orh1 (N:Nat) (g:Gr) (a b m:Int):OrS:=orS [(32,o_as),(33,o_lb),(48,o_ru)] []
noncomputable def hh2 (N:Nat) (g:Gr) (a b m:Int) (i:Int) (x:Int) (y:Int) (rn:Nat) (f:Nat→Int):St:=⟨[(2,.v (.n .i64 b)),(3,.v (.n .i64 m)),(4,.p 4 0),(8,.p 8 0),(10,.v (.lf g.np (fun v=>[.n .i64 ((lbT g b m).2.1 v),.n .i64 ((lbT g b m).2.2 v)]))),(11,.p 11 0),(12,.v (.n .i64 x)),(13,.v (.n .i64 y)),(14,.v (.n .i64 i))],[(4,.blk [.v (.lf g.np g.pt),.v (.lf g.ne (fE g.ed))]),(8,.blk [.nl,.v (.n .i64 0)]),(11,.blk [.o 43,.v (.n .i64 ((lbT g b m).2.1 (a).toNat))]),(43,.reg 3 1 (.fo rn (fun v=>[.n .i64 (f v)])))]⟩
set_option maxRecDepth 100000 in
theorem rdh2 (G:St→Option (Ret × Mem)) (K:Cont) (N:Nat) (g:Gr) (a b m:Int) (i:Int) (x:Int) (y:Int) (rn:Nat) (f:Nat→Int):zH (N + 10) (cxS Tf (orh1 N g a b m) (N + 10) 26 (ntmF Tf 26)) (evX Tf (orh1 N g a b m) (N + 10) 26 (ntmF Tf 26)) (qY []) (qQ Tf 26 [0,1,0,1,0,1,0,0,1,0,1,1,1,1,1]) [0,1,0,1,0,1,0,0,1,0,1,1,1,1,1] (Tf.hint 26 (qJ (qQ Tf 26 [0,1,0,1,0,1,0,0,1,0,1,1,1,1,1]))) K G (hh2 N g a b m i x y rn f) =
 (bif (decide (i < (g.ne:Int))) then (bif (inB i g.ne) then (bif (gF1 cru eru ((g.ed (i).toNat),m)) then (bif (usB (g.ed (i).toNat).s m) then (bif (!decide ((g.ed (i).toNat).u=x)) then (bif (!decide ((g.ed (i).toNat).v=x)) then (G (hh2 N g a b m (vYX .i64 (i + 1)) x y rn (fun v=>(f v))))
 else (bif (inB (vYX .i64 ((vYX .i64 ((g.ed (i).toNat).u + (g.ed (i).toNat).v)) - x)) g.np) then (bif (decide (0≤((lbT g b m).2.1 ((vYX .i64 ((vYX .i64 ((g.ed (i).toNat).u + (g.ed (i).toNat).v)) - x))).toNat))) then (bif (inB (vYX .i64 ((vYX .i64 ((g.ed (i).toNat).u + (g.ed (i).toNat).v)) - x)) g.np) then (bif (inB x g.np) then (bif (decide ((vYX .i64 (((lbT g b m).2.1 ((vYX .i64 ((vYX .i64 ((g.ed (i).toNat).u + (g.ed (i).toNat).v)) - x))).toNat) + (g.ed (i).toNat).c))=((lbT g b m).2.1 (x).toNat))) then (bif (inB (vYX .i64 ((vYX .i64 ((g.ed (i).toNat).u + (g.ed (i).toNat).v)) - x)) g.np) then (bif (inB x g.np) then (bif (decide ((vYX .i64 (((lbT g b m).2.2 ((vYX .i64 ((vYX .i64 ((g.ed (i).toNat).u + (g.ed (i).toNat).v)) - x))).toNat) + 1))=((lbT g b m).2.2 (x).toNat))) then (bif (decide (y < 0)) then (G (hh2 N g a b m (vYX .i64 (i + 1)) x (vYX .i64 ((vYX .i64 ((g.ed (i).toNat).u + (g.ed (i).toNat).v)) - x)) rn (fun v=>(f v))))
 else (bif (decide ((vYX .i64 ((vYX .i64 ((g.ed (i).toNat).u + (g.ed (i).toNat).v)) - x)) < y)) then (G (hh2 N g a b m (vYX .i64 (i + 1)) x (vYX .i64 ((vYX .i64 ((g.ed (i).toNat).u + (g.ed (i).toNat).v)) - x)) rn (fun v=>(f v))))
 else (G (hh2 N g a b m (vYX .i64 (i + 1)) x y rn (fun v=>(f v))))))
 else (G (hh2 N g a b m (vYX .i64 (i + 1)) x y rn (fun v=>(f v)))))
 else none)
 else none)
 else (G (hh2 N g a b m (vYX .i64 (i + 1)) x y rn (fun v=>(f v)))))
 else none)
 else none)
 else (G (hh2 N g a b m (vYX .i64 (i + 1)) x y rn (fun v=>(f v)))))
 else none))
 else (bif (inB (vYX .i64 ((vYX .i64 ((g.ed (i).toNat).u + (g.ed (i).toNat).v)) - x)) g.np) then (bif (decide (0≤((lbT g b m).2.1 ((vYX .i64 ((vYX .i64 ((g.ed (i).toNat).u + (g.ed (i).toNat).v)) - x))).toNat))) then (bif (inB (vYX .i64 ((vYX .i64 ((g.ed (i).toNat).u + (g.ed (i).toNat).v)) - x)) g.np) then (bif (inB x g.np) then (bif (decide ((vYX .i64 (((lbT g b m).2.1 ((vYX .i64 ((vYX .i64 ((g.ed (i).toNat).u + (g.ed (i).toNat).v)) - x))).toNat) + (g.ed (i).toNat).c))=((lbT g b m).2.1 (x).toNat))) then (bif (inB (vYX .i64 ((vYX .i64 ((g.ed (i).toNat).u + (g.ed (i).toNat).v)) - x)) g.np) then (bif (inB x g.np) then (bif (decide ((vYX .i64 (((lbT g b m).2.2 ((vYX .i64 ((vYX .i64 ((g.ed (i).toNat).u + (g.ed (i).toNat).v)) - x))).toNat) + 1))=((lbT g b m).2.2 (x).toNat))) then (bif (decide (y < 0)) then (G (hh2 N g a b m (vYX .i64 (i + 1)) x (vYX .i64 ((vYX .i64 ((g.ed (i).toNat).u + (g.ed (i).toNat).v)) - x)) rn (fun v=>(f v))))
 else (bif (decide ((vYX .i64 ((vYX .i64 ((g.ed (i).toNat).u + (g.ed (i).toNat).v)) - x)) < y)) then (G (hh2 N g a b m (vYX .i64 (i + 1)) x (vYX .i64 ((vYX .i64 ((g.ed (i).toNat).u + (g.ed (i).toNat).v)) - x)) rn (fun v=>(f v))))
 else (G (hh2 N g a b m (vYX .i64 (i + 1)) x y rn (fun v=>(f v))))))
 else (G (hh2 N g a b m (vYX .i64 (i + 1)) x y rn (fun v=>(f v)))))
 else none)
 else none)
 else (G (hh2 N g a b m (vYX .i64 (i + 1)) x y rn (fun v=>(f v)))))
 else none)
 else none)
 else (G (hh2 N g a b m (vYX .i64 (i + 1)) x y rn (fun v=>(f v)))))
 else none))
 else (G (hh2 N g a b m (vYX .i64 (i + 1)) x y rn (fun v=>(f v)))))
 else none)
 else none)
 else (K (.exit 2) ⟨[(2,.v (.n .i64 b)),(3,.v (.n .i64 m)),(4,.p 4 0),(8,.p 8 0),(10,.v (.lf g.np (fun v=>[.n .i64 ((lbT g b m).2.1 v),.n .i64 ((lbT g b m).2.2 v)]))),(11,.p 11 0),(13,.v (.n .i64 y))],[(4,.blk [.v (.lf g.np g.pt),.v (.lf g.ne (fE g.ed))]),(8,.blk [.nl,.v (.n .i64 0)]),(11,.blk [.o 43,.v (.n .i64 ((lbT g b m).2.1 (a).toNat))]),(43,.reg 3 1 (.fo rn (fun v=>[.n .i64 (f v)])))]⟩)):=by kernel_rfl
noncomputable def dch2 (g:Gr) (b m:Int):(Int × Int × Int × Nat × (Nat→Int))→(Int × Int × Int × Nat × (Nat→Int)) ⊕ (Nat × Int × Int × Int × Nat × (Nat→Int)):=fun t=>match t with | (i,x,y,rn,f)=>(bif (decide (i < (g.ne:Int))) then (bif (inB i g.ne) then (bif (gF1 cru eru ((g.ed (i).toNat),m)) then (bif (usB (g.ed (i).toNat).s m) then (bif (!decide ((g.ed (i).toNat).u=x)) then (bif (!decide ((g.ed (i).toNat).v=x)) then (.inl ((vYX .i64 (i + 1)),x,y,rn,(fun v=>(f v)))) else (bif (inB (vYX .i64 ((vYX .i64 ((g.ed (i).toNat).u + (g.ed (i).toNat).v)) - x)) g.np) then (bif (decide (0≤((lbT g b m).2.1 ((vYX .i64 ((vYX .i64 ((g.ed (i).toNat).u + (g.ed (i).toNat).v)) - x))).toNat))) then (bif (inB x g.np) then (bif (decide ((vYX .i64 (((lbT g b m).2.1 ((vYX .i64 ((vYX .i64 ((g.ed (i).toNat).u + (g.ed (i).toNat).v)) - x))).toNat) + (g.ed (i).toNat).c))=((lbT g b m).2.1 (x).toNat))) then (bif (decide ((vYX .i64 (((lbT g b m).2.2 ((vYX .i64 ((vYX .i64 ((g.ed (i).toNat).u + (g.ed (i).toNat).v)) - x))).toNat) + 1))=((lbT g b m).2.2 (x).toNat))) then (bif (decide (y < 0)) then (.inl ((vYX .i64 (i + 1)),x,(vYX .i64 ((vYX .i64 ((g.ed (i).toNat).u + (g.ed (i).toNat).v)) - x)),rn,(fun v=>(f v)))) else (bif (decide ((vYX .i64 ((vYX .i64 ((g.ed (i).toNat).u + (g.ed (i).toNat).v)) - x)) < y)) then (.inl ((vYX .i64 (i + 1)),x,(vYX .i64 ((vYX .i64 ((g.ed (i).toNat).u + (g.ed (i).toNat).v)) - x)),rn,(fun v=>(f v)))) else (.inl ((vYX .i64 (i + 1)),x,y,rn,(fun v=>(f v)))))) else (.inl ((vYX .i64 (i + 1)),x,y,rn,(fun v=>(f v))))) else (.inl ((vYX .i64 (i + 1)),x,y,rn,(fun v=>(f v))))) else (.inr (1,(i,x,y,rn,f)))) else (.inl ((vYX .i64 (i + 1)),x,y,rn,(fun v=>(f v))))) else (.inr (1,(i,x,y,rn,f))))) else (bif (inB (vYX .i64 ((vYX .i64 ((g.ed (i).toNat).u + (g.ed (i).toNat).v)) - x)) g.np) then (bif (decide (0≤((lbT g b m).2.1 ((vYX .i64 ((vYX .i64 ((g.ed (i).toNat).u + (g.ed (i).toNat).v)) - x))).toNat))) then (bif (inB x g.np) then (bif (decide ((vYX .i64 (((lbT g b m).2.1 ((vYX .i64 ((vYX .i64 ((g.ed (i).toNat).u + (g.ed (i).toNat).v)) - x))).toNat) + (g.ed (i).toNat).c))=((lbT g b m).2.1 (x).toNat))) then (bif (decide ((vYX .i64 (((lbT g b m).2.2 ((vYX .i64 ((vYX .i64 ((g.ed (i).toNat).u + (g.ed (i).toNat).v)) - x))).toNat) + 1))=((lbT g b m).2.2 (x).toNat))) then (bif (decide (y < 0)) then (.inl ((vYX .i64 (i + 1)),x,(vYX .i64 ((vYX .i64 ((g.ed (i).toNat).u + (g.ed (i).toNat).v)) - x)),rn,(fun v=>(f v)))) else (bif (decide ((vYX .i64 ((vYX .i64 ((g.ed (i).toNat).u + (g.ed (i).toNat).v)) - x)) < y)) then (.inl ((vYX .i64 (i + 1)),x,(vYX .i64 ((vYX .i64 ((g.ed (i).toNat).u + (g.ed (i).toNat).v)) - x)),rn,(fun v=>(f v)))) else (.inl ((vYX .i64 (i + 1)),x,y,rn,(fun v=>(f v)))))) else (.inl ((vYX .i64 (i + 1)),x,y,rn,(fun v=>(f v))))) else (.inl ((vYX .i64 (i + 1)),x,y,rn,(fun v=>(f v))))) else (.inr (1,(i,x,y,rn,f)))) else (.inl ((vYX .i64 (i + 1)),x,y,rn,(fun v=>(f v))))) else (.inr (1,(i,x,y,rn,f))))) else (.inl ((vYX .i64 (i + 1)),x,y,rn,(fun v=>(f v))))) else (.inr (1,(i,x,y,rn,f)))) else (.inr (1,(i,x,y,rn,f)))) else (.inr (0,(i,x,y,rn,f))))
noncomputable def kxh2 (N:Nat) (g:Gr) (a b m:Int) (K:Cont) (w9:Nat × Int × Int × Int × Nat × (Nat→Int)):Option (Ret × Mem):=bif Nat.beq w9.1 0 then (K (.exit 2) ⟨[(2,.v (.n .i64 b)),(3,.v (.n .i64 m)),(4,.p 4 0),(8,.p 8 0),(10,.v (.lf g.np (fun v=>[.n .i64 ((lbT g b m).2.1 v),.n .i64 ((lbT g b m).2.2 v)]))),(11,.p 11 0),(13,.v (.n .i64 w9.2.2.2.1))],[(4,.blk [.v (.lf g.np g.pt),.v (.lf g.ne (fE g.ed))]),(8,.blk [.nl,.v (.n .i64 0)]),(11,.blk [.o 43,.v (.n .i64 ((lbT g b m).2.1 (a).toNat))]),(43,.reg 3 1 (.fo w9.2.2.2.2.1 (fun v=>[.n .i64 (w9.2.2.2.2.2 v)])))]⟩) else none
theorem wlh2 (K:Cont) (N:Nat) (g:Gr) (a b m:Int):∀ n9 (t:(Int × Int × Int × Nat × (Nat→Int))),LFX (N + 10) (cxS Tf (orh1 N g a b m) (N + 10) 26 (ntmF Tf 26)) (evX Tf (orh1 N g a b m) (N + 10) 26 (ntmF Tf 26)) (qY []) (qQ Tf 26 [0,1,0,1,0,1,0,0,1,0,1,1,1,1,1]) [0,1,0,1,0,1,0,0,1,0,1,1,1,1,1] (Tf.hint 26 (qJ (qQ Tf 26 [0,1,0,1,0,1,0,0,1,0,1,1,1,1,1]))) K n9 (hh2 N g a b m t.1 t.2.1 t.2.2.1 t.2.2.2.1 t.2.2.2.2)=(qU (dch2 g b m) n9 t).bind (kxh2 N g a b m K):=fun n9 t=>by
 refine kG (L:=LFX (N + 10) (cxS Tf (orh1 N g a b m) (N + 10) 26 (ntmF Tf 26)) (evX Tf (orh1 N g a b m) (N + 10) 26 (ntmF Tf 26)) (qY []) (qQ Tf 26 [0,1,0,1,0,1,0,0,1,0,1,1,1,1,1]) [0,1,0,1,0,1,0,0,1,0,1,1,1,1,1] (Tf.hint 26 (qJ (qQ Tf 26 [0,1,0,1,0,1,0,0,1,0,1,1,1,1,1]))) K) (stp:=zH (N + 10) (cxS Tf (orh1 N g a b m) (N + 10) 26 (ntmF Tf 26)) (evX Tf (orh1 N g a b m) (N + 10) 26 (ntmF Tf 26)) (qY []) (qQ Tf 26 [0,1,0,1,0,1,0,0,1,0,1,1,1,1,1]) [0,1,0,1,0,1,0,0,1,0,1,1,1,1,1] (Tf.hint 26 (qJ (qQ Tf 26 [0,1,0,1,0,1,0,0,1,0,1,1,1,1,1]))) K) (fun _ _=>rfl) (fun _=>rfl) (fun t=>hh2 N g a b m t.1 t.2.1 t.2.2.1 t.2.2.2.1 t.2.2.2.2) (fun _=>True) (dch2 g b m) (kxh2 N g a b m K) (fun G t _ => ?_) (fun _ _ _ _=>trivial) n9 t trivial;obtain ⟨i,x,y,rn,f⟩:=t;refine (rdh2 G K N g a b m i x y rn f).trans ?_;dsimp only [dch2];cases (decide (i < (g.ne:Int)))
 ·rfl
 ·cases (inB i g.ne)
  ·rfl
  ·cases (gF1 cru eru ((g.ed (i).toNat),m))
   ·rfl
   ·cases (usB (g.ed (i).toNat).s m)
    ·rfl
    ·cases (!decide ((g.ed (i).toNat).u=x))
     ·cases (inB (vYX .i64 ((vYX .i64 ((g.ed (i).toNat).u + (g.ed (i).toNat).v)) - x)) g.np)
      ·rfl
      ·cases (decide (0≤((lbT g b m).2.1 ((vYX .i64 ((vYX .i64 ((g.ed (i).toNat).u + (g.ed (i).toNat).v)) - x))).toNat)))
       ·rfl
       ·cases (inB x g.np)
        ·rfl
        ·cases (decide ((vYX .i64 (((lbT g b m).2.1 ((vYX .i64 ((vYX .i64 ((g.ed (i).toNat).u + (g.ed (i).toNat).v)) - x))).toNat) + (g.ed (i).toNat).c))=((lbT g b m).2.1 (x).toNat)))
         ·rfl
         ·cases (decide ((vYX .i64 (((lbT g b m).2.2 ((vYX .i64 ((vYX .i64 ((g.ed (i).toNat).u + (g.ed (i).toNat).v)) - x))).toNat) + 1))=((lbT g b m).2.2 (x).toNat)))
          ·rfl
          ·cases (decide (y < 0))
           ·cases (decide ((vYX .i64 ((vYX .i64 ((g.ed (i).toNat).u + (g.ed (i).toNat).v)) - x)) < y))
            ·rfl
            ·rfl
           ·rfl
     ·cases (!decide ((g.ed (i).toNat).v=x))
      ·cases (inB (vYX .i64 ((vYX .i64 ((g.ed (i).toNat).u + (g.ed (i).toNat).v)) - x)) g.np)
       ·rfl
       ·cases (decide (0≤((lbT g b m).2.1 ((vYX .i64 ((vYX .i64 ((g.ed (i).toNat).u + (g.ed (i).toNat).v)) - x))).toNat)))
        ·rfl
        ·cases (inB x g.np)
         ·rfl
         ·cases (decide ((vYX .i64 (((lbT g b m).2.1 ((vYX .i64 ((vYX .i64 ((g.ed (i).toNat).u + (g.ed (i).toNat).v)) - x))).toNat) + (g.ed (i).toNat).c))=((lbT g b m).2.1 (x).toNat)))
          ·rfl
          ·cases (decide ((vYX .i64 (((lbT g b m).2.2 ((vYX .i64 ((vYX .i64 ((g.ed (i).toNat).u + (g.ed (i).toNat).v)) - x))).toNat) + 1))=((lbT g b m).2.2 (x).toNat)))
           ·rfl
           ·cases (decide (y < 0))
            ·cases (decide ((vYX .i64 ((vYX .i64 ((g.ed (i).toNat).u + (g.ed (i).toNat).v)) - x)) < y))
             ·rfl
             ·rfl
            ·rfl
      ·rfl
noncomputable def qKQ (N:Nat) (g:Gr) (b m:Int) (t:(Int × Int × Int × Nat × (Nat→Int))):Bool:=(qU (dch2 g b m) (N + 10) t).isSome
noncomputable def qQV (N:Nat) (g:Gr) (b m:Int) (t:(Int × Int × Int × Nat × (Nat→Int))):Nat × Int × Int × Int × Nat × (Nat→Int):=(qU (dch2 g b m) (N + 10) t).getD (99,t)
theorem lwh2 (K:Cont) (N:Nat) (g:Gr) (a b m:Int) (t:(Int × Int × Int × Nat × (Nat→Int))) (hg:qKQ N g b m t=true):LFX (N + 10) (cxS Tf (orh1 N g a b m) (N + 10) 26 (ntmF Tf 26)) (evX Tf (orh1 N g a b m) (N + 10) 26 (ntmF Tf 26)) (qY []) (qQ Tf 26 [0,1,0,1,0,1,0,0,1,0,1,1,1,1,1]) [0,1,0,1,0,1,0,0,1,0,1,1,1,1,1] (Tf.hint 26 (qJ (qQ Tf 26 [0,1,0,1,0,1,0,0,1,0,1,1,1,1,1]))) K (N + 10) (hh2 N g a b m t.1 t.2.1 t.2.2.1 t.2.2.2.1 t.2.2.2.2)=kxh2 N g a b m K (qQV N g b m t):=by
 refine (wlh2 K N g a b m (N + 10) t).trans ?_;unfold qKQ at hg;unfold qQV;cases h:qU (dch2 g b m) (N + 10) t with
 | none=>rw [h] at hg; cases hg
 | some y=>rfl
theorem okh2 (N:Nat) (g:Gr) (a b m:Int):∀ p S,qY [([0,1,0,1,0,1,0,0,1,0,1,1,1,1,1],sumF (fun t:(Int × Int × Int × Nat × (Nat→Int))=>(hh2 N g a b m t.1 t.2.1 t.2.2.1 t.2.2.2.1 t.2.2.2.2)) (fun σ=>(slI σ 14,slI σ 12,slI σ 13,rgN σ 43,rgI σ 43 0)) (fun t K=>(bif qKQ N g b m t then kxh2 N g a b m K (qQV N g b m t) else none)))] p=some S→kQ (N + 10) (cxS Tf (orh1 N g a b m) (N + 10) 26 (ntmF Tf 26)) (qQ Tf 26 p) S:=fun p S hp=>by
 refine qW (L:=qQ Tf 26) (l:=[([0,1,0,1,0,1,0,0,1,0,1,1,1,1,1],sumF (fun t:(Int × Int × Int × Nat × (Nat→Int))=>(hh2 N g a b m t.1 t.2.1 t.2.2.1 t.2.2.2.1 t.2.2.2.2)) (fun σ=>(slI σ 14,slI σ 12,slI σ 13,rgN σ 43,rgI σ 43 0)) (fun t K=>(bif qKQ N g b m t then kxh2 N g a b m K (qQV N g b m t) else none)))]) ⟨?_,trivial⟩ p S hp;dsimp only;refine yZ (T:=Tf) (o:=(orh1 N g a b m)) (f:=26) (LO:=qY []) (p:=[0,1,0,1,0,1,0,0,1,0,1,1,1,1,1]) jQ ?_;intro t K r hr;obtain ⟨hg,hr⟩:=qZ hr
 skip
 exact (lwh2 K N g a b m t hg).trans hr
noncomputable def hh1 (N:Nat) (g:Gr) (a b m:Int) (x:Int) (rn:Nat) (f:Nat→Int):St:=⟨[(2,.v (.n .i64 b)),(3,.v (.n .i64 m)),(4,.p 4 0),(8,.p 8 0),(10,.v (.lf g.np (fun v=>[.n .i64 ((lbT g b m).2.1 v),.n .i64 ((lbT g b m).2.2 v)]))),(11,.p 11 0),(12,.v (.n .i64 x))],[(4,.blk [.v (.lf g.np g.pt),.v (.lf g.ne (fE g.ed))]),(8,.blk [.nl,.v (.n .i64 0)]),(11,.blk [.o 43,.v (.n .i64 ((lbT g b m).2.1 (a).toNat))]),(43,.reg 3 1 (.fo rn (fun v=>[.n .i64 (f v)])))]⟩
set_option maxRecDepth 100000 in
theorem rdh1 (G:St→Option (Ret × Mem)) (K:Cont) (N:Nat) (g:Gr) (a b m:Int) (x:Int) (rn:Nat) (f:Nat→Int):zH (N + 10) (cxS Tf (orh1 N g a b m) (N + 10) 26 (ntmF Tf 26)) (evX Tf (orh1 N g a b m) (N + 10) 26 (ntmF Tf 26)) (qY [([0,1,0,1,0,1,0,0,1,0,1,1,1,1,1],sumF (fun t:(Int × Int × Int × Nat × (Nat→Int))=>(hh2 N g a b m t.1 t.2.1 t.2.2.1 t.2.2.2.1 t.2.2.2.2)) (fun σ=>(slI σ 14,slI σ 12,slI σ 13,rgN σ 43,rgI σ 43 0)) (fun t K=>(bif qKQ N g b m t then kxh2 N g a b m K (qQV N g b m t) else none)))]) (qQ Tf 26 [0,1,0,1,1,1,1,1]) [0,1,0,1,1,1,1,1] (Tf.hint 26 (qJ (qQ Tf 26 [0,1,0,1,1,1,1,1]))) K G (hh1 N g a b m x rn f) =
 (bif (!decide (x=b)) then (bif (gSt (hh2 N g a b m 0 x (-1) rn f) (hh2 N g a b m 0 x (-1) rn f)) then (bif (qKQ N g b m (0,x,(-1),rn,f)) then (bif (Nat.beq (qQV N g b m (0,x,(-1),rn,f)).1 0) then (bif (decide ((qQV N g b m (0,x,(-1),rn,f)).2.2.2.2.1 + 1≤1000000)) then (G (hh1 N g a b m (qQV N g b m (0,x,(-1),rn,f)).2.2.2.1 ((qQV N g b m (0,x,(-1),rn,f)).2.2.2.2.1 + 1) (fun v=>(bif (Nat.beq v (qQV N g b m (0,x,(-1),rn,f)).2.2.2.2.1) then (qQV N g b m (0,x,(-1),rn,f)).2.2.2.1 else ((qQV N g b m (0,x,(-1),rn,f)).2.2.2.2.2 v)))))
 else none)
 else none)
 else none)
 else none)
 else (K (.exit 0) ⟨[(8,.p 8 0),(11,.p 11 0)],[(8,.blk [.nl,.v (.n .i64 0)]),(11,.blk [.o 43,.v (.n .i64 ((lbT g b m).2.1 (a).toNat))]),(43,.reg 3 1 (.fo rn (fun v=>[.n .i64 (f v)])))]⟩)):=by kernel_rfl
noncomputable def dch1 (N:Nat) (g:Gr) (a b m:Int):(Int × Nat × (Nat→Int))→(Int × Nat × (Nat→Int)) ⊕ (Nat × Int × Nat × (Nat→Int)):=fun t=>match t with | (x,rn,f)=>(bif (!decide (x=b)) then (bif (gSt (hh2 N g a b m 0 x (-1) rn f) (hh2 N g a b m 0 x (-1) rn f)) then (bif (qKQ N g b m (0,x,(-1),rn,f)) then (bif (Nat.beq (qQV N g b m (0,x,(-1),rn,f)).1 0) then (bif (decide ((qQV N g b m (0,x,(-1),rn,f)).2.2.2.2.1 + 1≤1000000)) then (.inl ((qQV N g b m (0,x,(-1),rn,f)).2.2.2.1,((qQV N g b m (0,x,(-1),rn,f)).2.2.2.2.1 + 1),(fun v=>(bif (Nat.beq v (qQV N g b m (0,x,(-1),rn,f)).2.2.2.2.1) then (qQV N g b m (0,x,(-1),rn,f)).2.2.2.1 else ((qQV N g b m (0,x,(-1),rn,f)).2.2.2.2.2 v))))) else (.inr (1,(x,rn,f)))) else (.inr (1,(x,rn,f)))) else (.inr (1,(x,rn,f)))) else (.inr (1,(x,rn,f)))) else (.inr (0,(x,rn,f))))
noncomputable def kxh1 (N:Nat) (g:Gr) (a b m:Int) (K:Cont) (w9:Nat × Int × Nat × (Nat→Int)):Option (Ret × Mem):=bif Nat.beq w9.1 0 then (K (.exit 0) ⟨[(8,.p 8 0),(11,.p 11 0)],[(8,.blk [.nl,.v (.n .i64 0)]),(11,.blk [.o 43,.v (.n .i64 ((lbT g b m).2.1 (a).toNat))]),(43,.reg 3 1 (.fo w9.2.2.1 (fun v=>[.n .i64 (w9.2.2.2 v)])))]⟩) else none
theorem wlh1 (K:Cont) (N:Nat) (g:Gr) (a b m:Int):∀ n9 (t:(Int × Nat × (Nat→Int))),LFX (N + 10) (cxS Tf (orh1 N g a b m) (N + 10) 26 (ntmF Tf 26)) (evX Tf (orh1 N g a b m) (N + 10) 26 (ntmF Tf 26)) (qY [([0,1,0,1,0,1,0,0,1,0,1,1,1,1,1],sumF (fun t:(Int × Int × Int × Nat × (Nat→Int))=>(hh2 N g a b m t.1 t.2.1 t.2.2.1 t.2.2.2.1 t.2.2.2.2)) (fun σ=>(slI σ 14,slI σ 12,slI σ 13,rgN σ 43,rgI σ 43 0)) (fun t K=>(bif qKQ N g b m t then kxh2 N g a b m K (qQV N g b m t) else none)))]) (qQ Tf 26 [0,1,0,1,1,1,1,1]) [0,1,0,1,1,1,1,1] (Tf.hint 26 (qJ (qQ Tf 26 [0,1,0,1,1,1,1,1]))) K n9 (hh1 N g a b m t.1 t.2.1 t.2.2)=(qU (dch1 N g a b m) n9 t).bind (kxh1 N g a b m K):=fun n9 t=>by
 refine kG (L:=LFX (N + 10) (cxS Tf (orh1 N g a b m) (N + 10) 26 (ntmF Tf 26)) (evX Tf (orh1 N g a b m) (N + 10) 26 (ntmF Tf 26)) (qY [([0,1,0,1,0,1,0,0,1,0,1,1,1,1,1],sumF (fun t:(Int × Int × Int × Nat × (Nat→Int))=>(hh2 N g a b m t.1 t.2.1 t.2.2.1 t.2.2.2.1 t.2.2.2.2)) (fun σ=>(slI σ 14,slI σ 12,slI σ 13,rgN σ 43,rgI σ 43 0)) (fun t K=>(bif qKQ N g b m t then kxh2 N g a b m K (qQV N g b m t) else none)))]) (qQ Tf 26 [0,1,0,1,1,1,1,1]) [0,1,0,1,1,1,1,1] (Tf.hint 26 (qJ (qQ Tf 26 [0,1,0,1,1,1,1,1]))) K) (stp:=zH (N + 10) (cxS Tf (orh1 N g a b m) (N + 10) 26 (ntmF Tf 26)) (evX Tf (orh1 N g a b m) (N + 10) 26 (ntmF Tf 26)) (qY [([0,1,0,1,0,1,0,0,1,0,1,1,1,1,1],sumF (fun t:(Int × Int × Int × Nat × (Nat→Int))=>(hh2 N g a b m t.1 t.2.1 t.2.2.1 t.2.2.2.1 t.2.2.2.2)) (fun σ=>(slI σ 14,slI σ 12,slI σ 13,rgN σ 43,rgI σ 43 0)) (fun t K=>(bif qKQ N g b m t then kxh2 N g a b m K (qQV N g b m t) else none)))]) (qQ Tf 26 [0,1,0,1,1,1,1,1]) [0,1,0,1,1,1,1,1] (Tf.hint 26 (qJ (qQ Tf 26 [0,1,0,1,1,1,1,1]))) K) (fun _ _=>rfl) (fun _=>rfl) (fun t=>hh1 N g a b m t.1 t.2.1 t.2.2) (fun _=>True) (dch1 N g a b m) (kxh1 N g a b m K) (fun G t _ => ?_) (fun _ _ _ _=>trivial) n9 t trivial;obtain ⟨x,rn,f⟩:=t;refine (rdh1 G K N g a b m x rn f).trans ?_;dsimp only [dch1];cases (!decide (x=b))
 ·rfl
 ·cases (gSt (hh2 N g a b m 0 x (-1) rn f) (hh2 N g a b m 0 x (-1) rn f))
  ·rfl
  ·cases (qKQ N g b m (0,x,(-1),rn,f))
   ·rfl
   ·cases (Nat.beq (qQV N g b m (0,x,(-1),rn,f)).1 0)
    ·rfl
    ·cases (decide ((qQV N g b m (0,x,(-1),rn,f)).2.2.2.2.1 + 1≤1000000))
     ·rfl
     ·rfl
noncomputable def yQH (N:Nat) (g:Gr) (a b m:Int) (t:(Int × Nat × (Nat→Int))):Bool:=(qU (dch1 N g a b m) (N + 10) t).isSome
noncomputable def qHA (N:Nat) (g:Gr) (a b m:Int) (t:(Int × Nat × (Nat→Int))):Nat × Int × Nat × (Nat→Int):=(qU (dch1 N g a b m) (N + 10) t).getD (99,t)
theorem lwh1 (K:Cont) (N:Nat) (g:Gr) (a b m:Int) (t:(Int × Nat × (Nat→Int))) (hg:yQH N g a b m t=true):LFX (N + 10) (cxS Tf (orh1 N g a b m) (N + 10) 26 (ntmF Tf 26)) (evX Tf (orh1 N g a b m) (N + 10) 26 (ntmF Tf 26)) (qY [([0,1,0,1,0,1,0,0,1,0,1,1,1,1,1],sumF (fun t:(Int × Int × Int × Nat × (Nat→Int))=>(hh2 N g a b m t.1 t.2.1 t.2.2.1 t.2.2.2.1 t.2.2.2.2)) (fun σ=>(slI σ 14,slI σ 12,slI σ 13,rgN σ 43,rgI σ 43 0)) (fun t K=>(bif qKQ N g b m t then kxh2 N g a b m K (qQV N g b m t) else none)))]) (qQ Tf 26 [0,1,0,1,1,1,1,1]) [0,1,0,1,1,1,1,1] (Tf.hint 26 (qJ (qQ Tf 26 [0,1,0,1,1,1,1,1]))) K (N + 10) (hh1 N g a b m t.1 t.2.1 t.2.2)=kxh1 N g a b m K (qHA N g a b m t):=by
 refine (wlh1 K N g a b m (N + 10) t).trans ?_;unfold yQH at hg;unfold qHA;cases h:qU (dch1 N g a b m) (N + 10) t with
 | none=>rw [h] at hg; cases hg
 | some y=>rfl
def othE (g:Gr) (x:Nat) (e:Nat):Int:=(g.ed e).u + (g.ed e).v - (x:Int)
section
variable {g:Gr} {m:Int} {b:Nat}
def QlE (g:Gr) (b m:Int) (x e:Nat):Prop:=usB (g.ed e).s m=true∧((g.ed e).u=(x:Int) ∨ (g.ed e).v=(x:Int))∧0≤(lbT g b m).2.1 (othE g x e).toNat∧(lbT g b m).2.1 (othE g x e).toNat + (g.ed e).c=(lbT g b m).2.1 x∧(lbT g b m).2.2 (othE g x e).toNat + 1=(lbT g b m).2.2 x
def GdP (g:Gr) (b m:Int) (x:Nat) (y:Int):Prop:=0≤y∧y < (g.np:Int)∧0≤(lbT g b m).2.1 y.toNat∧(lbT g b m).2.2 y.toNat + 1=(lbT g b m).2.2 x
theorem jXU (hw:wfB g=true) {x e:Nat} (he:e < g.ne) (h:(g.ed e).u=(x:Int) ∨ (g.ed e).v=(x:Int)):0≤othE g x e∧othE g x e < (g.np:Int)∧x < g.np:=by
 obtain ⟨e1,e2,e3,_,_⟩:=jU hw he;unfold othE;rcases h with h | h <;> omega
theorem yJW (hw:wfB g=true) (hp:g.np≤100) (hn:g.ne≤500) (hb:b < g.np) {v:Nat} (hv:v < g.np) (_:0≤(lbT g (b:Int) m).2.1 v):(lbT g (b:Int) m).2.1 v≤109951162777600∧0≤(lbT g (b:Int) m).2.2 v∧(lbT g (b:Int) m).2.2 v≤100:=by
 have hl:=(qKJ (m:=m) hw hp hn).1;obtain ⟨_,_,_,_,h1,h2⟩:=zYJ (m:=m) hw hp hn hb;rcases h1.wk v hv with h3 | h3
 ·omega
 ·have h4:=h3.bd hl;rcases jKK (m:=m) hw hp hn hv hb with h5 | ⟨c,p,h5,h6,h7⟩
  ·exact absurd h3 (h5 _ _)
  ·have h8:=h5.bd hl;have h9:=h7 _ _ h3;have h10:=h2 _ _ _ h5;unfold leL leR at *;omega
theorem jZF (hw:wfB g=true) (hp:g.np≤100) (hn:g.ne≤500) (hb:b < g.np) {x:Nat} (hx:x < g.np) (_:0≤(lbT g (b:Int) m).2.1 x) (hne:x ≠ b):∃ e,e < g.ne∧QlE g (b:Int) m x e:=by
 have hl:=(qKJ (m:=m) hw hp hn).1;obtain ⟨_,_,_,_,h1,h2⟩:=zYJ (m:=m) hw hp hn hb;rcases h1.wk x hx with h3 | h3
 ·omega
 ·generalize hc:(lbT g (b:Int) m).2.1 x=c at h3;generalize hq:(lbT g (b:Int) m).2.2 x + 1=q at h3;cases h3 with
  | nil=>exact absurd rfl hne
  | @cons x0 _ w c0 p0 h4 h5 h6 h7 =>
   have h8:=h4.bd hl;have hj:=yJA h6 h7;have hlc:=hl.hco _ _ h5 h6;have h9:=h2 _ _ _ h4;have h10:0≤(lbT g (b:Int) m).2.1 x0:=by unfold leL at h9; omega
   have h11:WkG g m b x0 ((lbT g (b:Int) m).2.1 x0) ((lbT g (b:Int) m).2.2 x0 + 1):=by
    rcases h1.wk x0 h5 with h | h
    ·omega
    ·exact h
   have h12:=h2 _ _ _ (Wk.cons h11 h5 h6 h7);rw [hc] at h12;have e1:(lbT g (b:Int) m).2.1 x0=c0∧(lbT g (b:Int) m).2.2 x0=p0 - 1:=by
    unfold leL leR at h9 h12; omega
   obtain ⟨e,g1,g2,g3,g4⟩:=hj;obtain ⟨b1,b2,b3,_,_⟩:=jU hw g1;have ho:(othE g x e).toNat=x0∧((g.ed e).u=(x:Int) ∨ (g.ed e).v=(x:Int)):=by
    unfold othE;rcases g4 with ⟨g4,g5⟩ | ⟨g4,g5⟩ <;> omega
   refine ⟨e,g1,g2,ho.2,?_,?_,?_⟩
   ·rw [ho.1]; exact h10
   ·rw [ho.1,g3,hc,e1.1]
   ·rw [ho.1]; omega
theorem jGC (hw:wfB g=true) (hp:g.np≤100) (hn:g.ne≤500) (hb:b < g.np) {x rn:Nat} {f:Nat→Int} (hx:x < g.np) {i:Nat} (hlt:i < g.ne) {y:Int} (h1:y < 0 ∨ GdP g (b:Int) m x y) (h2:∀ e,e < i→QlE g (b:Int) m x e→0≤y):∃ y',dch2 g (b:Int) m ((i:Int),(x:Int),y,rn,f)=.inl (((i + 1:Nat):Int),(x:Int),y',rn,f)∧(y' < 0 ∨ GdP g (b:Int) m x y')∧∀ e,e < i + 1→QlE g (b:Int) m x e→0≤y':=by
  have skip:¬ QlE g (b:Int) m x i→(y < 0 ∨ GdP g (b:Int) m x y)∧∀ e,e < i + 1→QlE g (b:Int) m x e→0≤y:=fun hq=>⟨h1,fun e he h=>by
    by_cases e2:e=i
    ·subst e2; exact absurd h hq
    ·exact h2 e (by omega) h⟩
  dsimp only [dch2];rw [vYJ (show (i:Int) < (g.ne:Int) by omega),zU hlt,toN,kW (C:=cru) (t:=(g.ed i,m)) trivial,uK (show i < 1000000 by omega)];simp only [vYQ];obtain ⟨e1,e2,e3,e4,e5⟩:=jU hw hlt;cases hu:usB (g.ed i).s m with
  | false =>
   rw [vYZ];exact ⟨y,rfl,skip fun h=>by have:=h.1; rw [hu] at this; cases this⟩
  | true =>
   rw [vYQ];by_cases hends:(g.ed i).u=(x:Int) ∨ (g.ed i).v=(x:Int)
   ·obtain ⟨o1,o2,_⟩:=jXU hw hlt hends;have hox:vYX .i64 (vYX .i64 ((g.ed i).u + (g.ed i).v) - (x:Int))=othE g x i:=by
     rw [yH (show -9223372036854775808≤(g.ed i).u + (g.ed i).v∧_ by omega),yH (show -9223372036854775808≤(g.ed i).u + (g.ed i).v - (x:Int)∧_ by omega)]; rfl
    have io:inB (othE g x i) g.np=true:=by unfold inB; rw [vYJ o1,vYJ (by omega)]; rfl
    have core:∃ y',(bif decide (0≤(lbT g (b:Int) m).2.1 (othE g x i).toNat) then (bif decide (vYX .i64 ((lbT g (b:Int) m).2.1 (othE g x i).toNat + (g.ed i).c)=(lbT g (b:Int) m).2.1 x) then (bif decide (vYX .i64 ((lbT g (b:Int) m).2.2 (othE g x i).toNat + 1)=(lbT g (b:Int) m).2.2 x) then (bif decide (y < 0) then .inl (((i + 1:Nat):Int),(x:Int),othE g x i,rn,f) else (bif decide (othE g x i < y) then .inl (((i + 1:Nat):Int),(x:Int),othE g x i,rn,f) else .inl (((i + 1:Nat):Int),(x:Int),y,rn,f))) else .inl (((i + 1:Nat):Int),(x:Int),y,rn,f)) else .inl (((i + 1:Nat):Int),(x:Int),y,rn,f)) else .inl (((i + 1:Nat):Int),(x:Int),y,rn,f):(Int × Int × Int × Nat × (Nat→Int)) ⊕ (Nat × Int × Int × Int × Nat × (Nat→Int)))=.inl (((i + 1:Nat):Int),(x:Int),y',rn,f)∧(y' < 0 ∨ GdP g (b:Int) m x y')∧∀ e,e < i + 1→QlE g (b:Int) m x e→0≤y':=by
     by_cases c1:0≤(lbT g (b:Int) m).2.1 (othE g x i).toNat
     ·obtain ⟨l1,l2,l3⟩:=yJW hw hp hn hb (show (othE g x i).toNat < g.np by omega) c1;rw [vYJ c1,yH (show -9223372036854775808≤(lbT g (b:Int) m).2.1 (othE g x i).toNat + (g.ed i).c∧_ by omega),yH (show -9223372036854775808≤(lbT g (b:Int) m).2.2 (othE g x i).toNat + 1∧_ by omega),vYQ];by_cases c2:(lbT g (b:Int) m).2.1 (othE g x i).toNat + (g.ed i).c=(lbT g (b:Int) m).2.1 x
      ·rw [vYJ c2,vYQ];by_cases c3:(lbT g (b:Int) m).2.2 (othE g x i).toNat + 1=(lbT g (b:Int) m).2.2 x
       ·rw [vYJ c3,vYQ];have gd:GdP g (b:Int) m x (othE g x i):=⟨o1,o2,c1,c3⟩
        by_cases c4:y < 0
        ·rw [vYJ c4]; exact ⟨_,rfl,.inr gd,fun _ _ _=>o1⟩
        ·rw [vYY c4,vYZ];by_cases c5:othE g x i < y
         ·rw [vYJ c5]; exact ⟨_,rfl,.inr gd,fun _ _ _=>o1⟩
         ·rw [vYY c5,vYZ];exact ⟨y,rfl,h1,fun _ _ _=>by omega⟩
       ·rw [vYY c3,vYZ];exact ⟨y,rfl,skip fun h=>c3 h.2.2.2.2⟩
      ·rw [vYY c2,vYZ];exact ⟨y,rfl,skip fun h=>c2 h.2.2.2.1⟩
     ·rw [vYY c1,vYZ];exact ⟨y,rfl,skip fun h=>c1 h.2.2.1⟩
    simp only [hox,io,zU hx,toN,vYQ];by_cases c6:(g.ed i).u=(x:Int)
    ·rw [vYJ c6];exact core
    ·have c7:(g.ed i).v=(x:Int):=by omega
     rw [vYY c6,vYJ c7];exact core
   ·rw [vYY (fun h=>hends (.inl h)),vYY (fun h=>hends (.inr h))];exact ⟨y,rfl,skip fun h=>hends h.2.1⟩
theorem jVY (hw:wfB g=true) (hp:g.np≤100) (hn:g.ne≤500) (hb:b < g.np) {x rn:Nat} {f:Nat→Int} (hx:x < g.np):∀ (d i:Nat) (y:Int) (M:Nat),i + d=g.ne→d < M→(y < 0 ∨ GdP g (b:Int) m x y)→(∀ e,e < i→QlE g (b:Int) m x e→0≤y)→∃ y',qU (dch2 g (b:Int) m) M ((i:Int),(x:Int),y,rn,f)=some (0,(g.ne:Int),(x:Int),y',rn,f)∧(y' < 0 ∨ GdP g (b:Int) m x y')∧∀ e,e < g.ne→QlE g (b:Int) m x e→0≤y'
 | _,_,_,0,_,h,_,_=>by omega
 | 0,i,y,M + 1,hi,_,h1,h2=>by
  obtain rfl:i=g.ne:=by omega
  refine ⟨y,?_,h1,h2⟩;rw [qU];dsimp only [dch2];rw [vYY (by omega)]; rfl
 | d + 1,i,y,M + 1,hi,hM,h1,h2=>by
  obtain ⟨y1,q1,q2,q3⟩:=jGC hw hp hn hb (rn:=rn) (f:=f) hx (show i < g.ne by omega) h1 h2;obtain ⟨y2,r1,r2⟩:=jVY hw hp hn hb (rn:=rn) (f:=f) hx d (i + 1) y1 M (by omega) (by omega) q2 q3;refine ⟨y2,?_,r2⟩;rw [qU,q1];exact r1
theorem jVJ (hw:wfB g=true) (hp:g.np≤100) (hn:g.ne≤500) (hb:b < g.np) {N:Nat} (hN:g.ne < N) {a:Int}:∀ (M x rn:Nat) (f:Nat→Int),x < g.np→0≤(lbT g (b:Int) m).2.1 x→(lbT g (b:Int) m).2.2 x < (M:Int)→rn + M≤1000→∃ rn' f',qU (dch1 N g a (b:Int) m) M ((x:Int),rn,f)=some (0,(b:Int),rn',f')
 | 0,x,rn,f,hx,h0,h1,_=>by
  have:=yJW hw hp hn hb hx h0
  omega
 | M + 1,x,rn,f,hx,h0,h1,h2=>by
  rw [qU];dsimp only [dch1];by_cases e:x=b
  ·subst e;rw [vYJ rfl];exact ⟨rn,f,rfl⟩
  ·rw [vYY (show ¬ (x:Int)=(b:Int) by omega)];obtain ⟨y,q1,q2,q3⟩:=jVY hw hp hn hb (rn:=rn) (f:=f) hx g.ne 0 (-1) (N + 10) (by omega) (by omega) (.inl (by decide)) (fun e he=>absurd he (Nat.not_lt_zero e));obtain ⟨e,he,hq⟩:=jZF hw hp hn hb hx h0 e;have hy:=q3 e he hq;obtain ⟨y,rfl⟩:∃ z:Nat,y=(z:Int):=⟨y.toNat,by omega⟩
   rcases q2 with q2 | ⟨g1,g2,g3,g4⟩
   ·omega
   ·rw [toN] at g3 g4;have o1:qKQ N g (b:Int) m (0,(x:Int),-1,rn,f)=true:=by unfold qKQ; rw [show (0:Int)=((0:Nat):Int) from rfl,q1]; rfl
    have o2:qQV N g (b:Int) m (0,(x:Int),-1,rn,f)=(0,(g.ne:Int),(x:Int),(y:Int),rn,f):=by unfold qQV; rw [show (0:Int)=((0:Nat):Int) from rfl,q1]; rfl
    simp only [Bool.not_false,vYQ,yQ,o1,o2,Nat.beq_refl,vYJ (show rn + 1≤1000000 by omega)];exact jVJ hw hp hn hb hN M y (rn + 1) _ (by omega) g3 (by omega) (by omega)
end
noncomputable def yVV (N:Nat) (g:Gr) (a b m:Int):List (List Nat × yK):=[([0,1,0,1,1,1,1,1],sumF (fun t:(Int × Nat × (Nat→Int))=>(hh1 N g a b m t.1 t.2.1 t.2.2)) (fun σ=>(slI σ 12,rgN σ 43,rgI σ 43 0)) (fun t K=>(bif yQH N g a b m t then kxh1 N g a b m K (qHA N g a b m t) else none)))]
set_option maxRecDepth 100000 in
theorem jHU (N:Nat) (g:Gr) (a b m:Int):qQK Tf (orh1 N g a b m) (qY (yVV N g a b m)) (N + 10) 26 [.a (gP g),.n .i64 a,.n .i64 b,.n .i64 m] =
 (bif (gF1 cas eas (g,a,b)) then (bif (frB g && (isP g a && isP g b)) then (bif (decide (m < 0)) then some (.v (.t [.a [.l [],.n .i64 0],.b false]),[])
 else (bif (decide (2 < m)) then some (.v (.t [.a [.l [],.n .i64 0],.b false]),[])
 else (bif (gF1 clb elb (g,b,m)) then (bif (inB a g.np) then (bif (decide (((lbT g b m).2.1 (a).toNat) < 0)) then some (.v (.t [.a [.l [],.n .i64 0],.b false]),[])
 else (bif (inB a g.np) then (bif (gSt (hh1 N g a b m a 1 (jb a)) (hh1 N g a b m a 1 (jb a))) then (bif (yQH N g a b m (a,1,(jb a))) then (bif (Nat.beq (qHA N g a b m (a,1,(jb a))).1 0) then some (.v (.t [.a [.lf (qHA N g a b m (a,1,(jb a))).2.2.1 (fun v=>[.n .i64 ((qHA N g a b m (a,1,(jb a))).2.2.2 v)]),.n .i64 ((lbT g b m).2.1 (a).toNat)],.b true]),[])
 else none)
 else none)
 else none)
 else none))
 else none)
 else none)))
 else some (.v (.t [.a [.l [],.n .i64 0],.b false]),[]))
 else none):=by kernel_rfl
theorem jQE (N:Nat) (g:Gr) (a b m:Int) (hN:N=NN) (hp:g.np≤100) (hn:g.ne≤500):yY Try.prog 26 [.a (gP g),.n .i64 a,.n .i64 b,.n .i64 m] (bif stQ g a b m && !decide ((lbT g b m).2.1 a.toNat < 0) then .v (.t [.a [.lf (qHA NN g a b m (a,1,(jb a))).2.2.1 (fQ (qHA NN g a b m (a,1,(jb a))).2.2.2),.n .i64 ((lbT g b m).2.1 a.toNat)],.b true]) else .v (.t [.a [.l [],.n .i64 0],.b false])):=by
 refine qG (N:=(N + 10)) (LO:=qY (yVV N g a b m)) yV yX (yG (l:=[(32,o_as),(33,o_lb),(48,o_ru)]) (m:=[]) ⟨kQI,kQW,jXG,trivial⟩ trivial) (fun p S hp => ?_) ?_
 ·refine qW (L:=qQ Tf 26) (l:=(yVV N g a b m)) (show AllP _ (yVV N g a b m) from ⟨?_,trivial⟩) p S hp
  ·dsimp only;refine yZ (T:=Tf) (o:=(orh1 N g a b m)) (f:=26) (LO:=(qY [([0,1,0,1,0,1,0,0,1,0,1,1,1,1,1],sumF (fun t:(Int × Int × Int × Nat × (Nat→Int))=>(hh2 N g a b m t.1 t.2.1 t.2.2.1 t.2.2.2.1 t.2.2.2.2)) (fun σ=>(slI σ 14,slI σ 12,slI σ 13,rgN σ 43,rgI σ 43 0)) (fun t K=>(bif qKQ N g b m t then kxh2 N g a b m K (qQV N g b m t) else none)))])) (p:=[0,1,0,1,1,1,1,1]) (okh2 N g a b m) ?_;intro t K r hr;obtain ⟨hg,hr⟩:=qZ hr
   skip
   exact (lwh1 K N g a b m t hg).trans hr
 ·refine (jHU N g a b m).trans ?_;subst hN;unfold stQ;simp only [kW (C:=cas) (t:=(g,a,b)) (show g.ne≤8192 by omega),vYQ,jGB];cases hw:wfB g with
  | false=>rfl
  | true =>
   cases ha:isP g a with
   | false=>rfl
   | true =>
    cases hb:isP g b with
    | false=>rfl
    | true =>
     cases decide (m < 0) with
     | true=>rfl
     | false =>
      cases decide (2 < m) with
      | true=>rfl
      | false =>
       have ia:=qUV ha;have ib:=qUV hb;have iA:inB a g.np=true:=by unfold inB; rw [vYJ ia.1,vYJ (by omega)]; rfl
       obtain ⟨x,rfl⟩:∃ n:Nat,a=(n:Int):=⟨a.toNat,by omega⟩
       obtain ⟨y,rfl⟩:∃ n:Nat,b=(n:Int):=⟨b.toNat,by omega⟩
       simp only [kW (C:=clb) (t:=(g,(y:Int),m)) ⟨hw,hp,hn,ib.1,ib.2⟩,iA,vZW,Bool.not_false,vYQ,vYZ];by_cases h0:(lbT g (y:Int) m).2.1 (x:Int).toNat < 0
       ·rw [vYJ h0]; rfl
       ·rw [vYY h0];have h0':0≤(lbT g (y:Int) m).2.1 x:=by rw [toN] at h0; omega
        have hbd:=yJW (m:=m) hw hp hn (show y < g.np by omega) (show x < g.np by omega) h0';obtain ⟨rn',f',q1⟩:=jVJ (m:=m) hw hp hn (show y < g.np by omega) (N:=NN) (a:=(x:Int)) (by rw [qYK]; omega) 200 x 1 (jb (x:Int)) (by omega) h0' (by omega) (by omega);have q2:=zGK q1 (show 200≤NN + 10 by rw [qYK]; omega);have o1:yQH NN g (x:Int) (y:Int) m ((x:Int),1,jb (x:Int))=true:=by unfold yQH; rw [q2]; rfl
        have o2:qHA NN g (x:Int) (y:Int) m ((x:Int),1,jb (x:Int))=(0,(y:Int),rn',f'):=by unfold qHA; rw [q2]; rfl
        simp only [yQ,o1,o2,vYQ,vYZ,Bool.not_false,Nat.beq_refl];rfl
theorem Least.rev {g:Gr} {m:Int} (hw:wfB g=true) (hp:g.np≤100) (hn:g.ne≤500) {a b:Nat} {c:Int} (h:Least g m a b c):Least g m b a c:=by
 obtain ⟨⟨p,h1⟩,h2⟩:=h;exact ⟨⟨p,WkG.rev hw hp hn h1⟩,fun c' p' h3=>h2 c' p' (WkG.rev hw hp hn h3)⟩
theorem jKF (g:Gr) (a b:Int) (hp:g.np≤100) (hn:g.ne≤500):∃ (n:Nat) (f:Nat→Int),yY Try.prog 26 [.a (gP g),.n .i64 a,.n .i64 b,.n .i64 2] (.v (.t [.a [.lf n (fQ f),.n .i64 (bif stF g a b 2 then stC g a b 2 else 0)],.b (stF g a b 2)])):=by
 have h:=jQE NN g a b 2 rfl hp hn;cases hq:stQ g a b 2 with
 | false =>
  have hf:stF g a b 2=false:=by unfold stF; rw [hq]; rfl
  rw [hq] at h;rw [hf];exact ⟨0,fun _=>0,qQE (Same.t (xs:=[_,_]) (ys:=[_,_]) ⟨Same.a (xs:=[_,_]) (ys:=[_,_]) ⟨Same.lf rfl,Same.refl _,trivial⟩,Same.refl _,trivial⟩) h⟩
 | true =>
  have hq':=hq;unfold stQ at hq';simp only [vQJ] at hq';obtain ⟨hw,ha,hb,_⟩:=hq';have ia:=qUV ha;have ib:=qUV hb;obtain ⟨x,rfl⟩:∃ n:Nat,a=(n:Int):=⟨a.toNat,by omega⟩
  obtain ⟨y,rfl⟩:∃ n:Nat,b=(n:Int):=⟨b.toNat,by omega⟩
  have hf:stF g (x:Int) (y:Int) 2=shF g.np (lkO g 2).1 (lkO g 2).2.1 (lkO g 2).2.2 x y:=by unfold stF; rw [hq]; rfl
  have hc:stC g (x:Int) (y:Int) 2=shC g.np (lkO g 2).1 (lkO g 2).2.1 (lkO g 2).2.2 x y:=by unfold stC; rw [hq]; rfl
  rw [hq,vZW] at h;have h1:=zZQ (m:=2) hw hp hn (show x < g.np by omega) (show y < g.np by omega);have h2:=yVF (m:=2) hw hp hn (show y < g.np by omega) (show x < g.np by omega);rcases h1 with ⟨h1,h3⟩ | ⟨h1,h3⟩
  ·rw [hf,h1];have h4:(lbT g (y:Int) 2).2.1 (x:Int).toNat < 0:=by
    rw [toN];rcases h2 with ⟨h2,_⟩ | ⟨_,h4⟩
    ·exact h2
    ·obtain ⟨⟨p,h5⟩,_⟩:=Least.rev hw hp hn h4;exact absurd h5 (h3 _ _)
   rw [vYJ h4] at h;exact ⟨0,fun _=>0,qQE (Same.t (xs:=[_,_]) (ys:=[_,_]) ⟨Same.a (xs:=[_,_]) (ys:=[_,_]) ⟨Same.lf rfl,Same.refl _,trivial⟩,Same.refl _,trivial⟩) h⟩
  ·rw [hf,h1];rcases h2 with ⟨_,h4⟩ | ⟨h2,h4⟩
   ·obtain ⟨⟨p,h5⟩,_⟩:=Least.rev hw hp hn h3;exact absurd h5 (h4 _ _)
   ·have h6:=(Least.rev hw hp hn h4).uniq h3;rw [toN,vYY (show ¬ _ by omega),h6,← hc] at h;exact ⟨_,_,h⟩
end Go.Proofs.Ytglkkhpdbfacfaa.Cr
namespace Go.Proofs.Ytglkkhpdbfacfaa.Ck
end Go.Proofs.Ytglkkhpdbfacfaa.Ck
namespace Go.Proofs.Ytglkkhpdbfacfaa.Cs
open Go.Rx Rt Go.Sx Go.RowKit Ba Bb Bc Bd Be Bf Bi Bj Bk Bl Bh Bm Bn Bo Bp Bq Br Bs Bt Bu Bv Bw Bx By Bz Ca Cb Cc Cd Cm Cn Co Ce Cp
theorem jUI {g:Gr} (hw:wfB g=true) (hp:g.np≤100) (hn:g.ne≤500) {a b:Nat} (ha:a < g.np) (hb:b < g.np):sepB g (a:Int) (b:Int) = !stF g (a:Int) (b:Int) 2:=by
 have ha':isP g (a:Int)=true:=by unfold isP; simp; omega
 have hb':isP g (b:Int)=true:=by unfold isP; simp; omega
 have hst:stQ g (a:Int) (b:Int) 2=true:=by
  unfold stQ; rw [hw,ha',hb']; rfl
 have hf:stF g (a:Int) (b:Int) 2=shF g.np (lkO g 2).1 (lkO g 2).2.1 (lkO g 2).2.2 a b:=by unfold stF; rw [hst]; rfl
 have hc:=yUW (g:=g) 2 hw hp hn ha hb;unfold sepB;rw [hw,ha',hb',hf,toN,toN,vZW,vZW,vZW];rcases zZQ (m:=2) hw hp hn ha hb with ⟨h1,h2⟩ | ⟨h1,⟨p,h2⟩,_⟩
 ·rw [h1,vYY (fun h=>by obtain ⟨c,p,h3⟩:=hc.1 h; exact h2 c p h3)]
 ·rw [h1,vYJ (hc.2 ⟨_,p,h2⟩)]
theorem jUL {g:Gr} (hw:wfB g=true) (hp:g.np≤100) (hn:g.ne≤500) {a b:Nat} (_:a < g.np) (_:b < g.np):csB g (a:Int) (b:Int) (seN g (a:Int) (b:Int)) (sidF g (a:Int))=sepB g (a:Int) (b:Int):=by
 cases hs:sepB g (a:Int) (b:Int) with
 | false =>
  unfold csB seN;rw [hs,vYZ,vYY (show ¬ ((0:Nat):Int)=(g.np:Int) by omega)];cases wfB g && (isP g (a:Int) && isP g (b:Int)) <;> rfl
 | true =>
  have hs':=hs;unfold sepB at hs';simp only [vQJ,Bool.not_eq_true',decide_eq_false_iff_not] at hs';obtain ⟨⟨_,ha',hb'⟩,hne⟩:=hs';rw [toN,toN] at hne;unfold csB seN;rw [hs,vYQ];simp only [vQJ,decide_eq_true_eq,Bool.not_eq_true'];refine ⟨⟨hw,ha',hb'⟩,trivial,?_,?_,allN_iff.2 fun m _ h => ?_⟩
  ·unfold sidF; rw [toN]; exact vYJ rfl
  ·unfold sidF; rw [toN,toN]; exact vYY (fun h=>hne h.symm)
  ·have hm:m < g.ne:=by omega
   obtain ⟨e1,e2,e3,e4,_⟩:=jU hw hm;unfold seE;by_cases h2:(g.ed m).s=2
   ·rw [vYJ h2]; rfl
   ·have hu:usB (g.ed m).s 2=true:=by unfold usB; simp [h2]
    have hl:Ljn g 2 g.ne (g.ed m).u.toNat (g.ed m).v.toNat:=.step (.refl _) (c:=(g.ed m).c) ⟨m,hm,hu,rfl,.inl ⟨rfl,by omega⟩⟩
    have:=(yUW (g:=g) 2 hw hp hn (show (g.ed m).u.toNat < g.np by omega) (show (g.ed m).v.toNat < g.np by omega)).2 ((yHA hw (by omega)).1 hl)
    unfold sidF;rw [vYY h2,this,Bool.false_or];exact beq_self_eq_true _
noncomputable def jHD (g2:Gr) (wl:Nat) (e:Nat→Int) (a b x0 y0:Int) (n:Nat) (q:Nat→Int):OrS:=orS [(10,o_cr [] (.v (.b true))),(11,o_cr [.lf wl (fQ e)] (.v (.a (gP g2)))),(12,o_cr [.a (gP g2),.n .i64 a,.n .i64 b] (.v (.t [.n .i64 x0,.n .i64 y0]))),(26,o_cr [.a (gP g2),.n .i64 x0,.n .i64 y0,.n .i64 2] (.v (.t [.a [.lf n (fQ q),.n .i64 (ptC g2 x0 y0)],.b (stF g2 x0 y0 2)]))),(18,o_pt),(25,o_se),(27,jJW)] []
noncomputable def yVH (_:Gr) (_:Nat) (e:Nat→Int) (a b _ _:Int) (n:Nat) (_:Nat→Int):List (List Nat × yK):=[]
set_option maxRecDepth 100000 in
theorem jHW (g2:Gr) (wl:Nat) (e:Nat→Int) (a b x0 y0:Int) (n:Nat) (q:Nat→Int):qQK Tf (jHD g2 wl e a b x0 y0 n q) (qY (yVH g2 wl e a b x0 y0 n q)) 60 8 [.lf wl (fQ e),.n .i64 a,.n .i64 b] =
 (bif (g1 [.lf wl (fQ e)]) then (bif (g1 [.a (gP g2),.n .i64 a,.n .i64 b]) then (bif (gF1 cpt ept (g2,x0,y0)) then (bif (stF g2 x0 y0 2) then (bif (gF1 cse ese (g2,x0,y0)) then (bif (sepB g2 x0 y0) then (bif (g1 [.a (gP g2),.n .i64 x0,.n .i64 y0,.n .i64 2]) then (bif (stF g2 x0 y0 2) then (bif (g1 []) then some (.v (.b false),[])
 else none)
 else (bif (g1 []) then some (.v (.b false),[])
 else none))
 else none)
 else (bif (g1 [.a (gP g2),.n .i64 x0,.n .i64 y0,.n .i64 2]) then (bif (stF g2 x0 y0 2) then (bif (g1 []) then (bif (decide ((ptC g2 x0 y0)=(ptC g2 x0 y0))) then (bif (gF1 ccse ecse (g2,x0,y0,(seN g2 x0 y0),(sidF g2 x0))) then (bif (csB g2 x0 y0 (seN g2 x0 y0) (sidF g2 x0)) then some (.v (.b false),[])
 else some (.v (.b true),[]))
 else none)
 else some (.v (.b false),[]))
 else none)
 else (bif (g1 []) then some (.v (.b false),[])
 else none))
 else none))
 else none)
 else (bif (gF1 cse ese (g2,x0,y0)) then (bif (sepB g2 x0 y0) then (bif (g1 [.a (gP g2),.n .i64 x0,.n .i64 y0,.n .i64 2]) then (bif (stF g2 x0 y0 2) then (bif (g1 []) then some (.v (.b false),[])
 else none)
 else (bif (g1 []) then (bif (decide ((ptC g2 x0 y0)=(ptC g2 x0 y0))) then (bif (gF1 ccse ecse (g2,x0,y0,(seN g2 x0 y0),(sidF g2 x0))) then (bif (csB g2 x0 y0 (seN g2 x0 y0) (sidF g2 x0)) then some (.v (.b true),[])
 else some (.v (.b false),[]))
 else none)
 else some (.v (.b false),[]))
 else none))
 else none)
 else (bif (g1 [.a (gP g2),.n .i64 x0,.n .i64 y0,.n .i64 2]) then (bif (stF g2 x0 y0 2) then (bif (g1 []) then some (.v (.b false),[])
 else none)
 else (bif (g1 []) then some (.v (.b false),[])
 else none))
 else none))
 else none))
 else none)
 else none)
 else none):=by kernel_rfl
theorem jQI (g2:Gr) (wl:Nat) (e:Nat→Int) (a b x0 y0:Int) (n:Nat) (q:Nat→Int) (hA:yY Try.prog 10 [] (.v (.b true))) (hG:yY Try.prog 11 [.lf wl (fQ e)] (.v (.a (gP g2)))) (hE:yY Try.prog 12 [.a (gP g2),.n .i64 a,.n .i64 b] (.v (.t [.n .i64 x0,.n .i64 y0]))) (hS:yY Try.prog 26 [.a (gP g2),.n .i64 x0,.n .i64 y0,.n .i64 2] (.v (.t [.a [.lf n (fQ q),.n .i64 (ptC g2 x0 y0)],.b (stF g2 x0 y0 2)]))) (hp:g2.np≤100∧g2.ne≤500) (h1:sepB g2 x0 y0 = !stF g2 x0 y0 2) (h2:csB g2 x0 y0 (seN g2 x0 y0) (sidF g2 x0)=sepB g2 x0 y0):yY Try.prog 8 [.lf wl (fQ e),.n .i64 a,.n .i64 b] (.v (.b true)):=by
 refine qG (N:=60) (LO:=qY (yVH g2 wl e a b x0 y0 n q)) yV yX (yG (l:=[(10,o_cr [] (.v (.b true))),(11,o_cr [.lf wl (fQ e)] (.v (.a (gP g2)))),(12,o_cr [.a (gP g2),.n .i64 a,.n .i64 b] (.v (.t [.n .i64 x0,.n .i64 y0]))),(26,o_cr [.a (gP g2),.n .i64 x0,.n .i64 y0,.n .i64 2] (.v (.t [.a [.lf n (fQ q),.n .i64 (ptC g2 x0 y0)],.b (stF g2 x0 y0 2)]))),(18,o_pt),(25,o_se),(27,jJW)]) (m:=[]) ⟨yWB hA,yWB hG,yWB hE,yWB hS,kQY,jHL,jWW,trivial⟩ trivial) (fun p S hp => ?_) ?_
 ·refine qW (L:=qQ Tf 8) (l:=(yVH g2 wl e a b x0 y0 n q)) (show AllP _ (yVH g2 wl e a b x0 y0 n q) from trivial) p S hp
 ·refine (jHW g2 wl e a b x0 y0 n q).trans ?_;simp only [g1_t,vYQ,kW (C:=cpt) (t:=(g2,x0,y0)) hp,kW (C:=cse) (t:=(g2,x0,y0)) hp,kW (C:=ccse) (t:=(g2,x0,y0,seN g2 x0 y0,sidF g2 x0)) hp,decide_true,h2,h1];cases stF g2 x0 y0 2 <;> rfl
end Go.Proofs.Ytglkkhpdbfacfaa.Cs
namespace Go.Rx
open Go.RowKit Go.Sx Go.ChangeShapes Go.WideShapes
section
variable {P:Program} {W:World} {H:Type} {enc:TypeId × Value→H}
def yUE (W:World) (v:Value) (L:List Int):Prop:=RP (fun k=>k < W.heap.size) W (yJC L) v∧L.length≤9223372036854775807∧∀ x ∈ L,In64 x
theorem jZL {t e:TypeId} {v:Value} {d:DataW H} {p:List MemPlace} (ht:P.underlying t=some (.slice e)) (he:P.underlying e=some (.int .i64)) (hc:P.cellsOf e=1)
  {r:Reach} {base:Nat} (hv:Value.okWide P W r base t v) (h:DataW.Trod enc P W 0 (fun _=>true) true t v d p):∃ L:List Int,yUE W v L:=by
 obtain ⟨a,l,c,rfl⟩:=yXX ht hv;obtain ⟨fuel,h⟩:=h;have h':DataW.trod enc P W 0 (fun _=>true) true fuel t [.slice a l c]=some (d,p):=h;rcases open_ints ht he hc h' with ⟨h1,_⟩ | ⟨a',len,cap,zs,h1,_,hlc,hcap,hz,_,hcell,hwf⟩
 ·simp at h1;obtain ⟨rfl,rfl,rfl⟩:=h1;exact ⟨[],.l0 none 0,by simp,fun x hx=>by cases hx⟩
 ·simp at h1;obtain ⟨rfl,rfl,rfl⟩:=h1;simp only [if_true] at hz;have hlen:(zs.take l).length=l:=by simp; omega
  have hI:IntsAt W W.heap.size (.slice (some a') l c) (zs.take l):=⟨by have:maxLen=9223372036854775807:=rfl; omega,some a',c,by rw [hlen],fun j hj=>by
   rw [hlen] at hj;have h0:=hcell 0 (by omega);have hj':=hcell j (by omega);have hsp:a'.spot=none:=by
    have e:a'.add 0=a':=by simp [Addr.add]
    rw [e] at h0;unfold World.cell? at h0;cases hb:W.heap[a'.block]? with
    | none=>simp [hb] at h0
    | some o=>cases o <;> simp [hb] at h0; exact h0.1
   obtain ⟨bb,off,sp⟩:=a';simp only at hsp;subst hsp;rw [qYF] at hj';refine ⟨bb,off,rfl,?_,?_⟩
   ·unfold World.cell? at hj';cases hb:W.heap[bb]? with
    | none=>simp [hb] at hj'
    | some o=>exact qQW hb
   ·rw [hj'];simp [vZX,vZU,hj]⟩
  refine ⟨zs.take l,?_,hI.1,fun x hx => ?_⟩
  ·have:=zHF (F:=fun k=>k < W.heap.size) (w:=W) (L:=zs.take l) (a:=some a') (c:=c) (by rw [hlen]; exact hI) (by rw [hlen]; exact hlc) fun k hk=>hk
   rw [hlen] at this;exact this
  ·have:=hwf x (List.mem_of_mem_take hx)
   simpa [Lit.wf,IntKind.has,IntKind.min,IntKind.max,IntKind.signed,IntKind.bits,In64] using this
end
end Go.Rx
namespace Go.Proofs.Ytglkkhpdbfacfaa.Ct
open Go.Rx Rt Go.Sx Go.RowKit Ba Bb Bc Bd Be Bf Bi Bj Bk Bl Bh Bm Bn Bo Bp Bq Br Bs Bt Bu Bv Bw Bx By Bz Ca Cb Cc Cd Ce Cm Cn Co Cp Cr Cs
theorem snd_bei (hA:yY Try.prog 10 [] (.v (.b true))) (l:List Int) (hl:l.length≤9223372036854775807) (a b:Int):yY Try.prog 8 [yJC l,.n .i64 a,.n .i64 b] (.v (.b true)):=by
 obtain ⟨g2,hG,hm⟩:=kZF l.length (iqOf l) hl;obtain ⟨hw,h2,h9,hn,_⟩:=id hm;refine yXU (fun F w vals h=>Sames.al (xs:=[yJC l,.n .i64 a,.n .i64 b]) (ys:=[.lf l.length (fQ (iqOf l)),.n .i64 a,.n .i64 b]) ⟨yJB l,fun _ _ _ h=>h,fun _ _ _ h=>h,trivial⟩ h) ?_;have hz:(g2.np:Int) ≠ 0:=by omega
 have a1:=Int.emod_nonneg a hz;have a2:=Int.emod_lt_of_pos a (show 0 < (g2.np:Int) by omega);have b1:=Int.emod_nonneg b hz;have b2:=Int.emod_lt_of_pos b (show 0 < (g2.np:Int) by omega);have hE:=jUA g2 a b (by omega) (by omega);obtain ⟨x0,hx⟩:∃ n:Nat,a % (g2.np:Int)=(n:Int):=⟨(a % (g2.np:Int)).toNat,by omega⟩
 obtain ⟨y0,hy⟩:∃ n:Nat,b % (g2.np:Int)=(n:Int):=⟨(b % (g2.np:Int)).toNat,by omega⟩
 rw [hx,hy] at hE;obtain ⟨n,f,hS⟩:=jKF g2 (x0:Int) (y0:Int) (by omega) (by omega);exact jQI g2 _ _ a b (x0:Int) (y0:Int) n f hA hG hE hS ⟨by omega,by omega⟩ (jUI hw (by omega) (by omega) (by omega) (by omega)) (jUL hw (by omega) (by omega) (by omega) (by omega))
end Go.Proofs.Ytglkkhpdbfacfaa.Ct
namespace Go.Proofs.Ytglkkhpdbfacfaa
open Go.Rx Go.Sx Go.RowKit Bb
theorem zJZ (v0:Value) (L0:List Int) (a1:Int) (a2:Int) (W:World) (h0:yUE W v0 L0):Calls Try.prog 8 #[v0,.int .i64 a1,.int .i64 a2] W (Rets (.bool true) W) :=
 zJL (Ct.snd_bei Ag.call L0 h0.2.1 a1 a2) rfl (qXF h0.1 (qXF (.n _ _) (qXF (.n _ _) zXZ)))
end Go.Proofs.Ytglkkhpdbfacfaa

/- Part 30 of the texts behind the last one: rules and contracts. No condition. -/
import Derived.Test.YtklmegnpfhiibaaGreatBU29
open Bool renaming and_eq_true → vQJ, and_self → vZQ
open Go.IntKind renaming wrap → vYV
namespace Go.Proofs.YtklmegnpfhiibaaGreat.Xo
open Go.Rx Rt Go.Sx Go.RowKit Od Nb Nc Xb Xc Bb Xe Xf Xg Xh Xi Xk Xm Xn
noncomputable def orp1 (N:Nat) (js:Nat→J) (ms:Nat→Ms) (n m:Nat) (np:Nat) (pn:Nat→Nat) (pv:Nat→Nat→Int) (ne:Nat) (ed:Nat→Ed) (a b best:Int):OrS:=orS [(66,o_lk [.a [.lf n (fJ js),.lf m (fM ms)],.a [.lf np (fP pn pv),.lf ne (fE ed)]] (decide (np≤1000) && decide (ne≤8192)) (.v (.b (vmB js ms n m np pn pv ne ed)))),(10,o_dr js ms n m),(14,o_ur js ms n m)] []
noncomputable def hp1 (N:Nat) (js:Nat→J) (ms:Nat→Ms) (n m:Nat) (np:Nat) (pn:Nat→Nat) (pv:Nat→Nat→Int) (ne:Nat) (ed:Nat→Ed) (a b best:Int) (i:Int) (nu:Nat→Int) (r:Nat) (ol:Nat→Int) (q:Nat) (f:Nat→List PV):St:=⟨[(2,.v (.n .i64 a)),(3,.v (.n .i64 b)),(4,.v (.n .i64 best)),(5,.p 5 0),(6,.p 6 0),(10,.p 10 0),(12,.p 12 0),(13,.o 101),(14,.o 64),(15,.v (.n .i64 i))],[(5,.blk [.v (.lf n (fJ js)),.v (.lf m (fM ms))]),(6,.blk [.v (.lf np (fP pn pv)),.v (.lf ne (fE ed))]),(10,.blk [.nl,.nl]),(12,.blk [.o 110,.nl]),(64,.reg 3 1 (.fo (np:Int).toNat (fun v=>[.n .i64 (nu v)]))),(101,.reg 3 1 (.fo r (fun v=>[.n .i64 (ol v)]))),(110,.reg 30 1 (.fo q f))]⟩
set_option maxRecDepth 100000 in
theorem rdp1 (G:St→Option (Ret × Mem)) (K:Cont) (N:Nat) (js:Nat→J) (ms:Nat→Ms) (n m:Nat) (np:Nat) (pn:Nat→Nat) (pv:Nat→Nat→Int) (ne:Nat) (ed:Nat→Ed) (a b best:Int) (i:Int) (nu:Nat→Int) (r:Nat) (ol:Nat→Int) (q:Nat) (f:Nat→List PV):stpT Tf 35 (orp1 N js ms n m np pn pv ne ed a b best) N [] [0,1,0,1,1,1,1,1] K G (hp1 N js ms n m np pn pv ne ed a b best i nu r ol q f) =
 (bif (decide (i < (np:Int))) then (bif (inB i (np:Int).toNat) then (bif (inB a np) then (bif (inB b np) then (bif (inB i np) then (bif (gF1 (cur js ms n m) (eur js ms n m) ((pv (a).toNat),(pv (b).toNat),(pv (i).toNat),(pn (a).toNat),(pn (b).toNat),(pn (i).toNat),best)) then (bif (uB js ms (pv (a).toNat) (pv (b).toNat) (pv (i).toNat) n m (pn (a).toNat) (pn (b).toNat) (pn (i).toNat) best) then (bif (inB i (np:Int).toNat) then (bif (decide (r + 1≤1000000)) then (bif (inB i np) then (bif (decide (q + 1≤1000000)) then (G (hp1 N js ms n m np pn pv ne ed a b best (vYV .i64 (i + 1)) (fun v=>(bif (Nat.beq v (i).toNat) then (r:Int) else (bif (Nat.beq v (i).toNat) then (-1) else (nu v)))) (r + 1) (fun v=>(bif (Nat.beq v r) then i else (ol v))) (q + 1) (fun v=>qH (Nat.beq v q) [.lf (pn (i).toNat) (fun w=>[.n .i64 (pv (i).toNat w)])] (f v))))
 else none)
 else none)
 else none)
 else none)
 else (G (hp1 N js ms n m np pn pv ne ed a b best (vYV .i64 (i + 1)) (fun v=>(bif (Nat.beq v (i).toNat) then (-1) else (nu v))) r (fun v=>(ol v)) q f)))
 else none)
 else none)
 else none)
 else none)
 else none)
 else (K (.exit 0) ⟨[(6,.p 6 0),(10,.p 10 0),(12,.p 12 0),(13,.o 101),(14,.o 64)],[(6,.blk [.v (.lf np (fP pn pv)),.v (.lf ne (fE ed))]),(10,.blk [.nl,.nl]),(12,.blk [.o 110,.nl]),(64,.reg 3 1 (.fo (np:Int).toNat (fun v=>[.n .i64 (nu v)]))),(101,.reg 3 1 (.fo r (fun v=>[.n .i64 (ol v)]))),(110,.reg 30 1 (.fo q f))]⟩)):=by kernel_rfl
noncomputable def dcp1 (js:Nat→J) (ms:Nat→Ms) (n m:Nat) (np:Nat) (pn:Nat→Nat) (pv:Nat→Nat→Int) (ne:Nat) (ed:Nat→Ed) (a b best:Int):(Int × (Nat→Int) × Nat × (Nat→Int) × Nat × (Nat→List PV))→(Int × (Nat→Int) × Nat × (Nat→Int) × Nat × (Nat→List PV)) ⊕ (Nat × Int × (Nat→Int) × Nat × (Nat→Int) × Nat × (Nat→List PV)):=fun t=>match t with | (i,nu,r,ol,q,f)=>(bif (decide (i < (np:Int))) then (bif (inB i (np:Int).toNat) then (bif (inB a np) then (bif (inB b np) then (bif (inB i np) then (bif (gF1 (cur js ms n m) (eur js ms n m) ((pv (a).toNat),(pv (b).toNat),(pv (i).toNat),(pn (a).toNat),(pn (b).toNat),(pn (i).toNat),best)) then (bif (uB js ms (pv (a).toNat) (pv (b).toNat) (pv (i).toNat) n m (pn (a).toNat) (pn (b).toNat) (pn (i).toNat) best) then (bif (decide (r + 1≤1000000)) then (bif (decide (q + 1≤1000000)) then (.inl ((vYV .i64 (i + 1)),(fun v=>(bif (Nat.beq v (i).toNat) then (r:Int) else (bif (Nat.beq v (i).toNat) then (-1) else (nu v)))),(r + 1),(fun v=>(bif (Nat.beq v r) then i else (ol v))),(q + 1),(fun v=>qH (Nat.beq v q) [.lf (pn (i).toNat) (fun w=>[.n .i64 (pv (i).toNat w)])] (f v)))) else (.inr (1,(i,nu,r,ol,q,f)))) else (.inr (1,(i,nu,r,ol,q,f)))) else (.inl ((vYV .i64 (i + 1)),(fun v=>(bif (Nat.beq v (i).toNat) then (-1) else (nu v))),r,(fun v=>(ol v)),q,f))) else (.inr (1,(i,nu,r,ol,q,f)))) else (.inr (1,(i,nu,r,ol,q,f)))) else (.inr (1,(i,nu,r,ol,q,f)))) else (.inr (1,(i,nu,r,ol,q,f)))) else (.inr (1,(i,nu,r,ol,q,f)))) else (.inr (0,(i,nu,r,ol,q,f))))
noncomputable def kxp1 (N:Nat) (js:Nat→J) (ms:Nat→Ms) (n m:Nat) (np:Nat) (pn:Nat→Nat) (pv:Nat→Nat→Int) (ne:Nat) (ed:Nat→Ed) (a b best:Int) (K:Cont) (w9:Nat × Int × (Nat→Int) × Nat × (Nat→Int) × Nat × (Nat→List PV)):Option (Ret × Mem):=bif Nat.beq w9.1 0 then (K (.exit 0) ⟨[(6,.p 6 0),(10,.p 10 0),(12,.p 12 0),(13,.o 101),(14,.o 64)],[(6,.blk [.v (.lf np (fP pn pv)),.v (.lf ne (fE ed))]),(10,.blk [.nl,.nl]),(12,.blk [.o 110,.nl]),(64,.reg 3 1 (.fo (np:Int).toNat (fun v=>[.n .i64 (w9.2.2.1 v)]))),(101,.reg 3 1 (.fo w9.2.2.2.1 (fun v=>[.n .i64 (w9.2.2.2.2.1 v)]))),(110,.reg 30 1 (.fo w9.2.2.2.2.2.1 w9.2.2.2.2.2.2))]⟩) else none
theorem wlp1 (K:Cont) (N:Nat) (js:Nat→J) (ms:Nat→Ms) (n m:Nat) (np:Nat) (pn:Nat→Nat) (pv:Nat→Nat→Int) (ne:Nat) (ed:Nat→Ed) (a b best:Int):∀ n9 (t:(Int × (Nat→Int) × Nat × (Nat→Int) × Nat × (Nat→List PV))),LFT Tf 35 (orp1 N js ms n m np pn pv ne ed a b best) N [] [0,1,0,1,1,1,1,1] K n9 (hp1 N js ms n m np pn pv ne ed a b best t.1 t.2.1 t.2.2.1 t.2.2.2.1 t.2.2.2.2.1 t.2.2.2.2.2)=(zU (dcp1 js ms n m np pn pv ne ed a b best) n9 t).bind (kxp1 N js ms n m np pn pv ne ed a b best K):=fun n9 t=>by
 refine qJI (L:=LFT Tf 35 (orp1 N js ms n m np pn pv ne ed a b best) N [] [0,1,0,1,1,1,1,1] K) (stp:=stpT Tf 35 (orp1 N js ms n m np pn pv ne ed a b best) N [] [0,1,0,1,1,1,1,1] K) (fun _ _=>rfl) (fun _=>rfl) (fun t=>hp1 N js ms n m np pn pv ne ed a b best t.1 t.2.1 t.2.2.1 t.2.2.2.1 t.2.2.2.2.1 t.2.2.2.2.2) (fun _=>True) (dcp1 js ms n m np pn pv ne ed a b best) (kxp1 N js ms n m np pn pv ne ed a b best K) (fun G t _ => ?_) (fun _ _ _ _=>trivial) n9 t trivial;obtain ⟨i,nu,r,ol,q,f⟩:=t;refine (rdp1 G K N js ms n m np pn pv ne ed a b best i nu r ol q f).trans ?_;dsimp only [dcp1];cases (decide (i < (np:Int)))
 ·rfl
 ·cases (inB i (np:Int).toNat)
  ·rfl
  ·cases (inB a np)
   ·rfl
   ·cases (inB b np)
    ·rfl
    ·cases (inB i np)
     ·rfl
     ·cases (gF1 (cur js ms n m) (eur js ms n m) ((pv (a).toNat),(pv (b).toNat),(pv (i).toNat),(pn (a).toNat),(pn (b).toNat),(pn (i).toNat),best))
      ·rfl
      ·cases (uB js ms (pv (a).toNat) (pv (b).toNat) (pv (i).toNat) n m (pn (a).toNat) (pn (b).toNat) (pn (i).toNat) best)
       ·rfl
       ·cases (decide (r + 1≤1000000))
        ·rfl
        ·cases (decide (q + 1≤1000000))
         ·rfl
         ·rfl
noncomputable def zGA (N:Nat) (js:Nat→J) (ms:Nat→Ms) (n m:Nat) (np:Nat) (pn:Nat→Nat) (pv:Nat→Nat→Int) (ne:Nat) (ed:Nat→Ed) (a b best:Int) (t:(Int × (Nat→Int) × Nat × (Nat→Int) × Nat × (Nat→List PV))):Bool:=(zU (dcp1 js ms n m np pn pv ne ed a b best) N t).isSome
noncomputable def kQ (N:Nat) (js:Nat→J) (ms:Nat→Ms) (n m:Nat) (np:Nat) (pn:Nat→Nat) (pv:Nat→Nat→Int) (ne:Nat) (ed:Nat→Ed) (a b best:Int) (t:(Int × (Nat→Int) × Nat × (Nat→Int) × Nat × (Nat→List PV))):Nat × Int × (Nat→Int) × Nat × (Nat→Int) × Nat × (Nat→List PV):=(zU (dcp1 js ms n m np pn pv ne ed a b best) N t).getD (99,t)
theorem lwp1 (K:Cont) (N:Nat) (js:Nat→J) (ms:Nat→Ms) (n m:Nat) (np:Nat) (pn:Nat→Nat) (pv:Nat→Nat→Int) (ne:Nat) (ed:Nat→Ed) (a b best:Int) (t:(Int × (Nat→Int) × Nat × (Nat→Int) × Nat × (Nat→List PV))) (hg:zGA N js ms n m np pn pv ne ed a b best t=true):LFT Tf 35 (orp1 N js ms n m np pn pv ne ed a b best) N [] [0,1,0,1,1,1,1,1] K N (hp1 N js ms n m np pn pv ne ed a b best t.1 t.2.1 t.2.2.1 t.2.2.2.1 t.2.2.2.2.1 t.2.2.2.2.2)=kxp1 N js ms n m np pn pv ne ed a b best K (kQ N js ms n m np pn pv ne ed a b best t):=by
 refine (wlp1 K N js ms n m np pn pv ne ed a b best N t).trans ?_;unfold zGA at hg;unfold kQ;cases h:zU (dcp1 js ms n m np pn pv ne ed a b best) N t with
 | none=>rw [h] at hg; cases hg
 | some y=>rfl
noncomputable def hp2 (N:Nat) (js:Nat→J) (ms:Nat→Ms) (n m:Nat) (np:Nat) (pn:Nat→Nat) (pv:Nat→Nat→Int) (ne:Nat) (ed:Nat→Ed) (a b best:Int) (i:Int) (nu:Nat→Int) (r:Nat) (ol:Nat→Int) (q:Nat) (f:Nat→List PV) (s:Nat) (fe:Nat→List PV):St:=⟨[(6,.p 6 0),(10,.p 10 0),(12,.p 12 0),(13,.o 101),(14,.o 64),(16,.v (.n .i64 i))],[(6,.blk [.v (.lf np (fP pn pv)),.v (.lf ne (fE ed))]),(10,.blk [.nl,.nl]),(12,.blk [.o 110,.o 154]),(64,.reg 3 1 (.fo (np:Int).toNat (fun v=>[.n .i64 (nu v)]))),(101,.reg 3 1 (.fo r (fun v=>[.n .i64 (ol v)]))),(110,.reg 30 1 (.fo q f)),(154,.reg 61 12 (.fo s fe))]⟩
set_option maxRecDepth 100000 in
theorem rdp2 (G:St→Option (Ret × Mem)) (K:Cont) (N:Nat) (js:Nat→J) (ms:Nat→Ms) (n m:Nat) (np:Nat) (pn:Nat→Nat) (pv:Nat→Nat→Int) (ne:Nat) (ed:Nat→Ed) (a b best:Int) (i:Int) (nu:Nat→Int) (r:Nat) (ol:Nat→Int) (q:Nat) (f:Nat→List PV) (s:Nat) (fe:Nat→List PV):stpT Tf 35 (orp1 N js ms n m np pn pv ne ed a b best) N [] [0,1,0,1,1,1,1,1,1] K G (hp2 N js ms n m np pn pv ne ed a b best i nu r ol q f s fe) =
 (bif (decide (i < (ne:Int))) then (bif (inB i ne) then (bif (inB (ed (i).toNat).u (np:Int).toNat) then (bif (decide (0≤(nu (ed (i).toNat).u.toNat))) then (bif (inB (ed (i).toNat).v (np:Int).toNat) then (bif (decide (0≤(nu (ed (i).toNat).v.toNat))) then (bif (inB (ed (i).toNat).u (np:Int).toNat) then (bif (inB (ed (i).toNat).v (np:Int).toNat) then (bif (decide (s + 1≤1000000)) then (G (hp2 N js ms n m np pn pv ne ed a b best (vYV .i64 (i + 1)) (fun v=>(nu v)) r (fun v=>(ol v)) q f (s + 1) (fun v=>qH (Nat.beq v s) [.n .i64 (nu (ed (i).toNat).u.toNat),.n .i64 (nu (ed (i).toNat).v.toNat),.n .i64 (ed (i).toNat).c,.n .i64 (ed (i).toNat).s,.n .i64 (ed (i).toNat).kd,.lf (ed (i).toNat).n1 (ed (i).toNat).f1,.n .i64 (ed (i).toNat).dp,.n .i64 (ed (i).toNat).ix,.lf (ed (i).toNat).n2 (ed (i).toNat).f2,.n .i64 (ed (i).toNat).pr,.lf (ed (i).toNat).n3 (ed (i).toNat).f3,.lf (ed (i).toNat).n4 (ed (i).toNat).f4] (fe v))))
 else none)
 else none)
 else none)
 else (G (hp2 N js ms n m np pn pv ne ed a b best (vYV .i64 (i + 1)) (fun v=>(nu v)) r (fun v=>(ol v)) q f s fe)))
 else none)
 else (G (hp2 N js ms n m np pn pv ne ed a b best (vYV .i64 (i + 1)) (fun v=>(nu v)) r (fun v=>(ol v)) q f s fe)))
 else none)
 else none)
 else (K (.exit 2) ⟨[(10,.p 10 0),(12,.p 12 0),(13,.o 101)],[(10,.blk [.nl,.nl]),(12,.blk [.o 110,.o 154]),(101,.reg 3 1 (.fo r (fun v=>[.n .i64 (ol v)]))),(110,.reg 30 1 (.fo q f)),(154,.reg 61 12 (.fo s fe))]⟩)):=by kernel_rfl
noncomputable def dcp2 (js:Nat→J) (ms:Nat→Ms) (n m:Nat) (np:Nat) (pn:Nat→Nat) (pv:Nat→Nat→Int) (ne:Nat) (ed:Nat→Ed) (a b best:Int):(Int × (Nat→Int) × Nat × (Nat→Int) × Nat × (Nat→List PV) × Nat × (Nat→List PV))→(Int × (Nat→Int) × Nat × (Nat→Int) × Nat × (Nat→List PV) × Nat × (Nat→List PV)) ⊕ (Nat × Int × (Nat→Int) × Nat × (Nat→Int) × Nat × (Nat→List PV) × Nat × (Nat→List PV)):=fun t=>match t with | (i,nu,r,ol,q,f,s,fe)=>(bif (decide (i < (ne:Int))) then (bif (inB i ne) then (bif (inB (ed (i).toNat).u (np:Int).toNat) then (bif (decide (0≤(nu (ed (i).toNat).u.toNat))) then (bif (inB (ed (i).toNat).v (np:Int).toNat) then (bif (decide (0≤(nu (ed (i).toNat).v.toNat))) then (bif (decide (s + 1≤1000000)) then (.inl ((vYV .i64 (i + 1)),(fun v=>(nu v)),r,(fun v=>(ol v)),q,f,(s + 1),(fun v=>qH (Nat.beq v s) [.n .i64 (nu (ed (i).toNat).u.toNat),.n .i64 (nu (ed (i).toNat).v.toNat),.n .i64 (ed (i).toNat).c,.n .i64 (ed (i).toNat).s,.n .i64 (ed (i).toNat).kd,.lf (ed (i).toNat).n1 (ed (i).toNat).f1,.n .i64 (ed (i).toNat).dp,.n .i64 (ed (i).toNat).ix,.lf (ed (i).toNat).n2 (ed (i).toNat).f2,.n .i64 (ed (i).toNat).pr,.lf (ed (i).toNat).n3 (ed (i).toNat).f3,.lf (ed (i).toNat).n4 (ed (i).toNat).f4] (fe v)))) else (.inr (1,(i,nu,r,ol,q,f,s,fe)))) else (.inl ((vYV .i64 (i + 1)),(fun v=>(nu v)),r,(fun v=>(ol v)),q,f,s,fe))) else (.inr (1,(i,nu,r,ol,q,f,s,fe)))) else (.inl ((vYV .i64 (i + 1)),(fun v=>(nu v)),r,(fun v=>(ol v)),q,f,s,fe))) else (.inr (1,(i,nu,r,ol,q,f,s,fe)))) else (.inr (1,(i,nu,r,ol,q,f,s,fe)))) else (.inr (0,(i,nu,r,ol,q,f,s,fe))))
noncomputable def kxp2 (N:Nat) (js:Nat→J) (ms:Nat→Ms) (n m:Nat) (np:Nat) (pn:Nat→Nat) (pv:Nat→Nat→Int) (ne:Nat) (ed:Nat→Ed) (a b best:Int) (K:Cont) (w9:Nat × Int × (Nat→Int) × Nat × (Nat→Int) × Nat × (Nat→List PV) × Nat × (Nat→List PV)):Option (Ret × Mem):=bif Nat.beq w9.1 0 then (K (.exit 2) ⟨[(10,.p 10 0),(12,.p 12 0),(13,.o 101)],[(10,.blk [.nl,.nl]),(12,.blk [.o 110,.o 154]),(101,.reg 3 1 (.fo w9.2.2.2.1 (fun v=>[.n .i64 (w9.2.2.2.2.1 v)]))),(110,.reg 30 1 (.fo w9.2.2.2.2.2.1 w9.2.2.2.2.2.2.1)),(154,.reg 61 12 (.fo w9.2.2.2.2.2.2.2.1 w9.2.2.2.2.2.2.2.2))]⟩) else none
theorem wlp2 (K:Cont) (N:Nat) (js:Nat→J) (ms:Nat→Ms) (n m:Nat) (np:Nat) (pn:Nat→Nat) (pv:Nat→Nat→Int) (ne:Nat) (ed:Nat→Ed) (a b best:Int):∀ n9 (t:(Int × (Nat→Int) × Nat × (Nat→Int) × Nat × (Nat→List PV) × Nat × (Nat→List PV))),LFT Tf 35 (orp1 N js ms n m np pn pv ne ed a b best) N [] [0,1,0,1,1,1,1,1,1] K n9 (hp2 N js ms n m np pn pv ne ed a b best t.1 t.2.1 t.2.2.1 t.2.2.2.1 t.2.2.2.2.1 t.2.2.2.2.2.1 t.2.2.2.2.2.2.1 t.2.2.2.2.2.2.2)=(zU (dcp2 js ms n m np pn pv ne ed a b best) n9 t).bind (kxp2 N js ms n m np pn pv ne ed a b best K):=fun n9 t=>by
 refine qJI (L:=LFT Tf 35 (orp1 N js ms n m np pn pv ne ed a b best) N [] [0,1,0,1,1,1,1,1,1] K) (stp:=stpT Tf 35 (orp1 N js ms n m np pn pv ne ed a b best) N [] [0,1,0,1,1,1,1,1,1] K) (fun _ _=>rfl) (fun _=>rfl) (fun t=>hp2 N js ms n m np pn pv ne ed a b best t.1 t.2.1 t.2.2.1 t.2.2.2.1 t.2.2.2.2.1 t.2.2.2.2.2.1 t.2.2.2.2.2.2.1 t.2.2.2.2.2.2.2) (fun _=>True) (dcp2 js ms n m np pn pv ne ed a b best) (kxp2 N js ms n m np pn pv ne ed a b best K) (fun G t _ => ?_) (fun _ _ _ _=>trivial) n9 t trivial;obtain ⟨i,nu,r,ol,q,f,s,fe⟩:=t;refine (rdp2 G K N js ms n m np pn pv ne ed a b best i nu r ol q f s fe).trans ?_;dsimp only [dcp2];cases (decide (i < (ne:Int)))
 ·rfl
 ·cases (inB i ne)
  ·rfl
  ·cases (inB (ed (i).toNat).u (np:Int).toNat)
   ·rfl
   ·cases (decide (0≤(nu (ed (i).toNat).u.toNat)))
    ·rfl
    ·cases (inB (ed (i).toNat).v (np:Int).toNat)
     ·rfl
     ·cases (decide (0≤(nu (ed (i).toNat).v.toNat)))
      ·rfl
      ·cases (decide (s + 1≤1000000))
       ·rfl
       ·rfl
noncomputable def zGH (N:Nat) (js:Nat→J) (ms:Nat→Ms) (n m:Nat) (np:Nat) (pn:Nat→Nat) (pv:Nat→Nat→Int) (ne:Nat) (ed:Nat→Ed) (a b best:Int) (t:(Int × (Nat→Int) × Nat × (Nat→Int) × Nat × (Nat→List PV) × Nat × (Nat→List PV))):Bool:=(zU (dcp2 js ms n m np pn pv ne ed a b best) N t).isSome
noncomputable def zQA (N:Nat) (js:Nat→J) (ms:Nat→Ms) (n m:Nat) (np:Nat) (pn:Nat→Nat) (pv:Nat→Nat→Int) (ne:Nat) (ed:Nat→Ed) (a b best:Int) (t:(Int × (Nat→Int) × Nat × (Nat→Int) × Nat × (Nat→List PV) × Nat × (Nat→List PV))):Nat × Int × (Nat→Int) × Nat × (Nat→Int) × Nat × (Nat→List PV) × Nat × (Nat→List PV):=(zU (dcp2 js ms n m np pn pv ne ed a b best) N t).getD (99,t)
theorem lwp2 (K:Cont) (N:Nat) (js:Nat→J) (ms:Nat→Ms) (n m:Nat) (np:Nat) (pn:Nat→Nat) (pv:Nat→Nat→Int) (ne:Nat) (ed:Nat→Ed) (a b best:Int) (t:(Int × (Nat→Int) × Nat × (Nat→Int) × Nat × (Nat→List PV) × Nat × (Nat→List PV))) (hg:zGH N js ms n m np pn pv ne ed a b best t=true):LFT Tf 35 (orp1 N js ms n m np pn pv ne ed a b best) N [] [0,1,0,1,1,1,1,1,1] K N (hp2 N js ms n m np pn pv ne ed a b best t.1 t.2.1 t.2.2.1 t.2.2.2.1 t.2.2.2.2.1 t.2.2.2.2.2.1 t.2.2.2.2.2.2.1 t.2.2.2.2.2.2.2)=kxp2 N js ms n m np pn pv ne ed a b best K (zQA N js ms n m np pn pv ne ed a b best t):=by
 refine (wlp2 K N js ms n m np pn pv ne ed a b best N t).trans ?_;unfold zGH at hg;unfold zQA;cases h:zU (dcp2 js ms n m np pn pv ne ed a b best) N t with
 | none=>rw [h] at hg; cases hg
 | some y=>rfl
theorem yJX {np:Nat} {js:Nat→J} {ms:Nat→Ms} {n m:Nat} {pn:Nat→Nat} {pv:Nat→Nat→Int} {ne:Nat} {ed:Nat→Ed} {a b best:Int} (hp:np≤1000) (ha:0≤a∧a < (np:Int)) (hb:0≤b∧b < (np:Int)):∀ (d i N:Nat) (t:(Nat→Int) × Nat × (Nat→Int) × Nat × (Nat→List PV)),i + d=np→d < N→PI (usF js ms n m pn pv a b best) pn pv i t→zU (dcp1 js ms n m np pn pv ne ed a b best) N ((i:Int),t)=some (0,(np:Int),qJA (stP (usF js ms n m pn pv a b best) pn pv) d i t)
 | _,_,0,_,_,h,_=>by omega
 | 0,i,N + 1,t,hd,_,hI=>by
  obtain rfl:i=np:=by omega
  obtain ⟨nu,r,ol,q,f⟩:=t;rw [zU];dsimp only [dcp1];rw [vYK (show ¬ (i:Int) < (i:Int) by omega)];rfl
 | d + 1,i,N + 1,t,hd,hN,hI=>by
  have hr:=hI.r;have hq:=hI.q;have hc:=qWG (usF js ms n m pn pv a b best) i;have hs:=hI.step;obtain ⟨nu,r,ol,q,f⟩:=t;dsimp only at hr hq;rw [zU,qJA];dsimp only [dcp1];simp only [vYU (show (i:Int) < (np:Int) by omega),zX (show i < np by omega),toN,jW (C:=cur js ms n m) (t:=(pv a.toNat,pv b.toNat,pv i,pn a.toNat,pn b.toNat,pn i,best)) trivial,vYU (show r + 1≤1000000 by omega),vYU (show q + 1≤1000000 by omega),kZ (show i < 1000000 by omega),vYY,qUL ha.1 ha.2,qUL hb.1 hb.2];have hu:uB js ms (pv a.toNat) (pv b.toNat) (pv i) n m (pn a.toNat) (pn b.toNat) (pn i) best=usF js ms n m pn pv a b best i:=rfl;rw [hu]
  revert hs
  unfold stP;cases usF js ms n m pn pv a b best i with
  | true=>exact fun hs=>yJX hp ha hb d (i + 1) N _ (by omega) (by omega) hs
  | false=>exact fun hs=>yJX hp ha hb d (i + 1) N _ (by omega) (by omega) hs
theorem yYZ {np:Nat} {js:Nat→J} {ms:Nat→Ms} {n m:Nat} {pn:Nat→Nat} {pv:Nat→Nat→Int} {ne:Nat} {ed:Nat→Ed} {a b best:Int} {nu:Nat→Int} {r:Nat} {ol:Nat→Int} {q:Nat} {f:Nat→List PV} (he:ne≤8192) (hrg:∀ i,i < ne→0≤(ed i).u∧(ed i).u < (np:Int)∧0≤(ed i).v∧(ed i).v < (np:Int)):∀ (d i N:Nat) (t:Nat × (Nat→List PV)),i + d=ne→d < N→EI nu ed i t→zU (dcp2 js ms n m np pn pv ne ed a b best) N ((i:Int),nu,r,ol,q,f,t)=some (0,(ne:Int),nu,r,ol,q,f,qJA (egE nu ed) d i t)
 | _,_,0,_,_,h,_=>by omega
 | 0,i,N + 1,t,hd,_,hI=>by
  obtain rfl:i=ne:=by omega
  obtain ⟨s,fe⟩:=t;rw [zU];dsimp only [dcp2];rw [vYK (show ¬ (i:Int) < (i:Int) by omega)];rfl
 | d + 1,i,N + 1,t,hd,hN,hI=>by
  have hr:=hI.s;have hc:=qWG (kpE nu ed) i;have hs:=hI.step;obtain ⟨r1,r2,r3,r4⟩:=hrg i (by omega);obtain ⟨s,fe⟩:=t;dsimp only at hr;rw [zU,qJA];dsimp only [dcp2];simp only [vYU (show (i:Int) < (ne:Int) by omega),zX (show i < ne by omega),toN,qUL r1 r2,qUL r3 r4,vYU (show s + 1≤1000000 by omega),kZ (show i < 1000000 by omega),vYY]
  revert hs
  unfold egE;cases decide (0≤nu (ed i).u.toNat) with
  | false=>exact fun hs=>yYZ he hrg d (i + 1) N _ (by omega) (by omega) hs
  | true =>
   cases decide (0≤nu (ed i).v.toNat) with
   | false=>exact fun hs=>yYZ he hrg d (i + 1) N _ (by omega) (by omega) hs
   | true=>exact fun hs=>yYZ he hrg d (i + 1) N _ (by omega) (by omega) hs
noncomputable def zVW (N:Nat) (js:Nat→J) (ms:Nat→Ms) (n m:Nat) (np:Nat) (pn:Nat→Nat) (pv:Nat→Nat→Int) (ne:Nat) (ed:Nat→Ed) (a b best:Int):List (List Nat × yW):=[([0,1,0,1,1,1,1,1],sumF (fun t:(Int × (Nat→Int) × Nat × (Nat→Int) × Nat × (Nat→List PV))=>(hp1 N js ms n m np pn pv ne ed a b best t.1 t.2.1 t.2.2.1 t.2.2.2.1 t.2.2.2.2.1 t.2.2.2.2.2)) (fun σ=>(slI σ 15,rgI σ 64 0,rgN σ 101,rgI σ 101 0,rgN σ 110,rgF σ 110)) (fun t K=>(bif zGA N js ms n m np pn pv ne ed a b best t then kxp1 N js ms n m np pn pv ne ed a b best K (kQ N js ms n m np pn pv ne ed a b best t) else none))),([0,1,0,1,1,1,1,1,1],sumF (fun t:(Int × (Nat→Int) × Nat × (Nat→Int) × Nat × (Nat→List PV) × Nat × (Nat→List PV))=>(hp2 N js ms n m np pn pv ne ed a b best t.1 t.2.1 t.2.2.1 t.2.2.2.1 t.2.2.2.2.1 t.2.2.2.2.2.1 t.2.2.2.2.2.2.1 t.2.2.2.2.2.2.2)) (fun σ=>(slI σ 16,rgI σ 64 0,rgN σ 101,rgI σ 101 0,rgN σ 110,rgF σ 110,rgN σ 154,rgF σ 154)) (fun t K=>(bif zGH N js ms n m np pn pv ne ed a b best t then kxp2 N js ms n m np pn pv ne ed a b best K (zQA N js ms n m np pn pv ne ed a b best t) else none)))]
set_option maxRecDepth 100000 in
theorem pxrpr0 (N:Nat) (js:Nat→J) (ms:Nat→Ms) (n m:Nat) (np:Nat) (pn:Nat→Nat) (pv:Nat→Nat→Int) (ne:Nat) (ed:Nat→Ed) (a b best:Int):qQU Tf (orp1 N js ms n m np pn pv ne ed a b best) (qJ (zVW N js ms n m np pn pv ne ed a b best)) N 35 [.a [.lf n (fJ js),.lf m (fM ms)],.a [.lf np (fP pn pv),.lf ne (fE ed)],.n .i64 a,.n .i64 b,.n .i64 best] =
 (bif (g1 [.a [.lf n (fJ js),.lf m (fM ms)],.a [.lf np (fP pn pv),.lf ne (fE ed)]] && (decide (np≤1000) && decide (ne≤8192))) then (bif (vmB js ms n m np pn pv ne ed) then (bif (decide (a < 0)) then some (.v (.t [.a [.l [],.l []],.l []]),[])
 else (bif (decide ((np:Int)≤a)) then some (.v (.t [.a [.l [],.l []],.l []]),[])
 else (bif (decide (b < 0)) then some (.v (.t [.a [.l [],.l []],.l []]),[])
 else (bif (decide ((np:Int)≤b)) then some (.v (.t [.a [.l [],.l []],.l []]),[])
 else (bif (inB a np) then (bif (inB b np) then (bif (gF1 (cdr js ms n m) (edr js ms n m) (pv (a).toNat,pv (b).toNat,pn (a).toNat,pn (b).toNat)) then (bif (decide (best < (dsQ js ms (pv (a).toNat) (pv (b).toNat) n m (pn (a).toNat) (pn (b).toNat)))) then some (.v (.t [.a [.l [],.l []],.l []]),[])
 else (bif (decide (0≤(np:Int))) then (bif (decide ((np:Int)≤(np:Int))) then (bif (decide ((np:Int)≤1000000)) then (bif (gSt (hp1 N js ms n m np pn pv ne ed a b best 0 z0 0 z0 0 zP) (hp1 N js ms n m np pn pv ne ed a b best 0 z0 0 z0 0 zP)) then (bif (zGA N js ms n m np pn pv ne ed a b best (0,z0,0,z0,0,zP)) then (bif (Nat.beq (kQ N js ms n m np pn pv ne ed a b best (0,z0,0,z0,0,zP)).1 0) then (bif (gSt (hp2 N js ms n m np pn pv ne ed a b best 0 (fun v=>((kQ N js ms n m np pn pv ne ed a b best (0,z0,0,z0,0,zP)).2.2.1 v)) (kQ N js ms n m np pn pv ne ed a b best (0,z0,0,z0,0,zP)).2.2.2.1 (fun v=>((kQ N js ms n m np pn pv ne ed a b best (0,z0,0,z0,0,zP)).2.2.2.2.1 v)) (kQ N js ms n m np pn pv ne ed a b best (0,z0,0,z0,0,zP)).2.2.2.2.2.1 (kQ N js ms n m np pn pv ne ed a b best (0,z0,0,z0,0,zP)).2.2.2.2.2.2 0 zE) (hp2 N js ms n m np pn pv ne ed a b best 0 (fun v=>((kQ N js ms n m np pn pv ne ed a b best (0,z0,0,z0,0,zP)).2.2.1 v)) (kQ N js ms n m np pn pv ne ed a b best (0,z0,0,z0,0,zP)).2.2.2.1 (fun v=>((kQ N js ms n m np pn pv ne ed a b best (0,z0,0,z0,0,zP)).2.2.2.2.1 v)) (kQ N js ms n m np pn pv ne ed a b best (0,z0,0,z0,0,zP)).2.2.2.2.2.1 (kQ N js ms n m np pn pv ne ed a b best (0,z0,0,z0,0,zP)).2.2.2.2.2.2 0 zE)) then (bif (zGH N js ms n m np pn pv ne ed a b best (0,(fun v=>((kQ N js ms n m np pn pv ne ed a b best (0,z0,0,z0,0,zP)).2.2.1 v)),(kQ N js ms n m np pn pv ne ed a b best (0,z0,0,z0,0,zP)).2.2.2.1,(fun v=>((kQ N js ms n m np pn pv ne ed a b best (0,z0,0,z0,0,zP)).2.2.2.2.1 v)),(kQ N js ms n m np pn pv ne ed a b best (0,z0,0,z0,0,zP)).2.2.2.2.2.1,(kQ N js ms n m np pn pv ne ed a b best (0,z0,0,z0,0,zP)).2.2.2.2.2.2,0,zE)) then (bif (Nat.beq (zQA N js ms n m np pn pv ne ed a b best (0,(fun v=>((kQ N js ms n m np pn pv ne ed a b best (0,z0,0,z0,0,zP)).2.2.1 v)),(kQ N js ms n m np pn pv ne ed a b best (0,z0,0,z0,0,zP)).2.2.2.1,(fun v=>((kQ N js ms n m np pn pv ne ed a b best (0,z0,0,z0,0,zP)).2.2.2.2.1 v)),(kQ N js ms n m np pn pv ne ed a b best (0,z0,0,z0,0,zP)).2.2.2.2.2.1,(kQ N js ms n m np pn pv ne ed a b best (0,z0,0,z0,0,zP)).2.2.2.2.2.2,0,zE)).1 0) then some (.v (.t [.a [.lf (zQA N js ms n m np pn pv ne ed a b best (0,(fun v=>((kQ N js ms n m np pn pv ne ed a b best (0,z0,0,z0,0,zP)).2.2.1 v)),(kQ N js ms n m np pn pv ne ed a b best (0,z0,0,z0,0,zP)).2.2.2.1,(fun v=>((kQ N js ms n m np pn pv ne ed a b best (0,z0,0,z0,0,zP)).2.2.2.2.1 v)),(kQ N js ms n m np pn pv ne ed a b best (0,z0,0,z0,0,zP)).2.2.2.2.2.1,(kQ N js ms n m np pn pv ne ed a b best (0,z0,0,z0,0,zP)).2.2.2.2.2.2,0,zE)).2.2.2.2.2.1 (zQA N js ms n m np pn pv ne ed a b best (0,(fun v=>((kQ N js ms n m np pn pv ne ed a b best (0,z0,0,z0,0,zP)).2.2.1 v)),(kQ N js ms n m np pn pv ne ed a b best (0,z0,0,z0,0,zP)).2.2.2.1,(fun v=>((kQ N js ms n m np pn pv ne ed a b best (0,z0,0,z0,0,zP)).2.2.2.2.1 v)),(kQ N js ms n m np pn pv ne ed a b best (0,z0,0,z0,0,zP)).2.2.2.2.2.1,(kQ N js ms n m np pn pv ne ed a b best (0,z0,0,z0,0,zP)).2.2.2.2.2.2,0,zE)).2.2.2.2.2.2.1,.lf (zQA N js ms n m np pn pv ne ed a b best (0,(fun v=>((kQ N js ms n m np pn pv ne ed a b best (0,z0,0,z0,0,zP)).2.2.1 v)),(kQ N js ms n m np pn pv ne ed a b best (0,z0,0,z0,0,zP)).2.2.2.1,(fun v=>((kQ N js ms n m np pn pv ne ed a b best (0,z0,0,z0,0,zP)).2.2.2.2.1 v)),(kQ N js ms n m np pn pv ne ed a b best (0,z0,0,z0,0,zP)).2.2.2.2.2.1,(kQ N js ms n m np pn pv ne ed a b best (0,z0,0,z0,0,zP)).2.2.2.2.2.2,0,zE)).2.2.2.2.2.2.2.1 (zQA N js ms n m np pn pv ne ed a b best (0,(fun v=>((kQ N js ms n m np pn pv ne ed a b best (0,z0,0,z0,0,zP)).2.2.1 v)),(kQ N js ms n m np pn pv ne ed a b best (0,z0,0,z0,0,zP)).2.2.2.1,(fun v=>((kQ N js ms n m np pn pv ne ed a b best (0,z0,0,z0,0,zP)).2.2.2.2.1 v)),(kQ N js ms n m np pn pv ne ed a b best (0,z0,0,z0,0,zP)).2.2.2.2.2.1,(kQ N js ms n m np pn pv ne ed a b best (0,z0,0,z0,0,zP)).2.2.2.2.2.2,0,zE)).2.2.2.2.2.2.2.2],.lf (zQA N js ms n m np pn pv ne ed a b best (0,(fun v=>((kQ N js ms n m np pn pv ne ed a b best (0,z0,0,z0,0,zP)).2.2.1 v)),(kQ N js ms n m np pn pv ne ed a b best (0,z0,0,z0,0,zP)).2.2.2.1,(fun v=>((kQ N js ms n m np pn pv ne ed a b best (0,z0,0,z0,0,zP)).2.2.2.2.1 v)),(kQ N js ms n m np pn pv ne ed a b best (0,z0,0,z0,0,zP)).2.2.2.2.2.1,(kQ N js ms n m np pn pv ne ed a b best (0,z0,0,z0,0,zP)).2.2.2.2.2.2,0,zE)).2.2.2.1 (fun v=>[.n .i64 ((zQA N js ms n m np pn pv ne ed a b best (0,(fun v=>((kQ N js ms n m np pn pv ne ed a b best (0,z0,0,z0,0,zP)).2.2.1 v)),(kQ N js ms n m np pn pv ne ed a b best (0,z0,0,z0,0,zP)).2.2.2.1,(fun v=>((kQ N js ms n m np pn pv ne ed a b best (0,z0,0,z0,0,zP)).2.2.2.2.1 v)),(kQ N js ms n m np pn pv ne ed a b best (0,z0,0,z0,0,zP)).2.2.2.2.2.1,(kQ N js ms n m np pn pv ne ed a b best (0,z0,0,z0,0,zP)).2.2.2.2.2.2,0,zE)).2.2.2.2.1 v)])]),[])
 else none)
 else none)
 else none)
 else none)
 else none)
 else none)
 else none)
 else none)
 else none))
 else none)
 else none)
 else none)))))
 else some (.v (.t [.a [.l [],.l []],.l []]),[]))
 else none):=by kernel_rfl
theorem snd_rpr0 (N:Nat) (js:Nat→J) (ms:Nat→Ms) (n m:Nat) (np:Nat) (pn:Nat→Nat) (pv:Nat→Nat→Int) (ne:Nat) (ed:Nat→Ed) (a b best:Int) (hN:np + ne < N) (hp:np≤1000) (he:ne≤8192):zQ Tryz.prog 35 [.a [.lf n (fJ js),.lf m (fM ms)],.a [.lf np (fP pn pv),.lf ne (fE ed)],.n .i64 a,.n .i64 b,.n .i64 best] (.v (bif prB js ms n m np pn pv ne ed a b best then prV js ms n m np pn pv ne ed a b best else prZ)):=by
 refine qV (N:=N) (LO:=qJ (zVW N js ms n m np pn pv ne ed a b best)) jY jQ (jK (l:=[(66,o_lk [.a [.lf n (fJ js),.lf m (fM ms)],.a [.lf np (fP pn pv),.lf ne (fE ed)]] (decide (np≤1000) && decide (ne≤8192)) (.v (.b (vmB js ms n m np pn pv ne ed)))),(10,o_dr js ms n m),(14,o_ur js ms n m)]) (m:=[]) ⟨qWI (fun h=>snd_vm js ms n m np pn pv ne ed (vYX (vQJ _ _ ▸ h).1) (vYX (vQJ _ _ ▸ h).2)),zGI js ms n m,ok_ur js ms n m,trivial⟩ trivial) (fun p S hp => ?_) ?_
 ·refine qW (L:=qY Tf 35) (l:=(zVW N js ms n m np pn pv ne ed a b best)) (show AllP _ (zVW N js ms n m np pn pv ne ed a b best) from ⟨?_,?_,trivial⟩) p S hp
  ·dsimp only;refine jJ (T:=Tf) (o:=(orp1 N js ms n m np pn pv ne ed a b best)) (f:=35) (LO:=qJ []) (p:=[0,1,0,1,1,1,1,1]) jU ?_;intro t K r hr;obtain ⟨hg,hr⟩:=qZ hr
   skip
   exact (lwp1 K N js ms n m np pn pv ne ed a b best t hg).trans hr
  ·dsimp only;refine jJ (T:=Tf) (o:=(orp1 N js ms n m np pn pv ne ed a b best)) (f:=35) (LO:=qJ []) (p:=[0,1,0,1,1,1,1,1,1]) jU ?_;intro t K r hr;obtain ⟨hg,hr⟩:=qZ hr
   skip
   exact (lwp2 K N js ms n m np pn pv ne ed a b best t hg).trans hr
 ·refine (pxrpr0 N js ms n m np pn pv ne ed a b best).trans ?_;cases hv:vmB js ms n m np pn pv ne ed with
  | false=>rw [g1_t,vYU hp,vYU he]; unfold prB; rw [hv]; rfl
  | true =>
   have hin:=zHY hv;have hpn:∀ j,j < np→pn j≤50:=fun j hj=>by have:=qKF (hin j hj); omega
   have hrg:=vm_rg hv;rw [g1_t,vYU hp,vYU he];by_cases h1:a < 0
   ·rw [vYU h1];unfold prB;rw [vYK (show ¬ (0≤a∧a < (np:Int)) by omega)];simp only [Bool.false_and,Bool.and_false];rfl
   rw [vYK h1];by_cases h2:(np:Int)≤a
   ·rw [vYU h2];unfold prB;rw [vYK (show ¬ (0≤a∧a < (np:Int)) by omega)];simp only [Bool.false_and,Bool.and_false];rfl
   rw [vYK h2];by_cases h3:b < 0
   ·rw [vYU h3];unfold prB;rw [vYK (show ¬ (0≤b∧b < (np:Int)) by omega)];simp only [Bool.false_and,Bool.and_false];rfl
   rw [vYK h3];by_cases h4:(np:Int)≤b
   ·rw [vYU h4];unfold prB;rw [vYK (show ¬ (0≤b∧b < (np:Int)) by omega)];simp only [Bool.false_and,Bool.and_false];rfl
   have ha:0≤a∧a < (np:Int):=by omega
   have hb:0≤b∧b < (np:Int):=by omega
   rw [vYK h4,qUL ha.1 ha.2,qUL hb.1 hb.2,jW (C:=cdr js ms n m) (t:=(pv a.toNat,pv b.toNat,pn a.toNat,pn b.toNat)) ⟨hpn _ (by omega),hpn _ (by omega)⟩];by_cases hd:best < dE js ms n m pn pv a.toNat b.toNat
   ·rw [show decide (best < dsQ js ms (pv a.toNat) (pv b.toNat) n m (pn a.toNat) (pn b.toNat))=true from vYU hd];unfold prB;rw [vYU hd];simp only [Bool.not_true,Bool.and_false];rfl
   ·rw [show decide (best < dsQ js ms (pv a.toNat) (pv b.toNat) n m (pn a.toNat) (pn b.toNat))=false from vYK hd];have i1:=yJX (n:=n) (m:=m) (js:=js) (ms:=ms) (pn:=pn) (pv:=pv) (ne:=ne) (ed:=ed) (a:=a) (b:=b) (best:=best) hp ha hb np 0 N (z0,0,z0,0,zP) (by omega) (by omega) ⟨rfl,rfl,fun v hv=>absurd hv (Nat.not_lt_zero v),fun v hv=>absurd hv (Nat.not_lt_zero v)⟩;rw [show ((0:Nat):Int)=0 from rfl] at i1;have o1:zGA N js ms n m np pn pv ne ed a b best (0,z0,0,z0,0,zP)=true:=by unfold zGA; rw [i1]; rfl
    have o2:kQ N js ms n m np pn pv ne ed a b best (0,z0,0,z0,0,zP)=(0,(np:Int),prT (usF js ms n m pn pv a b best) pn pv np):=by unfold kQ; rw [i1]; rfl
    have i2:=yYZ (n:=n) (m:=m) (js:=js) (ms:=ms) (pn:=pn) (pv:=pv) (np:=np) (a:=a) (b:=b) (best:=best) (nu:=(prT (usF js ms n m pn pv a b best) pn pv np).1) (r:=(prT (usF js ms n m pn pv a b best) pn pv np).2.1) (ol:=(prT (usF js ms n m pn pv a b best) pn pv np).2.2.1) (q:=(prT (usF js ms n m pn pv a b best) pn pv np).2.2.2.1) (f:=(prT (usF js ms n m pn pv a b best) pn pv np).2.2.2.2) he hrg ne 0 N (0,zE) (by omega) (by omega) ⟨rfl,fun v hv=>absurd hv (Nat.not_lt_zero v)⟩;rw [show ((0:Nat):Int)=0 from rfl] at i2;generalize hT:prT (usF js ms n m pn pv a b best) pn pv np=T at o2 i2;have o3:zGH N js ms n m np pn pv ne ed a b best (0,T.1,T.2.1,T.2.2.1,T.2.2.2.1,T.2.2.2.2,0,zE)=true:=by unfold zGH; rw [i2]; rfl
    have o4:zQA N js ms n m np pn pv ne ed a b best (0,T.1,T.2.1,T.2.2.1,T.2.2.2.1,T.2.2.2.2,0,zE)=(0,(ne:Int),T.1,T.2.1,T.2.2.1,T.2.2.2.1,T.2.2.2.2,prU T.1 ed ne):=by unfold zQA; rw [i2]; rfl
    simp only [vYU (show (0:Int)≤(np:Int) by omega),vYU (show (np:Int)≤(np:Int) by omega),vYU (show (np:Int)≤1000000 by omega),zV,o1,o2,o3,o4,vYY,vYJ,vZQ];unfold prB prV;rw [hT,hv,vYU ha,vYU hb,vYK hd];rfl
end Go.Proofs.YtklmegnpfhiibaaGreat.Xo

/- Part 32 of the texts behind the last one: rules and contracts. No condition. -/
import Derived.Test.YtklmegnpfhiibaaGreatBK31
open Go.IntKind renaming wrap → vYW
namespace Go.Proofs.YtklmegnpfhiibaaGreat.Xr
open Go.Rx Rt Go.Sx Go.RowKit Od Nb Nc Xb Xc Bb Xe Xf Xg Xh Xi Xk Xm Xn Xo Xp Xq Sq
noncomputable def orb1 (N:Nat) (js:Nat→J) (ms:Nat→Ms) (n m:Nat) (np:Nat) (pn:Nat→Nat) (pv:Nat→Nat→Int) (k:Nat) (q:Nat→Int) (nt:Int):OrS:=orS [(10,o_dr js ms n m)] []
noncomputable def hb2 (N:Nat) (js:Nat→J) (ms:Nat→Ms) (n m:Nat) (np:Nat) (pn:Nat→Nat) (pv:Nat→Nat→Int) (k:Nat) (q:Nat→Int) (nt:Int) (i:Int) (x:Int) (d:Int) (r:Nat) (ol:Nat→Int):St:=⟨[(1,.v (.lf np (fP pn pv))),(2,.v (.lf k (fQ q))),(3,.v (.n .i64 nt)),(4,.p 4 0),(9,.o 27),(10,.v (.n .i64 i)),(11,.v (.n .i64 x)),(12,.v (.n .i64 d))],[(4,.blk [.v (.lf n (fJ js)),.v (.lf m (fM ms))]),(27,.reg 3 1 (.fo r (fun v=>[.n .i64 (ol v)])))]⟩
set_option maxRecDepth 100000 in
theorem rdb2 (G:St→Option (Ret × Mem)) (K:Cont) (N:Nat) (js:Nat→J) (ms:Nat→Ms) (n m:Nat) (np:Nat) (pn:Nat→Nat) (pv:Nat→Nat→Int) (k:Nat) (q:Nat→Int) (nt:Int) (i:Int) (x:Int) (d:Int) (r:Nat) (ol:Nat→Int):stpT Tf 54 (orb1 N js ms n m np pn pv k q nt) N [] [0,1,1,1,1,0,0,1,0,0,1,0,1,1] K G (hb2 N js ms n m np pn pv k q nt i x d r ol) =
 (bif (decide (0 < x)) then (bif (inB (vYW .i64 (x - 1)) r) then (bif (inB (ol (vYW .i64 (x - 1)).toNat) np) then (bif (gF1 (cdr js ms n m) (edr js ms n m) ((pv ((ol (vYW .i64 (x - 1)).toNat)).toNat),q,(pn ((ol (vYW .i64 (x - 1)).toNat)).toNat),k)) then (bif (decide (d < (dsQ js ms (pv ((ol (vYW .i64 (x - 1)).toNat)).toNat) q n m (pn ((ol (vYW .i64 (x - 1)).toNat)).toNat) k))) then (bif (inB (vYW .i64 (x - 1)) r) then (bif (inB x r) then (bif (inB x r) then (bif (inB (vYW .i64 (x - 1)) r) then (G (hb2 N js ms n m np pn pv k q nt i (vYW .i64 (x - 1)) d r (fun v=>(bif (Nat.beq v (vYW .i64 (x - 1)).toNat) then (ol (x).toNat) else (bif (Nat.beq v (x).toNat) then (ol (vYW .i64 (x - 1)).toNat) else (ol v))))))
 else none)
 else none)
 else none)
 else none)
 else (K (.exit 2) ⟨[(1,.v (.lf np (fP pn pv))),(2,.v (.lf k (fQ q))),(3,.v (.n .i64 nt)),(4,.p 4 0),(9,.o 27),(10,.v (.n .i64 i))],[(4,.blk [.v (.lf n (fJ js)),.v (.lf m (fM ms))]),(27,.reg 3 1 (.fo r (fun v=>[.n .i64 (ol v)])))]⟩))
 else none)
 else none)
 else none)
 else (K (.exit 2) ⟨[(1,.v (.lf np (fP pn pv))),(2,.v (.lf k (fQ q))),(3,.v (.n .i64 nt)),(4,.p 4 0),(9,.o 27),(10,.v (.n .i64 i))],[(4,.blk [.v (.lf n (fJ js)),.v (.lf m (fM ms))]),(27,.reg 3 1 (.fo r (fun v=>[.n .i64 (ol v)])))]⟩)):=by kernel_rfl
noncomputable def dcb2 (js:Nat→J) (ms:Nat→Ms) (n m:Nat) (np:Nat) (pn:Nat→Nat) (pv:Nat→Nat→Int) (k:Nat) (q:Nat→Int) (nt:Int):(Int × Int × Int × Nat × (Nat→Int))→(Int × Int × Int × Nat × (Nat→Int)) ⊕ (Nat × Int × Int × Int × Nat × (Nat→Int)):=fun t=>match t with | (i,x,d,r,ol)=>(bif (decide (0 < x)) then (bif (inB (vYW .i64 (x - 1)) r) then (bif (inB (ol (vYW .i64 (x - 1)).toNat) np) then (bif (gF1 (cdr js ms n m) (edr js ms n m) ((pv ((ol (vYW .i64 (x - 1)).toNat)).toNat),q,(pn ((ol (vYW .i64 (x - 1)).toNat)).toNat),k)) then (bif (decide (d < (dsQ js ms (pv ((ol (vYW .i64 (x - 1)).toNat)).toNat) q n m (pn ((ol (vYW .i64 (x - 1)).toNat)).toNat) k))) then (bif (inB x r) then (.inl (i,(vYW .i64 (x - 1)),d,r,(fun v=>(bif (Nat.beq v (vYW .i64 (x - 1)).toNat) then (ol (x).toNat) else (bif (Nat.beq v (x).toNat) then (ol (vYW .i64 (x - 1)).toNat) else (ol v)))))) else (.inr (1,(i,x,d,r,ol)))) else (.inr (0,(i,x,d,r,ol)))) else (.inr (1,(i,x,d,r,ol)))) else (.inr (1,(i,x,d,r,ol)))) else (.inr (1,(i,x,d,r,ol)))) else (.inr (0,(i,x,d,r,ol))))
noncomputable def kxb2 (N:Nat) (js:Nat→J) (ms:Nat→Ms) (n m:Nat) (np:Nat) (pn:Nat→Nat) (pv:Nat→Nat→Int) (k:Nat) (q:Nat→Int) (nt:Int) (K:Cont) (w9:Nat × Int × Int × Int × Nat × (Nat→Int)):Option (Ret × Mem):=bif Nat.beq w9.1 0 then (K (.exit 2) ⟨[(1,.v (.lf np (fP pn pv))),(2,.v (.lf k (fQ q))),(3,.v (.n .i64 nt)),(4,.p 4 0),(9,.o 27),(10,.v (.n .i64 w9.2.1))],[(4,.blk [.v (.lf n (fJ js)),.v (.lf m (fM ms))]),(27,.reg 3 1 (.fo w9.2.2.2.2.1 (fun v=>[.n .i64 (w9.2.2.2.2.2 v)])))]⟩) else none
theorem wlb2 (K:Cont) (N:Nat) (js:Nat→J) (ms:Nat→Ms) (n m:Nat) (np:Nat) (pn:Nat→Nat) (pv:Nat→Nat→Int) (k:Nat) (q:Nat→Int) (nt:Int):∀ n9 (t:(Int × Int × Int × Nat × (Nat→Int))),LFT Tf 54 (orb1 N js ms n m np pn pv k q nt) N [] [0,1,1,1,1,0,0,1,0,0,1,0,1,1] K n9 (hb2 N js ms n m np pn pv k q nt t.1 t.2.1 t.2.2.1 t.2.2.2.1 t.2.2.2.2)=(qG (dcb2 js ms n m np pn pv k q nt) n9 t).bind (kxb2 N js ms n m np pn pv k q nt K):=fun n9 t=>by
 refine qYG (L:=LFT Tf 54 (orb1 N js ms n m np pn pv k q nt) N [] [0,1,1,1,1,0,0,1,0,0,1,0,1,1] K) (stp:=stpT Tf 54 (orb1 N js ms n m np pn pv k q nt) N [] [0,1,1,1,1,0,0,1,0,0,1,0,1,1] K) (fun _ _=>rfl) (fun _=>rfl) (fun t=>hb2 N js ms n m np pn pv k q nt t.1 t.2.1 t.2.2.1 t.2.2.2.1 t.2.2.2.2) (fun _=>True) (dcb2 js ms n m np pn pv k q nt) (kxb2 N js ms n m np pn pv k q nt K) (fun G t _ => ?_) (fun _ _ _ _=>trivial) n9 t trivial;obtain ⟨i,x,d,r,ol⟩:=t;refine (rdb2 G K N js ms n m np pn pv k q nt i x d r ol).trans ?_;dsimp only [dcb2];cases (decide (0 < x))
 ·rfl
 ·cases (inB (vYW .i64 (x - 1)) r)
  ·rfl
  ·cases (inB (ol (vYW .i64 (x - 1)).toNat) np)
   ·rfl
   ·cases (gF1 (cdr js ms n m) (edr js ms n m) ((pv ((ol (vYW .i64 (x - 1)).toNat)).toNat),q,(pn ((ol (vYW .i64 (x - 1)).toNat)).toNat),k))
    ·rfl
    ·cases (decide (d < (dsQ js ms (pv ((ol (vYW .i64 (x - 1)).toNat)).toNat) q n m (pn ((ol (vYW .i64 (x - 1)).toNat)).toNat) k)))
     ·rfl
     ·cases (inB x r)
      ·rfl
      ·rfl
noncomputable def zXU (N:Nat) (js:Nat→J) (ms:Nat→Ms) (n m:Nat) (np:Nat) (pn:Nat→Nat) (pv:Nat→Nat→Int) (k:Nat) (q:Nat→Int) (nt:Int) (t:(Int × Int × Int × Nat × (Nat→Int))):Bool:=(qG (dcb2 js ms n m np pn pv k q nt) N t).isSome
noncomputable def qGU (N:Nat) (js:Nat→J) (ms:Nat→Ms) (n m:Nat) (np:Nat) (pn:Nat→Nat) (pv:Nat→Nat→Int) (k:Nat) (q:Nat→Int) (nt:Int) (t:(Int × Int × Int × Nat × (Nat→Int))):Nat × Int × Int × Int × Nat × (Nat→Int):=(qG (dcb2 js ms n m np pn pv k q nt) N t).getD (99,t)
theorem lwb2 (K:Cont) (N:Nat) (js:Nat→J) (ms:Nat→Ms) (n m:Nat) (np:Nat) (pn:Nat→Nat) (pv:Nat→Nat→Int) (k:Nat) (q:Nat→Int) (nt:Int) (t:(Int × Int × Int × Nat × (Nat→Int))) (hg:zXU N js ms n m np pn pv k q nt t=true):LFT Tf 54 (orb1 N js ms n m np pn pv k q nt) N [] [0,1,1,1,1,0,0,1,0,0,1,0,1,1] K N (hb2 N js ms n m np pn pv k q nt t.1 t.2.1 t.2.2.1 t.2.2.2.1 t.2.2.2.2)=kxb2 N js ms n m np pn pv k q nt K (qGU N js ms n m np pn pv k q nt t):=by
 refine (wlb2 K N js ms n m np pn pv k q nt N t).trans ?_;unfold zXU at hg;unfold qGU;cases h:qG (dcb2 js ms n m np pn pv k q nt) N t with
 | none=>rw [h] at hg; cases hg
 | some y=>rfl
noncomputable def lib2 (N:Nat) (js:Nat→J) (ms:Nat→Ms) (n m:Nat) (np:Nat) (pn:Nat→Nat) (pv:Nat→Nat→Int) (k:Nat) (q:Nat→Int) (nt:Int):List (List Nat × yV):=[([0,1,1,1,1,0,0,1,0,0,1,0,1,1],sumF (fun t:(Int × Int × Int × Nat × (Nat→Int))=>(hb2 N js ms n m np pn pv k q nt t.1 t.2.1 t.2.2.1 t.2.2.2.1 t.2.2.2.2)) (fun σ=>(slI σ 10,slI σ 11,slI σ 12,rgN σ 27,rgI σ 27 0)) (fun t K=>(bif zXU N js ms n m np pn pv k q nt t then kxb2 N js ms n m np pn pv k q nt K (qGU N js ms n m np pn pv k q nt t) else none)))]
theorem okb2 (N:Nat) (js:Nat→J) (ms:Nat→Ms) (n m:Nat) (np:Nat) (pn:Nat→Nat) (pv:Nat→Nat→Int) (k:Nat) (q:Nat→Int) (nt:Int):∀ p S,qY (lib2 N js ms n m np pn pv k q nt) p=some S→kX N (cxS Tf (orb1 N js ms n m np pn pv k q nt) N 54 (ntmF Tf 54)) (qZ Tf 54 p) S:=fun p S hp=>by
 refine qX (L:=qZ Tf 54) (l:=(lib2 N js ms n m np pn pv k q nt)) (show AllP _ (lib2 N js ms n m np pn pv k q nt) from ⟨?_,trivial⟩) p S hp;dsimp only;refine jQ (T:=Tf) (o:=(orb1 N js ms n m np pn pv k q nt)) (f:=54) (LO:=qY []) (p:=[0,1,1,1,1,0,0,1,0,0,1,0,1,1]) jU ?_;intro t K r hr;obtain ⟨hg,hr⟩:=qQ hr
 skip
 exact (lwb2 K N js ms n m np pn pv k q nt t hg).trans hr
noncomputable def hb1 (N:Nat) (js:Nat→J) (ms:Nat→Ms) (n m:Nat) (np:Nat) (pn:Nat→Nat) (pv:Nat→Nat→Int) (k:Nat) (q:Nat→Int) (nt:Int) (i:Int) (r:Nat) (ol:Nat→Int):St:=⟨[(1,.v (.lf np (fP pn pv))),(2,.v (.lf k (fQ q))),(3,.v (.n .i64 nt)),(4,.p 4 0),(9,.o 27),(10,.v (.n .i64 i))],[(4,.blk [.v (.lf n (fJ js)),.v (.lf m (fM ms))]),(27,.reg 3 1 (.fo r (fun v=>[.n .i64 (ol v)])))]⟩
set_option maxRecDepth 100000 in
theorem rdb1 (G:St→Option (Ret × Mem)) (K:Cont) (N:Nat) (js:Nat→J) (ms:Nat→Ms) (n m:Nat) (np:Nat) (pn:Nat→Nat) (pv:Nat→Nat→Int) (k:Nat) (q:Nat→Int) (nt:Int) (i:Int) (r:Nat) (ol:Nat→Int):stpT Tf 54 (orb1 N js ms n m np pn pv k q nt) N (lib2 N js ms n m np pn pv k q nt) [0,1,0,1,1] K G (hb1 N js ms n m np pn pv k q nt i r ol) =
 (bif (decide (i < (np:Int))) then (bif (decide (i=nt)) then (G (hb1 N js ms n m np pn pv k q nt (vYW .i64 (i + 1)) r (fun v=>(ol v))))
 else (bif (decide (r + 1≤1000000)) then (bif (inB i np) then (bif (gF1 (cdr js ms n m) (edr js ms n m) ((pv (i).toNat),q,(pn (i).toNat),k)) then (bif (gSt (hb2 N js ms n m np pn pv k q nt i (r:Int) (dsQ js ms (pv (i).toNat) q n m (pn (i).toNat) k) (r + 1) (fun v=>(bif (Nat.beq v r) then i else (ol v)))) (hb2 N js ms n m np pn pv k q nt i (r:Int) (dsQ js ms (pv (i).toNat) q n m (pn (i).toNat) k) (r + 1) (fun v=>(bif (Nat.beq v r) then i else (ol v))))) then (bif (zXU N js ms n m np pn pv k q nt (i,(r:Int),(dsQ js ms (pv (i).toNat) q n m (pn (i).toNat) k),(r + 1),(fun v=>(bif (Nat.beq v r) then i else (ol v))))) then (bif (Nat.beq (qGU N js ms n m np pn pv k q nt (i,(r:Int),(dsQ js ms (pv (i).toNat) q n m (pn (i).toNat) k),(r + 1),(fun v=>(bif (Nat.beq v r) then i else (ol v))))).1 0) then (G (hb1 N js ms n m np pn pv k q nt (vYW .i64 ((qGU N js ms n m np pn pv k q nt (i,(r:Int),(dsQ js ms (pv (i).toNat) q n m (pn (i).toNat) k),(r + 1),(fun v=>(bif (Nat.beq v r) then i else (ol v))))).2.1 + 1)) (qGU N js ms n m np pn pv k q nt (i,(r:Int),(dsQ js ms (pv (i).toNat) q n m (pn (i).toNat) k),(r + 1),(fun v=>(bif (Nat.beq v r) then i else (ol v))))).2.2.2.2.1 (fun v=>((qGU N js ms n m np pn pv k q nt (i,(r:Int),(dsQ js ms (pv (i).toNat) q n m (pn (i).toNat) k),(r + 1),(fun v=>(bif (Nat.beq v r) then i else (ol v))))).2.2.2.2.2 v))))
 else none)
 else none)
 else none)
 else none)
 else none)
 else none))
 else (K (.exit 0) ⟨[(9,.o 27)],[(27,.reg 3 1 (.fo r (fun v=>[.n .i64 (ol v)])))]⟩)):=by kernel_rfl
noncomputable def dcb1 (N:Nat) (js:Nat→J) (ms:Nat→Ms) (n m:Nat) (np:Nat) (pn:Nat→Nat) (pv:Nat→Nat→Int) (k:Nat) (q:Nat→Int) (nt:Int):(Int × Nat × (Nat→Int))→(Int × Nat × (Nat→Int)) ⊕ (Nat × Int × Nat × (Nat→Int)):=fun t=>match t with | (i,r,ol)=>(bif (decide (i < (np:Int))) then (bif (decide (i=nt)) then (.inl ((vYW .i64 (i + 1)),r,(fun v=>(ol v)))) else (bif (decide (r + 1≤1000000)) then (bif (inB i np) then (bif (gF1 (cdr js ms n m) (edr js ms n m) ((pv (i).toNat),q,(pn (i).toNat),k)) then (bif (gSt (hb2 N js ms n m np pn pv k q nt i (r:Int) (dsQ js ms (pv (i).toNat) q n m (pn (i).toNat) k) (r + 1) (fun v=>(bif (Nat.beq v r) then i else (ol v)))) (hb2 N js ms n m np pn pv k q nt i (r:Int) (dsQ js ms (pv (i).toNat) q n m (pn (i).toNat) k) (r + 1) (fun v=>(bif (Nat.beq v r) then i else (ol v))))) then (bif (zXU N js ms n m np pn pv k q nt (i,(r:Int),(dsQ js ms (pv (i).toNat) q n m (pn (i).toNat) k),(r + 1),(fun v=>(bif (Nat.beq v r) then i else (ol v))))) then (bif (Nat.beq (qGU N js ms n m np pn pv k q nt (i,(r:Int),(dsQ js ms (pv (i).toNat) q n m (pn (i).toNat) k),(r + 1),(fun v=>(bif (Nat.beq v r) then i else (ol v))))).1 0) then (.inl ((vYW .i64 ((qGU N js ms n m np pn pv k q nt (i,(r:Int),(dsQ js ms (pv (i).toNat) q n m (pn (i).toNat) k),(r + 1),(fun v=>(bif (Nat.beq v r) then i else (ol v))))).2.1 + 1)),(qGU N js ms n m np pn pv k q nt (i,(r:Int),(dsQ js ms (pv (i).toNat) q n m (pn (i).toNat) k),(r + 1),(fun v=>(bif (Nat.beq v r) then i else (ol v))))).2.2.2.2.1,(fun v=>((qGU N js ms n m np pn pv k q nt (i,(r:Int),(dsQ js ms (pv (i).toNat) q n m (pn (i).toNat) k),(r + 1),(fun v=>(bif (Nat.beq v r) then i else (ol v))))).2.2.2.2.2 v)))) else (.inr (1,(i,r,ol)))) else (.inr (1,(i,r,ol)))) else (.inr (1,(i,r,ol)))) else (.inr (1,(i,r,ol)))) else (.inr (1,(i,r,ol)))) else (.inr (1,(i,r,ol))))) else (.inr (0,(i,r,ol))))
noncomputable def kxb1 (N:Nat) (js:Nat→J) (ms:Nat→Ms) (n m:Nat) (np:Nat) (pn:Nat→Nat) (pv:Nat→Nat→Int) (k:Nat) (q:Nat→Int) (nt:Int) (K:Cont) (w9:Nat × Int × Nat × (Nat→Int)):Option (Ret × Mem):=bif Nat.beq w9.1 0 then (K (.exit 0) ⟨[(9,.o 27)],[(27,.reg 3 1 (.fo w9.2.2.1 (fun v=>[.n .i64 (w9.2.2.2 v)])))]⟩) else none
theorem wlb1 (K:Cont) (N:Nat) (js:Nat→J) (ms:Nat→Ms) (n m:Nat) (np:Nat) (pn:Nat→Nat) (pv:Nat→Nat→Int) (k:Nat) (q:Nat→Int) (nt:Int):∀ n9 (t:(Int × Nat × (Nat→Int))),LFT Tf 54 (orb1 N js ms n m np pn pv k q nt) N (lib2 N js ms n m np pn pv k q nt) [0,1,0,1,1] K n9 (hb1 N js ms n m np pn pv k q nt t.1 t.2.1 t.2.2)=(qG (dcb1 N js ms n m np pn pv k q nt) n9 t).bind (kxb1 N js ms n m np pn pv k q nt K):=fun n9 t=>by
 refine qYG (L:=LFT Tf 54 (orb1 N js ms n m np pn pv k q nt) N (lib2 N js ms n m np pn pv k q nt) [0,1,0,1,1] K) (stp:=stpT Tf 54 (orb1 N js ms n m np pn pv k q nt) N (lib2 N js ms n m np pn pv k q nt) [0,1,0,1,1] K) (fun _ _=>rfl) (fun _=>rfl) (fun t=>hb1 N js ms n m np pn pv k q nt t.1 t.2.1 t.2.2) (fun _=>True) (dcb1 N js ms n m np pn pv k q nt) (kxb1 N js ms n m np pn pv k q nt K) (fun G t _ => ?_) (fun _ _ _ _=>trivial) n9 t trivial;obtain ⟨i,r,ol⟩:=t;refine (rdb1 G K N js ms n m np pn pv k q nt i r ol).trans ?_;dsimp only [dcb1];cases (decide (i < (np:Int)))
 ·rfl
 ·cases (decide (i=nt))
  ·cases (decide (r + 1≤1000000))
   ·rfl
   ·cases (inB i np)
    ·rfl
    ·cases (gF1 (cdr js ms n m) (edr js ms n m) ((pv (i).toNat),q,(pn (i).toNat),k))
     ·rfl
     ·cases (gSt (hb2 N js ms n m np pn pv k q nt i (r:Int) (dsQ js ms (pv (i).toNat) q n m (pn (i).toNat) k) (r + 1) (fun v=>(bif (Nat.beq v r) then i else (ol v)))) (hb2 N js ms n m np pn pv k q nt i (r:Int) (dsQ js ms (pv (i).toNat) q n m (pn (i).toNat) k) (r + 1) (fun v=>(bif (Nat.beq v r) then i else (ol v)))))
      ·rfl
      ·cases (zXU N js ms n m np pn pv k q nt (i,(r:Int),(dsQ js ms (pv (i).toNat) q n m (pn (i).toNat) k),(r + 1),(fun v=>(bif (Nat.beq v r) then i else (ol v)))))
       ·rfl
       ·cases (Nat.beq (qGU N js ms n m np pn pv k q nt (i,(r:Int),(dsQ js ms (pv (i).toNat) q n m (pn (i).toNat) k),(r + 1),(fun v=>(bif (Nat.beq v r) then i else (ol v))))).1 0)
        ·rfl
        ·rfl
  ·rfl
noncomputable def zHG (N:Nat) (js:Nat→J) (ms:Nat→Ms) (n m:Nat) (np:Nat) (pn:Nat→Nat) (pv:Nat→Nat→Int) (k:Nat) (q:Nat→Int) (nt:Int) (t:(Int × Nat × (Nat→Int))):Bool:=(qG (dcb1 N js ms n m np pn pv k q nt) N t).isSome
noncomputable def zUL (N:Nat) (js:Nat→J) (ms:Nat→Ms) (n m:Nat) (np:Nat) (pn:Nat→Nat) (pv:Nat→Nat→Int) (k:Nat) (q:Nat→Int) (nt:Int) (t:(Int × Nat × (Nat→Int))):Nat × Int × Nat × (Nat→Int):=(qG (dcb1 N js ms n m np pn pv k q nt) N t).getD (99,t)
theorem lwb1 (K:Cont) (N:Nat) (js:Nat→J) (ms:Nat→Ms) (n m:Nat) (np:Nat) (pn:Nat→Nat) (pv:Nat→Nat→Int) (k:Nat) (q:Nat→Int) (nt:Int) (t:(Int × Nat × (Nat→Int))) (hg:zHG N js ms n m np pn pv k q nt t=true):LFT Tf 54 (orb1 N js ms n m np pn pv k q nt) N (lib2 N js ms n m np pn pv k q nt) [0,1,0,1,1] K N (hb1 N js ms n m np pn pv k q nt t.1 t.2.1 t.2.2)=kxb1 N js ms n m np pn pv k q nt K (zUL N js ms n m np pn pv k q nt t):=by
 refine (wlb1 K N js ms n m np pn pv k q nt N t).trans ?_;unfold zHG at hg;unfold zUL;cases h:qG (dcb1 N js ms n m np pn pv k q nt) N t with
 | none=>rw [h] at hg; cases hg
 | some y=>rfl
def bdO (np:Nat) (nt:Int) (r:Nat) (ol:Nat→Int):Prop:=∀ v,v < r→0≤ol v∧ol v < (np:Int)∧ol v ≠ nt
section
variable {js:Nat→J} {ms:Nat→Ms} {n m np:Nat} {pn:Nat→Nat} {pv:Nat→Nat→Int} {k:Nat} {q:Nat→Int} {nt:Int} (hp:np≤1000) (hpn:∀ j,j < np→pn j≤50) (hk:k≤50)
include hp hpn hk
theorem it_b2:∀ (x N:Nat) (i d:Int) (r:Nat) (ol:Nat→Int),x < N→x < r→r≤np→bdO np nt r ol→∃ (y:Int) (ol':Nat→Int),qG (dcb2 js ms n m np pn pv k q nt) N (i,(x:Int),d,r,ol)=some (0,i,y,d,r,ol')∧bdO np nt r ol'
 | _,0,_,_,_,_,h,_,_,_=>by omega
 | 0,N + 1,i,d,r,ol,_,hx,hr,h=>by
  refine ⟨0,ol,?_,h⟩;rw [qG];dsimp only [dcb2];rw [vYJ (show ¬ (0:Int) < ((0:Nat):Int) by omega)];rfl
 | x + 1,N + 1,i,d,r,ol,hN,hx,hr,h=>by
  have e1:vYW .i64 (((x + 1:Nat):Int) - 1)=(x:Int):=by rw [zV (by omega)]; omega
  obtain ⟨h1,h2,h3⟩:=h x (by omega);obtain ⟨g1,g2,g3⟩:=h (x + 1) (by omega);rw [qG];dsimp only [dcb2];simp only [vYK (show (0:Int) < ((x + 1:Nat):Int) by omega),e1,toN,zU (show x < r by omega),zU (show x + 1 < r by omega),zYJ h1 h2,jV (C:=cdr js ms n m) (t:=(pv (ol x).toNat,q,pn (ol x).toNat,k)) ⟨hpn _ (by omega),hk⟩,vYZ];cases decide (d < dsQ js ms (pv (ol x).toNat) q n m (pn (ol x).toNat) k) with
  | false=>exact ⟨_,ol,rfl,h⟩
  | true =>
   refine it_b2 x N i d r _ (by omega) (by omega) hr fun v hv => ?_
   by_cases e2:v=x
   ·subst e2; rw [Nat.beq_refl]; exact ⟨g1,g2,g3⟩
   ·rw [qHL e2];by_cases e3:v=x + 1
    ·subst e3; rw [Nat.beq_refl]; exact ⟨h1,h2,h3⟩
    ·rw [qHL e3]; exact h v hv
theorem yJC {N:Nat} (hN:np < N):∀ (d i M r:Nat) (ol:Nat→Int),i + d=np→d < M→r≤i→bdO np nt r ol→∃ (r':Nat) (ol':Nat→Int),qG (dcb1 N js ms n m np pn pv k q nt) M ((i:Int),r,ol)=some (0,(np:Int),r',ol')∧r'≤np∧bdO np nt r' ol'
 | _,_,0,_,_,_,h,_,_=>by omega
 | 0,i,M + 1,r,ol,hd,_,hr,h=>by
  obtain rfl:i=np:=by omega
  refine ⟨r,ol,?_,hr,h⟩;rw [qG];dsimp only [dcb1];rw [vYJ (show ¬ (i:Int) < (i:Int) by omega)];rfl
 | d + 1,i,M + 1,r,ol,hd,hM,hr,h=>by
  rw [qG];dsimp only [dcb1];rw [vYK (show (i:Int) < (np:Int) by omega)];by_cases e:(i:Int)=nt
  ·rw [vYK e,jG (show i < 1000000 by omega)];exact yJC hN d (i + 1) M r ol (by omega) (by omega) (by omega) h
  ·have h':bdO np nt (r + 1) (fun v=>bif Nat.beq v r then (i:Int) else ol v):=fun v hv=>by
    dsimp only;by_cases e2:v=r
    ·subst e2; rw [Nat.beq_refl]; exact ⟨by simp only [vYZ]; omega,by simp only [vYZ]; omega,e⟩
    ·rw [qHL e2]; exact h v (by omega)
   obtain ⟨y,ol',q1,q2⟩:=it_b2 hp hpn hk (js:=js) (ms:=ms) (n:=n) (m:=m) (pv:=pv) (q:=q) r N (i:Int) (dsQ js ms (pv i) q n m (pn i) k) (r + 1) _ (by omega) (by omega) (by omega) h';have o1:zXU N js ms n m np pn pv k q nt ((i:Int),(r:Int),dsQ js ms (pv i) q n m (pn i) k,r + 1,fun v=>bif Nat.beq v r then (i:Int) else ol v)=true:=by unfold zXU; rw [q1]; rfl
   have o2:qGU N js ms n m np pn pv k q nt ((i:Int),(r:Int),dsQ js ms (pv i) q n m (pn i) k,r + 1,fun v=>bif Nat.beq v r then (i:Int) else ol v)=(0,(i:Int),y,dsQ js ms (pv i) q n m (pn i) k,r + 1,ol'):=by unfold qGU; rw [q1]; rfl
   simp only [vYJ e,vYK (show r + 1≤1000000 by omega),zU (show i < np by omega),toN,jV (C:=cdr js ms n m) (t:=(pv i,q,pn i,k)) ⟨hpn i (by omega),hk⟩,zW,o1,o2,vYZ,vYY,jG (show i < 1000000 by omega),Nat.beq_refl];exact yJC hN d (i + 1) M (r + 1) ol' (by omega) (by omega) (by omega) q2
end
noncomputable def yYG (N:Nat) (js:Nat→J) (ms:Nat→Ms) (n m:Nat) (np:Nat) (pn:Nat→Nat) (pv:Nat→Nat→Int) (k:Nat) (q:Nat→Int) (nt:Int):List (List Nat × yV):=[([0,1,0,1,1],sumF (fun t:(Int × Nat × (Nat→Int))=>(hb1 N js ms n m np pn pv k q nt t.1 t.2.1 t.2.2)) (fun σ=>(slI σ 10,rgN σ 27,rgI σ 27 0)) (fun t K=>(bif zHG N js ms n m np pn pv k q nt t then kxb1 N js ms n m np pn pv k q nt K (zUL N js ms n m np pn pv k q nt t) else none)))]
set_option maxRecDepth 100000 in
theorem pxby0 (N:Nat) (js:Nat→J) (ms:Nat→Ms) (n m:Nat) (np:Nat) (pn:Nat→Nat) (pv:Nat→Nat→Int) (k:Nat) (q:Nat→Int) (nt:Int):qQI Tf (orb1 N js ms n m np pn pv k q nt) (qY (yYG N js ms n m np pn pv k q nt)) N 54 [.a [.lf n (fJ js),.lf m (fM ms)],.lf np (fP pn pv),.lf k (fQ q),.n .i64 nt] =
 (bif (gSt (hb1 N js ms n m np pn pv k q nt 0 0 z0) (hb1 N js ms n m np pn pv k q nt 0 0 z0)) then (bif (zHG N js ms n m np pn pv k q nt (0,0,z0)) then (bif (Nat.beq (zUL N js ms n m np pn pv k q nt (0,0,z0)).1 0) then some (.ow 3 1 (.fo (zUL N js ms n m np pn pv k q nt (0,0,z0)).2.2.1 (fun v=>[.n .i64 ((zUL N js ms n m np pn pv k q nt (0,0,z0)).2.2.2 v)])),[])
 else none)
 else none)
 else none):=by kernel_rfl
theorem snd_by0 (N:Nat) (js:Nat→J) (ms:Nat→Ms) (n m:Nat) (np:Nat) (pn:Nat→Nat) (pv:Nat→Nat→Int) (k:Nat) (q:Nat→Int) (nt:Int) {r:Nat} {ol:Nat→Int} (h:qG (dcb1 N js ms n m np pn pv k q nt) N (0,0,z0)=some (0,(np:Int),r,ol)):zY Tryz.prog 54 [.a [.lf n (fJ js),.lf m (fM ms)],.lf np (fP pn pv),.lf k (fQ q),.n .i64 nt] (.ow 3 1 (.fo r (fQ ol))):=by
 refine qH (N:=N) (LO:=qY (yYG N js ms n m np pn pv k q nt)) jY yH (jK (l:=[(10,o_dr js ms n m)]) (m:=[]) ⟨ok_dr js ms n m,trivial⟩ trivial) (fun p S hp => ?_) ?_
 ·refine qX (L:=qZ Tf 54) (l:=(yYG N js ms n m np pn pv k q nt)) (show AllP _ (yYG N js ms n m np pn pv k q nt) from ⟨?_,trivial⟩) p S hp
  ·dsimp only;refine jQ (T:=Tf) (o:=(orb1 N js ms n m np pn pv k q nt)) (f:=54) (LO:=(qY (lib2 N js ms n m np pn pv k q nt))) (p:=[0,1,0,1,1]) (okb2 N js ms n m np pn pv k q nt) ?_;intro t K r hr;obtain ⟨hg,hr⟩:=qQ hr
   skip
   exact (lwb1 K N js ms n m np pn pv k q nt t hg).trans hr
 ·refine (pxby0 N js ms n m np pn pv k q nt).trans ?_;have o1:zHG N js ms n m np pn pv k q nt (0,0,z0)=true:=by unfold zHG; rw [h]; rfl
  have o2:zUL N js ms n m np pn pv k q nt (0,0,z0)=(0,(np:Int),r,ol):=by unfold zUL; rw [h]; rfl
  rw [zW,o1,o2];rfl
theorem by_ex (js:Nat→J) (ms:Nat→Ms) (n m:Nat) (np:Nat) (pn:Nat→Nat) (pv:Nat→Nat→Int) (k:Nat) (q:Nat→Int) (nt:Int) (hp:np≤1000) (hpn:∀ j,j < np→pn j≤50) (hk:k≤50):∃ (r:Nat) (ol:Nat→Int),(r≤np∧bdO np nt r ol)∧zY Tryz.prog 54 [.a [.lf n (fJ js),.lf m (fM ms)],.lf np (fP pn pv),.lf k (fQ q),.n .i64 nt] (.ow 3 1 (.fo r (fQ ol))):=by
 obtain ⟨r,ol,h1,h2,h3⟩:=yJC (js:=js) (ms:=ms) (n:=n) (m:=m) (pv:=pv) (q:=q) (nt:=nt) hp hpn hk (N:=np + 1) (by omega) np 0 (np + 1) 0 z0 (by omega) (by omega) (Nat.le_refl _) (fun v hv=>absurd hv (Nat.not_lt_zero v));exact ⟨r,ol,⟨h2,h3⟩,snd_by0 (np + 1) js ms n m np pn pv k q nt h1⟩
abbrev ByT:Type:=Nat × (Nat→Nat) × (Nat→Nat→Int) × Nat × (Nat→Int) × Int
def byC (t:ByT):Prop:=t.1≤1000∧(∀ j,j < t.1→t.2.1 j≤50)∧t.2.2.2.1≤50
def byR (js:Nat→J) (ms:Nat→Ms) (n m:Nat) (t:ByT) (y:Nat × (Nat→Int)):Prop:=(y.1≤t.1∧bdO t.1 t.2.2.2.2.2 y.1 y.2)∧zY Tryz.prog 54 [.a [.lf n (fJ js),.lf m (fM ms)],.lf t.1 (fP t.2.1 t.2.2.1),.lf t.2.2.2.1 (fQ t.2.2.2.2.1),.n .i64 t.2.2.2.2.2] (.ow 3 1 (.fo y.1 (fQ y.2)))
theorem by_all (js:Nat→J) (ms:Nat→Ms) (n m:Nat):∃ G:ByT→Nat × (Nat→Int),∀ t,byC t→byR js ms n m t (G t):=qWF (0,z0) fun t h=>by
 obtain ⟨r,ol,h1,h2⟩:=by_ex js ms n m t.1 t.2.1 t.2.2.1 t.2.2.2.1 t.2.2.2.2.1 t.2.2.2.2.2 h.1 h.2.1 h.2.2;exact ⟨(r,ol),h1,h2⟩
noncomputable def byF (js:Nat→J) (ms:Nat→Ms) (n m:Nat):ByT→Nat × (Nat→Int):=Classical.choose (by_all js ms n m)
theorem byF_ok {js:Nat→J} {ms:Nat→Ms} {n m:Nat} {t:ByT} (h:byC t):byR js ms n m t (byF js ms n m t):=Classical.choose_spec (by_all js ms n m) t h
def cby (js:Nat→J) (ms:Nat→Ms) (n m:Nat):Nat × (Nat→Nat) × (Nat→Nat→Int) × Nat × (Nat→Int) × Int→Prop:=fun t=>match t with | (np,pn,pv,k,q,nt)=>byC (np,pn,pv,k,q,nt)
def eby (js:Nat→J) (ms:Nat→Ms) (n m:Nat):Nat × (Nat→Nat) × (Nat→Nat→Int) × Nat × (Nat→Int) × Int→List PV:=fun t=>match t with | (np,pn,pv,k,q,nt)=>[.a [.lf n (fJ js),.lf m (fM ms)],.lf np (fP pn pv),.lf k (fQ q),.n .i64 nt]
noncomputable def rby (js:Nat→J) (ms:Nat→Ms) (n m:Nat):Nat × (Nat→Nat) × (Nat→Nat→Int) × Nat × (Nat→Int) × Int→Ret:=fun t=>match t with | (np,pn,pv,k,q,nt)=>.ow 3 1 (.fo (byF js ms n m (np,pn,pv,k,q,nt)).1 (fQ (byF js ms n m (np,pn,pv,k,q,nt)).2))
def dby:List PV→Nat × (Nat→Nat) × (Nat→Nat→Int) × Nat × (Nat→Int) × Int:=fun ps=>match ps with
 | [_,.lf np f,.lf k g,.n _ x]=>(np,unPn f,unPv f,k,unFQ g,x)
 | _=>(0,fun _=>0,fun _ _=>0,0,fun _=>0,0)
noncomputable def o_by (js:Nat→J) (ms:Nat→Ms) (n m:Nat):List PV→Option (Bool × Ret):=o_fm dby (cby js ms n m) (eby js ms n m) (rby js ms n m)
theorem ok_by (js:Nat→J) (ms:Nat→Ms) (n m:Nat):jH Tryz.prog 54 (o_by js ms n m):=qQD fun t h=>by
 obtain ⟨np,pn,pv,k,q,nt⟩:=t;exact (byF_ok h).2
end Go.Proofs.YtklmegnpfhiibaaGreat.Xr

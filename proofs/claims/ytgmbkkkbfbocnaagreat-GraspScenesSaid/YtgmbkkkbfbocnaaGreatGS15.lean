/- Part 15 of the texts behind the last one: rules and contracts. No condition. -/
import Derived.Test.YtgmbkkkbfbocnaaGreatGS14
open Bool renaming and_eq_true → vQJ
open Go.IntKind renaming wrap → vJJ
namespace Go.Proofs.YtgmbkkkbfbocnaaGreat.Hh
open Go.Rx Rt Go.Sx Go.RowKit Od Na Nb Nc Nx Nf Nl Nm Ga Gb Gc Gd Ge Gf Gg Ha Hb Hc Hd He Hf Hg
noncomputable def xZZ (n:Nat) (q:Nat→Z3):OrS:=orS [] []
noncomputable def yGA (n:Nat) (q:Nat→Z3):List (List Nat × jG):=[]
set_option maxRecDepth 100000 in
theorem xQA (n:Nat) (q:Nat→Z3):uJ Tf (xZZ n q) (qZ (yGA n q)) 60 144 [.lf (n + 1) (fZ q)] =
 (bif (decide (0 + (n + 1)≤1000000)) then some (.ow 58 3 (.fo (n + 1) (fZ q)),[])
 else none):=by kernel_rfl
theorem kZY (n:Nat) (q:Nat→Z3) (_:n + 1≤50):yK Tryz.prog 144 [.lf (n + 1) (fZ q)] (.ow 58 3 (.fo (n + 1) (fZ q))):=by
 refine zZ (N:=60) (LO:=qZ (yGA n q)) jU zW (jW (l:=[]) (m:=[]) trivial trivial) (fun p S hp => ?_) ?_
 ·refine qH (L:=qQ Tf 144) (l:=(yGA n q)) (show AllP _ (yGA n q) from trivial) p S hp
 ·refine (xQA n q).trans ?_;simp only [vJQ (show n + 1≤1000000 by omega),vJQ (show n + 1≤8796093022208 by omega),vJQ (show 0 + (n + 1)≤1000000 by omega),vYV]
  all_goals rfl
theorem kQI (n:Nat) (q:Nat→Z3) (hn:1≤n∧n≤50):yK Tryz.prog 144 [.lf n (fZ q)] (.ow 58 3 (.fo n (fZ q))):=by
 obtain ⟨h1,h2⟩:=hn;obtain ⟨m,rfl⟩:∃ m,n=m + 1:=⟨n - 1,by omega⟩
 exact kZY m q h2
def ccov:Nat × (Nat→Z3)→Prop:=fun t=>match t with | (n,_)=>1≤n∧n≤50
def ecov:Nat × (Nat→Z3)→List PV:=fun t=>match t with | (n,q)=>[.lf n (fZ q)]
noncomputable def rcov:Nat × (Nat→Z3)→Ret:=fun t=>match t with | (n,q)=>.ow 58 3 (.fo n (fZ q))
def dcov:List PV→Nat × (Nat→Z3):=fun ps=>match ps with
 | [.lf n f]=>(n,unFZ f)
 | _=>(0,fun _=>⟨0,0,0⟩)
noncomputable def uXJ:List PV→Option (Bool × Ret):=o_fm dcov ccov ecov rcov
theorem xYE:zY Tryz.prog 144 uXJ:=uK fun t h=>by
 obtain ⟨n,q⟩:=t;exact kQI n q h
noncomputable def orPa (c:Nat) (_:Nat→Shp) (_:Z3):OrS:=orS [(144,uXJ)] []
def sft (by_:Z3) (n:Nat) (p:Nat→Z3):Nat→Z3:=fun v=>⟨bif Nat.blt v n then vJJ .i64 ((p v).x + by_.x) else (p v).x,bif Nat.blt v n then vJJ .i64 ((p v).y + by_.y) else (p v).y,bif Nat.blt v n then vJJ .i64 ((p v).z + by_.z) else (p v).z⟩
def sftS (by_:Z3) (link:Int) (s:Shp):Shp:=⟨link,s.rad,s.np,sft by_ s.np s.pts⟩
def sftL (by_:Z3) (s:Shp):Shp:=sftS by_ s.link s
def sfQ (by_:Z3) (p:Nat→Z3) (k:Nat):Nat→Nat→Int:=fun v j=>List.getD [(sft by_ k p v).x,(sft by_ k p v).y,(sft by_ k p v).z] j 0
theorem zHL (v k:Nat) (a b:Nat→Int):(bif Nat.beq v k then a k else bif Nat.blt v k then a v else b v)=bif Nat.blt v (k + 1) then a v else b v:=by
 rw [qVV];by_cases h:v=k
 ·subst h;rw [vJQ rfl,show Nat.blt v (v + 1)=true from by rw [Nat.blt_eq]; omega]; rfl
 ·rw [vYH h,vYG];by_cases h2:v < k
  ·rw [show Nat.blt v k=true from by rw [Nat.blt_eq]; exact h2,show Nat.blt v (k + 1)=true from by rw [Nat.blt_eq]; omega]
  ·rw [show Nat.blt v k=false from by rw [Bool.eq_false_iff,ne_eq,Nat.blt_eq]; exact h2,show Nat.blt v (k + 1)=false from by rw [Bool.eq_false_iff,ne_eq,Nat.blt_eq]; omega]
theorem kWC (k:Nat):Nat.blt k k=false:=by rw [Bool.eq_false_iff,ne_eq,Nat.blt_eq]; omega
noncomputable def hPb (c:Nat) (sh:Nat→Shp) (by_:Z3) (i:Int) (j:Int) (r:Nat) (f:Nat→List PV) (s:Shp) (q:Nat→Nat→Int):St:=⟨[(3,.p 3 0),(5,.o 13),(7,.p 7 0),(14,.v (.lf c (fS sh))),(15,.v (.n .i64 (c:Int))),(16,.v (.n .i64 i)),(26,.v (.n .i64 (s.np:Int))),(27,.v (.n .i64 j))],[(3,.blk [.v (.n .i64 by_.x),.v (.n .i64 by_.y),.v (.n .i64 by_.z)]),(7,.blk [.v (.n .i64 s.link),.v (.n .i64 s.rad),.o 22]),(13,.reg 83 3 (.fo r f)),(22,.reg 58 3 (.fo s.np (fun v=>[.n .i64 (q v 0),.n .i64 (q v 1),.n .i64 (q v 2)])))]⟩
set_option maxRecDepth 100000 in
theorem rdPb (G:St→Option (Ret × Mem)) (K:Cont) (c:Nat) (sh:Nat→Shp) (by_:Z3) (i:Int) (j:Int) (r:Nat) (f:Nat→List PV) (s:Shp) (q:Nat→Nat→Int):jJ 60 (cxS Tf (orPa c sh by_) 60 95 (ntmF Tf 95)) (evX Tf (orPa c sh by_) 60 95 (ntmF Tf 95)) (qZ []) (qQ Tf 95 [0,1,0,1,1,0,0,1,1,0,0,1,0,1,1]) [0,1,0,1,1,0,0,1,1,0,0,1,0,1,1] (Tf.hint 95 (qJ (qQ Tf 95 [0,1,0,1,1,0,0,1,1,0,0,1,0,1,1]))) K G (hPb c sh by_ i j r f s q) =
 (bif (decide (j < (s.np:Int))) then (bif (inB j s.np) then (bif (inB j s.np) then (bif (inB j s.np) then (bif (inB j s.np) then (bif (inB j s.np) then (bif (inB j s.np) then (G (hPb c sh by_ i (vJJ .i64 (j + 1)) r f s (fun v k=>List.getD [(bif (Nat.beq v (j).toNat) then (bif (Nat.beq (j).toNat (j).toNat) then (bif (Nat.beq (j).toNat (j).toNat) then (vJJ .i64 ((q (j).toNat 0) + by_.x)) else (q (j).toNat 0)) else (bif (Nat.beq (j).toNat (j).toNat) then (vJJ .i64 ((q (j).toNat 0) + by_.x)) else (q (j).toNat 0))) else (bif (Nat.beq v (j).toNat) then (bif (Nat.beq (j).toNat (j).toNat) then (vJJ .i64 ((q (j).toNat 0) + by_.x)) else (q (j).toNat 0)) else (bif (Nat.beq v (j).toNat) then (vJJ .i64 ((q (j).toNat 0) + by_.x)) else (q v 0)))),(bif (Nat.beq v (j).toNat) then (bif (Nat.beq (j).toNat (j).toNat) then (vJJ .i64 ((bif (Nat.beq (j).toNat (j).toNat) then (q (j).toNat 1) else (q (j).toNat 1)) + by_.y)) else (bif (Nat.beq (j).toNat (j).toNat) then (q (j).toNat 1) else (q (j).toNat 1))) else (bif (Nat.beq v (j).toNat) then (vJJ .i64 ((bif (Nat.beq (j).toNat (j).toNat) then (q (j).toNat 1) else (q (j).toNat 1)) + by_.y)) else (bif (Nat.beq v (j).toNat) then (q (j).toNat 1) else (q v 1)))),(bif (Nat.beq v (j).toNat) then (vJJ .i64 ((bif (Nat.beq (j).toNat (j).toNat) then (bif (Nat.beq (j).toNat (j).toNat) then (q (j).toNat 2) else (q (j).toNat 2)) else (bif (Nat.beq (j).toNat (j).toNat) then (q (j).toNat 2) else (q (j).toNat 2))) + by_.z)) else (bif (Nat.beq v (j).toNat) then (bif (Nat.beq (j).toNat (j).toNat) then (q (j).toNat 2) else (q (j).toNat 2)) else (bif (Nat.beq v (j).toNat) then (q (j).toNat 2) else (q v 2))))] k 0)))
 else none)
 else none)
 else none)
 else none)
 else none)
 else none)
 else (K (.exit 2) ⟨[(3,.p 3 0),(5,.o 13),(7,.p 7 0),(14,.v (.lf c (fS sh))),(15,.v (.n .i64 (c:Int))),(16,.v (.n .i64 i))],[(3,.blk [.v (.n .i64 by_.x),.v (.n .i64 by_.y),.v (.n .i64 by_.z)]),(7,.blk [.v (.n .i64 s.link),.v (.n .i64 s.rad),.o 22]),(13,.reg 83 3 (.fo r f)),(22,.reg 58 3 (.fo s.np (fun v=>[.n .i64 (q v 0),.n .i64 (q v 1),.n .i64 (q v 2)])))]⟩)):=by kernel_rfl
theorem uYA (by_:Z3) (p:Nat→Z3) (j:Nat):(fun v k=>List.getD [(bif (Nat.beq v j) then (bif (Nat.beq j j) then (bif (Nat.beq j j) then (vJJ .i64 (((sfQ by_ p j) j 0) + by_.x)) else ((sfQ by_ p j) j 0)) else (bif (Nat.beq j j) then (vJJ .i64 (((sfQ by_ p j) j 0) + by_.x)) else ((sfQ by_ p j) j 0))) else (bif (Nat.beq v j) then (bif (Nat.beq j j) then (vJJ .i64 (((sfQ by_ p j) j 0) + by_.x)) else ((sfQ by_ p j) j 0)) else (bif (Nat.beq v j) then (vJJ .i64 (((sfQ by_ p j) j 0) + by_.x)) else ((sfQ by_ p j) v 0)))),(bif (Nat.beq v j) then (bif (Nat.beq j j) then (vJJ .i64 ((bif (Nat.beq j j) then ((sfQ by_ p j) j 1) else ((sfQ by_ p j) j 1)) + by_.y)) else (bif (Nat.beq j j) then ((sfQ by_ p j) j 1) else ((sfQ by_ p j) j 1))) else (bif (Nat.beq v j) then (vJJ .i64 ((bif (Nat.beq j j) then ((sfQ by_ p j) j 1) else ((sfQ by_ p j) j 1)) + by_.y)) else (bif (Nat.beq v j) then ((sfQ by_ p j) j 1) else ((sfQ by_ p j) v 1)))),(bif (Nat.beq v j) then (vJJ .i64 ((bif (Nat.beq j j) then (bif (Nat.beq j j) then ((sfQ by_ p j) j 2) else ((sfQ by_ p j) j 2)) else (bif (Nat.beq j j) then ((sfQ by_ p j) j 2) else ((sfQ by_ p j) j 2))) + by_.z)) else (bif (Nat.beq v j) then (bif (Nat.beq j j) then ((sfQ by_ p j) j 2) else ((sfQ by_ p j) j 2)) else (bif (Nat.beq v j) then ((sfQ by_ p j) j 2) else ((sfQ by_ p j) v 2))))] k 0)=sfQ by_ p (j + 1):=by
 funext v k;have e1:sfQ by_ p j j 0=(p j).x∧sfQ by_ p j j 1=(p j).y∧sfQ by_ p j j 2=(p j).z:=by
  refine ⟨?_,?_,?_⟩ <;> (show (bif Nat.blt j j then _ else _)=_; rw [kWC]; rfl)
 have e2:(bif Nat.beq v j then vJJ .i64 ((p j).x + by_.x) else sfQ by_ p j v 0)=(sft by_ (j + 1) p v).x:=zHL v j (fun v=>vJJ .i64 ((p v).x + by_.x)) (fun v=>(p v).x);have e3:(bif Nat.beq v j then vJJ .i64 ((p j).y + by_.y) else sfQ by_ p j v 1)=(sft by_ (j + 1) p v).y:=zHL v j (fun v=>vJJ .i64 ((p v).y + by_.y)) (fun v=>(p v).y);have e4:(bif Nat.beq v j then vJJ .i64 ((p j).z + by_.z) else sfQ by_ p j v 2)=(sft by_ (j + 1) p v).z:=zHL v j (fun v=>vJJ .i64 ((p v).z + by_.z)) (fun v=>(p v).z);show _=List.getD [(sft by_ (j + 1) p v).x,(sft by_ (j + 1) p v).y,(sft by_ (j + 1) p v).z] k 0;rw [← e2,← e3,← e4];simp only [Nat.beq_refl,vYV,e1.1,e1.2.1,e1.2.2];cases Nat.beq v j <;> rfl
theorem lpPb (K:Cont) (c:Nat) (sh:Nat→Shp) (by_:Z3) (i:Int) (r:Nat) (f:Nat→List PV) (s:Shp) (_:s.np≤50):LFX 60 (cxS Tf (orPa c sh by_) 60 95 (ntmF Tf 95)) (evX Tf (orPa c sh by_) 60 95 (ntmF Tf 95)) (qZ []) (qQ Tf 95 [0,1,0,1,1,0,0,1,1,0,0,1,0,1,1]) [0,1,0,1,1,0,0,1,1,0,0,1,0,1,1] (Tf.hint 95 (qJ (qQ Tf 95 [0,1,0,1,1,0,0,1,1,0,0,1,0,1,1]))) K 60 (hPb c sh by_ i 0 r f s (sfQ by_ s.pts 0))=(K (.exit 2) ⟨[(3,.p 3 0),(5,.o 13),(7,.p 7 0),(14,.v (.lf c (fS sh))),(15,.v (.n .i64 (c:Int))),(16,.v (.n .i64 i))],[(3,.blk [.v (.n .i64 by_.x),.v (.n .i64 by_.y),.v (.n .i64 by_.z)]),(7,.blk [.v (.n .i64 s.link),.v (.n .i64 s.rad),.o 22]),(13,.reg 83 3 (.fo r f)),(22,.reg 58 3 (.fo s.np (fZ (sft by_ s.np s.pts))))]⟩):=by
 refine (kW (L:=LFX 60 (cxS Tf (orPa c sh by_) 60 95 (ntmF Tf 95)) (evX Tf (orPa c sh by_) 60 95 (ntmF Tf 95)) (qZ []) (qQ Tf 95 [0,1,0,1,1,0,0,1,1,0,0,1,0,1,1]) [0,1,0,1,1,0,0,1,1,0,0,1,0,1,1] (Tf.hint 95 (qJ (qQ Tf 95 [0,1,0,1,1,0,0,1,1,0,0,1,0,1,1]))) K) (stp:=jJ 60 (cxS Tf (orPa c sh by_) 60 95 (ntmF Tf 95)) (evX Tf (orPa c sh by_) 60 95 (ntmF Tf 95)) (qZ []) (qQ Tf 95 [0,1,0,1,1,0,0,1,1,0,0,1,0,1,1]) [0,1,0,1,1,0,0,1,1,0,0,1,0,1,1] (Tf.hint 95 (qJ (qQ Tf 95 [0,1,0,1,1,0,0,1,1,0,0,1,0,1,1]))) K) (fun _ _=>rfl) (fun (j:Nat) (_:Unit)=>hPb c sh by_ i (j:Int) r f s (sfQ by_ s.pts j)) (fun _ _=>True) (fun _ _=>true) (fun _ _=>()) (c:=s.np) (fun _=>(K (.exit 2) ⟨[(3,.p 3 0),(5,.o 13),(7,.p 7 0),(14,.v (.lf c (fS sh))),(15,.v (.n .i64 (c:Int))),(16,.v (.n .i64 i))],[(3,.blk [.v (.n .i64 by_.x),.v (.n .i64 by_.y),.v (.n .i64 by_.z)]),(7,.blk [.v (.n .i64 s.link),.v (.n .i64 s.rad),.o 22]),(13,.reg 83 3 (.fo r f)),(22,.reg 58 3 (.fo s.np (fZ (sft by_ s.np s.pts))))]⟩)) (fun _ _=>none) (fun G j f_ hj _ => ?_) (fun _ _ _ _ _=>trivial) (fun G f_ _ => ?_) s.np 0 60 () (by omega) (by omega) trivial).trans (qZH s.np 0 _)
 ·refine (rdPb G K c sh by_ i j r f s (sfQ by_ s.pts j)).trans ?_;simp only [vJQ (show (j:Int) < (s.np:Int) by omega),kY (show j < 1000000 by omega),yZ hj,toN,vYV];rw [uYA by_ s.pts j]
 ·refine (rdPb G K c sh by_ i s.np r f s (sfQ by_ s.pts s.np)).trans ?_;rw [vYH (show ¬ (s.np:Int) < (s.np:Int) by omega)];rfl
theorem okPb (c:Nat) (sh:Nat→Shp) (by_:Z3):∀ p S,qZ [([0,1,0,1,1,0,0,1,1,0,0,1,0,1,1],sumF (fun t:Int × Nat × (Nat→List PV) × Shp=>(hPb c sh by_ t.1 0 t.2.1 t.2.2.1 t.2.2.2 (sfQ by_ t.2.2.2.pts 0))) (fun σ=>(slI σ 16,rgN σ 13,rgF σ 13,⟨bkC σ 7 0,bkC σ 7 1,rgN σ 22,unFZ (rgF σ 22)⟩)) (fun t K=>(bif (decide (t.2.2.2.np≤50)) then (K (.exit 2) ⟨[(3,.p 3 0),(5,.o 13),(7,.p 7 0),(14,.v (.lf c (fS sh))),(15,.v (.n .i64 (c:Int))),(16,.v (.n .i64 t.1))],[(3,.blk [.v (.n .i64 by_.x),.v (.n .i64 by_.y),.v (.n .i64 by_.z)]),(7,.blk [.v (.n .i64 t.2.2.2.link),.v (.n .i64 t.2.2.2.rad),.o 22]),(13,.reg 83 3 (.fo t.2.1 t.2.2.1)),(22,.reg 58 3 (.fo t.2.2.2.np (fZ (sft by_ t.2.2.2.np t.2.2.2.pts))))]⟩) else none)))] p=some S→qQF 60 (cxS Tf (orPa c sh by_) 60 95 (ntmF Tf 95)) (qQ Tf 95 p) S:=fun p S hp=>by
 refine qH (L:=qQ Tf 95) (l:=[([0,1,0,1,1,0,0,1,1,0,0,1,0,1,1],sumF (fun t:Int × Nat × (Nat→List PV) × Shp=>(hPb c sh by_ t.1 0 t.2.1 t.2.2.1 t.2.2.2 (sfQ by_ t.2.2.2.pts 0))) (fun σ=>(slI σ 16,rgN σ 13,rgF σ 13,⟨bkC σ 7 0,bkC σ 7 1,rgN σ 22,unFZ (rgF σ 22)⟩)) (fun t K=>(bif (decide (t.2.2.2.np≤50)) then (K (.exit 2) ⟨[(3,.p 3 0),(5,.o 13),(7,.p 7 0),(14,.v (.lf c (fS sh))),(15,.v (.n .i64 (c:Int))),(16,.v (.n .i64 t.1))],[(3,.blk [.v (.n .i64 by_.x),.v (.n .i64 by_.y),.v (.n .i64 by_.z)]),(7,.blk [.v (.n .i64 t.2.2.2.link),.v (.n .i64 t.2.2.2.rad),.o 22]),(13,.reg 83 3 (.fo t.2.1 t.2.2.1)),(22,.reg 58 3 (.fo t.2.2.2.np (fZ (sft by_ t.2.2.2.np t.2.2.2.pts))))]⟩) else none)))]) ⟨?_,trivial⟩ p S hp;dsimp only;refine jY (T:=Tf) (o:=(orPa c sh by_)) (f:=95) (LO:=qZ []) (p:=[0,1,0,1,1,0,0,1,1,0,0,1,0,1,1]) kK ?_;intro t K r hr;obtain ⟨hg,hr⟩:=qY hr
 skip
 exact (lpPb K c sh by_ t.1 t.2.1 t.2.2.1 t.2.2.2 (vJZ hg)).trans hr
noncomputable def hPa (c:Nat) (sh:Nat→Shp) (by_:Z3) (i:Int) (r:Nat) (f:Nat→List PV):St:=⟨[(3,.p 3 0),(5,.o 13),(14,.v (.lf c (fS sh))),(15,.v (.n .i64 (c:Int))),(16,.v (.n .i64 i))],[(3,.blk [.v (.n .i64 by_.x),.v (.n .i64 by_.y),.v (.n .i64 by_.z)]),(13,.reg 83 3 (.fo r f))]⟩
set_option maxRecDepth 100000 in
theorem rdPa (G:St→Option (Ret × Mem)) (K:Cont) (c:Nat) (sh:Nat→Shp) (by_:Z3) (i:Int) (r:Nat) (f:Nat→List PV):jJ 60 (cxS Tf (orPa c sh by_) 60 95 (ntmF Tf 95)) (evX Tf (orPa c sh by_) 60 95 (ntmF Tf 95)) (qZ [([0,1,0,1,1,0,0,1,1,0,0,1,0,1,1],sumF (fun t:Int × Nat × (Nat→List PV) × Shp=>(hPb c sh by_ t.1 0 t.2.1 t.2.2.1 t.2.2.2 (sfQ by_ t.2.2.2.pts 0))) (fun σ=>(slI σ 16,rgN σ 13,rgF σ 13,⟨bkC σ 7 0,bkC σ 7 1,rgN σ 22,unFZ (rgF σ 22)⟩)) (fun t K=>(bif (decide (t.2.2.2.np≤50)) then (K (.exit 2) ⟨[(3,.p 3 0),(5,.o 13),(7,.p 7 0),(14,.v (.lf c (fS sh))),(15,.v (.n .i64 (c:Int))),(16,.v (.n .i64 t.1))],[(3,.blk [.v (.n .i64 by_.x),.v (.n .i64 by_.y),.v (.n .i64 by_.z)]),(7,.blk [.v (.n .i64 t.2.2.2.link),.v (.n .i64 t.2.2.2.rad),.o 22]),(13,.reg 83 3 (.fo t.2.1 t.2.2.1)),(22,.reg 58 3 (.fo t.2.2.2.np (fZ (sft by_ t.2.2.2.np t.2.2.2.pts))))]⟩) else none)))]) (qQ Tf 95 [0,1,0,1,1]) [0,1,0,1,1] (Tf.hint 95 (qJ (qQ Tf 95 [0,1,0,1,1]))) K G (hPa c sh by_ i r f) =
 (bif (decide (i < (c:Int))) then (bif (inB i c) then (bif (gF1 ccov ecov (((sh (i).toNat).np),((sh (i).toNat).pts))) then (bif (gSt (hPb c sh by_ i 0 r f (sh (i).toNat) (sfQ by_ (sh (i).toNat).pts 0)) (hPb c sh by_ i 0 r f (sh (i).toNat) (sfQ by_ (sh (i).toNat).pts 0))) then (bif (decide ((sh (i).toNat).np≤50)) then (bif (decide (r + 1≤1000000)) then (G (hPa c sh by_ (vJJ .i64 (i + 1)) (r + 1) (fun v=>qZX (Nat.beq v r) [.n .i64 (sh (i).toNat).link,.n .i64 (sh (i).toNat).rad,.lf (sh (i).toNat).np (fZ (sft by_ (sh (i).toNat).np (sh (i).toNat).pts))] (f v))))
 else none)
 else none)
 else none)
 else none)
 else none)
 else (K (.exit 0) ⟨[(5,.o 13)],[(13,.reg 83 3 (.fo r f))]⟩)):=by kernel_rfl
theorem lpPa (K:Cont) (c:Nat) (sh:Nat→Shp) (by_:Z3) (_:c≤50) (hp:∀ i,i < c→1≤(sh i).np∧(sh i).np≤50):LFX 60 (cxS Tf (orPa c sh by_) 60 95 (ntmF Tf 95)) (evX Tf (orPa c sh by_) 60 95 (ntmF Tf 95)) (qZ [([0,1,0,1,1,0,0,1,1,0,0,1,0,1,1],sumF (fun t:Int × Nat × (Nat→List PV) × Shp=>(hPb c sh by_ t.1 0 t.2.1 t.2.2.1 t.2.2.2 (sfQ by_ t.2.2.2.pts 0))) (fun σ=>(slI σ 16,rgN σ 13,rgF σ 13,⟨bkC σ 7 0,bkC σ 7 1,rgN σ 22,unFZ (rgF σ 22)⟩)) (fun t K=>(bif (decide (t.2.2.2.np≤50)) then (K (.exit 2) ⟨[(3,.p 3 0),(5,.o 13),(7,.p 7 0),(14,.v (.lf c (fS sh))),(15,.v (.n .i64 (c:Int))),(16,.v (.n .i64 t.1))],[(3,.blk [.v (.n .i64 by_.x),.v (.n .i64 by_.y),.v (.n .i64 by_.z)]),(7,.blk [.v (.n .i64 t.2.2.2.link),.v (.n .i64 t.2.2.2.rad),.o 22]),(13,.reg 83 3 (.fo t.2.1 t.2.2.1)),(22,.reg 58 3 (.fo t.2.2.2.np (fZ (sft by_ t.2.2.2.np t.2.2.2.pts))))]⟩) else none)))]) (qQ Tf 95 [0,1,0,1,1]) [0,1,0,1,1] (Tf.hint 95 (qJ (qQ Tf 95 [0,1,0,1,1]))) K 60 (hPa c sh by_ 0 0 (fun _=>[.n .i64 0,.n .i64 0,.zs]))=(K (.exit 0) ⟨[(5,.o 13)],[(13,.reg 83 3 (.fo c (zHB (fun i:Nat=>sP (sftL by_ (sh i))) c 0 (fun _=>[.n .i64 0,.n .i64 0,.zs]))))]⟩):=by
 refine (kW (L:=LFX 60 (cxS Tf (orPa c sh by_) 60 95 (ntmF Tf 95)) (evX Tf (orPa c sh by_) 60 95 (ntmF Tf 95)) (qZ [([0,1,0,1,1,0,0,1,1,0,0,1,0,1,1],sumF (fun t:Int × Nat × (Nat→List PV) × Shp=>(hPb c sh by_ t.1 0 t.2.1 t.2.2.1 t.2.2.2 (sfQ by_ t.2.2.2.pts 0))) (fun σ=>(slI σ 16,rgN σ 13,rgF σ 13,⟨bkC σ 7 0,bkC σ 7 1,rgN σ 22,unFZ (rgF σ 22)⟩)) (fun t K=>(bif (decide (t.2.2.2.np≤50)) then (K (.exit 2) ⟨[(3,.p 3 0),(5,.o 13),(7,.p 7 0),(14,.v (.lf c (fS sh))),(15,.v (.n .i64 (c:Int))),(16,.v (.n .i64 t.1))],[(3,.blk [.v (.n .i64 by_.x),.v (.n .i64 by_.y),.v (.n .i64 by_.z)]),(7,.blk [.v (.n .i64 t.2.2.2.link),.v (.n .i64 t.2.2.2.rad),.o 22]),(13,.reg 83 3 (.fo t.2.1 t.2.2.1)),(22,.reg 58 3 (.fo t.2.2.2.np (fZ (sft by_ t.2.2.2.np t.2.2.2.pts))))]⟩) else none)))]) (qQ Tf 95 [0,1,0,1,1]) [0,1,0,1,1] (Tf.hint 95 (qJ (qQ Tf 95 [0,1,0,1,1]))) K) (stp:=jJ 60 (cxS Tf (orPa c sh by_) 60 95 (ntmF Tf 95)) (evX Tf (orPa c sh by_) 60 95 (ntmF Tf 95)) (qZ [([0,1,0,1,1,0,0,1,1,0,0,1,0,1,1],sumF (fun t:Int × Nat × (Nat→List PV) × Shp=>(hPb c sh by_ t.1 0 t.2.1 t.2.2.1 t.2.2.2 (sfQ by_ t.2.2.2.pts 0))) (fun σ=>(slI σ 16,rgN σ 13,rgF σ 13,⟨bkC σ 7 0,bkC σ 7 1,rgN σ 22,unFZ (rgF σ 22)⟩)) (fun t K=>(bif (decide (t.2.2.2.np≤50)) then (K (.exit 2) ⟨[(3,.p 3 0),(5,.o 13),(7,.p 7 0),(14,.v (.lf c (fS sh))),(15,.v (.n .i64 (c:Int))),(16,.v (.n .i64 t.1))],[(3,.blk [.v (.n .i64 by_.x),.v (.n .i64 by_.y),.v (.n .i64 by_.z)]),(7,.blk [.v (.n .i64 t.2.2.2.link),.v (.n .i64 t.2.2.2.rad),.o 22]),(13,.reg 83 3 (.fo t.2.1 t.2.2.1)),(22,.reg 58 3 (.fo t.2.2.2.np (fZ (sft by_ t.2.2.2.np t.2.2.2.pts))))]⟩) else none)))]) (qQ Tf 95 [0,1,0,1,1]) [0,1,0,1,1] (Tf.hint 95 (qJ (qQ Tf 95 [0,1,0,1,1]))) K) (fun _ _=>rfl) (fun (i:Nat) (f:Nat→List PV)=>hPa c sh by_ (i:Int) i f) (fun _ _=>True) (fun _ _=>true) (fun (i:Nat) f v=>qZX (Nat.beq v i) (sP (sftL by_ (sh i))) (f v)) (c:=c) (fun f=>(K (.exit 0) ⟨[(5,.o 13)],[(13,.reg 83 3 (.fo c f))]⟩)) (fun _ _=>none) (fun G i f hi _ => ?_) (fun _ _ _ _ _=>trivial) (fun G f _ => ?_) c 0 60 (fun _=>[.n .i64 0,.n .i64 0,.zs]) (by omega) (by omega) trivial).trans (yZQ c 0 (fun _=>[.n .i64 0,.n .i64 0,.zs]))
 ·refine (rdPa G K c sh by_ (i:Int) i f).trans ?_;simp only [vJQ (show (i:Int) < (c:Int) by omega),kY (show i < 1000000 by omega),yZ (show i < c by omega),toN,jQ (C:=ccov) (t:=((sh i).np,(sh i).pts)) (hp i hi),yU,vJQ (hp i hi).2,vYV,vJQ (show i + 1≤1000000 by omega)]
  all_goals rfl
 ·refine (rdPa G K c sh by_ (c:Int) c f).trans ?_;rw [vYH (show ¬ (c:Int) < (c:Int) by omega)];rfl
noncomputable def yGV (c:Nat) (sh:Nat→Shp) (by_:Z3):List (List Nat × jG):=[([0,1,0,1,1],sumF (fun _:Unit=>(hPa c sh by_ 0 0 (fun _=>[.n .i64 0,.n .i64 0,.zs]))) (fun _=>()) (fun _ K=>(bif gP (c≤50∧∀ i,i < c→1≤(sh i).np∧(sh i).np≤50) then (K (.exit 0) ⟨[(5,.o 13)],[(13,.reg 83 3 (.fo c (zHB (fun i:Nat=>sP (sftL by_ (sh i))) c 0 (fun _=>[.n .i64 0,.n .i64 0,.zs]))))]⟩) else none)))]
set_option maxRecDepth 100000 in
theorem xQV (c:Nat) (sh:Nat→Shp) (by_:Z3):uJ Tf (orPa c sh by_) (qZ (yGV c sh by_)) 60 95 [.lf c (fS sh),.a [.n .i64 by_.x,.n .i64 by_.y,.n .i64 by_.z]] =
 (bif (decide (0≤(c:Int))) then (bif (decide ((c:Int)≤1000000)) then (bif (gSt (hPa c sh by_ 0 0 (fun _=>[.n .i64 0,.n .i64 0,.zs])) (hPa c sh by_ 0 0 (fun _=>[.n .i64 0,.n .i64 0,.zs]))) then (bif gP (c≤50∧∀ i,i < c→1≤(sh i).np∧(sh i).np≤50) then some (.ow 83 3 (.fo c (zHB (fun i:Nat=>sP (sftL by_ (sh i))) c 0 (fun _=>[.n .i64 0,.n .i64 0,.zs]))),[])
 else none)
 else none)
 else none)
 else none):=by kernel_rfl
theorem kQH (c:Nat) (sh:Nat→Shp) (by_:Z3) (hc:c≤50) (hp:∀ i,i < c→1≤(sh i).np∧(sh i).np≤50):yK Tryz.prog 95 [.lf c (fS sh),.a [.n .i64 by_.x,.n .i64 by_.y,.n .i64 by_.z]] (.ow 83 3 (.fo c (zHB (fun i:Nat=>sP (sftL by_ (sh i))) c 0 (fun _=>[.n .i64 0,.n .i64 0,.zs])))):=by
 refine zZ (N:=60) (LO:=qZ (yGV c sh by_)) jU zW (jW (l:=[(144,uXJ)]) (m:=[]) ⟨xYE,trivial⟩ trivial) (fun p S hp => ?_) ?_
 ·refine qH (L:=qQ Tf 95) (l:=(yGV c sh by_)) (show AllP _ (yGV c sh by_) from ⟨?_,trivial⟩) p S hp
  ·dsimp only;refine jY (T:=Tf) (o:=(orPa c sh by_)) (f:=95) (LO:=(qZ [([0,1,0,1,1,0,0,1,1,0,0,1,0,1,1],sumF (fun t:Int × Nat × (Nat→List PV) × Shp=>(hPb c sh by_ t.1 0 t.2.1 t.2.2.1 t.2.2.2 (sfQ by_ t.2.2.2.pts 0))) (fun σ=>(slI σ 16,rgN σ 13,rgF σ 13,⟨bkC σ 7 0,bkC σ 7 1,rgN σ 22,unFZ (rgF σ 22)⟩)) (fun t K=>(bif (decide (t.2.2.2.np≤50)) then (K (.exit 2) ⟨[(3,.p 3 0),(5,.o 13),(7,.p 7 0),(14,.v (.lf c (fS sh))),(15,.v (.n .i64 (c:Int))),(16,.v (.n .i64 t.1))],[(3,.blk [.v (.n .i64 by_.x),.v (.n .i64 by_.y),.v (.n .i64 by_.z)]),(7,.blk [.v (.n .i64 t.2.2.2.link),.v (.n .i64 t.2.2.2.rad),.o 22]),(13,.reg 83 3 (.fo t.2.1 t.2.2.1)),(22,.reg 58 3 (.fo t.2.2.2.np (fZ (sft by_ t.2.2.2.np t.2.2.2.pts))))]⟩) else none)))])) (p:=[0,1,0,1,1]) (okPb c sh by_) ?_;intro t K r hr;obtain ⟨hg,hr⟩:=qY hr
   skip
   exact (lpPa K c sh by_ (jK hg).1 (jK hg).2).trans hr
 ·refine (xQV c sh by_).trans ?_;simp only [vJQ (show (0:Int)≤(c:Int) by omega),vJQ (show (c:Int)≤1000000 by omega),yU,qUJ (show c≤50∧∀ i,i < c→1≤(sh i).np∧(sh i).np≤50 from ⟨hc,hp⟩),vYV]
  all_goals rfl
theorem kQG {f e sz:Nat} {ps:List PV} {rows rows':Go.Rx.Rows} (h:rows.L=rows'.L) (hs:yK Tryz.prog f ps (.ow e sz rows)):yK Tryz.prog f ps (.ow e sz rows'):=by
 refine ⟨hs.1,fun w F vals hF hal=>(hs.2 w F vals hF hal).mono fun _ w' ⟨v,F',he,hg,f1,f2,hr⟩=>⟨v,F',he,hg,f1,f2,?_⟩⟩;have e:rows.len=rows'.len:=by rw [← Rows.len_L,h,Rows.len_L]
 simp only [RRet,e,h] at hr ⊢;exact hr
theorem uZG (c:Nat) (sh:Nat→Shp) (by_:Z3) (hc:c≤50) (hp:∀ i,i < c→1≤(sh i).np∧(sh i).np≤50):yK Tryz.prog 95 [.lf c (fS sh),.a (zP by_)] (.ow 83 3 (.fo c (fS (fun v=>sftL by_ (sh v))))):=by
 refine kQG ?_ (kQH c sh by_ hc hp);refine List.map_congr_left fun j hj => ?_
 rw [yJJ,if_pos (by have:=List.mem_range.1 hj; omega)];rfl
def cpl:Nat × (Nat→Shp) × Z3→Prop:=fun t=>match t with | (c,sh,_)=>c≤50∧∀ i,i < c→1≤(sh i).np∧(sh i).np≤50
def epl:Nat × (Nat→Shp) × Z3→List PV:=fun t=>match t with | (c,sh,by_)=>[.lf c (fS sh),.a (zP by_)]
noncomputable def rpl:Nat × (Nat→Shp) × Z3→Ret:=fun t=>match t with | (c,sh,by_)=>.ow 83 3 (.fo c (fS (fun v=>sftL by_ (sh v))))
def dpl:List PV→Nat × (Nat→Shp) × Z3:=fun ps=>match ps with
 | [.lf c f,.a r]=>(c,unFS f,unZ r)
 | _=>(0,fun _=>⟨0,0,0,fun _=>⟨0,0,0⟩⟩,⟨0,0,0⟩)
noncomputable def o_pl:List PV→Option (Bool × Ret):=o_fm dpl cpl epl rpl
theorem fQC:zY Tryz.prog 95 o_pl:=uK fun t h=>by
 obtain ⟨c,sh,by_⟩:=t;exact uZG c sh by_ h.1 h.2
noncomputable def orSh (s:Shp) (l:Int) (_:Z3):OrS:=orS [] []
noncomputable def hSh (s:Shp) (l:Int) (by_:Z3) (i:Int) (r:Nat) (q:Nat→Nat→Int):St:=⟨[(3,.p 3 0),(5,.p 5 0),(6,.p 6 0),(7,.p 7 0),(8,.v (.n .i64 i))],[(3,.blk [.v (.n .i64 s.link),.v (.n .i64 s.rad),.v (.lf s.np (fZ s.pts))]),(5,.blk [.v (.n .i64 by_.x),.v (.n .i64 by_.y),.v (.n .i64 by_.z)]),(6,.blk [.v (.n .i64 0),.v (.n .i64 0),.nl]),(7,.blk [.v (.n .i64 l),.v (.n .i64 s.rad),.o 45]),(45,.reg 58 3 (.fo r (fun v=>[.n .i64 (q v 0),.n .i64 (q v 1),.n .i64 (q v 2)])))]⟩
set_option maxRecDepth 100000 in
theorem rdSh (G:St→Option (Ret × Mem)) (K:Cont) (s:Shp) (l:Int) (by_:Z3) (i:Int) (r:Nat) (q:Nat→Nat→Int):jJ 60 (cxS Tf (orSh s l by_) 60 108 (ntmF Tf 108)) (evX Tf (orSh s l by_) 60 108 (ntmF Tf 108)) (qZ []) (qQ Tf 108 [0,1,0,1,1]) [0,1,0,1,1] (Tf.hint 108 (qJ (qQ Tf 108 [0,1,0,1,1]))) K G (hSh s l by_ i r q) =
 (bif (decide (i < (s.np:Int))) then (bif (inB i s.np) then (bif (decide (r + 1≤1000000)) then (G (hSh s l by_ (vJJ .i64 (i + 1)) (r + 1) (fun v k=>List.getD [(bif (Nat.beq v r) then (vJJ .i64 ((s.pts (i).toNat).x + by_.x)) else (q v 0)),(bif (Nat.beq v r) then (vJJ .i64 ((s.pts (i).toNat).y + by_.y)) else (q v 1)),(bif (Nat.beq v r) then (vJJ .i64 ((s.pts (i).toNat).z + by_.z)) else (q v 2))] k 0)))
 else none)
 else none)
 else (K (.exit 0) ⟨[(6,.p 6 0),(7,.p 7 0)],[(6,.blk [.v (.n .i64 0),.v (.n .i64 0),.nl]),(7,.blk [.v (.n .i64 l),.v (.n .i64 s.rad),.o 45]),(45,.reg 58 3 (.fo r (fun v=>[.n .i64 (q v 0),.n .i64 (q v 1),.n .i64 (q v 2)])))]⟩)):=by kernel_rfl
def nxSh (s:Shp) (l:Int) (by_:Z3) (i:Nat) (q:Nat→Nat→Int):Nat→Nat→Int:=fun v k=>List.getD [bif Nat.beq v i then vJJ .i64 ((s.pts i).x + by_.x) else q v 0,bif Nat.beq v i then vJJ .i64 ((s.pts i).y + by_.y) else q v 1,bif Nat.beq v i then vJJ .i64 ((s.pts i).z + by_.z) else q v 2] k 0
theorem lpSh (K:Cont) (s:Shp) (l:Int) (by_:Z3) (_:s.np≤50):LFX 60 (cxS Tf (orSh s l by_) 60 108 (ntmF Tf 108)) (evX Tf (orSh s l by_) 60 108 (ntmF Tf 108)) (qZ []) (qQ Tf 108 [0,1,0,1,1]) [0,1,0,1,1] (Tf.hint 108 (qJ (qQ Tf 108 [0,1,0,1,1]))) K 60 (hSh s l by_ 0 0 (fun v k=>List.getD [0,0,0] k 0))=(K (.exit 0) ⟨[(6,.p 6 0),(7,.p 7 0)],[(6,.blk [.v (.n .i64 0),.v (.n .i64 0),.nl]),(7,.blk [.v (.n .i64 l),.v (.n .i64 s.rad),.o 45]),(45,.reg 58 3 (.fo s.np (fun v=>[.n .i64 ((qYA (nxSh s l by_) s.np 0 (fun v k=>List.getD [0,0,0] k 0)) v 0),.n .i64 ((qYA (nxSh s l by_) s.np 0 (fun v k=>List.getD [0,0,0] k 0)) v 1),.n .i64 ((qYA (nxSh s l by_) s.np 0 (fun v k=>List.getD [0,0,0] k 0)) v 2)])))]⟩):=by
 refine (kW (L:=LFX 60 (cxS Tf (orSh s l by_) 60 108 (ntmF Tf 108)) (evX Tf (orSh s l by_) 60 108 (ntmF Tf 108)) (qZ []) (qQ Tf 108 [0,1,0,1,1]) [0,1,0,1,1] (Tf.hint 108 (qJ (qQ Tf 108 [0,1,0,1,1]))) K) (stp:=jJ 60 (cxS Tf (orSh s l by_) 60 108 (ntmF Tf 108)) (evX Tf (orSh s l by_) 60 108 (ntmF Tf 108)) (qZ []) (qQ Tf 108 [0,1,0,1,1]) [0,1,0,1,1] (Tf.hint 108 (qJ (qQ Tf 108 [0,1,0,1,1]))) K) (fun _ _=>rfl) (fun (i:Nat) (q:Nat→Nat→Int)=>hSh s l by_ (i:Int) i q) (fun _ _=>True) (fun _ _=>true) (nxSh s l by_) (c:=s.np) (fun q=>(K (.exit 0) ⟨[(6,.p 6 0),(7,.p 7 0)],[(6,.blk [.v (.n .i64 0),.v (.n .i64 0),.nl]),(7,.blk [.v (.n .i64 l),.v (.n .i64 s.rad),.o 45]),(45,.reg 58 3 (.fo s.np (fun v=>[.n .i64 (q v 0),.n .i64 (q v 1),.n .i64 (q v 2)])))]⟩)) (fun _ _=>none) (fun G i q hi _ => ?_) (fun _ _ _ _ _=>trivial) (fun G q _ => ?_) s.np 0 60 _ (by omega) (by omega) trivial).trans (qZH s.np 0 _)
 ·refine (rdSh G K s l by_ i i q).trans ?_;simp only [vJQ (show (i:Int) < (s.np:Int) by omega),kY (show i < 1000000 by omega),yZ (show i < s.np by omega),toN,vYV,vJQ (show i + 1≤1000000 by omega)]
  all_goals rfl
 ·refine (rdSh G K s l by_ (s.np:Int) s.np q).trans ?_;rw [vYH (show ¬ (s.np:Int) < (s.np:Int) by omega)];rfl
theorem rwSh (s:Shp) (l:Int) (by_:Z3):∀ v,v < s.np→(qYA (nxSh s l by_) s.np 0 (fun v k=>List.getD [0,0,0] k 0)) v 0=vJJ .i64 ((s.pts v).x + by_.x)∧(qYA (nxSh s l by_) s.np 0 (fun v k=>List.getD [0,0,0] k 0)) v 1=vJJ .i64 ((s.pts v).y + by_.y)∧(qYA (nxSh s l by_) s.np 0 (fun v k=>List.getD [0,0,0] k 0)) v 2=vJJ .i64 ((s.pts v).z + by_.z):=by
 refine qQH (Q:=fun (i:Nat) (q:Nat→Nat→Int)=>∀ v,v < i→q v 0=vJJ .i64 ((s.pts v).x + by_.x)∧q v 1=vJJ .i64 ((s.pts v).y + by_.y)∧q v 2=vJJ .i64 ((s.pts v).z + by_.z)) (c:=s.np) (fun i q hi h v hv => ?_) s.np 0 _ (by omega) (fun v hv=>absurd hv (by omega));by_cases e:v=i
 ·subst e;refine ⟨?_,?_,?_⟩ <;> (show (bif Nat.beq v v then _ else _)=_; rw [qVV,vJQ rfl]; rfl)
 ·have h':=h v (by omega);have eb:Nat.beq v i=false:=by rw [qVV,vYH e]
  refine ⟨?_,?_,?_⟩ <;> (show (bif Nat.beq v i then _ else _)=_; rw [eb])
  ·exact h'.1
  ·exact h'.2.1
  ·exact h'.2.2
def shR (s:Shp) (l:Int) (by_:Z3):Nat→List PV:=(fun v=>[.n .i64 ((qYA (nxSh s l by_) s.np 0 (fun v k=>List.getD [0,0,0] k 0)) v 0),.n .i64 ((qYA (nxSh s l by_) s.np 0 (fun v k=>List.getD [0,0,0] k 0)) v 1),.n .i64 ((qYA (nxSh s l by_) s.np 0 (fun v k=>List.getD [0,0,0] k 0)) v 2)])
noncomputable def yGU (s:Shp) (l:Int) (by_:Z3):List (List Nat × jG):=[([0,1,0,1,1],sumF (fun _:Unit=>(hSh s l by_ 0 0 (fun v k=>List.getD [0,0,0] k 0))) (fun _=>()) (fun _ K=>(bif (decide (s.np≤50)) then (K (.exit 0) ⟨[(6,.p 6 0),(7,.p 7 0)],[(6,.blk [.v (.n .i64 0),.v (.n .i64 0),.nl]),(7,.blk [.v (.n .i64 l),.v (.n .i64 s.rad),.o 45]),(45,.reg 58 3 (.fo s.np (fun v=>[.n .i64 ((qYA (nxSh s l by_) s.np 0 (fun v k=>List.getD [0,0,0] k 0)) v 0),.n .i64 ((qYA (nxSh s l by_) s.np 0 (fun v k=>List.getD [0,0,0] k 0)) v 1),.n .i64 ((qYA (nxSh s l by_) s.np 0 (fun v k=>List.getD [0,0,0] k 0)) v 2)])))]⟩) else none)))]
set_option maxRecDepth 100000 in
theorem xQU (s:Shp) (l:Int) (by_:Z3):uJ Tf (orSh s l by_) (qZ (yGU s l by_)) 60 108 [.a (sP s),.n .i64 l,.a [.n .i64 by_.x,.n .i64 by_.y,.n .i64 by_.z]] =
 (bif (gSt (hSh s l by_ 0 0 (fun v k=>List.getD [0,0,0] k 0)) (hSh s l by_ 0 0 (fun v k=>List.getD [0,0,0] k 0))) then (bif (decide (s.np≤50)) then some (.v (.a [.n .i64 l,.n .i64 s.rad,.lf s.np (shR s l by_)]),[])
 else none)
 else none):=by kernel_rfl
theorem kQU (s:Shp) (l:Int) (by_:Z3) (hk:s.np≤50):yK Tryz.prog 108 [.a (sP s),.n .i64 l,.a [.n .i64 by_.x,.n .i64 by_.y,.n .i64 by_.z]] (.v (.a [.n .i64 l,.n .i64 s.rad,.lf s.np (shR s l by_)])):=by
 refine zZ (N:=60) (LO:=qZ (yGU s l by_)) jU zW (jW (l:=[]) (m:=[]) trivial trivial) (fun p S hp => ?_) ?_
 ·refine qH (L:=qQ Tf 108) (l:=(yGU s l by_)) (show AllP _ (yGU s l by_) from ⟨?_,trivial⟩) p S hp
  ·dsimp only;refine jY (T:=Tf) (o:=(orSh s l by_)) (f:=108) (LO:=qZ []) (p:=[0,1,0,1,1]) kK ?_;intro t K r hr;obtain ⟨hg,hr⟩:=qY hr;have hk:=vJZ hg;exact (lpSh K s l by_ hk).trans hr
 ·refine (xQU s l by_).trans ?_;simp only [yU,vJQ hk,vYV]
  all_goals rfl
theorem uZQ (s:Shp) (l:Int) (by_:Z3) (hk:s.np≤50):yK Tryz.prog 108 [.a (sP s),.n .i64 l,.a (zP by_)] (.v (.a (sP (sftS by_ l s)))) :=
 qKW (Same.a (xs:=[_,_,_]) ⟨Same.refl _,Same.refl _,qUY fun j hj=>by
  obtain ⟨h1,h2,h3⟩:=rwSh s l by_ j hj;show [PV.n .i64 ((qYA (nxSh s l by_) s.np 0 (fun v k=>List.getD [0,0,0] k 0)) j 0),PV.n .i64 ((qYA (nxSh s l by_) s.np 0 (fun v k=>List.getD [0,0,0] k 0)) j 1),PV.n .i64 ((qYA (nxSh s l by_) s.np 0 (fun v k=>List.getD [0,0,0] k 0)) j 2)]=[PV.n .i64 (sft by_ s.np s.pts j).x,PV.n .i64 (sft by_ s.np s.pts j).y,PV.n .i64 (sft by_ s.np s.pts j).z];have hb:Nat.blt j s.np=true:=by rw [Nat.blt_eq]; exact hj
  unfold sft;rw [h1,h2,h3];simp only [hb,vYV],trivial⟩) (kQU s l by_ hk)
def csf:Shp × Int × Z3→Prop:=fun t=>match t with | (s,_,_)=>s.np≤50
def esf:Shp × Int × Z3→List PV:=fun t=>match t with | (s,l,by_)=>[.a (sP s),.n .i64 l,.a (zP by_)]
noncomputable def rsf:Shp × Int × Z3→Ret:=fun t=>match t with | (s,l,by_)=>.v (.a (sP (sftS by_ l s)))
def dsf:List PV→Shp × Int × Z3:=fun ps=>match ps with
 | [.a r,.n _ l,.a q]=>(unS r,l,unZ q)
 | _=>(⟨0,0,0,fun _=>⟨0,0,0⟩⟩,0,⟨0,0,0⟩)
noncomputable def o_sf:List PV→Option (Bool × Ret):=o_fm dsf csf esf rsf
theorem fQG:zY Tryz.prog 108 o_sf:=uK fun t h=>by
 obtain ⟨s,l,by_⟩:=t;exact uZQ s l by_ h
end Go.Proofs.YtgmbkkkbfbocnaaGreat.Hh
namespace Go.Proofs.YtgmbkkkbfbocnaaGreat.Hi
open Go.Rx Rt Go.Sx Go.RowKit Od Na Nb Nc Nx Nf Nl Nm Ga Gb Gc Gd Ge Gf Gg Ha Hb Hc Hd He Hf Hg Hh
theorem cl0j:yK Tryz.prog 93 [.l []] (.v (.l [])):=zJX (uW (N:=60) yX zW qJZ (by kernel_rfl)) (qHU (e:=88) (sz:=12) (uW (N:=60) yX zW qJZ (by kernel_rfl)))
noncomputable def xZK (n:Nat) (q:Nat→J):OrS:=orS [] []
noncomputable def yGD (n:Nat) (q:Nat→J):List (List Nat × jG):=[]
set_option maxRecDepth 100000 in
theorem xQD (n:Nat) (q:Nat→J):uJ Tf (xZK n q) (qZ (yGD n q)) 60 93 [.lf (n + 1) (fJ q)] =
 (bif (decide (0 + (n + 1)≤1000000)) then some (.ow 88 12 (.fo (n + 1) (fJ q)),[])
 else none):=by kernel_rfl
theorem kZU (n:Nat) (q:Nat→J) (_:n + 1≤70):yK Tryz.prog 93 [.lf (n + 1) (fJ q)] (.ow 88 12 (.fo (n + 1) (fJ q))):=by
 refine zZ (N:=60) (LO:=qZ (yGD n q)) jU zW (jW (l:=[]) (m:=[]) trivial trivial) (fun p S hp => ?_) ?_
 ·refine qH (L:=qQ Tf 93) (l:=(yGD n q)) (show AllP _ (yGD n q) from trivial) p S hp
 ·refine (xQD n q).trans ?_;simp only [vJQ (show n + 1≤1000000 by omega),vJQ (show n + 1≤8796093022208 by omega),vJQ (show 0 + (n + 1)≤1000000 by omega),vYV]
  all_goals rfl
theorem kZZ (n:Nat) (q:Nat→J) (hn:1≤n∧n≤70):yK Tryz.prog 93 [.lf n (fJ q)] (.ow 88 12 (.fo n (fJ q))):=by
 obtain ⟨h1,h2⟩:=hn;obtain ⟨m,rfl⟩:∃ m,n=m + 1:=⟨n - 1,by omega⟩
 exact kZU m q h2
theorem kQF (n:Nat) (q:Nat→J) (hn:n≤70):yK Tryz.prog 93 [.lf n (fJ q)] (.v (.lf n (fJ q))):=by
 rcases Nat.eq_zero_or_pos n with rfl | h
 ·exact zVZ (ps:=[.l []]) (x:=.l []) ⟨Same.l rfl,trivial⟩ (Same.lf rfl) cl0j
 ·exact zVY (kZZ n q ⟨h,hn⟩)
def ccvj:Nat × (Nat→J)→Prop:=fun t=>match t with | (n,_)=>n≤70
def ecvj:Nat × (Nat→J)→List PV:=fun t=>match t with | (n,q)=>[.lf n (fJ q)]
noncomputable def rcvj:Nat × (Nat→J)→Ret:=fun t=>match t with | (n,q)=>.v (.lf n (fJ q))
def dcvj:List PV→Nat × (Nat→J):=fun ps=>match ps with
 | [.lf n f]=>(n,unFJ f)
 | _=>(0,fun _=>⟨ByteArray.empty,0,0,⟨0,0,0⟩,0,0,0,0,0,0⟩)
noncomputable def uXY:List PV→Option (Bool × Ret):=o_fm dcvj ccvj ecvj rcvj
theorem xYD:zY Tryz.prog 93 uXY:=uK fun t h=>by
 obtain ⟨n,q⟩:=t;exact kQF n q h
theorem cl0m:yK Tryz.prog 94 [.l []] (.v (.l [])):=zJX (uW (N:=60) yX zW qJZ (by kernel_rfl)) (qHU (e:=128) (sz:=5) (uW (N:=60) yX zW qJZ (by kernel_rfl)))
noncomputable def xZY (n:Nat) (q:Nat→Ms):OrS:=orS [] []
noncomputable def yGB (n:Nat) (q:Nat→Ms):List (List Nat × jG):=[]
set_option maxRecDepth 100000 in
theorem xQB (n:Nat) (q:Nat→Ms):uJ Tf (xZY n q) (qZ (yGB n q)) 60 94 [.lf (n + 1) (fM q)] =
 (bif (decide (0 + (n + 1)≤1000000)) then some (.ow 128 5 (.fo (n + 1) (fM q)),[])
 else none):=by kernel_rfl
theorem kZJ (n:Nat) (q:Nat→Ms) (_:n + 1≤70):yK Tryz.prog 94 [.lf (n + 1) (fM q)] (.ow 128 5 (.fo (n + 1) (fM q))):=by
 refine zZ (N:=60) (LO:=qZ (yGB n q)) jU zW (jW (l:=[]) (m:=[]) trivial trivial) (fun p S hp => ?_) ?_
 ·refine qH (L:=qQ Tf 94) (l:=(yGB n q)) (show AllP _ (yGB n q) from trivial) p S hp
 ·refine (xQB n q).trans ?_;simp only [vJQ (show n + 1≤1000000 by omega),vJQ (show n + 1≤8796093022208 by omega),vJQ (show 0 + (n + 1)≤1000000 by omega),vYV]
  all_goals rfl
theorem kQL (n:Nat) (q:Nat→Ms) (hn:1≤n∧n≤70):yK Tryz.prog 94 [.lf n (fM q)] (.ow 128 5 (.fo n (fM q))):=by
 obtain ⟨h1,h2⟩:=hn;obtain ⟨m,rfl⟩:∃ m,n=m + 1:=⟨n - 1,by omega⟩
 exact kZJ m q h2
theorem kQD (n:Nat) (q:Nat→Ms) (hn:n≤70):yK Tryz.prog 94 [.lf n (fM q)] (.v (.lf n (fM q))):=by
 rcases Nat.eq_zero_or_pos n with rfl | h
 ·exact zVZ (ps:=[.l []]) (x:=.l []) ⟨Same.l rfl,trivial⟩ (Same.lf rfl) cl0m
 ·exact zVY (kQL n q ⟨h,hn⟩)
def ccvm:Nat × (Nat→Ms)→Prop:=fun t=>match t with | (n,_)=>n≤70
def ecvm:Nat × (Nat→Ms)→List PV:=fun t=>match t with | (n,q)=>[.lf n (fM q)]
noncomputable def rcvm:Nat × (Nat→Ms)→Ret:=fun t=>match t with | (n,q)=>.v (.lf n (fM q))
def dcvm:List PV→Nat × (Nat→Ms):=fun ps=>match ps with
 | [.lf n f]=>(n,unFM f)
 | _=>(0,fun _=>⟨0,0,⟨0,0,0⟩⟩)
noncomputable def uXQ:List PV→Option (Bool × Ret):=o_fm dcvm ccvm ecvm rcvm
theorem xYB:zY Tryz.prog 94 uXQ:=uK fun t h=>by
 obtain ⟨n,q⟩:=t;exact kQD n q h
theorem cl0k:yK Tryz.prog 96 [.l []] (.v (.l [])):=zJX (uW (N:=60) yX zW qJZ (by kernel_rfl)) (qHU (e:=86) (sz:=2) (uW (N:=60) yX zW qJZ (by kernel_rfl)))
noncomputable def xZJ (n:Nat) (q:Nat→Skp):OrS:=orS [] []
noncomputable def yGC (n:Nat) (q:Nat→Skp):List (List Nat × jG):=[]
set_option maxRecDepth 100000 in
theorem xQC (n:Nat) (q:Nat→Skp):uJ Tf (xZJ n q) (qZ (yGC n q)) 60 96 [.lf (n + 1) (fK q)] =
 (bif (decide (0 + (n + 1)≤1000000)) then some (.ow 86 2 (.fo (n + 1) (fK q)),[])
 else none):=by kernel_rfl
theorem kZK (n:Nat) (q:Nat→Skp) (_:n + 1≤70):yK Tryz.prog 96 [.lf (n + 1) (fK q)] (.ow 86 2 (.fo (n + 1) (fK q))):=by
 refine zZ (N:=60) (LO:=qZ (yGC n q)) jU zW (jW (l:=[]) (m:=[]) trivial trivial) (fun p S hp => ?_) ?_
 ·refine qH (L:=qQ Tf 96) (l:=(yGC n q)) (show AllP _ (yGC n q) from trivial) p S hp
 ·refine (xQC n q).trans ?_;simp only [vJQ (show n + 1≤1000000 by omega),vJQ (show n + 1≤8796093022208 by omega),vJQ (show 0 + (n + 1)≤1000000 by omega),vYV]
  all_goals rfl
theorem kZQ (n:Nat) (q:Nat→Skp) (hn:1≤n∧n≤70):yK Tryz.prog 96 [.lf n (fK q)] (.ow 86 2 (.fo n (fK q))):=by
 obtain ⟨h1,h2⟩:=hn;obtain ⟨m,rfl⟩:∃ m,n=m + 1:=⟨n - 1,by omega⟩
 exact kZK m q h2
theorem kQE (n:Nat) (q:Nat→Skp) (hn:n≤70):yK Tryz.prog 96 [.lf n (fK q)] (.v (.lf n (fK q))):=by
 rcases Nat.eq_zero_or_pos n with rfl | h
 ·exact zVZ (ps:=[.l []]) (x:=.l []) ⟨Same.l rfl,trivial⟩ (Same.lf rfl) cl0k
 ·exact zVY (kZQ n q ⟨h,hn⟩)
def ccvk:Nat × (Nat→Skp)→Prop:=fun t=>match t with | (n,_)=>n≤70
def ecvk:Nat × (Nat→Skp)→List PV:=fun t=>match t with | (n,q)=>[.lf n (fK q)]
noncomputable def rcvk:Nat × (Nat→Skp)→Ret:=fun t=>match t with | (n,q)=>.v (.lf n (fK q))
def dcvk:List PV→Nat × (Nat→Skp):=fun ps=>match ps with
 | [.lf n f]=>(n,unFK f)
 | _=>(0,fun _=>⟨0,0⟩)
noncomputable def uXZ:List PV→Option (Bool × Ret):=o_fm dcvk ccvk ecvk rcvk
theorem xYC:zY Tryz.prog 96 uXZ:=uK fun t h=>by
 obtain ⟨n,q⟩:=t;exact kQE n q h
noncomputable def orCa (_:Wsp) (k:Nat) (q:Nat→Int):OrS:=orS [(16,o_gk),(62,o_vl),(95,o_pl),(93,uXY),(94,uXQ),(96,uXZ)] []
def lkS (l:Int) (s:Shp):Shp:=⟨l,s.rad,s.np,s.pts⟩
def zJL (g:Nat→Shp) (r:Nat) (s:Shp):Nat→Shp:=fun v=>bif Nat.beq v r then s else g v
theorem jUH (g:Nat→Shp) (r:Nat) (s:Shp):(fun v=>qZX (Nat.beq v r) (sP s) (fS g v))=fS (zJL g r s):=by
 funext v;rw [qQJ];show _=sP (bif Nat.beq v r then s else g v);cases Nat.beq v r <;> rfl
def addN (l:Int) (hs:Nat→Shp) (n:Nat) (t:Nat × (Nat→Shp)):Nat × (Nat→Shp):=qYA (fun (j:Nat) (t:Nat × (Nat→Shp))=>(t.1 + 1,zJL t.2 t.1 (lkS l (hs j)))) n 0 t
theorem jVU {τ:Type} {nx:Nat→τ→τ} {len:τ→Nat} (h:∀ j t,len (nx j t)=len t + 1):∀ n p t,len (qYA nx n p t)=len t + n
 | 0,p,t=>rfl
 | n + 1,p,t=>by rw [qYA,jVU h n (p + 1),h]; omega
theorem kHF (l:Int) (hs:Nat→Shp) (n:Nat) (t:Nat × (Nat→Shp)):(addN l hs n t).1=t.1 + n:=jVU (len:=fun (t:Nat × (Nat→Shp))=>t.1) (fun j t=>rfl) n 0 t
noncomputable def hCb (ws:Wsp) (k:Nat) (q:Nat→Int) (i:Int) (l:Int) (n:Nat) (hs:Nat→Shp) (j:Int) (r:Nat) (f:Nat→List PV):St:=⟨[(2,.p 2 0),(3,.p 3 0),(4,.p 4 0),(7,.p 7 0),(10,.v (.n .i64 l)),(48,.v (.lf ws.no (fO ws.ob))),(49,.v (.n .i64 (ws.no:Int))),(50,.v (.n .i64 i)),(85,.v (.lf n (fS hs))),(86,.v (.n .i64 (n:Int))),(87,.v (.n .i64 j))],[(2,.blk [.v (.lf ws.n (fJ ws.js)),.v (.lf ws.m (fM ws.ms)),.v (.lf ws.c (fS ws.sh)),.v (.lf ws.d (fK ws.sk)),.v (.lf ws.no (fO ws.ob)),.v (.lf ws.np (fZ ws.pl)),.v (.lf ws.nh (fH ws.hd)),.v (.lf ws.ng (fG ws.gr)),.v (.n .i64 ws.slack)]),(3,.blk [.v (.lf k (fQ q))]),(4,.blk [.nl,.nl,.nl,.nl]),(7,.blk [.v (.lf ws.n (fJ ws.js)),.v (.lf ws.m (fM ws.ms)),.o 41,.v (.lf ws.d (fK ws.sk))]),(41,.reg 83 3 (.fo r f))]⟩
set_option maxRecDepth 100000 in
theorem rdCb (G:St→Option (Ret × Mem)) (K:Cont) (ws:Wsp) (k:Nat) (q:Nat→Int) (i:Int) (l:Int) (n:Nat) (hs:Nat→Shp) (j:Int) (r:Nat) (f:Nat→List PV):jJ 60 (cxS Tf (orCa ws k q) 60 46 (ntmF Tf 46)) (evX Tf (orCa ws k q) 60 46 (ntmF Tf 46)) (qZ []) (qQ Tf 46 [0,1,1,1,1,0,0,1,1,0,0,1,0,1,1,1,1]) [0,1,1,1,1,0,0,1,1,0,0,1,0,1,1,1,1] (Tf.hint 46 (qJ (qQ Tf 46 [0,1,1,1,1,0,0,1,1,0,0,1,0,1,1,1,1]))) K G (hCb ws k q i l n hs j r f) =
 (bif (decide (j < (n:Int))) then (bif (inB j n) then (bif (decide (r + 1≤1000000)) then (G (hCb ws k q i l n hs (vJJ .i64 (j + 1)) (r + 1) (fun v=>qZX (Nat.beq v r) [.n .i64 l,.n .i64 (hs (j).toNat).rad,.lf (hs (j).toNat).np (fZ (hs (j).toNat).pts)] (f v))))
 else none)
 else none)
 else (K (.exit 2) ⟨[(2,.p 2 0),(3,.p 3 0),(4,.p 4 0),(7,.p 7 0),(48,.v (.lf ws.no (fO ws.ob))),(49,.v (.n .i64 (ws.no:Int))),(50,.v (.n .i64 i))],[(2,.blk [.v (.lf ws.n (fJ ws.js)),.v (.lf ws.m (fM ws.ms)),.v (.lf ws.c (fS ws.sh)),.v (.lf ws.d (fK ws.sk)),.v (.lf ws.no (fO ws.ob)),.v (.lf ws.np (fZ ws.pl)),.v (.lf ws.nh (fH ws.hd)),.v (.lf ws.ng (fG ws.gr)),.v (.n .i64 ws.slack)]),(3,.blk [.v (.lf k (fQ q))]),(4,.blk [.nl,.nl,.nl,.nl]),(7,.blk [.v (.lf ws.n (fJ ws.js)),.v (.lf ws.m (fM ws.ms)),.o 41,.v (.lf ws.d (fK ws.sk))]),(41,.reg 83 3 (.fo r f))]⟩)):=by kernel_rfl
def slFS (σ:St) (k:Nat):Nat→Shp:=match qQQ σ.S k with
 | some (.v (.lf _ f))=>unFS f
 | _=>fun _=>⟨0,0,0,fun _=>⟨0,0,0⟩⟩
theorem lpCb (K:Cont) (ws:Wsp) (k:Nat) (q:Nat→Int) (i l:Int) (n:Nat) (hs:Nat→Shp) (r:Nat) (g:Nat→Shp) (_:n≤50) (_:r≤900000):LFX 60 (cxS Tf (orCa ws k q) 60 46 (ntmF Tf 46)) (evX Tf (orCa ws k q) 60 46 (ntmF Tf 46)) (qZ []) (qQ Tf 46 [0,1,1,1,1,0,0,1,1,0,0,1,0,1,1,1,1]) [0,1,1,1,1,0,0,1,1,0,0,1,0,1,1,1,1] (Tf.hint 46 (qJ (qQ Tf 46 [0,1,1,1,1,0,0,1,1,0,0,1,0,1,1,1,1]))) K 60 (hCb ws k q i l n hs 0 r (fS g))=(K (.exit 2) ⟨[(2,.p 2 0),(3,.p 3 0),(4,.p 4 0),(7,.p 7 0),(48,.v (.lf ws.no (fO ws.ob))),(49,.v (.n .i64 (ws.no:Int))),(50,.v (.n .i64 i))],[(2,.blk [.v (.lf ws.n (fJ ws.js)),.v (.lf ws.m (fM ws.ms)),.v (.lf ws.c (fS ws.sh)),.v (.lf ws.d (fK ws.sk)),.v (.lf ws.no (fO ws.ob)),.v (.lf ws.np (fZ ws.pl)),.v (.lf ws.nh (fH ws.hd)),.v (.lf ws.ng (fG ws.gr)),.v (.n .i64 ws.slack)]),(3,.blk [.v (.lf k (fQ q))]),(4,.blk [.nl,.nl,.nl,.nl]),(7,.blk [.v (.lf ws.n (fJ ws.js)),.v (.lf ws.m (fM ws.ms)),.o 41,.v (.lf ws.d (fK ws.sk))]),(41,.reg 83 3 (.fo (addN l hs n (r,g)).1 (fS (addN l hs n (r,g)).2)))]⟩):=by
 refine (kW (L:=LFX 60 (cxS Tf (orCa ws k q) 60 46 (ntmF Tf 46)) (evX Tf (orCa ws k q) 60 46 (ntmF Tf 46)) (qZ []) (qQ Tf 46 [0,1,1,1,1,0,0,1,1,0,0,1,0,1,1,1,1]) [0,1,1,1,1,0,0,1,1,0,0,1,0,1,1,1,1] (Tf.hint 46 (qJ (qQ Tf 46 [0,1,1,1,1,0,0,1,1,0,0,1,0,1,1,1,1]))) K) (stp:=jJ 60 (cxS Tf (orCa ws k q) 60 46 (ntmF Tf 46)) (evX Tf (orCa ws k q) 60 46 (ntmF Tf 46)) (qZ []) (qQ Tf 46 [0,1,1,1,1,0,0,1,1,0,0,1,0,1,1,1,1]) [0,1,1,1,1,0,0,1,1,0,0,1,0,1,1,1,1] (Tf.hint 46 (qJ (qQ Tf 46 [0,1,1,1,1,0,0,1,1,0,0,1,0,1,1,1,1]))) K) (fun _ _=>rfl) (fun (j:Nat) (t:Nat × (Nat→Shp))=>(hCb ws k q i l n hs (j:Int) t.1 (fS t.2))) (fun j t=>t.1=r + j) (fun _ _=>true) (fun (j:Nat) (t:Nat × (Nat→Shp))=>(t.1 + 1,zJL t.2 t.1 (lkS l (hs j)))) (c:=n) (fun t=>(K (.exit 2) ⟨[(2,.p 2 0),(3,.p 3 0),(4,.p 4 0),(7,.p 7 0),(48,.v (.lf ws.no (fO ws.ob))),(49,.v (.n .i64 (ws.no:Int))),(50,.v (.n .i64 i))],[(2,.blk [.v (.lf ws.n (fJ ws.js)),.v (.lf ws.m (fM ws.ms)),.v (.lf ws.c (fS ws.sh)),.v (.lf ws.d (fK ws.sk)),.v (.lf ws.no (fO ws.ob)),.v (.lf ws.np (fZ ws.pl)),.v (.lf ws.nh (fH ws.hd)),.v (.lf ws.ng (fG ws.gr)),.v (.n .i64 ws.slack)]),(3,.blk [.v (.lf k (fQ q))]),(4,.blk [.nl,.nl,.nl,.nl]),(7,.blk [.v (.lf ws.n (fJ ws.js)),.v (.lf ws.m (fM ws.ms)),.o 41,.v (.lf ws.d (fK ws.sk))]),(41,.reg 83 3 (.fo t.1 (fS t.2)))]⟩)) (fun _ _=>none) (fun G j t hj hv => ?_) (fun j t hj hv _ => ?_) (fun G t hv => ?_) n 0 60 (r,g) (by omega) (by omega) rfl).trans (qZH n 0 _)
 ·refine (rdCb G K ws k q i l n hs j t.1 (fS t.2)).trans ?_;simp only [vJQ (show (j:Int) < (n:Int) by omega),kY (show j < 1000000 by omega),yZ hj,toN,vJQ (show t.1 + 1≤1000000 by omega),vYV];exact congrArg (fun f=>G (hCb ws k q i l n hs ((j + 1:Nat):Int) (t.1 + 1) f)) (jUH t.2 t.1 (lkS l (hs j)))
 ·show t.1 + 1=r + (j + 1);omega
 ·refine (rdCb G K ws k q i l n hs n t.1 (fS t.2)).trans ?_;rw [vYH (show ¬ (n:Int) < (n:Int) by omega)];rfl
theorem okCb (ws:Wsp) (k:Nat) (q:Nat→Int):∀ p S,qZ [([0,1,1,1,1,0,0,1,1,0,0,1,0,1,1,1,1],sumF (fun t:Int × Int × Nat × (Nat→Shp) × Nat × (Nat→Shp)=>(hCb ws k q t.1 t.2.1 t.2.2.1 t.2.2.2.1 0 t.2.2.2.2.1 (fS t.2.2.2.2.2))) (fun σ=>(slI σ 50,slI σ 10,lfN σ 85,slFS σ 85,rgN σ 41,unFS (rgF σ 41))) (fun t K=>(bif (decide (t.2.2.1≤50∧t.2.2.2.2.1≤900000)) then (K (.exit 2) ⟨[(2,.p 2 0),(3,.p 3 0),(4,.p 4 0),(7,.p 7 0),(48,.v (.lf ws.no (fO ws.ob))),(49,.v (.n .i64 (ws.no:Int))),(50,.v (.n .i64 t.1))],[(2,.blk [.v (.lf ws.n (fJ ws.js)),.v (.lf ws.m (fM ws.ms)),.v (.lf ws.c (fS ws.sh)),.v (.lf ws.d (fK ws.sk)),.v (.lf ws.no (fO ws.ob)),.v (.lf ws.np (fZ ws.pl)),.v (.lf ws.nh (fH ws.hd)),.v (.lf ws.ng (fG ws.gr)),.v (.n .i64 ws.slack)]),(3,.blk [.v (.lf k (fQ q))]),(4,.blk [.nl,.nl,.nl,.nl]),(7,.blk [.v (.lf ws.n (fJ ws.js)),.v (.lf ws.m (fM ws.ms)),.o 41,.v (.lf ws.d (fK ws.sk))]),(41,.reg 83 3 (.fo (addN t.2.1 t.2.2.2.1 t.2.2.1 (t.2.2.2.2.1,t.2.2.2.2.2)).1 (fS (addN t.2.1 t.2.2.2.1 t.2.2.1 (t.2.2.2.2.1,t.2.2.2.2.2)).2)))]⟩) else none)))] p=some S→qQF 60 (cxS Tf (orCa ws k q) 60 46 (ntmF Tf 46)) (qQ Tf 46 p) S:=fun p S hp=>by
 refine qH (L:=qQ Tf 46) (l:=[([0,1,1,1,1,0,0,1,1,0,0,1,0,1,1,1,1],sumF (fun t:Int × Int × Nat × (Nat→Shp) × Nat × (Nat→Shp)=>(hCb ws k q t.1 t.2.1 t.2.2.1 t.2.2.2.1 0 t.2.2.2.2.1 (fS t.2.2.2.2.2))) (fun σ=>(slI σ 50,slI σ 10,lfN σ 85,slFS σ 85,rgN σ 41,unFS (rgF σ 41))) (fun t K=>(bif (decide (t.2.2.1≤50∧t.2.2.2.2.1≤900000)) then (K (.exit 2) ⟨[(2,.p 2 0),(3,.p 3 0),(4,.p 4 0),(7,.p 7 0),(48,.v (.lf ws.no (fO ws.ob))),(49,.v (.n .i64 (ws.no:Int))),(50,.v (.n .i64 t.1))],[(2,.blk [.v (.lf ws.n (fJ ws.js)),.v (.lf ws.m (fM ws.ms)),.v (.lf ws.c (fS ws.sh)),.v (.lf ws.d (fK ws.sk)),.v (.lf ws.no (fO ws.ob)),.v (.lf ws.np (fZ ws.pl)),.v (.lf ws.nh (fH ws.hd)),.v (.lf ws.ng (fG ws.gr)),.v (.n .i64 ws.slack)]),(3,.blk [.v (.lf k (fQ q))]),(4,.blk [.nl,.nl,.nl,.nl]),(7,.blk [.v (.lf ws.n (fJ ws.js)),.v (.lf ws.m (fM ws.ms)),.o 41,.v (.lf ws.d (fK ws.sk))]),(41,.reg 83 3 (.fo (addN t.2.1 t.2.2.2.1 t.2.2.1 (t.2.2.2.2.1,t.2.2.2.2.2)).1 (fS (addN t.2.1 t.2.2.2.1 t.2.2.1 (t.2.2.2.2.1,t.2.2.2.2.2)).2)))]⟩) else none)))]) ⟨?_,trivial⟩ p S hp;dsimp only;refine jY (T:=Tf) (o:=(orCa ws k q)) (f:=46) (LO:=qZ []) (p:=[0,1,1,1,1,0,0,1,1,0,0,1,0,1,1,1,1]) kK ?_;intro t K r hr;obtain ⟨hg,hr⟩:=qY hr
 skip
 exact (lpCb K ws k q t.1 t.2.1 t.2.2.1 t.2.2.2.1 t.2.2.2.2.1 t.2.2.2.2.2 (vJZ hg).1 (vJZ hg).2).trans hr
noncomputable def hCa (ws:Wsp) (k:Nat) (q:Nat→Int) (i:Int) (r:Nat) (g:Nat→Shp):St:=⟨[(2,.p 2 0),(3,.p 3 0),(4,.p 4 0),(7,.p 7 0),(48,.v (.lf ws.no (fO ws.ob))),(49,.v (.n .i64 (ws.no:Int))),(50,.v (.n .i64 i))],[(2,.blk [.v (.lf ws.n (fJ ws.js)),.v (.lf ws.m (fM ws.ms)),.v (.lf ws.c (fS ws.sh)),.v (.lf ws.d (fK ws.sk)),.v (.lf ws.no (fO ws.ob)),.v (.lf ws.np (fZ ws.pl)),.v (.lf ws.nh (fH ws.hd)),.v (.lf ws.ng (fG ws.gr)),.v (.n .i64 ws.slack)]),(3,.blk [.v (.lf k (fQ q))]),(4,.blk [.nl,.nl,.nl,.nl]),(7,.blk [.v (.lf ws.n (fJ ws.js)),.v (.lf ws.m (fM ws.ms)),.o 41,.v (.lf ws.d (fK ws.sk))]),(41,.reg 83 3 (.fo r (fS g)))]⟩
set_option maxRecDepth 100000 in
theorem rdCa (G:St→Option (Ret × Mem)) (K:Cont) (ws:Wsp) (k:Nat) (q:Nat→Int) (i:Int) (r:Nat) (g:Nat→Shp):jJ 60 (cxS Tf (orCa ws k q) 60 46 (ntmF Tf 46)) (evX Tf (orCa ws k q) 60 46 (ntmF Tf 46)) (qZ [([0,1,1,1,1,0,0,1,1,0,0,1,0,1,1,1,1],sumF (fun t:Int × Int × Nat × (Nat→Shp) × Nat × (Nat→Shp)=>(hCb ws k q t.1 t.2.1 t.2.2.1 t.2.2.2.1 0 t.2.2.2.2.1 (fS t.2.2.2.2.2))) (fun σ=>(slI σ 50,slI σ 10,lfN σ 85,slFS σ 85,rgN σ 41,unFS (rgF σ 41))) (fun t K=>(bif (decide (t.2.2.1≤50∧t.2.2.2.2.1≤900000)) then (K (.exit 2) ⟨[(2,.p 2 0),(3,.p 3 0),(4,.p 4 0),(7,.p 7 0),(48,.v (.lf ws.no (fO ws.ob))),(49,.v (.n .i64 (ws.no:Int))),(50,.v (.n .i64 t.1))],[(2,.blk [.v (.lf ws.n (fJ ws.js)),.v (.lf ws.m (fM ws.ms)),.v (.lf ws.c (fS ws.sh)),.v (.lf ws.d (fK ws.sk)),.v (.lf ws.no (fO ws.ob)),.v (.lf ws.np (fZ ws.pl)),.v (.lf ws.nh (fH ws.hd)),.v (.lf ws.ng (fG ws.gr)),.v (.n .i64 ws.slack)]),(3,.blk [.v (.lf k (fQ q))]),(4,.blk [.nl,.nl,.nl,.nl]),(7,.blk [.v (.lf ws.n (fJ ws.js)),.v (.lf ws.m (fM ws.ms)),.o 41,.v (.lf ws.d (fK ws.sk))]),(41,.reg 83 3 (.fo (addN t.2.1 t.2.2.2.1 t.2.2.1 (t.2.2.2.2.1,t.2.2.2.2.2)).1 (fS (addN t.2.1 t.2.2.2.1 t.2.2.1 (t.2.2.2.2.1,t.2.2.2.2.2)).2)))]⟩) else none)))]) (qQ Tf 46 [0,1,0,1,1,1,1]) [0,1,0,1,1,1,1] (Tf.hint 46 (qJ (qQ Tf 46 [0,1,0,1,1,1,1]))) K G (hCa ws k q i r g) =
 (bif (decide (i < (ws.no:Int))) then (bif (inB i ws.no) then (bif (inB i k) then (bif (decide (0≤(q (i).toNat))) then (bif (inB (q (i).toNat) ws.np) then (bif (gF1 cpl epl (((ws.ob (i).toNat).ns),((ws.ob (i).toNat).shs),(ws.pl ((q (i).toNat)).toNat))) then (bif (gSt (hCb ws k q i (-1) ((ws.ob (i).toNat).ns) (fun v=>(sftL (ws.pl ((q (i).toNat)).toNat) (((ws.ob (i).toNat).shs) v))) 0 r (fS g)) (hCb ws k q i (-1) ((ws.ob (i).toNat).ns) (fun v=>(sftL (ws.pl ((q (i).toNat)).toNat) (((ws.ob (i).toNat).shs) v))) 0 r (fS g))) then (bif (decide (((ws.ob (i).toNat).ns)≤50∧r≤900000)) then (G (hCa ws k q (vJJ .i64 (i + 1)) (addN (-1) (fun v=>(sftL (ws.pl ((q (i).toNat)).toNat) (((ws.ob (i).toNat).shs) v))) ((ws.ob (i).toNat).ns) (r,g)).1 ((addN (-1) (fun v=>(sftL (ws.pl ((q (i).toNat)).toNat) (((ws.ob (i).toNat).shs) v))) ((ws.ob (i).toNat).ns) (r,g)).2)))
 else none)
 else none)
 else none)
 else none)
 else (bif (inB (vJJ .i64 ((-1) - (q (i).toNat))) ws.nh) then (bif (inB (vJJ .i64 ((-1) - (q (i).toNat))) ws.nh) then (bif (gF1 cpl epl (((ws.ob (i).toNat).ns),((ws.ob (i).toNat).shs),((ws.hd ((vJJ .i64 ((-1) - (q (i).toNat)))).toNat).off))) then (bif (gSt (hCb ws k q i ((ws.hd ((vJJ .i64 ((-1) - (q (i).toNat)))).toNat).link) ((ws.ob (i).toNat).ns) (fun v=>(sftL ((ws.hd ((vJJ .i64 ((-1) - (q (i).toNat)))).toNat).off) (((ws.ob (i).toNat).shs) v))) 0 r (fS g)) (hCb ws k q i ((ws.hd ((vJJ .i64 ((-1) - (q (i).toNat)))).toNat).link) ((ws.ob (i).toNat).ns) (fun v=>(sftL ((ws.hd ((vJJ .i64 ((-1) - (q (i).toNat)))).toNat).off) (((ws.ob (i).toNat).shs) v))) 0 r (fS g))) then (bif (decide (((ws.ob (i).toNat).ns)≤50∧r≤900000)) then (G (hCa ws k q (vJJ .i64 (i + 1)) (addN ((ws.hd ((vJJ .i64 ((-1) - (q (i).toNat)))).toNat).link) (fun v=>(sftL ((ws.hd ((vJJ .i64 ((-1) - (q (i).toNat)))).toNat).off) (((ws.ob (i).toNat).shs) v))) ((ws.ob (i).toNat).ns) (r,g)).1 ((addN ((ws.hd ((vJJ .i64 ((-1) - (q (i).toNat)))).toNat).link) (fun v=>(sftL ((ws.hd ((vJJ .i64 ((-1) - (q (i).toNat)))).toNat).off) (((ws.ob (i).toNat).shs) v))) ((ws.ob (i).toNat).ns) (r,g)).2)))
 else none)
 else none)
 else none)
 else none)
 else none))
 else none)
 else none)
 else (K (.exit 0) ⟨[(4,.p 4 0),(7,.p 7 0)],[(4,.blk [.nl,.nl,.nl,.nl]),(7,.blk [.v (.lf ws.n (fJ ws.js)),.v (.lf ws.m (fM ws.ms)),.o 41,.v (.lf ws.d (fK ws.sk))]),(41,.reg 83 3 (.fo r (fS g)))]⟩)):=by kernel_rfl
def scN (ws:Wsp) (q:Nat→Int) (i:Nat) (t:Nat × (Nat→Shp)):Nat × (Nat→Shp):=bif decide (0≤q i) then addN (-1) (fun v=>(sftL (ws.pl (q i).toNat) ((ws.ob i).shs v))) (ws.ob i).ns t else addN (ws.hd (vJJ .i64 ((-1) - (q i))).toNat).link (fun v=>(sftL (ws.hd (vJJ .i64 ((-1) - (q i))).toNat).off ((ws.ob i).shs v))) (ws.ob i).ns t
def scS (ws:Wsp) (q:Nat→Int) (t:Nat × (Nat→Shp)):Nat × (Nat→Shp):=qYA (scN ws q) ws.no 0 t
def sumN (f:Nat→Nat):Nat→Nat
 | 0=>0
 | i + 1=>sumN f i + f i
theorem uQJ (f:Nat→Nat) {i n:Nat} (_:i < n):f i≤sumN f n:=by
 induction n with
 | zero=>omega
 | succ n ih =>
  unfold sumN;by_cases e:i=n
  ·subst e; omega
  ·have:=ih (by omega); omega
theorem jJX (f:Nat→Nat) (b:Nat):∀ n,(∀ i,i < n→f i≤b)→sumN f n≤n * b
 | 0,_=>Nat.zero_le _
 | n + 1,h=>by
  have h1:=jJX f b n fun i hi=>h i (by omega)
  have h2:=h n (by omega);unfold sumN;rw [Nat.add_mul]; omega
theorem yWW {ws:Wsp} (ho:okW ws) (hc:ws.c≤24) (hn:ws.no≤6):∀ i,i≤ws.no→cntF ws i=((ws.c + sumN (fun j=>(ws.ob j).ns) i:Nat):Int)
 | 0,_=>rfl
 | i + 1,hi=>by
  have ih:=yWW ho hc hn i (by omega);have hb:=jJX (fun j=>(ws.ob j).ns) 8796093021952 i fun j hj=>ho j (by omega)
  have h1:=ho i (by omega);have hi2:i * 8796093021952≤6 * 8796093021952:=Nat.mul_le_mul_right _ (by omega);show vJJ .i64 (cntF ws i + ((ws.ob i).ns:Int))=_;rw [ih];show _=((ws.c + (sumN (fun j=>(ws.ob j).ns) i + (ws.ob i).ns):Nat):Int);have hb':sumN (fun j=>(ws.ob j).ns) i≤i * 8796093021952:=hb;rw [qV (by omega)];omega
theorem jYQ {ws:Wsp} (h:wErr ws=0) (ho:okW ws):ws.c + sumN (fun j=>(ws.ob j).ns) ws.no≤24∧∀ i,i < ws.no→((1≤(ws.ob i).ns∧(ws.ob i).ns≤24)∧∀ v,v < (ws.ob i).ns→sOk ((ws.ob i).shs v)=true):=by
 obtain ⟨h1,h2,h3,h4⟩:=qYI h;have hc:=(qJB h1).2.1;have hn:=(yWJ h2).1;rw [yWW ho hc hn ws.no (Nat.le_refl _)] at h4;refine ⟨by omega,fun i hi => ?_⟩;have h5:=uQJ (fun j=>(ws.ob j).ns) hi;have h6:=allN_iff.1 h3 i (Nat.zero_le _) (by omega);unfold obG soOk at h6;simp only [vQJ,decide_eq_true_eq] at h6;refine ⟨⟨by omega,by have h7:(ws.ob i).ns≤sumN (fun j=>(ws.ob j).ns) ws.no:=h5; omega⟩,fun v hv=>allN_iff.1 h6.2.2.1 v (Nat.zero_le _) (by omega)⟩
theorem zVX {s:Shp} (h:sOk s=true):shOk s=true∧s.link=0∧∀ v,v < s.np→zOk 2097152 (s.pts v)=true:=by
 unfold sOk at h;simp only [vQJ,decide_eq_true_eq] at h;exact ⟨h.1,h.2.1,fun v hv=>allN_iff.1 h.2.2 v (Nat.zero_le _) (by omega)⟩
theorem kHV {ws:Wsp} (h:wErr ws=0) (ho:okW ws) {i:Nat} (hi:i < ws.no) (b:Z3):cpl ((ws.ob i).ns,(ws.ob i).shs,b):=by
 obtain ⟨h1,h2⟩:=(jYQ h ho).2 i hi;exact ⟨by omega,fun v hv=>by have:=qHX (zVX (h2 v hv)).1; omega⟩
theorem zWE {ws:Wsp} {k:Nat} {q:Nat→Int} (h:vlB ws k q=true):wErr ws=0∧k=ws.no∧∀ i,i < k → -(ws.nh:Int)≤q i∧q i < (ws.np:Int):=by
 unfold vlB at h;simp only [vQJ,decide_eq_true_eq] at h;obtain ⟨h1,h2,h3⟩:=h;have hn:=yWJ (qYI h1).2.1;refine ⟨h1,by omega,fun i hi => ?_⟩;have h4:=allN_iff.1 h3 i (Nat.zero_le _) (by omega);unfold mdG inM at h4;simp only [vQJ,Bool.not_eq_true',decide_eq_false_iff_not] at h4;have e:vJJ .i64 (0 - (ws.nh:Int)) = -(ws.nh:Int):=by rw [qV (by omega)]; omega
 rw [e] at h4;omega
theorem uWZ {x:Int} {n:Nat} (_: -(n:Int)≤x) (_:x < 0) (_:n≤3):vJJ .i64 ((-1) - x) = -1 - x∧inB (vJJ .i64 ((-1) - x)) n=true:=by
 have e:vJJ .i64 ((-1) - x) = -1 - x:=qV (by omega);exact ⟨e,by rw [e]; exact jVA (by omega)⟩
theorem uYD (ws:Wsp) (q:Nat→Int) (i:Nat) (t:Nat × (Nat→Shp)):(scN ws q i t).1=t.1 + (ws.ob i).ns:=by
 unfold scN;cases decide (0≤q i) with
 | true=>exact kHF _ _ _ t
 | false=>exact kHF _ _ _ t
theorem lpCa (K:Cont) (ws:Wsp) (k:Nat) (q:Nat→Int) (r:Nat) (g:Nat→Shp) (ho:okW ws) (hv:vlB ws k q=true) (_:r≤100):LFX 60 (cxS Tf (orCa ws k q) 60 46 (ntmF Tf 46)) (evX Tf (orCa ws k q) 60 46 (ntmF Tf 46)) (qZ [([0,1,1,1,1,0,0,1,1,0,0,1,0,1,1,1,1],sumF (fun t:Int × Int × Nat × (Nat→Shp) × Nat × (Nat→Shp)=>(hCb ws k q t.1 t.2.1 t.2.2.1 t.2.2.2.1 0 t.2.2.2.2.1 (fS t.2.2.2.2.2))) (fun σ=>(slI σ 50,slI σ 10,lfN σ 85,slFS σ 85,rgN σ 41,unFS (rgF σ 41))) (fun t K=>(bif (decide (t.2.2.1≤50∧t.2.2.2.2.1≤900000)) then (K (.exit 2) ⟨[(2,.p 2 0),(3,.p 3 0),(4,.p 4 0),(7,.p 7 0),(48,.v (.lf ws.no (fO ws.ob))),(49,.v (.n .i64 (ws.no:Int))),(50,.v (.n .i64 t.1))],[(2,.blk [.v (.lf ws.n (fJ ws.js)),.v (.lf ws.m (fM ws.ms)),.v (.lf ws.c (fS ws.sh)),.v (.lf ws.d (fK ws.sk)),.v (.lf ws.no (fO ws.ob)),.v (.lf ws.np (fZ ws.pl)),.v (.lf ws.nh (fH ws.hd)),.v (.lf ws.ng (fG ws.gr)),.v (.n .i64 ws.slack)]),(3,.blk [.v (.lf k (fQ q))]),(4,.blk [.nl,.nl,.nl,.nl]),(7,.blk [.v (.lf ws.n (fJ ws.js)),.v (.lf ws.m (fM ws.ms)),.o 41,.v (.lf ws.d (fK ws.sk))]),(41,.reg 83 3 (.fo (addN t.2.1 t.2.2.2.1 t.2.2.1 (t.2.2.2.2.1,t.2.2.2.2.2)).1 (fS (addN t.2.1 t.2.2.2.1 t.2.2.1 (t.2.2.2.2.1,t.2.2.2.2.2)).2)))]⟩) else none)))]) (qQ Tf 46 [0,1,0,1,1,1,1]) [0,1,0,1,1,1,1] (Tf.hint 46 (qJ (qQ Tf 46 [0,1,0,1,1,1,1]))) K 60 (hCa ws k q 0 r g)=(K (.exit 0) ⟨[(4,.p 4 0),(7,.p 7 0)],[(4,.blk [.nl,.nl,.nl,.nl]),(7,.blk [.v (.lf ws.n (fJ ws.js)),.v (.lf ws.m (fM ws.ms)),.o 41,.v (.lf ws.d (fK ws.sk))]),(41,.reg 83 3 (.fo (scS ws q (r,g)).1 (fS (scS ws q (r,g)).2)))]⟩):=by
 obtain ⟨w0,hk,hq⟩:=zWE hv;have hnb:=yWJ (qYI w0).2.1;refine (kW (L:=LFX 60 (cxS Tf (orCa ws k q) 60 46 (ntmF Tf 46)) (evX Tf (orCa ws k q) 60 46 (ntmF Tf 46)) (qZ [([0,1,1,1,1,0,0,1,1,0,0,1,0,1,1,1,1],sumF (fun t:Int × Int × Nat × (Nat→Shp) × Nat × (Nat→Shp)=>(hCb ws k q t.1 t.2.1 t.2.2.1 t.2.2.2.1 0 t.2.2.2.2.1 (fS t.2.2.2.2.2))) (fun σ=>(slI σ 50,slI σ 10,lfN σ 85,slFS σ 85,rgN σ 41,unFS (rgF σ 41))) (fun t K=>(bif (decide (t.2.2.1≤50∧t.2.2.2.2.1≤900000)) then (K (.exit 2) ⟨[(2,.p 2 0),(3,.p 3 0),(4,.p 4 0),(7,.p 7 0),(48,.v (.lf ws.no (fO ws.ob))),(49,.v (.n .i64 (ws.no:Int))),(50,.v (.n .i64 t.1))],[(2,.blk [.v (.lf ws.n (fJ ws.js)),.v (.lf ws.m (fM ws.ms)),.v (.lf ws.c (fS ws.sh)),.v (.lf ws.d (fK ws.sk)),.v (.lf ws.no (fO ws.ob)),.v (.lf ws.np (fZ ws.pl)),.v (.lf ws.nh (fH ws.hd)),.v (.lf ws.ng (fG ws.gr)),.v (.n .i64 ws.slack)]),(3,.blk [.v (.lf k (fQ q))]),(4,.blk [.nl,.nl,.nl,.nl]),(7,.blk [.v (.lf ws.n (fJ ws.js)),.v (.lf ws.m (fM ws.ms)),.o 41,.v (.lf ws.d (fK ws.sk))]),(41,.reg 83 3 (.fo (addN t.2.1 t.2.2.2.1 t.2.2.1 (t.2.2.2.2.1,t.2.2.2.2.2)).1 (fS (addN t.2.1 t.2.2.2.1 t.2.2.1 (t.2.2.2.2.1,t.2.2.2.2.2)).2)))]⟩) else none)))]) (qQ Tf 46 [0,1,0,1,1,1,1]) [0,1,0,1,1,1,1] (Tf.hint 46 (qJ (qQ Tf 46 [0,1,0,1,1,1,1]))) K) (stp:=jJ 60 (cxS Tf (orCa ws k q) 60 46 (ntmF Tf 46)) (evX Tf (orCa ws k q) 60 46 (ntmF Tf 46)) (qZ [([0,1,1,1,1,0,0,1,1,0,0,1,0,1,1,1,1],sumF (fun t:Int × Int × Nat × (Nat→Shp) × Nat × (Nat→Shp)=>(hCb ws k q t.1 t.2.1 t.2.2.1 t.2.2.2.1 0 t.2.2.2.2.1 (fS t.2.2.2.2.2))) (fun σ=>(slI σ 50,slI σ 10,lfN σ 85,slFS σ 85,rgN σ 41,unFS (rgF σ 41))) (fun t K=>(bif (decide (t.2.2.1≤50∧t.2.2.2.2.1≤900000)) then (K (.exit 2) ⟨[(2,.p 2 0),(3,.p 3 0),(4,.p 4 0),(7,.p 7 0),(48,.v (.lf ws.no (fO ws.ob))),(49,.v (.n .i64 (ws.no:Int))),(50,.v (.n .i64 t.1))],[(2,.blk [.v (.lf ws.n (fJ ws.js)),.v (.lf ws.m (fM ws.ms)),.v (.lf ws.c (fS ws.sh)),.v (.lf ws.d (fK ws.sk)),.v (.lf ws.no (fO ws.ob)),.v (.lf ws.np (fZ ws.pl)),.v (.lf ws.nh (fH ws.hd)),.v (.lf ws.ng (fG ws.gr)),.v (.n .i64 ws.slack)]),(3,.blk [.v (.lf k (fQ q))]),(4,.blk [.nl,.nl,.nl,.nl]),(7,.blk [.v (.lf ws.n (fJ ws.js)),.v (.lf ws.m (fM ws.ms)),.o 41,.v (.lf ws.d (fK ws.sk))]),(41,.reg 83 3 (.fo (addN t.2.1 t.2.2.2.1 t.2.2.1 (t.2.2.2.2.1,t.2.2.2.2.2)).1 (fS (addN t.2.1 t.2.2.2.1 t.2.2.1 (t.2.2.2.2.1,t.2.2.2.2.2)).2)))]⟩) else none)))]) (qQ Tf 46 [0,1,0,1,1,1,1]) [0,1,0,1,1,1,1] (Tf.hint 46 (qJ (qQ Tf 46 [0,1,0,1,1,1,1]))) K) (fun _ _=>rfl) (fun (i:Nat) (t:Nat × (Nat→Shp))=>hCa ws k q (i:Int) t.1 t.2) (fun i t=>t.1≤100 + 24 * i) (fun _ _=>true) (scN ws q) (c:=ws.no) (fun t=>(K (.exit 0) ⟨[(4,.p 4 0),(7,.p 7 0)],[(4,.blk [.nl,.nl,.nl,.nl]),(7,.blk [.v (.lf ws.n (fJ ws.js)),.v (.lf ws.m (fM ws.ms)),.o 41,.v (.lf ws.d (fK ws.sk))]),(41,.reg 83 3 (.fo t.1 (fS t.2)))]⟩)) (fun _ _=>none) (fun G i t hi hiv => ?_) (fun i t hi hiv _ => ?_) (fun G t hiv => ?_) ws.no 0 60 (r,g) (by omega) (by omega) (by show r≤_; omega)).trans (qZH ws.no 0 _)
 ·refine (rdCa G K ws k q i t.1 t.2).trans ?_;have h1:=(jYQ w0 ho).2 i hi;have h2:=hq i (by omega);simp only [vJQ (show (i:Int) < (ws.no:Int) by omega),kY (show i < 1000000 by omega),yZ hi,yZ (show i < k by omega),toN,vYV];unfold scN;by_cases h0:0≤q i
  ·simp only [vJQ h0,vYV,jVA (show 0≤q i∧q i < (ws.np:Int) from ⟨h0,h2.2⟩),jQ (C:=cpl) (t:=((ws.ob i).ns,(ws.ob i).shs,ws.pl (q i).toNat)) (kHV w0 ho hi _),yU,vJQ (show (ws.ob i).ns≤50∧t.1≤900000 by omega)]
  ·obtain ⟨e1,e2⟩:=uWZ h2.1 (show q i < 0 by omega) hnb.2.2.1;simp only [vYH h0,vYV,vYG,e2,jQ (C:=cpl) (t:=((ws.ob i).ns,(ws.ob i).shs,(ws.hd (vJJ .i64 ((-1) - (q i))).toNat).off)) (kHV w0 ho hi _),yU,vJQ (show (ws.ob i).ns≤50∧t.1≤900000 by omega)]
 ·rw [uYD];have h1:=(jYQ w0 ho).2 i hi;omega
 ·refine (rdCa G K ws k q ws.no t.1 t.2).trans ?_;rw [vYH (show ¬ (ws.no:Int) < (ws.no:Int) by omega)];rfl
theorem jUK {js:Nat→J} {ms:Nat→Ms} {n m:Nat} (h:rErr js ms n m=0):m≤32:=by
 unfold rErr at h;obtain ⟨_,h⟩:=bz h (by decide);obtain ⟨_,h⟩:=bz h (by decide);by_cases h1:jE js n n 0=0
 ·rw [vJQ h1,vYV] at h;obtain ⟨h2,_⟩:=bz h (by decide)
  have:=vJY h2
  omega
 ·rw [vYH h1,vYG] at h; exact absurd h h1
theorem jKG {js:Nat→J} {ms:Nat→Ms} {sh:Nat→Shp} {sk:Nat→Skp} {n m c d:Nat} (h:sErr js ms sh sk n m c d=0):d≤64:=by
 have hs:=qJB h;unfold sErr at h;rw [vJQ hs.1,vYV,vYH (show ¬ 24 < (c:Int) by have:=hs.2.1; omega),vYG,show shG sh n c=true from allN_iff.2 fun j _ hj=>vJQ (hs.2.2 j (by omega)),vYV] at h;obtain ⟨h2,_⟩:=bz h (by decide)
 have:=vJY h2
 omega
noncomputable def yGX (ws:Wsp) (k:Nat) (q:Nat→Int):List (List Nat × jG):=[([0,1,0,1,1,1,1],sumF (fun _:Unit=>(hCa ws k q 0 ws.c (fun v=>(sftL (Z3.mk 0 0 0) (ws.sh v))))) (fun _=>()) (fun _ K=>(bif gP (okW ws∧vlB ws k q=true∧ws.c≤100) then (K (.exit 0) ⟨[(4,.p 4 0),(7,.p 7 0)],[(4,.blk [.nl,.nl,.nl,.nl]),(7,.blk [.v (.lf ws.n (fJ ws.js)),.v (.lf ws.m (fM ws.ms)),.o 41,.v (.lf ws.d (fK ws.sk))]),(41,.reg 83 3 (.fo (scS ws q (ws.c,(fun v=>(sftL (Z3.mk 0 0 0) (ws.sh v))))).1 (fS (scS ws q (ws.c,(fun v=>(sftL (Z3.mk 0 0 0) (ws.sh v))))).2)))]⟩) else none)))]
set_option maxRecDepth 100000 in
theorem xQX (ws:Wsp) (k:Nat) (q:Nat→Int):uJ Tf (orCa ws k q) (qZ (yGX ws k q)) 60 46 [.a (wP ws),.a [.lf k (fQ q)]] =
 (bif (gF1 cgk egk ws) then (bif (!decide ((wErr ws)=0)) then some (.v (.t [.a [.l [],.l [],.l [],.l []],.n .i64 (wErr ws)]),[])
 else (bif (gF1 cvl evl (ws,k,q)) then (bif (vlB ws k q) then (bif (gF1 ccvj ecvj (ws.n,ws.js)) then (bif (gF1 ccvm ecvm (ws.m,ws.ms)) then (bif (gF1 cpl epl (ws.c,ws.sh,(Z3.mk 0 0 0))) then (bif (gF1 ccvk ecvk (ws.d,ws.sk)) then (bif (gSt (hCa ws k q 0 ws.c (fun v=>(sftL (Z3.mk 0 0 0) (ws.sh v)))) (hCa ws k q 0 ws.c (fun v=>(sftL (Z3.mk 0 0 0) (ws.sh v))))) then (bif gP (okW ws∧vlB ws k q=true∧ws.c≤100) then some (.v (.t [.a [.lf ws.n (fJ ws.js),.lf ws.m (fM ws.ms),.lf (scS ws q (ws.c,(fun v=>(sftL (Z3.mk 0 0 0) (ws.sh v))))).1 (fS ((scS ws q (ws.c,(fun v=>(sftL (Z3.mk 0 0 0) (ws.sh v))))).2)),.lf ws.d (fK ws.sk)],.n .i64 0]),[])
 else none)
 else none)
 else none)
 else none)
 else none)
 else none)
 else some (.v (.t [.a [.l [],.l [],.l [],.l []],.n .i64 3403]),[]))
 else none))
 else none):=by kernel_rfl
theorem kQX (ws:Wsp) (k:Nat) (q:Nat→Int) (ho:okW ws):yK Tryz.prog 46 [.a (wP ws),.a [.lf k (fQ q)]] (.v (bif decide (wErr ws=0) then (bif vlB ws k q then .t [.a [.lf ws.n (fJ ws.js),.lf ws.m (fM ws.ms),.lf (scS ws q (ws.c,(fun v=>(sftL (Z3.mk 0 0 0) (ws.sh v))))).1 (fS (scS ws q (ws.c,(fun v=>(sftL (Z3.mk 0 0 0) (ws.sh v))))).2),.lf ws.d (fK ws.sk)],.n .i64 0] else .t [.a [.l [],.l [],.l [],.l []],.n .i64 3403]) else .t [.a [.l [],.l [],.l [],.l []],.n .i64 (wErr ws)])):=by
 refine zZ (N:=60) (LO:=qZ (yGX ws k q)) jU zW (jW (l:=[(16,o_gk),(62,o_vl),(95,o_pl),(93,uXY),(94,uXQ),(96,uXZ)]) (m:=[]) ⟨xYH,xZX,fQC,xYD,xYB,xYC,trivial⟩ trivial) (fun p S hp => ?_) ?_
 ·refine qH (L:=qQ Tf 46) (l:=(yGX ws k q)) (show AllP _ (yGX ws k q) from ⟨?_,trivial⟩) p S hp
  ·dsimp only;refine jY (T:=Tf) (o:=(orCa ws k q)) (f:=46) (LO:=(qZ [([0,1,1,1,1,0,0,1,1,0,0,1,0,1,1,1,1],sumF (fun t:Int × Int × Nat × (Nat→Shp) × Nat × (Nat→Shp)=>(hCb ws k q t.1 t.2.1 t.2.2.1 t.2.2.2.1 0 t.2.2.2.2.1 (fS t.2.2.2.2.2))) (fun σ=>(slI σ 50,slI σ 10,lfN σ 85,slFS σ 85,rgN σ 41,unFS (rgF σ 41))) (fun t K=>(bif (decide (t.2.2.1≤50∧t.2.2.2.2.1≤900000)) then (K (.exit 2) ⟨[(2,.p 2 0),(3,.p 3 0),(4,.p 4 0),(7,.p 7 0),(48,.v (.lf ws.no (fO ws.ob))),(49,.v (.n .i64 (ws.no:Int))),(50,.v (.n .i64 t.1))],[(2,.blk [.v (.lf ws.n (fJ ws.js)),.v (.lf ws.m (fM ws.ms)),.v (.lf ws.c (fS ws.sh)),.v (.lf ws.d (fK ws.sk)),.v (.lf ws.no (fO ws.ob)),.v (.lf ws.np (fZ ws.pl)),.v (.lf ws.nh (fH ws.hd)),.v (.lf ws.ng (fG ws.gr)),.v (.n .i64 ws.slack)]),(3,.blk [.v (.lf k (fQ q))]),(4,.blk [.nl,.nl,.nl,.nl]),(7,.blk [.v (.lf ws.n (fJ ws.js)),.v (.lf ws.m (fM ws.ms)),.o 41,.v (.lf ws.d (fK ws.sk))]),(41,.reg 83 3 (.fo (addN t.2.1 t.2.2.2.1 t.2.2.1 (t.2.2.2.2.1,t.2.2.2.2.2)).1 (fS (addN t.2.1 t.2.2.2.1 t.2.2.1 (t.2.2.2.2.1,t.2.2.2.2.2)).2)))]⟩) else none)))])) (p:=[0,1,0,1,1,1,1]) (okCb ws k q) ?_;intro t K r hr;obtain ⟨hg,hr⟩:=qY hr
   skip
   exact (lpCa K ws k q ws.c (fun v=>(sftL (Z3.mk 0 0 0) (ws.sh v))) (jK hg).1 (jK hg).2.1 (jK hg).2.2).trans hr
 ·refine (xQX ws k q).trans ?_;rw [jQ (C:=cgk) (t:=ws) ho];by_cases h0:wErr ws=0
  ·rw [vJQ h0,jQ (C:=cvl) (t:=(ws,k,q)) ho];cases hv:vlB ws k q with
   | false=>rfl
   | true =>
    obtain ⟨w1,w2,w3,w4⟩:=qYI h0;obtain ⟨s1,s2,s3⟩:=qJB w1;have hn:=zJI s1;have hm:=jUK s1;have hd:=jKG w1;have hP:gP (okW ws∧True∧ws.c≤100)=true:=qUJ ⟨ho,trivial,by omega⟩;simp only [jQ (C:=ccvj) (t:=(ws.n,ws.js)) (show ws.n≤70 by omega),jQ (C:=ccvm) (t:=(ws.m,ws.ms)) (show ws.m≤70 by omega),jQ (C:=ccvk) (t:=(ws.d,ws.sk)) (show ws.d≤70 by omega),jQ (C:=cpl) (t:=(ws.c,ws.sh,Z3.mk 0 0 0)) (show cpl (ws.c,ws.sh,Z3.mk 0 0 0) from ⟨by omega,fun i hi=>by have:=qHX (zVU (s3 i hi)).2; omega⟩),yU,hP,vYV,vYG,Bool.not_true]
    all_goals rfl
  ·rw [vYH h0]; rfl
end Go.Proofs.YtgmbkkkbfbocnaaGreat.Hi
namespace Go.Proofs.YtgmbkkkbfbocnaaGreat.Hj
open Go.Rx Rt Go.Sx Go.RowKit Od Na Nb Nc Nx Nf Nl Nm Ga Gb Gc Gd Ge Gf Gg Ha Hb Hc Hd He Hf Hg Hh Hi
noncomputable def orDa (_:Wsp) (k:Nat) (q:Nat→Int):OrS:=orS [(17,o_rw),(63,o_rv),(108,o_sf)] []
noncomputable def hDb (ws:Wsp) (k:Nat) (q:Nat→Int) (i:Int) (l:Int) (b:Z3) (j:Int) (r:Nat) (f:Nat→List PV):St:=⟨[(2,.p 2 0),(3,.p 3 0),(4,.p 4 0),(7,.p 7 0),(8,.v (.n .i64 i)),(9,.v (.n .i64 l)),(10,.p 10 0),(12,.v (.n .i64 j))],[(2,.blk [.v (.lf ws.n (fJ ws.js)),.v (.lf ws.m (fM ws.ms)),.v (.lf ws.c (fS ws.sh)),.v (.lf ws.d (fK ws.sk)),.v (.lf ws.no (fO ws.ob)),.v (.lf ws.np (fZ ws.pl)),.v (.lf ws.nh (fH ws.hd)),.v (.lf ws.ng (fG ws.gr)),.v (.n .i64 ws.slack)]),(3,.blk [.v (.lf k (fQ q))]),(4,.blk [.nl,.nl,.nl,.nl]),(7,.blk [.v (.lf ws.n (fJ ws.js)),.v (.lf ws.m (fM ws.ms)),.o 30,.v (.lf ws.d (fK ws.sk))]),(10,.blk [.v (.n .i64 b.x),.v (.n .i64 b.y),.v (.n .i64 b.z)]),(30,.reg 83 3 (.fo r f))]⟩
set_option maxRecDepth 100000 in
theorem rdDb (G:St→Option (Ret × Mem)) (K:Cont) (ws:Wsp) (k:Nat) (q:Nat→Int) (i:Int) (l:Int) (b:Z3) (j:Int) (r:Nat) (f:Nat→List PV):jJ 60 (cxS Tf (orDa ws k q) 60 60 (ntmF Tf 60)) (evX Tf (orDa ws k q) 60 60 (ntmF Tf 60)) (qZ []) (qQ Tf 60 [0,1,1,1,0,0,1,0,0,1,0,1,1,1,1]) [0,1,1,1,0,0,1,0,0,1,0,1,1,1,1] (Tf.hint 60 (qJ (qQ Tf 60 [0,1,1,1,0,0,1,0,0,1,0,1,1,1,1]))) K G (hDb ws k q i l b j r f) =
 (bif (inB i ws.no) then (bif (decide (j < ((ws.ob (i).toNat).ns:Int))) then (bif (inB i ws.no) then (bif (inB j (ws.ob (i).toNat).ns) then (bif (gF1 csf esf (((ws.ob (i).toNat).shs (j).toNat),l,b)) then (bif (decide (r + 1≤1000000)) then (G (hDb ws k q i l b (vJJ .i64 (j + 1)) (r + 1) (fun v=>qZX (Nat.beq v r) [.n .i64 l,.n .i64 ((ws.ob (i).toNat).shs (j).toNat).rad,.lf ((ws.ob (i).toNat).shs (j).toNat).np (fZ (sft b ((ws.ob (i).toNat).shs (j).toNat).np ((ws.ob (i).toNat).shs (j).toNat).pts))] (f v))))
 else none)
 else none)
 else none)
 else none)
 else (K (.exit 2) ⟨[(2,.p 2 0),(3,.p 3 0),(4,.p 4 0),(7,.p 7 0),(8,.v (.n .i64 i))],[(2,.blk [.v (.lf ws.n (fJ ws.js)),.v (.lf ws.m (fM ws.ms)),.v (.lf ws.c (fS ws.sh)),.v (.lf ws.d (fK ws.sk)),.v (.lf ws.no (fO ws.ob)),.v (.lf ws.np (fZ ws.pl)),.v (.lf ws.nh (fH ws.hd)),.v (.lf ws.ng (fG ws.gr)),.v (.n .i64 ws.slack)]),(3,.blk [.v (.lf k (fQ q))]),(4,.blk [.nl,.nl,.nl,.nl]),(7,.blk [.v (.lf ws.n (fJ ws.js)),.v (.lf ws.m (fM ws.ms)),.o 30,.v (.lf ws.d (fK ws.sk))]),(30,.reg 83 3 (.fo r f))]⟩))
 else none):=by kernel_rfl
theorem lpDb (K:Cont) (ws:Wsp) (k:Nat) (q:Nat→Int) (i:Nat) (l:Int) (b:Z3) (r:Nat) (g:Nat→Shp) (hi:i < ws.no) (hn:(ws.ob i).ns≤50∧∀ v,v < (ws.ob i).ns→((ws.ob i).shs v).np≤50) (_:r≤900000):LFX 60 (cxS Tf (orDa ws k q) 60 60 (ntmF Tf 60)) (evX Tf (orDa ws k q) 60 60 (ntmF Tf 60)) (qZ []) (qQ Tf 60 [0,1,1,1,0,0,1,0,0,1,0,1,1,1,1]) [0,1,1,1,0,0,1,0,0,1,0,1,1,1,1] (Tf.hint 60 (qJ (qQ Tf 60 [0,1,1,1,0,0,1,0,0,1,0,1,1,1,1]))) K 60 (hDb ws k q ((i:Nat):Int) l b 0 r (fS g))=(K (.exit 2) ⟨[(2,.p 2 0),(3,.p 3 0),(4,.p 4 0),(7,.p 7 0),(8,.v (.n .i64 ((i:Nat):Int)))],[(2,.blk [.v (.lf ws.n (fJ ws.js)),.v (.lf ws.m (fM ws.ms)),.v (.lf ws.c (fS ws.sh)),.v (.lf ws.d (fK ws.sk)),.v (.lf ws.no (fO ws.ob)),.v (.lf ws.np (fZ ws.pl)),.v (.lf ws.nh (fH ws.hd)),.v (.lf ws.ng (fG ws.gr)),.v (.n .i64 ws.slack)]),(3,.blk [.v (.lf k (fQ q))]),(4,.blk [.nl,.nl,.nl,.nl]),(7,.blk [.v (.lf ws.n (fJ ws.js)),.v (.lf ws.m (fM ws.ms)),.o 30,.v (.lf ws.d (fK ws.sk))]),(30,.reg 83 3 (.fo (addN l (fun v=>(sftL b ((ws.ob i).shs v))) (ws.ob i).ns (r,g)).1 (fS (addN l (fun v=>(sftL b ((ws.ob i).shs v))) (ws.ob i).ns (r,g)).2)))]⟩):=by
 refine (kW (L:=LFX 60 (cxS Tf (orDa ws k q) 60 60 (ntmF Tf 60)) (evX Tf (orDa ws k q) 60 60 (ntmF Tf 60)) (qZ []) (qQ Tf 60 [0,1,1,1,0,0,1,0,0,1,0,1,1,1,1]) [0,1,1,1,0,0,1,0,0,1,0,1,1,1,1] (Tf.hint 60 (qJ (qQ Tf 60 [0,1,1,1,0,0,1,0,0,1,0,1,1,1,1]))) K) (stp:=jJ 60 (cxS Tf (orDa ws k q) 60 60 (ntmF Tf 60)) (evX Tf (orDa ws k q) 60 60 (ntmF Tf 60)) (qZ []) (qQ Tf 60 [0,1,1,1,0,0,1,0,0,1,0,1,1,1,1]) [0,1,1,1,0,0,1,0,0,1,0,1,1,1,1] (Tf.hint 60 (qJ (qQ Tf 60 [0,1,1,1,0,0,1,0,0,1,0,1,1,1,1]))) K) (fun _ _=>rfl) (fun (j:Nat) (t:Nat × (Nat→Shp))=>hDb ws k q (i:Int) l b (j:Int) t.1 (fS t.2)) (fun j t=>t.1=r + j) (fun _ _=>true) (fun (j:Nat) (t:Nat × (Nat→Shp))=>(t.1 + 1,zJL t.2 t.1 (lkS l (sftL b ((ws.ob i).shs j))))) (c:=(ws.ob i).ns) (fun t=>(K (.exit 2) ⟨[(2,.p 2 0),(3,.p 3 0),(4,.p 4 0),(7,.p 7 0),(8,.v (.n .i64 (i:Int)))],[(2,.blk [.v (.lf ws.n (fJ ws.js)),.v (.lf ws.m (fM ws.ms)),.v (.lf ws.c (fS ws.sh)),.v (.lf ws.d (fK ws.sk)),.v (.lf ws.no (fO ws.ob)),.v (.lf ws.np (fZ ws.pl)),.v (.lf ws.nh (fH ws.hd)),.v (.lf ws.ng (fG ws.gr)),.v (.n .i64 ws.slack)]),(3,.blk [.v (.lf k (fQ q))]),(4,.blk [.nl,.nl,.nl,.nl]),(7,.blk [.v (.lf ws.n (fJ ws.js)),.v (.lf ws.m (fM ws.ms)),.o 30,.v (.lf ws.d (fK ws.sk))]),(30,.reg 83 3 (.fo t.1 (fS t.2)))]⟩)) (fun _ _=>none) (fun G j t hj hv => ?_) (fun j t hj hv _ => ?_) (fun G t hv => ?_) (ws.ob i).ns 0 60 (r,g) (by omega) (by omega) rfl).trans (qZH (ws.ob i).ns 0 _)
 ·refine (rdDb G K ws k q i l b j t.1 (fS t.2)).trans ?_;simp only [vJQ (show (j:Int) < ((ws.ob i).ns:Int) by omega),kY (show j < 1000000 by omega),yZ hi,yZ hj,toN,jQ (C:=csf) (t:=((ws.ob i).shs j,l,b)) (hn.2 j hj),vJQ (show t.1 + 1≤1000000 by omega),vYV];exact congrArg (fun f=>G (hDb ws k q (i:Int) l b ((j + 1:Nat):Int) (t.1 + 1) f)) (jUH t.2 t.1 (lkS l (sftL b ((ws.ob i).shs j))))
 ·show t.1 + 1=r + (j + 1);omega
 ·refine (rdDb G K ws k q i l b (ws.ob i).ns t.1 (fS t.2)).trans ?_;simp only [yZ hi,toN,vYV,vYH (show ¬ ((ws.ob i).ns:Int) < ((ws.ob i).ns:Int) by omega)];rfl
theorem okDb (ws:Wsp) (k:Nat) (q:Nat→Int):∀ p S,qZ [([0,1,1,1,0,0,1,0,0,1,0,1,1,1,1],sumF (fun t:Nat × Int × Z3 × Nat × (Nat→Shp)=>(hDb ws k q ((t.1:Nat):Int) t.2.1 t.2.2.1 0 t.2.2.2.1 (fS t.2.2.2.2))) (fun σ=>((slI σ 8).toNat,slI σ 9,⟨bkC σ 10 0,bkC σ 10 1,bkC σ 10 2⟩,rgN σ 30,unFS (rgF σ 30))) (fun t K=>(bif gP (t.1 < ws.no∧((ws.ob t.1).ns≤50∧∀ v,v < (ws.ob t.1).ns→((ws.ob t.1).shs v).np≤50)∧t.2.2.2.1≤900000) then (K (.exit 2) ⟨[(2,.p 2 0),(3,.p 3 0),(4,.p 4 0),(7,.p 7 0),(8,.v (.n .i64 ((t.1:Nat):Int)))],[(2,.blk [.v (.lf ws.n (fJ ws.js)),.v (.lf ws.m (fM ws.ms)),.v (.lf ws.c (fS ws.sh)),.v (.lf ws.d (fK ws.sk)),.v (.lf ws.no (fO ws.ob)),.v (.lf ws.np (fZ ws.pl)),.v (.lf ws.nh (fH ws.hd)),.v (.lf ws.ng (fG ws.gr)),.v (.n .i64 ws.slack)]),(3,.blk [.v (.lf k (fQ q))]),(4,.blk [.nl,.nl,.nl,.nl]),(7,.blk [.v (.lf ws.n (fJ ws.js)),.v (.lf ws.m (fM ws.ms)),.o 30,.v (.lf ws.d (fK ws.sk))]),(30,.reg 83 3 (.fo (addN t.2.1 (fun v=>(sftL t.2.2.1 ((ws.ob t.1).shs v))) (ws.ob t.1).ns (t.2.2.2.1,t.2.2.2.2)).1 (fS (addN t.2.1 (fun v=>(sftL t.2.2.1 ((ws.ob t.1).shs v))) (ws.ob t.1).ns (t.2.2.2.1,t.2.2.2.2)).2)))]⟩) else none)))] p=some S→qQF 60 (cxS Tf (orDa ws k q) 60 60 (ntmF Tf 60)) (qQ Tf 60 p) S:=fun p S hp=>by
 refine qH (L:=qQ Tf 60) (l:=[([0,1,1,1,0,0,1,0,0,1,0,1,1,1,1],sumF (fun t:Nat × Int × Z3 × Nat × (Nat→Shp)=>(hDb ws k q ((t.1:Nat):Int) t.2.1 t.2.2.1 0 t.2.2.2.1 (fS t.2.2.2.2))) (fun σ=>((slI σ 8).toNat,slI σ 9,⟨bkC σ 10 0,bkC σ 10 1,bkC σ 10 2⟩,rgN σ 30,unFS (rgF σ 30))) (fun t K=>(bif gP (t.1 < ws.no∧((ws.ob t.1).ns≤50∧∀ v,v < (ws.ob t.1).ns→((ws.ob t.1).shs v).np≤50)∧t.2.2.2.1≤900000) then (K (.exit 2) ⟨[(2,.p 2 0),(3,.p 3 0),(4,.p 4 0),(7,.p 7 0),(8,.v (.n .i64 ((t.1:Nat):Int)))],[(2,.blk [.v (.lf ws.n (fJ ws.js)),.v (.lf ws.m (fM ws.ms)),.v (.lf ws.c (fS ws.sh)),.v (.lf ws.d (fK ws.sk)),.v (.lf ws.no (fO ws.ob)),.v (.lf ws.np (fZ ws.pl)),.v (.lf ws.nh (fH ws.hd)),.v (.lf ws.ng (fG ws.gr)),.v (.n .i64 ws.slack)]),(3,.blk [.v (.lf k (fQ q))]),(4,.blk [.nl,.nl,.nl,.nl]),(7,.blk [.v (.lf ws.n (fJ ws.js)),.v (.lf ws.m (fM ws.ms)),.o 30,.v (.lf ws.d (fK ws.sk))]),(30,.reg 83 3 (.fo (addN t.2.1 (fun v=>(sftL t.2.2.1 ((ws.ob t.1).shs v))) (ws.ob t.1).ns (t.2.2.2.1,t.2.2.2.2)).1 (fS (addN t.2.1 (fun v=>(sftL t.2.2.1 ((ws.ob t.1).shs v))) (ws.ob t.1).ns (t.2.2.2.1,t.2.2.2.2)).2)))]⟩) else none)))]) ⟨?_,trivial⟩ p S hp;dsimp only;refine jY (T:=Tf) (o:=(orDa ws k q)) (f:=60) (LO:=qZ []) (p:=[0,1,1,1,0,0,1,0,0,1,0,1,1,1,1]) kK ?_;intro t K r hr;obtain ⟨hg,hr⟩:=qY hr
 skip
 exact (lpDb K ws k q t.1 t.2.1 t.2.2.1 t.2.2.2.1 t.2.2.2.2 (jK hg).1 (jK hg).2.1 (jK hg).2.2).trans hr
noncomputable def hDa (ws:Wsp) (k:Nat) (q:Nat→Int) (i:Int) (r:Nat) (g:Nat→Shp):St:=⟨[(2,.p 2 0),(3,.p 3 0),(4,.p 4 0),(7,.p 7 0),(8,.v (.n .i64 i))],[(2,.blk [.v (.lf ws.n (fJ ws.js)),.v (.lf ws.m (fM ws.ms)),.v (.lf ws.c (fS ws.sh)),.v (.lf ws.d (fK ws.sk)),.v (.lf ws.no (fO ws.ob)),.v (.lf ws.np (fZ ws.pl)),.v (.lf ws.nh (fH ws.hd)),.v (.lf ws.ng (fG ws.gr)),.v (.n .i64 ws.slack)]),(3,.blk [.v (.lf k (fQ q))]),(4,.blk [.nl,.nl,.nl,.nl]),(7,.blk [.v (.lf ws.n (fJ ws.js)),.v (.lf ws.m (fM ws.ms)),.o 30,.v (.lf ws.d (fK ws.sk))]),(30,.reg 83 3 (.fo r (fS g)))]⟩
set_option maxRecDepth 100000 in
theorem rdDa (G:St→Option (Ret × Mem)) (K:Cont) (ws:Wsp) (k:Nat) (q:Nat→Int) (i:Int) (r:Nat) (g:Nat→Shp):jJ 60 (cxS Tf (orDa ws k q) 60 60 (ntmF Tf 60)) (evX Tf (orDa ws k q) 60 60 (ntmF Tf 60)) (qZ [([0,1,1,1,0,0,1,0,0,1,0,1,1,1,1],sumF (fun t:Nat × Int × Z3 × Nat × (Nat→Shp)=>(hDb ws k q ((t.1:Nat):Int) t.2.1 t.2.2.1 0 t.2.2.2.1 (fS t.2.2.2.2))) (fun σ=>((slI σ 8).toNat,slI σ 9,⟨bkC σ 10 0,bkC σ 10 1,bkC σ 10 2⟩,rgN σ 30,unFS (rgF σ 30))) (fun t K=>(bif gP (t.1 < ws.no∧((ws.ob t.1).ns≤50∧∀ v,v < (ws.ob t.1).ns→((ws.ob t.1).shs v).np≤50)∧t.2.2.2.1≤900000) then (K (.exit 2) ⟨[(2,.p 2 0),(3,.p 3 0),(4,.p 4 0),(7,.p 7 0),(8,.v (.n .i64 ((t.1:Nat):Int)))],[(2,.blk [.v (.lf ws.n (fJ ws.js)),.v (.lf ws.m (fM ws.ms)),.v (.lf ws.c (fS ws.sh)),.v (.lf ws.d (fK ws.sk)),.v (.lf ws.no (fO ws.ob)),.v (.lf ws.np (fZ ws.pl)),.v (.lf ws.nh (fH ws.hd)),.v (.lf ws.ng (fG ws.gr)),.v (.n .i64 ws.slack)]),(3,.blk [.v (.lf k (fQ q))]),(4,.blk [.nl,.nl,.nl,.nl]),(7,.blk [.v (.lf ws.n (fJ ws.js)),.v (.lf ws.m (fM ws.ms)),.o 30,.v (.lf ws.d (fK ws.sk))]),(30,.reg 83 3 (.fo (addN t.2.1 (fun v=>(sftL t.2.2.1 ((ws.ob t.1).shs v))) (ws.ob t.1).ns (t.2.2.2.1,t.2.2.2.2)).1 (fS (addN t.2.1 (fun v=>(sftL t.2.2.1 ((ws.ob t.1).shs v))) (ws.ob t.1).ns (t.2.2.2.1,t.2.2.2.2)).2)))]⟩) else none)))]) (qQ Tf 60 [0,1,0,1,1,1,1]) [0,1,0,1,1,1,1] (Tf.hint 60 (qJ (qQ Tf 60 [0,1,0,1,1,1,1]))) K G (hDa ws k q i r g) =
 (bif (decide (i < (ws.no:Int))) then (bif (inB i k) then (bif (decide (0≤(q (i).toNat))) then (bif (inB (q (i).toNat) ws.np) then (bif (gSt (hDb ws k q i (-1) (ws.pl ((q (i).toNat)).toNat) 0 r (fS g)) (hDb ws k q (((i).toNat:Nat):Int) (-1) (ws.pl ((q (i).toNat)).toNat) 0 r (fS g))) then (bif gP ((i).toNat < ws.no∧((ws.ob (i).toNat).ns≤50∧∀ v,v < (ws.ob (i).toNat).ns→((ws.ob (i).toNat).shs v).np≤50)∧r≤900000) then (G (hDa ws k q (vJJ .i64 ((((i).toNat:Nat):Int) + 1)) (addN (-1) (fun v=>(sftL (ws.pl ((q (i).toNat)).toNat) ((ws.ob (i).toNat).shs v))) (ws.ob (i).toNat).ns (r,g)).1 ((addN (-1) (fun v=>(sftL (ws.pl ((q (i).toNat)).toNat) ((ws.ob (i).toNat).shs v))) (ws.ob (i).toNat).ns (r,g)).2)))
 else none)
 else none)
 else none)
 else (bif (inB (vJJ .i64 ((-1) - (q (i).toNat))) ws.nh) then (bif (inB (vJJ .i64 ((-1) - (q (i).toNat))) ws.nh) then (bif (gSt (hDb ws k q i ((ws.hd ((vJJ .i64 ((-1) - (q (i).toNat)))).toNat).link) ((ws.hd ((vJJ .i64 ((-1) - (q (i).toNat)))).toNat).off) 0 r (fS g)) (hDb ws k q (((i).toNat:Nat):Int) ((ws.hd ((vJJ .i64 ((-1) - (q (i).toNat)))).toNat).link) ((ws.hd ((vJJ .i64 ((-1) - (q (i).toNat)))).toNat).off) 0 r (fS g))) then (bif gP ((i).toNat < ws.no∧((ws.ob (i).toNat).ns≤50∧∀ v,v < (ws.ob (i).toNat).ns→((ws.ob (i).toNat).shs v).np≤50)∧r≤900000) then (G (hDa ws k q (vJJ .i64 ((((i).toNat:Nat):Int) + 1)) (addN ((ws.hd ((vJJ .i64 ((-1) - (q (i).toNat)))).toNat).link) (fun v=>(sftL ((ws.hd ((vJJ .i64 ((-1) - (q (i).toNat)))).toNat).off) ((ws.ob (i).toNat).shs v))) (ws.ob (i).toNat).ns (r,g)).1 ((addN ((ws.hd ((vJJ .i64 ((-1) - (q (i).toNat)))).toNat).link) (fun v=>(sftL ((ws.hd ((vJJ .i64 ((-1) - (q (i).toNat)))).toNat).off) ((ws.ob (i).toNat).shs v))) (ws.ob (i).toNat).ns (r,g)).2)))
 else none)
 else none)
 else none)
 else none))
 else none)
 else (K (.exit 0) ⟨[(4,.p 4 0),(7,.p 7 0)],[(4,.blk [.nl,.nl,.nl,.nl]),(7,.blk [.v (.lf ws.n (fJ ws.js)),.v (.lf ws.m (fM ws.ms)),.o 30,.v (.lf ws.d (fK ws.sk))]),(30,.reg 83 3 (.fo r (fS g)))]⟩)):=by kernel_rfl
theorem lpDa (K:Cont) (ws:Wsp) (k:Nat) (q:Nat→Int) (r:Nat) (g:Nat→Shp) (ho:okW ws) (hv:vlB ws k q=true) (_:r≤100):LFX 60 (cxS Tf (orDa ws k q) 60 60 (ntmF Tf 60)) (evX Tf (orDa ws k q) 60 60 (ntmF Tf 60)) (qZ [([0,1,1,1,0,0,1,0,0,1,0,1,1,1,1],sumF (fun t:Nat × Int × Z3 × Nat × (Nat→Shp)=>(hDb ws k q ((t.1:Nat):Int) t.2.1 t.2.2.1 0 t.2.2.2.1 (fS t.2.2.2.2))) (fun σ=>((slI σ 8).toNat,slI σ 9,⟨bkC σ 10 0,bkC σ 10 1,bkC σ 10 2⟩,rgN σ 30,unFS (rgF σ 30))) (fun t K=>(bif gP (t.1 < ws.no∧((ws.ob t.1).ns≤50∧∀ v,v < (ws.ob t.1).ns→((ws.ob t.1).shs v).np≤50)∧t.2.2.2.1≤900000) then (K (.exit 2) ⟨[(2,.p 2 0),(3,.p 3 0),(4,.p 4 0),(7,.p 7 0),(8,.v (.n .i64 ((t.1:Nat):Int)))],[(2,.blk [.v (.lf ws.n (fJ ws.js)),.v (.lf ws.m (fM ws.ms)),.v (.lf ws.c (fS ws.sh)),.v (.lf ws.d (fK ws.sk)),.v (.lf ws.no (fO ws.ob)),.v (.lf ws.np (fZ ws.pl)),.v (.lf ws.nh (fH ws.hd)),.v (.lf ws.ng (fG ws.gr)),.v (.n .i64 ws.slack)]),(3,.blk [.v (.lf k (fQ q))]),(4,.blk [.nl,.nl,.nl,.nl]),(7,.blk [.v (.lf ws.n (fJ ws.js)),.v (.lf ws.m (fM ws.ms)),.o 30,.v (.lf ws.d (fK ws.sk))]),(30,.reg 83 3 (.fo (addN t.2.1 (fun v=>(sftL t.2.2.1 ((ws.ob t.1).shs v))) (ws.ob t.1).ns (t.2.2.2.1,t.2.2.2.2)).1 (fS (addN t.2.1 (fun v=>(sftL t.2.2.1 ((ws.ob t.1).shs v))) (ws.ob t.1).ns (t.2.2.2.1,t.2.2.2.2)).2)))]⟩) else none)))]) (qQ Tf 60 [0,1,0,1,1,1,1]) [0,1,0,1,1,1,1] (Tf.hint 60 (qJ (qQ Tf 60 [0,1,0,1,1,1,1]))) K 60 (hDa ws k q 0 r g)=(K (.exit 0) ⟨[(4,.p 4 0),(7,.p 7 0)],[(4,.blk [.nl,.nl,.nl,.nl]),(7,.blk [.v (.lf ws.n (fJ ws.js)),.v (.lf ws.m (fM ws.ms)),.o 30,.v (.lf ws.d (fK ws.sk))]),(30,.reg 83 3 (.fo (scS ws q (r,g)).1 (fS (scS ws q (r,g)).2)))]⟩):=by
 obtain ⟨w0,hk,hq⟩:=zWE hv;have hnb:=yWJ (qYI w0).2.1;refine (kW (L:=LFX 60 (cxS Tf (orDa ws k q) 60 60 (ntmF Tf 60)) (evX Tf (orDa ws k q) 60 60 (ntmF Tf 60)) (qZ [([0,1,1,1,0,0,1,0,0,1,0,1,1,1,1],sumF (fun t:Nat × Int × Z3 × Nat × (Nat→Shp)=>(hDb ws k q ((t.1:Nat):Int) t.2.1 t.2.2.1 0 t.2.2.2.1 (fS t.2.2.2.2))) (fun σ=>((slI σ 8).toNat,slI σ 9,⟨bkC σ 10 0,bkC σ 10 1,bkC σ 10 2⟩,rgN σ 30,unFS (rgF σ 30))) (fun t K=>(bif gP (t.1 < ws.no∧((ws.ob t.1).ns≤50∧∀ v,v < (ws.ob t.1).ns→((ws.ob t.1).shs v).np≤50)∧t.2.2.2.1≤900000) then (K (.exit 2) ⟨[(2,.p 2 0),(3,.p 3 0),(4,.p 4 0),(7,.p 7 0),(8,.v (.n .i64 ((t.1:Nat):Int)))],[(2,.blk [.v (.lf ws.n (fJ ws.js)),.v (.lf ws.m (fM ws.ms)),.v (.lf ws.c (fS ws.sh)),.v (.lf ws.d (fK ws.sk)),.v (.lf ws.no (fO ws.ob)),.v (.lf ws.np (fZ ws.pl)),.v (.lf ws.nh (fH ws.hd)),.v (.lf ws.ng (fG ws.gr)),.v (.n .i64 ws.slack)]),(3,.blk [.v (.lf k (fQ q))]),(4,.blk [.nl,.nl,.nl,.nl]),(7,.blk [.v (.lf ws.n (fJ ws.js)),.v (.lf ws.m (fM ws.ms)),.o 30,.v (.lf ws.d (fK ws.sk))]),(30,.reg 83 3 (.fo (addN t.2.1 (fun v=>(sftL t.2.2.1 ((ws.ob t.1).shs v))) (ws.ob t.1).ns (t.2.2.2.1,t.2.2.2.2)).1 (fS (addN t.2.1 (fun v=>(sftL t.2.2.1 ((ws.ob t.1).shs v))) (ws.ob t.1).ns (t.2.2.2.1,t.2.2.2.2)).2)))]⟩) else none)))]) (qQ Tf 60 [0,1,0,1,1,1,1]) [0,1,0,1,1,1,1] (Tf.hint 60 (qJ (qQ Tf 60 [0,1,0,1,1,1,1]))) K) (stp:=jJ 60 (cxS Tf (orDa ws k q) 60 60 (ntmF Tf 60)) (evX Tf (orDa ws k q) 60 60 (ntmF Tf 60)) (qZ [([0,1,1,1,0,0,1,0,0,1,0,1,1,1,1],sumF (fun t:Nat × Int × Z3 × Nat × (Nat→Shp)=>(hDb ws k q ((t.1:Nat):Int) t.2.1 t.2.2.1 0 t.2.2.2.1 (fS t.2.2.2.2))) (fun σ=>((slI σ 8).toNat,slI σ 9,⟨bkC σ 10 0,bkC σ 10 1,bkC σ 10 2⟩,rgN σ 30,unFS (rgF σ 30))) (fun t K=>(bif gP (t.1 < ws.no∧((ws.ob t.1).ns≤50∧∀ v,v < (ws.ob t.1).ns→((ws.ob t.1).shs v).np≤50)∧t.2.2.2.1≤900000) then (K (.exit 2) ⟨[(2,.p 2 0),(3,.p 3 0),(4,.p 4 0),(7,.p 7 0),(8,.v (.n .i64 ((t.1:Nat):Int)))],[(2,.blk [.v (.lf ws.n (fJ ws.js)),.v (.lf ws.m (fM ws.ms)),.v (.lf ws.c (fS ws.sh)),.v (.lf ws.d (fK ws.sk)),.v (.lf ws.no (fO ws.ob)),.v (.lf ws.np (fZ ws.pl)),.v (.lf ws.nh (fH ws.hd)),.v (.lf ws.ng (fG ws.gr)),.v (.n .i64 ws.slack)]),(3,.blk [.v (.lf k (fQ q))]),(4,.blk [.nl,.nl,.nl,.nl]),(7,.blk [.v (.lf ws.n (fJ ws.js)),.v (.lf ws.m (fM ws.ms)),.o 30,.v (.lf ws.d (fK ws.sk))]),(30,.reg 83 3 (.fo (addN t.2.1 (fun v=>(sftL t.2.2.1 ((ws.ob t.1).shs v))) (ws.ob t.1).ns (t.2.2.2.1,t.2.2.2.2)).1 (fS (addN t.2.1 (fun v=>(sftL t.2.2.1 ((ws.ob t.1).shs v))) (ws.ob t.1).ns (t.2.2.2.1,t.2.2.2.2)).2)))]⟩) else none)))]) (qQ Tf 60 [0,1,0,1,1,1,1]) [0,1,0,1,1,1,1] (Tf.hint 60 (qJ (qQ Tf 60 [0,1,0,1,1,1,1]))) K) (fun _ _=>rfl) (fun (i:Nat) (t:Nat × (Nat→Shp))=>hDa ws k q (i:Int) t.1 t.2) (fun i t=>t.1≤100 + 24 * i) (fun _ _=>true) (scN ws q) (c:=ws.no) (fun t=>(K (.exit 0) ⟨[(4,.p 4 0),(7,.p 7 0)],[(4,.blk [.nl,.nl,.nl,.nl]),(7,.blk [.v (.lf ws.n (fJ ws.js)),.v (.lf ws.m (fM ws.ms)),.o 30,.v (.lf ws.d (fK ws.sk))]),(30,.reg 83 3 (.fo t.1 (fS t.2)))]⟩)) (fun _ _=>none) (fun G i t hi hiv => ?_) (fun i t hi hiv _ => ?_) (fun G t hiv => ?_) ws.no 0 60 (r,g) (by omega) (by omega) (by show r≤_; omega)).trans (qZH ws.no 0 _)
 ·refine (rdDa G K ws k q i t.1 t.2).trans ?_;have h1:=(jYQ w0 ho).2 i hi;have h2:=hq i (by omega);have hP:gP (i < ws.no∧((ws.ob i).ns≤50∧∀ v,v < (ws.ob i).ns→((ws.ob i).shs v).np≤50)∧t.1≤900000)=true:=qUJ ⟨hi,⟨by omega,fun v hv=>by have:=qHX (zVX (h1.2 v hv)).1; omega⟩,by omega⟩;simp only [vJQ (show (i:Int) < (ws.no:Int) by omega),kY (show i < 1000000 by omega),yZ hi,yZ (show i < k by omega),toN,vYV];unfold scN;by_cases h0:0≤q i
  ·simp only [vJQ h0,vYV,jVA (show 0≤q i∧q i < (ws.np:Int) from ⟨h0,h2.2⟩),yU,hP,kY (show i < 1000000 by omega)]
  ·obtain ⟨e1,e2⟩:=uWZ h2.1 (show q i < 0 by omega) hnb.2.2.1;simp only [vYH h0,vYV,vYG,e2,yU,hP,kY (show i < 1000000 by omega)]
 ·rw [uYD];have h1:=(jYQ w0 ho).2 i hi;omega
 ·refine (rdDa G K ws k q ws.no t.1 t.2).trans ?_;rw [vYH (show ¬ (ws.no:Int) < (ws.no:Int) by omega)];rfl
noncomputable def yGW (ws:Wsp) (k:Nat) (q:Nat→Int):List (List Nat × jG):=[([0,1,0,1,1,1,1],sumF (fun _:Unit=>(hDa ws k q 0 ws.c ws.sh)) (fun _=>()) (fun _ K=>(bif gP (okW ws∧vlB ws k q=true∧ws.c≤100) then (K (.exit 0) ⟨[(4,.p 4 0),(7,.p 7 0)],[(4,.blk [.nl,.nl,.nl,.nl]),(7,.blk [.v (.lf ws.n (fJ ws.js)),.v (.lf ws.m (fM ws.ms)),.o 30,.v (.lf ws.d (fK ws.sk))]),(30,.reg 83 3 (.fo (scS ws q (ws.c,ws.sh)).1 (fS (scS ws q (ws.c,ws.sh)).2)))]⟩) else none)))]
set_option maxRecDepth 100000 in
theorem xQW (ws:Wsp) (k:Nat) (q:Nat→Int):uJ Tf (orDa ws k q) (qZ (yGW ws k q)) 60 60 [.a (wP ws),.a [.lf k (fQ q)]] =
 (bif (gF1 crw erw ws) then (bif (!decide ((wErr ws)=0)) then some (.v (.t [.a [.l [],.l [],.l [],.l []],.n .i64 (wErr ws)]),[])
 else (bif (gF1 crv erv (ws,k,q)) then (bif (vlB ws k q) then (bif (decide (ws.c≤1000000)) then (bif (gSt (hDa ws k q 0 ws.c ws.sh) (hDa ws k q 0 ws.c ws.sh)) then (bif gP (okW ws∧vlB ws k q=true∧ws.c≤100) then some (.v (.t [.a [.lf ws.n (fJ ws.js),.lf ws.m (fM ws.ms),.lf (scS ws q (ws.c,ws.sh)).1 (fS ((scS ws q (ws.c,ws.sh)).2)),.lf ws.d (fK ws.sk)],.n .i64 0]),[])
 else none)
 else none)
 else none)
 else some (.v (.t [.a [.l [],.l [],.l [],.l []],.n .i64 3403]),[]))
 else none))
 else none):=by kernel_rfl
theorem kQW (ws:Wsp) (k:Nat) (q:Nat→Int) (ho:okW ws):yK Tryz.prog 60 [.a (wP ws),.a [.lf k (fQ q)]] (.v (bif decide (wErr ws=0) then (bif vlB ws k q then .t [.a [.lf ws.n (fJ ws.js),.lf ws.m (fM ws.ms),.lf (scS ws q (ws.c,ws.sh)).1 (fS (scS ws q (ws.c,ws.sh)).2),.lf ws.d (fK ws.sk)],.n .i64 0] else .t [.a [.l [],.l [],.l [],.l []],.n .i64 3403]) else .t [.a [.l [],.l [],.l [],.l []],.n .i64 (wErr ws)])):=by
 refine zZ (N:=60) (LO:=qZ (yGW ws k q)) jU zW (jW (l:=[(17,o_rw),(63,o_rv),(108,o_sf)]) (m:=[]) ⟨xZD,xZE,fQG,trivial⟩ trivial) (fun p S hp => ?_) ?_
 ·refine qH (L:=qQ Tf 60) (l:=(yGW ws k q)) (show AllP _ (yGW ws k q) from ⟨?_,trivial⟩) p S hp
  ·dsimp only;refine jY (T:=Tf) (o:=(orDa ws k q)) (f:=60) (LO:=(qZ [([0,1,1,1,0,0,1,0,0,1,0,1,1,1,1],sumF (fun t:Nat × Int × Z3 × Nat × (Nat→Shp)=>(hDb ws k q ((t.1:Nat):Int) t.2.1 t.2.2.1 0 t.2.2.2.1 (fS t.2.2.2.2))) (fun σ=>((slI σ 8).toNat,slI σ 9,⟨bkC σ 10 0,bkC σ 10 1,bkC σ 10 2⟩,rgN σ 30,unFS (rgF σ 30))) (fun t K=>(bif gP (t.1 < ws.no∧((ws.ob t.1).ns≤50∧∀ v,v < (ws.ob t.1).ns→((ws.ob t.1).shs v).np≤50)∧t.2.2.2.1≤900000) then (K (.exit 2) ⟨[(2,.p 2 0),(3,.p 3 0),(4,.p 4 0),(7,.p 7 0),(8,.v (.n .i64 ((t.1:Nat):Int)))],[(2,.blk [.v (.lf ws.n (fJ ws.js)),.v (.lf ws.m (fM ws.ms)),.v (.lf ws.c (fS ws.sh)),.v (.lf ws.d (fK ws.sk)),.v (.lf ws.no (fO ws.ob)),.v (.lf ws.np (fZ ws.pl)),.v (.lf ws.nh (fH ws.hd)),.v (.lf ws.ng (fG ws.gr)),.v (.n .i64 ws.slack)]),(3,.blk [.v (.lf k (fQ q))]),(4,.blk [.nl,.nl,.nl,.nl]),(7,.blk [.v (.lf ws.n (fJ ws.js)),.v (.lf ws.m (fM ws.ms)),.o 30,.v (.lf ws.d (fK ws.sk))]),(30,.reg 83 3 (.fo (addN t.2.1 (fun v=>(sftL t.2.2.1 ((ws.ob t.1).shs v))) (ws.ob t.1).ns (t.2.2.2.1,t.2.2.2.2)).1 (fS (addN t.2.1 (fun v=>(sftL t.2.2.1 ((ws.ob t.1).shs v))) (ws.ob t.1).ns (t.2.2.2.1,t.2.2.2.2)).2)))]⟩) else none)))])) (p:=[0,1,0,1,1,1,1]) (okDb ws k q) ?_;intro t K r hr;obtain ⟨hg,hr⟩:=qY hr
   skip
   exact (lpDa K ws k q ws.c ws.sh (jK hg).1 (jK hg).2.1 (jK hg).2.2).trans hr
 ·refine (xQW ws k q).trans ?_;rw [jQ (C:=crw) (t:=ws) ho];by_cases h0:wErr ws=0
  ·rw [vJQ h0,jQ (C:=crv) (t:=(ws,k,q)) ho];cases hv:vlB ws k q with
   | false=>rfl
   | true =>
    obtain ⟨w1,w2,w3,w4⟩:=qYI h0;obtain ⟨s1,s2,s3⟩:=qJB w1;have hn:=zJI s1;have hm:=jUK s1;have hd:=jKG w1;have hP:gP (okW ws∧True∧ws.c≤100)=true:=qUJ ⟨ho,trivial,by omega⟩;simp only [vJQ (show ws.c≤1000000 by omega),yU,hP,vYV,vYG,Bool.not_true]
    all_goals rfl
  ·rw [vYH h0]; rfl
theorem uXF {τ:Type} {R:τ→τ→Prop} {nx:Nat→τ→τ} (h:∀ i s s',R s s'→R (nx i s) (nx i s')):∀ n p s s',R s s'→R (qYA nx n p s) (qYA nx n p s')
 | 0,_,_,_,hr=>hr
 | n + 1,p,s,s',hr=>uXF h n (p + 1) _ _ (h p s s' hr)
def AgS (t t':Nat × (Nat→Shp)):Prop:=t.1=t'.1∧∀ v,v < t.1→t.2 v=t'.2 v
theorem uWB {r:Nat} {g g':Nat→Shp} (s:Shp) (h:∀ v,v < r→g v=g' v):∀ v,v < r + 1→zJL g r s v=zJL g' r s v:=fun v hv=>by
 unfold zJL;by_cases e:v=r
 ·subst e; rw [show Nat.beq v v=true from Nat.beq_refl v]; rfl
 ·rw [qVV,vYH e]; exact h v (by omega)
theorem kHE (l:Int) (hs:Nat→Shp) (n:Nat) {t t':Nat × (Nat→Shp)} (h:AgS t t'):AgS (addN l hs n t) (addN l hs n t'):=uXF (R:=AgS) (fun j s s' hr=>⟨congrArg (· + 1) hr.1,(by
 intro v hv;have h2:=uWB (lkS l (hs j)) hr.2 v hv;show zJL s.2 s.1 _ v=zJL s'.2 s'.1 _ v;rw [← hr.1]; exact h2)⟩) n 0 t t' h
theorem fKE (ws:Wsp) (q:Nat→Int) {t t':Nat × (Nat→Shp)} (h:AgS t t'):AgS (scS ws q t) (scS ws q t'):=uXF (R:=AgS) (fun i s s' hr=>by
 unfold scN;cases decide (0≤q i) with
 | true=>exact kHE _ _ _ hr
 | false=>exact kHE _ _ _ hr) ws.no 0 t t' h
theorem kZH {s:Shp} (h:shOk s=true):sftL (Z3.mk 0 0 0) s=s:=by
 have hp:zKQ s=true:=by
  unfold shOk at h;rw [vQJ] at h;exact h.2
 have e:sft (Z3.mk 0 0 0) s.np s.pts=s.pts:=by
  funext v;by_cases hv:v < s.np
  ·have hz:=allN_iff.1 hp v (Nat.zero_le _) (by omega);unfold zOk at hz;simp only [vQJ,Bool.not_eq_true',decide_eq_false_iff_not] at hz;have hb:Nat.blt v s.np=true:=by rw [Nat.blt_eq]; exact hv
   unfold sft;simp only [hb,vYV,Int.add_zero];rw [qV (by omega),qV (by omega),qV (by omega)]
  ·have hb:Nat.blt v s.np=false:=by rw [Bool.eq_false_iff,ne_eq,Nat.blt_eq]; exact hv
   unfold sft;simp only [hb,vYG]
 unfold sftL sftS;rw [e]
def scR (ws:Wsp) (q:Nat→Int):Nat × (Nat→Shp):=scS ws q (ws.c,ws.sh)
def scE (ws:Wsp) (k:Nat) (q:Nat→Int):Int:=bif decide (wErr ws=0) then (bif vlB ws k q then 0 else 3403) else wErr ws
theorem uYC {ws:Wsp} (h:wErr ws=0) (q:Nat→Int):AgS (scS ws q (ws.c,fun v=>sftL (Z3.mk 0 0 0) (ws.sh v))) (scR ws q):=fKE ws q ⟨rfl,fun v hv=>kZH (zVU ((qJB (qYI h).1).2.2 v hv)).2⟩
theorem uZZ (ws:Wsp) (k:Nat) (q:Nat→Int) (ho:okW ws):yK Tryz.prog 46 [.a (wP ws),.a [.lf k (fQ q)]] (.v (.t [.a [.lf (bif vlB ws k q then ws.n else 0) (fJ ws.js),.lf (bif vlB ws k q then ws.m else 0) (fM ws.ms),.lf (bif vlB ws k q then (scR ws q).1 else 0) (fS (scR ws q).2),.lf (bif vlB ws k q then ws.d else 0) (fK ws.sk)],.n .i64 (scE ws k q)])):=by
 have h1:=kQX ws k q ho;unfold scE;by_cases h0:wErr ws=0
 ·rw [vJQ h0] at h1 ⊢;cases hv:vlB ws k q with
  | true =>
   rw [hv] at h1;have hs:=uYC h0 q;exact qKW (Same.t (xs:=[_,_]) ⟨Same.a (xs:=[_,_,_,_]) ⟨Same.refl _,Same.refl _,hs.1 ▸ qUY fun j hj=>congrArg sP (hs.2 j hj),Same.refl _,trivial⟩,Same.refl _,trivial⟩) h1
  | false =>
   rw [hv] at h1;exact qKW (Same.t (xs:=[_,_]) ⟨Same.a (xs:=[_,_,_,_]) ⟨Same.lf rfl,Same.lf rfl,Same.lf rfl,Same.lf rfl,trivial⟩,Same.refl _,trivial⟩) h1
 ·have hv:vlB ws k q=false:=by unfold vlB; rw [vYH h0]; rfl
  rw [vYH h0] at h1 ⊢;rw [hv];exact qKW (Same.t (xs:=[_,_]) ⟨Same.a (xs:=[_,_,_,_]) ⟨Same.lf rfl,Same.lf rfl,Same.lf rfl,Same.lf rfl,trivial⟩,Same.refl _,trivial⟩) h1
theorem uZY (ws:Wsp) (k:Nat) (q:Nat→Int) (ho:okW ws):yK Tryz.prog 60 [.a (wP ws),.a [.lf k (fQ q)]] (.v (.t [.a [.lf (bif vlB ws k q then ws.n else 0) (fJ ws.js),.lf (bif vlB ws k q then ws.m else 0) (fM ws.ms),.lf (bif vlB ws k q then (scR ws q).1 else 0) (fS (scR ws q).2),.lf (bif vlB ws k q then ws.d else 0) (fK ws.sk)],.n .i64 (scE ws k q)])):=by
 have h1:=kQW ws k q ho;unfold scE;by_cases h0:wErr ws=0
 ·rw [vJQ h0] at h1 ⊢;cases hv:vlB ws k q with
  | true =>
   rw [hv] at h1;exact h1
  | false =>
   rw [hv] at h1;exact qKW (Same.t (xs:=[_,_]) ⟨Same.a (xs:=[_,_,_,_]) ⟨Same.lf rfl,Same.lf rfl,Same.lf rfl,Same.lf rfl,trivial⟩,Same.refl _,trivial⟩) h1
 ·have hv:vlB ws k q=false:=by unfold vlB; rw [vYH h0]; rfl
  rw [vYH h0] at h1 ⊢;rw [hv];exact qKW (Same.t (xs:=[_,_]) ⟨Same.a (xs:=[_,_,_,_]) ⟨Same.lf rfl,Same.lf rfl,Same.lf rfl,Same.lf rfl,trivial⟩,Same.refl _,trivial⟩) h1
end Go.Proofs.YtgmbkkkbfbocnaaGreat.Hj

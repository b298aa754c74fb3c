/- Part 16 of the texts behind the last one: rules and contracts. No condition. -/
import Derived.Test.YtmeldddgjfocdaaGreatGL15
open Bool renaming and_eq_true → vQJ
open Go.IntKind renaming wrap → vJJ
namespace Go.Proofs.YtmeldddgjfocdaaGreat.Hh
open Go.Rx Rt Go.Sx Go.RowKit Od Na Nb Nc Nx Nf Nl Nm Ga Gb Gc Gd Ge Gf Gg Ha Hb Hc Hd He Hf Hg
noncomputable def xUY (n:Nat) (q:Nat→Z3):OrS:=orS [] []
noncomputable def jQA (n:Nat) (q:Nat→Z3):List (List Nat × yG):=[]
set_option maxRecDepth 100000 in
theorem xKW (n:Nat) (q:Nat→Z3):qQZ Tf (xUY n q) (qK (jQA n q)) 60 134 [.lf (n + 1) (fZ q)] =
 (bif (decide (0 + (n + 1)≤1000000)) then some (.ow 58 3 (.fo (n + 1) (fZ q)),[])
 else none):=by kernel_rfl
theorem kJE (n:Nat) (q:Nat→Z3) (_:n + 1≤50):zG Tryz.prog 134 [.lf (n + 1) (fZ q)] (.ow 58 3 (.fo (n + 1) (fZ q))):=by
 refine zK (N:=60) (LO:=qK (jQA n q)) jV yQ (kQ (l:=[]) (m:=[]) trivial trivial) (fun p S hp => ?_) ?_
 ·refine zQ (L:=qY Tf 134) (l:=(jQA n q)) (show AllP _ (jQA n q) from trivial) p S hp
 ·refine (xKW n q).trans ?_;simp only [vJQ (show n + 1≤1000000 by omega),vJQ (show n + 1≤8796093022208 by omega),vJQ (show 0 + (n + 1)≤1000000 by omega),vYV]
  all_goals rfl
theorem kJH (n:Nat) (q:Nat→Z3) (hn:1≤n∧n≤50):zG Tryz.prog 134 [.lf n (fZ q)] (.ow 58 3 (.fo n (fZ q))):=by
 obtain ⟨h1,h2⟩:=hn;obtain ⟨m,rfl⟩:∃ m,n=m + 1:=⟨n - 1,by omega⟩
 exact kJE m q h2
def ccov:Nat × (Nat→Z3)→Prop:=fun t=>match t with | (n,_)=>1≤n∧n≤50
def ecov:Nat × (Nat→Z3)→List PV:=fun t=>match t with | (n,q)=>[.lf n (fZ q)]
noncomputable def rcov:Nat × (Nat→Z3)→Ret:=fun t=>match t with | (n,q)=>.ow 58 3 (.fo n (fZ q))
def dcov:List PV→Nat × (Nat→Z3):=fun ps=>match ps with
 | [.lf n f]=>(n,unFZ f)
 | _=>(0,fun _=>⟨0,0,0⟩)
noncomputable def uGQ:List PV→Option (Bool × Ret):=o_fm dcov ccov ecov rcov
theorem xWH:zZ Tryz.prog 134 uGQ:=qQV fun t h=>by
 obtain ⟨n,q⟩:=t;exact kJH n q h
noncomputable def orPa (c:Nat) (_:Nat→Shp) (_:Z3):OrS:=orS [(134,uGQ)] []
def sft (by_:Z3) (n:Nat) (p:Nat→Z3):Nat→Z3:=fun v=>⟨bif Nat.blt v n then vJJ .i64 ((p v).x + by_.x) else (p v).x,bif Nat.blt v n then vJJ .i64 ((p v).y + by_.y) else (p v).y,bif Nat.blt v n then vJJ .i64 ((p v).z + by_.z) else (p v).z⟩
def sftS (by_:Z3) (link:Int) (s:Shp):Shp:=⟨link,s.rad,s.np,sft by_ s.np s.pts⟩
def sftL (by_:Z3) (s:Shp):Shp:=sftS by_ s.link s
def sfQ (by_:Z3) (p:Nat→Z3) (k:Nat):Nat→Nat→Int:=fun v j=>List.getD [(sft by_ k p v).x,(sft by_ k p v).y,(sft by_ k p v).z] j 0
theorem yZA (v k:Nat) (a b:Nat→Int):(bif Nat.beq v k then a k else bif Nat.blt v k then a v else b v)=bif Nat.blt v (k + 1) then a v else b v:=by
 rw [qXK];by_cases h:v=k
 ·subst h;rw [vJQ rfl,show Nat.blt v (v + 1)=true from by rw [Nat.blt_eq]; omega]; rfl
 ·rw [vYH h,vYG];by_cases h2:v < k
  ·rw [show Nat.blt v k=true from by rw [Nat.blt_eq]; exact h2,show Nat.blt v (k + 1)=true from by rw [Nat.blt_eq]; omega]
  ·rw [show Nat.blt v k=false from by rw [Bool.eq_false_iff,ne_eq,Nat.blt_eq]; exact h2,show Nat.blt v (k + 1)=false from by rw [Bool.eq_false_iff,ne_eq,Nat.blt_eq]; omega]
theorem kHY (k:Nat):Nat.blt k k=false:=by rw [Bool.eq_false_iff,ne_eq,Nat.blt_eq]; omega
noncomputable def hPb (c:Nat) (sh:Nat→Shp) (by_:Z3) (i:Int) (j:Int) (r:Nat) (f:Nat→List PV) (s:Shp) (q:Nat→Nat→Int):St:=⟨[(3,.p 3 0),(5,.o 13),(7,.p 7 0),(14,.v (.lf c (fS sh))),(15,.v (.n .i64 (c:Int))),(16,.v (.n .i64 i)),(26,.v (.n .i64 (s.np:Int))),(27,.v (.n .i64 j))],[(3,.blk [.v (.n .i64 by_.x),.v (.n .i64 by_.y),.v (.n .i64 by_.z)]),(7,.blk [.v (.n .i64 s.link),.v (.n .i64 s.rad),.o 22]),(13,.reg 94 3 (.fo r f)),(22,.reg 58 3 (.fo s.np (fun v=>[.n .i64 (q v 0),.n .i64 (q v 1),.n .i64 (q v 2)])))]⟩
set_option maxRecDepth 100000 in
theorem rdPb (G:St→Option (Ret × Mem)) (K:Cont) (c:Nat) (sh:Nat→Shp) (by_:Z3) (i:Int) (j:Int) (r:Nat) (f:Nat→List PV) (s:Shp) (q:Nat→Nat→Int):stpT Tf 86 (orPa c sh by_) 60 [] [0,1,0,1,1,0,0,1,1,0,0,1,0,1,1] K G (hPb c sh by_ i j r f s q) =
 (bif (decide (j < (s.np:Int))) then (bif (inB j s.np) then (bif (inB j s.np) then (bif (inB j s.np) then (bif (inB j s.np) then (bif (inB j s.np) then (bif (inB j s.np) then (G (hPb c sh by_ i (vJJ .i64 (j + 1)) r f s (fun v k=>List.getD [(bif (Nat.beq v (j).toNat) then (bif (Nat.beq (j).toNat (j).toNat) then (bif (Nat.beq (j).toNat (j).toNat) then (vJJ .i64 ((q (j).toNat 0) + by_.x)) else (q (j).toNat 0)) else (bif (Nat.beq (j).toNat (j).toNat) then (vJJ .i64 ((q (j).toNat 0) + by_.x)) else (q (j).toNat 0))) else (bif (Nat.beq v (j).toNat) then (bif (Nat.beq (j).toNat (j).toNat) then (vJJ .i64 ((q (j).toNat 0) + by_.x)) else (q (j).toNat 0)) else (bif (Nat.beq v (j).toNat) then (vJJ .i64 ((q (j).toNat 0) + by_.x)) else (q v 0)))),(bif (Nat.beq v (j).toNat) then (bif (Nat.beq (j).toNat (j).toNat) then (vJJ .i64 ((bif (Nat.beq (j).toNat (j).toNat) then (q (j).toNat 1) else (q (j).toNat 1)) + by_.y)) else (bif (Nat.beq (j).toNat (j).toNat) then (q (j).toNat 1) else (q (j).toNat 1))) else (bif (Nat.beq v (j).toNat) then (vJJ .i64 ((bif (Nat.beq (j).toNat (j).toNat) then (q (j).toNat 1) else (q (j).toNat 1)) + by_.y)) else (bif (Nat.beq v (j).toNat) then (q (j).toNat 1) else (q v 1)))),(bif (Nat.beq v (j).toNat) then (vJJ .i64 ((bif (Nat.beq (j).toNat (j).toNat) then (bif (Nat.beq (j).toNat (j).toNat) then (q (j).toNat 2) else (q (j).toNat 2)) else (bif (Nat.beq (j).toNat (j).toNat) then (q (j).toNat 2) else (q (j).toNat 2))) + by_.z)) else (bif (Nat.beq v (j).toNat) then (bif (Nat.beq (j).toNat (j).toNat) then (q (j).toNat 2) else (q (j).toNat 2)) else (bif (Nat.beq v (j).toNat) then (q (j).toNat 2) else (q v 2))))] k 0)))
 else none)
 else none)
 else none)
 else none)
 else none)
 else none)
 else (K (.exit 2) ⟨[(3,.p 3 0),(5,.o 13),(7,.p 7 0),(14,.v (.lf c (fS sh))),(15,.v (.n .i64 (c:Int))),(16,.v (.n .i64 i))],[(3,.blk [.v (.n .i64 by_.x),.v (.n .i64 by_.y),.v (.n .i64 by_.z)]),(7,.blk [.v (.n .i64 s.link),.v (.n .i64 s.rad),.o 22]),(13,.reg 94 3 (.fo r f)),(22,.reg 58 3 (.fo s.np (fun v=>[.n .i64 (q v 0),.n .i64 (q v 1),.n .i64 (q v 2)])))]⟩)):=by kernel_rfl
theorem uUE (by_:Z3) (p:Nat→Z3) (j:Nat):(fun v k=>List.getD [(bif (Nat.beq v j) then (bif (Nat.beq j j) then (bif (Nat.beq j j) then (vJJ .i64 (((sfQ by_ p j) j 0) + by_.x)) else ((sfQ by_ p j) j 0)) else (bif (Nat.beq j j) then (vJJ .i64 (((sfQ by_ p j) j 0) + by_.x)) else ((sfQ by_ p j) j 0))) else (bif (Nat.beq v j) then (bif (Nat.beq j j) then (vJJ .i64 (((sfQ by_ p j) j 0) + by_.x)) else ((sfQ by_ p j) j 0)) else (bif (Nat.beq v j) then (vJJ .i64 (((sfQ by_ p j) j 0) + by_.x)) else ((sfQ by_ p j) v 0)))),(bif (Nat.beq v j) then (bif (Nat.beq j j) then (vJJ .i64 ((bif (Nat.beq j j) then ((sfQ by_ p j) j 1) else ((sfQ by_ p j) j 1)) + by_.y)) else (bif (Nat.beq j j) then ((sfQ by_ p j) j 1) else ((sfQ by_ p j) j 1))) else (bif (Nat.beq v j) then (vJJ .i64 ((bif (Nat.beq j j) then ((sfQ by_ p j) j 1) else ((sfQ by_ p j) j 1)) + by_.y)) else (bif (Nat.beq v j) then ((sfQ by_ p j) j 1) else ((sfQ by_ p j) v 1)))),(bif (Nat.beq v j) then (vJJ .i64 ((bif (Nat.beq j j) then (bif (Nat.beq j j) then ((sfQ by_ p j) j 2) else ((sfQ by_ p j) j 2)) else (bif (Nat.beq j j) then ((sfQ by_ p j) j 2) else ((sfQ by_ p j) j 2))) + by_.z)) else (bif (Nat.beq v j) then (bif (Nat.beq j j) then ((sfQ by_ p j) j 2) else ((sfQ by_ p j) j 2)) else (bif (Nat.beq v j) then ((sfQ by_ p j) j 2) else ((sfQ by_ p j) v 2))))] k 0)=sfQ by_ p (j + 1):=by
 funext v k;have e1:sfQ by_ p j j 0=(p j).x∧sfQ by_ p j j 1=(p j).y∧sfQ by_ p j j 2=(p j).z:=by
  refine ⟨?_,?_,?_⟩ <;> (show (bif Nat.blt j j then _ else _)=_; rw [kHY]; rfl)
 have e2:(bif Nat.beq v j then vJJ .i64 ((p j).x + by_.x) else sfQ by_ p j v 0)=(sft by_ (j + 1) p v).x:=yZA v j (fun v=>vJJ .i64 ((p v).x + by_.x)) (fun v=>(p v).x);have e3:(bif Nat.beq v j then vJJ .i64 ((p j).y + by_.y) else sfQ by_ p j v 1)=(sft by_ (j + 1) p v).y:=yZA v j (fun v=>vJJ .i64 ((p v).y + by_.y)) (fun v=>(p v).y);have e4:(bif Nat.beq v j then vJJ .i64 ((p j).z + by_.z) else sfQ by_ p j v 2)=(sft by_ (j + 1) p v).z:=yZA v j (fun v=>vJJ .i64 ((p v).z + by_.z)) (fun v=>(p v).z);show _=List.getD [(sft by_ (j + 1) p v).x,(sft by_ (j + 1) p v).y,(sft by_ (j + 1) p v).z] k 0;rw [← e2,← e3,← e4];simp only [Nat.beq_refl,vYV,e1.1,e1.2.1,e1.2.2];cases Nat.beq v j <;> rfl
theorem lpPb (K:Cont) (c:Nat) (sh:Nat→Shp) (by_:Z3) (i:Int) (r:Nat) (f:Nat→List PV) (s:Shp) (_:s.np≤50):LFT Tf 86 (orPa c sh by_) 60 [] [0,1,0,1,1,0,0,1,1,0,0,1,0,1,1] K 60 (hPb c sh by_ i 0 r f s (sfQ by_ s.pts 0))=(K (.exit 2) ⟨[(3,.p 3 0),(5,.o 13),(7,.p 7 0),(14,.v (.lf c (fS sh))),(15,.v (.n .i64 (c:Int))),(16,.v (.n .i64 i))],[(3,.blk [.v (.n .i64 by_.x),.v (.n .i64 by_.y),.v (.n .i64 by_.z)]),(7,.blk [.v (.n .i64 s.link),.v (.n .i64 s.rad),.o 22]),(13,.reg 94 3 (.fo r f)),(22,.reg 58 3 (.fo s.np (fZ (sft by_ s.np s.pts))))]⟩):=by
 refine (kV (L:=LFT Tf 86 (orPa c sh by_) 60 [] [0,1,0,1,1,0,0,1,1,0,0,1,0,1,1] K) (stp:=stpT Tf 86 (orPa c sh by_) 60 [] [0,1,0,1,1,0,0,1,1,0,0,1,0,1,1] K) (fun _ _=>rfl) (fun (j:Nat) (_:Unit)=>hPb c sh by_ i (j:Int) r f s (sfQ by_ s.pts j)) (fun _ _=>True) (fun _ _=>true) (fun _ _=>()) (c:=s.np) (fun _=>(K (.exit 2) ⟨[(3,.p 3 0),(5,.o 13),(7,.p 7 0),(14,.v (.lf c (fS sh))),(15,.v (.n .i64 (c:Int))),(16,.v (.n .i64 i))],[(3,.blk [.v (.n .i64 by_.x),.v (.n .i64 by_.y),.v (.n .i64 by_.z)]),(7,.blk [.v (.n .i64 s.link),.v (.n .i64 s.rad),.o 22]),(13,.reg 94 3 (.fo r f)),(22,.reg 58 3 (.fo s.np (fZ (sft by_ s.np s.pts))))]⟩)) (fun _ _=>none) (fun G j f_ hj _ => ?_) (fun _ _ _ _ _=>trivial) (fun G f_ _ => ?_) s.np 0 60 () (by omega) (by omega) trivial).trans (qZH s.np 0 _)
 ·refine (rdPb G K c sh by_ i j r f s (sfQ by_ s.pts j)).trans ?_;simp only [vJQ (show (j:Int) < (s.np:Int) by omega),kK (show j < 1000000 by omega),yU hj,toN,vYV];rw [uUE by_ s.pts j]
 ·refine (rdPb G K c sh by_ i s.np r f s (sfQ by_ s.pts s.np)).trans ?_;rw [vYH (show ¬ (s.np:Int) < (s.np:Int) by omega)];rfl
noncomputable def liPb (c:Nat) (sh:Nat→Shp) (by_:Z3):List (List Nat × yG):=[([0,1,0,1,1,0,0,1,1,0,0,1,0,1,1],sumF (fun t:Int × Nat × (Nat→List PV) × Shp=>(hPb c sh by_ t.1 0 t.2.1 t.2.2.1 t.2.2.2 (sfQ by_ t.2.2.2.pts 0))) (fun σ=>(slI σ 16,rgN σ 13,rgF σ 13,⟨bkC σ 7 0,bkC σ 7 1,rgN σ 22,unFZ (rgF σ 22)⟩)) (fun t K=>(bif (decide (t.2.2.2.np≤50)) then (K (.exit 2) ⟨[(3,.p 3 0),(5,.o 13),(7,.p 7 0),(14,.v (.lf c (fS sh))),(15,.v (.n .i64 (c:Int))),(16,.v (.n .i64 t.1))],[(3,.blk [.v (.n .i64 by_.x),.v (.n .i64 by_.y),.v (.n .i64 by_.z)]),(7,.blk [.v (.n .i64 t.2.2.2.link),.v (.n .i64 t.2.2.2.rad),.o 22]),(13,.reg 94 3 (.fo t.2.1 t.2.2.1)),(22,.reg 58 3 (.fo t.2.2.2.np (fZ (sft by_ t.2.2.2.np t.2.2.2.pts))))]⟩) else none)))]
theorem okPb (c:Nat) (sh:Nat→Shp) (by_:Z3):∀ p S,qK (liPb c sh by_) p=some S→uX 60 (cxS Tf (orPa c sh by_) 60 86 (ntmF Tf 86)) (qY Tf 86 p) S:=fun p S hp=>by
 refine zQ (L:=qY Tf 86) (l:=(liPb c sh by_)) (show AllP _ (liPb c sh by_) from ⟨?_,trivial⟩) p S hp;dsimp only;refine jK (T:=Tf) (o:=(orPa c sh by_)) (f:=86) (LO:=qK []) (p:=[0,1,0,1,1,0,0,1,1,0,0,1,0,1,1]) kU ?_;intro t K r hr;obtain ⟨hg,hr⟩:=qQ hr
 skip
 exact (lpPb K c sh by_ t.1 t.2.1 t.2.2.1 t.2.2.2 (vJZ hg)).trans hr
noncomputable def hPa (c:Nat) (sh:Nat→Shp) (by_:Z3) (i:Int) (r:Nat) (f:Nat→List PV):St:=⟨[(3,.p 3 0),(5,.o 13),(14,.v (.lf c (fS sh))),(15,.v (.n .i64 (c:Int))),(16,.v (.n .i64 i))],[(3,.blk [.v (.n .i64 by_.x),.v (.n .i64 by_.y),.v (.n .i64 by_.z)]),(13,.reg 94 3 (.fo r f))]⟩
set_option maxRecDepth 100000 in
theorem rdPa (G:St→Option (Ret × Mem)) (K:Cont) (c:Nat) (sh:Nat→Shp) (by_:Z3) (i:Int) (r:Nat) (f:Nat→List PV):stpT Tf 86 (orPa c sh by_) 60 (liPb c sh by_) [0,1,0,1,1] K G (hPa c sh by_ i r f) =
 (bif (decide (i < (c:Int))) then (bif (inB i c) then (bif (gF1 ccov ecov (((sh (i).toNat).np),((sh (i).toNat).pts))) then (bif (gSt (hPb c sh by_ i 0 r f (sh (i).toNat) (sfQ by_ (sh (i).toNat).pts 0)) (hPb c sh by_ i 0 r f (sh (i).toNat) (sfQ by_ (sh (i).toNat).pts 0))) then (bif (decide ((sh (i).toNat).np≤50)) then (bif (decide (r + 1≤1000000)) then (G (hPa c sh by_ (vJJ .i64 (i + 1)) (r + 1) (fun v=>qZV (Nat.beq v r) [.n .i64 (sh (i).toNat).link,.n .i64 (sh (i).toNat).rad,.lf (sh (i).toNat).np (fZ (sft by_ (sh (i).toNat).np (sh (i).toNat).pts))] (f v))))
 else none)
 else none)
 else none)
 else none)
 else none)
 else (K (.exit 0) ⟨[(5,.o 13)],[(13,.reg 94 3 (.fo r f))]⟩)):=by kernel_rfl
theorem lpPa (K:Cont) (c:Nat) (sh:Nat→Shp) (by_:Z3) (_:c≤50) (hp:∀ i,i < c→1≤(sh i).np∧(sh i).np≤50):LFT Tf 86 (orPa c sh by_) 60 (liPb c sh by_) [0,1,0,1,1] K 60 (hPa c sh by_ 0 0 (fun _=>[.n .i64 0,.n .i64 0,.zs]))=(K (.exit 0) ⟨[(5,.o 13)],[(13,.reg 94 3 (.fo c (zQW (fun i:Nat=>sP (sftL by_ (sh i))) c 0 (fun _=>[.n .i64 0,.n .i64 0,.zs]))))]⟩):=by
 refine (kV (L:=LFT Tf 86 (orPa c sh by_) 60 (liPb c sh by_) [0,1,0,1,1] K) (stp:=stpT Tf 86 (orPa c sh by_) 60 (liPb c sh by_) [0,1,0,1,1] K) (fun _ _=>rfl) (fun (i:Nat) (f:Nat→List PV)=>hPa c sh by_ (i:Int) i f) (fun _ _=>True) (fun _ _=>true) (fun (i:Nat) f v=>qZV (Nat.beq v i) (sP (sftL by_ (sh i))) (f v)) (c:=c) (fun f=>(K (.exit 0) ⟨[(5,.o 13)],[(13,.reg 94 3 (.fo c f))]⟩)) (fun _ _=>none) (fun G i f hi _ => ?_) (fun _ _ _ _ _=>trivial) (fun G f _ => ?_) c 0 60 (fun _=>[.n .i64 0,.n .i64 0,.zs]) (by omega) (by omega) trivial).trans (zUG c 0 (fun _=>[.n .i64 0,.n .i64 0,.zs]))
 ·refine (rdPa G K c sh by_ (i:Int) i f).trans ?_;simp only [vJQ (show (i:Int) < (c:Int) by omega),kK (show i < 1000000 by omega),yU (show i < c by omega),toN,jX (C:=ccov) (t:=((sh i).np,(sh i).pts)) (hp i hi),yJ,vJQ (hp i hi).2,vYV,vJQ (show i + 1≤1000000 by omega)]
  all_goals rfl
 ·refine (rdPa G K c sh by_ (c:Int) c f).trans ?_;rw [vYH (show ¬ (c:Int) < (c:Int) by omega)];rfl
noncomputable def jQW (c:Nat) (sh:Nat→Shp) (by_:Z3):List (List Nat × yG):=[([0,1,0,1,1],sumF (fun _:Unit=>(hPa c sh by_ 0 0 (fun _=>[.n .i64 0,.n .i64 0,.zs]))) (fun _=>()) (fun _ K=>(bif gP (c≤50∧∀ i,i < c→1≤(sh i).np∧(sh i).np≤50) then (K (.exit 0) ⟨[(5,.o 13)],[(13,.reg 94 3 (.fo c (zQW (fun i:Nat=>sP (sftL by_ (sh i))) c 0 (fun _=>[.n .i64 0,.n .i64 0,.zs]))))]⟩) else none)))]
set_option maxRecDepth 100000 in
theorem xKJ (c:Nat) (sh:Nat→Shp) (by_:Z3):qQZ Tf (orPa c sh by_) (qK (jQW c sh by_)) 60 86 [.lf c (fS sh),.a [.n .i64 by_.x,.n .i64 by_.y,.n .i64 by_.z]] =
 (bif (decide (0≤(c:Int))) then (bif (decide ((c:Int)≤1000000)) then (bif (gSt (hPa c sh by_ 0 0 (fun _=>[.n .i64 0,.n .i64 0,.zs])) (hPa c sh by_ 0 0 (fun _=>[.n .i64 0,.n .i64 0,.zs]))) then (bif gP (c≤50∧∀ i,i < c→1≤(sh i).np∧(sh i).np≤50) then some (.ow 94 3 (.fo c (zQW (fun i:Nat=>sP (sftL by_ (sh i))) c 0 (fun _=>[.n .i64 0,.n .i64 0,.zs]))),[])
 else none)
 else none)
 else none)
 else none):=by kernel_rfl
theorem kJZ (c:Nat) (sh:Nat→Shp) (by_:Z3) (hc:c≤50) (hp:∀ i,i < c→1≤(sh i).np∧(sh i).np≤50):zG Tryz.prog 86 [.lf c (fS sh),.a [.n .i64 by_.x,.n .i64 by_.y,.n .i64 by_.z]] (.ow 94 3 (.fo c (zQW (fun i:Nat=>sP (sftL by_ (sh i))) c 0 (fun _=>[.n .i64 0,.n .i64 0,.zs])))):=by
 refine zK (N:=60) (LO:=qK (jQW c sh by_)) jV yQ (kQ (l:=[(134,uGQ)]) (m:=[]) ⟨xWH,trivial⟩ trivial) (fun p S hp => ?_) ?_
 ·refine zQ (L:=qY Tf 86) (l:=(jQW c sh by_)) (show AllP _ (jQW c sh by_) from ⟨?_,trivial⟩) p S hp
  ·dsimp only;refine jK (T:=Tf) (o:=(orPa c sh by_)) (f:=86) (LO:=(qK (liPb c sh by_))) (p:=[0,1,0,1,1]) (okPb c sh by_) ?_;intro t K r hr;obtain ⟨hg,hr⟩:=qQ hr
   skip
   exact (lpPa K c sh by_ (jH hg).1 (jH hg).2).trans hr
 ·refine (xKJ c sh by_).trans ?_;simp only [vJQ (show (0:Int)≤(c:Int) by omega),vJQ (show (c:Int)≤1000000 by omega),yJ,qXJ (show c≤50∧∀ i,i < c→1≤(sh i).np∧(sh i).np≤50 from ⟨hc,hp⟩),vYV]
  all_goals rfl
theorem kYI {f e sz:Nat} {ps:List PV} {rows rows':Go.Rx.Rows} (h:rows.L=rows'.L) (hs:zG Tryz.prog f ps (.ow e sz rows)):zG Tryz.prog f ps (.ow e sz rows'):=by
 refine ⟨hs.1,fun w F vals hF hal=>(hs.2 w F vals hF hal).mono fun _ w' ⟨v,F',he,hg,f1,f2,hr⟩=>⟨v,F',he,hg,f1,f2,?_⟩⟩;have e:rows.len=rows'.len:=by rw [← Rows.len_L,h,Rows.len_L]
 simp only [RRet,e,h] at hr ⊢;exact hr
theorem uKY (c:Nat) (sh:Nat→Shp) (by_:Z3) (hc:c≤50) (hp:∀ i,i < c→1≤(sh i).np∧(sh i).np≤50):zG Tryz.prog 86 [.lf c (fS sh),.a (zP by_)] (.ow 94 3 (.fo c (fS (fun v=>sftL by_ (sh v))))):=by
 refine kYI ?_ (kJZ c sh by_ hc hp);refine List.map_congr_left fun j hj => ?_
 rw [zWY,if_pos (by have:=List.mem_range.1 hj; omega)];rfl
def cpl:Nat × (Nat→Shp) × Z3→Prop:=fun t=>match t with | (c,sh,_)=>c≤50∧∀ i,i < c→1≤(sh i).np∧(sh i).np≤50
def epl:Nat × (Nat→Shp) × Z3→List PV:=fun t=>match t with | (c,sh,by_)=>[.lf c (fS sh),.a (zP by_)]
noncomputable def rpl:Nat × (Nat→Shp) × Z3→Ret:=fun t=>match t with | (c,sh,by_)=>.ow 94 3 (.fo c (fS (fun v=>sftL by_ (sh v))))
def dpl:List PV→Nat × (Nat→Shp) × Z3:=fun ps=>match ps with
 | [.lf c f,.a r]=>(c,unFS f,unZ r)
 | _=>(0,fun _=>⟨0,0,0,fun _=>⟨0,0,0⟩⟩,⟨0,0,0⟩)
noncomputable def o_pl:List PV→Option (Bool × Ret):=o_fm dpl cpl epl rpl
theorem fUJ:zZ Tryz.prog 86 o_pl:=qQV fun t h=>by
 obtain ⟨c,sh,by_⟩:=t;exact uKY c sh by_ h.1 h.2
end Go.Proofs.YtmeldddgjfocdaaGreat.Hh
namespace Go.Proofs.YtmeldddgjfocdaaGreat.Hi
open Go.Rx Rt Go.Sx Go.RowKit Od Na Nb Nc Nx Nf Nl Nm Ga Gb Gc Gd Ge Gf Gg Ha Hb Hc Hd He Hf Hg Hh
theorem cl0j:zG Tryz.prog 84 [.l []] (.v (.l [])):=zUQ (uH (N:=60) jQ yQ qJE (by kernel_rfl)) (zZK (e:=105) (sz:=12) (uH (N:=60) jQ yQ qJE (by kernel_rfl)))
noncomputable def xUU (n:Nat) (q:Nat→J):OrS:=orS [] []
noncomputable def jQD (n:Nat) (q:Nat→J):List (List Nat × yG):=[]
set_option maxRecDepth 100000 in
theorem xKH (n:Nat) (q:Nat→J):qQZ Tf (xUU n q) (qK (jQD n q)) 60 84 [.lf (n + 1) (fJ q)] =
 (bif (decide (0 + (n + 1)≤1000000)) then some (.ow 105 12 (.fo (n + 1) (fJ q)),[])
 else none):=by kernel_rfl
theorem kJL (n:Nat) (q:Nat→J) (_:n + 1≤70):zG Tryz.prog 84 [.lf (n + 1) (fJ q)] (.ow 105 12 (.fo (n + 1) (fJ q))):=by
 refine zK (N:=60) (LO:=qK (jQD n q)) jV yQ (kQ (l:=[]) (m:=[]) trivial trivial) (fun p S hp => ?_) ?_
 ·refine zQ (L:=qY Tf 84) (l:=(jQD n q)) (show AllP _ (jQD n q) from trivial) p S hp
 ·refine (xKH n q).trans ?_;simp only [vJQ (show n + 1≤1000000 by omega),vJQ (show n + 1≤8796093022208 by omega),vJQ (show 0 + (n + 1)≤1000000 by omega),vYV]
  all_goals rfl
theorem kJC (n:Nat) (q:Nat→J) (hn:1≤n∧n≤70):zG Tryz.prog 84 [.lf n (fJ q)] (.ow 105 12 (.fo n (fJ q))):=by
 obtain ⟨h1,h2⟩:=hn;obtain ⟨m,rfl⟩:∃ m,n=m + 1:=⟨n - 1,by omega⟩
 exact kJL m q h2
theorem kJG (n:Nat) (q:Nat→J) (hn:n≤70):zG Tryz.prog 84 [.lf n (fJ q)] (.v (.lf n (fJ q))):=by
 rcases Nat.eq_zero_or_pos n with rfl | h
 ·exact zHQ (ps:=[.l []]) (x:=.l []) ⟨Same.l rfl,trivial⟩ (Same.lf rfl) cl0j
 ·exact qXB (kJC n q ⟨h,hn⟩)
def ccvj:Nat × (Nat→J)→Prop:=fun t=>match t with | (n,_)=>n≤70
def ecvj:Nat × (Nat→J)→List PV:=fun t=>match t with | (n,q)=>[.lf n (fJ q)]
noncomputable def rcvj:Nat × (Nat→J)→Ret:=fun t=>match t with | (n,q)=>.v (.lf n (fJ q))
def dcvj:List PV→Nat × (Nat→J):=fun ps=>match ps with
 | [.lf n f]=>(n,unFJ f)
 | _=>(0,fun _=>⟨ByteArray.empty,0,0,⟨0,0,0⟩,0,0,0,0,0,0⟩)
noncomputable def uVL:List PV→Option (Bool × Ret):=o_fm dcvj ccvj ecvj rcvj
theorem xWV:zZ Tryz.prog 84 uVL:=qQV fun t h=>by
 obtain ⟨n,q⟩:=t;exact kJG n q h
theorem cl0m:zG Tryz.prog 85 [.l []] (.v (.l [])):=zUQ (uH (N:=60) jQ yQ qJE (by kernel_rfl)) (zZK (e:=134) (sz:=5) (uH (N:=60) jQ yQ qJE (by kernel_rfl)))
noncomputable def xUJ (n:Nat) (q:Nat→Ms):OrS:=orS [] []
noncomputable def jQB (n:Nat) (q:Nat→Ms):List (List Nat × yG):=[]
set_option maxRecDepth 100000 in
theorem xKV (n:Nat) (q:Nat→Ms):qQZ Tf (xUJ n q) (qK (jQB n q)) 60 85 [.lf (n + 1) (fM q)] =
 (bif (decide (0 + (n + 1)≤1000000)) then some (.ow 134 5 (.fo (n + 1) (fM q)),[])
 else none):=by kernel_rfl
theorem kJF (n:Nat) (q:Nat→Ms) (_:n + 1≤70):zG Tryz.prog 85 [.lf (n + 1) (fM q)] (.ow 134 5 (.fo (n + 1) (fM q))):=by
 refine zK (N:=60) (LO:=qK (jQB n q)) jV yQ (kQ (l:=[]) (m:=[]) trivial trivial) (fun p S hp => ?_) ?_
 ·refine zQ (L:=qY Tf 85) (l:=(jQB n q)) (show AllP _ (jQB n q) from trivial) p S hp
 ·refine (xKV n q).trans ?_;simp only [vJQ (show n + 1≤1000000 by omega),vJQ (show n + 1≤8796093022208 by omega),vJQ (show 0 + (n + 1)≤1000000 by omega),vYV]
  all_goals rfl
theorem kJA (n:Nat) (q:Nat→Ms) (hn:1≤n∧n≤70):zG Tryz.prog 85 [.lf n (fM q)] (.ow 134 5 (.fo n (fM q))):=by
 obtain ⟨h1,h2⟩:=hn;obtain ⟨m,rfl⟩:∃ m,n=m + 1:=⟨n - 1,by omega⟩
 exact kJF m q h2
theorem kJW (n:Nat) (q:Nat→Ms) (hn:n≤70):zG Tryz.prog 85 [.lf n (fM q)] (.v (.lf n (fM q))):=by
 rcases Nat.eq_zero_or_pos n with rfl | h
 ·exact zHQ (ps:=[.l []]) (x:=.l []) ⟨Same.l rfl,trivial⟩ (Same.lf rfl) cl0m
 ·exact qXB (kJA n q ⟨h,hn⟩)
def ccvm:Nat × (Nat→Ms)→Prop:=fun t=>match t with | (n,_)=>n≤70
def ecvm:Nat × (Nat→Ms)→List PV:=fun t=>match t with | (n,q)=>[.lf n (fM q)]
noncomputable def rcvm:Nat × (Nat→Ms)→Ret:=fun t=>match t with | (n,q)=>.v (.lf n (fM q))
def dcvm:List PV→Nat × (Nat→Ms):=fun ps=>match ps with
 | [.lf n f]=>(n,unFM f)
 | _=>(0,fun _=>⟨0,0,⟨0,0,0⟩⟩)
noncomputable def uVF:List PV→Option (Bool × Ret):=o_fm dcvm ccvm ecvm rcvm
theorem xWX:zZ Tryz.prog 85 uVF:=qQV fun t h=>by
 obtain ⟨n,q⟩:=t;exact kJW n q h
theorem cl0k:zG Tryz.prog 87 [.l []] (.v (.l [])):=zUQ (uH (N:=60) jQ yQ qJE (by kernel_rfl)) (zZK (e:=103) (sz:=2) (uH (N:=60) jQ yQ qJE (by kernel_rfl)))
noncomputable def xUK (n:Nat) (q:Nat→Skp):OrS:=orS [] []
noncomputable def jQC (n:Nat) (q:Nat→Skp):List (List Nat × yG):=[]
set_option maxRecDepth 100000 in
theorem xKG (n:Nat) (q:Nat→Skp):qQZ Tf (xUK n q) (qK (jQC n q)) 60 87 [.lf (n + 1) (fK q)] =
 (bif (decide (0 + (n + 1)≤1000000)) then some (.ow 103 2 (.fo (n + 1) (fK q)),[])
 else none):=by kernel_rfl
theorem kJI (n:Nat) (q:Nat→Skp) (_:n + 1≤70):zG Tryz.prog 87 [.lf (n + 1) (fK q)] (.ow 103 2 (.fo (n + 1) (fK q))):=by
 refine zK (N:=60) (LO:=qK (jQC n q)) jV yQ (kQ (l:=[]) (m:=[]) trivial trivial) (fun p S hp => ?_) ?_
 ·refine zQ (L:=qY Tf 87) (l:=(jQC n q)) (show AllP _ (jQC n q) from trivial) p S hp
 ·refine (xKG n q).trans ?_;simp only [vJQ (show n + 1≤1000000 by omega),vJQ (show n + 1≤8796093022208 by omega),vJQ (show 0 + (n + 1)≤1000000 by omega),vYV]
  all_goals rfl
theorem kJB (n:Nat) (q:Nat→Skp) (hn:1≤n∧n≤70):zG Tryz.prog 87 [.lf n (fK q)] (.ow 103 2 (.fo n (fK q))):=by
 obtain ⟨h1,h2⟩:=hn;obtain ⟨m,rfl⟩:∃ m,n=m + 1:=⟨n - 1,by omega⟩
 exact kJI m q h2
theorem kJV (n:Nat) (q:Nat→Skp) (hn:n≤70):zG Tryz.prog 87 [.lf n (fK q)] (.v (.lf n (fK q))):=by
 rcases Nat.eq_zero_or_pos n with rfl | h
 ·exact zHQ (ps:=[.l []]) (x:=.l []) ⟨Same.l rfl,trivial⟩ (Same.lf rfl) cl0k
 ·exact qXB (kJB n q ⟨h,hn⟩)
def ccvk:Nat × (Nat→Skp)→Prop:=fun t=>match t with | (n,_)=>n≤70
def ecvk:Nat × (Nat→Skp)→List PV:=fun t=>match t with | (n,q)=>[.lf n (fK q)]
noncomputable def rcvk:Nat × (Nat→Skp)→Ret:=fun t=>match t with | (n,q)=>.v (.lf n (fK q))
def dcvk:List PV→Nat × (Nat→Skp):=fun ps=>match ps with
 | [.lf n f]=>(n,unFK f)
 | _=>(0,fun _=>⟨0,0⟩)
noncomputable def uVI:List PV→Option (Bool × Ret):=o_fm dcvk ccvk ecvk rcvk
theorem xWW:zZ Tryz.prog 87 uVI:=qQV fun t h=>by
 obtain ⟨n,q⟩:=t;exact kJV n q h
noncomputable def orCa (_:Wsp) (k:Nat) (q:Nat→Int):OrS:=orS [(19,o_gk),(34,o_vl),(86,o_pl),(84,uVL),(85,uVF),(87,uVI)] []
def lkS (l:Int) (s:Shp):Shp:=⟨l,s.rad,s.np,s.pts⟩
def qGZ (g:Nat→Shp) (r:Nat) (s:Shp):Nat→Shp:=fun v=>bif Nat.beq v r then s else g v
theorem uWZ (g:Nat→Shp) (r:Nat) (s:Shp):(fun v=>qZV (Nat.beq v r) (sP s) (fS g v))=fS (qGZ g r s):=by
 funext v;rw [qQE];show _=sP (bif Nat.beq v r then s else g v);cases Nat.beq v r <;> rfl
def addN (l:Int) (hs:Nat→Shp) (n:Nat) (t:Nat × (Nat→Shp)):Nat × (Nat→Shp):=qQX (fun (j:Nat) (t:Nat × (Nat→Shp))=>(t.1 + 1,qGZ t.2 t.1 (lkS l (hs j)))) n 0 t
theorem jHW {τ:Type} {nx:Nat→τ→τ} {len:τ→Nat} (h:∀ j t,len (nx j t)=len t + 1):∀ n p t,len (qQX nx n p t)=len t + n
 | 0,p,t=>rfl
 | n + 1,p,t=>by rw [qQX,jHW h n (p + 1),h]; omega
theorem uYV (l:Int) (hs:Nat→Shp) (n:Nat) (t:Nat × (Nat→Shp)):(addN l hs n t).1=t.1 + n:=jHW (len:=fun (t:Nat × (Nat→Shp))=>t.1) (fun j t=>rfl) n 0 t
noncomputable def hCb (ws:Wsp) (k:Nat) (q:Nat→Int) (i:Int) (l:Int) (n:Nat) (hs:Nat→Shp) (j:Int) (r:Nat) (f:Nat→List PV):St:=⟨[(2,.p 2 0),(3,.p 3 0),(4,.p 4 0),(7,.p 7 0),(10,.v (.n .i64 l)),(48,.v (.lf ws.no (fO ws.ob))),(49,.v (.n .i64 (ws.no:Int))),(50,.v (.n .i64 i)),(85,.v (.lf n (fS hs))),(86,.v (.n .i64 (n:Int))),(87,.v (.n .i64 j))],[(2,.blk [.v (.lf ws.n (fJ ws.js)),.v (.lf ws.m (fM ws.ms)),.v (.lf ws.c (fS ws.sh)),.v (.lf ws.d (fK ws.sk)),.v (.lf ws.no (fO ws.ob)),.v (.lf ws.np (fZ ws.pl)),.v (.lf ws.nh (fH ws.hd)),.v (.lf ws.ng (fG ws.gr)),.v (.n .i64 ws.slack)]),(3,.blk [.v (.lf k (fQ q))]),(4,.blk [.nl,.nl,.nl,.nl]),(7,.blk [.v (.lf ws.n (fJ ws.js)),.v (.lf ws.m (fM ws.ms)),.o 41,.v (.lf ws.d (fK ws.sk))]),(41,.reg 94 3 (.fo r f))]⟩
set_option maxRecDepth 100000 in
theorem rdCb (G:St→Option (Ret × Mem)) (K:Cont) (ws:Wsp) (k:Nat) (q:Nat→Int) (i:Int) (l:Int) (n:Nat) (hs:Nat→Shp) (j:Int) (r:Nat) (f:Nat→List PV):stpT Tf 36 (orCa ws k q) 60 [] [0,1,1,1,1,0,0,1,1,0,0,1,0,1,1,1,1] K G (hCb ws k q i l n hs j r f) =
 (bif (decide (j < (n:Int))) then (bif (inB j n) then (bif (decide (r + 1≤1000000)) then (G (hCb ws k q i l n hs (vJJ .i64 (j + 1)) (r + 1) (fun v=>qZV (Nat.beq v r) [.n .i64 l,.n .i64 (hs (j).toNat).rad,.lf (hs (j).toNat).np (fZ (hs (j).toNat).pts)] (f v))))
 else none)
 else none)
 else (K (.exit 2) ⟨[(2,.p 2 0),(3,.p 3 0),(4,.p 4 0),(7,.p 7 0),(48,.v (.lf ws.no (fO ws.ob))),(49,.v (.n .i64 (ws.no:Int))),(50,.v (.n .i64 i))],[(2,.blk [.v (.lf ws.n (fJ ws.js)),.v (.lf ws.m (fM ws.ms)),.v (.lf ws.c (fS ws.sh)),.v (.lf ws.d (fK ws.sk)),.v (.lf ws.no (fO ws.ob)),.v (.lf ws.np (fZ ws.pl)),.v (.lf ws.nh (fH ws.hd)),.v (.lf ws.ng (fG ws.gr)),.v (.n .i64 ws.slack)]),(3,.blk [.v (.lf k (fQ q))]),(4,.blk [.nl,.nl,.nl,.nl]),(7,.blk [.v (.lf ws.n (fJ ws.js)),.v (.lf ws.m (fM ws.ms)),.o 41,.v (.lf ws.d (fK ws.sk))]),(41,.reg 94 3 (.fo r f))]⟩)):=by kernel_rfl
def slFS (σ:St) (k:Nat):Nat→Shp:=match qQB σ.S k with
 | some (.v (.lf _ f))=>unFS f
 | _=>fun _=>⟨0,0,0,fun _=>⟨0,0,0⟩⟩
theorem lpCb (K:Cont) (ws:Wsp) (k:Nat) (q:Nat→Int) (i l:Int) (n:Nat) (hs:Nat→Shp) (r:Nat) (g:Nat→Shp) (_:n≤50) (_:r≤900000):LFT Tf 36 (orCa ws k q) 60 [] [0,1,1,1,1,0,0,1,1,0,0,1,0,1,1,1,1] K 60 (hCb ws k q i l n hs 0 r (fS g))=(K (.exit 2) ⟨[(2,.p 2 0),(3,.p 3 0),(4,.p 4 0),(7,.p 7 0),(48,.v (.lf ws.no (fO ws.ob))),(49,.v (.n .i64 (ws.no:Int))),(50,.v (.n .i64 i))],[(2,.blk [.v (.lf ws.n (fJ ws.js)),.v (.lf ws.m (fM ws.ms)),.v (.lf ws.c (fS ws.sh)),.v (.lf ws.d (fK ws.sk)),.v (.lf ws.no (fO ws.ob)),.v (.lf ws.np (fZ ws.pl)),.v (.lf ws.nh (fH ws.hd)),.v (.lf ws.ng (fG ws.gr)),.v (.n .i64 ws.slack)]),(3,.blk [.v (.lf k (fQ q))]),(4,.blk [.nl,.nl,.nl,.nl]),(7,.blk [.v (.lf ws.n (fJ ws.js)),.v (.lf ws.m (fM ws.ms)),.o 41,.v (.lf ws.d (fK ws.sk))]),(41,.reg 94 3 (.fo (addN l hs n (r,g)).1 (fS (addN l hs n (r,g)).2)))]⟩):=by
 refine (kV (L:=LFT Tf 36 (orCa ws k q) 60 [] [0,1,1,1,1,0,0,1,1,0,0,1,0,1,1,1,1] K) (stp:=stpT Tf 36 (orCa ws k q) 60 [] [0,1,1,1,1,0,0,1,1,0,0,1,0,1,1,1,1] K) (fun _ _=>rfl) (fun (j:Nat) (t:Nat × (Nat→Shp))=>(hCb ws k q i l n hs (j:Int) t.1 (fS t.2))) (fun j t=>t.1=r + j) (fun _ _=>true) (fun (j:Nat) (t:Nat × (Nat→Shp))=>(t.1 + 1,qGZ t.2 t.1 (lkS l (hs j)))) (c:=n) (fun t=>(K (.exit 2) ⟨[(2,.p 2 0),(3,.p 3 0),(4,.p 4 0),(7,.p 7 0),(48,.v (.lf ws.no (fO ws.ob))),(49,.v (.n .i64 (ws.no:Int))),(50,.v (.n .i64 i))],[(2,.blk [.v (.lf ws.n (fJ ws.js)),.v (.lf ws.m (fM ws.ms)),.v (.lf ws.c (fS ws.sh)),.v (.lf ws.d (fK ws.sk)),.v (.lf ws.no (fO ws.ob)),.v (.lf ws.np (fZ ws.pl)),.v (.lf ws.nh (fH ws.hd)),.v (.lf ws.ng (fG ws.gr)),.v (.n .i64 ws.slack)]),(3,.blk [.v (.lf k (fQ q))]),(4,.blk [.nl,.nl,.nl,.nl]),(7,.blk [.v (.lf ws.n (fJ ws.js)),.v (.lf ws.m (fM ws.ms)),.o 41,.v (.lf ws.d (fK ws.sk))]),(41,.reg 94 3 (.fo t.1 (fS t.2)))]⟩)) (fun _ _=>none) (fun G j t hj hv => ?_) (fun j t hj hv _ => ?_) (fun G t hv => ?_) n 0 60 (r,g) (by omega) (by omega) rfl).trans (qZH n 0 _)
 ·refine (rdCb G K ws k q i l n hs j t.1 (fS t.2)).trans ?_;simp only [vJQ (show (j:Int) < (n:Int) by omega),kK (show j < 1000000 by omega),yU hj,toN,vJQ (show t.1 + 1≤1000000 by omega),vYV];exact congrArg (fun f=>G (hCb ws k q i l n hs ((j + 1:Nat):Int) (t.1 + 1) f)) (uWZ t.2 t.1 (lkS l (hs j)))
 ·show t.1 + 1=r + (j + 1);omega
 ·refine (rdCb G K ws k q i l n hs n t.1 (fS t.2)).trans ?_;rw [vYH (show ¬ (n:Int) < (n:Int) by omega)];rfl
noncomputable def liCb (ws:Wsp) (k:Nat) (q:Nat→Int):List (List Nat × yG):=[([0,1,1,1,1,0,0,1,1,0,0,1,0,1,1,1,1],sumF (fun t:Int × Int × Nat × (Nat→Shp) × Nat × (Nat→Shp)=>(hCb ws k q t.1 t.2.1 t.2.2.1 t.2.2.2.1 0 t.2.2.2.2.1 (fS t.2.2.2.2.2))) (fun σ=>(slI σ 50,slI σ 10,lfN σ 85,slFS σ 85,rgN σ 41,unFS (rgF σ 41))) (fun t K=>(bif (decide (t.2.2.1≤50∧t.2.2.2.2.1≤900000)) then (K (.exit 2) ⟨[(2,.p 2 0),(3,.p 3 0),(4,.p 4 0),(7,.p 7 0),(48,.v (.lf ws.no (fO ws.ob))),(49,.v (.n .i64 (ws.no:Int))),(50,.v (.n .i64 t.1))],[(2,.blk [.v (.lf ws.n (fJ ws.js)),.v (.lf ws.m (fM ws.ms)),.v (.lf ws.c (fS ws.sh)),.v (.lf ws.d (fK ws.sk)),.v (.lf ws.no (fO ws.ob)),.v (.lf ws.np (fZ ws.pl)),.v (.lf ws.nh (fH ws.hd)),.v (.lf ws.ng (fG ws.gr)),.v (.n .i64 ws.slack)]),(3,.blk [.v (.lf k (fQ q))]),(4,.blk [.nl,.nl,.nl,.nl]),(7,.blk [.v (.lf ws.n (fJ ws.js)),.v (.lf ws.m (fM ws.ms)),.o 41,.v (.lf ws.d (fK ws.sk))]),(41,.reg 94 3 (.fo (addN t.2.1 t.2.2.2.1 t.2.2.1 (t.2.2.2.2.1,t.2.2.2.2.2)).1 (fS (addN t.2.1 t.2.2.2.1 t.2.2.1 (t.2.2.2.2.1,t.2.2.2.2.2)).2)))]⟩) else none)))]
theorem okCb (ws:Wsp) (k:Nat) (q:Nat→Int):∀ p S,qK (liCb ws k q) p=some S→uX 60 (cxS Tf (orCa ws k q) 60 36 (ntmF Tf 36)) (qY Tf 36 p) S:=fun p S hp=>by
 refine zQ (L:=qY Tf 36) (l:=(liCb ws k q)) (show AllP _ (liCb ws k q) from ⟨?_,trivial⟩) p S hp;dsimp only;refine jK (T:=Tf) (o:=(orCa ws k q)) (f:=36) (LO:=qK []) (p:=[0,1,1,1,1,0,0,1,1,0,0,1,0,1,1,1,1]) kU ?_;intro t K r hr;obtain ⟨hg,hr⟩:=qQ hr
 skip
 exact (lpCb K ws k q t.1 t.2.1 t.2.2.1 t.2.2.2.1 t.2.2.2.2.1 t.2.2.2.2.2 (vJZ hg).1 (vJZ hg).2).trans hr
noncomputable def hCa (ws:Wsp) (k:Nat) (q:Nat→Int) (i:Int) (r:Nat) (g:Nat→Shp):St:=⟨[(2,.p 2 0),(3,.p 3 0),(4,.p 4 0),(7,.p 7 0),(48,.v (.lf ws.no (fO ws.ob))),(49,.v (.n .i64 (ws.no:Int))),(50,.v (.n .i64 i))],[(2,.blk [.v (.lf ws.n (fJ ws.js)),.v (.lf ws.m (fM ws.ms)),.v (.lf ws.c (fS ws.sh)),.v (.lf ws.d (fK ws.sk)),.v (.lf ws.no (fO ws.ob)),.v (.lf ws.np (fZ ws.pl)),.v (.lf ws.nh (fH ws.hd)),.v (.lf ws.ng (fG ws.gr)),.v (.n .i64 ws.slack)]),(3,.blk [.v (.lf k (fQ q))]),(4,.blk [.nl,.nl,.nl,.nl]),(7,.blk [.v (.lf ws.n (fJ ws.js)),.v (.lf ws.m (fM ws.ms)),.o 41,.v (.lf ws.d (fK ws.sk))]),(41,.reg 94 3 (.fo r (fS g)))]⟩
set_option maxRecDepth 100000 in
theorem rdCa (G:St→Option (Ret × Mem)) (K:Cont) (ws:Wsp) (k:Nat) (q:Nat→Int) (i:Int) (r:Nat) (g:Nat→Shp):stpT Tf 36 (orCa ws k q) 60 (liCb ws k q) [0,1,0,1,1,1,1] K G (hCa ws k q i r g) =
 (bif (decide (i < (ws.no:Int))) then (bif (inB i ws.no) then (bif (inB i k) then (bif (decide (0≤(q (i).toNat))) then (bif (inB (q (i).toNat) ws.np) then (bif (gF1 cpl epl (((ws.ob (i).toNat).ns),((ws.ob (i).toNat).shs),(ws.pl ((q (i).toNat)).toNat))) then (bif (gSt (hCb ws k q i (-1) ((ws.ob (i).toNat).ns) (fun v=>(sftL (ws.pl ((q (i).toNat)).toNat) (((ws.ob (i).toNat).shs) v))) 0 r (fS g)) (hCb ws k q i (-1) ((ws.ob (i).toNat).ns) (fun v=>(sftL (ws.pl ((q (i).toNat)).toNat) (((ws.ob (i).toNat).shs) v))) 0 r (fS g))) then (bif (decide (((ws.ob (i).toNat).ns)≤50∧r≤900000)) then (G (hCa ws k q (vJJ .i64 (i + 1)) (addN (-1) (fun v=>(sftL (ws.pl ((q (i).toNat)).toNat) (((ws.ob (i).toNat).shs) v))) ((ws.ob (i).toNat).ns) (r,g)).1 ((addN (-1) (fun v=>(sftL (ws.pl ((q (i).toNat)).toNat) (((ws.ob (i).toNat).shs) v))) ((ws.ob (i).toNat).ns) (r,g)).2)))
 else none)
 else none)
 else none)
 else none)
 else (bif (inB (vJJ .i64 ((-1) - (q (i).toNat))) ws.nh) then (bif (inB (vJJ .i64 ((-1) - (q (i).toNat))) ws.nh) then (bif (gF1 cpl epl (((ws.ob (i).toNat).ns),((ws.ob (i).toNat).shs),((ws.hd ((vJJ .i64 ((-1) - (q (i).toNat)))).toNat).off))) then (bif (gSt (hCb ws k q i ((ws.hd ((vJJ .i64 ((-1) - (q (i).toNat)))).toNat).link) ((ws.ob (i).toNat).ns) (fun v=>(sftL ((ws.hd ((vJJ .i64 ((-1) - (q (i).toNat)))).toNat).off) (((ws.ob (i).toNat).shs) v))) 0 r (fS g)) (hCb ws k q i ((ws.hd ((vJJ .i64 ((-1) - (q (i).toNat)))).toNat).link) ((ws.ob (i).toNat).ns) (fun v=>(sftL ((ws.hd ((vJJ .i64 ((-1) - (q (i).toNat)))).toNat).off) (((ws.ob (i).toNat).shs) v))) 0 r (fS g))) then (bif (decide (((ws.ob (i).toNat).ns)≤50∧r≤900000)) then (G (hCa ws k q (vJJ .i64 (i + 1)) (addN ((ws.hd ((vJJ .i64 ((-1) - (q (i).toNat)))).toNat).link) (fun v=>(sftL ((ws.hd ((vJJ .i64 ((-1) - (q (i).toNat)))).toNat).off) (((ws.ob (i).toNat).shs) v))) ((ws.ob (i).toNat).ns) (r,g)).1 ((addN ((ws.hd ((vJJ .i64 ((-1) - (q (i).toNat)))).toNat).link) (fun v=>(sftL ((ws.hd ((vJJ .i64 ((-1) - (q (i).toNat)))).toNat).off) (((ws.ob (i).toNat).shs) v))) ((ws.ob (i).toNat).ns) (r,g)).2)))
 else none)
 else none)
 else none)
 else none)
 else none))
 else none)
 else none)
 else (K (.exit 0) ⟨[(4,.p 4 0),(7,.p 7 0)],[(4,.blk [.nl,.nl,.nl,.nl]),(7,.blk [.v (.lf ws.n (fJ ws.js)),.v (.lf ws.m (fM ws.ms)),.o 41,.v (.lf ws.d (fK ws.sk))]),(41,.reg 94 3 (.fo r (fS g)))]⟩)):=by kernel_rfl
def scN (ws:Wsp) (q:Nat→Int) (i:Nat) (t:Nat × (Nat→Shp)):Nat × (Nat→Shp):=bif decide (0≤q i) then addN (-1) (fun v=>(sftL (ws.pl (q i).toNat) ((ws.ob i).shs v))) (ws.ob i).ns t else addN (ws.hd (vJJ .i64 ((-1) - (q i))).toNat).link (fun v=>(sftL (ws.hd (vJJ .i64 ((-1) - (q i))).toNat).off ((ws.ob i).shs v))) (ws.ob i).ns t
def scS (ws:Wsp) (q:Nat→Int) (t:Nat × (Nat→Shp)):Nat × (Nat→Shp):=qQX (scN ws q) ws.no 0 t
def sumN (f:Nat→Nat):Nat→Nat
 | 0=>0
 | i + 1=>sumN f i + f i
theorem uYE (f:Nat→Nat) {i n:Nat} (_:i < n):f i≤sumN f n:=by
 induction n with
 | zero=>omega
 | succ n ih =>
  unfold sumN;by_cases e:i=n
  ·subst e; omega
  ·have:=ih (by omega); omega
theorem jUU (f:Nat→Nat) (b:Nat):∀ n,(∀ i,i < n→f i≤b)→sumN f n≤n * b
 | 0,_=>Nat.zero_le _
 | n + 1,h=>by
  have h1:=jUU f b n fun i hi=>h i (by omega)
  have h2:=h n (by omega);unfold sumN;rw [Nat.add_mul]; omega
theorem yGJ {ws:Wsp} (ho:okW ws) (hc:ws.c≤24) (hn:ws.no≤6):∀ i,i≤ws.no→cntF ws i=((ws.c + sumN (fun j=>(ws.ob j).ns) i:Nat):Int)
 | 0,_=>rfl
 | i + 1,hi=>by
  have ih:=yGJ ho hc hn i (by omega);have hb:=jUU (fun j=>(ws.ob j).ns) 8796093021952 i fun j hj=>ho j (by omega)
  have h1:=ho i (by omega);have hi2:i * 8796093021952≤6 * 8796093021952:=Nat.mul_le_mul_right _ (by omega);show vJJ .i64 (cntF ws i + ((ws.ob i).ns:Int))=_;rw [ih];show _=((ws.c + (sumN (fun j=>(ws.ob j).ns) i + (ws.ob i).ns):Nat):Int);have hb':sumN (fun j=>(ws.ob j).ns) i≤i * 8796093021952:=hb;rw [qX (by omega)];omega
theorem kWQ {ws:Wsp} (h:wErr ws=0) (ho:okW ws):ws.c + sumN (fun j=>(ws.ob j).ns) ws.no≤24∧∀ i,i < ws.no→((1≤(ws.ob i).ns∧(ws.ob i).ns≤24)∧∀ v,v < (ws.ob i).ns→sOk ((ws.ob i).shs v)=true):=by
 obtain ⟨h1,h2,h3,h4⟩:=qUK h;have hc:=(qKK h1).2.1;have hn:=(jKW h2).1;rw [yGJ ho hc hn ws.no (Nat.le_refl _)] at h4;refine ⟨by omega,fun i hi => ?_⟩;have h5:=uYE (fun j=>(ws.ob j).ns) hi;have h6:=allN_iff.1 h3 i (Nat.zero_le _) (by omega);unfold obG soOk at h6;simp only [vQJ,decide_eq_true_eq] at h6;refine ⟨⟨by omega,by have h7:(ws.ob i).ns≤sumN (fun j=>(ws.ob j).ns) ws.no:=h5; omega⟩,fun v hv=>allN_iff.1 h6.2.2.1 v (Nat.zero_le _) (by omega)⟩
theorem yHJ {s:Shp} (h:sOk s=true):shOk s=true∧s.link=0∧∀ v,v < s.np→zOk 2097152 (s.pts v)=true:=by
 unfold sOk at h;simp only [vQJ,decide_eq_true_eq] at h;exact ⟨h.1,h.2.1,fun v hv=>allN_iff.1 h.2.2 v (Nat.zero_le _) (by omega)⟩
theorem uYK {ws:Wsp} (h:wErr ws=0) (ho:okW ws) {i:Nat} (hi:i < ws.no) (b:Z3):cpl ((ws.ob i).ns,(ws.ob i).shs,b):=by
 obtain ⟨h1,h2⟩:=(kWQ h ho).2 i hi;exact ⟨by omega,fun v hv=>by have:=zUU (yHJ (h2 v hv)).1; omega⟩
theorem zKF {ws:Wsp} {k:Nat} {q:Nat→Int} (h:vlB ws k q=true):wErr ws=0∧k=ws.no∧∀ i,i < k → -(ws.nh:Int)≤q i∧q i < (ws.np:Int):=by
 unfold vlB at h;simp only [vQJ,decide_eq_true_eq] at h;obtain ⟨h1,h2,h3⟩:=h;have hn:=jKW (qUK h1).2.1;refine ⟨h1,by omega,fun i hi => ?_⟩;have h4:=allN_iff.1 h3 i (Nat.zero_le _) (by omega);unfold mdG inM at h4;simp only [vQJ,Bool.not_eq_true',decide_eq_false_iff_not] at h4;have e:vJJ .i64 (0 - (ws.nh:Int)) = -(ws.nh:Int):=by rw [qX (by omega)]; omega
 rw [e] at h4;omega
theorem xVL {x:Int} {n:Nat} (_: -(n:Int)≤x) (_:x < 0) (_:n≤3):vJJ .i64 ((-1) - x) = -1 - x∧inB (vJJ .i64 ((-1) - x)) n=true:=by
 have e:vJJ .i64 ((-1) - x) = -1 - x:=qX (by omega);exact ⟨e,by rw [e]; exact zQK (by omega)⟩
theorem xYI (ws:Wsp) (q:Nat→Int) (i:Nat) (t:Nat × (Nat→Shp)):(scN ws q i t).1=t.1 + (ws.ob i).ns:=by
 unfold scN;cases decide (0≤q i) with
 | true=>exact uYV _ _ _ t
 | false=>exact uYV _ _ _ t
theorem lpCa (K:Cont) (ws:Wsp) (k:Nat) (q:Nat→Int) (r:Nat) (g:Nat→Shp) (ho:okW ws) (hv:vlB ws k q=true) (_:r≤100):LFT Tf 36 (orCa ws k q) 60 (liCb ws k q) [0,1,0,1,1,1,1] K 60 (hCa ws k q 0 r g)=(K (.exit 0) ⟨[(4,.p 4 0),(7,.p 7 0)],[(4,.blk [.nl,.nl,.nl,.nl]),(7,.blk [.v (.lf ws.n (fJ ws.js)),.v (.lf ws.m (fM ws.ms)),.o 41,.v (.lf ws.d (fK ws.sk))]),(41,.reg 94 3 (.fo (scS ws q (r,g)).1 (fS (scS ws q (r,g)).2)))]⟩):=by
 obtain ⟨w0,hk,hq⟩:=zKF hv;have hnb:=jKW (qUK w0).2.1;refine (kV (L:=LFT Tf 36 (orCa ws k q) 60 (liCb ws k q) [0,1,0,1,1,1,1] K) (stp:=stpT Tf 36 (orCa ws k q) 60 (liCb ws k q) [0,1,0,1,1,1,1] K) (fun _ _=>rfl) (fun (i:Nat) (t:Nat × (Nat→Shp))=>hCa ws k q (i:Int) t.1 t.2) (fun i t=>t.1≤100 + 24 * i) (fun _ _=>true) (scN ws q) (c:=ws.no) (fun t=>(K (.exit 0) ⟨[(4,.p 4 0),(7,.p 7 0)],[(4,.blk [.nl,.nl,.nl,.nl]),(7,.blk [.v (.lf ws.n (fJ ws.js)),.v (.lf ws.m (fM ws.ms)),.o 41,.v (.lf ws.d (fK ws.sk))]),(41,.reg 94 3 (.fo t.1 (fS t.2)))]⟩)) (fun _ _=>none) (fun G i t hi hiv => ?_) (fun i t hi hiv _ => ?_) (fun G t hiv => ?_) ws.no 0 60 (r,g) (by omega) (by omega) (by show r≤_; omega)).trans (qZH ws.no 0 _)
 ·refine (rdCa G K ws k q i t.1 t.2).trans ?_;have h1:=(kWQ w0 ho).2 i hi;have h2:=hq i (by omega);simp only [vJQ (show (i:Int) < (ws.no:Int) by omega),kK (show i < 1000000 by omega),yU hi,yU (show i < k by omega),toN,vYV];unfold scN;by_cases h0:0≤q i
  ·simp only [vJQ h0,vYV,zQK (show 0≤q i∧q i < (ws.np:Int) from ⟨h0,h2.2⟩),jX (C:=cpl) (t:=((ws.ob i).ns,(ws.ob i).shs,ws.pl (q i).toNat)) (uYK w0 ho hi _),yJ,vJQ (show (ws.ob i).ns≤50∧t.1≤900000 by omega)]
  ·obtain ⟨e1,e2⟩:=xVL h2.1 (show q i < 0 by omega) hnb.2.2.1;simp only [vYH h0,vYV,vYG,e2,jX (C:=cpl) (t:=((ws.ob i).ns,(ws.ob i).shs,(ws.hd (vJJ .i64 ((-1) - (q i))).toNat).off)) (uYK w0 ho hi _),yJ,vJQ (show (ws.ob i).ns≤50∧t.1≤900000 by omega)]
 ·rw [xYI];have h1:=(kWQ w0 ho).2 i hi;omega
 ·refine (rdCa G K ws k q ws.no t.1 t.2).trans ?_;rw [vYH (show ¬ (ws.no:Int) < (ws.no:Int) by omega)];rfl
theorem xJK {js:Nat→J} {ms:Nat→Ms} {n m:Nat} (h:rErr js ms n m=0):m≤32:=by
 unfold rErr at h;obtain ⟨_,h⟩:=bz h (by decide);obtain ⟨_,h⟩:=bz h (by decide);by_cases h1:jE js n n 0=0
 ·rw [vJQ h1,vYV] at h;obtain ⟨h2,_⟩:=bz h (by decide)
  have:=vJY h2
  omega
 ·rw [vYH h1,vYG] at h; exact absurd h h1
theorem xYL {js:Nat→J} {ms:Nat→Ms} {sh:Nat→Shp} {sk:Nat→Skp} {n m c d:Nat} (h:sErr js ms sh sk n m c d=0):d≤64:=by
 have hs:=qKK h;unfold sErr at h;rw [vJQ hs.1,vYV,vYH (show ¬ 24 < (c:Int) by have:=hs.2.1; omega),vYG,show shG sh n c=true from allN_iff.2 fun j _ hj=>vJQ (hs.2.2 j (by omega)),vYV] at h;obtain ⟨h2,_⟩:=bz h (by decide)
 have:=vJY h2
 omega
noncomputable def jQY (ws:Wsp) (k:Nat) (q:Nat→Int):List (List Nat × yG):=[([0,1,0,1,1,1,1],sumF (fun _:Unit=>(hCa ws k q 0 ws.c (fun v=>(sftL (Z3.mk 0 0 0) (ws.sh v))))) (fun _=>()) (fun _ K=>(bif gP (okW ws∧vlB ws k q=true∧ws.c≤100) then (K (.exit 0) ⟨[(4,.p 4 0),(7,.p 7 0)],[(4,.blk [.nl,.nl,.nl,.nl]),(7,.blk [.v (.lf ws.n (fJ ws.js)),.v (.lf ws.m (fM ws.ms)),.o 41,.v (.lf ws.d (fK ws.sk))]),(41,.reg 94 3 (.fo (scS ws q (ws.c,(fun v=>(sftL (Z3.mk 0 0 0) (ws.sh v))))).1 (fS (scS ws q (ws.c,(fun v=>(sftL (Z3.mk 0 0 0) (ws.sh v))))).2)))]⟩) else none)))]
set_option maxRecDepth 100000 in
theorem xJI (ws:Wsp) (k:Nat) (q:Nat→Int):qQZ Tf (orCa ws k q) (qK (jQY ws k q)) 60 36 [.a (wP ws),.a [.lf k (fQ q)]] =
 (bif (gF1 cgk egk ws) then (bif (!decide ((wErr ws)=0)) then some (.v (.t [.a [.l [],.l [],.l [],.l []],.n .i64 (wErr ws)]),[])
 else (bif (gF1 cvl evl (ws,k,q)) then (bif (vlB ws k q) then (bif (gF1 ccvj ecvj (ws.n,ws.js)) then (bif (gF1 ccvm ecvm (ws.m,ws.ms)) then (bif (gF1 cpl epl (ws.c,ws.sh,(Z3.mk 0 0 0))) then (bif (gF1 ccvk ecvk (ws.d,ws.sk)) then (bif (gSt (hCa ws k q 0 ws.c (fun v=>(sftL (Z3.mk 0 0 0) (ws.sh v)))) (hCa ws k q 0 ws.c (fun v=>(sftL (Z3.mk 0 0 0) (ws.sh v))))) then (bif gP (okW ws∧vlB ws k q=true∧ws.c≤100) then some (.v (.t [.a [.lf ws.n (fJ ws.js),.lf ws.m (fM ws.ms),.lf (scS ws q (ws.c,(fun v=>(sftL (Z3.mk 0 0 0) (ws.sh v))))).1 (fS ((scS ws q (ws.c,(fun v=>(sftL (Z3.mk 0 0 0) (ws.sh v))))).2)),.lf ws.d (fK ws.sk)],.n .i64 0]),[])
 else none)
 else none)
 else none)
 else none)
 else none)
 else none)
 else some (.v (.t [.a [.l [],.l [],.l [],.l []],.n .i64 3403]),[]))
 else none))
 else none):=by kernel_rfl
theorem kYB (ws:Wsp) (k:Nat) (q:Nat→Int) (ho:okW ws):zG Tryz.prog 36 [.a (wP ws),.a [.lf k (fQ q)]] (.v (bif decide (wErr ws=0) then (bif vlB ws k q then .t [.a [.lf ws.n (fJ ws.js),.lf ws.m (fM ws.ms),.lf (scS ws q (ws.c,(fun v=>(sftL (Z3.mk 0 0 0) (ws.sh v))))).1 (fS (scS ws q (ws.c,(fun v=>(sftL (Z3.mk 0 0 0) (ws.sh v))))).2),.lf ws.d (fK ws.sk)],.n .i64 0] else .t [.a [.l [],.l [],.l [],.l []],.n .i64 3403]) else .t [.a [.l [],.l [],.l [],.l []],.n .i64 (wErr ws)])):=by
 refine zK (N:=60) (LO:=qK (jQY ws k q)) jV yQ (kQ (l:=[(19,o_gk),(34,o_vl),(86,o_pl),(84,uVL),(85,uVF),(87,uVI)]) (m:=[]) ⟨uVK,xUG,fUJ,xWV,xWX,xWW,trivial⟩ trivial) (fun p S hp => ?_) ?_
 ·refine zQ (L:=qY Tf 36) (l:=(jQY ws k q)) (show AllP _ (jQY ws k q) from ⟨?_,trivial⟩) p S hp
  ·dsimp only;refine jK (T:=Tf) (o:=(orCa ws k q)) (f:=36) (LO:=(qK (liCb ws k q))) (p:=[0,1,0,1,1,1,1]) (okCb ws k q) ?_;intro t K r hr;obtain ⟨hg,hr⟩:=qQ hr
   skip
   exact (lpCa K ws k q ws.c (fun v=>(sftL (Z3.mk 0 0 0) (ws.sh v))) (jH hg).1 (jH hg).2.1 (jH hg).2.2).trans hr
 ·refine (xJI ws k q).trans ?_;rw [jX (C:=cgk) (t:=ws) ho];by_cases h0:wErr ws=0
  ·rw [vJQ h0,jX (C:=cvl) (t:=(ws,k,q)) ho];cases hv:vlB ws k q with
   | false=>rfl
   | true =>
    obtain ⟨w1,w2,w3,w4⟩:=qUK h0;obtain ⟨s1,s2,s3⟩:=qKK w1;have hn:=qHA s1;have hm:=xJK s1;have hd:=xYL w1;have hP:gP (okW ws∧True∧ws.c≤100)=true:=qXJ ⟨ho,trivial,by omega⟩;simp only [jX (C:=ccvj) (t:=(ws.n,ws.js)) (show ws.n≤70 by omega),jX (C:=ccvm) (t:=(ws.m,ws.ms)) (show ws.m≤70 by omega),jX (C:=ccvk) (t:=(ws.d,ws.sk)) (show ws.d≤70 by omega),jX (C:=cpl) (t:=(ws.c,ws.sh,Z3.mk 0 0 0)) (show cpl (ws.c,ws.sh,Z3.mk 0 0 0) from ⟨by omega,fun i hi=>by have:=zUU (qHY (s3 i hi)).2; omega⟩),yJ,hP,vYV,vYG,Bool.not_true]
    all_goals rfl
  ·rw [vYH h0]; rfl
end Go.Proofs.YtmeldddgjfocdaaGreat.Hi
namespace Go.Proofs.YtmeldddgjfocdaaGreat.Hj
open Go.Rx Rt Go.Sx Go.RowKit Od Na Nb Nc Nx Nf Nl Nm Ga Gb Gc Gd Ge Gf Gg Ha Hb Hc Hd He Hf Hg Hh Hi
theorem uGV {τ:Type} {R:τ→τ→Prop} {nx:Nat→τ→τ} (h:∀ i s s',R s s'→R (nx i s) (nx i s')):∀ n p s s',R s s'→R (qQX nx n p s) (qQX nx n p s')
 | 0,_,_,_,hr=>hr
 | n + 1,p,s,s',hr=>uGV h n (p + 1) _ _ (h p s s' hr)
def AgS (t t':Nat × (Nat→Shp)):Prop:=t.1=t'.1∧∀ v,v < t.1→t.2 v=t'.2 v
theorem uHU {r:Nat} {g g':Nat→Shp} (s:Shp) (h:∀ v,v < r→g v=g' v):∀ v,v < r + 1→qGZ g r s v=qGZ g' r s v:=fun v hv=>by
 unfold qGZ;by_cases e:v=r
 ·subst e; rw [show Nat.beq v v=true from Nat.beq_refl v]; rfl
 ·rw [qXK,vYH e]; exact h v (by omega)
theorem uYW (l:Int) (hs:Nat→Shp) (n:Nat) {t t':Nat × (Nat→Shp)} (h:AgS t t'):AgS (addN l hs n t) (addN l hs n t'):=uGV (R:=AgS) (fun j s s' hr=>⟨congrArg (· + 1) hr.1,(by
 intro v hv;have h2:=uHU (lkS l (hs j)) hr.2 v hv;show qGZ s.2 s.1 _ v=qGZ s'.2 s'.1 _ v;rw [← hr.1]; exact h2)⟩) n 0 t t' h
theorem fWH (ws:Wsp) (q:Nat→Int) {t t':Nat × (Nat→Shp)} (h:AgS t t'):AgS (scS ws q t) (scS ws q t'):=uGV (R:=AgS) (fun i s s' hr=>by
 unfold scN;cases decide (0≤q i) with
 | true=>exact uYW _ _ _ hr
 | false=>exact uYW _ _ _ hr) ws.no 0 t t' h
theorem kKX {s:Shp} (h:shOk s=true):sftL (Z3.mk 0 0 0) s=s:=by
 have hp:zUD s=true:=by
  unfold shOk at h;rw [vQJ] at h;exact h.2
 have e:sft (Z3.mk 0 0 0) s.np s.pts=s.pts:=by
  funext v;by_cases hv:v < s.np
  ·have hz:=allN_iff.1 hp v (Nat.zero_le _) (by omega);unfold zOk at hz;simp only [vQJ,Bool.not_eq_true',decide_eq_false_iff_not] at hz;have hb:Nat.blt v s.np=true:=by rw [Nat.blt_eq]; exact hv
   unfold sft;simp only [hb,vYV,Int.add_zero];rw [qX (by omega),qX (by omega),qX (by omega)]
  ·have hb:Nat.blt v s.np=false:=by rw [Bool.eq_false_iff,ne_eq,Nat.blt_eq]; exact hv
   unfold sft;simp only [hb,vYG]
 unfold sftL sftS;rw [e]
def scR (ws:Wsp) (q:Nat→Int):Nat × (Nat→Shp):=scS ws q (ws.c,ws.sh)
def scE (ws:Wsp) (k:Nat) (q:Nat→Int):Int:=bif decide (wErr ws=0) then (bif vlB ws k q then 0 else 3403) else wErr ws
theorem uUI {ws:Wsp} (h:wErr ws=0) (q:Nat→Int):AgS (scS ws q (ws.c,fun v=>sftL (Z3.mk 0 0 0) (ws.sh v))) (scR ws q):=fWH ws q ⟨rfl,fun v hv=>kKX (qHY ((qKK (qUK h).1).2.2 v hv)).2⟩
theorem uJH (ws:Wsp) (k:Nat) (q:Nat→Int) (ho:okW ws):zG Tryz.prog 36 [.a (wP ws),.a [.lf k (fQ q)]] (.v (.t [.a [.lf (bif vlB ws k q then ws.n else 0) (fJ ws.js),.lf (bif vlB ws k q then ws.m else 0) (fM ws.ms),.lf (bif vlB ws k q then (scR ws q).1 else 0) (fS (scR ws q).2),.lf (bif vlB ws k q then ws.d else 0) (fK ws.sk)],.n .i64 (scE ws k q)])):=by
 have h1:=kYB ws k q ho;unfold scE;by_cases h0:wErr ws=0
 ·rw [vJQ h0] at h1 ⊢;cases hv:vlB ws k q with
  | true =>
   rw [hv] at h1;have hs:=uUI h0 q;exact qQU (Same.t (xs:=[_,_]) ⟨Same.a (xs:=[_,_,_,_]) ⟨Same.refl _,Same.refl _,hs.1 ▸ zXB fun j hj=>congrArg sP (hs.2 j hj),Same.refl _,trivial⟩,Same.refl _,trivial⟩) h1
  | false =>
   rw [hv] at h1;exact qQU (Same.t (xs:=[_,_]) ⟨Same.a (xs:=[_,_,_,_]) ⟨Same.lf rfl,Same.lf rfl,Same.lf rfl,Same.lf rfl,trivial⟩,Same.refl _,trivial⟩) h1
 ·have hv:vlB ws k q=false:=by unfold vlB; rw [vYH h0]; rfl
  rw [vYH h0] at h1 ⊢;rw [hv];exact qQU (Same.t (xs:=[_,_]) ⟨Same.a (xs:=[_,_,_,_]) ⟨Same.lf rfl,Same.lf rfl,Same.lf rfl,Same.lf rfl,trivial⟩,Same.refl _,trivial⟩) h1
end Go.Proofs.YtmeldddgjfocdaaGreat.Hj
namespace Go.Proofs.YtmeldddgjfocdaaGreat.Hk
open Go.Rx Rt Go.Sx Go.RowKit Od Na Nb Nc Nx Nf Nl Nm Ga Gb Gc Gd Ge Gf Gg Ha Hb Hc Hd He Hf Hg Hh Hi Hj
theorem jHV {n:Nat} {l:Int} (h : -1≤l∧l < (n:Int)):isLk n l=true:=by
 unfold isLk;rw [vJQ h.1,vJQ h.2]; rfl
theorem zJB {k:Int} {p:Z3} (h:zOk k p=true):(-k≤p.x∧p.x≤k)∧(-k≤p.y∧p.y≤k)∧(-k≤p.z∧p.z≤k):=by
 unfold zOk at h;simp only [vQJ,Bool.not_eq_true',decide_eq_false_iff_not] at h;omega
theorem zWI {k:Int} {p:Z3} (_:(-k≤p.x∧p.x≤k)∧(-k≤p.y∧p.y≤k)∧(-k≤p.z∧p.z≤k)):zOk k p=true:=by
 unfold zOk;rw [vYH (show ¬ p.x < -k by omega),vYH (show ¬ k < p.x by omega),vYH (show ¬ p.y < -k by omega),vYH (show ¬ k < p.y by omega),vYH (show ¬ p.z < -k by omega),vYH (show ¬ k < p.z by omega)]; rfl
theorem xYF {b:Z3} {n v:Nat} {p:Nat→Z3} (hv:v < n) (hp:zOk 2097152 (p v)=true) (hb:zOk 2097152 b=true):sft b n p v=⟨(p v).x + b.x,(p v).y + b.y,(p v).z + b.z⟩:=by
 have h1:=zJB hp;have h2:=zJB hb;unfold sft;rw [show Nat.blt v n=true from by rw [Nat.blt_eq]; exact hv,vYV,vYV,vYV,qX (by omega),qX (by omega),qX (by omega)]
theorem uUD {n:Nat} {l:Int} {b:Z3} {s:Shp} (hs:sOk s=true) (hb:zOk 2097152 b=true) (hl : -1≤l∧l < (n:Int)):shE n (lkS l (sftL b s))=0:=by
 obtain ⟨h1,h2,h3⟩:=yHJ hs;unfold shOk at h1;rw [vQJ,Bool.not_eq_true'] at h1;have hp:zUD (lkS l (sftL b s))=true:=allN_iff.2 fun v _ hv=>by
  have hv':v < s.np:=by
   have:v < 0 + s.np:=hv
   omega
  show zOk 4194304 (sft b s.np s.pts v)=true;rw [xYF hv' (h3 v hv') hb];have a1:=zJB (h3 v hv');have a2:=zJB hb;exact zWI (by dsimp only; omega)
 unfold shE;rw [hp];show (bif !isLk n l || (decide (s.rad < 1) || (decide (1048576 < s.rad) || (decide ((s.np:Int) < 1) || decide (8 < (s.np:Int))))) then (902:Int) else bif true then 0 else 805)=0;rw [h1.1,jHV hl]; rfl
theorem kZY {n:Nat} {l:Int} {b:Z3} {shs:Nat→Shp} {m:Nat} (hs:∀ v,v < m→sOk (shs v)=true) (hb:zOk 2097152 b=true) (hl : -1≤l∧l < (n:Int)) {t:Nat × (Nat→Shp)} (ht:∀ v,v < t.1→shE n (t.2 v)=0):∀ v,v < (addN l (fun v=>(sftL b (shs v))) m t).1→shE n ((addN l (fun v=>(sftL b (shs v))) m t).2 v)=0 :=
 qQG (Q:=fun (j:Nat) (t:Nat × (Nat→Shp))=>∀ v,v < t.1→shE n (t.2 v)=0) (c:=m) (fun j t hj h v hv=>by
  have hv':v < t.1 + 1:=hv;show shE n (qGZ t.2 t.1 (lkS l (sftL b (shs j))) v)=0;unfold qGZ;rw [qXK];by_cases e:v=t.1
  ·rw [vJQ e]; exact uUD (hs j hj) hb hl
  ·rw [vYH e]; exact h v (by omega)) m 0 t (by omega) ht
theorem kUJ {ws:Wsp} (h:wErr ws=0) {i:Nat} (_:i < ws.np):zOk 2097152 (ws.pl i)=true:=by
 have h2:=(qUK h).2.1;unfold fiB at h2;simp only [vQJ] at h2;exact allN_iff.1 h2.2.1 i (Nat.zero_le _) (by omega)
theorem xWL {ws:Wsp} (h:wErr ws=0) {i:Nat} (_:i < ws.nh):zOk 2097152 (ws.hd i).off=true:=by
 have h2:=(qUK h).2.1;unfold fiB at h2;simp only [vQJ] at h2;have h3:=allN_iff.1 h2.2.2.1 i (Nat.zero_le _) (by omega);unfold hdOk at h3;simp only [vQJ] at h3;exact h3.2.2
theorem kKW {ws:Wsp} {k:Nat} {q:Nat→Int} (ho:okW ws) (hv:vlB ws k q=true):(scR ws q).1=ws.c + sumN (fun j=>(ws.ob j).ns) ws.no∧(scR ws q).1≤24∧∀ v,v < (scR ws q).1→shE ws.n ((scR ws q).2 v)=0:=by
 obtain ⟨w0,hk,hq⟩:=zKF hv;have hnb:=jKW (qUK w0).2.1;have hob:=kWQ w0 ho;have h:=qQG (Q:=fun (i:Nat) (t:Nat × (Nat→Shp))=>t.1=ws.c + sumN (fun j=>(ws.ob j).ns) i∧∀ v,v < t.1→shE ws.n (t.2 v)=0) (c:=ws.no) (nx:=scN ws q) (fun i t hi h=>⟨by
  rw [xYI,h.1];show _=ws.c + (sumN (fun j=>(ws.ob j).ns) i + (ws.ob i).ns)
  omega,by
  have h1:=(hob.2 i hi).2;have h2:=hq i (by omega);unfold scN;by_cases h0:0≤q i
  ·rw [vJQ h0,vYV];exact kZY h1 (kUJ w0 (by omega)) (by omega) h.2
  ·obtain ⟨e1,e2⟩:=xVL h2.1 (show q i < 0 by omega) hnb.2.2.1;rw [vYH h0,vYG,e1];have hl:=yVF w0 (i:=(-1 - q i).toNat) (by omega);exact kZY h1 (xWL w0 (by omega)) (by omega) h.2⟩) ws.no 0 (ws.c,ws.sh) (by omega) ⟨rfl,(qKK (qUK w0).1).2.2⟩
 refine ⟨h.1,?_,h.2⟩;show (qQX (scN ws q) ws.no 0 (ws.c,ws.sh)).1≤24;rw [h.1];exact hob.1
end Go.Proofs.YtmeldddgjfocdaaGreat.Hk
namespace Go.Proofs.YtmeldddgjfocdaaGreat.Sn
open Go.Rx Rt Go.Sx Go.RowKit Od Nb
noncomputable def fKU (x k:Int):OrS:=orS [] []
noncomputable def kWB (x k:Int):List (List Nat × yG):=[]
set_option maxRecDepth 100000 in
theorem fYA (x k:Int):qQZ Tf (fKU x k) (qK (kWB x k)) 60 23 [.n .i64 x,.n .i64 k] =
 (bif (decide (k=0)) then none
 else (bif (decide ((x.tmod k) < 0)) then some (.v (.n .i64 (vJJ .i64 ((x.tmod k) + k))),[])
 else some (.v (.n .i64 (x.tmod k)),[]))):=by kernel_rfl
theorem jUC (x k:Int) (hk:0 < k∧k≤9223372036854775807):zG Tryz.prog 23 [.n .i64 x,.n .i64 k] (.v (.n .i64 (x % k))):=by
 refine zK (N:=60) (LO:=qK (kWB x k)) jV yQ (kQ (l:=[]) (m:=[]) trivial trivial) (fun p S hp => ?_) ?_
 ·refine zQ (L:=qY Tf 23) (l:=(kWB x k)) (show AllP _ (kWB x k) from trivial) p S hp
 ·refine (fYA x k).trans ?_;have hk0:k ≠ 0:=by omega
  have h1:=Int.emod_nonneg x hk0;have h2:=Int.emod_lt_of_pos x hk.1;rw [vYH (show ¬ k=0 by omega),Int.tmod_eq_emod];by_cases h:0≤x ∨ k ∣ x
  ·rw [if_pos h,show ((0:Nat):Int)=0 from rfl,Int.sub_zero,vYH (show ¬ x % k < 0 by omega)];rfl
  ·rw [if_neg h,show ((k.natAbs:Nat):Int)=k by omega,vJQ (show x % k - k < 0 by omega),show vJJ .i64 (x % k - k + k)=x % k from by rw [show x % k - k + k=x % k by omega]; exact qX (by omega)];rfl
def crn:Int × Int→Prop:=fun t=>match t with | (_,k)=>0 < k∧k≤9223372036854775807
def ern:Int × Int→List PV:=fun t=>match t with | (x,k)=>[.n .i64 x,.n .i64 k]
noncomputable def rrn:Int × Int→Ret:=fun t=>match t with | (x,k)=>.v (.n .i64 (x % k))
def drn:List PV→Int × Int:=fun ps=>match ps with
 | [.n _ x,.n _ k]=>(x,k)
 | _=>(0,0)
noncomputable def o_rn:List PV→Option (Bool × Ret):=o_fm drn crn ern rrn
theorem ok_rn:zZ Tryz.prog 23 o_rn:=qQV fun t h=>by
 obtain ⟨x,k⟩:=t;exact jUC x k h
noncomputable def ornx (w m:Nat) (e:Nat→Int) (k:Int):OrS:=orS [(23,o_rn)] []
noncomputable def lsnx (w m:Nat) (e:Nat→Int) (k:Int):List (List Nat × yG):=[]
set_option maxRecDepth 100000 in
theorem pxnx (w m:Nat) (e:Nat→Int) (k:Int):xJQ Tf (ornx w m e k) (qK (lsnx w m e k)) 60 43 [.p 1000000 0,.v (.n .i64 k)] [.lf w (fQ e),.n .i64 (m:Int)] =
 (bif (decide ((w:Int)≤(m:Int))) then some (.v (.t [.n .i64 0,.lf w (fQ e),.n .i64 (m:Int)]),[])
 else (bif (inB (vJJ .i64 ((vJJ .i64 ((m:Int) + 1)) - 1)) w) then (bif (gF1 crn ern ((e ((vJJ .i64 ((vJJ .i64 ((m:Int) + 1)) - 1))).toNat),k)) then some (.v (.t [.n .i64 ((e ((vJJ .i64 ((vJJ .i64 ((m:Int) + 1)) - 1))).toNat) % k),.lf w (fQ e),.n .i64 (vJJ .i64 ((m:Int) + 1))]),[])
 else none)
 else none)):=by kernel_rfl
theorem xYZ (w m:Nat) (e:Nat→Int) (k:Int) (_:m≤w) (_:w≤9223372036854775807) (hk:0 < k∧k≤9223372036854775807):yUW Tryz.prog 43 [.p 1000000 0,.v (.n .i64 k)] [.lf w (fQ e),.n .i64 (m:Int)] (.n .i64 (nxV e w m k)) ([.lf w (fQ e),.n .i64 ((min (m + 1) w:Nat):Int)]):=by
 refine yXH (N:=60) (LO:=qK (lsnx w m e k)) jV yQ (kQ (l:=[(23,o_rn)]) (m:=[]) ⟨ok_rn,trivial⟩ trivial) (fun p S hp => ?_) ?_
 ·refine zQ (L:=qY Tf 43) (l:=(lsnx w m e k)) (show AllP _ (lsnx w m e k) from trivial) p S hp
 ·refine (pxnx w m e k).trans ?_;unfold nxV eW;by_cases h:m < w
  ·have h1:vJJ .i64 ((m:Int) + 1)=(m:Int) + 1:=qX (by omega);have h2:vJJ .i64 ((m:Int) + 1 - 1)=((m:Nat):Int):=by rw [qX (by omega)]; omega
   rw [vYH (show ¬ (w:Int)≤(m:Int) by omega),h1,h2,yU h,toN,jX (C:=crn) (t:=(_,k)) hk,show Nat.blt m w=true from by rw [Nat.blt_eq]; exact h,show min (m + 1) w=m + 1 by omega];rfl
  ·rw [vJQ (show (w:Int)≤(m:Int) by omega),show Nat.blt m w=false from by rw [Bool.eq_false_iff,ne_eq,Nat.blt_eq]; exact h,show min (m + 1) w=m by omega]
   simp
def cnx:Nat × Nat × (Nat→Int) × Int→Prop:=fun t=>match t with | (w,m,_,k)=>m≤w∧w≤9223372036854775807∧0 < k∧k≤9223372036854775807
def hnx:Nat × Nat × (Nat→Int) × Int→List HV:=fun t=>match t with | (_,_,_,k)=>[.p pid 0,.v (.n .i64 k)]
def enx:Nat × Nat × (Nat→Int) × Int→List PV:=fun t=>match t with | (w,m,e,_)=>[.lf w (fQ e),.n .i64 (m:Int)]
noncomputable def xnx:Nat × Nat × (Nat→Int) × Int→PV:=fun t=>match t with | (w,m,e,k)=>.n .i64 (nxV e w m k)
noncomputable def qnx:Nat × Nat × (Nat→Int) × Int→List PV:=fun t=>match t with | (w,m,e,_)=>[.lf w (fQ e),.n .i64 ((min (m + 1) w:Nat):Int)]
def dnx:List HV→List PV→Nat × Nat × (Nat→Int) × Int:=fun hs ps=>match hs,ps with
 | [_,.v (.n _ k)],[.lf w f,.n _ c]=>(w,c.toNat,unFQ f,k)
 | _,_=>(0,0,fun _=>0,0)
noncomputable def o_nx:List HV→List PV→Option (Bool × (PV × List PV)):=o_fb dnx cnx hnx enx xnx qnx
theorem uWF:kZX Tryz.prog 43 o_nx:=fUA fun t h=>by
 obtain ⟨w,m,e,k⟩:=t;exact xYZ w m e k h.1 h.2.1 h.2.2
def abcB:ByteArray:=ByteArray.mk #[97,98,99,100,101,102,103,104,105,106]
def ltrI (i:Int):ByteArray:=abcB.extract i.toNat (vJJ .i64 (i + 1)).toNat
end Go.Proofs.YtmeldddgjfocdaaGreat.Sn

/- Part 13 of the texts behind the last one: rules and contracts. No condition. -/
import Derived.Test.YtfcofnclgajfeaaGreatPV12
open Option.some renaming injEq → vQZ
open Prod.mk renaming injEq → vQY
open Bool renaming and_eq_true → vQJ, and_self → vZJ, true_and → vZH
open List renaming getElem?_eq_getElem → vQK
open Go.IntKind renaming wrap → vJJ
namespace Go.Proofs.YtfcofnclgajfeaaGreat.Pa
open Go.Rx Rt Go.Sx Go.RowKit Od Na Nb Nc Nx Nl Nm
def mtB (pp qq:Nat→Int) (k m:Nat) (d:Int):Bool:=smQ pp k && (smQ qq m && (decide ((k:Int)=(m:Int)) && (decide (0≤d) && decide (d≤20))))
def csm:Nat × (Nat→Int)→Prop:=fun t=>match t with | (k,_)=>k≤50
def esm:Nat × (Nat→Int)→List PV:=fun t=>match t with | (k,qq)=>[.lf k (fQ qq)]
noncomputable def rsm:Nat × (Nat→Int)→Ret:=fun t=>match t with | (k,qq)=>.v (.b (smQ qq k))
def dsm:List PV→Nat × (Nat→Int):=fun ps=>match ps with
 | [.lf k f]=>(k,unFQ f)
 | _=>(0,fun _=>0)
noncomputable def o_sm:List PV→Option (Bool × Ret):=o_fm dsm csm esm rsm
theorem ok_sm:zY Tryz.prog 121 o_sm:=zUE fun t h=>by
 obtain ⟨k,qq⟩:=t;exact snd_sm qq k h
def crs:Nat × (Nat→Int)→Prop:=fun t=>match t with | (k,_)=>k≤50
def ers:Nat × (Nat→Int)→List PV:=fun t=>match t with | (k,qq)=>[.lf k (fQ qq)]
noncomputable def rrs:Nat × (Nat→Int)→Ret:=fun t=>match t with | (k,qq)=>.v (.b (smQ qq k))
def drs:List PV→Nat × (Nat→Int):=fun ps=>match ps with
 | [.lf k f]=>(k,unFQ f)
 | _=>(0,fun _=>0)
noncomputable def o_rs:List PV→Option (Bool × Ret):=o_fm drs crs ers rrs
theorem ok_rs:zY Tryz.prog 94 o_rs:=zUE fun t h=>by
 obtain ⟨k,qq⟩:=t;exact snd_rsm qq k h
noncomputable def orpcs (pp qq:Nat→Int) (k m:Nat) (d:Int):OrS:=orS [(94,o_rs)] []
noncomputable def yVD (pp qq:Nat→Int) (k m:Nat) (d:Int):List (List Nat × uU):=[]
set_option maxRecDepth 100000 in
theorem pxpcs (pp qq:Nat→Int) (k m:Nat) (d:Int):qXJ Tf (orpcs pp qq k m d) (zW (yVD pp qq k m d)) 60 64 [.lf k (fQ pp),.lf m (fQ qq),.n .i64 d] =
 (bif (gF1 crs ers (k,pp)) then (bif (smQ pp k) then (bif (gF1 crs ers (m,qq)) then (bif (smQ qq m) then (bif (decide ((k:Int)=(m:Int))) then (bif (decide (0≤d)) then (bif (decide (d≤20)) then some (.v (.b true),[])
 else some (.v (.b false),[]))
 else some (.v (.b false),[]))
 else some (.v (.b false),[]))
 else some (.v (.b false),[]))
 else none)
 else some (.v (.b false),[]))
 else none):=by kernel_rfl
theorem snd_pcs (pp qq:Nat→Int) (k m:Nat) (d:Int) (hk:k≤50) (hm:m≤50):yZ Tryz.prog 64 [.lf k (fQ pp),.lf m (fQ qq),.n .i64 d] (.v (.b (mtB pp qq k m d))):=by
 refine jX (N:=60) (LO:=zW (yVD pp qq k m d)) qZH yQ (qZC (l:=[(94,o_rs)]) (m:=[]) ⟨ok_rs,trivial⟩ trivial) (fun p S hp => ?_) ?_
 ·refine jK (L:=qK Tf 64) (l:=(yVD pp qq k m d)) (show AllP _ (yVD pp qq k m d) from trivial) p S hp
 ·refine (pxpcs pp qq k m d).trans ?_;unfold mtB;rw [qHX (C:=crs) (t:=(k,pp)) hk,qHX (C:=crs) (t:=(m,qq)) hm];cases smQ pp k <;> cases smQ qq m <;> cases decide ((k:Int)=(m:Int)) <;> cases decide (0≤d) <;> cases decide (d≤20) <;> rfl
noncomputable def orism (pp qq:Nat→Int) (k m:Nat) (d:Int):OrS:=orS [(121,o_sm)] []
noncomputable def yVF (pp qq:Nat→Int) (k m:Nat) (d:Int):List (List Nat × uU):=[]
set_option maxRecDepth 100000 in
theorem pxism (pp qq:Nat→Int) (k m:Nat) (d:Int):qXJ Tf (orism pp qq k m d) (zW (yVF pp qq k m d)) 60 90 [.lf k (fQ pp),.lf m (fQ qq),.n .i64 d] =
 (bif (decide ((k:Int)=(m:Int))) then (bif (gF1 csm esm (k,pp)) then (bif (smQ pp k) then (bif (gF1 csm esm (m,qq)) then (bif (smQ qq m) then (bif (decide (0≤d)) then (bif (decide (d≤20)) then some (.v (.b true),[])
 else some (.v (.b false),[]))
 else some (.v (.b false),[]))
 else some (.v (.b false),[]))
 else none)
 else some (.v (.b false),[]))
 else none)
 else some (.v (.b false),[])):=by kernel_rfl
theorem snd_ism (pp qq:Nat→Int) (k m:Nat) (d:Int) (hk:k≤50) (hm:m≤50):yZ Tryz.prog 90 [.lf k (fQ pp),.lf m (fQ qq),.n .i64 d] (.v (.b (mtB pp qq k m d))):=by
 refine jX (N:=60) (LO:=zW (yVF pp qq k m d)) qZH yQ (qZC (l:=[(121,o_sm)]) (m:=[]) ⟨ok_sm,trivial⟩ trivial) (fun p S hp => ?_) ?_
 ·refine jK (L:=qK Tf 90) (l:=(yVF pp qq k m d)) (show AllP _ (yVF pp qq k m d) from trivial) p S hp
 ·refine (pxism pp qq k m d).trans ?_;unfold mtB;rw [qHX (C:=csm) (t:=(k,pp)) hk,qHX (C:=csm) (t:=(m,qq)) hm];cases smQ pp k <;> cases smQ qq m <;> cases decide ((k:Int)=(m:Int)) <;> cases decide (0≤d) <;> cases decide (d≤20) <;> rfl
def cpc:(Nat→Int) × (Nat→Int) × Nat × Nat × Int→Prop:=fun t=>match t with | (_,_,k,m,_)=>k≤50∧m≤50
def epc:(Nat→Int) × (Nat→Int) × Nat × Nat × Int→List PV:=fun t=>match t with | (pp,qq,k,m,d)=>[.lf k (fQ pp),.lf m (fQ qq),.n .i64 d]
noncomputable def rpc:(Nat→Int) × (Nat→Int) × Nat × Nat × Int→Ret:=fun t=>match t with | (pp,qq,k,m,d)=>.v (.b (mtB pp qq k m d))
def dpc:List PV→(Nat→Int) × (Nat→Int) × Nat × Nat × Int:=fun ps=>match ps with
 | [.lf k pp,.lf m qq,.n _ d]=>(unFQ pp,unFQ qq,k,m,d)
 | _=>(fun _=>0,fun _=>0,0,0,0)
noncomputable def o_pc:List PV→Option (Bool × Ret):=o_fm dpc cpc epc rpc
theorem ok_pc:zY Tryz.prog 64 o_pc:=zUE fun t h=>by
 obtain ⟨pp,qq,k,m,d⟩:=t;exact snd_pcs pp qq k m d h.1 h.2
def cis:(Nat→Int) × (Nat→Int) × Nat × Nat × Int→Prop:=fun t=>match t with | (_,_,k,m,_)=>k≤50∧m≤50
def eis:(Nat→Int) × (Nat→Int) × Nat × Nat × Int→List PV:=fun t=>match t with | (pp,qq,k,m,d)=>[.lf k (fQ pp),.lf m (fQ qq),.n .i64 d]
noncomputable def ris:(Nat→Int) × (Nat→Int) × Nat × Nat × Int→Ret:=fun t=>match t with | (pp,qq,k,m,d)=>.v (.b (mtB pp qq k m d))
def dis:List PV→(Nat→Int) × (Nat→Int) × Nat × Nat × Int:=fun ps=>match ps with
 | [.lf k pp,.lf m qq,.n _ d]=>(unFQ pp,unFQ qq,k,m,d)
 | _=>(fun _=>0,fun _=>0,0,0,0)
noncomputable def o_is:List PV→Option (Bool × Ret):=o_fm dis cis eis ris
theorem ok_is:zY Tryz.prog 90 o_is:=zUE fun t h=>by
 obtain ⟨pp,qq,k,m,d⟩:=t;exact snd_ism pp qq k m d h.1 h.2
def pU (pp qq:Nat→Int) (j:Int) (i:Nat):Int:=vJJ .i64 (j * (vJJ .i64 (qq i - pp i)))
def pW (pp qq:Nat→Int) (j:Int) (i:Nat):Int:=vJJ .i64 ((vJJ .i64 (j + 1)) * (vJJ .i64 (qq i - pp i)))
def pMn (pp qq:Nat→Int) (j:Int) (i:Nat):Int:=min (pU pp qq j i) (pW pp qq j i)
def pMx (pp qq:Nat→Int) (j:Int) (i:Nat):Int:=max (pU pp qq j i) (pW pp qq j i)
def pN (d:Int):Int:=vJJ .i64 (1 * 2 ^ (min (IntKind.u64.wrap d).toNat 64))
def jLo (pp qq:Nat→Int) (d j:Int) (i:Nat):Int:=vJJ .i64 (pp i + ((pMn pp qq j i).fdiv (2 ^ (min d.toNat 64))))
def jHi (pp qq:Nat→Int) (d j:Int) (i:Nat):Int:=vJJ .i64 (pp i - ((vJJ .i64 (0 - pMx pp qq j i)).fdiv (2 ^ (min d.toNat 64))))
def rLo (pp qq:Nat→Int) (d j:Int) (i:Nat):Int:=vJJ .i64 (pp i + bif decide ((pMn pp qq j i).tmod (pN d) < 0) then vJJ .i64 (vJJ .i64 ((pMn pp qq j i).tdiv (pN d)) - 1) else vJJ .i64 ((pMn pp qq j i).tdiv (pN d)))
def rHi (pp qq:Nat→Int) (d j:Int) (i:Nat):Int:=vJJ .i64 (pp i + bif decide (0 < (pMx pp qq j i).tmod (pN d)) then vJJ .i64 (vJJ .i64 ((pMx pp qq j i).tdiv (pN d)) + 1) else vJJ .i64 ((pMx pp qq j i).tdiv (pN d)))
noncomputable def orPj (pp qq:Nat→Int) (k m:Nat) (d j:Int):OrS:=orS [] []
noncomputable def hPj (pp qq:Nat→Int) (k m:Nat) (d j:Int) (i:Int) (a:Nat→Int) (b:Nat→Int):St:=⟨[(1,.v (.lf m (fQ qq))),(2,.v (.f 92 [] [.c [.n .i64 j] 0,.c [.n .i64 d] 0])),(7,.o 12),(13,.v (.lf k (fQ pp))),(14,.v (.n .i64 (k:Int))),(15,.v (.n .i64 i))],[(12,.reg 50 2 (.fo (k:Int).toNat (fun v=>[.n .i64 (a v),.n .i64 (b v)])))]⟩
set_option maxRecDepth 100000 in
theorem rdPj (G:St→Option (Ret × Mem)) (K:Cont) (pp qq:Nat→Int) (k m:Nat) (d j:Int) (i:Int) (a:Nat→Int) (b:Nat→Int):stpT Tf 91 (orPj pp qq k m d j) 60 [] [0,1,0,1,1] K G (hPj pp qq k m d j i a b) =
 (bif (decide (i < (k:Int))) then (bif (inB i k) then (bif (inB i m) then (bif (decide (0≤d)) then (bif (decide (0≤d)) then (bif (inB i (k:Int).toNat) then (G (hPj pp qq k m d j (vJJ .i64 (i + 1)) (fun v=>(bif (Nat.beq v (i).toNat) then (vJJ .i64 ((pp (i).toNat) + ((pMn pp qq j (i).toNat).fdiv (2 ^ (min (d).toNat 64))))) else (a v))) (fun v=>(bif (Nat.beq v (i).toNat) then (vJJ .i64 ((pp (i).toNat) - ((vJJ .i64 (0 - (pMx pp qq j (i).toNat))).fdiv (2 ^ (min (d).toNat 64))))) else (b v)))))
 else none)
 else none)
 else none)
 else none)
 else none)
 else (K (.exit 0) ⟨[(7,.o 12)],[(12,.reg 50 2 (.fo (k:Int).toNat (fun v=>[.n .i64 (a v),.n .i64 (b v)])))]⟩)):=by kernel_rfl
theorem lpPj (K:Cont) (pp qq:Nat→Int) (k m:Nat) (d j:Int) (_:k≤50) (_:k=m) (hd:0≤d):LFT Tf 91 (orPj pp qq k m d j) 60 [] [0,1,0,1,1] K 60 (hPj pp qq k m d j 0 (fun _=>0) (fun _=>0))=(K (.exit 0) ⟨[(7,.o 12)],[(12,.reg 50 2 (.fo (k:Int).toNat (fun v=>[.n .i64 ((qVI (fun i:Nat=>jLo pp qq d j i) k 0 (fun _=>0)) v),.n .i64 ((qVI (fun i:Nat=>jHi pp qq d j i) k 0 (fun _=>0)) v)])))]⟩):=by
 refine (zXW (L:=LFT Tf 91 (orPj pp qq k m d j) 60 [] [0,1,0,1,1] K) (stp:=stpT Tf 91 (orPj pp qq k m d j) 60 [] [0,1,0,1,1] K) (fun _ _=>rfl) (fun (i:Nat) (t:((Nat→Int) × (Nat→Int)))=>hPj pp qq k m d j (i:Int) t.1 t.2) (fun _ _=>True) (fun _ _=>true) (fun (i:Nat) t=>((fun v=>bif Nat.beq v i then jLo pp qq d j i else t.1 v),(fun v=>bif Nat.beq v i then jHi pp qq d j i else t.2 v))) (c:=k) (fun t=>(K (.exit 0) ⟨[(7,.o 12)],[(12,.reg 50 2 (.fo (k:Int).toNat (fun v=>[.n .i64 (t.1 v),.n .i64 (t.2 v)])))]⟩)) (fun _ _=>none) (fun G i t hi _ => ?_) (fun _ _ _ _ _=>trivial) (fun G t _ => ?_) k 0 60 ((fun _=>0),(fun _=>0)) (by omega) (by omega) trivial).trans (runS_fillJ k 0 _)
 ·refine (rdPj G K pp qq k m d j i t.1 t.2).trans ?_;simp only [vJQ (show (i:Int) < (k:Int) by omega),qZQ (show i < 1000000 by omega),kZ (show i < k by omega),kZ (show i < m by omega),toN,vJQ hd,vYV]
  all_goals rfl
 ·refine (rdPj G K pp qq k m d j k t.1 t.2).trans ?_;rw [vYH (show ¬ (k:Int) < (k:Int) by omega)];rfl
noncomputable def yVE (pp qq:Nat→Int) (k m:Nat) (d j:Int):List (List Nat × uU):=[([0,1,0,1,1],sumF (fun _:Unit=>(hPj pp qq k m d j 0 (fun _=>0) (fun _=>0))) (fun _=>()) (fun _ K=>(bif gP (k≤50∧k=m∧0≤d) then (K (.exit 0) ⟨[(7,.o 12)],[(12,.reg 50 2 (.fo (k:Int).toNat (fun v=>[.n .i64 ((qVI (fun i:Nat=>jLo pp qq d j i) k 0 (fun _=>0)) v),.n .i64 ((qVI (fun i:Nat=>jHi pp qq d j i) k 0 (fun _=>0)) v)])))]⟩) else none)))]
set_option maxRecDepth 100000 in
theorem pxjnd (pp qq:Nat→Int) (k m:Nat) (d j:Int):qXJ Tf (orPj pp qq k m d j) (zW (yVE pp qq k m d j)) 60 91 [.lf k (fQ pp),.lf m (fQ qq),.f 92 [] [.c [.n .i64 j] 0,.c [.n .i64 d] 0]] =
 (bif (decide (0≤(k:Int))) then (bif (decide ((k:Int)≤(k:Int))) then (bif (decide ((k:Int)≤1000000)) then (bif (gSt (hPj pp qq k m d j 0 (fun _=>0) (fun _=>0)) (hPj pp qq k m d j 0 (fun _=>0) (fun _=>0))) then (bif gP (k≤50∧k=m∧0≤d) then some (.ow 50 2 (.fo (k:Int).toNat (fun v=>[.n .i64 ((qVI (fun i:Nat=>jLo pp qq d j i) k 0 (fun _=>0)) v),.n .i64 ((qVI (fun i:Nat=>jHi pp qq d j i) k 0 (fun _=>0)) v)])),[])
 else none)
 else none)
 else none)
 else none)
 else none):=by kernel_rfl
theorem snd_jnd (pp qq:Nat→Int) (k m:Nat) (d j:Int) (hk:k≤50) (hm:k=m) (hd:0≤d):yZ Tryz.prog 91 [.lf k (fQ pp),.lf m (fQ qq),.f 92 [] [.c [.n .i64 j] 0,.c [.n .i64 d] 0]] (.ow 50 2 (.fo k (fun v=>[.n .i64 ((qVI (fun i:Nat=>jLo pp qq d j i) k 0 (fun _=>0)) v),.n .i64 ((qVI (fun i:Nat=>jHi pp qq d j i) k 0 (fun _=>0)) v)]))):=by
 refine jX (N:=60) (LO:=zW (yVE pp qq k m d j)) qZH yQ (qZC (l:=[]) (m:=[]) trivial trivial) (fun p S hp => ?_) ?_
 ·refine jK (L:=qK Tf 91) (l:=(yVE pp qq k m d j)) (show AllP _ (yVE pp qq k m d j) from ⟨?_,trivial⟩) p S hp
  ·dsimp only;refine qVW (T:=Tf) (o:=(orPj pp qq k m d j)) (f:=91) (LO:=zW []) (p:=[0,1,0,1,1]) qVF ?_;intro t K r hr;obtain ⟨hg,hr⟩:=qQ hr
   skip
   exact (lpPj K pp qq k m d j (qYX hg).1 (qYX hg).2.1 (qYX hg).2.2).trans hr
 ·refine (pxjnd pp qq k m d j).trans ?_;simp only [jG,yJZ (show k≤50∧k=m∧0≤d from ⟨hk,hm,hd⟩),vJQ (show (0:Int)≤(k:Int) by omega),vJQ (show (k:Int)≤(k:Int) by omega),vJQ (show (k:Int)≤1000000 by omega),toN,vYV]
  all_goals rfl
noncomputable def orPb (pp qq:Nat→Int) (k m:Nat) (d j:Int):OrS:=orS [(64,o_pc)] []
noncomputable def hPb (pp qq:Nat→Int) (k m:Nat) (d j:Int) (i:Int) (r:Nat) (f:Nat→List PV):St:=⟨[(0,.v (.lf k (fQ pp))),(1,.v (.lf m (fQ qq))),(3,.v (.n .i64 j)),(10,.v (.n .i64 (pN d))),(11,.o 80),(12,.v (.n .i64 i))],[(80,.reg 50 2 (.fo r f))]⟩
set_option maxRecDepth 100000 in
theorem rdPb (G:St→Option (Ret × Mem)) (K:Cont) (pp qq:Nat→Int) (k m:Nat) (d j:Int) (i:Int) (r:Nat) (f:Nat→List PV):stpT Tf 40 (orPb pp qq k m d j) 60 [] [0,1,0,1,1,1,1] K G (hPb pp qq k m d j i r f) =
 (bif (decide (i < (k:Int))) then (bif (inB i m) then (bif (inB i k) then (bif (inB i k) then (bif (decide ((pN d)=0)) then none
 else (bif (decide ((pN d)=0)) then none
 else (bif (decide (((pMn pp qq j (i).toNat).tmod (pN d)) < 0)) then (bif (inB i k) then (bif (decide ((pN d)=0)) then none
 else (bif (decide ((pN d)=0)) then none
 else (bif (decide (0 < ((pMx pp qq j (i).toNat).tmod (pN d)))) then (bif (decide (r + 1≤1000000)) then (G (hPb pp qq k m d j (vJJ .i64 (i + 1)) (r + 1) (fun v=>jH (Nat.beq v r) [.n .i64 (vJJ .i64 ((pp (i).toNat) + (vJJ .i64 ((vJJ .i64 ((pMn pp qq j (i).toNat).tdiv (pN d))) - 1)))),.n .i64 (vJJ .i64 ((pp (i).toNat) + (vJJ .i64 ((vJJ .i64 ((pMx pp qq j (i).toNat).tdiv (pN d))) + 1))))] (f v))))
 else none)
 else (bif (decide (r + 1≤1000000)) then (G (hPb pp qq k m d j (vJJ .i64 (i + 1)) (r + 1) (fun v=>jH (Nat.beq v r) [.n .i64 (vJJ .i64 ((pp (i).toNat) + (vJJ .i64 ((vJJ .i64 ((pMn pp qq j (i).toNat).tdiv (pN d))) - 1)))),.n .i64 (vJJ .i64 ((pp (i).toNat) + (vJJ .i64 ((pMx pp qq j (i).toNat).tdiv (pN d)))))] (f v))))
 else none))))
 else none)
 else (bif (inB i k) then (bif (decide ((pN d)=0)) then none
 else (bif (decide ((pN d)=0)) then none
 else (bif (decide (0 < ((pMx pp qq j (i).toNat).tmod (pN d)))) then (bif (decide (r + 1≤1000000)) then (G (hPb pp qq k m d j (vJJ .i64 (i + 1)) (r + 1) (fun v=>jH (Nat.beq v r) [.n .i64 (vJJ .i64 ((pp (i).toNat) + (vJJ .i64 ((pMn pp qq j (i).toNat).tdiv (pN d))))),.n .i64 (vJJ .i64 ((pp (i).toNat) + (vJJ .i64 ((vJJ .i64 ((pMx pp qq j (i).toNat).tdiv (pN d))) + 1))))] (f v))))
 else none)
 else (bif (decide (r + 1≤1000000)) then (G (hPb pp qq k m d j (vJJ .i64 (i + 1)) (r + 1) (fun v=>jH (Nat.beq v r) [.n .i64 (vJJ .i64 ((pp (i).toNat) + (vJJ .i64 ((pMn pp qq j (i).toNat).tdiv (pN d))))),.n .i64 (vJJ .i64 ((pp (i).toNat) + (vJJ .i64 ((pMx pp qq j (i).toNat).tdiv (pN d)))))] (f v))))
 else none))))
 else none))))
 else none)
 else none)
 else none)
 else (K (.exit 0) ⟨[(11,.o 80)],[(80,.reg 50 2 (.fo r f))]⟩)):=by kernel_rfl
theorem lpPb (K:Cont) (pp qq:Nat→Int) (k m:Nat) (d j:Int) (_:k≤50) (_:k=m) (hn:pN d ≠ 0):LFT Tf 40 (orPb pp qq k m d j) 60 [] [0,1,0,1,1,1,1] K 60 (hPb pp qq k m d j 0 0 (fun _=>[.n .i64 0,.n .i64 0]))=(K (.exit 0) ⟨[(11,.o 80)],[(80,.reg 50 2 (.fo k (zHY (fun i:Nat=>[.n .i64 (rLo pp qq d j i),.n .i64 (rHi pp qq d j i)]) k 0 (fun _=>[.n .i64 0,.n .i64 0]))))]⟩):=by
 refine (zXW (L:=LFT Tf 40 (orPb pp qq k m d j) 60 [] [0,1,0,1,1,1,1] K) (stp:=stpT Tf 40 (orPb pp qq k m d j) 60 [] [0,1,0,1,1,1,1] K) (fun _ _=>rfl) (fun (i:Nat) (f:Nat→List PV)=>hPb pp qq k m d j (i:Int) i f) (fun _ _=>True) (fun _ _=>true) (fun (i:Nat) f v=>jH (Nat.beq v i) ([.n .i64 (rLo pp qq d j i),.n .i64 (rHi pp qq d j i)]) (f v)) (c:=k) (fun f=>(K (.exit 0) ⟨[(11,.o 80)],[(80,.reg 50 2 (.fo k f))]⟩)) (fun _ _=>none) (fun G i f hi _ => ?_) (fun _ _ _ _ _=>trivial) (fun G f _ => ?_) k 0 60 (fun _=>[.n .i64 0,.n .i64 0]) (by omega) (by omega) trivial).trans (runS_fill k 0 (fun _=>[.n .i64 0,.n .i64 0]))
 ·refine (rdPb G K pp qq k m d j (i:Int) i f).trans ?_;simp only [vJQ (show (i:Int) < (k:Int) by omega),qZQ (show i < 1000000 by omega),kZ (show i < k by omega),kZ (show i < m by omega),toN,vYH hn,vJQ (show i + 1≤1000000 by omega),vYV,vYG];unfold rLo rHi;cases decide ((pMn pp qq j i).tmod (pN d) < 0) <;> cases decide (0 < (pMx pp qq j i).tmod (pN d)) <;> rfl
 ·refine (rdPb G K pp qq k m d j (k:Int) k f).trans ?_;rw [vYH (show ¬ (k:Int) < (k:Int) by omega)];rfl
def jI (pp qq:Nat→Int) (d j:Int):Nat→Iv:=fun i=>⟨jLo pp qq d j i,jHi pp qq d j i⟩
theorem snd_owF {P:Program} {fn e sz n:Nat} {f g:Nat→List PV} {ps:List PV} (h:∀ i,i < n→f i=g i) (hs:yZ P fn ps (.ow e sz (.fo n f))):yZ P fn ps (.ow e sz (.fo n g)):=by
 have e:(Rows.fo n f).L=(Rows.fo n g).L:=List.map_congr_left fun i hi=>h i (List.mem_range.1 hi)
 refine ⟨hs.1,fun w F vals hF hal=>(hs.2 w F vals hF hal).mono ?_⟩
 rintro en w' ⟨v,F',he,hg,f1,f2,ad,c,vr,h1,h2,h3,h4,h5⟩
 exact ⟨v,F',he,hg,f1,f2,ad,c,vr,h1,h2,e ▸ h3,e ▸ h4,h5⟩
theorem snd_jn (pp qq:Nat→Int) (k m:Nat) (d j:Int) (hk:k≤50) (hm:k=m) (hd:0≤d):yZ Tryz.prog 91 [.lf k (fQ pp),.lf m (fQ qq),.f 92 [] [.c [.n .i64 j] 0,.c [.n .i64 d] 0]] (.ow 50 2 (.fo k (fB (jI pp qq d j)))):=by
 refine snd_owF (fun i hi => ?_) (snd_jnd pp qq k m d j hk hm hd);show [PV.n .i64 ((qVI (fun i:Nat=>jLo pp qq d j i) k 0 (fun _=>0)) i),PV.n .i64 ((qVI (fun i:Nat=>jHi pp qq d j i) k 0 (fun _=>0)) i)]=[PV.n .i64 (jLo pp qq d j i),PV.n .i64 (jHi pp qq d j i)];rw [fillI_all hi,fillI_all hi]
theorem mbd {a b:Int} (_:0≤a∧a≤1048576) (_: -4294967296≤b∧b≤4294967296) : -4503599627370496≤a * b∧a * b≤4503599627370496:=by
 have h:(a * b).natAbs≤1048576 * 4294967296:=by
  rw [Int.natAbs_mul];exact Nat.mul_le_mul (by omega) (by omega)
 omega
theorem pN_pow:∀ n:Nat,n < 21→pN (n:Int)=2 ^ n∧(1:Int)≤2 ^ n∧(2:Int) ^ n≤1048576∧min n 64=n:=by decide
theorem yUI {d:Int} (_:0≤d∧d≤20):pN d=2 ^ (min d.toNat 64)∧1≤pN d∧pN d≤1048576:=by
 obtain ⟨n,rfl⟩:∃ n:Nat,d=(n:Int):=⟨d.toNat,by omega⟩
 obtain ⟨h1,h2,h3,h4⟩:=pN_pow n (by omega);rw [Int.toNat_natCast,h4,h1];exact ⟨rfl,h2,h3⟩
theorem rj_eq {pp qq:Nat→Int} {d j:Int} {i:Nat} (hd:0≤d∧d≤20) (_:0≤j∧j < pN d) (_: -2147483648≤pp i∧pp i≤2147483648) (_: -2147483648≤qq i∧qq i≤2147483648):rLo pp qq d j i=jLo pp qq d j i∧rHi pp qq d j i=jHi pp qq d j i:=by
 obtain ⟨e,n1,n2⟩:=yUI hd;have hu:=mbd (a:=j) (b:=qq i - pp i) (by omega) (by omega);have hw:=mbd (a:=j + 1) (b:=qq i - pp i) (by omega) (by omega);have eu:pU pp qq j i=j * (qq i - pp i):=by unfold pU; rw [qG (x:=qq i - pp i) (by omega),qG (by omega)]
 have ew:pW pp qq j i=(j + 1) * (qq i - pp i):=by unfold pW; rw [qG (x:=qq i - pp i) (by omega),qG (x:=j + 1) (by omega),qG (by omega)]
 have hx : -4503599627370496≤pMn pp qq j i∧pMn pp qq j i≤4503599627370496:=by unfold pMn; rw [eu,ew]; omega
 have hy : -4503599627370496≤pMx pp qq j i∧pMx pp qq j i≤4503599627370496:=by unfold pMx; rw [eu,ew]; omega
 unfold rLo jLo rHi jHi;rw [← e];generalize pMn pp qq j i=x at hx;generalize pMx pp qq j i=y at hy;generalize pN d=n at n1 n2;have hn:0 < n:=by omega
 have ax:x.fdiv n=x / n:=Int.fdiv_eq_ediv_of_nonneg _ (by omega);have ay:(0 - y).fdiv n=(0 - y) / n:=Int.fdiv_eq_ediv_of_nonneg _ (by omega);have ix:In64 x:=by unfold In64; omega
 have iy:In64 y:=by unfold In64; omega
 have tx:=qGY ix hn;have ty:=qGY iy hn;unfold In64 at tx ty;constructor
 ·refine congrArg (fun u=>vJJ .i64 (pp i + u)) ?_;rw [ax,qG (x:=x.tdiv n) (by omega)];by_cases h:x.tmod n < 0
  ·rw [vJQ h,vYV,qG (floor_bnd ix hn h)];exact zQC hn h
  ·rw [vYH h,vYG];exact zXB hn h
 ·rw [qG (x:=0 - y) (by omega),ay,qG (x:=y.tdiv n) (by omega)];have hc:pp i - (0 - y) / n=pp i + zK y n:=by unfold zK; rw [show 0 - y = -y by omega]; omega
  rw [hc];refine congrArg (fun u=>vJJ .i64 (pp i + u)) ?_;by_cases h:0 < y.tmod n
  ·rw [vJQ h,vYV,qG (ceil_bnd iy hn h)];exact ceil_pos hn h
  ·rw [vYH h,vYG];exact ceil_neg hn h
def pcB (pp qq:Nat→Int) (k m:Nat) (d j:Int):Bool:=mtB pp qq k m d && (decide (0≤j) && decide (j < pN d))
theorem zGV {pp qq:Nat→Int} {k m:Nat} {d:Int} (h:mtB pp qq k m d=true):smQ pp k=true∧smQ qq m=true∧k=m∧0≤d∧d≤20:=by
 unfold mtB at h;simp only [vQJ,decide_eq_true_eq] at h;exact ⟨h.1,h.2.1,by omega,h.2.2.2⟩
theorem u64_s:∀ n:Nat,n < 21→IntKind.u64.wrap (n:Int)=n:=by decide
theorem u64_d {d:Int} (_:0≤d∧d≤20):IntKind.u64.wrap d=d:=by
 obtain ⟨n,rfl⟩:∃ n:Nat,d=(n:Int):=⟨d.toNat,by omega⟩
 exact u64_s n (by omega)
theorem yJF {q:Nat→Int} {k i:Nat} (h:smQ q k=true) (_:i < k) : -2147483648≤q i∧q i≤2147483648:=by
 have:=allN_iff.1 h i (Nat.zero_le _) (by omega)
 simp only [vQJ,Bool.not_eq_true',decide_eq_false_iff_not] at this;omega
noncomputable def yKQ (pp qq:Nat→Int) (k m:Nat) (d j:Int):List (List Nat × uU):=[([0,1,0,1,1,1,1],sumF (fun _:Unit=>(hPb pp qq k m d j 0 0 (fun _=>[.n .i64 0,.n .i64 0]))) (fun _=>()) (fun _ K=>(bif gP (k≤50∧k=m∧pN d ≠ 0) then (K (.exit 0) ⟨[(11,.o 80)],[(80,.reg 50 2 (.fo k (zHY (fun i:Nat=>[.n .i64 (rLo pp qq d j i),.n .i64 (rHi pp qq d j i)]) k 0 (fun _=>[.n .i64 0,.n .i64 0]))))]⟩) else none)))]
set_option maxRecDepth 100000 in
theorem pxrpc0 (pp qq:Nat→Int) (k m:Nat) (d j:Int):qXJ Tf (orPb pp qq k m d j) (zW (yKQ pp qq k m d j)) 60 40 [.lf k (fQ pp),.lf m (fQ qq),.n .i64 d,.n .i64 j] =
 (bif (gF1 cpc epc (pp,qq,k,m,d)) then (bif (mtB pp qq k m d) then (bif (decide (j < 0)) then some (.v (.t [.l [],.b false]),[])
 else (bif (decide (0≤(IntKind.u64.wrap d))) then (bif (decide ((pN d)≤j)) then some (.v (.t [.l [],.b false]),[])
 else (bif (decide (0≤(IntKind.u64.wrap d))) then (bif (gSt (hPb pp qq k m d j 0 0 (fun _=>[.n .i64 0,.n .i64 0])) (hPb pp qq k m d j 0 0 (fun _=>[.n .i64 0,.n .i64 0]))) then (bif gP (k≤50∧k=m∧pN d ≠ 0) then some (.v (.t [.lf k (zHY (fun i:Nat=>[.n .i64 (rLo pp qq d j i),.n .i64 (rHi pp qq d j i)]) k 0 (fun _=>[.n .i64 0,.n .i64 0])),.b true]),[])
 else none)
 else none)
 else none))
 else none))
 else some (.v (.t [.l [],.b false]),[]))
 else none):=by kernel_rfl
theorem snd_rpc0 (pp qq:Nat→Int) (k m:Nat) (d j:Int) (hk:k≤50) (hm:m≤50):yZ Tryz.prog 40 [.lf k (fQ pp),.lf m (fQ qq),.n .i64 d,.n .i64 j] (bif pcB pp qq k m d j then .v (.t [.lf k (zHY (fun i:Nat=>[.n .i64 (rLo pp qq d j i),.n .i64 (rHi pp qq d j i)]) k 0 (fun _=>[.n .i64 0,.n .i64 0])),.b true]) else .v (.t [.l [],.b false])):=by
 refine jX (N:=60) (LO:=zW (yKQ pp qq k m d j)) qZH yQ (qZC (l:=[(64,o_pc)]) (m:=[]) ⟨ok_pc,trivial⟩ trivial) (fun p S hp => ?_) ?_
 ·refine jK (L:=qK Tf 40) (l:=(yKQ pp qq k m d j)) (show AllP _ (yKQ pp qq k m d j) from ⟨?_,trivial⟩) p S hp
  ·dsimp only;refine qVW (T:=Tf) (o:=(orPb pp qq k m d j)) (f:=40) (LO:=zW []) (p:=[0,1,0,1,1,1,1]) qVF ?_;intro t K r hr;obtain ⟨hg,hr⟩:=qQ hr
   skip
   exact (lpPb K pp qq k m d j (qYX hg).1 (qYX hg).2.1 (qYX hg).2.2).trans hr
 ·refine (pxrpc0 pp qq k m d j).trans ?_;unfold pcB;rw [qHX (C:=cpc) (t:=(pp,qq,k,m,d)) ⟨hk,hm⟩,vYV];cases h:mtB pp qq k m d with
  | false=>rfl
  | true =>
   obtain ⟨_,_,e,d0,d1⟩:=zGV h;have hu:=u64_d ⟨d0,d1⟩;obtain ⟨_,n1,n2⟩:=yUI ⟨d0,d1⟩;have en:vJJ .i64 (1 * 2 ^ (min d.toNat 64))=pN d:=by unfold pN; rw [hu]
   by_cases h0:j < 0
   ·rw [vJQ h0,vYH (show ¬ 0≤j by omega)]; rfl
   ·rw [vYH h0,vJQ (show 0≤j by omega)];by_cases h1:pN d≤j
    ·simp only [hu,en,vJQ d0,vJQ h1,vYH (show ¬ j < pN d by omega),vYV,vYG,Bool.and_false]
    ·simp only [hu,en,vJQ d0,vYH h1,vJQ (show j < pN d by omega),jG,yJZ (show k≤50∧k=m∧pN d ≠ 0 from ⟨hk,e,by omega⟩),vYV,vYG,vZJ]
def cjn:(Nat→Int) × (Nat→Int) × Nat × Nat × Int × Int→Prop:=fun t=>match t with | (_,_,k,m,d,_)=>k≤50∧k=m∧0≤d
def ejn:(Nat→Int) × (Nat→Int) × Nat × Nat × Int × Int→List PV:=fun t=>match t with | (pp,qq,k,m,d,j)=>[.lf k (fQ pp),.lf m (fQ qq),.f 92 [] [.c [.n .i64 j] 0,.c [.n .i64 d] 0]]
noncomputable def rjn:(Nat→Int) × (Nat→Int) × Nat × Nat × Int × Int→Ret:=fun t=>match t with | (pp,qq,k,_,d,j)=>.ow 50 2 (.fo k (fB (jI pp qq d j)))
def djn:List PV→(Nat→Int) × (Nat→Int) × Nat × Nat × Int × Int:=fun ps=>match ps with
 | [.lf k pp,.lf m qq,.f _ _ [.c [.n _ j] _,.c [.n _ d] _]]=>(unFQ pp,unFQ qq,k,m,d,j)
 | _=>(fun _=>0,fun _=>0,0,0,0,0)
noncomputable def o_jn:List PV→Option (Bool × Ret):=o_fm djn cjn ejn rjn
theorem ok_jn:zY Tryz.prog 91 o_jn:=zUE fun t h=>by
 obtain ⟨pp,qq,k,m,d,j⟩:=t;exact snd_jn pp qq k m d j h.1 h.2.1 h.2.2
noncomputable def orppc0 (pp qq:Nat→Int) (k m:Nat) (d j:Int):OrS:=orS [(90,o_is),(91,o_jn)] []
noncomputable def yKY (pp qq:Nat→Int) (k m:Nat) (d j:Int):List (List Nat × uU):=[]
set_option maxRecDepth 100000 in
theorem pxppc0 (pp qq:Nat→Int) (k m:Nat) (d j:Int):qXJ Tf (orppc0 pp qq k m d j) (zW (yKY pp qq k m d j)) 60 60 [.lf k (fQ pp),.lf m (fQ qq),.n .i64 d,.n .i64 j] =
 (bif (gF1 cis eis (pp,qq,k,m,d)) then (bif (mtB pp qq k m d) then (bif (decide (j < 0)) then some (.v (.t [.l [],.b false]),[])
 else (bif (decide (0≤d)) then (bif (decide ((vJJ .i64 (1 * 2 ^ (min (d).toNat 64)))≤j)) then some (.v (.t [.l [],.b false]),[])
 else (bif (gF1 cjn ejn (pp,qq,k,m,d,j)) then (bif (decide (k≤16)) then some (.v (.t [.lf k (fB (jI pp qq d j)),.b true]),[])
 else none)
 else none))
 else none))
 else some (.v (.t [.l [],.b false]),[]))
 else none):=by kernel_rfl
theorem snd_ppc0 (pp qq:Nat→Int) (k m:Nat) (d j:Int) (hk:k≤16) (hm:m≤50):yZ Tryz.prog 60 [.lf k (fQ pp),.lf m (fQ qq),.n .i64 d,.n .i64 j] (bif pcB pp qq k m d j then .v (.t [.lf k (fB (jI pp qq d j)),.b true]) else .v (.t [.l [],.b false])):=by
 refine jX (N:=60) (LO:=zW (yKY pp qq k m d j)) qZH yQ (qZC (l:=[(90,o_is),(91,o_jn)]) (m:=[]) ⟨ok_is,ok_jn,trivial⟩ trivial) (fun p S hp => ?_) ?_
 ·refine jK (L:=qK Tf 60) (l:=(yKY pp qq k m d j)) (show AllP _ (yKY pp qq k m d j) from trivial) p S hp
 ·refine (pxppc0 pp qq k m d j).trans ?_;unfold pcB;rw [qHX (C:=cis) (t:=(pp,qq,k,m,d)) ⟨show k≤50 by omega,hm⟩,vYV];cases h:mtB pp qq k m d with
  | false=>rfl
  | true =>
   obtain ⟨_,_,e,d0,d1⟩:=zGV h;have hu:=u64_d ⟨d0,d1⟩;obtain ⟨_,n1,n2⟩:=yUI ⟨d0,d1⟩;have en:vJJ .i64 (1 * 2 ^ (min d.toNat 64))=pN d:=by unfold pN; rw [hu]
   by_cases h0:j < 0
   ·rw [vJQ h0,vYH (show ¬ 0≤j by omega)]; rfl
   ·rw [vYH h0,vJQ (show 0≤j by omega)];by_cases h1:pN d≤j
    ·simp only [hu,en,vJQ d0,vJQ h1,vYH (show ¬ j < pN d by omega),vYV,vYG,Bool.and_false]
    ·simp only [hu,en,vJQ d0,vYH h1,vJQ (show j < pN d by omega),qHX (C:=cjn) (t:=(pp,qq,k,m,d,j)) ⟨show k≤50 by omega,e,d0⟩,vJQ hk,vYV,vYG,vZJ]
theorem snd_ppc (pp qq:Nat→Int) (k m:Nat) (d j:Int) (hk:k≤16) (hm:m≤50):yZ Tryz.prog 60 [.lf k (fQ pp),.lf m (fQ qq),.n .i64 d,.n .i64 j] (.v (.t [.lf (bif pcB pp qq k m d j then k else 0) (fB (jI pp qq d j)),.b (pcB pp qq k m d j)])):=by
 have h:=snd_ppc0 pp qq k m d j hk hm;cases hc:pcB pp qq k m d j with
 | true=>rw [hc] at h; exact h
 | false=>rw [hc] at h; exact qYD (Same.t (xs:=[_,_]) ⟨Same.lf rfl,Same.refl _,trivial⟩) h
theorem snd_rpc (pp qq:Nat→Int) (k m:Nat) (d j:Int) (hk:k≤50) (hm:m≤50):yZ Tryz.prog 40 [.lf k (fQ pp),.lf m (fQ qq),.n .i64 d,.n .i64 j] (.v (.t [.lf (bif pcB pp qq k m d j then k else 0) (fB (jI pp qq d j)),.b (pcB pp qq k m d j)])):=by
 have h:=snd_rpc0 pp qq k m d j hk hm;cases hc:pcB pp qq k m d j with
 | true =>
  rw [hc] at h;unfold pcB at hc;simp only [vQJ,decide_eq_true_eq] at hc;obtain ⟨h1,h2,e,d0,d1⟩:=zGV hc.1;refine qYD (Same.t (xs:=[_,_]) ⟨zYF fun i (hi:i < k) => ?_,Same.refl _,trivial⟩) h;rw [fillF_get,if_pos ⟨Nat.zero_le _,by omega⟩,(rj_eq ⟨d0,d1⟩ hc.2 (yJF h1 hi) (yJF h2 (e ▸ hi))).1,(rj_eq ⟨d0,d1⟩ hc.2 (yJF h1 hi) (yJF h2 (e ▸ hi))).2];rfl
 | false=>rw [hc] at h; exact qYD (Same.t (xs:=[_,_]) ⟨Same.lf rfl,Same.refl _,trivial⟩) h
end Go.Proofs.YtfcofnclgajfeaaGreat.Pa
namespace Go.Proofs.YtfcofnclgajfeaaGreat.Nj2
open Go.Rx Rt Go.Sx Go.RowKit Od Na Nb Nc Nd Nx Nf Ng Nj
def hBr (cs:Nat→Cn) (vs:Nat→Iv) (c:Nat) (i:Int):St:=⟨[(1,.v (.lf c (fB vs))),(8,.v (.lf c (fC cs))),(9,.v (.n .i64 (c:Int))),(10,.v (.n .i64 i))],[]⟩
set_option maxRecDepth 100000 in
theorem rdBr (G:St→Option (Ret × Mem)) (K:Cont) (cs:Nat→Cn) (vs:Nat→Iv) (c:Nat) (i:Int):qWL 60 (cxF T (OrL.k ([]:OrL)) 60 42 (ntmF T 42)) (ckF T (OrL.k ([]:OrL)) 60) (qK T 42 [0,1,0,1]) ((cxF T (OrL.k ([]:OrL)) 60 42 (ntmF T 42)).T.hint (cxF T (OrL.k ([]:OrL)) 60 42 (ntmF T 42)).me (zV (qK T 42 [0,1,0,1]))) K G (hBr cs vs c i) =
 (bif (decide (i < (c:Int))) then (bif (inB i c) then (bif (inB i c) then (bif (decide ((vs (i).toNat).hi < (cs (i).toNat).lo)) then (K .ret ⟨[(4,.v (.n .i64 i)),(5,.v (.b true))],[]⟩)
 else (bif (decide ((cs (i).toNat).hi < (vs (i).toNat).lo)) then (K .ret ⟨[(4,.v (.n .i64 i)),(5,.v (.b true))],[]⟩)
 else (G (hBr cs vs c (vJJ .i64 (i + 1))))))
 else none)
 else none)
 else (K (.exit 0) ⟨[],[]⟩)):=by kernel_rfl
theorem lpBr (K:Cont) (cs:Nat→Cn) (vs:Nat→Iv) (c:Nat) (_:c≤50):LF 60 (cxF T (OrL.k ([]:OrL)) 60 42 (ntmF T 42)) (ckF T (OrL.k ([]:OrL)) 60) (qK T 42 [0,1,0,1]) ((cxF T (OrL.k ([]:OrL)) 60 42 (ntmF T 42)).T.hint (cxF T (OrL.k ([]:OrL)) 60 42 (ntmF T 42)).me (zV (qK T 42 [0,1,0,1]))) K 60 (hBr cs vs c 0)=bif (allN (fun i:Nat => !(outR (cs i) (vs i))) c 0) then (K (.exit 0) ⟨[],[]⟩) else (K .ret ⟨[(4,.v (.n .i64 ((Rx.firstK (fun i:Nat => !(outR (cs i) (vs i))) c 0:Nat):Int))),(5,.v (.b true))],[]⟩):=by
 refine (qWF (c:=c) (hBr cs vs c) (fun i:Nat => !(outR (cs i) (vs i))) (K (.exit 0) ⟨[],[]⟩) (fun i:Nat=>(K .ret ⟨[(4,.v (.n .i64 (i:Int))),(5,.v (.b true))],[]⟩)) (fun G i hi => ?_) (fun G => ?_) c 0 60 (by omega) (by omega)).trans (qJL _ _ _ _ _)
 ·refine (rdBr G K cs vs c i).trans ?_;rw [vJQ (show (i:Int) < (c:Int) by omega),qZQ (by omega),kZ (show i < c by omega),toN];unfold outR;cases decide ((vs i).hi < (cs i).lo) <;> cases decide ((cs i).hi < (vs i).lo) <;> rfl
 ·refine (rdBr G K cs vs c c).trans ?_;rw [vYH (show ¬ (c:Int) < (c:Int) by omega)];rfl
def nbrB (cs:Nat→Cn) (vs:Nat→Iv) (c:Nat):Bool:=(allN (fun i:Nat => !(outR (cs i) (vs i))) c 0)
def brkI (cs:Nat→Cn) (vs:Nat→Iv) (c:Nat):Int:=bif nbrB cs vs c then 0 else ((Rx.firstK (fun i:Nat => !(outR (cs i) (vs i))) c 0:Nat):Int)
set_option maxRecDepth 100000 in
theorem pxbrkn (cs:Nat→Cn) (vs:Nat→Iv) (c:Nat):qKH T (OrL.k ([]:OrL)) (zW [([0,1,0,1],yW (hBr cs vs c 0) (fun K=>(bif (decide (c≤50)) then (bif (allN (fun i:Nat => !(outR (cs i) (vs i))) c 0) then (K (.exit 0) ⟨[],[]⟩) else (K .ret ⟨[(4,.v (.n .i64 ((Rx.firstK (fun i:Nat => !(outR (cs i) (vs i))) c 0:Nat):Int))),(5,.v (.b true))],[]⟩)) else none)))]) 60 42 [.lf c (fC cs),.lf c (fB vs)] =
 (bif (gSt (hBr cs vs c 0) (hBr cs vs c 0)) then (bif (decide (c≤50)) then (bif (allN (fun i:Nat => !(outR (cs i) (vs i))) c 0) then some (.v (.t [.n .i64 0,.b false]),[])
 else some (.v (.t [.n .i64 ((Rx.firstK (fun i:Nat => !(outR (cs i) (vs i))) c 0:Nat):Int),.b true]),[]))
 else none)
 else none):=by kernel_rfl
theorem snd_brkn (cs:Nat→Cn) (vs:Nat→Iv) (c:Nat) (hc:c≤50):yZ Tryz.prog 42 [.lf c (fC cs),.lf c (fB vs)] (.v (.t [.n .i64 (brkI cs vs c),.b (!nbrB cs vs c)])):=by
 refine yH (N:=60) (LO:=zW [([0,1,0,1],yW (hBr cs vs c 0) (fun K=>(bif (decide (c≤50)) then (bif (allN (fun i:Nat => !(outR (cs i) (vs i))) c 0) then (K (.exit 0) ⟨[],[]⟩) else (K .ret ⟨[(4,.v (.n .i64 ((Rx.firstK (fun i:Nat => !(outR (cs i) (vs i))) c 0:Nat):Int))),(5,.v (.b true))],[]⟩)) else none)))]) yY yQ (OrL.ok (l:=([]:OrL)) trivial) (fun p S hp => ?_) ?_
 ·refine kQ (L:=qK T 42) (l:=[([0,1,0,1],yW (hBr cs vs c 0) (fun K=>(bif (decide (c≤50)) then (bif (allN (fun i:Nat => !(outR (cs i) (vs i))) c 0) then (K (.exit 0) ⟨[],[]⟩) else (K .ret ⟨[(4,.v (.n .i64 ((Rx.firstK (fun i:Nat => !(outR (cs i) (vs i))) c 0:Nat):Int))),(5,.v (.b true))],[]⟩)) else none)))]) (show AllP _ [([0,1,0,1],yW (hBr cs vs c 0) (fun K=>(bif (decide (c≤50)) then (bif (allN (fun i:Nat => !(outR (cs i) (vs i))) c 0) then (K (.exit 0) ⟨[],[]⟩) else (K .ret ⟨[(4,.v (.n .i64 ((Rx.firstK (fun i:Nat => !(outR (cs i) (vs i))) c 0:Nat):Int))),(5,.v (.b true))],[]⟩)) else none)))] from ⟨kW fun K r hr => ?_,trivial⟩) p S hp
  ·obtain ⟨hg,hr⟩:=qQ hr;have hc:=vJZ hg;exact (lpBr K cs vs c hc).trans hr
 ·refine (pxbrkn cs vs c).trans ?_;unfold brkI nbrB;rw [jG,vJQ hc];cases (allN (fun i:Nat => !(outR (cs i) (vs i))) c 0) <;> rfl
noncomputable def brB (js:Nat→J) (ms:Nat→Ms) (bx:Nat→Iv) (n m k:Nat) (c:Cn):Bool:=vOk js ms bx n m k c && outR c ⟨vLo js ms bx n m k c,vHi js ms bx n m k c⟩
theorem snd_brs (js:Nat→J) (ms:Nat→Ms) (bx:Nat→Iv) (n m k:Nat) (c:Cn) (hk:k≤50):yZ Tryz.prog 44 [.a [.lf n (fJ js),.lf m (fM ms)],.a (cp c),.lf k (fB bx)] (.v (.b (brB js ms bx n m k c))):=by
 refine qX (N:=60) yY yQ (OrL.ok (l:=[(47,o_rv js ms bx n m k)]) ⟨ok_rv js ms bx n m k,trivial⟩) ?_;refine (by kernel_rfl:_=bif (g1 [.a [.lf n (fJ js),.lf m (fM ms)],.a (cp c),.lf k (fB bx)] && decide (k≤50)) then (bif (vOk js ms bx n m k c) then (bif (decide ((vHi js ms bx n m k c) < c.lo)) then some (.v (.b true),[])
 else bif (decide (c.hi < (vLo js ms bx n m k c))) then some (.v (.b true),[])
 else some (.v (.b false),[]))
 else some (.v (.b false),[]))
 else none).trans ?_
 unfold brB outR;simp only [g1_t,vJQ hk,vZJ,vYV];cases vOk js ms bx n m k c <;> cases decide (vHi js ms bx n m k c < c.lo) <;> cases decide (c.hi < vLo js ms bx n m k c) <;> rfl
noncomputable def o_bs (js:Nat→J) (ms:Nat→Ms) (bx:Nat→Iv) (n m k:Nat):List PV→Option (Bool × Ret):=fun ps=>match ps with
 | [r,.a c,b]=>some (gEq (.t ps) (.t [.a [.lf n (fJ js),.lf m (fM ms)],.a (cp (unC c)),.lf k (fB bx)]) && decide (k≤50),.v (.b (brB js ms bx n m k (unC c))))
 | _=>none
theorem ok_bs (js:Nat→J) (ms:Nat→Ms) (bx:Nat→Iv) (n m k:Nat):zY Tryz.prog 44 (o_bs js ms bx n m k):=by
 intro ps q hh;unfold o_bs at hh;split at hh
 ·simp only [vQZ,vQY,vQJ] at hh;obtain ⟨⟨hg,hb⟩,rfl⟩:=hh
  have:=qXG hg
  simp only [PV.t.injEq] at this;rw [this];exact snd_brs js ms bx n m k _ (vJZ hb)
 ·cases hh
def hRb (js:Nat→J) (ms:Nat→Ms) (bx:Nat→Iv) (n m k:Nat) (cs:Nat→Cn) (c:Nat) (i:Int):St:=⟨[(1,.v (.lf c (fC cs))),(2,.v (.lf k (fB bx))),(3,.p 3 0),(8,.v (.n .i64 i))],[(3,.blk [.v (.lf n (fJ js)),.v (.lf m (fM ms))])]⟩
set_option maxRecDepth 100000 in
theorem rdRb (G:St→Option (Ret × Mem)) (K:Cont) (js:Nat→J) (ms:Nat→Ms) (bx:Nat→Iv) (n m k:Nat) (cs:Nat→Cn) (c:Nat) (i:Int):qWL 60 (cxF T (OrL.k [(43,o_cr [.a [.lf n (fJ js),.lf m (fM ms)],.lf c (fC cs)] (.v (.b (cErr js ms n m cs c)))),(44,o_bs js ms bx n m k)]) 60 26 (ntmF T 26)) (ckF T (OrL.k [(43,o_cr [.a [.lf n (fJ js),.lf m (fM ms)],.lf c (fC cs)] (.v (.b (cErr js ms n m cs c)))),(44,o_bs js ms bx n m k)]) 60) (qK T 26 [0,1,0,1,1]) ((cxF T (OrL.k [(43,o_cr [.a [.lf n (fJ js),.lf m (fM ms)],.lf c (fC cs)] (.v (.b (cErr js ms n m cs c)))),(44,o_bs js ms bx n m k)]) 60 26 (ntmF T 26)).T.hint (cxF T (OrL.k [(43,o_cr [.a [.lf n (fJ js),.lf m (fM ms)],.lf c (fC cs)] (.v (.b (cErr js ms n m cs c)))),(44,o_bs js ms bx n m k)]) 60 26 (ntmF T 26)).me (zV (qK T 26 [0,1,0,1,1]))) K G (hRb js ms bx n m k cs c i) =
 (bif (decide (i < (c:Int))) then (bif (inB i c) then (bif (g1 [.a [.lf n (fJ js),.lf m (fM ms)],.a [.n .i64 (cs (i).toNat).kind,.n .i64 (cs (i).toNat).link,.n .i64 (cs (i).toNat).p.x,.n .i64 (cs (i).toNat).p.y,.n .i64 (cs (i).toNat).p.z,.n .i64 (cs (i).toNat).n.x,.n .i64 (cs (i).toNat).n.y,.n .i64 (cs (i).toNat).n.z,.n .i64 (cs (i).toNat).lo,.n .i64 (cs (i).toNat).hi],.lf k (fB bx)] && decide (k≤50)) then (bif (brB js ms bx n m k (cs (i).toNat)) then (K .ret ⟨[(6,.v (.n .i64 i)),(7,.v (.b true))],[]⟩)
 else (G (hRb js ms bx n m k cs c (vJJ .i64 (i + 1)))))
 else none)
 else none)
 else (K (.exit 0) ⟨[],[]⟩)):=by kernel_rfl
theorem lpRb (K:Cont) (js:Nat→J) (ms:Nat→Ms) (bx:Nat→Iv) (n m k:Nat) (cs:Nat→Cn) (c:Nat) (_:c≤50) (hk:k≤50):LF 60 (cxF T (OrL.k [(43,o_cr [.a [.lf n (fJ js),.lf m (fM ms)],.lf c (fC cs)] (.v (.b (cErr js ms n m cs c)))),(44,o_bs js ms bx n m k)]) 60 26 (ntmF T 26)) (ckF T (OrL.k [(43,o_cr [.a [.lf n (fJ js),.lf m (fM ms)],.lf c (fC cs)] (.v (.b (cErr js ms n m cs c)))),(44,o_bs js ms bx n m k)]) 60) (qK T 26 [0,1,0,1,1]) ((cxF T (OrL.k [(43,o_cr [.a [.lf n (fJ js),.lf m (fM ms)],.lf c (fC cs)] (.v (.b (cErr js ms n m cs c)))),(44,o_bs js ms bx n m k)]) 60 26 (ntmF T 26)).T.hint (cxF T (OrL.k [(43,o_cr [.a [.lf n (fJ js),.lf m (fM ms)],.lf c (fC cs)] (.v (.b (cErr js ms n m cs c)))),(44,o_bs js ms bx n m k)]) 60 26 (ntmF T 26)).me (zV (qK T 26 [0,1,0,1,1]))) K 60 (hRb js ms bx n m k cs c 0)=bif (allN (fun i:Nat => !(brB js ms bx n m k (cs i))) c 0) then (K (.exit 0) ⟨[],[]⟩) else (K .ret ⟨[(6,.v (.n .i64 ((Rx.firstK (fun i:Nat => !(brB js ms bx n m k (cs i))) c 0:Nat):Int))),(7,.v (.b true))],[]⟩):=by
 refine (qWF (c:=c) (hRb js ms bx n m k cs c) (fun i:Nat => !(brB js ms bx n m k (cs i))) (K (.exit 0) ⟨[],[]⟩) (fun i:Nat=>(K .ret ⟨[(6,.v (.n .i64 (i:Int))),(7,.v (.b true))],[]⟩)) (fun G i hi => ?_) (fun G => ?_) c 0 60 (by omega) (by omega)).trans (qJL _ _ _ _ _)
 ·refine (rdRb G K js ms bx n m k cs c i).trans ?_;simp only [vJQ (show (i:Int) < (c:Int) by omega),qZQ (show i < 1000000 by omega),kZ (show i < c by omega),toN,g1_t,vJQ hk,vZJ,vYV];cases brB js ms bx n m k (cs i) <;> rfl
 ·refine (rdRb G K js ms bx n m k cs c c).trans ?_;rw [vYH (show ¬ (c:Int) < (c:Int) by omega)];rfl
noncomputable def rNbr (js:Nat→J) (ms:Nat→Ms) (bx:Nat→Iv) (n m k:Nat) (cs:Nat→Cn) (c:Nat):Bool:=(allN (fun i:Nat => !(brB js ms bx n m k (cs i))) c 0)
noncomputable def rBrI (js:Nat→J) (ms:Nat→Ms) (bx:Nat→Iv) (n m k:Nat) (cs:Nat→Cn) (c:Nat):Int:=bif rNbr js ms bx n m k cs c then 0 else ((Rx.firstK (fun i:Nat => !(brB js ms bx n m k (cs i))) c 0:Nat):Int)
set_option maxRecDepth 100000 in
theorem pxRBr (js:Nat→J) (ms:Nat→Ms) (bx:Nat→Iv) (n m k:Nat) (cs:Nat→Cn) (c:Nat):qKH T (OrL.k [(43,o_cr [.a [.lf n (fJ js),.lf m (fM ms)],.lf c (fC cs)] (.v (.b (cErr js ms n m cs c)))),(44,o_bs js ms bx n m k)]) (zW [([0,1,0,1,1],yW (hRb js ms bx n m k cs c 0) (fun K=>(bif (decide (c≤50) && decide (k≤50)) then (bif (allN (fun i:Nat => !(brB js ms bx n m k (cs i))) c 0) then (K (.exit 0) ⟨[],[]⟩) else (K .ret ⟨[(6,.v (.n .i64 ((Rx.firstK (fun i:Nat => !(brB js ms bx n m k (cs i))) c 0:Nat):Int))),(7,.v (.b true))],[]⟩)) else none)))]) 60 26 [.a [.lf n (fJ js),.lf m (fM ms)],.lf c (fC cs),.lf k (fB bx)] =
 (bif (g1 [.a [.lf n (fJ js),.lf m (fM ms)],.lf c (fC cs)]) then (bif (cErr js ms n m cs c) then (bif (gSt (hRb js ms bx n m k cs c 0) (hRb js ms bx n m k cs c 0)) then (bif (decide (c≤50) && decide (k≤50)) then (bif (allN (fun i:Nat => !(brB js ms bx n m k (cs i))) c 0) then some (.v (.t [.n .i64 0,.b false]),[])
 else some (.v (.t [.n .i64 ((Rx.firstK (fun i:Nat => !(brB js ms bx n m k (cs i))) c 0:Nat):Int),.b true]),[]))
 else none)
 else none)
 else some (.v (.t [.n .i64 0,.b false]),[]))
 else none):=by kernel_rfl
theorem snd_RBr (js:Nat→J) (ms:Nat→Ms) (bx:Nat→Iv) (n m k:Nat) (cs:Nat→Cn) (c:Nat) (hk:k≤50):yZ Tryz.prog 26 [.a [.lf n (fJ js),.lf m (fM ms)],.lf c (fC cs),.lf k (fB bx)] (.v (.t [.n .i64 (bif (cErr js ms n m cs c) then rBrI js ms bx n m k cs c else 0),.b ((cErr js ms n m cs c) && !rNbr js ms bx n m k cs c)])):=by
 refine yH (N:=60) (LO:=zW [([0,1,0,1,1],yW (hRb js ms bx n m k cs c 0) (fun K=>(bif (decide (c≤50) && decide (k≤50)) then (bif (allN (fun i:Nat => !(brB js ms bx n m k (cs i))) c 0) then (K (.exit 0) ⟨[],[]⟩) else (K .ret ⟨[(6,.v (.n .i64 ((Rx.firstK (fun i:Nat => !(brB js ms bx n m k (cs i))) c 0:Nat):Int))),(7,.v (.b true))],[]⟩)) else none)))]) yY yQ (OrL.ok (l:=[(43,o_cr [.a [.lf n (fJ js),.lf m (fM ms)],.lf c (fC cs)] (.v (.b (cErr js ms n m cs c)))),(44,o_bs js ms bx n m k)]) ⟨qJZ (yJE js ms n m cs c),ok_bs js ms bx n m k,trivial⟩) (fun p S hp => ?_) ?_
 ·refine kQ (L:=qK T 26) (l:=[([0,1,0,1,1],yW (hRb js ms bx n m k cs c 0) (fun K=>(bif (decide (c≤50) && decide (k≤50)) then (bif (allN (fun i:Nat => !(brB js ms bx n m k (cs i))) c 0) then (K (.exit 0) ⟨[],[]⟩) else (K .ret ⟨[(6,.v (.n .i64 ((Rx.firstK (fun i:Nat => !(brB js ms bx n m k (cs i))) c 0:Nat):Int))),(7,.v (.b true))],[]⟩)) else none)))]) (show AllP _ [([0,1,0,1,1],yW (hRb js ms bx n m k cs c 0) (fun K=>(bif (decide (c≤50) && decide (k≤50)) then (bif (allN (fun i:Nat => !(brB js ms bx n m k (cs i))) c 0) then (K (.exit 0) ⟨[],[]⟩) else (K .ret ⟨[(6,.v (.n .i64 ((Rx.firstK (fun i:Nat => !(brB js ms bx n m k (cs i))) c 0:Nat):Int))),(7,.v (.b true))],[]⟩)) else none)))] from ⟨kW fun K r hr => ?_,trivial⟩) p S hp
  ·obtain ⟨hg,hr⟩:=qQ hr;rw [vQJ] at hg;have hc:=vJZ hg.1;have hk:=vJZ hg.2;exact (lpRb K js ms bx n m k cs c hc hk).trans hr
 ·refine (pxRBr js ms bx n m k cs c).trans ?_;unfold rBrI rNbr;simp only [jG,g1_t,vJQ hk];cases hc:(cErr js ms n m cs c) with
  | false=>rfl
  | true =>
   have h8:=(qUH hc).2.1;simp only [vJQ (show c≤50 by omega),Bool.and_true];cases (allN (fun i:Nat => !(brB js ms bx n m k (cs i))) c 0) <;> rfl
theorem firstK_congr {g g':Nat→Bool}:∀ {k p:Nat},(∀ j,p≤j→j < p + k→g j=g' j)→Go.Rx.firstK g k p=Go.Rx.firstK g' k p
 | 0,_,_=>rfl
 | k + 1,p,h=>by simp only [Go.Rx.firstK,h p (Nat.le_refl _) (by omega),firstK_congr (k:=k) (p:=p + 1) fun j h1 h2=>h j (by omega) (by omega)]
theorem nbr_eq (js:Nat→J) (ms:Nat→Ms) (bx:Nat→Iv) (n m k:Nat) (cs:Nat→Cn) (c:Nat) (hc:(cErr js ms n m cs c)=true) (hp:pIn js ms bx n m k=true):rNbr js ms bx n m k cs c=nbrB cs (vI js bx n cs) c∧rBrI js ms bx n m k cs c=brkI cs (vI js bx n cs) c:=by
 have e:∀ j,0≤j→j < 0 + c→(!brB js ms bx n m k (cs j)) = !outR (cs j) (vI js bx n cs j):=fun j _ hj=>by
  unfold brB;rw [yUB js ms bx n m k cs c hc (by omega),hp,vI_of js ms bx n m k cs c hc hp (by omega),vZH]
 have e1:rNbr js ms bx n m k cs c=nbrB cs (vI js bx n cs) c:=by unfold rNbr nbrB; exact zJU e
 refine ⟨e1,?_⟩;unfold rBrI brkI;rw [e1,firstK_congr e]
theorem nbr_no (js:Nat→J) (ms:Nat→Ms) (bx:Nat→Iv) (n m k:Nat) (cs:Nat→Cn) (c:Nat) (hc:(cErr js ms n m cs c)=true) (hp:pIn js ms bx n m k=false):rNbr js ms bx n m k cs c=true:=by
 unfold rNbr;refine allN_iff.2 fun j _ hj => ?_
 unfold brB;rw [yUB js ms bx n m k cs c hc (by omega),hp]; rfl
theorem brk_eq (js:Nat→J) (ms:Nat→Ms) (bx:Nat→Iv) (n m k:Nat) (cs:Nat→Cn) (c:Nat):(bif (cErr js ms n m cs c) then rBrI js ms bx n m k cs c else 0)=(bif (cErr js ms n m cs c) && pIn js ms bx n m k then brkI cs (vI js bx n cs) c else 0)∧((cErr js ms n m cs c) && !rNbr js ms bx n m k cs c)=((cErr js ms n m cs c) && pIn js ms bx n m k && !nbrB cs (vI js bx n cs) c):=by
 cases hc:(cErr js ms n m cs c) with
 | false=>exact ⟨rfl,rfl⟩
 | true =>
  cases hp:pIn js ms bx n m k with
  | false =>
   have:=nbr_no js ms bx n m k cs c hc hp
   refine ⟨?_,by rw [this]; rfl⟩;unfold rBrI;rw [this]; rfl
  | true =>
   obtain ⟨e1,e2⟩:=nbr_eq js ms bx n m k cs c hc hp;rw [e1,e2];exact ⟨rfl,by simp⟩
theorem snd_RBr' (js:Nat→J) (ms:Nat→Ms) (bx:Nat→Iv) (n m k:Nat) (cs:Nat→Cn) (c:Nat) (hk:k≤50):yZ Tryz.prog 26 [.a [.lf n (fJ js),.lf m (fM ms)],.lf c (fC cs),.lf k (fB bx)] (.v (.t [.n .i64 (bif (cErr js ms n m cs c) && pIn js ms bx n m k then brkI cs (vI js bx n cs) c else 0),.b ((cErr js ms n m cs c) && pIn js ms bx n m k && !nbrB cs (vI js bx n cs) c)])):=by
 have h:=snd_RBr js ms bx n m k cs c hk;obtain ⟨e1,e2⟩:=brk_eq js ms bx n m k cs c;rw [e1,e2] at h;exact h
end Go.Proofs.YtfcofnclgajfeaaGreat.Nj2
namespace Go.Proofs.YtfcofnclgajfeaaGreat.Pb
open Go.Rx Rt Go.Sx Go.RowKit Od Oe Na Nb Nc Nd Nx Nf Ng Nj Nj2 Nl Nm Pa
noncomputable def vE (js:Nat→J) (n:Nat) (cs:Nat→Cn) (pp qq:Nat→Int) (d i:Int):Nat→Iv:=vI js (jI pp qq d i) n cs
abbrev Exs:=Nat × (Nat→Int) × (Nat→Int) × Int × Int × Int × Int
def p3 (pd pi:Nat→Int):Nat→List PV:=fun v=>[.n .i64 (pd v),.n .i64 (pi v),.l []]
def z0:Nat→Int:=fun _=>0
def exR (h b:Int→Int→Bool) (y:Int→Int→Int):Nat→Int→Int→Exs→Bool × Exs
 | x,d,i,s=>if 4096≤s.1 then (false,0,z0,z0,0,d,i,0) else if h d i=true then (true,s.1 + 1,(fun v=>bif Nat.beq v s.1 then d else s.2.1 v),(fun v=>bif Nat.beq v s.1 then i else s.2.2.1 v),s.2.2.2) else if b d i=true then (false,0,z0,z0,2,d,i,y d i) else match x with
  | 0=>(false,0,z0,z0,0,d,i,0)
  | x + 1=>if (exR h b y x (d + 1) (2 * i) s).1=true then exR h b y x (d + 1) (2 * i + 1) (exR h b y x (d + 1) (2 * i) s).2 else exR h b y x (d + 1) (2 * i) s
noncomputable def hE (js:Nat→J) (_:Nat→Ms) (n m:Nat) (cs:Nat→Cn) (c:Nat) (pp qq:Nat→Int) (k:Nat) (d i:Int):Bool:=yYI cs (vE js n cs pp qq d i) c
noncomputable def bE (js:Nat→J) (_:Nat→Ms) (n m:Nat) (cs:Nat→Cn) (c:Nat) (pp qq:Nat→Int) (k:Nat) (d i:Int):Bool:=!nbrB cs (vE js n cs pp qq d i) c
noncomputable def yE (js:Nat→J) (_:Nat→Ms) (n m:Nat) (cs:Nat→Cn) (c:Nat) (pp qq:Nat→Int) (k:Nat) (d i:Int):Int:=brkI cs (vE js n cs pp qq d i) c
noncomputable def exE (js:Nat→J) (ms:Nat→Ms) (n m:Nat) (cs:Nat→Cn) (c:Nat) (pp qq:Nat→Int) (k:Nat):Nat→Int→Int→Exs→Bool × Exs:=exR (hE js ms n m cs c pp qq k) (bE js ms n m cs c pp qq k) (yE js ms n m cs c pp qq k)
def cE (js:Nat→J) (ms:Nat→Ms) (n m:Nat) (cs:Nat→Cn) (c:Nat) (pp qq:Nat→Int) (k:Nat) (D:Int) (s:Exs):List PV:=match s with | (cnt,pd,pi,kd,ad,ai,pr)=>[.lf n (fJ js),.lf m (fM ms),.lf c (fC cs),.lf k (fQ pp),.lf k (fQ qq),.n .i64 D,.n .i64 kd,.gs 54 3 (.lf cnt (p3 pd pi)),.n .i64 ad,.n .i64 ai,.l [],.n .i64 pr,.zs,.zs]
def cZ (js:Nat→J) (ms:Nat→Ms) (n m:Nat) (cs:Nat→Cn) (c:Nat) (pp qq:Nat→Int) (k:Nat) (D:Int) (s:Exs):List PV:=match s with | (_,_,_,kd,ad,ai,pr)=>[.lf n (fJ js),.lf m (fM ms),.lf c (fC cs),.lf k (fQ pp),.lf k (fQ qq),.n .i64 D,.n .i64 kd,.zs,.n .i64 ad,.n .i64 ai,.l [],.n .i64 pr,.zs,.zs]
def cex (x:Nat) (d:Int):Int × Int × Exs→Prop:=fun t=>match x with
 | 0=>False
 | _ + 1=>t.1=d + 1∧0≤t.2.1∧t.2.1 < 2 ^ (d + 1).toNat
def hex:Int × Int × Exs→List HV:=fun t=>[.p 1000000 0,.v (.n .i64 t.1),.v (.n .i64 t.2.1)]
def eex (js:Nat→J) (ms:Nat→Ms) (n m:Nat) (cs:Nat→Cn) (c:Nat) (pp qq:Nat→Int) (k:Nat) (D:Int):Int × Int × Exs→List PV:=fun t=>cE js ms n m cs c pp qq k D t.2.2
def xex (E:Int→Int→Exs→Bool × Exs):Int × Int × Exs→PV:=fun t=>.b (E t.1 t.2.1 t.2.2).1
def qex (js:Nat→J) (ms:Nat→Ms) (n m:Nat) (cs:Nat→Cn) (c:Nat) (pp qq:Nat→Int) (k:Nat) (D:Int) (E:Int→Int→Exs→Bool × Exs):Int × Int × Exs→List PV:=fun t=>cE js ms n m cs c pp qq k D (E t.1 t.2.1 t.2.2).2
def unp (f:Nat→List PV) (k:Nat):Nat→Int:=fun v=>match (f v)[k]? with
 | some (.n _ i)=>i
 | _=>0
def dex:List HV→List PV→Int × Int × Exs:=fun hs ps=>match hs,ps with
 | [.p _ _,.v (.n _ dd),.v (.n _ i)],[_,_,_,_,_,_,.n _ kd,.gs _ _ (.lf cnt f),.n _ ad,.n _ ai,_,.n _ pr,_,_]=>(dd,i,cnt,unp f 0,unp f 1,kd,ad,ai,pr)
 | _,_=>(0,0,0,z0,z0,0,0,0,0)
noncomputable def o_ex (js:Nat→J) (ms:Nat→Ms) (n m:Nat) (cs:Nat→Cn) (c:Nat) (pp qq:Nat→Int) (k:Nat) (D:Int) (x:Nat) (d:Int) (E:Int→Int→Exs→Bool × Exs):List HV→List PV→Option (Bool × (PV × List PV)):=o_fb dex (cex x d) hex (eex js ms n m cs c pp qq k D) (xex E) (qex js ms n m cs c pp qq k D E)
noncomputable def orex (js:Nat→J) (ms:Nat→Ms) (n m:Nat) (cs:Nat→Cn) (c:Nat) (pp qq:Nat→Int) (k:Nat) (D:Int) (x:Nat) (d i:Int) (E:Int→Int→Exs→Bool × Exs):OrS:=orS [(60,o_lk [.lf k (fQ pp),.lf k (fQ qq),.n .i64 d,.n .i64 i] ((pcB pp qq k k d i && decide (k≤16))) (.v (.t [.lf k (fB (jI pp qq d i)),.b true]))),(32,o_lk [.a [.lf n (fJ js),.lf m (fM ms)],.lf c (fC cs),.lf k (fB (jI pp qq d i))] (((cErr js ms n m cs c) && pIn js ms (jI pp qq d i) n m k)) (.v (.lf c (fB (vE js n cs pp qq d i))))),(45,o_lk [.lf c (fC cs),.lf c (fB (vE js n cs pp qq d i))] ((decide (c≤50))) (.v (.b (hE js ms n m cs c pp qq k d i)))),(42,o_lk [.lf c (fC cs),.lf c (fB (vE js n cs pp qq d i))] ((decide (c≤50))) (.v (.t [.n .i64 (yE js ms n m cs c pp qq k d i),.b (bE js ms n m cs c pp qq k d i)])))] [(34,o_ex js ms n m cs c pp qq k D x d E)]
set_option maxRecDepth 100000 in
theorem pxex (js:Nat→J) (ms:Nat→Ms) (n m:Nat) (cs:Nat→Cn) (c:Nat) (pp qq:Nat→Int) (k:Nat) (D:Int) (x:Nat) (d i:Int) (E:Int→Int→Exs→Bool × Exs) (cnt:Nat) (pd pi:Nat→Int) (kd ad ai pr:Int):zVX Tf (orex js ms n m cs c pp qq k D x d i E) (zW []) 60 34 [.p 1000000 0,.v (.n .i64 d),.v (.n .i64 i)] (cE js ms n m cs c pp qq k D (cnt,pd,pi,kd,ad,ai,pr)) =
 (bif (decide (4096≤(cnt:Int))) then some (.v (.t (.b false :: cZ js ms n m cs c pp qq k D (0,z0,z0,0,d,i,0))),[])
 else (bif (g1 [.lf k (fQ pp),.lf k (fQ qq),.n .i64 d,.n .i64 i] && (pcB pp qq k k d i && decide (k≤16))) then (bif (g1 [.a [.lf n (fJ js),.lf m (fM ms)],.lf c (fC cs),.lf k (fB (jI pp qq d i))] && ((cErr js ms n m cs c) && pIn js ms (jI pp qq d i) n m k)) then (bif (g1 [.lf c (fC cs),.lf c (fB (vE js n cs pp qq d i))] && (decide (c≤50))) then (bif (hE js ms n m cs c pp qq k d i) then (bif (decide (cnt + 1≤1000000)) then some (.v (.t (.b true :: cE js ms n m cs c pp qq k D ((cnt + 1),(fun v=>(bif (Nat.beq v cnt) then d else (pd v))),(fun v=>(bif (Nat.beq v cnt) then i else (pi v))),kd,ad,ai,pr))),[])
 else none)
 else (bif (g1 [.lf c (fC cs),.lf c (fB (vE js n cs pp qq d i))] && (decide (c≤50))) then (bif (bE js ms n m cs c pp qq k d i) then some (.v (.t (.b false :: cZ js ms n m cs c pp qq k D (0,z0,z0,2,d,i,(yE js ms n m cs c pp qq k d i)))),[])
 else (bif (decide (d < D)) then (bif (gB1 (cex x d) hex (eex js ms n m cs c pp qq k D) ((vJJ .i64 (d + 1)),(vJJ .i64 (2 * i)),(cnt,pd,pi,kd,ad,ai,pr))) then (bif (E (vJJ .i64 (d + 1)) (vJJ .i64 (2 * i)) (cnt,pd,pi,kd,ad,ai,pr)).1 then (bif (gB1 (cex x d) hex (eex js ms n m cs c pp qq k D) ((vJJ .i64 (d + 1)),(vJJ .i64 ((vJJ .i64 (2 * i)) + 1)),(E (vJJ .i64 (d + 1)) (vJJ .i64 (2 * i)) (cnt,pd,pi,kd,ad,ai,pr)).2)) then (bif (E (vJJ .i64 (d + 1)) (vJJ .i64 ((vJJ .i64 (2 * i)) + 1)) (E (vJJ .i64 (d + 1)) (vJJ .i64 (2 * i)) (cnt,pd,pi,kd,ad,ai,pr)).2).1 then some (.v (.t (.b true :: cE js ms n m cs c pp qq k D (E (vJJ .i64 (d + 1)) (vJJ .i64 ((vJJ .i64 (2 * i)) + 1)) (E (vJJ .i64 (d + 1)) (vJJ .i64 (2 * i)) (cnt,pd,pi,kd,ad,ai,pr)).2).2)),[])
 else some (.v (.t (.b false :: cE js ms n m cs c pp qq k D (E (vJJ .i64 (d + 1)) (vJJ .i64 ((vJJ .i64 (2 * i)) + 1)) (E (vJJ .i64 (d + 1)) (vJJ .i64 (2 * i)) (cnt,pd,pi,kd,ad,ai,pr)).2).2)),[]))
 else none)
 else some (.v (.t (.b false :: cE js ms n m cs c pp qq k D (E (vJJ .i64 (d + 1)) (vJJ .i64 (2 * i)) (cnt,pd,pi,kd,ad,ai,pr)).2)),[]))
 else none)
 else some (.v (.t (.b false :: cZ js ms n m cs c pp qq k D (0,z0,z0,0,d,i,0))),[])))
 else none))
 else none)
 else none)
 else none)):=by kernel_rfl
end Go.Proofs.YtfcofnclgajfeaaGreat.Pb
namespace Go.Proofs.YtfcofnclgajfeaaGreat.Ta
open Go.Rx Rt Go.Sx Go.RowKit Od Oe Na Nb Nc Nd Nx Nf Ng Nj Nj2 Nl Nm Pa Pb
theorem gs_nil {F:Nat→Prop} {w:World} {e sz:Nat} {f:Nat→List PV} {v:Value} (h0:0 < sz) (h:RP F w .zs v):GsR F w none (.gs e sz (.lf 0 f)) v:=by
 cases h;refine ⟨.fo 0 f,0,[],rfl,rfl,h0,Al.nil,fun _ h=>(List.not_mem_nil h).elim,fun _ h=>(List.not_mem_nil h).elim,?_⟩;exact ⟨by simp [Rows.len],.inl ⟨rfl,rfl⟩⟩
theorem zs_l {F:Nat→Prop} {w:World} {v:Value} (h:RP F w .zs v):RP F w (.l []) v:=by
 cases h;constructor
theorem q_in {P:Program} {g:Nat} {hs:List HV} {ps ps0 ps':List PV} {x:PV} (h:∀ F w A us,Al (GsR F w A) ps us→∃ A0,(A0=A ∨ A0=none)∧Al (GsR F w A0) ps0 us) (ho:oneG ps0=true) (hq:qHV P g hs ps0 x ps'):qHV P g hs ps x ps':=by
 refine ⟨hq.1,fun w F b A vals us ty h1 h2 h3 h4 _ h6 h7 h8 h9 h10 => ?_⟩;obtain ⟨A0,hA,hal⟩:=h F w A us h6;have sub:∀ k,A0.map (·.block)=some k→A.map (·.block)=some k:=fun k hk=>by
  rcases hA with rfl | rfl
  ·exact hk
  ·cases hk
 refine (hq.2 w F b A0 vals us ty h1 h2 h3 h4 ho hal h7 (fun k hk=>h8 k (sub k hk)) h9 h10).mono ?_
 rintro en w' ⟨v,F',us',ty',A',e1,e2,e3,e4,e5,e6,e7,e8,e9⟩
 refine ⟨v,F',us',ty',A',e1,⟨e2.os,e2.tape,e2.output,e2.size,fun k hk hn=>e2.block k hk fun hh=>hn (hh.imp id (sub k))⟩,e3,fun k hk => ?_,e5,e6,e7,e8,fun k hk => ?_⟩
 ·exact (e4 k hk).imp id fun hh=>hh.imp id (sub k)
 ·obtain ⟨d1,d2,d3,d4⟩:=e9 k hk;exact ⟨d1,d2,d3,d4.imp id (sub k)⟩
theorem yHQ {P:Program} {g:Nat} {hs:List HV} {ps ps' ps1:List PV} {x:PV} (h:∀ F w A us,Al (GsR F w A) ps' us→∃ A0,(A0=A ∨ A0=none)∧Al (GsR F w A0) ps1 us) (hq:qHV P g hs ps x ps'):qHV P g hs ps x ps1:=by
 refine ⟨hq.1,fun w F b A vals us ty h1 h2 h3 h4 h5 h6 h7 h8 h9 h10 => ?_⟩;refine (hq.2 w F b A vals us ty h1 h2 h3 h4 h5 h6 h7 h8 h9 h10).mono ?_
 rintro en w' ⟨v,F',us',ty',A',e1,e2,e3,e4,e5,e6,e7,e8,e9⟩
 obtain ⟨A0,hA,hal⟩:=h F' w' A' us' e7;refine ⟨v,F',us',ty',A0,e1,e2,e3,e4,e5,e6,hal,e8,fun k hk => ?_⟩;rcases hA with rfl | rfl
 ·exact e9 k hk
 ·cases hk
theorem al_map {α β:Type} {R R':α→β→Prop}:∀ {xs xs':List α} {ys:List β},Al R xs ys→xs.length=xs'.length→(∀ (i:Nat) (x x':α) (y:β),xs[i]? = some x→xs'[i]? = some x'→R x y→R' x' y)→Al R' xs' ys:=fun {xs xs' ys} h hl hi =>
 ⟨by rw [← hl]; exact h.1,fun i x' y hx hy=>by
  have hlt:i < xs.length:=by rw [hl]; exact (List.getElem?_eq_some_iff.1 hx).1
  exact hi i xs[i] x' y (vQK hlt) hx (h.2 i _ y (vQK hlt) hy)⟩
theorem yHW (js:Nat→J) (ms:Nat→Ms) (n m:Nat) (cs:Nat→Cn) (c:Nat) (pp qq:Nat→Int) (k:Nat) (D:Int) (s:Exs) (F:Nat→Prop) (w:World) (A:Option Addr) (us:List Value) (hs:s.1=0) (h:Al (GsR F w A) (cZ js ms n m cs c pp qq k D s) us):∃ A0,(A0=A ∨ A0=none)∧Al (GsR F w A0) (cE js ms n m cs c pp qq k D s) us:=by
 obtain ⟨cnt,pd,pi,kd,ad,ai,pr⟩:=s;cases hs;refine ⟨none,.inr rfl,al_map h rfl fun i x x' y hx hx' hr => ?_⟩
 match i,hx,hx' with
 | 0,hx,hx'=>cases hx; cases hx'; exact hr
 | 1,hx,hx'=>cases hx; cases hx'; exact hr
 | 2,hx,hx'=>cases hx; cases hx'; exact hr
 | 3,hx,hx'=>cases hx; cases hx'; exact hr
 | 4,hx,hx'=>cases hx; cases hx'; exact hr
 | 5,hx,hx'=>cases hx; cases hx'; exact hr
 | 6,hx,hx'=>cases hx; cases hx'; exact hr
 | 7,hx,hx'=>cases hx; cases hx'; exact gs_nil (by decide) hr
 | 8,hx,hx'=>cases hx; cases hx'; exact hr
 | 9,hx,hx'=>cases hx; cases hx'; exact hr
 | 10,hx,hx'=>cases hx; cases hx'; exact hr
 | 11,hx,hx'=>cases hx; cases hx'; exact hr
 | 12,hx,hx'=>cases hx; cases hx'; exact hr
 | 13,hx,hx'=>cases hx; cases hx'; exact hr
theorem two_pow {d:Nat} (_:d≤20):(2:Int) ^ d≤1048576:=by
 have:∀ e:Nat,e < 21→(2:Int) ^ e≤1048576:=by decide
 exact this d (by omega)
theorem snd_ex1 (js:Nat→J) (ms:Nat→Ms) (n m:Nat) (cs:Nat→Cn) (c:Nat) (pp qq:Nat→Int) (k:Nat) (D:Int) (_:D≤20) (hk:k≤16) (hc:cErr js ms n m cs c=true) (hc8:c≤50) (x:Nat) (d i:Int) (E:Int→Int→Exs→Bool × Exs) (hE0:∀ t,cex x d t→qHV Tryz.prog 34 (hex t) (eex js ms n m cs c pp qq k D t) (xex E t) (qex js ms n m cs c pp qq k D E t)) (s:Exs) (_:d + x≤D) (_:d + x=D)
  (h0:0≤d) (hi0:0≤i) (hi1:i < 2 ^ d.toNat) (hp:pcB pp qq k k d i=true∧pIn js ms (jI pp qq d i) n m k=true) (hEx:d < D→∃ y,x=y + 1∧E=exE js ms n m cs c pp qq k y):qHV Tryz.prog 34 [.p 1000000 0,.v (.n .i64 d),.v (.n .i64 i)] (cE js ms n m cs c pp qq k D s) (.b (exE js ms n m cs c pp qq k x d i s).1) (cE js ms n m cs c pp qq k D (exE js ms n m cs c pp qq k x d i s).2):=by
 obtain ⟨cnt,pd,pi,kd,ad,ai,pr⟩:=s;have hok:OneOkBq Tryz.prog 34 (o_ex js ms n m cs c pp qq k D x d E) (Tf.gq 34):=by
  rw [show Tf.gq 34=true by kernel_rfl];exact ok_fq hE0
 have key:∀ y ps',zVX Tf (orex js ms n m cs c pp qq k D x d i E) (zW []) 60 34 [.p 1000000 0,.v (.n .i64 d),.v (.n .i64 i)] (cE js ms n m cs c pp qq k D (cnt,pd,pi,kd,ad,ai,pr))=some (.v (.t (y :: ps')),[])→qHV Tryz.prog 34 [.p 1000000 0,.v (.n .i64 d),.v (.n .i64 i)] (cE js ms n m cs c pp qq k D (cnt,pd,pi,kd,ad,ai,pr)) y ps':=fun y ps' h=>by
  refine runBX_soundQ (N:=60) (LO:=zW []) qZH yQ (qZC (l:=[(60,o_lk [.lf k (fQ pp),.lf k (fQ qq),.n .i64 d,.n .i64 i] ((pcB pp qq k k d i && decide (k≤16))) (.v (.t [.lf k (fB (jI pp qq d i)),.b true]))),(32,o_lk [.a [.lf n (fJ js),.lf m (fM ms)],.lf c (fC cs),.lf k (fB (jI pp qq d i))] (((cErr js ms n m cs c) && pIn js ms (jI pp qq d i) n m k)) (.v (.lf c (fB (vE js n cs pp qq d i))))),(45,o_lk [.lf c (fC cs),.lf c (fB (vE js n cs pp qq d i))] ((decide (c≤50))) (.v (.b (hE js ms n m cs c pp qq k d i)))),(42,o_lk [.lf c (fC cs),.lf c (fB (vE js n cs pp qq d i))] ((decide (c≤50))) (.v (.t [.n .i64 (yE js ms n m cs c pp qq k d i),.b (bE js ms n m cs c pp qq k d i)])))]) (m:=[(34,o_ex js ms n m cs c pp qq k D x d E)]) ⟨zVC fun h => ?_,zVC fun h => ?_,zVC fun _ => ?_,zVC fun _ => ?_,trivial⟩ ⟨hok,trivial⟩) (fun p S hp => ?_) h
  ·rw [vQJ] at h
   have:=snd_ppc pp qq k k d i (vJZ h.2) (by omega)
   rw [h.1] at this;exact this
  ·rw [vQJ] at h;exact snd_valsF js ms (jI pp qq d i) n m k cs c h.1 h.2
  ·exact snd_hold cs (vE js n cs pp qq d i) c hc8
  ·exact snd_brkn cs (vE js n cs pp qq d i) c hc8
  ·exact jK (L:=qK Tf 34) (l:=[]) (show AllP _ [] from trivial) p S hp
 have tr:=pxex js ms n m cs c pp qq k D x d i E cnt pd pi kd ad ai pr;have g1':(pcB pp qq k k d i && decide (k≤16))=true:=by rw [hp.1,vJQ hk]; rfl
 have g2':((cErr js ms n m cs c) && pIn js ms (jI pp qq d i) n m k)=true:=by rw [hc,hp.2]; rfl
 simp only [g1_t,g1',g2',vJQ hc8,vZJ,vYV] at tr;unfold exE exR;by_cases h1:4096≤cnt
 ·rw [if_pos h1];rw [vJQ (show (4096:Int)≤(cnt:Int) by omega)] at tr;exact yHQ (fun F w A us=>yHW js ms n m cs c pp qq k D _ F w A us rfl) (key _ _ tr)
 rw [if_neg h1];rw [vYH (show ¬ (4096:Int)≤(cnt:Int) by omega)] at tr;by_cases h2:hE js ms n m cs c pp qq k d i=true
 ·rw [if_pos h2];rw [h2,vJQ (show cnt + 1≤1000000 by omega)] at tr;exact key _ _ tr
 rw [if_neg h2];rw [Bool.eq_false_iff.2 h2] at tr;by_cases h3:bE js ms n m cs c pp qq k d i=true
 ·rw [if_pos h3];rw [h3] at tr;exact yHQ (fun F w A us=>yHW js ms n m cs c pp qq k D _ F w A us rfl) (key _ _ tr)
 rw [if_neg h3];rw [Bool.eq_false_iff.2 h3] at tr;by_cases h4:d < D
 ·obtain ⟨y,rfl,rfl⟩:=hEx h4;have p1:=two_pow (d:=(d + 1).toNat) (by omega);have hq:(2:Int) ^ (d + 1).toNat=2 * 2 ^ d.toNat:=by rw [show (d + 1).toNat=d.toNat + 1 by omega,Int.pow_succ]; omega
  have w1:vJJ .i64 (d + 1)=d + 1:=qG (by omega);have w2:vJJ .i64 (2 * i)=2 * i:=qG (by omega);have w3:vJJ .i64 (2 * i + 1)=2 * i + 1:=qG (by omega);rw [vJQ h4,w1,w2,w3,qQB (C:=cex (y + 1) d) (t:=(d + 1,2 * i,(cnt,pd,pi,kd,ad,ai,pr))) ⟨rfl,by show 0≤2 * i; omega,by show 2 * i < _; omega⟩] at tr;simp only [vYV] at tr;show qHV _ _ _ _ (.b (if (exE js ms n m cs c pp qq k y (d + 1) (2 * i) (cnt,pd,pi,kd,ad,ai,pr)).1=true then exE js ms n m cs c pp qq k y (d + 1) (2 * i + 1) (exE js ms n m cs c pp qq k y (d + 1) (2 * i) (cnt,pd,pi,kd,ad,ai,pr)).2 else exE js ms n m cs c pp qq k y (d + 1) (2 * i) (cnt,pd,pi,kd,ad,ai,pr)).1) (cE js ms n m cs c pp qq k D (if (exE js ms n m cs c pp qq k y (d + 1) (2 * i) (cnt,pd,pi,kd,ad,ai,pr)).1=true then exE js ms n m cs c pp qq k y (d + 1) (2 * i + 1) (exE js ms n m cs c pp qq k y (d + 1) (2 * i) (cnt,pd,pi,kd,ad,ai,pr)).2 else exE js ms n m cs c pp qq k y (d + 1) (2 * i) (cnt,pd,pi,kd,ad,ai,pr)).2);by_cases h5:(exE js ms n m cs c pp qq k y (d + 1) (2 * i) (cnt,pd,pi,kd,ad,ai,pr)).1=true
  ·rw [if_pos h5];rw [h5,qQB (C:=cex (y + 1) d) (t:=(d + 1,2 * i + 1,(exE js ms n m cs c pp qq k y (d + 1) (2 * i) (cnt,pd,pi,kd,ad,ai,pr)).2)) ⟨rfl,by show 0≤2 * i + 1; omega,by show 2 * i + 1 < _; omega⟩] at tr;simp only [vYV] at tr;cases h6:(exE js ms n m cs c pp qq k y (d + 1) (2 * i + 1) (exE js ms n m cs c pp qq k y (d + 1) (2 * i) (cnt,pd,pi,kd,ad,ai,pr)).2).1 with
   | true=>rw [h6] at tr; exact key _ _ tr
   | false=>rw [h6] at tr; exact key _ _ tr
  ·rw [if_neg h5];rw [Bool.eq_false_iff.2 h5] at tr;rw [Bool.eq_false_iff.2 h5];exact key _ _ tr
 ·rw [vYH h4] at tr;have hx0:x=0:=by omega
  subst hx0;exact yHQ (fun F w A us=>yHW js ms n m cs c pp qq k D _ F w A us rfl) (key _ _ tr)
theorem snd_ex (js:Nat→J) (ms:Nat→Ms) (n m:Nat) (cs:Nat→Cn) (c:Nat) (pp qq:Nat→Int) (k:Nat) (D:Int) (hD:D≤20) (hk:k≤16) (hc:cErr js ms n m cs c=true) (hp:∀ d i,0≤d→d≤20→0≤i→i < 2 ^ d.toNat→pcB pp qq k k d i=true∧pIn js ms (jI pp qq d i) n m k=true) :
  ∀ (x:Nat) (d i:Int) (s:Exs),d + x=D→0≤d→0≤i→i < 2 ^ d.toNat→qHV Tryz.prog 34 [.p 1000000 0,.v (.n .i64 d),.v (.n .i64 i)] (cE js ms n m cs c pp qq k D s) (.b (exE js ms n m cs c pp qq k x d i s).1) (cE js ms n m cs c pp qq k D (exE js ms n m cs c pp qq k x d i s).2):=by
 have hc8:c≤50:=by have:=(qUH hc).2.1; omega
 intro x;induction x with
 | zero =>
  intro d i s hd h0 hi0 hi1;refine snd_ex1 js ms n m cs c pp qq k D hD hk hc hc8 0 d i (exE js ms n m cs c pp qq k 0) (fun t h=>h.elim) s (by omega) (by omega) h0 hi0 hi1 (hp d i h0 (by omega) hi0 hi1) (fun h=>absurd h (by omega))
 | succ x ih =>
  intro d i s hd h0 hi0 hi1;have hq:(2:Int) ^ (d + 1).toNat=2 * 2 ^ d.toNat:=by rw [show (d + 1).toNat=d.toNat + 1 by omega,Int.pow_succ]; omega
  refine snd_ex1 js ms n m cs c pp qq k D hD hk hc hc8 (x + 1) d i (exE js ms n m cs c pp qq k x) (fun t h => ?_) s (by omega) (by omega) h0 hi0 hi1 (hp d i h0 (by omega) hi0 hi1) (fun _=>⟨x,rfl,rfl⟩);obtain ⟨h1,h2,h3⟩:=h;rw [show hex t=[.p 1000000 0,.v (.n .i64 t.1),.v (.n .i64 t.2.1)] from rfl];exact ih t.1 t.2.1 t.2.2 (by omega) (by omega) h2 (by rw [h1]; exact h3)
end Go.Proofs.YtfcofnclgajfeaaGreat.Ta
namespace Go.Proofs.YtfcofnclgajfeaaGreat.Tb
open Go.Rx Rt Go.Sx Go.RowKit Od Oe Na Nb Nc Nd Nx Nf Ng Nj Nj2 Nl Nm Pa Pb Ta
theorem bz {c:Bool} {x y:Int} (h:(bif c then x else y)=0) (hx:x ≠ 0):c=false∧y=0:=by
 cases c with
 | true=>exact absurd h hx
 | false=>exact ⟨rfl,h⟩
theorem cj_lim {i:Int} {j:J} (h:cjT (fun e=>e) i j=0) : -4194304≤j.lo∧j.lo≤j.hi∧j.hi≤4194304:=by
 unfold cjT at h
 iterate 10 obtain ⟨_,h⟩:=bz h (by decide)
 by_cases k0:j.kind=0
 ·rw [vJQ k0,vYV] at h;obtain ⟨a,h⟩:=bz h (by decide);obtain ⟨b,h⟩:=bz h (by decide);obtain ⟨c,h⟩:=bz h (by decide);have a:=vJY a;have b:=vJY b;have c:=vJY c;omega
 rw [vYH k0,vYG] at h;by_cases k1:j.kind=1
 ·rw [vJQ k1,vYV] at h;obtain ⟨a,h⟩:=bz h (by decide);obtain ⟨b,h⟩:=bz h (by decide);obtain ⟨c,h⟩:=bz h (by decide);have a:=vJY a;have b:=vJY b;have c:=vJY c;omega
 rw [vYH k1,vYG] at h;by_cases k2:j.kind=2
 ·rw [vJQ k2,vYV] at h;obtain ⟨a,h⟩:=bz h (by decide);obtain ⟨b,h⟩:=bz h (by decide);obtain ⟨c,h⟩:=bz h (by decide);have a:=vJY a;have b:=vJY b;have c:=vJY c;omega
 rw [vYH k2,vYG] at h;by_cases k3:j.kind=3
 ·rw [vJQ k3,vYV] at h;obtain ⟨a,h⟩:=bz h (by decide);obtain ⟨b,h⟩:=bz h (by decide);obtain ⟨c,h⟩:=bz h (by decide);have a:=vJY a;have b:=vJY b;have c:=vJY c;omega
 rw [vYH k3,vYG] at h;obtain ⟨a,h⟩:=bz h (by decide);obtain ⟨b,h⟩:=bz h (by decide);obtain ⟨c,h⟩:=bz h (by decide);have a:=vJY a;have b:=vJY b;have c:=vJY c;omega
theorem rerr_lim {js:Nat→J} {ms:Nat→Ms} {n m:Nat} (h:rErr js ms n m=0):∀ i,i < n → -4194304≤(js i).lo∧(js i).lo≤(js i).hi∧(js i).hi≤4194304:=fun i hi =>
 cj_lim (jerr_cj (yWZ (rerr_je h) i (Nat.zero_le _) (by omega)))
theorem fl_ce {x y N A B:Int} (hN:0 < N) (_:x≤y) (h1:A * N≤x) (_:y≤B * N):A≤x / N∧x / N ≤ -((0 - y) / N) ∧ -((0 - y) / N)≤B:=by
 have a1:=Int.ediv_mul_le x (show N ≠ 0 by omega);have a2:=Int.ediv_mul_le (0 - y) (show N ≠ 0 by omega);have a3:A≤x / N:=(Int.le_ediv_iff_mul_le hN).2 h1;have a4 : -B≤(0 - y) / N:=(Int.le_ediv_iff_mul_le hN).2 (by rw [Int.neg_mul]; omega);refine ⟨a3,?_,by omega⟩;have a5:(x / N + (0 - y) / N) * N≤0:=by rw [Int.add_mul]; omega
 have a6:x / N + (0 - y) / N≤0:=Int.not_lt.1 fun h=>by
  have:=Int.mul_pos h hN
  omega
 omega
theorem jI_val {pp qq:Nat→Int} {d j:Int} {i:Nat} (hd:0≤d∧d≤20) (hj:0≤j∧j < 2 ^ d.toNat) (_: -4194304≤pp i∧pp i≤4194304) (_: -4194304≤qq i∧qq i≤4194304) :
  pMn pp qq j i=min (j * (qq i - pp i)) ((j + 1) * (qq i - pp i))∧pMx pp qq j i=max (j * (qq i - pp i)) ((j + 1) * (qq i - pp i)) ∧ -4503599627370496≤pMn pp qq j i∧pMn pp qq j i≤pMx pp qq j i∧pMx pp qq j i≤4503599627370496∧(2:Int) ^ d.toNat≤1048576∧min d.toNat 64=d.toNat:=by
 obtain ⟨e,n1,n2⟩:=yUI hd;obtain ⟨n,rfl⟩:∃ n:Nat,d=(n:Int):=⟨d.toNat,by omega⟩
 obtain ⟨p1,p2,p3,p4⟩:=pN_pow n (by omega);rw [Int.toNat_natCast] at hj ⊢;have hu:=mbd (a:=j) (b:=qq i - pp i) (by omega) (by omega);have hw:=mbd (a:=j + 1) (b:=qq i - pp i) (by omega) (by omega);have eu:pU pp qq j i=j * (qq i - pp i):=by unfold pU; rw [qG (x:=qq i - pp i) (by omega),qG (by omega)]
 have ew:pW pp qq j i=(j + 1) * (qq i - pp i):=by unfold pW; rw [qG (x:=qq i - pp i) (by omega),qG (x:=j + 1) (by omega),qG (by omega)]
 unfold pMn pMx;rw [eu,ew];refine ⟨rfl,rfl,?_,?_,?_,p3,p4⟩ <;> omega
theorem jI_in {pp qq:Nat→Int} {d j lo hi:Int} {i:Nat} (hd:0≤d∧d≤20) (hj:0≤j∧j < 2 ^ d.toNat) (_:lo≤pp i∧pp i≤hi) (_:lo≤qq i∧qq i≤hi) (_: -4194304≤lo∧lo≤hi∧hi≤4194304):Iv.within (jI pp qq d j i) ⟨lo,hi⟩=true:=by
 obtain ⟨e1,e2,b1,b2,b3,b4,b5⟩:=jI_val (pp:=pp) (qq:=qq) (i:=i) hd hj (by omega) (by omega);have key:∃ A B,A * 2 ^ d.toNat≤pMn pp qq j i∧pMx pp qq j i≤B * 2 ^ d.toNat∧lo≤pp i + A∧pp i + B≤hi:=by
  rw [e1,e2];by_cases h:0≤qq i - pp i
  ·have g1:0≤j * (qq i - pp i):=Int.mul_nonneg hj.1 h;have g2:(j + 1) * (qq i - pp i)≤2 ^ d.toNat * (qq i - pp i):=Int.mul_le_mul_of_nonneg_right (by omega) h;have g3:(j + 1) * (qq i - pp i)=j * (qq i - pp i) + (qq i - pp i):=by rw [Int.add_mul,Int.one_mul]
   refine ⟨0,qq i - pp i,by omega,?_,by omega,by omega⟩;rw [Int.mul_comm (qq i - pp i)]; omega
  ·have g1:j * (qq i - pp i)≤0:=Int.mul_nonpos_of_nonneg_of_nonpos hj.1 (by omega);have g2:2 ^ d.toNat * (qq i - pp i)≤(j + 1) * (qq i - pp i):=Int.mul_le_mul_of_nonpos_right (by omega) (by omega);have g3:(j + 1) * (qq i - pp i)=j * (qq i - pp i) + (qq i - pp i):=by rw [Int.add_mul,Int.one_mul]
   refine ⟨qq i - pp i,0,?_,by omega,by omega,by omega⟩;rw [Int.mul_comm (qq i - pp i)]; omega
 obtain ⟨A,B,k1,k2,k3,k4⟩:=key;have hN:(0:Int) < 2 ^ d.toNat:=Int.pow_pos (by decide);obtain ⟨f1,f2,f3⟩:=fl_ce hN b2 k1 k2;have el:jLo pp qq d j i=pp i + pMn pp qq j i / 2 ^ d.toNat:=by
  unfold jLo;rw [b5,Int.fdiv_eq_ediv_of_nonneg _ (by omega),qG (by omega)]
 have eh:jHi pp qq d j i=pp i - (0 - pMx pp qq j i) / 2 ^ d.toNat:=by
  unfold jHi;rw [b5,qG (x:=0 - pMx pp qq j i) (by omega),Int.fdiv_eq_ediv_of_nonneg _ (by omega),qG (by omega)]
 unfold Iv.within Iv.valid jI;simp only [el,eh,vQJ,decide_eq_true_eq];refine ⟨⟨⟨⟨⟨?_,?_⟩,?_⟩,⟨?_,?_⟩,?_⟩,?_⟩,?_⟩ <;> omega
theorem pcs_in {js:Nat→J} {ms:Nat→Ms} {n m:Nat} {pp qq:Nat→Int} {k:Nat} (hp:qIn js ms pp n m k=true) (hq:qIn js ms qq n m k=true) (d i:Int) (h0:0≤d) (h1:d≤20) (h2:0≤i) (h3:i < 2 ^ d.toNat):pcB pp qq k k d i=true∧pIn js ms (jI pp qq d i) n m k=true:=by
 obtain ⟨r0,hn,p1⟩:=qJB hp;obtain ⟨_,_,q1⟩:=qJB hq;have hl:=rerr_lim r0;subst hn;have sm:∀ x:Nat→Int,(∀ v,v < n→(js v).lo≤x v∧x v≤(js v).hi)→smQ x n=true:=fun x hx=>allN_iff.2 fun v _ hv=>by
  have a:=hx v (by omega);have b:=hl v (by omega);rw [vYH (show ¬ x v < -2147483648 by omega),vYH (show ¬ 2147483648 < x v by omega)];rfl
 constructor
 ·obtain ⟨e,_,_⟩:=yUI ⟨h0,h1⟩;have e2:min d.toNat 64=d.toNat:=by omega
  unfold pcB mtB;rw [sm pp p1,sm qq q1,vJQ (show (n:Int)=(n:Int) from rfl),vJQ h0,vJQ h1,vJQ h2,e,e2,vJQ h3];rfl
 ·unfold pIn insB;rw [vJQ r0,vJQ (show (n:Int)=(n:Int) from rfl),vZH,vZH];exact allN_iff.2 fun v _ hv=>jI_in ⟨h0,h1⟩ ⟨h2,h3⟩ (p1 v (by omega)) (q1 v (by omega)) (hl v (by omega))
noncomputable def o_in (js:Nat→J) (ms:Nat→Ms) (n m:Nat):List PV→Option (Bool × Ret):=fun ps=>match ps with
 | [_,.lf k f]=>some (gEq (.t ps) (.t [.a [.lf n (fJ js),.lf m (fM ms)],.lf k (fQ (unFQ f))]),.v (.b (qIn js ms (unFQ f) n m k)))
 | _=>none
theorem ok_in (js:Nat→J) (ms:Nat→Ms) (n m:Nat):zY Tryz.prog 33 (o_in js ms n m):=by
 intro ps q hh;unfold o_in at hh;split at hh
 ·simp only [vQZ,vQY] at hh;obtain ⟨hg,rfl⟩:=hh
  have:=qXG hg
  simp only [PV.t.injEq] at this;rw [this];exact snd_qIn js ms _ n m _
 ·cases hh
def cP (js:Nat→J) (ms:Nat→Ms) (n m:Nat) (cs:Nat→Cn) (c:Nat) (pp qq:Nat→Int) (k:Nat) (l:Nat) (D:Int):List PV:=[.lf n (fJ js),.lf m (fM ms),.lf c (fC cs),.lf k (fQ pp),.lf l (fQ qq),.n .i64 D,.n .i64 0,.zs,.n .i64 0,.n .i64 0,.zs,.n .i64 0,.zs,.zs]
theorem cp_ce (js:Nat→J) (ms:Nat→Ms) (n m:Nat) (cs:Nat→Cn) (c:Nat) (pp qq:Nat→Int) (k:Nat) (D:Int) (F:Nat→Prop) (w:World) (A:Option Addr) (us:List Value) (h:Al (GsR F w A) (cP js ms n m cs c pp qq k k D) us):∃ A0,(A0=A ∨ A0=none)∧Al (GsR F w A0) (cE js ms n m cs c pp qq k D (0,z0,z0,0,0,0,0)) us:=by
 refine ⟨none,.inr rfl,al_map h rfl fun i x x' y hx hx' hr => ?_⟩
 match i,hx,hx' with
 | 0,hx,hx'=>cases hx; cases hx'; exact hr
 | 1,hx,hx'=>cases hx; cases hx'; exact hr
 | 2,hx,hx'=>cases hx; cases hx'; exact hr
 | 3,hx,hx'=>cases hx; cases hx'; exact hr
 | 4,hx,hx'=>cases hx; cases hx'; exact hr
 | 5,hx,hx'=>cases hx; cases hx'; exact hr
 | 6,hx,hx'=>cases hx; cases hx'; exact hr
 | 7,hx,hx'=>cases hx; cases hx'; exact gs_nil (by decide) hr
 | 8,hx,hx'=>cases hx; cases hx'; exact hr
 | 9,hx,hx'=>cases hx; cases hx'; exact hr
 | 10,hx,hx'=>cases hx; cases hx'; exact zs_l hr
 | 11,hx,hx'=>cases hx; cases hx'; exact hr
 | 12,hx,hx'=>cases hx; cases hx'; exact hr
 | 13,hx,hx'=>cases hx; cases hx'; exact hr
noncomputable def exP (js:Nat→J) (ms:Nat→Ms) (n m:Nat) (cs:Nat→Cn) (c:Nat) (pp qq:Nat→Int) (k:Nat) (D:Int):Bool × Exs:=exE js ms n m cs c pp qq k D.toNat 0 0 (0,z0,z0,0,0,0,0)
theorem snd_ex0 (js:Nat→J) (ms:Nat→Ms) (n m:Nat) (cs:Nat→Cn) (c:Nat) (pp qq:Nat→Int) (k:Nat) (D:Int) (hD:0≤D∧D≤20) (hc:cErr js ms n m cs c=true) (hp:qIn js ms pp n m k=true) (hq:qIn js ms qq n m k=true):qHV Tryz.prog 34 [.p 1000000 0,.v (.n .i64 0),.v (.n .i64 0)] (cP js ms n m cs c pp qq k k D) (.b (exP js ms n m cs c pp qq k D).1) (cE js ms n m cs c pp qq k D (exP js ms n m cs c pp qq k D).2):=by
 have hk:=qGC (qJB hp).1;have hkn:=(qJB hp).2.1;exact q_in (fun F w A us=>cp_ce js ms n m cs c pp qq k D F w A us) rfl (snd_ex js ms n m cs c pp qq k D hD.2 (by omega) hc (pcs_in hp hq) D.toNat 0 0 (0,z0,z0,0,0,0,0) (by omega) (by omega) (by omega) (by decide))
noncomputable def o_xp (js:Nat→J) (ms:Nat→Ms) (n m:Nat) (cs:Nat→Cn) (c:Nat) (pp qq:Nat→Int) (k:Nat) (l:Nat) (D:Int):List HV→List PV→Option (Bool × (PV × List PV)):=o_fb (fun _ _=>()) (fun _=>(0≤D∧D≤20)∧cErr js ms n m cs c=true∧qIn js ms pp n m k=true∧qIn js ms qq n m l=true) (fun _=>[.p 1000000 0,.v (.n .i64 0),.v (.n .i64 0)]) (fun _=>cP js ms n m cs c pp qq k l D) (fun _=>.b (exP js ms n m cs c pp qq k D).1) (fun _=>cE js ms n m cs c pp qq k D (exP js ms n m cs c pp qq k D).2)
theorem ok_xp (js:Nat→J) (ms:Nat→Ms) (n m:Nat) (cs:Nat→Cn) (c:Nat) (pp qq:Nat→Int) (k:Nat) (l:Nat) (D:Int):OneOkBq Tryz.prog 34 (o_xp js ms n m cs c pp qq k l D) (Tf.gq 34):=by
 rw [show Tf.gq 34=true by kernel_rfl];refine ok_fq fun _ h => ?_
 have e:l=k:=by rw [← (qJB h.2.2.1).2.1,← (qJB h.2.2.2).2.1]
 subst e;exact snd_ex0 js ms n m cs c pp qq l D h.1 h.2.1 h.2.2.1 h.2.2.2
noncomputable def gxp (js:Nat→J) (ms:Nat→Ms) (n m:Nat) (cs:Nat→Cn) (c:Nat) (pp qq:Nat→Int) (k:Nat) (l:Nat) (D:Int):Bool:=gB1 (fun _:Unit=>(0≤D∧D≤20)∧cErr js ms n m cs c=true∧qIn js ms pp n m k=true∧qIn js ms qq n m l=true) (fun _=>[.p 1000000 0,.v (.n .i64 0),.v (.n .i64 0)]) (fun _=>cP js ms n m cs c pp qq k l D) ()
def rE (s:Exs):PV:=.a [.n .i64 s.2.2.2.1,.lf s.1 (p3 s.2.1 s.2.2.1),.n .i64 s.2.2.2.2.1,.n .i64 s.2.2.2.2.2.1,.l [],.n .i64 s.2.2.2.2.2.2,.l [],.l []]
def okE (js:Nat→J) (ms:Nat→Ms) (n m:Nat) (cs:Nat→Cn) (c:Nat) (pp qq:Nat→Int) (k:Nat) (l:Nat) (D:Int):Bool:=(cErr js ms n m cs c) && (qIn js ms pp n m k && (qIn js ms qq n m l && (decide (0≤D) && decide (D≤20))))
noncomputable def prE (js:Nat→J) (ms:Nat→Ms) (n m:Nat) (cs:Nat→Cn) (c:Nat) (pp qq:Nat→Int) (k:Nat) (l:Nat) (D:Int):Exs:=bif okE js ms n m cs c pp qq k l D then (bif (exP js ms n m cs c pp qq k D).1 then ((exP js ms n m cs c pp qq k D).2.1,(exP js ms n m cs c pp qq k D).2.2.1,(exP js ms n m cs c pp qq k D).2.2.2.1,1,(exP js ms n m cs c pp qq k D).2.2.2.2.2) else (exP js ms n m cs c pp qq k D).2) else (0,z0,z0,0,0,0,0)
noncomputable def orpr (js:Nat→J) (ms:Nat→Ms) (n m:Nat) (cs:Nat→Cn) (c:Nat) (pp qq:Nat→Int) (k:Nat) (l:Nat) (D:Int):OrS:=orS [(30,o_cr [.a [.lf n (fJ js),.lf m (fM ms)],.lf c (fC cs)] (.v (.b (cErr js ms n m cs c)))),(33,o_in js ms n m)] [(34,o_xp js ms n m cs c pp qq k l D)]
set_option maxRecDepth 100000 in
theorem pxpr (js:Nat→J) (ms:Nat→Ms) (n m:Nat) (cs:Nat→Cn) (c:Nat) (pp qq:Nat→Int) (k:Nat) (l:Nat) (D:Int):qXJ Tf (orpr js ms n m cs c pp qq k l D) (zW []) 60 17 [.a [.lf n (fJ js),.lf m (fM ms)],.lf c (fC cs),.lf k (fQ pp),.lf l (fQ qq),.n .i64 D] =
 (bif (g1 [.a [.lf n (fJ js),.lf m (fM ms)],.lf c (fC cs)]) then (bif (cErr js ms n m cs c) then (bif (g1 [.a [.lf n (fJ js),.lf m (fM ms)],.lf k (fQ pp)]) then (bif (qIn js ms pp n m k) then (bif (g1 [.a [.lf n (fJ js),.lf m (fM ms)],.lf l (fQ qq)]) then (bif (qIn js ms qq n m l) then (bif (decide (D < 0)) then some (.v (.a [.n .i64 0,.l [],.n .i64 0,.n .i64 0,.l [],.n .i64 0,.l [],.l []]),[])
 else (bif (decide (20 < D)) then some (.v (.a [.n .i64 0,.l [],.n .i64 0,.n .i64 0,.l [],.n .i64 0,.l [],.l []]),[])
 else (bif (gxp js ms n m cs c pp qq k l D) then (bif (exP js ms n m cs c pp qq k D).1 then some (.v (.a [.n .i64 1,.lf (exP js ms n m cs c pp qq k D).2.1 (fun v=>[.n .i64 ((exP js ms n m cs c pp qq k D).2.2.1 v),.n .i64 ((exP js ms n m cs c pp qq k D).2.2.2.1 v),.l []]),.n .i64 (exP js ms n m cs c pp qq k D).2.2.2.2.2.1,.n .i64 (exP js ms n m cs c pp qq k D).2.2.2.2.2.2.1,.l [],.n .i64 (exP js ms n m cs c pp qq k D).2.2.2.2.2.2.2,.l [],.l []]),[])
 else some (.v (.a [.n .i64 (exP js ms n m cs c pp qq k D).2.2.2.2.1,.lf (exP js ms n m cs c pp qq k D).2.1 (fun v=>[.n .i64 ((exP js ms n m cs c pp qq k D).2.2.1 v),.n .i64 ((exP js ms n m cs c pp qq k D).2.2.2.1 v),.l []]),.n .i64 (exP js ms n m cs c pp qq k D).2.2.2.2.2.1,.n .i64 (exP js ms n m cs c pp qq k D).2.2.2.2.2.2.1,.l [],.n .i64 (exP js ms n m cs c pp qq k D).2.2.2.2.2.2.2,.l [],.l []]),[]))
 else none)))
 else some (.v (.a [.n .i64 0,.l [],.n .i64 0,.n .i64 0,.l [],.n .i64 0,.l [],.l []]),[]))
 else none)
 else some (.v (.a [.n .i64 0,.l [],.n .i64 0,.n .i64 0,.l [],.n .i64 0,.l [],.l []]),[]))
 else none)
 else some (.v (.a [.n .i64 0,.l [],.n .i64 0,.n .i64 0,.l [],.n .i64 0,.l [],.l []]),[]))
 else none):=by kernel_rfl
theorem snd_pr0 (js:Nat→J) (ms:Nat→Ms) (n m:Nat) (cs:Nat→Cn) (c:Nat) (pp qq:Nat→Int) (k:Nat) (l:Nat) (D:Int):yZ Tryz.prog 17 [.a [.lf n (fJ js),.lf m (fM ms)],.lf c (fC cs),.lf k (fQ pp),.lf l (fQ qq),.n .i64 D] (bif okE js ms n m cs c pp qq k l D then .v (rE (prE js ms n m cs c pp qq k l D)) else .v (.a [.n .i64 0,.l [],.n .i64 0,.n .i64 0,.l [],.n .i64 0,.l [],.l []])):=by
 refine jX (N:=60) (LO:=zW []) qZH yQ (qZC (l:=[(30,o_cr [.a [.lf n (fJ js),.lf m (fM ms)],.lf c (fC cs)] (.v (.b (cErr js ms n m cs c)))),(33,o_in js ms n m)]) (m:=[(34,o_xp js ms n m cs c pp qq k l D)]) ⟨qJZ (snd_Mc js ms n m cs c),ok_in js ms n m,trivial⟩ ⟨ok_xp js ms n m cs c pp qq k l D,trivial⟩) (fun p S hp=>jK (L:=qK Tf 17) (l:=[]) (show AllP _ [] from trivial) p S hp) ?_;refine (pxpr js ms n m cs c pp qq k l D).trans ?_;simp only [g1_t,vYV];unfold prE okE;cases hc:(cErr js ms n m cs c) with
 | false=>rfl
 | true =>
  cases hp:qIn js ms pp n m k with
  | false=>rfl
  | true =>
   cases hq:qIn js ms qq n m l with
   | false=>rfl
   | true =>
    by_cases h0:D < 0
    ·rw [vJQ h0,vYH (show ¬ 0≤D by omega)]; rfl
    ·by_cases h1:20 < D
     ·rw [vYH h0,vJQ h1,vYH (show ¬ D≤20 by omega),Bool.and_false]; rfl
     ·rw [vYH h0,vYH h1,vJQ (show D≤20 by omega),vJQ (show 0≤D by omega),show gxp js ms n m cs c pp qq k l D=true from qQB ⟨⟨by omega,by omega⟩,hc,hp,hq⟩];cases (exP js ms n m cs c pp qq k D).1 <;> rfl
theorem snd_pr (js:Nat→J) (ms:Nat→Ms) (n m:Nat) (cs:Nat→Cn) (c:Nat) (pp qq:Nat→Int) (k:Nat) (l:Nat) (D:Int):yZ Tryz.prog 17 [.a [.lf n (fJ js),.lf m (fM ms)],.lf c (fC cs),.lf k (fQ pp),.lf l (fQ qq),.n .i64 D] (.v (rE (prE js ms n m cs c pp qq k l D))):=by
 have h:=snd_pr0 js ms n m cs c pp qq k l D;cases hk:okE js ms n m cs c pp qq k l D with
 | true=>rw [hk] at h; exact h
 | false =>
  rw [hk] at h;unfold prE;rw [hk];exact qYD (Same.a (xs:=[_,_,_,_,_,_,_,_]) ⟨Same.refl _,Same.lf rfl,Same.refl _,Same.refl _,Same.refl _,Same.refl _,Same.refl _,Same.refl _,trivial⟩) h
end Go.Proofs.YtfcofnclgajfeaaGreat.Tb
namespace Go.Proofs.YtfcofnclgajfeaaGreat.Tc
open Go.Rx Rt Go.Sx Go.RowKit Od Oe Na Nb Nc Nd Nx Nf Ng Nj Nj2 Nl Nm Pa Pb Ta Tb
def rgI (σ:St) (id k:Nat):Nat→Int:=match zH σ.M id with
 | some (.reg _ _ (.fo _ f))=>fun v=>match (f v)[k]? with
  | some (.n _ i)=>i
  | _=>0
 | _=>fun _=>0
def tp (n:Nat) (f:Nat→Int):Int:=f (vJJ .i64 ((n:Int) - 1)).toNat
def unFB (f:Nat→List PV):Nat→Iv:=fun v=>match f v with
 | [.n _ a,.n _ b]=>⟨a,b⟩
 | _=>⟨0,0⟩
noncomputable def yB (js:Nat→J) (_:Nat→Ms) (n m:Nat) (cs:Nat→Cn) (c:Nat) (pp qq:Nat→Int) (k:Nat) (d i:Int):Int:=brkI cs (vE js n cs pp qq d i) c
def cpq (pp qq:Nat→Int) (k l:Nat):Int × Int→Prop:=fun t=>k≤50∧l≤50∧pcB pp qq k l t.1 t.2=true
def epq (pp qq:Nat→Int) (k l:Nat):Int × Int→List PV:=fun t=>[.lf k (fQ pp),.lf l (fQ qq),.n .i64 t.1,.n .i64 t.2]
noncomputable def o_pq (pp qq:Nat→Int) (k l:Nat):List PV→Option (Bool × Ret):=o_fm (fun ps=>match ps with | [_,_,.n _ d,.n _ i]=>(d,i) | _=>(0,0)) (cpq pp qq k l) (epq pp qq k l) (fun t=>.v (.t [.lf k (fB (jI pp qq t.1 t.2)),.b true]))
theorem ok_pq (pp qq:Nat→Int) (k l:Nat):zY Tryz.prog 40 (o_pq pp qq k l):=zUE fun t h=>by
 have:=snd_rpc pp qq k l t.1 t.2 h.1 h.2.1
 rw [h.2.2] at this;exact this
noncomputable def gpc (_:Nat→J) (_:Nat→Ms) (n m:Nat) (cs:Nat→Cn) (c:Nat) (pp qq:Nat→Int) (k l:Nat) (D:Int) (d i:Int):Bool:=gF1 (cpq pp qq k l) (epq pp qq k l) (d,i)
def chb (js:Nat→J) (ms:Nat→Ms) (n m:Nat) (cs:Nat→Cn) (c:Nat) (pp qq:Nat→Int) (k:Nat):(Nat→Iv)→Prop:=fun bx=>k≤50∧cErr js ms n m cs c=true∧pIn js ms bx n m k=true
def ehb (js:Nat→J) (ms:Nat→Ms) (n m:Nat) (cs:Nat→Cn) (c:Nat) (pp qq:Nat→Int) (k:Nat):(Nat→Iv)→List PV:=fun bx=>[.a [.lf n (fJ js),.lf m (fM ms)],.lf c (fC cs),.lf k (fB bx)]
def dhb:List PV→Nat→Iv:=fun ps=>match ps with
 | [_,_,.lf _ f]=>unFB f
 | _=>fun _=>⟨0,0⟩
noncomputable def o_ho (js:Nat→J) (ms:Nat→Ms) (n m:Nat) (cs:Nat→Cn) (c:Nat) (pp qq:Nat→Int) (k:Nat):List PV→Option (Bool × Ret):=o_fm dhb (chb js ms n m cs c pp qq k) (ehb js ms n m cs c pp qq k) (fun bx=>.v (.b (yYI cs (vI js bx n cs) c)))
theorem ok_ho (js:Nat→J) (ms:Nat→Ms) (n m:Nat) (cs:Nat→Cn) (c:Nat) (pp qq:Nat→Int) (k:Nat):zY Tryz.prog 28 (o_ho js ms n m cs c pp qq k):=zUE fun bx h=>by
 have:=snd_RHo' js ms bx n m k cs c h.1
 rw [h.2.1,h.2.2] at this;exact this
noncomputable def o_br (js:Nat→J) (ms:Nat→Ms) (n m:Nat) (cs:Nat→Cn) (c:Nat) (pp qq:Nat→Int) (k:Nat):List PV→Option (Bool × Ret):=o_fm dhb (chb js ms n m cs c pp qq k) (ehb js ms n m cs c pp qq k) (fun bx=>.v (.t [.n .i64 (brkI cs (vI js bx n cs) c),.b (!nbrB cs (vI js bx n cs) c)]))
theorem ok_br (js:Nat→J) (ms:Nat→Ms) (n m:Nat) (cs:Nat→Cn) (c:Nat) (pp qq:Nat→Int) (k:Nat):zY Tryz.prog 26 (o_br js ms n m cs c pp qq k):=zUE fun bx h=>by
 have:=snd_RBr' js ms bx n m k cs c h.1
 rw [h.2.1,h.2.2] at this;exact this
noncomputable def gho (js:Nat→J) (ms:Nat→Ms) (n m:Nat) (cs:Nat→Cn) (c:Nat) (pp qq:Nat→Int) (k l:Nat) (D:Int) (d i:Int):Bool:=gF1 (chb js ms n m cs c pp qq k) (ehb js ms n m cs c pp qq k) (jI pp qq d i)
noncomputable def gbr (js:Nat→J) (ms:Nat→Ms) (n m:Nat) (cs:Nat→Cn) (c:Nat) (pp qq:Nat→Int) (k l:Nat) (D:Int) (d i:Int):Bool:=gF1 (chb js ms n m cs c pp qq k) (ehb js ms n m cs c pp qq k) (jI pp qq d i)
noncomputable def o_ri (js:Nat→J) (ms:Nat→Ms) (n m:Nat):List PV→Option (Bool × Ret):=fun ps=>match ps with
 | [_,.lf k f]=>some (gEq (.t ps) (.t [.a [.lf n (fJ js),.lf m (fM ms)],.lf k (fQ (unFQ f))]),.v (.b (qIn js ms (unFQ f) n m k)))
 | _=>none
theorem ok_ri (js:Nat→J) (ms:Nat→Ms) (n m:Nat):zY Tryz.prog 63 (o_ri js ms n m):=by
 intro ps q hh;unfold o_ri at hh;split at hh
 ·simp only [vQZ,vQY] at hh;obtain ⟨hg,rfl⟩:=hh
  have:=qXG hg
  simp only [PV.t.injEq] at this;rw [this];exact snd_rqIn js ms _ n m _
 ·cases hh
noncomputable def orin9 (js:Nat→J) (ms:Nat→Ms) (n m:Nat) (cs:Nat→Cn) (c:Nat) (pp qq:Nat→Int) (k l:Nat) (D:Int):OrS:=orS [(43,o_cr [.a [.lf n (fJ js),.lf m (fM ms)],.lf c (fC cs)] (.v (.b (cErr js ms n m cs c)))),(63,o_ri js ms n m)] []
noncomputable def yVI (_:Nat→J) (_:Nat→Ms) (n m:Nat) (cs:Nat→Cn) (c:Nat) (pp qq:Nat→Int) (k l:Nat) (D:Int):List (List Nat × uU):=[]
set_option maxRecDepth 100000 in
theorem pxin9 (js:Nat→J) (ms:Nat→Ms) (n m:Nat) (cs:Nat→Cn) (c:Nat) (pp qq:Nat→Int) (k l:Nat) (D:Int):qXJ Tf (orin9 js ms n m cs c pp qq k l D) (zW (yVI js ms n m cs c pp qq k l D)) 60 39 [.a [.lf n (fJ js),.lf m (fM ms)],.lf c (fC cs),.lf k (fQ pp),.lf l (fQ qq)] =
 (bif (g1 [.a [.lf n (fJ js),.lf m (fM ms)],.lf c (fC cs)]) then (bif (cErr js ms n m cs c) then (bif (g1 [.a [.lf n (fJ js),.lf m (fM ms)],.lf k (fQ pp)]) then (bif (qIn js ms pp n m k) then (bif (g1 [.a [.lf n (fJ js),.lf m (fM ms)],.lf l (fQ qq)]) then (bif (qIn js ms qq n m l) then some (.v (.b true),[])
 else some (.v (.b false),[]))
 else none)
 else some (.v (.b false),[]))
 else none)
 else some (.v (.b false),[]))
 else none):=by kernel_rfl
theorem snd_in9 (js:Nat→J) (ms:Nat→Ms) (n m:Nat) (cs:Nat→Cn) (c:Nat) (pp qq:Nat→Int) (k l:Nat) (D:Int):yZ Tryz.prog 39 [.a [.lf n (fJ js),.lf m (fM ms)],.lf c (fC cs),.lf k (fQ pp),.lf l (fQ qq)] (.v (.b ((cErr js ms n m cs c) && (qIn js ms pp n m k && qIn js ms qq n m l)))):=by
 refine jX (N:=60) (LO:=zW (yVI js ms n m cs c pp qq k l D)) qZH yQ (qZC (l:=[(43,o_cr [.a [.lf n (fJ js),.lf m (fM ms)],.lf c (fC cs)] (.v (.b (cErr js ms n m cs c)))),(63,o_ri js ms n m)]) (m:=[]) ⟨qJZ (yJE js ms n m cs c),ok_ri js ms n m,trivial⟩ trivial) (fun p S hp => ?_) ?_
 ·refine jK (L:=qK Tf 39) (l:=(yVI js ms n m cs c pp qq k l D)) (show AllP _ (yVI js ms n m cs c pp qq k l D) from trivial) p S hp
 ·refine (pxin9 js ms n m cs c pp qq k l D).trans ?_;simp only [g1_t,vYV];cases (cErr js ms n m cs c) <;> cases qIn js ms pp n m k <;> cases qIn js ms qq n m l <;> rfl
noncomputable def orTu (N:Nat) (js:Nat→J) (ms:Nat→Ms) (n m:Nat) (cs:Nat→Cn) (c:Nat) (pp qq:Nat→Int) (k l:Nat) (D:Int):OrS:=orS [(39,o_cr [.a [.lf n (fJ js),.lf m (fM ms)],.lf c (fC cs),.lf k (fQ pp),.lf l (fQ qq)] (.v (.b ((cErr js ms n m cs c) && (qIn js ms pp n m k && qIn js ms qq n m l))))),(40,o_pq pp qq k l),(28,o_ho js ms n m cs c pp qq k),(26,o_br js ms n m cs c pp qq k)] []
noncomputable def hTu (N:Nat) (js:Nat→J) (ms:Nat→Ms) (n m:Nat) (cs:Nat→Cn) (c:Nat) (pp qq:Nat→Int) (k l:Nat) (D:Int) (sn:Nat) (sd:Nat→Int) (si:Nat→Int) (cnt:Nat) (pd:Nat→Int) (pi:Nat→Int):St:=⟨[(1,.v (.lf c (fC cs))),(2,.v (.lf k (fQ pp))),(3,.v (.lf l (fQ qq))),(4,.v (.n .i64 D)),(5,.p 5 0),(10,.p 10 0),(11,.p 11 0),(12,.o 35)],[(5,.blk [.v (.lf n (fJ js)),.v (.lf m (fM ms))]),(10,.blk [.v (.n .i64 0),.nl,.v (.n .i64 0),.v (.n .i64 0),.nl,.v (.n .i64 0),.nl,.nl]),(11,.blk [.v (.n .i64 0),.o 79,.v (.n .i64 0),.v (.n .i64 0),.nl,.v (.n .i64 0),.nl,.nl]),(35,.reg 89 2 (.fo sn (fun v=>[.n .i64 (sd v),.n .i64 (si v)]))),(79,.reg 54 3 (.fo cnt (p3 pd pi)))]⟩
set_option maxRecDepth 100000 in
theorem rdTu (G:St→Option (Ret × Mem)) (K:Cont) (N:Nat) (js:Nat→J) (ms:Nat→Ms) (n m:Nat) (cs:Nat→Cn) (c:Nat) (pp qq:Nat→Int) (k l:Nat) (D:Int) (sn:Nat) (sd:Nat→Int) (si:Nat→Int) (cnt:Nat) (pd:Nat→Int) (pi:Nat→Int):stpT Tf 22 (orTu N js ms n m cs c pp qq k l D) N [] [0,0,1,1,1,1] K G (hTu N js ms n m cs c pp qq k l D sn sd si cnt pd pi) =
 (bif (decide (0 < (sn:Int))) then (bif (inB (vJJ .i64 ((sn:Int) - 1)) sn) then (bif (decide (0≤(vJJ .i64 ((sn:Int) - 1)))) then (bif (decide ((vJJ .i64 ((sn:Int) - 1)).toNat≤sn)) then (bif (decide (4096≤(cnt:Int))) then (K .ret ⟨[(10,.p 10 0),(11,.p 11 0)],[(10,.blk [.v (.n .i64 0),.nl,.v (.n .i64 (tp sn sd)),.v (.n .i64 (tp sn si)),.v (.l []),.v (.n .i64 0),.nl,.nl]),(11,.blk [.v (.n .i64 0),.o 79,.v (.n .i64 0),.v (.n .i64 0),.nl,.v (.n .i64 0),.nl,.nl]),(79,.reg 54 3 (.fo cnt (p3 pd pi)))]⟩)
 else (bif (gpc js ms n m cs c pp qq k l D (tp sn sd) (tp sn si)) then (bif (gho js ms n m cs c pp qq k l D (tp sn sd) (tp sn si)) then (bif (hE js ms n m cs c pp qq k (tp sn sd) (tp sn si)) then (bif (decide (cnt + 1≤1000000)) then (G (hTu N js ms n m cs c pp qq k l D (vJJ .i64 ((sn:Int) - 1)).toNat (fun v=>(sd v)) (fun v=>(si v)) (cnt + 1) (fun v=>(bif (Nat.beq v cnt) then (tp sn sd) else (pd v))) (fun v=>(bif (Nat.beq v cnt) then (tp sn si) else (pi v)))))
 else none)
 else (bif (gbr js ms n m cs c pp qq k l D (tp sn sd) (tp sn si)) then (bif (bE js ms n m cs c pp qq k (tp sn sd) (tp sn si)) then (K .ret ⟨[(10,.p 10 0),(11,.p 11 0)],[(10,.blk [.v (.n .i64 2),.nl,.v (.n .i64 (tp sn sd)),.v (.n .i64 (tp sn si)),.v (.l []),.v (.n .i64 (yB js ms n m cs c pp qq k (tp sn sd) (tp sn si))),.nl,.nl]),(11,.blk [.v (.n .i64 0),.o 79,.v (.n .i64 0),.v (.n .i64 0),.nl,.v (.n .i64 0),.nl,.nl]),(79,.reg 54 3 (.fo cnt (p3 pd pi)))]⟩)
 else (bif (decide (D≤(tp sn sd))) then (K .ret ⟨[(10,.p 10 0),(11,.p 11 0)],[(10,.blk [.v (.n .i64 0),.nl,.v (.n .i64 (tp sn sd)),.v (.n .i64 (tp sn si)),.v (.l []),.v (.n .i64 0),.nl,.nl]),(11,.blk [.v (.n .i64 0),.o 79,.v (.n .i64 0),.v (.n .i64 0),.nl,.v (.n .i64 0),.nl,.nl]),(79,.reg 54 3 (.fo cnt (p3 pd pi)))]⟩)
 else (bif (decide ((vJJ .i64 ((sn:Int) - 1)).toNat + 2≤1000000)) then (G (hTu N js ms n m cs c pp qq k l D (((vJJ .i64 ((sn:Int) - 1)).toNat + 1) + 1) (fun v=>(bif (Nat.beq v ((vJJ .i64 ((sn:Int) - 1)).toNat + 1)) then (vJJ .i64 ((tp sn sd) + 1)) else (bif (Nat.beq v (vJJ .i64 ((sn:Int) - 1)).toNat) then (vJJ .i64 ((tp sn sd) + 1)) else (sd v)))) (fun v=>(bif (Nat.beq v ((vJJ .i64 ((sn:Int) - 1)).toNat + 1)) then (vJJ .i64 (2 * (tp sn si))) else (bif (Nat.beq v (vJJ .i64 ((sn:Int) - 1)).toNat) then (vJJ .i64 ((vJJ .i64 (2 * (tp sn si))) + 1)) else (si v)))) cnt (fun v=>(pd v)) (fun v=>(pi v))))
 else none)))
 else none))
 else none)
 else none))
 else none)
 else none)
 else none)
 else (K (.exit 0) ⟨[(10,.p 10 0),(11,.p 11 0)],[(10,.blk [.v (.n .i64 0),.nl,.v (.n .i64 0),.v (.n .i64 0),.nl,.v (.n .i64 0),.nl,.nl]),(11,.blk [.v (.n .i64 0),.o 79,.v (.n .i64 0),.v (.n .i64 0),.nl,.v (.n .i64 0),.nl,.nl]),(79,.reg 54 3 (.fo cnt (p3 pd pi)))]⟩)):=by kernel_rfl
noncomputable def dcTu (js:Nat→J) (ms:Nat→Ms) (n m:Nat) (cs:Nat→Cn) (c:Nat) (pp qq:Nat→Int) (k l:Nat) (D:Int):(Nat × (Nat→Int) × (Nat→Int) × Nat × (Nat→Int) × (Nat→Int))→(Nat × (Nat→Int) × (Nat→Int) × Nat × (Nat→Int) × (Nat→Int)) ⊕ (Nat × Nat × (Nat→Int) × (Nat→Int) × Nat × (Nat→Int) × (Nat→Int)):=fun t=>match t with | (sn,sd,si,cnt,pd,pi)=>(bif (decide (0 < (sn:Int))) then (bif (inB (vJJ .i64 ((sn:Int) - 1)) sn) then (bif (decide (0≤(vJJ .i64 ((sn:Int) - 1)))) then (bif (decide ((vJJ .i64 ((sn:Int) - 1)).toNat≤sn)) then (bif (decide (4096≤(cnt:Int))) then (.inr (0,(sn,sd,si,cnt,pd,pi))) else (bif (gpc js ms n m cs c pp qq k l D (tp sn sd) (tp sn si)) then (bif (gho js ms n m cs c pp qq k l D (tp sn sd) (tp sn si)) then (bif (hE js ms n m cs c pp qq k (tp sn sd) (tp sn si)) then (bif (decide (cnt + 1≤1000000)) then (.inl ((vJJ .i64 ((sn:Int) - 1)).toNat,(fun v=>(sd v)),(fun v=>(si v)),(cnt + 1),(fun v=>(bif (Nat.beq v cnt) then (tp sn sd) else (pd v))),(fun v=>(bif (Nat.beq v cnt) then (tp sn si) else (pi v))))) else (.inr (3,(sn,sd,si,cnt,pd,pi)))) else (bif (gbr js ms n m cs c pp qq k l D (tp sn sd) (tp sn si)) then (bif (bE js ms n m cs c pp qq k (tp sn sd) (tp sn si)) then (.inr (1,(sn,sd,si,cnt,pd,pi))) else (bif (decide (D≤(tp sn sd))) then (.inr (0,(sn,sd,si,cnt,pd,pi))) else (bif (decide ((vJJ .i64 ((sn:Int) - 1)).toNat + 2≤1000000)) then (.inl ((((vJJ .i64 ((sn:Int) - 1)).toNat + 1) + 1),(fun v=>(bif (Nat.beq v ((vJJ .i64 ((sn:Int) - 1)).toNat + 1)) then (vJJ .i64 ((tp sn sd) + 1)) else (bif (Nat.beq v (vJJ .i64 ((sn:Int) - 1)).toNat) then (vJJ .i64 ((tp sn sd) + 1)) else (sd v)))),(fun v=>(bif (Nat.beq v ((vJJ .i64 ((sn:Int) - 1)).toNat + 1)) then (vJJ .i64 (2 * (tp sn si))) else (bif (Nat.beq v (vJJ .i64 ((sn:Int) - 1)).toNat) then (vJJ .i64 ((vJJ .i64 (2 * (tp sn si))) + 1)) else (si v)))),cnt,(fun v=>(pd v)),(fun v=>(pi v)))) else (.inr (3,(sn,sd,si,cnt,pd,pi)))))) else (.inr (3,(sn,sd,si,cnt,pd,pi))))) else (.inr (3,(sn,sd,si,cnt,pd,pi)))) else (.inr (3,(sn,sd,si,cnt,pd,pi))))) else (.inr (3,(sn,sd,si,cnt,pd,pi)))) else (.inr (3,(sn,sd,si,cnt,pd,pi)))) else (.inr (3,(sn,sd,si,cnt,pd,pi)))) else (.inr (2,(sn,sd,si,cnt,pd,pi))))
noncomputable def kxTu (N:Nat) (js:Nat→J) (ms:Nat→Ms) (n m:Nat) (cs:Nat→Cn) (c:Nat) (pp qq:Nat→Int) (k l:Nat) (D:Int) (K:Cont) (w9:Nat × Nat × (Nat→Int) × (Nat→Int) × Nat × (Nat→Int) × (Nat→Int)):Option (Ret × Mem):=bif Nat.beq w9.1 0 then (K .ret ⟨[(10,.p 10 0),(11,.p 11 0)],[(10,.blk [.v (.n .i64 0),.nl,.v (.n .i64 (tp w9.2.1 w9.2.2.1)),.v (.n .i64 (tp w9.2.1 w9.2.2.2.1)),.v (.l []),.v (.n .i64 0),.nl,.nl]),(11,.blk [.v (.n .i64 0),.o 79,.v (.n .i64 0),.v (.n .i64 0),.nl,.v (.n .i64 0),.nl,.nl]),(79,.reg 54 3 (.fo w9.2.2.2.2.1 (p3 w9.2.2.2.2.2.1 w9.2.2.2.2.2.2)))]⟩) else bif Nat.beq w9.1 1 then (K .ret ⟨[(10,.p 10 0),(11,.p 11 0)],[(10,.blk [.v (.n .i64 2),.nl,.v (.n .i64 (tp w9.2.1 w9.2.2.1)),.v (.n .i64 (tp w9.2.1 w9.2.2.2.1)),.v (.l []),.v (.n .i64 (yB js ms n m cs c pp qq k (tp w9.2.1 w9.2.2.1) (tp w9.2.1 w9.2.2.2.1))),.nl,.nl]),(11,.blk [.v (.n .i64 0),.o 79,.v (.n .i64 0),.v (.n .i64 0),.nl,.v (.n .i64 0),.nl,.nl]),(79,.reg 54 3 (.fo w9.2.2.2.2.1 (p3 w9.2.2.2.2.2.1 w9.2.2.2.2.2.2)))]⟩) else bif Nat.beq w9.1 2 then (K (.exit 0) ⟨[(10,.p 10 0),(11,.p 11 0)],[(10,.blk [.v (.n .i64 0),.nl,.v (.n .i64 0),.v (.n .i64 0),.nl,.v (.n .i64 0),.nl,.nl]),(11,.blk [.v (.n .i64 0),.o 79,.v (.n .i64 0),.v (.n .i64 0),.nl,.v (.n .i64 0),.nl,.nl]),(79,.reg 54 3 (.fo w9.2.2.2.2.1 (p3 w9.2.2.2.2.2.1 w9.2.2.2.2.2.2)))]⟩) else none
theorem wlTu (K:Cont) (N:Nat) (js:Nat→J) (ms:Nat→Ms) (n m:Nat) (cs:Nat→Cn) (c:Nat) (pp qq:Nat→Int) (k l:Nat) (D:Int):∀ n9 (t:(Nat × (Nat→Int) × (Nat→Int) × Nat × (Nat→Int) × (Nat→Int))),LFT Tf 22 (orTu N js ms n m cs c pp qq k l D) N [] [0,0,1,1,1,1] K n9 (hTu N js ms n m cs c pp qq k l D t.1 t.2.1 t.2.2.1 t.2.2.2.1 t.2.2.2.2.1 t.2.2.2.2.2)=(qXX (dcTu js ms n m cs c pp qq k l D) n9 t).bind (kxTu N js ms n m cs c pp qq k l D K):=fun n9 t=>by
 refine lp_gen (L:=LFT Tf 22 (orTu N js ms n m cs c pp qq k l D) N [] [0,0,1,1,1,1] K) (stp:=stpT Tf 22 (orTu N js ms n m cs c pp qq k l D) N [] [0,0,1,1,1,1] K) (fun _ _=>rfl) (fun _=>rfl) (fun t=>hTu N js ms n m cs c pp qq k l D t.1 t.2.1 t.2.2.1 t.2.2.2.1 t.2.2.2.2.1 t.2.2.2.2.2) (fun _=>True) (dcTu js ms n m cs c pp qq k l D) (kxTu N js ms n m cs c pp qq k l D K) (fun G t _ => ?_) (fun _ _ _ _=>trivial) n9 t trivial;obtain ⟨sn,sd,si,cnt,pd,pi⟩:=t;refine (rdTu G K N js ms n m cs c pp qq k l D sn sd si cnt pd pi).trans ?_;dsimp only [dcTu];cases (decide (0 < (sn:Int)))
 ·rfl
 ·cases (inB (vJJ .i64 ((sn:Int) - 1)) sn)
  ·rfl
  ·cases (decide (0≤(vJJ .i64 ((sn:Int) - 1))))
   ·rfl
   ·cases (decide ((vJJ .i64 ((sn:Int) - 1)).toNat≤sn))
    ·rfl
    ·cases (decide (4096≤(cnt:Int)))
     ·cases (gpc js ms n m cs c pp qq k l D (tp sn sd) (tp sn si))
      ·rfl
      ·cases (gho js ms n m cs c pp qq k l D (tp sn sd) (tp sn si))
       ·rfl
       ·cases (hE js ms n m cs c pp qq k (tp sn sd) (tp sn si))
        ·cases (gbr js ms n m cs c pp qq k l D (tp sn sd) (tp sn si))
         ·rfl
         ·cases (bE js ms n m cs c pp qq k (tp sn sd) (tp sn si))
          ·cases (decide (D≤(tp sn sd)))
           ·cases (decide ((vJJ .i64 ((sn:Int) - 1)).toNat + 2≤1000000))
            ·rfl
            ·rfl
           ·rfl
          ·rfl
        ·cases (decide (cnt + 1≤1000000))
         ·rfl
         ·rfl
     ·rfl
noncomputable def yQW (N:Nat) (js:Nat→J) (ms:Nat→Ms) (n m:Nat) (cs:Nat→Cn) (c:Nat) (pp qq:Nat→Int) (k l:Nat) (D:Int) (t:(Nat × (Nat→Int) × (Nat→Int) × Nat × (Nat→Int) × (Nat→Int))):Bool:=(qXX (dcTu js ms n m cs c pp qq k l D) N t).isSome
noncomputable def yUK (N:Nat) (js:Nat→J) (ms:Nat→Ms) (n m:Nat) (cs:Nat→Cn) (c:Nat) (pp qq:Nat→Int) (k l:Nat) (D:Int) (t:(Nat × (Nat→Int) × (Nat→Int) × Nat × (Nat→Int) × (Nat→Int))):Nat × Nat × (Nat→Int) × (Nat→Int) × Nat × (Nat→Int) × (Nat→Int):=(qXX (dcTu js ms n m cs c pp qq k l D) N t).getD (99,t)
theorem lwTu (K:Cont) (N:Nat) (js:Nat→J) (ms:Nat→Ms) (n m:Nat) (cs:Nat→Cn) (c:Nat) (pp qq:Nat→Int) (k l:Nat) (D:Int) (t:(Nat × (Nat→Int) × (Nat→Int) × Nat × (Nat→Int) × (Nat→Int))) (hg:yQW N js ms n m cs c pp qq k l D t=true):LFT Tf 22 (orTu N js ms n m cs c pp qq k l D) N [] [0,0,1,1,1,1] K N (hTu N js ms n m cs c pp qq k l D t.1 t.2.1 t.2.2.1 t.2.2.2.1 t.2.2.2.2.1 t.2.2.2.2.2)=kxTu N js ms n m cs c pp qq k l D K (yUK N js ms n m cs c pp qq k l D t):=by
 refine (wlTu K N js ms n m cs c pp qq k l D N t).trans ?_;unfold yQW at hg;unfold yUK;cases h:qXX (dcTu js ms n m cs c pp qq k l D) N t with
 | none=>rw [h] at hg; cases hg
 | some y=>rfl
noncomputable def oT (N:Nat) (js:Nat→J) (ms:Nat→Ms) (n m:Nat) (cs:Nat→Cn) (c:Nat) (pp qq:Nat→Int) (k l:Nat) (D:Int):Nat × Nat × (Nat→Int) × (Nat→Int) × Nat × (Nat→Int) × (Nat→Int):=yUK N js ms n m cs c pp qq k l D (1,(fun _=>0),(fun _=>0),0,(fun _=>0),(fun _=>0))
def tQ (t:Nat × (Nat→Int) × (Nat→Int) × Nat × (Nat→Int) × (Nat→Int)):Int × Int:=(tp t.1 t.2.1,tp t.1 t.2.2.1)
noncomputable def tR (js:Nat→J) (ms:Nat→Ms) (n m:Nat) (cs:Nat→Cn) (c:Nat) (pp qq:Nat→Int) (k l:Nat) (D:Int) (o:Nat × Nat × (Nat→Int) × (Nat→Int) × Nat × (Nat→Int) × (Nat→Int)):PV:=match o.1 with
 | 0=>.a [.n .i64 0,.l [],.n .i64 (tQ o.2).1,.n .i64 (tQ o.2).2,.l [],.n .i64 0,.l [],.l []]
 | 1=>.a [.n .i64 2,.l [],.n .i64 (tQ o.2).1,.n .i64 (tQ o.2).2,.l [],.n .i64 (yB js ms n m cs c pp qq k (tQ o.2).1 (tQ o.2).2),.l [],.l []]
 | _=>.a [.n .i64 1,.lf o.2.2.2.2.1 (p3 o.2.2.2.2.2.1 o.2.2.2.2.2.2),.n .i64 0,.n .i64 0,.l [],.n .i64 0,.l [],.l []]
noncomputable def yVH (N:Nat) (js:Nat→J) (ms:Nat→Ms) (n m:Nat) (cs:Nat→Cn) (c:Nat) (pp qq:Nat→Int) (k l:Nat) (D:Int):List (List Nat × uU):=[([0,0,1,1,1,1],sumF (fun t:(Nat × (Nat→Int) × (Nat→Int) × Nat × (Nat→Int) × (Nat→Int))=>(hTu N js ms n m cs c pp qq k l D t.1 t.2.1 t.2.2.1 t.2.2.2.1 t.2.2.2.2.1 t.2.2.2.2.2)) (fun σ=>(rgN σ 35,rgI σ 35 0,rgI σ 35 1,rgN σ 79,rgI σ 79 0,rgI σ 79 1)) (fun t K=>(bif yQW N js ms n m cs c pp qq k l D t then kxTu N js ms n m cs c pp qq k l D K (yUK N js ms n m cs c pp qq k l D t) else none)))]
set_option maxRecDepth 100000 in
theorem pxtu0 (N:Nat) (js:Nat→J) (ms:Nat→Ms) (n m:Nat) (cs:Nat→Cn) (c:Nat) (pp qq:Nat→Int) (k l:Nat) (D:Int):qXJ Tf (orTu N js ms n m cs c pp qq k l D) (zW (yVH N js ms n m cs c pp qq k l D)) N 22 [.a [.lf n (fJ js),.lf m (fM ms)],.lf c (fC cs),.lf k (fQ pp),.lf l (fQ qq),.n .i64 D] =
 (bif (g1 [.a [.lf n (fJ js),.lf m (fM ms)],.lf c (fC cs),.lf k (fQ pp),.lf l (fQ qq)]) then (bif ((cErr js ms n m cs c) && (qIn js ms pp n m k && qIn js ms qq n m l)) then (bif (decide (D < 0)) then some (.v (.a [.n .i64 0,.l [],.n .i64 0,.n .i64 0,.l [],.n .i64 0,.l [],.l []]),[])
 else (bif (decide (20 < D)) then some (.v (.a [.n .i64 0,.l [],.n .i64 0,.n .i64 0,.l [],.n .i64 0,.l [],.l []]),[])
 else (bif (gSt (hTu N js ms n m cs c pp qq k l D 1 (fun _=>0) (fun _=>0) 0 (fun _=>0) (fun _=>0)) (hTu N js ms n m cs c pp qq k l D 1 (fun _=>0) (fun _=>0) 0 (fun _=>0) (fun _=>0))) then (bif (yQW N js ms n m cs c pp qq k l D (1,(fun _=>0),(fun _=>0),0,(fun _=>0),(fun _=>0))) then (bif (Nat.beq (oT N js ms n m cs c pp qq k l D).1 0) then some (.v (.a [.n .i64 0,.l [],.n .i64 ((oT N js ms n m cs c pp qq k l D).2.2.1 (vJJ .i64 (((oT N js ms n m cs c pp qq k l D).2.1:Int) - 1)).toNat),.n .i64 ((oT N js ms n m cs c pp qq k l D).2.2.2.1 (vJJ .i64 (((oT N js ms n m cs c pp qq k l D).2.1:Int) - 1)).toNat),.l [],.n .i64 0,.l [],.l []]),[])
 else (bif (Nat.beq (oT N js ms n m cs c pp qq k l D).1 1) then some (.v (.a [.n .i64 2,.l [],.n .i64 ((oT N js ms n m cs c pp qq k l D).2.2.1 (vJJ .i64 (((oT N js ms n m cs c pp qq k l D).2.1:Int) - 1)).toNat),.n .i64 ((oT N js ms n m cs c pp qq k l D).2.2.2.1 (vJJ .i64 (((oT N js ms n m cs c pp qq k l D).2.1:Int) - 1)).toNat),.l [],.n .i64 (yB js ms n m cs c pp qq k ((oT N js ms n m cs c pp qq k l D).2.2.1 (vJJ .i64 (((oT N js ms n m cs c pp qq k l D).2.1:Int) - 1)).toNat) ((oT N js ms n m cs c pp qq k l D).2.2.2.1 (vJJ .i64 (((oT N js ms n m cs c pp qq k l D).2.1:Int) - 1)).toNat)),.l [],.l []]),[])
 else (bif (Nat.beq (oT N js ms n m cs c pp qq k l D).1 2) then some (.v (.a [.n .i64 1,.lf (oT N js ms n m cs c pp qq k l D).2.2.2.2.1 (fun v=>[.n .i64 ((oT N js ms n m cs c pp qq k l D).2.2.2.2.2.1 v),.n .i64 ((oT N js ms n m cs c pp qq k l D).2.2.2.2.2.2 v),.l []]),.n .i64 0,.n .i64 0,.l [],.n .i64 0,.l [],.l []]),[])
 else none)))
 else none)
 else none)))
 else some (.v (.a [.n .i64 0,.l [],.n .i64 0,.n .i64 0,.l [],.n .i64 0,.l [],.l []]),[]))
 else none):=by kernel_rfl
theorem snd_tu0 (N:Nat) (js:Nat→J) (ms:Nat→Ms) (n m:Nat) (cs:Nat→Cn) (c:Nat) (pp qq:Nat→Int) (k l:Nat) (D:Int) (ho:okE js ms n m cs c pp qq k l D=true→yQW N js ms n m cs c pp qq k l D (1,(fun _=>0),(fun _=>0),0,(fun _=>0),(fun _=>0))=true∧(oT N js ms n m cs c pp qq k l D).1 < 3):yZ Tryz.prog 22 [.a [.lf n (fJ js),.lf m (fM ms)],.lf c (fC cs),.lf k (fQ pp),.lf l (fQ qq),.n .i64 D] (bif okE js ms n m cs c pp qq k l D then .v (tR js ms n m cs c pp qq k l D (oT N js ms n m cs c pp qq k l D)) else .v (.a [.n .i64 0,.l [],.n .i64 0,.n .i64 0,.l [],.n .i64 0,.l [],.l []])):=by
 refine jX (N:=N) (LO:=zW (yVH N js ms n m cs c pp qq k l D)) qZH yQ (qZC (l:=[(39,o_cr [.a [.lf n (fJ js),.lf m (fM ms)],.lf c (fC cs),.lf k (fQ pp),.lf l (fQ qq)] (.v (.b ((cErr js ms n m cs c) && (qIn js ms pp n m k && qIn js ms qq n m l))))),(40,o_pq pp qq k l),(28,o_ho js ms n m cs c pp qq k),(26,o_br js ms n m cs c pp qq k)]) (m:=[]) ⟨qJZ (snd_in9 js ms n m cs c pp qq k l D),ok_pq pp qq k l,ok_ho js ms n m cs c pp qq k,ok_br js ms n m cs c pp qq k,trivial⟩ trivial) (fun p S hp => ?_) ?_
 ·refine jK (L:=qK Tf 22) (l:=(yVH N js ms n m cs c pp qq k l D)) (show AllP _ (yVH N js ms n m cs c pp qq k l D) from ⟨?_,trivial⟩) p S hp
  ·dsimp only;refine qVW (T:=Tf) (o:=(orTu N js ms n m cs c pp qq k l D)) (f:=22) (LO:=zW []) (p:=[0,0,1,1,1,1]) qVF ?_;intro t K r hr;obtain ⟨hg,hr⟩:=qQ hr
   skip
   exact (lwTu K N js ms n m cs c pp qq k l D t hg).trans hr
 ·refine (pxtu0 N js ms n m cs c pp qq k l D).trans ?_;simp only [g1_t,vYV];have e:okE js ms n m cs c pp qq k l D=(((cErr js ms n m cs c) && (qIn js ms pp n m k && qIn js ms qq n m l)) && (decide (0≤D) && decide (D≤20))):=by unfold okE; simp only [Bool.and_assoc]
  rw [e] at ho ⊢;cases hc:((cErr js ms n m cs c) && (qIn js ms pp n m k && qIn js ms qq n m l)) with
  | false=>rfl
  | true =>
   by_cases h0:D < 0
   ·rw [vJQ h0,vYH (show ¬ 0≤D by omega)]; rfl
   ·by_cases h1:20 < D
    ·rw [vYH h0,vJQ h1,vYH (show ¬ D≤20 by omega),Bool.and_false]; rfl
    ·rw [hc,vJQ (show D≤20 by omega),vJQ (show 0≤D by omega)] at ho;obtain ⟨h2,h3⟩:=ho rfl;rw [vYH h0,vYH h1,vJQ (show D≤20 by omega),vJQ (show 0≤D by omega),jG,h2];unfold tR;generalize (oT N js ms n m cs c pp qq k l D)=o at h3;obtain ⟨w,o⟩:=o
     match w,h3 with
     | 0,_=>rfl
     | 1,_=>rfl
     | 2,_=>rfl
end Go.Proofs.YtfcofnclgajfeaaGreat.Tc

/- Part 17 of the texts behind the last one: rules and contracts. No condition. -/
import Derived.Test.YtgmbkkkbfbocnaaGreatGM16
open Bool renaming and_eq_true → vQJ, and_self → vZJ
open Go.IntKind renaming wrap → vJJ
namespace Go.Proofs.YtgmbkkkbfbocnaaGreat.Nm
open Go.Rx Rt Go.Sx Go.RowKit Od Na Nb Nc Nx Nl
def hSx (q:Nat→Int) (k:Nat) (i:Int):St:=⟨[(0,.v (.lf k (fQ q))),(1,.v (.f 151 [] [])),(7,.v (.n .i64 (k:Int))),(8,.v (.n .i64 i))],[]⟩
set_option maxRecDepth 100000 in
theorem rdSx (G:St→Option (Ret × Mem)) (K:Cont) (q:Nat→Int) (k:Nat) (i:Int):yWK 60 (cxF T (OrL.k ([]:OrL)) 60 172 (ntmF T 172)) (ckF T (OrL.k ([]:OrL)) 60) (qQ T 172 [0,1,0,1]) ((cxF T (OrL.k ([]:OrL)) 60 172 (ntmF T 172)).T.hint (cxF T (OrL.k ([]:OrL)) 60 172 (ntmF T 172)).me (qJ (qQ T 172 [0,1,0,1]))) K G (hSx q k i) =
 (bif (decide (i < (k:Int))) then (bif (inB i k) then (bif (decide ((q (i).toNat) < (-2147483648))) then (K .ret ⟨[(4,.v (.n .i64 i))],[]⟩)
 else (bif (decide (2147483648 < (q (i).toNat))) then (K .ret ⟨[(4,.v (.n .i64 i))],[]⟩)
 else (G (hSx q k (vJJ .i64 (i + 1))))))
 else none)
 else (K (.exit 0) ⟨[],[]⟩)):=by kernel_rfl
theorem lpSx (K:Cont) (q:Nat→Int) (k:Nat) (_:k≤50):LF 60 (cxF T (OrL.k ([]:OrL)) 60 172 (ntmF T 172)) (ckF T (OrL.k ([]:OrL)) 60) (qQ T 172 [0,1,0,1]) ((cxF T (OrL.k ([]:OrL)) 60 172 (ntmF T 172)).T.hint (cxF T (OrL.k ([]:OrL)) 60 172 (ntmF T 172)).me (qJ (qQ T 172 [0,1,0,1]))) K 60 (hSx q k 0)=bif (allN (fun i:Nat => !decide (q i < -2147483648) && !decide (2147483648 < q i)) k 0) then (K (.exit 0) ⟨[],[]⟩) else (K .ret ⟨[(4,.v (.n .i64 ((Rx.firstK (fun i:Nat => !decide (q i < -2147483648) && !decide (2147483648 < q i)) k 0:Nat):Int)))],[]⟩):=by
 refine (yKY (c:=k) (hSx q k) (fun i:Nat => !decide (q i < -2147483648) && !decide (2147483648 < q i)) (K (.exit 0) ⟨[],[]⟩) (fun i:Nat=>(K .ret ⟨[(4,.v (.n .i64 (i:Int)))],[]⟩)) (fun G i hi => ?_) (fun G => ?_) k 0 60 (by omega) (by omega)).trans (uG _ _ _ _ _)
 ·refine (rdSx G K q k i).trans ?_;rw [vJQ (show (i:Int) < (k:Int) by omega),kW (by omega),yX (show i < k by omega),toN];cases decide (q i < -2147483648) <;> cases decide (2147483648 < q i) <;> rfl
 ·refine (rdSx G K q k k).trans ?_;rw [vYH (show ¬ (k:Int) < (k:Int) by omega)];rfl
def smQ (q:Nat→Int) (k:Nat):Bool:=(allN (fun i:Nat => !decide (q i < -2147483648) && !decide (2147483648 < q i)) k 0)
set_option maxRecDepth 100000 in
theorem pxsidx (q:Nat→Int) (k:Nat):qHV T (OrL.k ([]:OrL)) (qZ [([0,1,0,1],uU (hSx q k 0) (fun K=>(bif (decide (k≤50)) then (bif (allN (fun i:Nat => !decide (q i < -2147483648) && !decide (2147483648 < q i)) k 0) then (K (.exit 0) ⟨[],[]⟩) else (K .ret ⟨[(4,.v (.n .i64 ((Rx.firstK (fun i:Nat => !decide (q i < -2147483648) && !decide (2147483648 < q i)) k 0:Nat):Int)))],[]⟩)) else none)))]) 60 172 [.lf k (fQ q),.f 151 [] []] =
 (bif (gSt (hSx q k 0) (hSx q k 0)) then (bif (decide (k≤50)) then (bif (allN (fun i:Nat => !decide (q i < -2147483648) && !decide (2147483648 < q i)) k 0) then some (.v (.n .i64 (-1)),[])
 else some (.v (.n .i64 ((Rx.firstK (fun i:Nat => !decide (q i < -2147483648) && !decide (2147483648 < q i)) k 0:Nat):Int)),[]))
 else none)
 else none):=by kernel_rfl
theorem snd_sidx (q:Nat→Int) (k:Nat) (hk:k≤50):yK Tryz.prog 172 [.lf k (fQ q),.f 151 [] []] (.v (.n .i64 (bif smQ q k then -1 else ((Rx.firstK (fun i:Nat => !decide (q i < -2147483648) && !decide (2147483648 < q i)) k 0:Nat):Int)))):=by
 refine uX (N:=60) (LO:=qZ [([0,1,0,1],uU (hSx q k 0) (fun K=>(bif (decide (k≤50)) then (bif (allN (fun i:Nat => !decide (q i < -2147483648) && !decide (2147483648 < q i)) k 0) then (K (.exit 0) ⟨[],[]⟩) else (K .ret ⟨[(4,.v (.n .i64 ((Rx.firstK (fun i:Nat => !decide (q i < -2147483648) && !decide (2147483648 < q i)) k 0:Nat):Int)))],[]⟩)) else none)))]) yJ zG (OrL.ok (l:=([]:OrL)) trivial) (fun p S hp => ?_) ?_
 ·refine qZK (L:=qQ T 172) (l:=[([0,1,0,1],uU (hSx q k 0) (fun K=>(bif (decide (k≤50)) then (bif (allN (fun i:Nat => !decide (q i < -2147483648) && !decide (2147483648 < q i)) k 0) then (K (.exit 0) ⟨[],[]⟩) else (K .ret ⟨[(4,.v (.n .i64 ((Rx.firstK (fun i:Nat => !decide (q i < -2147483648) && !decide (2147483648 < q i)) k 0:Nat):Int)))],[]⟩)) else none)))]) (show AllP _ [([0,1,0,1],uU (hSx q k 0) (fun K=>(bif (decide (k≤50)) then (bif (allN (fun i:Nat => !decide (q i < -2147483648) && !decide (2147483648 < q i)) k 0) then (K (.exit 0) ⟨[],[]⟩) else (K .ret ⟨[(4,.v (.n .i64 ((Rx.firstK (fun i:Nat => !decide (q i < -2147483648) && !decide (2147483648 < q i)) k 0:Nat):Int)))],[]⟩)) else none)))] from ⟨qJH fun K r hr => ?_,trivial⟩) p S hp
  ·obtain ⟨hg,hr⟩:=qY hr;have hk:=vJZ hg;exact (lpSx K q k hk).trans hr
 ·refine (pxsidx q k).trans ?_;unfold smQ;rw [yU,vJQ hk];cases (allN (fun i:Nat => !decide (q i < -2147483648) && !decide (2147483648 < q i)) k 0) <;> rfl
theorem snd_scon (q:Nat→Int) (k:Nat) (hk:k≤50):yK Tryz.prog 150 [.lf k (fQ q),.f 151 [] []] (.v (.b (!smQ q k))):=by
 refine qH (N:=60) yJ zG (OrL.ok (l:=[(172,o_cr [.lf k (fQ q),.f 151 [] []] (.v (.n .i64 (bif smQ q k then -1 else ((Rx.firstK (fun i:Nat => !decide (q i < -2147483648) && !decide (2147483648 < q i)) k 0:Nat):Int)))))]) ⟨zJX (snd_sidx q k hk),trivial⟩) ?_;refine (by kernel_rfl:_=bif (g1 [.lf k (fQ q),.f 151 [] []]) then (bif (decide (0≤(bif smQ q k then -1 else ((Rx.firstK (fun i:Nat => !decide (q i < -2147483648) && !decide (2147483648 < q i)) k 0:Nat):Int)))) then some (.v (.b true),[])
 else some (.v (.b false),[]))
 else none).trans ?_
 rw [g1_t];cases smQ q k with
 | true=>rfl
 | false =>
  rw [vYG,vJQ (show 0≤((Rx.firstK (fun i:Nat => !decide (q i < -2147483648) && !decide (2147483648 < q i)) k 0:Nat):Int) by omega)];rfl
theorem snd_sm (q:Nat→Int) (k:Nat) (hk:k≤50):yK Tryz.prog 120 [.lf k (fQ q)] (.v (.b (smQ q k))):=by
 refine qH (N:=60) yJ zG (OrL.ok (l:=[(150,o_cr [.lf k (fQ q),.f 151 [] []] (.v (.b (!smQ q k))))]) ⟨zJX (snd_scon q k hk),trivial⟩) ?_;refine (by kernel_rfl:_=bif (g1 [.lf k (fQ q),.f 151 [] []]) then (bif (!smQ q k) then some (.v (.b false),[])
 else some (.v (.b true),[]))
 else none).trans ?_
 rw [g1_t];cases smQ q k <;> rfl
def hSr (q:Nat→Int) (k:Nat) (i:Int):St:=⟨[(0,.v (.lf k (fQ q))),(3,.v (.n .i64 i))],[]⟩
set_option maxRecDepth 100000 in
theorem rdSr (G:St→Option (Ret × Mem)) (K:Cont) (q:Nat→Int) (k:Nat) (i:Int):yWK 60 (cxF T (OrL.k ([]:OrL)) 60 69 (ntmF T 69)) (ckF T (OrL.k ([]:OrL)) 60) (qQ T 69 [0,1,0,1]) ((cxF T (OrL.k ([]:OrL)) 60 69 (ntmF T 69)).T.hint (cxF T (OrL.k ([]:OrL)) 60 69 (ntmF T 69)).me (qJ (qQ T 69 [0,1,0,1]))) K G (hSr q k i) =
 (bif (decide (i < (k:Int))) then (bif (inB i k) then (bif (decide ((q (i).toNat) < (-2147483648))) then (K .ret ⟨[(2,.v (.b false))],[]⟩)
 else (bif (inB i k) then (bif (decide (2147483648 < (q (i).toNat))) then (K .ret ⟨[(2,.v (.b false))],[]⟩)
 else (G (hSr q k (vJJ .i64 (i + 1)))))
 else none))
 else none)
 else (K (.exit 0) ⟨[],[]⟩)):=by kernel_rfl
theorem lpSr (K:Cont) (q:Nat→Int) (k:Nat) (_:k≤50):LF 60 (cxF T (OrL.k ([]:OrL)) 60 69 (ntmF T 69)) (ckF T (OrL.k ([]:OrL)) 60) (qQ T 69 [0,1,0,1]) ((cxF T (OrL.k ([]:OrL)) 60 69 (ntmF T 69)).T.hint (cxF T (OrL.k ([]:OrL)) 60 69 (ntmF T 69)).me (qJ (qQ T 69 [0,1,0,1]))) K 60 (hSr q k 0)=bif (allN (fun i:Nat => !decide (q i < -2147483648) && !decide (2147483648 < q i)) k 0) then (K (.exit 0) ⟨[],[]⟩) else (K .ret ⟨[(2,.v (.b false))],[]⟩):=by
 refine (yKY (c:=k) (hSr q k) (fun i:Nat => !decide (q i < -2147483648) && !decide (2147483648 < q i)) (K (.exit 0) ⟨[],[]⟩) (fun i:Nat=>(K .ret ⟨[(2,.v (.b false))],[]⟩)) (fun G i hi => ?_) (fun G => ?_) k 0 60 (by omega) (by omega)).trans (yH _ _ _ _ _)
 ·refine (rdSr G K q k i).trans ?_;rw [vJQ (show (i:Int) < (k:Int) by omega),kW (by omega),yX (show i < k by omega),toN];cases decide (q i < -2147483648) <;> cases decide (2147483648 < q i) <;> rfl
 ·refine (rdSr G K q k k).trans ?_;rw [vYH (show ¬ (k:Int) < (k:Int) by omega)];rfl
set_option maxRecDepth 100000 in
theorem pxrsm (q:Nat→Int) (k:Nat):qHV T (OrL.k ([]:OrL)) (qZ [([0,1,0,1],uU (hSr q k 0) (fun K=>(bif (decide (k≤50)) then (bif (allN (fun i:Nat => !decide (q i < -2147483648) && !decide (2147483648 < q i)) k 0) then (K (.exit 0) ⟨[],[]⟩) else (K .ret ⟨[(2,.v (.b false))],[]⟩)) else none)))]) 60 69 [.lf k (fQ q)] =
 (bif (gSt (hSr q k 0) (hSr q k 0)) then (bif (decide (k≤50)) then (bif (allN (fun i:Nat => !decide (q i < -2147483648) && !decide (2147483648 < q i)) k 0) then some (.v (.b true),[])
 else some (.v (.b false),[]))
 else none)
 else none):=by kernel_rfl
theorem snd_rsm (q:Nat→Int) (k:Nat) (hk:k≤50):yK Tryz.prog 69 [.lf k (fQ q)] (.v (.b (smQ q k))):=by
 refine uX (N:=60) (LO:=qZ [([0,1,0,1],uU (hSr q k 0) (fun K=>(bif (decide (k≤50)) then (bif (allN (fun i:Nat => !decide (q i < -2147483648) && !decide (2147483648 < q i)) k 0) then (K (.exit 0) ⟨[],[]⟩) else (K .ret ⟨[(2,.v (.b false))],[]⟩)) else none)))]) yJ zG (OrL.ok (l:=([]:OrL)) trivial) (fun p S hp => ?_) ?_
 ·refine qZK (L:=qQ T 69) (l:=[([0,1,0,1],uU (hSr q k 0) (fun K=>(bif (decide (k≤50)) then (bif (allN (fun i:Nat => !decide (q i < -2147483648) && !decide (2147483648 < q i)) k 0) then (K (.exit 0) ⟨[],[]⟩) else (K .ret ⟨[(2,.v (.b false))],[]⟩)) else none)))]) (show AllP _ [([0,1,0,1],uU (hSr q k 0) (fun K=>(bif (decide (k≤50)) then (bif (allN (fun i:Nat => !decide (q i < -2147483648) && !decide (2147483648 < q i)) k 0) then (K (.exit 0) ⟨[],[]⟩) else (K .ret ⟨[(2,.v (.b false))],[]⟩)) else none)))] from ⟨qJH fun K r hr => ?_,trivial⟩) p S hp
  ·obtain ⟨hg,hr⟩:=qY hr;have hk:=vJZ hg;exact (lpSr K q k hk).trans hr
 ·refine (pxrsm q k).trans ?_;unfold smQ;rw [yU,vJQ hk];cases (allN (fun i:Nat => !decide (q i < -2147483648) && !decide (2147483648 < q i)) k 0) <;> rfl
theorem runS_fillJ {β:Type} {g h:Nat→Int} {KX:(Nat→Int) × (Nat→Int)→β} {KR:Nat→(Nat→Int) × (Nat→Int)→β}:∀ k p t,runS (fun _ _=>true) (fun (i:Nat) (t:(Nat→Int) × (Nat→Int))=>((fun v=>bif Nat.beq v i then g i else t.1 v),(fun v=>bif Nat.beq v i then h i else t.2 v))) KX KR k p t=KX (qVH g k p t.1,qVH h k p t.2)
 | 0,_,_=>rfl
 | k + 1,p,t=>by
  simp only [runS,vYV];exact runS_fillJ k (p + 1) _
noncomputable def orMp (q:Nat→Int) (k:Nat):OrL:=([]:OrL)
noncomputable def hMp (q:Nat→Int) (k:Nat) (i:Int) (a:Nat→Int) (b:Nat→Int):St:=⟨[(1,.v (.f 122 [] [])),(5,.o 10),(11,.v (.lf k (fQ q))),(12,.v (.n .i64 (k:Int))),(13,.v (.n .i64 i))],[(10,.reg 62 2 (.fo (k:Int).toNat (fun v=>[.n .i64 (a v),.n .i64 (b v)])))]⟩
set_option maxRecDepth 100000 in
theorem rdMp (G:St→Option (Ret × Mem)) (K:Cont) (q:Nat→Int) (k:Nat) (i:Int) (a:Nat→Int) (b:Nat→Int):jGY 60 (cxF Tf (OrL.k (orMp q k)) 60 121 (ntmF Tf 121)) (ckF Tf (OrL.k (orMp q k)) 60) (qZ []) (qQ Tf 121 [0,1,0,1,1]) [0,1,0,1,1] (Tf.hint 121 (qJ (qQ Tf 121 [0,1,0,1,1]))) K G (hMp q k i a b) =
 (bif (decide (i < (k:Int))) then (bif (inB i k) then (bif (inB i (k:Int).toNat) then (G (hMp q k (vJJ .i64 (i + 1)) (fun v=>(bif (Nat.beq v (i).toNat) then (min (max (q (i).toNat) (-2147483648)) 2147483648) else (a v))) (fun v=>(bif (Nat.beq v (i).toNat) then (min (max (q (i).toNat) (-2147483648)) 2147483648) else (b v)))))
 else none)
 else none)
 else (K (.exit 0) ⟨[(5,.o 10)],[(10,.reg 62 2 (.fo (k:Int).toNat (fun v=>[.n .i64 (a v),.n .i64 (b v)])))]⟩)):=by kernel_rfl
theorem lpMp (K:Cont) (q:Nat→Int) (k:Nat) (_:k≤50):LFL 60 (cxF Tf (OrL.k (orMp q k)) 60 121 (ntmF Tf 121)) (ckF Tf (OrL.k (orMp q k)) 60) (qZ []) (qQ Tf 121 [0,1,0,1,1]) [0,1,0,1,1] (Tf.hint 121 (qJ (qQ Tf 121 [0,1,0,1,1]))) K 60 (hMp q k 0 (fun _=>0) (fun _=>0))=(K (.exit 0) ⟨[(5,.o 10)],[(10,.reg 62 2 (.fo (k:Int).toNat (fun v=>[.n .i64 ((qVH (fun i:Nat=>min (max (q i) (-2147483648)) 2147483648) k 0 (fun _=>0)) v),.n .i64 ((qVH (fun i:Nat=>min (max (q i) (-2147483648)) 2147483648) k 0 (fun _=>0)) v)])))]⟩):=by
 refine (uK (L:=LFL 60 (cxF Tf (OrL.k (orMp q k)) 60 121 (ntmF Tf 121)) (ckF Tf (OrL.k (orMp q k)) 60) (qZ []) (qQ Tf 121 [0,1,0,1,1]) [0,1,0,1,1] (Tf.hint 121 (qJ (qQ Tf 121 [0,1,0,1,1]))) K) (stp:=jGY 60 (cxF Tf (OrL.k (orMp q k)) 60 121 (ntmF Tf 121)) (ckF Tf (OrL.k (orMp q k)) 60) (qZ []) (qQ Tf 121 [0,1,0,1,1]) [0,1,0,1,1] (Tf.hint 121 (qJ (qQ Tf 121 [0,1,0,1,1]))) K) (fun _ _=>rfl) (fun (i:Nat) (t:((Nat→Int) × (Nat→Int)))=>hMp q k (i:Int) t.1 t.2) (fun _ _=>True) (fun _ _=>true) (fun (i:Nat) t=>((fun v=>bif Nat.beq v i then min (max (q i) (-2147483648)) 2147483648 else t.1 v),(fun v=>bif Nat.beq v i then min (max (q i) (-2147483648)) 2147483648 else t.2 v))) (c:=k) (fun t=>(K (.exit 0) ⟨[(5,.o 10)],[(10,.reg 62 2 (.fo (k:Int).toNat (fun v=>[.n .i64 (t.1 v),.n .i64 (t.2 v)])))]⟩)) (fun _ _=>none) (fun G i t hi _ => ?_) (fun _ _ _ _ _=>trivial) (fun G t _ => ?_) k 0 60 ((fun _=>0),(fun _=>0)) (by omega) (by omega) trivial).trans (runS_fillJ k 0 _)
 ·refine (rdMp G K q k i t.1 t.2).trans ?_;simp only [vJQ (show (i:Int) < (k:Int) by omega),kW (show i < 1000000 by omega),yX (show i < k by omega),toN,vYV]
  all_goals rfl
 ·refine (rdMp G K q k k t.1 t.2).trans ?_;rw [vYH (show ¬ (k:Int) < (k:Int) by omega)];rfl
noncomputable def kUW (q:Nat→Int) (k:Nat):List (List Nat × jK):=[([0,1,0,1,1],sumF (fun _:Unit=>(hMp q k 0 (fun _=>0) (fun _=>0))) (fun _=>()) (fun _ K=>(bif (decide (k≤50)) then (K (.exit 0) ⟨[(5,.o 10)],[(10,.reg 62 2 (.fo (k:Int).toNat (fun v=>[.n .i64 ((qVH (fun i:Nat=>min (max (q i) (-2147483648)) 2147483648) k 0 (fun _=>0)) v),.n .i64 ((qVH (fun i:Nat=>min (max (q i) (-2147483648)) 2147483648) k 0 (fun _=>0)) v)])))]⟩) else none)))]
set_option maxRecDepth 100000 in
theorem pxmap (q:Nat→Int) (k:Nat):qHV Tf (OrL.k (orMp q k)) (qZ (kUW q k)) 60 121 [.lf k (fQ q),.f 122 [] []] =
 (bif (decide (0≤(k:Int))) then (bif (decide ((k:Int)≤(k:Int))) then (bif (decide ((k:Int)≤1000000)) then (bif (gSt (hMp q k 0 (fun _=>0) (fun _=>0)) (hMp q k 0 (fun _=>0) (fun _=>0))) then (bif (decide (k≤50)) then some (.ow 62 2 (.fo (k:Int).toNat (fun v=>[.n .i64 ((qVH (fun i:Nat=>min (max (q i) (-2147483648)) 2147483648) k 0 (fun _=>0)) v),.n .i64 ((qVH (fun i:Nat=>min (max (q i) (-2147483648)) 2147483648) k 0 (fun _=>0)) v)])),[])
 else none)
 else none)
 else none)
 else none)
 else none):=by kernel_rfl
theorem snd_map (q:Nat→Int) (k:Nat) (hk:k≤50):yK Tryz.prog 121 [.lf k (fQ q),.f 122 [] []] (.ow 62 2 (.fo k (fun v=>[.n .i64 ((qVH (fun i:Nat=>min (max (q i) (-2147483648)) 2147483648) k 0 (fun _=>0)) v),.n .i64 ((qVH (fun i:Nat=>min (max (q i) (-2147483648)) 2147483648) k 0 (fun _=>0)) v)]))):=by
 refine runKL_sound2 (N:=60) (LO:=qZ (kUW q k)) jH zG (OrL.ok (l:=(orMp q k)) trivial) (fun p S hp => ?_) ?_
 ·refine zU (L:=qQ Tf 121) (l:=(kUW q k)) (show AllP _ (kUW q k) from ⟨?_,trivial⟩) p S hp
  ·dsimp only;refine sumF_ok (T:=Tf) (ok:=(OrL.k (orMp q k))) (f:=121) (LO:=qZ []) (p:=[0,1,0,1,1]) kJ ?_;intro _ K r hr;obtain ⟨hg,hr⟩:=qY hr;have hk:=vJZ hg;exact (lpMp K q k hk).trans hr
 ·refine (pxmap q k).trans ?_;simp only [yU,vJQ hk,vJQ (show (0:Int)≤(k:Int) by omega),vJQ (show (k:Int)≤(k:Int) by omega),vJQ (show (k:Int)≤1000000 by omega),toN,vYV]
noncomputable def orRb (q:Nat→Int) (k:Nat):OrL:=[(69,o_lk [.lf k (fQ q)] (decide (k≤50)) (.v (.b (smQ q k))))]
noncomputable def hRb (q:Nat→Int) (k:Nat) (i:Int) (r:Nat) (f:Nat→List PV):St:=⟨[(0,.v (.lf k (fQ q))),(3,.o 25),(4,.v (.n .i64 i))],[(25,.reg 62 2 (.fo r f))]⟩
set_option maxRecDepth 100000 in
theorem rdRb (G:St→Option (Ret × Mem)) (K:Cont) (q:Nat→Int) (k:Nat) (i:Int) (r:Nat) (f:Nat→List PV):jGY 60 (cxF Tf (OrL.k (orRb q k)) 60 23 (ntmF Tf 23)) (ckF Tf (OrL.k (orRb q k)) 60) (qZ []) (qQ Tf 23 [0,1,0,1,1,1]) [0,1,0,1,1,1] (Tf.hint 23 (qJ (qQ Tf 23 [0,1,0,1,1,1]))) K G (hRb q k i r f) =
 (bif (decide (i < (k:Int))) then (bif (inB i k) then (bif (inB i k) then (bif (decide (r + 1≤8796093022208)) then (G (hRb q k (vJJ .i64 (i + 1)) (r + 1) (fun v=>qUY (Nat.beq v r) [.n .i64 (q (i).toNat),.n .i64 (q (i).toNat)] (f v))))
 else none)
 else none)
 else none)
 else (K (.exit 0) ⟨[(3,.o 25)],[(25,.reg 62 2 (.fo r f))]⟩)):=by kernel_rfl
theorem lpRb (K:Cont) (q:Nat→Int) (k:Nat) (_:k≤50):LFL 60 (cxF Tf (OrL.k (orRb q k)) 60 23 (ntmF Tf 23)) (ckF Tf (OrL.k (orRb q k)) 60) (qZ []) (qQ Tf 23 [0,1,0,1,1,1]) [0,1,0,1,1,1] (Tf.hint 23 (qJ (qQ Tf 23 [0,1,0,1,1,1]))) K 60 (hRb q k 0 0 (fun _=>[.n .i64 0,.n .i64 0]))=(K (.exit 0) ⟨[(3,.o 25)],[(25,.reg 62 2 (.fo k (yUH (fun i:Nat=>[.n .i64 (q i),.n .i64 (q i)]) k 0 (fun _=>[.n .i64 0,.n .i64 0]))))]⟩):=by
 refine (uK (L:=LFL 60 (cxF Tf (OrL.k (orRb q k)) 60 23 (ntmF Tf 23)) (ckF Tf (OrL.k (orRb q k)) 60) (qZ []) (qQ Tf 23 [0,1,0,1,1,1]) [0,1,0,1,1,1] (Tf.hint 23 (qJ (qQ Tf 23 [0,1,0,1,1,1]))) K) (stp:=jGY 60 (cxF Tf (OrL.k (orRb q k)) 60 23 (ntmF Tf 23)) (ckF Tf (OrL.k (orRb q k)) 60) (qZ []) (qQ Tf 23 [0,1,0,1,1,1]) [0,1,0,1,1,1] (Tf.hint 23 (qJ (qQ Tf 23 [0,1,0,1,1,1]))) K) (fun _ _=>rfl) (fun (i:Nat) (f:Nat→List PV)=>hRb q k (i:Int) i f) (fun _ _=>True) (fun _ _=>true) (fun (i:Nat) f v=>qUY (Nat.beq v i) ([.n .i64 (q i),.n .i64 (q i)]) (f v)) (c:=k) (fun f=>(K (.exit 0) ⟨[(3,.o 25)],[(25,.reg 62 2 (.fo k f))]⟩)) (fun _ _=>none) (fun G i f hi _ => ?_) (fun _ _ _ _ _=>trivial) (fun G f _ => ?_) k 0 60 (fun _=>[.n .i64 0,.n .i64 0]) (by omega) (by omega) trivial).trans (runS_fill k 0 (fun _=>[.n .i64 0,.n .i64 0]))
 ·refine (rdRb G K q k (i:Int) i f).trans ?_;simp only [vJQ (show (i:Int) < (k:Int) by omega),kW (show i < 1000000 by omega),yX (show i < k by omega),toN,vJQ (show i + 1≤8796093022208 by omega),vYV]
  all_goals rfl
 ·refine (rdRb G K q k (k:Int) k f).trans ?_;rw [vYH (show ¬ (k:Int) < (k:Int) by omega)];rfl
noncomputable def jWH (q:Nat→Int) (k:Nat):List (List Nat × jK):=[([0,1,0,1,1,1],sumF (fun _:Unit=>(hRb q k 0 0 (fun _=>[.n .i64 0,.n .i64 0]))) (fun _=>()) (fun _ K=>(bif (decide (k≤50)) then (K (.exit 0) ⟨[(3,.o 25)],[(25,.reg 62 2 (.fo k (yUH (fun i:Nat=>[.n .i64 (q i),.n .i64 (q i)]) k 0 (fun _=>[.n .i64 0,.n .i64 0]))))]⟩) else none)))]
set_option maxRecDepth 100000 in
theorem pxrbx0 (q:Nat→Int) (k:Nat):qHV Tf (OrL.k (orRb q k)) (qZ (jWH q k)) 60 23 [.lf k (fQ q)] =
 (bif (g1 [.lf k (fQ q)] && decide (k≤50)) then (bif (smQ q k) then (bif (gSt (hRb q k 0 0 (fun _=>[.n .i64 0,.n .i64 0])) (hRb q k 0 0 (fun _=>[.n .i64 0,.n .i64 0]))) then (bif (decide (k≤50)) then some (.ow 62 2 (.fo k (yUH (fun i:Nat=>[.n .i64 (q i),.n .i64 (q i)]) k 0 (fun _=>[.n .i64 0,.n .i64 0]))),[])
 else none)
 else none)
 else some (.v (.l []),[]))
 else none):=by kernel_rfl
theorem snd_rbx0 (q:Nat→Int) (k:Nat) (hk:k≤50):yK Tryz.prog 23 [.lf k (fQ q)] (bif smQ q k then .ow 62 2 (.fo k (yUH (fun i:Nat=>[.n .i64 (q i),.n .i64 (q i)]) k 0 (fun _=>[.n .i64 0,.n .i64 0]))) else .v (.l [])):=by
 refine runKL_sound2 (N:=60) (LO:=qZ (jWH q k)) jH zG (OrL.ok (l:=(orRb q k)) ⟨yVU (fun h=>snd_rsm q k (vJZ h)),trivial⟩) (fun p S hp => ?_) ?_
 ·refine zU (L:=qQ Tf 23) (l:=(jWH q k)) (show AllP _ (jWH q k) from ⟨?_,trivial⟩) p S hp
  ·dsimp only;refine sumF_ok (T:=Tf) (ok:=(OrL.k (orRb q k))) (f:=23) (LO:=qZ []) (p:=[0,1,0,1,1,1]) kJ ?_;intro _ K r hr;obtain ⟨hg,hr⟩:=qY hr;have hk:=vJZ hg;exact (lpRb K q k hk).trans hr
 ·refine (pxrbx0 q k).trans ?_;rw [g1_t,yU,vJQ hk];cases smQ q k <;> rfl
def ptB (q:Nat→Int):Nat→Iv:=fun i=>⟨q i,q i⟩
theorem snd_rbx (q:Nat→Int) (k:Nat) (hk:k≤50):yK Tryz.prog 23 [.lf k (fQ q)] (.v (.lf (bif smQ q k then k else 0) (fB (ptB q)))):=by
 have h0:=snd_rbx0 q k hk;cases h:smQ q k with
 | true =>
  rw [h] at h0;exact qZZ same_fill (yQK h0)
 | false =>
  rw [h] at h0;exact qZZ (Same.lf rfl) h0
theorem smQ_of {q:Nat→Int} {k i:Nat} (h:smQ q k=true) (_:i < k) : -2147483648≤q i∧q i≤2147483648:=by
 have:=allN_iff.1 h i (Nat.zero_le _) (by omega)
 simp only [vQJ,Bool.not_eq_true',decide_eq_false_iff_not] at this;omega
theorem snd_bx (q:Nat→Int) (k:Nat) (hk:k≤50):yK Tryz.prog 72 [.lf k (fQ q)] (.v (.lf (bif smQ q k then k else 0) (fB (ptB q)))):=by
 have h0:yK Tryz.prog 72 [.lf k (fQ q)] (bif smQ q k then .v (.lf k (fun v=>[.n .i64 ((qVH (fun i:Nat=>min (max (q i) (-2147483648)) 2147483648) k 0 (fun _=>0)) v),.n .i64 ((qVH (fun i:Nat=>min (max (q i) (-2147483648)) 2147483648) k 0 (fun _=>0)) v)])) else .v (.l [])):=by
  refine qH (T:=Tf) (N:=60) jH zG (OrL.ok (l:=[(120,o_lk [.lf k (fQ q)] (decide (k≤50)) (.v (.b (smQ q k)))),(121,o_lk [.lf k (fQ q),.f 122 [] []] (decide (k≤50)) (.ow 62 2 (.fo k (fun v=>[.n .i64 ((qVH (fun i:Nat=>min (max (q i) (-2147483648)) 2147483648) k 0 (fun _=>0)) v),.n .i64 ((qVH (fun i:Nat=>min (max (q i) (-2147483648)) 2147483648) k 0 (fun _=>0)) v)]))))]) ⟨yVU (fun h=>snd_sm q k (vJZ h)),yVU (fun h=>snd_map q k (vJZ h)),trivial⟩) ?_;refine (by kernel_rfl:_=bif (g1 [.lf k (fQ q)] && decide (k≤50)) then (bif (smQ q k) then (bif (g1 [.lf k (fQ q),.f 122 [] []] && decide (k≤50)) then some (.v (.lf k (fun v=>[.n .i64 ((qVH (fun i:Nat=>min (max (q i) (-2147483648)) 2147483648) k 0 (fun _=>0)) v),.n .i64 ((qVH (fun i:Nat=>min (max (q i) (-2147483648)) 2147483648) k 0 (fun _=>0)) v)])),[])
 else none)
 else some (.v (.l []),[]))
 else none).trans ?_
  simp only [g1_t,vJQ hk,vZJ,vYV];cases smQ q k <;> rfl
 cases h:smQ q k with
 | true =>
  rw [h] at h0;refine qZZ (qWW fun j (hj:j < k) => ?_) h0
  have:=smQ_of h hj
  show [PV.n .i64 (qVH _ k 0 _ j),PV.n .i64 (qVH _ k 0 _ j)]=[PV.n .i64 (q j),PV.n .i64 (q j)];rw [fillI_all hj,show min (max (q j) (-2147483648)) 2147483648=q j by omega]
 | false =>
  rw [h] at h0;exact qZZ (Same.lf rfl) h0
end Go.Proofs.YtgmbkkkbfbocnaaGreat.Nm
namespace Go.Proofs.YtgmbkkkbfbocnaaGreat.Hb
open Go.Rx Rt Go.Sx Go.RowKit Od Na Nb Nc Nx Nf Nl Nm Ga Gb Gc Gd Ge Gf Gg Ha
def knB (ws:Wsp) (h q:Int):Bool:=decide (0≤h) && (decide (h < (ws.nh:Int)) && (decide (0≤q) && decide (q < (ws.np:Int))))
noncomputable def orkno (_:Wsp) (_ q:Int):OrS:=orS [] []
noncomputable def kUG (_:Wsp) (_ q:Int):List (List Nat × jK):=[]
set_option maxRecDepth 100000 in
theorem pxkno (ws:Wsp) (h q:Int):qQU Tf (orkno ws h q) (qZ (kUG ws h q)) 60 70 [.a (wP ws),.n .i64 h,.n .i64 q] =
 (bif (decide (0≤h)) then (bif (decide (h < (ws.nh:Int))) then (bif (decide (0≤q)) then (bif (decide (q < (ws.np:Int))) then some (.v (.b true),[])
 else some (.v (.b false),[]))
 else some (.v (.b false),[]))
 else some (.v (.b false),[]))
 else some (.v (.b false),[])):=by kernel_rfl
theorem snd_kno (ws:Wsp) (h q:Int):yK Tryz.prog 70 [.a (wP ws),.n .i64 h,.n .i64 q] (.v (.b (knB ws h q))):=by
 refine zW (N:=60) (LO:=qZ (kUG ws h q)) jH zG (kY (l:=[]) (m:=[]) trivial trivial) (fun p S hp => ?_) ?_
 ·refine zU (L:=qQ Tf 70) (l:=(kUG ws h q)) (show AllP _ (kUG ws h q) from trivial) p S hp
 ·refine (pxkno ws h q).trans ?_;unfold knB;cases decide (0≤h) <;> cases decide (h < (ws.nh:Int)) <;> cases decide (0≤q) <;> cases decide (q < (ws.np:Int)) <;> rfl
def ckn:Wsp × Int × Int→Prop:=fun t=>match t with | (_,_,_)=>True
def ekn:Wsp × Int × Int→List PV:=fun t=>match t with | (ws,a,b)=>[.a (wP ws),.n .i64 a,.n .i64 b]
noncomputable def rkn:Wsp × Int × Int→Ret:=fun t=>match t with | (ws,a,b)=>.v (.b (knB ws a b))
def dkn:List PV→Wsp × Int × Int:=fun ps=>match ps with
 | [.a r,.n _ h,.n _ q]=>(unW r,h,q)
 | _=>(unW [],0,0)
noncomputable def o_kn:List PV→Option (Bool × Ret):=o_fm dkn ckn ekn rkn
theorem ok_kn:zJ Tryz.prog 70 o_kn:=qQV fun t h=>by
 obtain ⟨ws,a,b⟩:=t;exact snd_kno ws a b
def cin:(Nat→J) × (Nat→Ms) × Nat × Nat × Nat × (Nat→Int)→Prop:=fun t=>match t with | (_,_,_,_,_,_)=>True
def ein:(Nat→J) × (Nat→Ms) × Nat × Nat × Nat × (Nat→Int)→List PV:=fun t=>match t with | (js,ms,n,m,k,q)=>[.a [.lf n (fJ js),.lf m (fM ms)],.lf k (fQ q)]
noncomputable def rin:(Nat→J) × (Nat→Ms) × Nat × Nat × Nat × (Nat→Int)→Ret:=fun t=>match t with | (js,ms,n,m,k,q)=>.v (.b (qIn js ms q n m k))
def din:List PV→(Nat→J) × (Nat→Ms) × Nat × Nat × Nat × (Nat→Int):=fun ps=>match ps with
 | [.a [.lf n js,.lf m ms],.lf k f]=>(unFJ js,unFM ms,n,m,k,unFQ f)
 | _=>(fun _=>⟨ByteArray.empty,0,0,⟨0,0,0⟩,0,0,0,0,0,0⟩,fun _=>⟨0,0,⟨0,0,0⟩⟩,0,0,0,fun _=>0)
noncomputable def o_in:List PV→Option (Bool × Ret):=o_fm din cin ein rin
theorem ok_in:zJ Tryz.prog 71 o_in:=qQV fun t h=>by
 obtain ⟨js,ms,n,m,k,q⟩:=t;exact snd_qIn js ms q n m k
def cri:(Nat→J) × (Nat→Ms) × Nat × Nat × Nat × (Nat→Int)→Prop:=fun t=>match t with | (_,_,_,_,_,_)=>True
def eri:(Nat→J) × (Nat→Ms) × Nat × Nat × Nat × (Nat→Int)→List PV:=fun t=>match t with | (js,ms,n,m,k,q)=>[.a [.lf n (fJ js),.lf m (fM ms)],.lf k (fQ q)]
noncomputable def rri:(Nat→J) × (Nat→Ms) × Nat × Nat × Nat × (Nat→Int)→Ret:=fun t=>match t with | (js,ms,n,m,k,q)=>.v (.b (qIn js ms q n m k))
def dri:List PV→(Nat→J) × (Nat→Ms) × Nat × Nat × Nat × (Nat→Int):=fun ps=>match ps with
 | [.a [.lf n js,.lf m ms],.lf k f]=>(unFJ js,unFM ms,n,m,k,unFQ f)
 | _=>(fun _=>⟨ByteArray.empty,0,0,⟨0,0,0⟩,0,0,0,0,0,0⟩,fun _=>⟨0,0,⟨0,0,0⟩⟩,0,0,0,fun _=>0)
noncomputable def o_ri:List PV→Option (Bool × Ret):=o_fm dri cri eri rri
theorem ok_ri:zJ Tryz.prog 58 o_ri:=qQV fun t h=>by
 obtain ⟨js,ms,n,m,k,q⟩:=t;exact snd_rqIn js ms q n m k
noncomputable def orFp (_:Wsp):OrS:=orS [(99,o_ne),(70,o_kn),(71,o_in)] []
noncomputable def hFp (ws:Wsp) (i:Int):St:=⟨[(1,.p 1 0),(40,.v (.lf ws.np (fZ ws.pl))),(41,.v (.n .i64 (ws.np:Int))),(42,.v (.n .i64 i))],[(1,.blk ((wP ws).map .v))]⟩
set_option maxRecDepth 100000 in
theorem rdFp (G:St→Option (Ret × Mem)) (K:Cont) (ws:Wsp) (i:Int):kZ 60 (cxS Tf (orFp ws) 60 51 (ntmF Tf 51)) (evX Tf (orFp ws) 60 51 (ntmF Tf 51)) (qZ []) (qQ Tf 51 [0,1,0,1,1,1]) [0,1,0,1,1,1] (Tf.hint 51 (qJ (qQ Tf 51 [0,1,0,1,1,1]))) K G (hFp ws i) =
 (bif (decide (i < (ws.np:Int))) then (bif (inB i ws.np) then (bif (gF1 cne ene (ws.pl (i).toNat)) then (bif (zOk 2097152 (ws.pl (i).toNat)) then (G (hFp ws (vJJ .i64 (i + 1))))
 else (K .ret ⟨[(1,.p 1 0),(2,.v (.b false))],[(1,.blk ((wP ws).map .v))]⟩))
 else none)
 else none)
 else (K (.exit 0) ⟨[(1,.p 1 0)],[(1,.blk ((wP ws).map .v))]⟩)):=by kernel_rfl
def hdOk (n:Nat) (h:Hnd):Bool:=!decide (h.link < 0) && (!decide ((n:Int)≤h.link) && zOk 2097152 h.off)
def grOk (ws:Wsp) (g:Grp):Bool:=knB ws g.hand g.place && qIn ws.js ws.ms g.cf ws.n ws.m g.na
def plG (ws:Wsp):Bool:=allN (fun i:Nat=>zOk 2097152 (ws.pl i)) ws.np 0
def hdG (ws:Wsp):Bool:=allN (fun i:Nat=>hdOk ws.n (ws.hd i)) ws.nh 0
def grG (ws:Wsp):Bool:=allN (fun i:Nat=>grOk ws (ws.gr i)) ws.ng 0
def szG (ws:Wsp):Bool:=!decide (6 < (ws.no:Int)) && (!decide (8 < (ws.np:Int)) && (!decide (3 < (ws.nh:Int)) && (!decide (32 < (ws.ng:Int)) && (!decide (ws.slack < 0) && !decide (65536 < ws.slack)))))
def fiB (ws:Wsp):Bool:=szG ws && (plG ws && (hdG ws && grG ws))
theorem lpFp (K:Cont) (ws:Wsp) (_:ws.np≤50):LFX 60 (cxS Tf (orFp ws) 60 51 (ntmF Tf 51)) (evX Tf (orFp ws) 60 51 (ntmF Tf 51)) (qZ []) (qQ Tf 51 [0,1,0,1,1,1]) [0,1,0,1,1,1] (Tf.hint 51 (qJ (qQ Tf 51 [0,1,0,1,1,1]))) K 60 (hFp ws 0)=bif (allN (fun i:Nat=>zOk 2097152 (ws.pl i)) ws.np 0) then (K (.exit 0) ⟨[(1,.p 1 0)],[(1,.blk ((wP ws).map .v))]⟩) else (K .ret ⟨[(1,.p 1 0),(2,.v (.b false))],[(1,.blk ((wP ws).map .v))]⟩):=by
 refine (uK (L:=LFX 60 (cxS Tf (orFp ws) 60 51 (ntmF Tf 51)) (evX Tf (orFp ws) 60 51 (ntmF Tf 51)) (qZ []) (qQ Tf 51 [0,1,0,1,1,1]) [0,1,0,1,1,1] (Tf.hint 51 (qJ (qQ Tf 51 [0,1,0,1,1,1]))) K) (stp:=kZ 60 (cxS Tf (orFp ws) 60 51 (ntmF Tf 51)) (evX Tf (orFp ws) 60 51 (ntmF Tf 51)) (qZ []) (qQ Tf 51 [0,1,0,1,1,1]) [0,1,0,1,1,1] (Tf.hint 51 (qJ (qQ Tf 51 [0,1,0,1,1,1]))) K) (fun _ _=>rfl) (fun (i:Nat) (_:Unit)=>hFp ws (i:Int)) (fun _ _=>True) (fun (i:Nat) _=>zOk 2097152 (ws.pl i)) (fun _ _=>()) (c:=ws.np) (fun _=>(K (.exit 0) ⟨[(1,.p 1 0)],[(1,.blk ((wP ws).map .v))]⟩)) (fun i _=>(K .ret ⟨[(1,.p 1 0),(2,.v (.b false))],[(1,.blk ((wP ws).map .v))]⟩)) (fun G i f hi _ => ?_) (fun _ _ _ _ _=>trivial) (fun G f _ => ?_) ws.np 0 60 () (by omega) (by omega) trivial).trans ((jQ _ _ _ _ _).trans (yH _ _ _ _ _))
 ·refine (rdFp G K ws i).trans ?_;rw [vJQ (show (i:Int) < (ws.np:Int) by omega),kW (by omega),yX (show i < ws.np by omega),toN,jU (C:=cne) (t:=ws.pl i) trivial];cases zOk 2097152 (ws.pl i) <;> rfl
 ·refine (rdFp G K ws ws.np).trans ?_;rw [vYH (show ¬ (ws.np:Int) < (ws.np:Int) by omega)];rfl
noncomputable def hFq (ws:Wsp) (i:Int):St:=⟨[(1,.p 1 0),(51,.v (.lf ws.nh (fH ws.hd))),(52,.v (.n .i64 (ws.nh:Int))),(53,.v (.n .i64 i))],[(1,.blk ((wP ws).map .v))]⟩
set_option maxRecDepth 100000 in
theorem rdFq (G:St→Option (Ret × Mem)) (K:Cont) (ws:Wsp) (i:Int):kZ 60 (cxS Tf (orFp ws) 60 51 (ntmF Tf 51)) (evX Tf (orFp ws) 60 51 (ntmF Tf 51)) (qZ []) (qQ Tf 51 [0,1,0,1,1,1,1]) [0,1,0,1,1,1,1] (Tf.hint 51 (qJ (qQ Tf 51 [0,1,0,1,1,1,1]))) K G (hFq ws i) =
 (bif (decide (i < (ws.nh:Int))) then (bif (inB i ws.nh) then (bif (decide ((ws.hd (i).toNat).link < 0)) then (K .ret ⟨[(1,.p 1 0),(2,.v (.b false))],[(1,.blk ((wP ws).map .v))]⟩)
 else (bif (decide ((ws.n:Int)≤(ws.hd (i).toNat).link)) then (K .ret ⟨[(1,.p 1 0),(2,.v (.b false))],[(1,.blk ((wP ws).map .v))]⟩)
 else (bif (gF1 cne ene ((ws.hd (i).toNat).off)) then (bif (zOk 2097152 ((ws.hd (i).toNat).off)) then (G (hFq ws (vJJ .i64 (i + 1))))
 else (K .ret ⟨[(1,.p 1 0),(2,.v (.b false))],[(1,.blk ((wP ws).map .v))]⟩))
 else none)))
 else none)
 else (K (.exit 2) ⟨[(1,.p 1 0)],[(1,.blk ((wP ws).map .v))]⟩)):=by kernel_rfl
theorem lpFq (K:Cont) (ws:Wsp) (_:ws.nh≤50):LFX 60 (cxS Tf (orFp ws) 60 51 (ntmF Tf 51)) (evX Tf (orFp ws) 60 51 (ntmF Tf 51)) (qZ []) (qQ Tf 51 [0,1,0,1,1,1,1]) [0,1,0,1,1,1,1] (Tf.hint 51 (qJ (qQ Tf 51 [0,1,0,1,1,1,1]))) K 60 (hFq ws 0)=bif (allN (fun i:Nat=>hdOk ws.n (ws.hd i)) ws.nh 0) then (K (.exit 2) ⟨[(1,.p 1 0)],[(1,.blk ((wP ws).map .v))]⟩) else (K .ret ⟨[(1,.p 1 0),(2,.v (.b false))],[(1,.blk ((wP ws).map .v))]⟩):=by
 refine (uK (L:=LFX 60 (cxS Tf (orFp ws) 60 51 (ntmF Tf 51)) (evX Tf (orFp ws) 60 51 (ntmF Tf 51)) (qZ []) (qQ Tf 51 [0,1,0,1,1,1,1]) [0,1,0,1,1,1,1] (Tf.hint 51 (qJ (qQ Tf 51 [0,1,0,1,1,1,1]))) K) (stp:=kZ 60 (cxS Tf (orFp ws) 60 51 (ntmF Tf 51)) (evX Tf (orFp ws) 60 51 (ntmF Tf 51)) (qZ []) (qQ Tf 51 [0,1,0,1,1,1,1]) [0,1,0,1,1,1,1] (Tf.hint 51 (qJ (qQ Tf 51 [0,1,0,1,1,1,1]))) K) (fun _ _=>rfl) (fun (i:Nat) (_:Unit)=>hFq ws (i:Int)) (fun _ _=>True) (fun (i:Nat) _=>hdOk ws.n (ws.hd i)) (fun _ _=>()) (c:=ws.nh) (fun _=>(K (.exit 2) ⟨[(1,.p 1 0)],[(1,.blk ((wP ws).map .v))]⟩)) (fun i _=>(K .ret ⟨[(1,.p 1 0),(2,.v (.b false))],[(1,.blk ((wP ws).map .v))]⟩)) (fun G i f hi _ => ?_) (fun _ _ _ _ _=>trivial) (fun G f _ => ?_) ws.nh 0 60 () (by omega) (by omega) trivial).trans ((jQ _ _ _ _ _).trans (yH _ _ _ _ _))
 ·refine (rdFq G K ws i).trans ?_;rw [vJQ (show (i:Int) < (ws.nh:Int) by omega),kW (by omega),yX (show i < ws.nh by omega),toN,jU (C:=cne) (t:=(ws.hd i).off) trivial];unfold hdOk;cases decide ((ws.hd i).link < 0) <;> cases decide ((ws.n:Int)≤(ws.hd i).link) <;> cases zOk 2097152 (ws.hd i).off <;> rfl
 ·refine (rdFq G K ws ws.nh).trans ?_;rw [vYH (show ¬ (ws.nh:Int) < (ws.nh:Int) by omega)];rfl
noncomputable def hFr (ws:Wsp) (i:Int):St:=⟨[(1,.p 1 0),(78,.v (.lf ws.ng (fG ws.gr))),(79,.v (.n .i64 (ws.ng:Int))),(80,.v (.n .i64 i))],[(1,.blk ((wP ws).map .v))]⟩
set_option maxRecDepth 100000 in
theorem rdFr (G:St→Option (Ret × Mem)) (K:Cont) (ws:Wsp) (i:Int):kZ 60 (cxS Tf (orFp ws) 60 51 (ntmF Tf 51)) (evX Tf (orFp ws) 60 51 (ntmF Tf 51)) (qZ []) (qQ Tf 51 [0,1,0,1,1,1,1,1]) [0,1,0,1,1,1,1,1] (Tf.hint 51 (qJ (qQ Tf 51 [0,1,0,1,1,1,1,1]))) K G (hFr ws i) =
 (bif (decide (i < (ws.ng:Int))) then (bif (inB i ws.ng) then (bif (gF1 ckn ekn (ws,((ws.gr (i).toNat).hand),((ws.gr (i).toNat).place))) then (bif (knB ws ((ws.gr (i).toNat).hand) ((ws.gr (i).toNat).place)) then (bif (gF1 cin ein (ws.js,ws.ms,ws.n,ws.m,((ws.gr (i).toNat).na),((ws.gr (i).toNat).cf))) then (bif (qIn ws.js ws.ms ((ws.gr (i).toNat).cf) ws.n ws.m ((ws.gr (i).toNat).na)) then (G (hFr ws (vJJ .i64 (i + 1))))
 else (K .ret ⟨[(2,.v (.b false))],[]⟩))
 else none)
 else (K .ret ⟨[(2,.v (.b false))],[]⟩))
 else none)
 else none)
 else (K (.exit 4) ⟨[],[]⟩)):=by kernel_rfl
theorem lpFr (K:Cont) (ws:Wsp) (_:ws.ng≤50):LFX 60 (cxS Tf (orFp ws) 60 51 (ntmF Tf 51)) (evX Tf (orFp ws) 60 51 (ntmF Tf 51)) (qZ []) (qQ Tf 51 [0,1,0,1,1,1,1,1]) [0,1,0,1,1,1,1,1] (Tf.hint 51 (qJ (qQ Tf 51 [0,1,0,1,1,1,1,1]))) K 60 (hFr ws 0)=bif (allN (fun i:Nat=>grOk ws (ws.gr i)) ws.ng 0) then (K (.exit 4) ⟨[],[]⟩) else (K .ret ⟨[(2,.v (.b false))],[]⟩):=by
 refine (uK (L:=LFX 60 (cxS Tf (orFp ws) 60 51 (ntmF Tf 51)) (evX Tf (orFp ws) 60 51 (ntmF Tf 51)) (qZ []) (qQ Tf 51 [0,1,0,1,1,1,1,1]) [0,1,0,1,1,1,1,1] (Tf.hint 51 (qJ (qQ Tf 51 [0,1,0,1,1,1,1,1]))) K) (stp:=kZ 60 (cxS Tf (orFp ws) 60 51 (ntmF Tf 51)) (evX Tf (orFp ws) 60 51 (ntmF Tf 51)) (qZ []) (qQ Tf 51 [0,1,0,1,1,1,1,1]) [0,1,0,1,1,1,1,1] (Tf.hint 51 (qJ (qQ Tf 51 [0,1,0,1,1,1,1,1]))) K) (fun _ _=>rfl) (fun (i:Nat) (_:Unit)=>hFr ws (i:Int)) (fun _ _=>True) (fun (i:Nat) _=>grOk ws (ws.gr i)) (fun _ _=>()) (c:=ws.ng) (fun _=>(K (.exit 4) ⟨[],[]⟩)) (fun i _=>(K .ret ⟨[(2,.v (.b false))],[]⟩)) (fun G i f hi _ => ?_) (fun _ _ _ _ _=>trivial) (fun G f _ => ?_) ws.ng 0 60 () (by omega) (by omega) trivial).trans ((jQ _ _ _ _ _).trans (yH _ _ _ _ _))
 ·refine (rdFr G K ws i).trans ?_;rw [vJQ (show (i:Int) < (ws.ng:Int) by omega),kW (by omega),yX (show i < ws.ng by omega),toN,jU (C:=ckn) (t:=(ws,(ws.gr i).hand,(ws.gr i).place)) trivial,jU (C:=cin) (t:=(ws.js,ws.ms,ws.n,ws.m,(ws.gr i).na,(ws.gr i).cf)) trivial];unfold grOk;cases knB ws (ws.gr i).hand (ws.gr i).place <;> cases qIn ws.js ws.ms (ws.gr i).cf ws.n ws.m (ws.gr i).na <;> rfl
 ·refine (rdFr G K ws ws.ng).trans ?_;rw [vYH (show ¬ (ws.ng:Int) < (ws.ng:Int) by omega)];rfl
noncomputable def kXW (ws:Wsp):List (List Nat × jK):=[([0,1,0,1,1,1],sumF (fun _:Unit=>(hFp ws 0)) (fun _=>()) (fun _ K=>(bif (decide (ws.np≤50)) then (bif (allN (fun i:Nat=>zOk 2097152 (ws.pl i)) ws.np 0) then (K (.exit 0) ⟨[(1,.p 1 0)],[(1,.blk ((wP ws).map .v))]⟩) else (K .ret ⟨[(1,.p 1 0),(2,.v (.b false))],[(1,.blk ((wP ws).map .v))]⟩)) else none))),([0,1,0,1,1,1,1],sumF (fun _:Unit=>(hFq ws 0)) (fun _=>()) (fun _ K=>(bif (decide (ws.nh≤50)) then (bif (allN (fun i:Nat=>hdOk ws.n (ws.hd i)) ws.nh 0) then (K (.exit 2) ⟨[(1,.p 1 0)],[(1,.blk ((wP ws).map .v))]⟩) else (K .ret ⟨[(1,.p 1 0),(2,.v (.b false))],[(1,.blk ((wP ws).map .v))]⟩)) else none))),([0,1,0,1,1,1,1,1],sumF (fun _:Unit=>(hFr ws 0)) (fun _=>()) (fun _ K=>(bif (decide (ws.ng≤50)) then (bif (allN (fun i:Nat=>grOk ws (ws.gr i)) ws.ng 0) then (K (.exit 4) ⟨[],[]⟩) else (K .ret ⟨[(2,.v (.b false))],[]⟩)) else none)))]
set_option maxRecDepth 100000 in
theorem pxfit (ws:Wsp):qQU Tf (orFp ws) (qZ (kXW ws)) 60 51 [.a (wP ws)] =
 (bif (decide (6 < (ws.no:Int))) then some (.v (.b false),[])
 else (bif (decide (8 < (ws.np:Int))) then some (.v (.b false),[])
 else (bif (decide (3 < (ws.nh:Int))) then some (.v (.b false),[])
 else (bif (decide (32 < (ws.ng:Int))) then some (.v (.b false),[])
 else (bif (decide (ws.slack < 0)) then some (.v (.b false),[])
 else (bif (decide (65536 < ws.slack)) then some (.v (.b false),[])
 else (bif (gSt (hFp ws 0) (hFp ws 0)) then (bif (decide (ws.np≤50)) then (bif (allN (fun i:Nat=>zOk 2097152 (ws.pl i)) ws.np 0) then (bif (gSt (hFq ws 0) (hFq ws 0)) then (bif (decide (ws.nh≤50)) then (bif (allN (fun i:Nat=>hdOk ws.n (ws.hd i)) ws.nh 0) then (bif (gSt (hFr ws 0) (hFr ws 0)) then (bif (decide (ws.ng≤50)) then (bif (allN (fun i:Nat=>grOk ws (ws.gr i)) ws.ng 0) then some (.v (.b true),[])
 else some (.v (.b false),[]))
 else none)
 else none)
 else some (.v (.b false),[]))
 else none)
 else none)
 else some (.v (.b false),[]))
 else none)
 else none))))))):=by kernel_rfl
theorem snd_fit (ws:Wsp):yK Tryz.prog 51 [.a (wP ws)] (.v (.b (fiB ws))):=by
 refine zW (N:=60) (LO:=qZ (kXW ws)) jH zG (kY (l:=[(99,o_ne),(70,o_kn),(71,o_in)]) (m:=[]) ⟨ok_ne,ok_kn,ok_in,trivial⟩ trivial) (fun p S hp => ?_) ?_
 ·refine zU (L:=qQ Tf 51) (l:=(kXW ws)) (show AllP _ (kXW ws) from ⟨?_,?_,?_,trivial⟩) p S hp
  ·dsimp only;refine kQ (T:=Tf) (o:=(orFp ws)) (f:=51) (LO:=qZ []) (p:=[0,1,0,1,1,1]) kJ ?_;intro t K r hr;obtain ⟨hg,hr⟩:=qY hr;have hk:=vJZ hg;exact (lpFp K ws hk).trans hr
  ·dsimp only;refine kQ (T:=Tf) (o:=(orFp ws)) (f:=51) (LO:=qZ []) (p:=[0,1,0,1,1,1,1]) kJ ?_;intro t K r hr;obtain ⟨hg,hr⟩:=qY hr;have hk:=vJZ hg;exact (lpFq K ws hk).trans hr
  ·dsimp only;refine kQ (T:=Tf) (o:=(orFp ws)) (f:=51) (LO:=qZ []) (p:=[0,1,0,1,1,1,1,1]) kJ ?_;intro t K r hr;obtain ⟨hg,hr⟩:=qY hr;have hk:=vJZ hg;exact (lpFr K ws hk).trans hr
 ·refine (pxfit ws).trans ?_;unfold fiB szG plG hdG grG;by_cases h1:6 < (ws.no:Int)
  ·rw [vJQ h1]; rfl
  by_cases h2:8 < (ws.np:Int)
  ·rw [vYH h1,vJQ h2]; rfl
  by_cases h3:3 < (ws.nh:Int)
  ·rw [vYH h1,vYH h2,vJQ h3]; rfl
  by_cases h4:32 < (ws.ng:Int)
  ·rw [vYH h1,vYH h2,vYH h3,vJQ h4]; rfl
  rw [vYH h1,vYH h2,vYH h3,vYH h4];simp only [yU,vJQ (show ws.np≤50 by omega),vJQ (show ws.nh≤50 by omega),vJQ (show ws.ng≤50 by omega)];cases decide (ws.slack < 0) <;> cases decide (65536 < ws.slack) <;> cases allN (fun i:Nat=>zOk 2097152 (ws.pl i)) ws.np 0 <;> cases allN (fun i:Nat=>hdOk ws.n (ws.hd i)) ws.nh 0 <;> cases allN (fun i:Nat=>grOk ws (ws.gr i)) ws.ng 0 <;> rfl
def cfi:Wsp→Prop:=fun t=>match t with | _=>True
def efi:Wsp→List PV:=fun t=>match t with | ws=>[.a (wP ws)]
noncomputable def rfi:Wsp→Ret:=fun t=>match t with | ws=>.v (.b (fiB ws))
def dfi:List PV→Wsp:=fun ps=>match ps with
 | [.a r]=>unW r
 | _=>(unW [])
noncomputable def o_fi:List PV→Option (Bool × Ret):=o_fm dfi cfi efi rfi
theorem ok_fi:zJ Tryz.prog 51 o_fi:=qQV fun t h=>by
 revert h; revert t; intro ws h
 exact snd_fit ws
end Go.Proofs.YtgmbkkkbfbocnaaGreat.Hb
namespace Go.Proofs.YtgmbkkkbfbocnaaGreat.Hc
open Go.Rx Rt Go.Sx Go.RowKit Od Na Nb Nc Nx Nf Nl Nm Ga Gb Gc Gd Ge Gf Gg Ha Hb
def unOf (f:Nat→List PV):Nat→ObT:=fun v=>unO (f v)
def dupO (ob:Nat→ObT) (o:ObT) (k:Nat):Bool:=!allN (fun i:Nat => !((ob i).name.toList == o.name.toList)) k 0
noncomputable def orcl1 (e o:ObT):OrS:=orS [] []
noncomputable def kXH (e o:ObT):List (List Nat × jK):=[]
set_option maxRecDepth 100000 in
theorem pxcl1 (e o:ObT):qQU Tf (orcl1 e o) (qZ (kXH e o)) 60 52 [.a (oP e),.c (oP o) 0] =
 (bif (e.name.toList == o.name.toList) then some (.v (.b true),[])
 else some (.v (.b false),[])):=by kernel_rfl
theorem snd_cl1 (e o:ObT):yK Tryz.prog 52 [.a (oP e),.c (oP o) 0] (.v (.b (e.name.toList == o.name.toList))):=by
 refine zW (N:=60) (LO:=qZ (kXH e o)) jH zG (kY (l:=[]) (m:=[]) trivial trivial) (fun p S hp => ?_) ?_
 ·refine zU (L:=qQ Tf 52) (l:=(kXH e o)) (show AllP _ (kXH e o) from trivial) p S hp
 ·refine (pxcl1 e o).trans ?_;cases (e.name.toList == o.name.toList) <;> rfl
def cc1:ObT × ObT→Prop:=fun t=>match t with | (_,_)=>True
def ec1:ObT × ObT→List PV:=fun t=>match t with | (e,o)=>[.a (oP e),.c (oP o) 0]
noncomputable def rc1:ObT × ObT→Ret:=fun t=>match t with | (e,o)=>.v (.b (e.name.toList == o.name.toList))
def dc1:List PV→ObT × ObT:=fun ps=>match ps with
 | [.a r,.c q _]=>(unO r,unO q)
 | _=>(⟨ByteArray.empty,0,fun _=>⟨0,0,0,fun _=>⟨0,0,0⟩⟩⟩,⟨ByteArray.empty,0,fun _=>⟨0,0,0,fun _=>⟨0,0,0⟩⟩⟩)
noncomputable def o_c1:List PV→Option (Bool × Ret):=o_fm dc1 cc1 ec1 rc1
theorem ok_c1:zJ Tryz.prog 52 o_c1:=qQV fun t h=>by
 obtain ⟨e,o⟩:=t;exact snd_cl1 e o
noncomputable def orIx (k:Nat) (_:Nat→ObT) (o:ObT):OrS:=orS [(52,o_c1)] []
noncomputable def hIx (k:Nat) (ob:Nat→ObT) (o:ObT) (i:Int):St:=⟨[(0,.v (.lf k (fO ob))),(1,.v (.f 52 [] [.c (oP o) 0])),(7,.v (.n .i64 (k:Int))),(8,.v (.n .i64 i))],[]⟩
set_option maxRecDepth 100000 in
theorem rdIx (G:St→Option (Ret × Mem)) (K:Cont) (k:Nat) (ob:Nat→ObT) (o:ObT) (i:Int):kZ 60 (cxS Tf (orIx k ob o) 60 102 (ntmF Tf 102)) (evX Tf (orIx k ob o) 60 102 (ntmF Tf 102)) (qZ []) (qQ Tf 102 [0,1,0,1]) [0,1,0,1] (Tf.hint 102 (qJ (qQ Tf 102 [0,1,0,1]))) K G (hIx k ob o i) =
 (bif (decide (i < (k:Int))) then (bif (inB i k) then (bif (gF1 cc1 ec1 ((ob (i).toNat),o)) then (bif ((ob (i).toNat).name.toList == o.name.toList) then (K .ret ⟨[(4,.v (.n .i64 i))],[]⟩)
 else (G (hIx k ob o (vJJ .i64 (i + 1)))))
 else none)
 else none)
 else (K (.exit 0) ⟨[],[]⟩)):=by kernel_rfl
theorem lpIx (K:Cont) (k:Nat) (ob:Nat→ObT) (o:ObT) (_:k≤50):LFX 60 (cxS Tf (orIx k ob o) 60 102 (ntmF Tf 102)) (evX Tf (orIx k ob o) 60 102 (ntmF Tf 102)) (qZ []) (qQ Tf 102 [0,1,0,1]) [0,1,0,1] (Tf.hint 102 (qJ (qQ Tf 102 [0,1,0,1]))) K 60 (hIx k ob o 0)=bif (allN (fun i:Nat => !((ob i).name.toList == o.name.toList)) k 0) then (K (.exit 0) ⟨[],[]⟩) else (K .ret ⟨[(4,.v (.n .i64 ((Rx.firstK (fun i:Nat => !((ob i).name.toList == o.name.toList)) k 0:Nat):Int)))],[]⟩):=by
 refine (uK (L:=LFX 60 (cxS Tf (orIx k ob o) 60 102 (ntmF Tf 102)) (evX Tf (orIx k ob o) 60 102 (ntmF Tf 102)) (qZ []) (qQ Tf 102 [0,1,0,1]) [0,1,0,1] (Tf.hint 102 (qJ (qQ Tf 102 [0,1,0,1]))) K) (stp:=kZ 60 (cxS Tf (orIx k ob o) 60 102 (ntmF Tf 102)) (evX Tf (orIx k ob o) 60 102 (ntmF Tf 102)) (qZ []) (qQ Tf 102 [0,1,0,1]) [0,1,0,1] (Tf.hint 102 (qJ (qQ Tf 102 [0,1,0,1]))) K) (fun _ _=>rfl) (fun (i:Nat) (_:Unit)=>hIx k ob o (i:Int)) (fun _ _=>True) (fun (i:Nat) _ => !((ob i).name.toList == o.name.toList)) (fun _ _=>()) (c:=k) (fun _=>(K (.exit 0) ⟨[],[]⟩)) (fun i _=>(K .ret ⟨[(4,.v (.n .i64 (i:Int)))],[]⟩)) (fun G i f hi _ => ?_) (fun _ _ _ _ _=>trivial) (fun G f _ => ?_) k 0 60 () (by omega) (by omega) trivial).trans ((jQ _ _ _ _ _).trans (uG _ _ _ _ _))
 ·refine (rdIx G K k ob o i).trans ?_;rw [vJQ (show (i:Int) < (k:Int) by omega),kW (by omega),yX (show i < k by omega),toN,jU (C:=cc1) (t:=(ob i,o)) trivial];cases ((ob i).name.toList == o.name.toList) <;> rfl
 ·refine (rdIx G K k ob o k).trans ?_;rw [vYH (show ¬ (k:Int) < (k:Int) by omega)];rfl
noncomputable def kXQ (k:Nat) (ob:Nat→ObT) (o:ObT):List (List Nat × jK):=[([0,1,0,1],sumF (fun _:Unit=>(hIx k ob o 0)) (fun _=>()) (fun _ K=>(bif (decide (k≤50)) then (bif (allN (fun i:Nat => !((ob i).name.toList == o.name.toList)) k 0) then (K (.exit 0) ⟨[],[]⟩) else (K .ret ⟨[(4,.v (.n .i64 ((Rx.firstK (fun i:Nat => !((ob i).name.toList == o.name.toList)) k 0:Nat):Int)))],[]⟩)) else none)))]
set_option maxRecDepth 100000 in
theorem pxixo (k:Nat) (ob:Nat→ObT) (o:ObT):qQU Tf (orIx k ob o) (qZ (kXQ k ob o)) 60 102 [.lf k (fO ob),.f 52 [] [.c (oP o) 0]] =
 (bif (gSt (hIx k ob o 0) (hIx k ob o 0)) then (bif (decide (k≤50)) then (bif (allN (fun i:Nat => !((ob i).name.toList == o.name.toList)) k 0) then some (.v (.n .i64 (-1)),[])
 else some (.v (.n .i64 ((Rx.firstK (fun i:Nat => !((ob i).name.toList == o.name.toList)) k 0:Nat):Int)),[]))
 else none)
 else none):=by kernel_rfl
theorem snd_ixo (k:Nat) (ob:Nat→ObT) (o:ObT) (hk:k≤50):yK Tryz.prog 102 [.lf k (fO ob),.f 52 [] [.c (oP o) 0]] (.v (.n .i64 (bif dupO ob o k then ((Rx.firstK (fun i:Nat => !((ob i).name.toList == o.name.toList)) k 0:Nat):Int) else -1))):=by
 refine zW (N:=60) (LO:=qZ (kXQ k ob o)) jH zG (kY (l:=[(52,o_c1)]) (m:=[]) ⟨ok_c1,trivial⟩ trivial) (fun p S hp => ?_) ?_
 ·refine zU (L:=qQ Tf 102) (l:=(kXQ k ob o)) (show AllP _ (kXQ k ob o) from ⟨?_,trivial⟩) p S hp
  ·dsimp only;refine kQ (T:=Tf) (o:=(orIx k ob o)) (f:=102) (LO:=qZ []) (p:=[0,1,0,1]) kJ ?_;intro t K r hr;obtain ⟨hg,hr⟩:=qY hr;have hk:=vJZ hg;exact (lpIx K k ob o hk).trans hr
 ·refine (pxixo k ob o).trans ?_;unfold dupO;rw [yU,vJQ hk];cases allN (fun i:Nat => !((ob i).name.toList == o.name.toList)) k 0 <;> rfl
def cix:Nat × (Nat→ObT) × ObT→Prop:=fun t=>match t with | (k,_,_)=>k≤50
def eix:Nat × (Nat→ObT) × ObT→List PV:=fun t=>match t with | (k,ob,o)=>[.lf k (fO ob),.f 52 [] [.c (oP o) 0]]
noncomputable def rix:Nat × (Nat→ObT) × ObT→Ret:=fun t=>match t with | (k,ob,o)=>.v (.n .i64 (bif dupO ob o k then ((Rx.firstK (fun i:Nat => !((ob i).name.toList == o.name.toList)) k 0:Nat):Int) else -1))
def dix:List PV→Nat × (Nat→ObT) × ObT:=fun ps=>match ps with
 | [.lf k f,.f _ _ [.c q _]]=>(k,unOf f,unO q)
 | _=>(0,fun _=>⟨ByteArray.empty,0,fun _=>⟨0,0,0,fun _=>⟨0,0,0⟩⟩⟩,⟨ByteArray.empty,0,fun _=>⟨0,0,0,fun _=>⟨0,0,0⟩⟩⟩)
noncomputable def o_ix:List PV→Option (Bool × Ret):=o_fm dix cix eix rix
theorem ok_ix:zJ Tryz.prog 102 o_ix:=qQV fun t h=>by
 obtain ⟨k,ob,o⟩:=t;exact snd_ixo k ob o h
noncomputable def orcfo (k:Nat) (_:Nat→ObT) (o:ObT):OrS:=orS [(102,o_ix)] []
noncomputable def kWQ (k:Nat) (_:Nat→ObT) (o:ObT):List (List Nat × jK):=[]
set_option maxRecDepth 100000 in
theorem pxcfo (k:Nat) (ob:Nat→ObT) (o:ObT):qQU Tf (orcfo k ob o) (qZ (kWQ k ob o)) 60 54 [.lf k (fO ob),.f 52 [] [.c (oP o) 0]] =
 (bif (gF1 cix eix (k,ob,o)) then (bif (decide (0≤(bif dupO ob o k then ((Rx.firstK (fun i:Nat => !((ob i).name.toList == o.name.toList)) k 0:Nat):Int) else -1))) then some (.v (.b true),[])
 else some (.v (.b false),[]))
 else none):=by kernel_rfl
theorem snd_cfo (k:Nat) (ob:Nat→ObT) (o:ObT) (hk:k≤50):yK Tryz.prog 54 [.lf k (fO ob),.f 52 [] [.c (oP o) 0]] (.v (.b (dupO ob o k))):=by
 refine zW (N:=60) (LO:=qZ (kWQ k ob o)) jH zG (kY (l:=[(102,o_ix)]) (m:=[]) ⟨ok_ix,trivial⟩ trivial) (fun p S hp => ?_) ?_
 ·refine zU (L:=qQ Tf 54) (l:=(kWQ k ob o)) (show AllP _ (kWQ k ob o) from trivial) p S hp
 ·refine (pxcfo k ob o).trans ?_;rw [jU (C:=cix) (t:=(k,ob,o)) hk];cases dupO ob o k with
  | false=>rfl
  | true =>
   rw [vYV,vYV,vJQ (show 0≤((Rx.firstK (fun i:Nat => !((ob i).name.toList == o.name.toList)) k 0:Nat):Int) by omega)];rfl
def ccf:Nat × (Nat→ObT) × ObT→Prop:=fun t=>match t with | (k,_,_)=>k≤50
def ecf:Nat × (Nat→ObT) × ObT→List PV:=fun t=>match t with | (k,ob,o)=>[.lf k (fO ob),.f 52 [] [.c (oP o) 0]]
noncomputable def rcf:Nat × (Nat→ObT) × ObT→Ret:=fun t=>match t with | (k,ob,o)=>.v (.b (dupO ob o k))
def dcf:List PV→Nat × (Nat→ObT) × ObT:=fun ps=>match ps with
 | [.lf k f,.f _ _ [.c q _]]=>(k,unOf f,unO q)
 | _=>(0,fun _=>⟨ByteArray.empty,0,fun _=>⟨0,0,0,fun _=>⟨0,0,0⟩⟩⟩,⟨ByteArray.empty,0,fun _=>⟨0,0,0,fun _=>⟨0,0,0⟩⟩⟩)
noncomputable def o_cf:List PV→Option (Bool × Ret):=o_fm dcf ccf ecf rcf
theorem ok_cf:zJ Tryz.prog 54 o_cf:=qQV fun t h=>by
 obtain ⟨k,ob,o⟩:=t;exact snd_cfo k ob o h
def csk_:(Nat→J) × (Nat→Ms) × (Nat→Shp) × (Nat→Skp) × Nat × Nat × Nat × Nat→Prop:=fun t=>match t with | (_,_,_,_,_,_,_,_)=>True
def esk_:(Nat→J) × (Nat→Ms) × (Nat→Shp) × (Nat→Skp) × Nat × Nat × Nat × Nat→List PV:=fun t=>match t with | (js,ms,sh,sk,n,m,c,d)=>[.a [.lf n (fJ js),.lf m (fM ms),.lf c (fS sh),.lf d (fK sk)]]
noncomputable def rsk_:(Nat→J) × (Nat→Ms) × (Nat→Shp) × (Nat→Skp) × Nat × Nat × Nat × Nat→Ret:=fun t=>match t with | (js,ms,sh,sk,n,m,c,d)=>.v (.n .i64 (sErr js ms sh sk n m c d))
def dsk_:List PV→(Nat→J) × (Nat→Ms) × (Nat→Shp) × (Nat→Skp) × Nat × Nat × Nat × Nat:=fun ps=>match ps with
 | [.a [.lf n js,.lf m ms,.lf c sh,.lf d sk]]=>(unFJ js,unFM ms,unFS sh,unFK sk,n,m,c,d)
 | _=>(fun _=>⟨ByteArray.empty,0,0,⟨0,0,0⟩,0,0,0,0,0,0⟩,fun _=>⟨0,0,⟨0,0,0⟩⟩,fun _=>⟨0,0,0,fun _=>⟨0,0,0⟩⟩,fun _=>⟨0,0⟩,0,0,0,0)
noncomputable def kVH:List PV→Option (Bool × Ret):=o_fm dsk_ csk_ esk_ rsk_
theorem ok_sk_:zJ Tryz.prog 50 kVH:=qQV fun t h=>by
 obtain ⟨js,ms,sh,sk,n,m,c,d⟩:=t;exact snd_sck js ms sh sk n m c d
def crc_:(Nat→J) × (Nat→Ms) × (Nat→Shp) × (Nat→Skp) × Nat × Nat × Nat × Nat→Prop:=fun t=>match t with | (_,_,_,_,_,_,_,_)=>True
def erc_:(Nat→J) × (Nat→Ms) × (Nat→Shp) × (Nat→Skp) × Nat × Nat × Nat × Nat→List PV:=fun t=>match t with | (js,ms,sh,sk,n,m,c,d)=>[.a [.lf n (fJ js),.lf m (fM ms),.lf c (fS sh),.lf d (fK sk)]]
noncomputable def rrc_:(Nat→J) × (Nat→Ms) × (Nat→Shp) × (Nat→Skp) × Nat × Nat × Nat × Nat→Ret:=fun t=>match t with | (js,ms,sh,sk,n,m,c,d)=>.v (.n .i64 (sErr js ms sh sk n m c d))
def drc_:List PV→(Nat→J) × (Nat→Ms) × (Nat→Shp) × (Nat→Skp) × Nat × Nat × Nat × Nat:=fun ps=>match ps with
 | [.a [.lf n js,.lf m ms,.lf c sh,.lf d sk]]=>(unFJ js,unFM ms,unFS sh,unFK sk,n,m,c,d)
 | _=>(fun _=>⟨ByteArray.empty,0,0,⟨0,0,0⟩,0,0,0,0,0,0⟩,fun _=>⟨0,0,⟨0,0,0⟩⟩,fun _=>⟨0,0,0,fun _=>⟨0,0,0⟩⟩,fun _=>⟨0,0⟩,0,0,0,0)
noncomputable def kGY:List PV→Option (Bool × Ret):=o_fm drc_ crc_ erc_ rrc_
theorem ok_rc_:zJ Tryz.prog 56 kGY:=qQV fun t h=>by
 obtain ⟨js,ms,sh,sk,n,m,c,d⟩:=t;exact snd_rcs js ms sh sk n m c d
noncomputable def orGw (_:Wsp):OrS:=orS [(50,kVH),(51,o_fi),(53,o_nm),(54,o_cf),(55,o_so)] []
noncomputable def hGw (ws:Wsp) (i:Int) (s:Int):St:=⟨[(1,.p 1 0),(4,.v (.n .i64 s)),(22,.v (.lf ws.no (fO ws.ob))),(23,.v (.n .i64 (ws.no:Int))),(24,.v (.n .i64 i))],[(1,.blk ((wP ws).map .v))]⟩
set_option maxRecDepth 100000 in
theorem rdGw (G:St→Option (Ret × Mem)) (K:Cont) (ws:Wsp) (i:Int) (s:Int):kZ 60 (cxS Tf (orGw ws) 60 16 (ntmF Tf 16)) (evX Tf (orGw ws) 60 16 (ntmF Tf 16)) (qZ []) (qQ Tf 16 [0,1,0,1,1,1,1]) [0,1,0,1,1,1,1] (Tf.hint 16 (qJ (qQ Tf 16 [0,1,0,1,1,1,1]))) K G (hGw ws i s) =
 (bif (decide (i < (ws.no:Int))) then (bif (inB i ws.no) then (bif (nmB (ws.ob (i).toNat).name) then (bif (inS none (some i) ws.no) then (bif (gF1 ccf ecf (((i).toNat - 0),(fun v=>(ws.ob (v + 0))),(ws.ob (i).toNat))) then (bif (dupO (fun v=>(ws.ob (v + 0))) (ws.ob (i).toNat) ((i).toNat - 0)) then (K .ret ⟨[(2,.v (.n .i64 3402)),(4,.v (.n .i64 s))],[]⟩)
 else (bif (gF1 cso eso (ws.ob (i).toNat)) then (bif (soOk (ws.ob (i).toNat)) then (G (hGw ws (vJJ .i64 (i + 1)) (vJJ .i64 (s + ((ws.ob (i).toNat).ns:Int)))))
 else (K .ret ⟨[(2,.v (.n .i64 3402)),(4,.v (.n .i64 s))],[]⟩))
 else none))
 else none)
 else none)
 else (K .ret ⟨[(2,.v (.n .i64 3402)),(4,.v (.n .i64 s))],[]⟩))
 else none)
 else (K (.exit 0) ⟨[(4,.v (.n .i64 s))],[]⟩)):=by kernel_rfl
def obG (ws:Wsp) (i:Nat):Bool:=nmB (ws.ob i).name && (!dupO ws.ob (ws.ob i) i && soOk (ws.ob i))
def cntF (ws:Wsp):Nat→Int
 | 0=>(ws.c:Int)
 | i + 1=>vJJ .i64 (cntF ws i + ((ws.ob i).ns:Int))
def obA (ws:Wsp):Bool:=allN (fun i:Nat=>obG ws i) ws.no 0
def sEW (ws:Wsp):Int:=sErr ws.js ws.ms ws.sh ws.sk ws.n ws.m ws.c ws.d
def wErr (ws:Wsp):Int:=bif decide (sEW ws=0) then (bif fiB ws then (bif obA ws then (bif decide (24 < cntF ws ws.no) then 3401 else 0) else 3402) else 3401) else sEW ws
def okW (ws:Wsp):Prop:=∀ i,i < ws.no→(ws.ob i).ns≤8796093021952
theorem fi_no {ws:Wsp} (h:fiB ws=true):ws.no≤6∧ws.np≤8∧ws.nh≤3∧ws.ng≤32:=by
 unfold fiB szG at h;simp only [vQJ,Bool.not_eq_true',decide_eq_false_iff_not] at h;omega
theorem inS_nat {i n:Nat} (_:i < n):inS none (some (i:Int)) n=true:=by
 simp [inS,loOf,hiOf];exact vJQ (by omega)
theorem lpGw (K:Cont) (ws:Wsp) (_:ws.no≤50) (ho:okW ws):LFX 60 (cxS Tf (orGw ws) 60 16 (ntmF Tf 16)) (evX Tf (orGw ws) 60 16 (ntmF Tf 16)) (qZ []) (qQ Tf 16 [0,1,0,1,1,1,1]) [0,1,0,1,1,1,1] (Tf.hint 16 (qJ (qQ Tf 16 [0,1,0,1,1,1,1]))) K 60 (hGw ws 0 (ws.c:Int))=bif obA ws then (K (.exit 0) ⟨[(4,.v (.n .i64 (cntF ws ws.no)))],[]⟩) else (K .ret ⟨[(2,.v (.n .i64 3402)),(4,.v (.n .i64 (cntF ws (Rx.firstK (fun j:Nat=>obG ws j) ws.no 0))))],[]⟩):=by
 refine (uK (L:=LFX 60 (cxS Tf (orGw ws) 60 16 (ntmF Tf 16)) (evX Tf (orGw ws) 60 16 (ntmF Tf 16)) (qZ []) (qQ Tf 16 [0,1,0,1,1,1,1]) [0,1,0,1,1,1,1] (Tf.hint 16 (qJ (qQ Tf 16 [0,1,0,1,1,1,1]))) K) (stp:=kZ 60 (cxS Tf (orGw ws) 60 16 (ntmF Tf 16)) (evX Tf (orGw ws) 60 16 (ntmF Tf 16)) (qZ []) (qQ Tf 16 [0,1,0,1,1,1,1]) [0,1,0,1,1,1,1] (Tf.hint 16 (qJ (qQ Tf 16 [0,1,0,1,1,1,1]))) K) (fun _ _=>rfl) (fun (i:Nat) (_:Unit)=>hGw ws (i:Int) (cntF ws i)) (fun _ _=>True) (fun (i:Nat) _=>obG ws i) (fun _ _=>()) (c:=ws.no) (fun _=>(K (.exit 0) ⟨[(4,.v (.n .i64 (cntF ws ws.no)))],[]⟩)) (fun i _=>(K .ret ⟨[(2,.v (.n .i64 3402)),(4,.v (.n .i64 (cntF ws i)))],[]⟩)) (fun G i f hi _ => ?_) (fun _ _ _ _ _=>trivial) (fun G f _ => ?_) ws.no 0 60 () (by omega) (by omega) trivial).trans ((jQ _ _ _ _ _).trans (uG _ _ _ _ _))
 ·have h1:(ws.ob i).ns≤9223372036854775807:=Nat.le_trans (ho i hi) (by decide);refine (rdGw G K ws i (cntF ws i)).trans ?_;rw [vJQ (show (i:Int) < (ws.no:Int) by omega),kW (by omega),yX hi,toN,inS_nat hi,jU (C:=ccf) (t:=(i - 0,(fun v=>ws.ob (v + 0)),ws.ob i)) (show i - 0≤50 by omega),jU (C:=cso) (t:=ws.ob i) h1];unfold obG;show _=bif nmB (ws.ob i).name && (!dupO (fun v=>ws.ob (v + 0)) (ws.ob i) (i - 0) && soOk (ws.ob i)) then _ else _
  cases nmB (ws.ob i).name <;> cases dupO (fun v=>ws.ob (v + 0)) (ws.ob i) (i - 0) <;> cases soOk (ws.ob i) <;> rfl
 ·refine (rdGw G K ws (ws.no:Int) (cntF ws ws.no)).trans ?_;rw [vYH (show ¬ (ws.no:Int) < (ws.no:Int) by omega)];rfl
noncomputable def kXX (ws:Wsp):List (List Nat × jK):=[([0,1,0,1,1,1,1],sumF (fun _:Unit=>(hGw ws 0 (ws.c:Int))) (fun _=>()) (fun _ K=>(bif gP (ws.no≤50∧okW ws) then (bif obA ws then (K (.exit 0) ⟨[(4,.v (.n .i64 (cntF ws ws.no)))],[]⟩) else (K .ret ⟨[(2,.v (.n .i64 3402)),(4,.v (.n .i64 (cntF ws (Rx.firstK (fun j:Nat=>obG ws j) ws.no 0))))],[]⟩)) else none)))]
set_option maxRecDepth 100000 in
theorem pxgck (ws:Wsp):qQU Tf (orGw ws) (qZ (kXX ws)) 60 16 [.a (wP ws)] =
 (bif (gF1 csk_ esk_ (ws.js,ws.ms,ws.sh,ws.sk,ws.n,ws.m,ws.c,ws.d)) then (bif (!decide ((sErr ws.js ws.ms ws.sh ws.sk ws.n ws.m ws.c ws.d)=0)) then some (.v (.n .i64 (sErr ws.js ws.ms ws.sh ws.sk ws.n ws.m ws.c ws.d)),[])
 else (bif (gF1 cfi efi ws) then (bif (fiB ws) then (bif (gSt (hGw ws 0 (ws.c:Int)) (hGw ws 0 (ws.c:Int))) then (bif gP (ws.no≤50∧okW ws) then (bif (obA ws) then (bif (decide (24 < (cntF ws ws.no))) then some (.v (.n .i64 3401),[])
 else some (.v (.n .i64 0),[]))
 else some (.v (.n .i64 3402),[]))
 else none)
 else none)
 else some (.v (.n .i64 3401),[]))
 else none))
 else none):=by kernel_rfl
theorem snd_gck (ws:Wsp) (ho:okW ws):yK Tryz.prog 16 [.a (wP ws)] (.v (.n .i64 (wErr ws))):=by
 refine zW (N:=60) (LO:=qZ (kXX ws)) jH zG (kY (l:=[(50,kVH),(51,o_fi),(53,o_nm),(54,o_cf),(55,o_so)]) (m:=[]) ⟨ok_sk_,ok_fi,ok_tn,ok_cf,ok_so,trivial⟩ trivial) (fun p S hp => ?_) ?_
 ·refine zU (L:=qQ Tf 16) (l:=(kXX ws)) (show AllP _ (kXX ws) from ⟨?_,trivial⟩) p S hp
  ·dsimp only;refine kQ (T:=Tf) (o:=(orGw ws)) (f:=16) (LO:=qZ []) (p:=[0,1,0,1,1,1,1]) kJ ?_;intro t K r hr;obtain ⟨hg,hr⟩:=qY hr
   skip
   exact (lpGw K ws (kK hg).1 (kK hg).2).trans hr
 ·refine (pxgck ws).trans ?_;unfold wErr;rw [jU (C:=csk_) (t:=(ws.js,ws.ms,ws.sh,ws.sk,ws.n,ws.m,ws.c,ws.d)) trivial];show (bif true then (bif !decide (sEW ws=0) then some (Ret.v (.n .i64 (sEW ws)),([]:Mem)) else _) else none)=_;by_cases h:sEW ws=0
  ·rw [vJQ h,jU (C:=cfi) (t:=ws) trivial];cases hf:fiB ws with
   | false=>rfl
   | true =>
    have hn:=(fi_no hf).1;simp only [yU,zYJ (show ws.no≤50∧okW ws from ⟨by omega,ho⟩),vYV,Bool.not_true,vYG];cases obA ws with
    | false=>rfl
    | true=>cases decide (24 < cntF ws ws.no) <;> rfl
  ·rw [vYH h]; rfl
def cgk:Wsp→Prop:=fun t=>match t with | ws=>okW ws
def egk:Wsp→List PV:=fun t=>match t with | ws=>[.a (wP ws)]
noncomputable def rgk:Wsp→Ret:=fun t=>match t with | ws=>.v (.n .i64 (wErr ws))
def dgk:List PV→Wsp:=fun ps=>match ps with
 | [.a r]=>unW r
 | _=>(unW [])
noncomputable def o_gk:List PV→Option (Bool × Ret):=o_fm dgk cgk egk rgk
theorem ok_gk:zJ Tryz.prog 16 o_gk:=qQV fun t h=>by
 revert h; revert t; intro ws h
 exact snd_gck ws h
end Go.Proofs.YtgmbkkkbfbocnaaGreat.Hc

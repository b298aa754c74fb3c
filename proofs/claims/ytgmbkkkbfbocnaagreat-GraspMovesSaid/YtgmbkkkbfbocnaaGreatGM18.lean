/- Part 18 of the texts behind the last one: rules and contracts. No condition. -/
import Derived.Test.YtgmbkkkbfbocnaaGreatGM17
open Bool renaming true_and → vZH
open Go.IntKind renaming wrap → vJJ
namespace Go.Proofs.YtgmbkkkbfbocnaaGreat.Hd
open Go.Rx Rt Go.Sx Go.RowKit Od Na Nb Nc Nx Nf Nl Nm Ga Gb Gc Gd Ge Gf Gg Ha Hb Hc
noncomputable def orWp (_:Wsp):OrS:=orS [(56,kGY),(57,o_nq),(58,o_ri),(59,o_ob)] []
noncomputable def hWp (ws:Wsp) (i:Int):St:=⟨[(1,.p 1 0),(4,.v (.n .i64 i))],[(1,.blk ((wP ws).map .v))]⟩
set_option maxRecDepth 100000 in
theorem rdWp (G:St→Option (Ret × Mem)) (K:Cont) (ws:Wsp) (i:Int):kZ 60 (cxS Tf (orWp ws) 60 17 (ntmF Tf 17)) (evX Tf (orWp ws) 60 17 (ntmF Tf 17)) (qZ []) (qQ Tf 17 [0,1,0,1,1,1]) [0,1,0,1,1,1] (Tf.hint 17 (qJ (qQ Tf 17 [0,1,0,1,1,1]))) K G (hWp ws i) =
 (bif (decide (i < (ws.np:Int))) then (bif (inB i ws.np) then (bif (gF1 cnq enq (ws.pl (i).toNat)) then (bif (zOk 2097152 (ws.pl (i).toNat)) then (G (hWp ws (vJJ .i64 (i + 1))))
 else (K .ret ⟨[(1,.p 1 0),(2,.v (.n .i64 3401))],[(1,.blk ((wP ws).map .v))]⟩))
 else none)
 else none)
 else (K (.exit 0) ⟨[(1,.p 1 0)],[(1,.blk ((wP ws).map .v))]⟩)):=by kernel_rfl
theorem lpWp (K:Cont) (ws:Wsp) (_:ws.np≤50):LFX 60 (cxS Tf (orWp ws) 60 17 (ntmF Tf 17)) (evX Tf (orWp ws) 60 17 (ntmF Tf 17)) (qZ []) (qQ Tf 17 [0,1,0,1,1,1]) [0,1,0,1,1,1] (Tf.hint 17 (qJ (qQ Tf 17 [0,1,0,1,1,1]))) K 60 (hWp ws 0)=bif (allN (fun i:Nat=>zOk 2097152 (ws.pl i)) ws.np 0) then (K (.exit 0) ⟨[(1,.p 1 0)],[(1,.blk ((wP ws).map .v))]⟩) else (K .ret ⟨[(1,.p 1 0),(2,.v (.n .i64 3401))],[(1,.blk ((wP ws).map .v))]⟩):=by
 refine (uK (L:=LFX 60 (cxS Tf (orWp ws) 60 17 (ntmF Tf 17)) (evX Tf (orWp ws) 60 17 (ntmF Tf 17)) (qZ []) (qQ Tf 17 [0,1,0,1,1,1]) [0,1,0,1,1,1] (Tf.hint 17 (qJ (qQ Tf 17 [0,1,0,1,1,1]))) K) (stp:=kZ 60 (cxS Tf (orWp ws) 60 17 (ntmF Tf 17)) (evX Tf (orWp ws) 60 17 (ntmF Tf 17)) (qZ []) (qQ Tf 17 [0,1,0,1,1,1]) [0,1,0,1,1,1] (Tf.hint 17 (qJ (qQ Tf 17 [0,1,0,1,1,1]))) K) (fun _ _=>rfl) (fun (i:Nat) (_:Unit)=>hWp ws (i:Int)) (fun _ _=>True) (fun (i:Nat) _=>zOk 2097152 (ws.pl i)) (fun _ _=>()) (c:=ws.np) (fun _=>(K (.exit 0) ⟨[(1,.p 1 0)],[(1,.blk ((wP ws).map .v))]⟩)) (fun i _=>(K .ret ⟨[(1,.p 1 0),(2,.v (.n .i64 3401))],[(1,.blk ((wP ws).map .v))]⟩)) (fun G i f hi _ => ?_) (fun _ _ _ _ _=>trivial) (fun G f _ => ?_) ws.np 0 60 () (by omega) (by omega) trivial).trans ((jQ _ _ _ _ _).trans (yH _ _ _ _ _))
 ·refine (rdWp G K ws i).trans ?_;rw [vJQ (show (i:Int) < (ws.np:Int) by omega),kW (by omega),yX (show i < ws.np by omega),toN,jU (C:=cnq) (t:=ws.pl i) trivial];cases zOk 2097152 (ws.pl i) <;> rfl
 ·refine (rdWp G K ws ws.np).trans ?_;rw [vYH (show ¬ (ws.np:Int) < (ws.np:Int) by omega)];rfl
noncomputable def hWq (ws:Wsp) (i:Int):St:=⟨[(1,.p 1 0),(5,.v (.n .i64 i))],[(1,.blk ((wP ws).map .v))]⟩
set_option maxRecDepth 100000 in
theorem rdWq (G:St→Option (Ret × Mem)) (K:Cont) (ws:Wsp) (i:Int):kZ 60 (cxS Tf (orWp ws) 60 17 (ntmF Tf 17)) (evX Tf (orWp ws) 60 17 (ntmF Tf 17)) (qZ []) (qQ Tf 17 [0,1,0,1,1,1,1]) [0,1,0,1,1,1,1] (Tf.hint 17 (qJ (qQ Tf 17 [0,1,0,1,1,1,1]))) K G (hWq ws i) =
 (bif (decide (i < (ws.nh:Int))) then (bif (inB i ws.nh) then (bif (decide ((ws.hd (i).toNat).link < 0)) then (K .ret ⟨[(1,.p 1 0),(2,.v (.n .i64 3401))],[(1,.blk ((wP ws).map .v))]⟩)
 else (bif (decide ((ws.n:Int)≤(ws.hd (i).toNat).link)) then (K .ret ⟨[(1,.p 1 0),(2,.v (.n .i64 3401))],[(1,.blk ((wP ws).map .v))]⟩)
 else (bif (gF1 cnq enq ((ws.hd (i).toNat).off)) then (bif (zOk 2097152 ((ws.hd (i).toNat).off)) then (G (hWq ws (vJJ .i64 (i + 1))))
 else (K .ret ⟨[(1,.p 1 0),(2,.v (.n .i64 3401))],[(1,.blk ((wP ws).map .v))]⟩))
 else none)))
 else none)
 else (K (.exit 2) ⟨[(1,.p 1 0)],[(1,.blk ((wP ws).map .v))]⟩)):=by kernel_rfl
theorem lpWq (K:Cont) (ws:Wsp) (_:ws.nh≤50):LFX 60 (cxS Tf (orWp ws) 60 17 (ntmF Tf 17)) (evX Tf (orWp ws) 60 17 (ntmF Tf 17)) (qZ []) (qQ Tf 17 [0,1,0,1,1,1,1]) [0,1,0,1,1,1,1] (Tf.hint 17 (qJ (qQ Tf 17 [0,1,0,1,1,1,1]))) K 60 (hWq ws 0)=bif (allN (fun i:Nat=>hdOk ws.n (ws.hd i)) ws.nh 0) then (K (.exit 2) ⟨[(1,.p 1 0)],[(1,.blk ((wP ws).map .v))]⟩) else (K .ret ⟨[(1,.p 1 0),(2,.v (.n .i64 3401))],[(1,.blk ((wP ws).map .v))]⟩):=by
 refine (uK (L:=LFX 60 (cxS Tf (orWp ws) 60 17 (ntmF Tf 17)) (evX Tf (orWp ws) 60 17 (ntmF Tf 17)) (qZ []) (qQ Tf 17 [0,1,0,1,1,1,1]) [0,1,0,1,1,1,1] (Tf.hint 17 (qJ (qQ Tf 17 [0,1,0,1,1,1,1]))) K) (stp:=kZ 60 (cxS Tf (orWp ws) 60 17 (ntmF Tf 17)) (evX Tf (orWp ws) 60 17 (ntmF Tf 17)) (qZ []) (qQ Tf 17 [0,1,0,1,1,1,1]) [0,1,0,1,1,1,1] (Tf.hint 17 (qJ (qQ Tf 17 [0,1,0,1,1,1,1]))) K) (fun _ _=>rfl) (fun (i:Nat) (_:Unit)=>hWq ws (i:Int)) (fun _ _=>True) (fun (i:Nat) _=>hdOk ws.n (ws.hd i)) (fun _ _=>()) (c:=ws.nh) (fun _=>(K (.exit 2) ⟨[(1,.p 1 0)],[(1,.blk ((wP ws).map .v))]⟩)) (fun i _=>(K .ret ⟨[(1,.p 1 0),(2,.v (.n .i64 3401))],[(1,.blk ((wP ws).map .v))]⟩)) (fun G i f hi _ => ?_) (fun _ _ _ _ _=>trivial) (fun G f _ => ?_) ws.nh 0 60 () (by omega) (by omega) trivial).trans ((jQ _ _ _ _ _).trans (yH _ _ _ _ _))
 ·refine (rdWq G K ws i).trans ?_;rw [vJQ (show (i:Int) < (ws.nh:Int) by omega),kW (by omega),yX (show i < ws.nh by omega),toN,jU (C:=cnq) (t:=(ws.hd i).off) trivial];unfold hdOk;cases decide ((ws.hd i).link < 0) <;> cases decide ((ws.n:Int)≤(ws.hd i).link) <;> cases zOk 2097152 (ws.hd i).off <;> rfl
 ·refine (rdWq G K ws ws.nh).trans ?_;rw [vYH (show ¬ (ws.nh:Int) < (ws.nh:Int) by omega)];rfl
noncomputable def hWr (ws:Wsp) (i:Int):St:=⟨[(1,.p 1 0),(7,.v (.n .i64 i))],[(1,.blk ((wP ws).map .v))]⟩
set_option maxRecDepth 100000 in
theorem rdWr (G:St→Option (Ret × Mem)) (K:Cont) (ws:Wsp) (i:Int):kZ 60 (cxS Tf (orWp ws) 60 17 (ntmF Tf 17)) (evX Tf (orWp ws) 60 17 (ntmF Tf 17)) (qZ []) (qQ Tf 17 [0,1,0,1,1,1,1,1]) [0,1,0,1,1,1,1,1] (Tf.hint 17 (qJ (qQ Tf 17 [0,1,0,1,1,1,1,1]))) K G (hWr ws i) =
 (bif (decide (i < (ws.ng:Int))) then (bif (inB i ws.ng) then (bif (decide ((ws.gr (i).toNat).hand < 0)) then (K .ret ⟨[(1,.p 1 0),(2,.v (.n .i64 3401))],[(1,.blk ((wP ws).map .v))]⟩)
 else (bif (decide ((ws.nh:Int)≤(ws.gr (i).toNat).hand)) then (K .ret ⟨[(1,.p 1 0),(2,.v (.n .i64 3401))],[(1,.blk ((wP ws).map .v))]⟩)
 else (bif (decide ((ws.gr (i).toNat).place < 0)) then (K .ret ⟨[(1,.p 1 0),(2,.v (.n .i64 3401))],[(1,.blk ((wP ws).map .v))]⟩)
 else (bif (decide ((ws.np:Int)≤(ws.gr (i).toNat).place)) then (K .ret ⟨[(1,.p 1 0),(2,.v (.n .i64 3401))],[(1,.blk ((wP ws).map .v))]⟩)
 else (bif (gF1 cri eri (ws.js,ws.ms,ws.n,ws.m,((ws.gr (i).toNat).na),((ws.gr (i).toNat).cf))) then (bif (qIn ws.js ws.ms ((ws.gr (i).toNat).cf) ws.n ws.m ((ws.gr (i).toNat).na)) then (G (hWr ws (vJJ .i64 (i + 1))))
 else (K .ret ⟨[(1,.p 1 0),(2,.v (.n .i64 3401))],[(1,.blk ((wP ws).map .v))]⟩))
 else none)))))
 else none)
 else (K (.exit 4) ⟨[(1,.p 1 0)],[(1,.blk ((wP ws).map .v))]⟩)):=by kernel_rfl
theorem nlt0 (a b:Int):(!decide (b≤a))=decide (a < b):=by by_cases h:b≤a <;> simp [h] <;> omega
theorem lpWr (K:Cont) (ws:Wsp) (_:ws.ng≤50):LFX 60 (cxS Tf (orWp ws) 60 17 (ntmF Tf 17)) (evX Tf (orWp ws) 60 17 (ntmF Tf 17)) (qZ []) (qQ Tf 17 [0,1,0,1,1,1,1,1]) [0,1,0,1,1,1,1,1] (Tf.hint 17 (qJ (qQ Tf 17 [0,1,0,1,1,1,1,1]))) K 60 (hWr ws 0)=bif (allN (fun i:Nat=>grOk ws (ws.gr i)) ws.ng 0) then (K (.exit 4) ⟨[(1,.p 1 0)],[(1,.blk ((wP ws).map .v))]⟩) else (K .ret ⟨[(1,.p 1 0),(2,.v (.n .i64 3401))],[(1,.blk ((wP ws).map .v))]⟩):=by
 refine (uK (L:=LFX 60 (cxS Tf (orWp ws) 60 17 (ntmF Tf 17)) (evX Tf (orWp ws) 60 17 (ntmF Tf 17)) (qZ []) (qQ Tf 17 [0,1,0,1,1,1,1,1]) [0,1,0,1,1,1,1,1] (Tf.hint 17 (qJ (qQ Tf 17 [0,1,0,1,1,1,1,1]))) K) (stp:=kZ 60 (cxS Tf (orWp ws) 60 17 (ntmF Tf 17)) (evX Tf (orWp ws) 60 17 (ntmF Tf 17)) (qZ []) (qQ Tf 17 [0,1,0,1,1,1,1,1]) [0,1,0,1,1,1,1,1] (Tf.hint 17 (qJ (qQ Tf 17 [0,1,0,1,1,1,1,1]))) K) (fun _ _=>rfl) (fun (i:Nat) (_:Unit)=>hWr ws (i:Int)) (fun _ _=>True) (fun (i:Nat) _=>grOk ws (ws.gr i)) (fun _ _=>()) (c:=ws.ng) (fun _=>(K (.exit 4) ⟨[(1,.p 1 0)],[(1,.blk ((wP ws).map .v))]⟩)) (fun i _=>(K .ret ⟨[(1,.p 1 0),(2,.v (.n .i64 3401))],[(1,.blk ((wP ws).map .v))]⟩)) (fun G i f hi _ => ?_) (fun _ _ _ _ _=>trivial) (fun G f _ => ?_) ws.ng 0 60 () (by omega) (by omega) trivial).trans ((jQ _ _ _ _ _).trans (yH _ _ _ _ _))
 ·refine (rdWr G K ws i).trans ?_;rw [vJQ (show (i:Int) < (ws.ng:Int) by omega),kW (by omega),yX (show i < ws.ng by omega),toN,jU (C:=cri) (t:=(ws.js,ws.ms,ws.n,ws.m,(ws.gr i).na,(ws.gr i).cf)) trivial];unfold grOk knB;rw [nle 0 (ws.gr i).hand,nle 0 (ws.gr i).place,← nlt0 (ws.gr i).hand (ws.nh:Int),← nlt0 (ws.gr i).place (ws.np:Int)];cases decide ((ws.gr i).hand < 0) <;> cases decide ((ws.nh:Int)≤(ws.gr i).hand) <;> cases decide ((ws.gr i).place < 0) <;> cases decide ((ws.np:Int)≤(ws.gr i).place) <;> cases qIn ws.js ws.ms (ws.gr i).cf ws.n ws.m (ws.gr i).na <;> rfl
 ·refine (rdWr G K ws ws.ng).trans ?_;rw [vYH (show ¬ (ws.ng:Int) < (ws.ng:Int) by omega)];rfl
noncomputable def hWi (ws:Wsp) (s:Int) (i:Int) (k:Int):St:=⟨[(1,.p 1 0),(9,.v (.n .i64 s)),(10,.v (.n .i64 i)),(11,.v (.n .i64 k))],[(1,.blk ((wP ws).map .v))]⟩
set_option maxRecDepth 100000 in
theorem rdWi (G:St→Option (Ret × Mem)) (K:Cont) (ws:Wsp) (s:Int) (i:Int) (k:Int):kZ 60 (cxS Tf (orWp ws) 60 17 (ntmF Tf 17)) (evX Tf (orWp ws) 60 17 (ntmF Tf 17)) (qZ []) (qQ Tf 17 [0,1,0,1,0,0,1,0,0,1,0,1,1,1,1,1,1,1]) [0,1,0,1,0,0,1,0,0,1,0,1,1,1,1,1,1,1] (Tf.hint 17 (qJ (qQ Tf 17 [0,1,0,1,0,0,1,0,0,1,0,1,1,1,1,1,1,1]))) K G (hWi ws s i k) =
 (bif (decide (k < i)) then (bif (inB k ws.no) then (bif (inB i ws.no) then (bif ((ws.ob (k).toNat).name.toList == (ws.ob (i).toNat).name.toList) then (K .ret ⟨[(1,.p 1 0),(2,.v (.n .i64 3402)),(9,.v (.n .i64 s)),(10,.v (.n .i64 i))],[(1,.blk ((wP ws).map .v))]⟩)
 else (G (hWi ws s i (vJJ .i64 (k + 1)))))
 else none)
 else none)
 else (K (.exit 8) ⟨[(1,.p 1 0),(9,.v (.n .i64 s)),(10,.v (.n .i64 i))],[(1,.blk ((wP ws).map .v))]⟩)):=by kernel_rfl
theorem lpWi (K:Cont) (ws:Wsp) (s:Int) (i:Nat) (hI:i < ws.no) (hN:ws.no≤50):LFX 60 (cxS Tf (orWp ws) 60 17 (ntmF Tf 17)) (evX Tf (orWp ws) 60 17 (ntmF Tf 17)) (qZ []) (qQ Tf 17 [0,1,0,1,0,0,1,0,0,1,0,1,1,1,1,1,1,1]) [0,1,0,1,0,0,1,0,0,1,0,1,1,1,1,1,1,1] (Tf.hint 17 (qJ (qQ Tf 17 [0,1,0,1,0,0,1,0,0,1,0,1,1,1,1,1,1,1]))) K 60 (hWi ws s i 0)=bif (allN (fun k:Nat => !((ws.ob k).name.toList == (ws.ob i).name.toList)) i 0) then (K (.exit 8) ⟨[(1,.p 1 0),(9,.v (.n .i64 s)),(10,.v (.n .i64 i))],[(1,.blk ((wP ws).map .v))]⟩) else (K .ret ⟨[(1,.p 1 0),(2,.v (.n .i64 3402)),(9,.v (.n .i64 s)),(10,.v (.n .i64 i))],[(1,.blk ((wP ws).map .v))]⟩):=by
 refine (uK (L:=LFX 60 (cxS Tf (orWp ws) 60 17 (ntmF Tf 17)) (evX Tf (orWp ws) 60 17 (ntmF Tf 17)) (qZ []) (qQ Tf 17 [0,1,0,1,0,0,1,0,0,1,0,1,1,1,1,1,1,1]) [0,1,0,1,0,0,1,0,0,1,0,1,1,1,1,1,1,1] (Tf.hint 17 (qJ (qQ Tf 17 [0,1,0,1,0,0,1,0,0,1,0,1,1,1,1,1,1,1]))) K) (stp:=kZ 60 (cxS Tf (orWp ws) 60 17 (ntmF Tf 17)) (evX Tf (orWp ws) 60 17 (ntmF Tf 17)) (qZ []) (qQ Tf 17 [0,1,0,1,0,0,1,0,0,1,0,1,1,1,1,1,1,1]) [0,1,0,1,0,0,1,0,0,1,0,1,1,1,1,1,1,1] (Tf.hint 17 (qJ (qQ Tf 17 [0,1,0,1,0,0,1,0,0,1,0,1,1,1,1,1,1,1]))) K) (fun _ _=>rfl) (fun (k:Nat) (_:Unit)=>hWi ws s i (k:Int)) (fun _ _=>True) (fun (k:Nat) _ => !((ws.ob k).name.toList == (ws.ob i).name.toList)) (fun _ _=>()) (c:=i) (fun _=>(K (.exit 8) ⟨[(1,.p 1 0),(9,.v (.n .i64 s)),(10,.v (.n .i64 i))],[(1,.blk ((wP ws).map .v))]⟩)) (fun k _=>(K .ret ⟨[(1,.p 1 0),(2,.v (.n .i64 3402)),(9,.v (.n .i64 s)),(10,.v (.n .i64 i))],[(1,.blk ((wP ws).map .v))]⟩)) (fun G k f hi _ => ?_) (fun _ _ _ _ _=>trivial) (fun G f _ => ?_) (i) 0 60 () (by omega) (by omega) trivial).trans ((jQ _ _ _ _ _).trans (yH _ _ _ _ _))
 ·refine (rdWi G K ws s i k).trans ?_;rw [vJQ (show (k:Int) < (i:Int) by omega),kW (by omega),yX (show k < ws.no by omega),yX hI,toN,toN];cases ((ws.ob k).name.toList == (ws.ob i).name.toList) <;> rfl
 ·refine (rdWi G K ws s i (i:Int)).trans ?_;rw [vYH (show ¬ (i:Int) < (i:Int) by omega)];rfl
theorem okWi (ws:Wsp):∀ p S,qZ [([0,1,0,1,0,0,1,0,0,1,0,1,1,1,1,1,1,1],sumF (fun t:Int × Nat=>(hWi ws t.1 ((t.2:Nat):Int) 0)) (fun σ=>(slI σ 9,(slI σ 10).toNat)) (fun t K=>(bif (decide (t.2 < ws.no∧ws.no≤50)) then (bif (allN (fun k:Nat => !((ws.ob k).name.toList == (ws.ob t.2).name.toList)) t.2 0) then (K (.exit 8) ⟨[(1,.p 1 0),(9,.v (.n .i64 t.1)),(10,.v (.n .i64 t.2))],[(1,.blk ((wP ws).map .v))]⟩) else (K .ret ⟨[(1,.p 1 0),(2,.v (.n .i64 3402)),(9,.v (.n .i64 t.1)),(10,.v (.n .i64 t.2))],[(1,.blk ((wP ws).map .v))]⟩)) else none)))] p=some S→qQZ 60 (cxS Tf (orWp ws) 60 17 (ntmF Tf 17)) (qQ Tf 17 p) S:=fun p S hp=>by
 refine zU (L:=qQ Tf 17) (l:=[([0,1,0,1,0,0,1,0,0,1,0,1,1,1,1,1,1,1],sumF (fun t:Int × Nat=>(hWi ws t.1 ((t.2:Nat):Int) 0)) (fun σ=>(slI σ 9,(slI σ 10).toNat)) (fun t K=>(bif (decide (t.2 < ws.no∧ws.no≤50)) then (bif (allN (fun k:Nat => !((ws.ob k).name.toList == (ws.ob t.2).name.toList)) t.2 0) then (K (.exit 8) ⟨[(1,.p 1 0),(9,.v (.n .i64 t.1)),(10,.v (.n .i64 t.2))],[(1,.blk ((wP ws).map .v))]⟩) else (K .ret ⟨[(1,.p 1 0),(2,.v (.n .i64 3402)),(9,.v (.n .i64 t.1)),(10,.v (.n .i64 t.2))],[(1,.blk ((wP ws).map .v))]⟩)) else none)))]) ⟨?_,trivial⟩ p S hp;dsimp only;refine kQ (T:=Tf) (o:=(orWp ws)) (f:=17) (LO:=qZ []) (p:=[0,1,0,1,0,0,1,0,0,1,0,1,1,1,1,1,1,1]) kJ ?_;intro t K r hr;obtain ⟨hg,hr⟩:=qY hr
 skip
 exact (lpWi K ws t.1 t.2 (vJZ hg).1 (vJZ hg).2).trans hr
noncomputable def hWo (ws:Wsp) (i:Int) (s:Int):St:=⟨[(1,.p 1 0),(9,.v (.n .i64 s)),(10,.v (.n .i64 i))],[(1,.blk ((wP ws).map .v))]⟩
set_option maxRecDepth 100000 in
theorem rdWo (G:St→Option (Ret × Mem)) (K:Cont) (ws:Wsp) (i:Int) (s:Int):kZ 60 (cxS Tf (orWp ws) 60 17 (ntmF Tf 17)) (evX Tf (orWp ws) 60 17 (ntmF Tf 17)) (qZ [([0,1,0,1,0,0,1,0,0,1,0,1,1,1,1,1,1,1],sumF (fun t:Int × Nat=>(hWi ws t.1 ((t.2:Nat):Int) 0)) (fun σ=>(slI σ 9,(slI σ 10).toNat)) (fun t K=>(bif (decide (t.2 < ws.no∧ws.no≤50)) then (bif (allN (fun k:Nat => !((ws.ob k).name.toList == (ws.ob t.2).name.toList)) t.2 0) then (K (.exit 8) ⟨[(1,.p 1 0),(9,.v (.n .i64 t.1)),(10,.v (.n .i64 t.2))],[(1,.blk ((wP ws).map .v))]⟩) else (K .ret ⟨[(1,.p 1 0),(2,.v (.n .i64 3402)),(9,.v (.n .i64 t.1)),(10,.v (.n .i64 t.2))],[(1,.blk ((wP ws).map .v))]⟩)) else none)))]) (qQ Tf 17 [0,1,0,1,1,1,1,1,1,1]) [0,1,0,1,1,1,1,1,1,1] (Tf.hint 17 (qJ (qQ Tf 17 [0,1,0,1,1,1,1,1,1,1]))) K G (hWo ws i s) =
 (bif (decide (i < (ws.no:Int))) then (bif (inB i ws.no) then (bif (gF1 cob eob (ws.ob (i).toNat)) then (bif (obOk (ws.ob (i).toNat)) then (bif (gSt (hWi ws s i 0) (hWi ws s (((i).toNat:Nat):Int) 0)) then (bif (decide ((i).toNat < ws.no∧ws.no≤50)) then (bif (allN (fun k:Nat => !((ws.ob k).name.toList == (ws.ob (i).toNat).name.toList)) (i).toNat 0) then (bif (inB (((i).toNat:Nat):Int) ws.no) then (G (hWo ws (vJJ .i64 ((((i).toNat:Nat):Int) + 1)) (vJJ .i64 (s + ((ws.ob ((((i).toNat:Nat):Int)).toNat).ns:Int)))))
 else none)
 else (K .ret ⟨[(2,.v (.n .i64 3402)),(9,.v (.n .i64 s))],[]⟩))
 else none)
 else none)
 else (K .ret ⟨[(2,.v (.n .i64 3402)),(9,.v (.n .i64 s))],[]⟩))
 else none)
 else none)
 else (K (.exit 6) ⟨[(9,.v (.n .i64 s))],[]⟩)):=by kernel_rfl
theorem lpWo (K:Cont) (ws:Wsp) (hn:ws.no≤50) (ho:okW ws):LFX 60 (cxS Tf (orWp ws) 60 17 (ntmF Tf 17)) (evX Tf (orWp ws) 60 17 (ntmF Tf 17)) (qZ [([0,1,0,1,0,0,1,0,0,1,0,1,1,1,1,1,1,1],sumF (fun t:Int × Nat=>(hWi ws t.1 ((t.2:Nat):Int) 0)) (fun σ=>(slI σ 9,(slI σ 10).toNat)) (fun t K=>(bif (decide (t.2 < ws.no∧ws.no≤50)) then (bif (allN (fun k:Nat => !((ws.ob k).name.toList == (ws.ob t.2).name.toList)) t.2 0) then (K (.exit 8) ⟨[(1,.p 1 0),(9,.v (.n .i64 t.1)),(10,.v (.n .i64 t.2))],[(1,.blk ((wP ws).map .v))]⟩) else (K .ret ⟨[(1,.p 1 0),(2,.v (.n .i64 3402)),(9,.v (.n .i64 t.1)),(10,.v (.n .i64 t.2))],[(1,.blk ((wP ws).map .v))]⟩)) else none)))]) (qQ Tf 17 [0,1,0,1,1,1,1,1,1,1]) [0,1,0,1,1,1,1,1,1,1] (Tf.hint 17 (qJ (qQ Tf 17 [0,1,0,1,1,1,1,1,1,1]))) K 60 (hWo ws 0 (ws.c:Int))=bif obA ws then (K (.exit 6) ⟨[(9,.v (.n .i64 (cntF ws ws.no)))],[]⟩) else (K .ret ⟨[(2,.v (.n .i64 3402)),(9,.v (.n .i64 (cntF ws (Rx.firstK (fun j:Nat=>obG ws j) ws.no 0))))],[]⟩):=by
 refine (uK (L:=LFX 60 (cxS Tf (orWp ws) 60 17 (ntmF Tf 17)) (evX Tf (orWp ws) 60 17 (ntmF Tf 17)) (qZ [([0,1,0,1,0,0,1,0,0,1,0,1,1,1,1,1,1,1],sumF (fun t:Int × Nat=>(hWi ws t.1 ((t.2:Nat):Int) 0)) (fun σ=>(slI σ 9,(slI σ 10).toNat)) (fun t K=>(bif (decide (t.2 < ws.no∧ws.no≤50)) then (bif (allN (fun k:Nat => !((ws.ob k).name.toList == (ws.ob t.2).name.toList)) t.2 0) then (K (.exit 8) ⟨[(1,.p 1 0),(9,.v (.n .i64 t.1)),(10,.v (.n .i64 t.2))],[(1,.blk ((wP ws).map .v))]⟩) else (K .ret ⟨[(1,.p 1 0),(2,.v (.n .i64 3402)),(9,.v (.n .i64 t.1)),(10,.v (.n .i64 t.2))],[(1,.blk ((wP ws).map .v))]⟩)) else none)))]) (qQ Tf 17 [0,1,0,1,1,1,1,1,1,1]) [0,1,0,1,1,1,1,1,1,1] (Tf.hint 17 (qJ (qQ Tf 17 [0,1,0,1,1,1,1,1,1,1]))) K) (stp:=kZ 60 (cxS Tf (orWp ws) 60 17 (ntmF Tf 17)) (evX Tf (orWp ws) 60 17 (ntmF Tf 17)) (qZ [([0,1,0,1,0,0,1,0,0,1,0,1,1,1,1,1,1,1],sumF (fun t:Int × Nat=>(hWi ws t.1 ((t.2:Nat):Int) 0)) (fun σ=>(slI σ 9,(slI σ 10).toNat)) (fun t K=>(bif (decide (t.2 < ws.no∧ws.no≤50)) then (bif (allN (fun k:Nat => !((ws.ob k).name.toList == (ws.ob t.2).name.toList)) t.2 0) then (K (.exit 8) ⟨[(1,.p 1 0),(9,.v (.n .i64 t.1)),(10,.v (.n .i64 t.2))],[(1,.blk ((wP ws).map .v))]⟩) else (K .ret ⟨[(1,.p 1 0),(2,.v (.n .i64 3402)),(9,.v (.n .i64 t.1)),(10,.v (.n .i64 t.2))],[(1,.blk ((wP ws).map .v))]⟩)) else none)))]) (qQ Tf 17 [0,1,0,1,1,1,1,1,1,1]) [0,1,0,1,1,1,1,1,1,1] (Tf.hint 17 (qJ (qQ Tf 17 [0,1,0,1,1,1,1,1,1,1]))) K) (fun _ _=>rfl) (fun (i:Nat) (_:Unit)=>hWo ws (i:Int) (cntF ws i)) (fun _ _=>True) (fun (i:Nat) _=>obG ws i) (fun _ _=>()) (c:=ws.no) (fun _=>(K (.exit 6) ⟨[(9,.v (.n .i64 (cntF ws ws.no)))],[]⟩)) (fun i _=>(K .ret ⟨[(2,.v (.n .i64 3402)),(9,.v (.n .i64 (cntF ws i)))],[]⟩)) (fun G i f hi _ => ?_) (fun _ _ _ _ _=>trivial) (fun G f _ => ?_) ws.no 0 60 () (by omega) (by omega) trivial).trans ((jQ _ _ _ _ _).trans (uG _ _ _ _ _))
 ·have h1:(ws.ob i).ns≤9223372036854775807:=Nat.le_trans (ho i hi) (by decide);refine (rdWo G K ws i (cntF ws i)).trans ?_;rw [vJQ (show (i:Int) < (ws.no:Int) by omega),kW (by omega),yX hi,toN,jU (C:=cob) (t:=ws.ob i) h1,yU,vJQ (show i < ws.no∧ws.no≤50 from ⟨hi,hn⟩)];unfold obG obOk;rw [yX hi,show allN (fun k:Nat => !((ws.ob k).name.toList == (ws.ob i).name.toList)) i 0 = !dupO ws.ob (ws.ob i) i from by unfold dupO; rw [Bool.not_not]];cases nmB (ws.ob i).name <;> cases dupO ws.ob (ws.ob i) i <;> cases soOk (ws.ob i) <;> rfl
 ·refine (rdWo G K ws (ws.no:Int) (cntF ws ws.no)).trans ?_;rw [vYH (show ¬ (ws.no:Int) < (ws.no:Int) by omega)];rfl
noncomputable def kKG (ws:Wsp):List (List Nat × jK):=[([0,1,0,1,1,1],sumF (fun _:Unit=>(hWp ws 0)) (fun _=>()) (fun _ K=>(bif (decide (ws.np≤50)) then (bif (allN (fun i:Nat=>zOk 2097152 (ws.pl i)) ws.np 0) then (K (.exit 0) ⟨[(1,.p 1 0)],[(1,.blk ((wP ws).map .v))]⟩) else (K .ret ⟨[(1,.p 1 0),(2,.v (.n .i64 3401))],[(1,.blk ((wP ws).map .v))]⟩)) else none))),([0,1,0,1,1,1,1],sumF (fun _:Unit=>(hWq ws 0)) (fun _=>()) (fun _ K=>(bif (decide (ws.nh≤50)) then (bif (allN (fun i:Nat=>hdOk ws.n (ws.hd i)) ws.nh 0) then (K (.exit 2) ⟨[(1,.p 1 0)],[(1,.blk ((wP ws).map .v))]⟩) else (K .ret ⟨[(1,.p 1 0),(2,.v (.n .i64 3401))],[(1,.blk ((wP ws).map .v))]⟩)) else none))),([0,1,0,1,1,1,1,1],sumF (fun _:Unit=>(hWr ws 0)) (fun _=>()) (fun _ K=>(bif (decide (ws.ng≤50)) then (bif (allN (fun i:Nat=>grOk ws (ws.gr i)) ws.ng 0) then (K (.exit 4) ⟨[(1,.p 1 0)],[(1,.blk ((wP ws).map .v))]⟩) else (K .ret ⟨[(1,.p 1 0),(2,.v (.n .i64 3401))],[(1,.blk ((wP ws).map .v))]⟩)) else none))),([0,1,0,1,1,1,1,1,1,1],sumF (fun _:Unit=>(hWo ws 0 (ws.c:Int))) (fun _=>()) (fun _ K=>(bif gP (ws.no≤50∧okW ws) then (bif obA ws then (K (.exit 6) ⟨[(9,.v (.n .i64 (cntF ws ws.no)))],[]⟩) else (K .ret ⟨[(2,.v (.n .i64 3402)),(9,.v (.n .i64 (cntF ws (Rx.firstK (fun j:Nat=>obG ws j) ws.no 0))))],[]⟩)) else none)))]
set_option maxRecDepth 100000 in
theorem pxrcw (ws:Wsp):qQU Tf (orWp ws) (qZ (kKG ws)) 60 17 [.a (wP ws)] =
 (bif (gF1 crc_ erc_ (ws.js,ws.ms,ws.sh,ws.sk,ws.n,ws.m,ws.c,ws.d)) then (bif (!decide ((sErr ws.js ws.ms ws.sh ws.sk ws.n ws.m ws.c ws.d)=0)) then some (.v (.n .i64 (sErr ws.js ws.ms ws.sh ws.sk ws.n ws.m ws.c ws.d)),[])
 else (bif (decide (6 < (ws.no:Int))) then some (.v (.n .i64 3401),[])
 else (bif (decide (8 < (ws.np:Int))) then some (.v (.n .i64 3401),[])
 else (bif (decide (3 < (ws.nh:Int))) then some (.v (.n .i64 3401),[])
 else (bif (decide (32 < (ws.ng:Int))) then some (.v (.n .i64 3401),[])
 else (bif (decide (ws.slack < 0)) then some (.v (.n .i64 3401),[])
 else (bif (decide (65536 < ws.slack)) then some (.v (.n .i64 3401),[])
 else (bif (gSt (hWp ws 0) (hWp ws 0)) then (bif (decide (ws.np≤50)) then (bif (allN (fun i:Nat=>zOk 2097152 (ws.pl i)) ws.np 0) then (bif (gSt (hWq ws 0) (hWq ws 0)) then (bif (decide (ws.nh≤50)) then (bif (allN (fun i:Nat=>hdOk ws.n (ws.hd i)) ws.nh 0) then (bif (gSt (hWr ws 0) (hWr ws 0)) then (bif (decide (ws.ng≤50)) then (bif (allN (fun i:Nat=>grOk ws (ws.gr i)) ws.ng 0) then (bif (gSt (hWo ws 0 (ws.c:Int)) (hWo ws 0 (ws.c:Int))) then (bif gP (ws.no≤50∧okW ws) then (bif (obA ws) then (bif (decide (24 < (cntF ws ws.no))) then some (.v (.n .i64 3401),[])
 else some (.v (.n .i64 0),[]))
 else some (.v (.n .i64 3402),[]))
 else none)
 else none)
 else some (.v (.n .i64 3401),[]))
 else none)
 else none)
 else some (.v (.n .i64 3401),[]))
 else none)
 else none)
 else some (.v (.n .i64 3401),[]))
 else none)
 else none))))))))
 else none):=by kernel_rfl
theorem snd_rcw (ws:Wsp) (ho:okW ws):yK Tryz.prog 17 [.a (wP ws)] (.v (.n .i64 (wErr ws))):=by
 refine zW (N:=60) (LO:=qZ (kKG ws)) jH zG (kY (l:=[(56,kGY),(57,o_nq),(58,o_ri),(59,o_ob)]) (m:=[]) ⟨ok_rc_,ok_nq,ok_ri,ok_ob,trivial⟩ trivial) (fun p S hp => ?_) ?_
 ·refine zU (L:=qQ Tf 17) (l:=(kKG ws)) (show AllP _ (kKG ws) from ⟨?_,?_,?_,?_,trivial⟩) p S hp
  ·dsimp only;refine kQ (T:=Tf) (o:=(orWp ws)) (f:=17) (LO:=qZ []) (p:=[0,1,0,1,1,1]) kJ ?_;intro t K r hr;obtain ⟨hg,hr⟩:=qY hr;have hk:=vJZ hg;exact (lpWp K ws hk).trans hr
  ·dsimp only;refine kQ (T:=Tf) (o:=(orWp ws)) (f:=17) (LO:=qZ []) (p:=[0,1,0,1,1,1,1]) kJ ?_;intro t K r hr;obtain ⟨hg,hr⟩:=qY hr;have hk:=vJZ hg;exact (lpWq K ws hk).trans hr
  ·dsimp only;refine kQ (T:=Tf) (o:=(orWp ws)) (f:=17) (LO:=qZ []) (p:=[0,1,0,1,1,1,1,1]) kJ ?_;intro t K r hr;obtain ⟨hg,hr⟩:=qY hr;have hk:=vJZ hg;exact (lpWr K ws hk).trans hr
  ·dsimp only;refine kQ (T:=Tf) (o:=(orWp ws)) (f:=17) (LO:=(qZ [([0,1,0,1,0,0,1,0,0,1,0,1,1,1,1,1,1,1],sumF (fun t:Int × Nat=>(hWi ws t.1 ((t.2:Nat):Int) 0)) (fun σ=>(slI σ 9,(slI σ 10).toNat)) (fun t K=>(bif (decide (t.2 < ws.no∧ws.no≤50)) then (bif (allN (fun k:Nat => !((ws.ob k).name.toList == (ws.ob t.2).name.toList)) t.2 0) then (K (.exit 8) ⟨[(1,.p 1 0),(9,.v (.n .i64 t.1)),(10,.v (.n .i64 t.2))],[(1,.blk ((wP ws).map .v))]⟩) else (K .ret ⟨[(1,.p 1 0),(2,.v (.n .i64 3402)),(9,.v (.n .i64 t.1)),(10,.v (.n .i64 t.2))],[(1,.blk ((wP ws).map .v))]⟩)) else none)))])) (p:=[0,1,0,1,1,1,1,1,1,1]) (okWi ws) ?_;intro t K r hr;obtain ⟨hg,hr⟩:=qY hr
   skip
   exact (lpWo K ws (kK hg).1 (kK hg).2).trans hr
 ·refine (pxrcw ws).trans ?_;unfold wErr;rw [jU (C:=crc_) (t:=(ws.js,ws.ms,ws.sh,ws.sk,ws.n,ws.m,ws.c,ws.d)) trivial];show (bif true then (bif !decide (sEW ws=0) then some (Ret.v (.n .i64 (sEW ws)),([]:Mem)) else _) else none)=_;by_cases h:sEW ws=0
  ·rw [vJQ h];unfold fiB szG plG hdG grG;by_cases h1:6 < (ws.no:Int)
   ·rw [vJQ h1]; rfl
   by_cases h2:8 < (ws.np:Int)
   ·rw [vYH h1,vJQ h2]; rfl
   by_cases h3:3 < (ws.nh:Int)
   ·rw [vYH h1,vYH h2,vJQ h3]; rfl
   by_cases h4:32 < (ws.ng:Int)
   ·rw [vYH h1,vYH h2,vYH h3,vJQ h4]; rfl
   rw [vYH h1,vYH h2,vYH h3,vYH h4];simp only [yU,vJQ (show ws.np≤50 by omega),vJQ (show ws.nh≤50 by omega),vJQ (show ws.ng≤50 by omega),zYJ (show ws.no≤50∧okW ws from ⟨by omega,ho⟩),vYV];cases decide (ws.slack < 0) with
   | true=>rfl
   | false =>
    cases decide (65536 < ws.slack) with
    | true=>rfl
    | false =>
     cases allN (fun i:Nat=>zOk 2097152 (ws.pl i)) ws.np 0 with
     | false=>rfl
     | true =>
      cases allN (fun i:Nat=>hdOk ws.n (ws.hd i)) ws.nh 0 with
      | false=>rfl
      | true =>
       cases allN (fun i:Nat=>grOk ws (ws.gr i)) ws.ng 0 with
       | false=>rfl
       | true =>
        cases obA ws with
        | false=>rfl
        | true =>
         cases decide (24 < cntF ws ws.no) <;> rfl
  ·rw [vYH h]; rfl
def crw:Wsp→Prop:=fun t=>match t with | ws=>okW ws
def erw:Wsp→List PV:=fun t=>match t with | ws=>[.a (wP ws)]
noncomputable def rrw:Wsp→Ret:=fun t=>match t with | ws=>.v (.n .i64 (wErr ws))
def drw:List PV→Wsp:=fun ps=>match ps with
 | [.a r]=>unW r
 | _=>(unW [])
noncomputable def o_rw:List PV→Option (Bool × Ret):=o_fm drw crw erw rrw
theorem ok_rw:zJ Tryz.prog 17 o_rw:=qQV fun t h=>by
 revert h; revert t; intro ws h
 exact snd_rcw ws h
end Go.Proofs.YtgmbkkkbfbocnaaGreat.Hd
namespace Go.Rx
open Go.RowKit Go.Sx
theorem snd_two {P:Program} {f:Nat} {r:Ret} (h1:yK P f [.nz] r) (h2:yK P f [.ne] r):yK P f [.l []] r:=by
 refine ⟨h1.1,fun w F vals hF hal => ?_⟩;obtain ⟨v,vs,rfl,hv,ha⟩:=qWY hal;obtain rfl:=yZH ha;cases hv with
 | l0 ad c =>
  cases ad with
  | none=>exact h1.2 w F _ hF (qJZ (.nz c) zKY)
  | some a=>exact h2.2 w F _ hF (qJZ (.ne a c) zKY)
 | l _ b off n c sz g hn => 
  subst hn;exact h2.2 w F _ hF (qJZ (.ne _ c) zKY)
end Go.Rx
namespace Go.Proofs.YtgmbkkkbfbocnaaGreat.He
open Go.Rx Rt Go.Sx Go.RowKit Od Na Nb Nc Nx Nf Nl Nm Ga Gb Gc Gd Ge Gf Gg Ha Hb Hc Hd
def hasQ (q:Nat→Int) (k:Nat) (x:Int):Bool:=!allN (fun i:Nat => !decide (q i=x)) k 0
def ixQ (q:Nat→Int) (k:Nat) (x:Int):Int:=bif hasQ q k x then ((Rx.firstK (fun i:Nat => !decide (q i=x)) k 0:Nat):Int) else -1
theorem deq (a b:Int):decide (a=b)=decide (b=a):=by by_cases h:a=b <;> simp [h] <;> omega
theorem firstK_lt {g:Nat→Bool}:∀ {k p:Nat},allN g k p=false→p≤Rx.firstK g k p∧Rx.firstK g k p < p + k∧g (Rx.firstK g k p)=false
 | 0,_,h=>by cases h
 | k + 1,p,h=>by
  unfold allN at h;unfold Rx.firstK;cases hp:g p with
  | true =>
   rw [hp,vZH] at h;obtain ⟨a,b,c⟩:=firstK_lt (k:=k) (p:=p + 1) h;rw [vYV];exact ⟨by omega,by omega,c⟩
  | false=>rw [vYG]; exact ⟨Nat.le_refl _,by omega,hp⟩
theorem zJQ {q:Nat→Int} {k:Nat} {x:Int} (h:hasQ q k x=true):∃ i,i < k∧ixQ q k x=(i:Int)∧q i=x:=by
 have h':allN (fun i:Nat => !decide (q i=x)) k 0=false:=by unfold hasQ at h; simpa using h
 obtain ⟨_,h2,h3⟩:=firstK_lt h';exact ⟨Rx.firstK (fun i:Nat => !decide (q i=x)) k 0,by omega,by unfold ixQ; rw [h]; rfl,by simpa using h3⟩
theorem jUV {q:Nat→Int} {k:Nat} {x:Int}:decide (ixQ q k x < 0) = !hasQ q k x:=by
 cases h:hasQ q k x with
 | true=>obtain ⟨i,_,h2,_⟩:=zJQ h; rw [h2,vYH (by omega)]; rfl
 | false=>unfold ixQ; rw [h]; rfl
theorem jUW {q:Nat→Int} {k:Nat} {x:Int}:decide (0≤ixQ q k x)=hasQ q k x:=by
 cases h:hasQ q k x with
 | true=>obtain ⟨i,_,h2,_⟩:=zJQ h; rw [h2,vJQ (by omega)]
 | false=>unfold ixQ; rw [h]; rfl
noncomputable def orIq (k:Nat) (q:Nat→Int) (x:Int):OrS:=orS [] []
noncomputable def hIq (k:Nat) (q:Nat→Int) (x:Int) (i:Int):St:=⟨[(0,.v (.lf k (fQ q))),(1,.v (.n .i64 x)),(7,.v (.n .i64 (k:Int))),(8,.v (.n .i64 i))],[]⟩
set_option maxRecDepth 100000 in
theorem rdIq (G:St→Option (Ret × Mem)) (K:Cont) (k:Nat) (q:Nat→Int) (x:Int) (i:Int):kZ 60 (cxS Tf (orIq k q x) 60 142 (ntmF Tf 142)) (evX Tf (orIq k q x) 60 142 (ntmF Tf 142)) (qZ []) (qQ Tf 142 [0,1,0,1]) [0,1,0,1] (Tf.hint 142 (qJ (qQ Tf 142 [0,1,0,1]))) K G (hIq k q x i) =
 (bif (decide (i < (k:Int))) then (bif (inB i k) then (bif (decide (x=(q (i).toNat))) then (K .ret ⟨[(4,.v (.n .i64 i))],[]⟩)
 else (G (hIq k q x (vJJ .i64 (i + 1)))))
 else none)
 else (K (.exit 0) ⟨[],[]⟩)):=by kernel_rfl
theorem lpIq (K:Cont) (k:Nat) (q:Nat→Int) (x:Int) (_:k≤50):LFX 60 (cxS Tf (orIq k q x) 60 142 (ntmF Tf 142)) (evX Tf (orIq k q x) 60 142 (ntmF Tf 142)) (qZ []) (qQ Tf 142 [0,1,0,1]) [0,1,0,1] (Tf.hint 142 (qJ (qQ Tf 142 [0,1,0,1]))) K 60 (hIq k q x 0)=bif (allN (fun i:Nat => !decide (q i=x)) k 0) then (K (.exit 0) ⟨[],[]⟩) else (K .ret ⟨[(4,.v (.n .i64 ((Rx.firstK (fun i:Nat => !decide (q i=x)) k 0:Nat):Int)))],[]⟩):=by
 refine (uK (L:=LFX 60 (cxS Tf (orIq k q x) 60 142 (ntmF Tf 142)) (evX Tf (orIq k q x) 60 142 (ntmF Tf 142)) (qZ []) (qQ Tf 142 [0,1,0,1]) [0,1,0,1] (Tf.hint 142 (qJ (qQ Tf 142 [0,1,0,1]))) K) (stp:=kZ 60 (cxS Tf (orIq k q x) 60 142 (ntmF Tf 142)) (evX Tf (orIq k q x) 60 142 (ntmF Tf 142)) (qZ []) (qQ Tf 142 [0,1,0,1]) [0,1,0,1] (Tf.hint 142 (qJ (qQ Tf 142 [0,1,0,1]))) K) (fun _ _=>rfl) (fun (i:Nat) (_:Unit)=>hIq k q x (i:Int)) (fun _ _=>True) (fun (i:Nat) _ => !decide (q i=x)) (fun _ _=>()) (c:=k) (fun _=>(K (.exit 0) ⟨[],[]⟩)) (fun i _=>(K .ret ⟨[(4,.v (.n .i64 (i:Int)))],[]⟩)) (fun G i f hi _ => ?_) (fun _ _ _ _ _=>trivial) (fun G f _ => ?_) k 0 60 () (by omega) (by omega) trivial).trans ((jQ _ _ _ _ _).trans (uG _ _ _ _ _))
 ·refine (rdIq G K k q x i).trans ?_;rw [vJQ (show (i:Int) < (k:Int) by omega),kW (by omega),yX (show i < k by omega),toN,deq x (q i)];cases decide (q i=x) <;> rfl
 ·refine (rdIq G K k q x k).trans ?_;rw [vYH (show ¬ (k:Int) < (k:Int) by omega)];rfl
noncomputable def kXZ (k:Nat) (q:Nat→Int) (x:Int):List (List Nat × jK):=[([0,1,0,1],sumF (fun _:Unit=>(hIq k q x 0)) (fun _=>()) (fun _ K=>(bif (decide (k≤50)) then (bif (allN (fun i:Nat => !decide (q i=x)) k 0) then (K (.exit 0) ⟨[],[]⟩) else (K .ret ⟨[(4,.v (.n .i64 ((Rx.firstK (fun i:Nat => !decide (q i=x)) k 0:Nat):Int)))],[]⟩)) else none)))]
set_option maxRecDepth 100000 in
theorem pxixi (k:Nat) (q:Nat→Int) (x:Int):qQU Tf (orIq k q x) (qZ (kXZ k q x)) 60 142 [.lf k (fQ q),.n .i64 x] =
 (bif (gSt (hIq k q x 0) (hIq k q x 0)) then (bif (decide (k≤50)) then (bif (allN (fun i:Nat => !decide (q i=x)) k 0) then some (.v (.n .i64 (-1)),[])
 else some (.v (.n .i64 ((Rx.firstK (fun i:Nat => !decide (q i=x)) k 0:Nat):Int)),[]))
 else none)
 else none):=by kernel_rfl
theorem snd_ixi (k:Nat) (q:Nat→Int) (x:Int) (hk:k≤50):yK Tryz.prog 142 [.lf k (fQ q),.n .i64 x] (.v (.n .i64 (ixQ q k x))):=by
 refine zW (N:=60) (LO:=qZ (kXZ k q x)) jH zG (kY (l:=[]) (m:=[]) trivial trivial) (fun p S hp => ?_) ?_
 ·refine zU (L:=qQ Tf 142) (l:=(kXZ k q x)) (show AllP _ (kXZ k q x) from ⟨?_,trivial⟩) p S hp
  ·dsimp only;refine kQ (T:=Tf) (o:=(orIq k q x)) (f:=142) (LO:=qZ []) (p:=[0,1,0,1]) kJ ?_;intro t K r hr;obtain ⟨hg,hr⟩:=qY hr;have hk:=vJZ hg;exact (lpIq K k q x hk).trans hr
 ·refine (pxixi k q x).trans ?_;unfold ixQ hasQ;rw [yU,vJQ hk];cases allN (fun i:Nat => !decide (q i=x)) k 0 <;> rfl
noncomputable def orOq (k:Nat) (q:Nat→Int) (x:Int):OrS:=orS [] []
noncomputable def hOq (k:Nat) (q:Nat→Int) (x:Int) (i:Int):St:=⟨[(1,.v (.n .i64 x)),(2,.p 2 0),(5,.v (.n .i64 i))],[(2,.blk [.v (.lf k (fQ q))])]⟩
set_option maxRecDepth 100000 in
theorem rdOq (G:St→Option (Ret × Mem)) (K:Cont) (k:Nat) (q:Nat→Int) (x:Int) (i:Int):kZ 60 (cxS Tf (orOq k q x) 60 124 (ntmF Tf 124)) (evX Tf (orOq k q x) 60 124 (ntmF Tf 124)) (qZ []) (qQ Tf 124 [0,1,0,1]) [0,1,0,1] (Tf.hint 124 (qJ (qQ Tf 124 [0,1,0,1]))) K G (hOq k q x i) =
 (bif (decide (i < (k:Int))) then (bif (inB i k) then (bif (decide ((q (i).toNat)=x)) then (K .ret ⟨[(4,.v (.n .i64 i))],[]⟩)
 else (G (hOq k q x (vJJ .i64 (i + 1)))))
 else none)
 else (K (.exit 0) ⟨[],[]⟩)):=by kernel_rfl
theorem lpOq (K:Cont) (k:Nat) (q:Nat→Int) (x:Int) (_:k≤50):LFX 60 (cxS Tf (orOq k q x) 60 124 (ntmF Tf 124)) (evX Tf (orOq k q x) 60 124 (ntmF Tf 124)) (qZ []) (qQ Tf 124 [0,1,0,1]) [0,1,0,1] (Tf.hint 124 (qJ (qQ Tf 124 [0,1,0,1]))) K 60 (hOq k q x 0)=bif (allN (fun i:Nat => !decide (q i=x)) k 0) then (K (.exit 0) ⟨[],[]⟩) else (K .ret ⟨[(4,.v (.n .i64 ((Rx.firstK (fun i:Nat => !decide (q i=x)) k 0:Nat):Int)))],[]⟩):=by
 refine (uK (L:=LFX 60 (cxS Tf (orOq k q x) 60 124 (ntmF Tf 124)) (evX Tf (orOq k q x) 60 124 (ntmF Tf 124)) (qZ []) (qQ Tf 124 [0,1,0,1]) [0,1,0,1] (Tf.hint 124 (qJ (qQ Tf 124 [0,1,0,1]))) K) (stp:=kZ 60 (cxS Tf (orOq k q x) 60 124 (ntmF Tf 124)) (evX Tf (orOq k q x) 60 124 (ntmF Tf 124)) (qZ []) (qQ Tf 124 [0,1,0,1]) [0,1,0,1] (Tf.hint 124 (qJ (qQ Tf 124 [0,1,0,1]))) K) (fun _ _=>rfl) (fun (i:Nat) (_:Unit)=>hOq k q x (i:Int)) (fun _ _=>True) (fun (i:Nat) _ => !decide (q i=x)) (fun _ _=>()) (c:=k) (fun _=>(K (.exit 0) ⟨[],[]⟩)) (fun i _=>(K .ret ⟨[(4,.v (.n .i64 (i:Int)))],[]⟩)) (fun G i f hi _ => ?_) (fun _ _ _ _ _=>trivial) (fun G f _ => ?_) k 0 60 () (by omega) (by omega) trivial).trans ((jQ _ _ _ _ _).trans (uG _ _ _ _ _))
 ·refine (rdOq G K k q x i).trans ?_;rw [vJQ (show (i:Int) < (k:Int) by omega),kW (by omega),yX (show i < k by omega),toN];cases decide (q i=x) <;> rfl
 ·refine (rdOq G K k q x k).trans ?_;rw [vYH (show ¬ (k:Int) < (k:Int) by omega)];rfl
noncomputable def kUK (k:Nat) (q:Nat→Int) (x:Int):List (List Nat × jK):=[([0,1,0,1],sumF (fun _:Unit=>(hOq k q x 0)) (fun _=>()) (fun _ K=>(bif (decide (k≤50)) then (bif (allN (fun i:Nat => !decide (q i=x)) k 0) then (K (.exit 0) ⟨[],[]⟩) else (K .ret ⟨[(4,.v (.n .i64 ((Rx.firstK (fun i:Nat => !decide (q i=x)) k 0:Nat):Int)))],[]⟩)) else none)))]
set_option maxRecDepth 100000 in
theorem pxoat (k:Nat) (q:Nat→Int) (x:Int):qQU Tf (orOq k q x) (qZ (kUK k q x)) 60 124 [.a [.lf k (fQ q)],.n .i64 x] =
 (bif (gSt (hOq k q x 0) (hOq k q x 0)) then (bif (decide (k≤50)) then (bif (allN (fun i:Nat => !decide (q i=x)) k 0) then some (.v (.n .i64 (-1)),[])
 else some (.v (.n .i64 ((Rx.firstK (fun i:Nat => !decide (q i=x)) k 0:Nat):Int)),[]))
 else none)
 else none):=by kernel_rfl
theorem snd_oat (k:Nat) (q:Nat→Int) (x:Int) (hk:k≤50):yK Tryz.prog 124 [.a [.lf k (fQ q)],.n .i64 x] (.v (.n .i64 (ixQ q k x))):=by
 refine zW (N:=60) (LO:=qZ (kUK k q x)) jH zG (kY (l:=[]) (m:=[]) trivial trivial) (fun p S hp => ?_) ?_
 ·refine zU (L:=qQ Tf 124) (l:=(kUK k q x)) (show AllP _ (kUK k q x) from ⟨?_,trivial⟩) p S hp
  ·dsimp only;refine kQ (T:=Tf) (o:=(orOq k q x)) (f:=124) (LO:=qZ []) (p:=[0,1,0,1]) kJ ?_;intro t K r hr;obtain ⟨hg,hr⟩:=qY hr;have hk:=vJZ hg;exact (lpOq K k q x hk).trans hr
 ·refine (pxoat k q x).trans ?_;unfold ixQ hasQ;rw [yU,vJQ hk];cases allN (fun i:Nat => !decide (q i=x)) k 0 <;> rfl
def ciq:Nat × (Nat→Int) × Int→Prop:=fun t=>match t with | (k,_,_)=>k≤50
def eiq:Nat × (Nat→Int) × Int→List PV:=fun t=>match t with | (k,q,x)=>[.lf k (fQ q),.n .i64 x]
noncomputable def riq:Nat × (Nat→Int) × Int→Ret:=fun t=>match t with | (k,q,x)=>.v (.n .i64 (ixQ q k x))
def diq:List PV→Nat × (Nat→Int) × Int:=fun ps=>match ps with
 | [.lf k f,.n _ x]=>(k,unFQ f,x)
 | _=>(0,fun _=>0,0)
noncomputable def o_iq:List PV→Option (Bool × Ret):=o_fm diq ciq eiq riq
theorem ok_iq:zJ Tryz.prog 142 o_iq:=qQV fun t h=>by
 obtain ⟨k,q,x⟩:=t;exact snd_ixi k q x h
def coa:Nat × (Nat→Int) × Int→Prop:=fun t=>match t with | (k,_,_)=>k≤50
def eoa:Nat × (Nat→Int) × Int→List PV:=fun t=>match t with | (k,q,x)=>[.a [.lf k (fQ q)],.n .i64 x]
noncomputable def roa:Nat × (Nat→Int) × Int→Ret:=fun t=>match t with | (k,q,x)=>.v (.n .i64 (ixQ q k x))
def doa:List PV→Nat × (Nat→Int) × Int:=fun ps=>match ps with
 | [.a [.lf k f],.n _ x]=>(k,unFQ f,x)
 | _=>(0,fun _=>0,0)
noncomputable def o_oa:List PV→Option (Bool × Ret):=o_fm doa coa eoa roa
theorem ok_oa:zJ Tryz.prog 124 o_oa:=qQV fun t h=>by
 obtain ⟨k,q,x⟩:=t;exact snd_oat k q x h
noncomputable def orcti (k:Nat) (q:Nat→Int) (x:Int):OrS:=orS [(142,o_iq)] []
noncomputable def kXV (k:Nat) (q:Nat→Int) (x:Int):List (List Nat × jK):=[]
set_option maxRecDepth 100000 in
theorem pxcti (k:Nat) (q:Nat→Int) (x:Int):qQU Tf (orcti k q x) (qZ (kXV k q x)) 60 112 [.lf k (fQ q),.n .i64 x] =
 (bif (gF1 ciq eiq (k,q,x)) then (bif (decide (0≤(ixQ q k x))) then some (.v (.b true),[])
 else some (.v (.b false),[]))
 else none):=by kernel_rfl
theorem snd_cti (k:Nat) (q:Nat→Int) (x:Int) (hk:k≤50):yK Tryz.prog 112 [.lf k (fQ q),.n .i64 x] (.v (.b (hasQ q k x))):=by
 refine zW (N:=60) (LO:=qZ (kXV k q x)) jH zG (kY (l:=[(142,o_iq)]) (m:=[]) ⟨ok_iq,trivial⟩ trivial) (fun p S hp => ?_) ?_
 ·refine zU (L:=qQ Tf 112) (l:=(kXV k q x)) (show AllP _ (kXV k q x) from trivial) p S hp
 ·refine (pxcti k q x).trans ?_;rw [jU (C:=ciq) (t:=(k,q,x)) hk,jUW];cases hasQ q k x <;> rfl
def cct:Nat × (Nat→Int) × Int→Prop:=fun t=>match t with | (k,_,_)=>k≤50
def ect:Nat × (Nat→Int) × Int→List PV:=fun t=>match t with | (k,q,x)=>[.lf k (fQ q),.n .i64 x]
noncomputable def rct:Nat × (Nat→Int) × Int→Ret:=fun t=>match t with | (k,q,x)=>.v (.b (hasQ q k x))
def dct:List PV→Nat × (Nat→Int) × Int:=fun ps=>match ps with
 | [.lf k f,.n _ x]=>(k,unFQ f,x)
 | _=>(0,fun _=>0,0)
noncomputable def o_ct:List PV→Option (Bool × Ret):=o_fm dct cct ect rct
theorem ok_ct:zJ Tryz.prog 112 o_ct:=qQV fun t h=>by
 obtain ⟨k,q,x⟩:=t;exact snd_cti k q x h
noncomputable def orSm (k:Nat) (q:Nat→Int):OrS:=orS [] []
noncomputable def hSm (k:Nat) (q:Nat→Int) (i:Int):St:=⟨[(0,.v (.lf k (fQ q))),(1,.v (.lf k (fQ q))),(5,.v (.n .i64 i))],[]⟩
set_option maxRecDepth 100000 in
theorem rdSm (G:St→Option (Ret × Mem)) (K:Cont) (k:Nat) (q:Nat→Int) (i:Int):kZ 60 (cxS Tf (orSm k q) 60 47 (ntmF Tf 47)) (evX Tf (orSm k q) 60 47 (ntmF Tf 47)) (qZ []) (qQ Tf 47 [0,1,0,1,1]) [0,1,0,1,1] (Tf.hint 47 (qJ (qQ Tf 47 [0,1,0,1,1]))) K G (hSm k q i) =
 (bif (decide (i < (k:Int))) then (bif (inB i k) then (bif (inB i k) then (bif (!decide ((q (i).toNat)=(q (i).toNat))) then (K .ret ⟨[(4,.v (.b false))],[]⟩)
 else (G (hSm k q (vJJ .i64 (i + 1)))))
 else none)
 else none)
 else (K (.exit 0) ⟨[],[]⟩)):=by kernel_rfl
theorem lpSm (K:Cont) (k:Nat) (q:Nat→Int) (_:k≤50):LFX 60 (cxS Tf (orSm k q) 60 47 (ntmF Tf 47)) (evX Tf (orSm k q) 60 47 (ntmF Tf 47)) (qZ []) (qQ Tf 47 [0,1,0,1,1]) [0,1,0,1,1] (Tf.hint 47 (qJ (qQ Tf 47 [0,1,0,1,1]))) K 60 (hSm k q 0)=bif (allN (fun i:Nat=>true) k 0) then (K (.exit 0) ⟨[],[]⟩) else (K .ret ⟨[(4,.v (.b false))],[]⟩):=by
 refine (uK (L:=LFX 60 (cxS Tf (orSm k q) 60 47 (ntmF Tf 47)) (evX Tf (orSm k q) 60 47 (ntmF Tf 47)) (qZ []) (qQ Tf 47 [0,1,0,1,1]) [0,1,0,1,1] (Tf.hint 47 (qJ (qQ Tf 47 [0,1,0,1,1]))) K) (stp:=kZ 60 (cxS Tf (orSm k q) 60 47 (ntmF Tf 47)) (evX Tf (orSm k q) 60 47 (ntmF Tf 47)) (qZ []) (qQ Tf 47 [0,1,0,1,1]) [0,1,0,1,1] (Tf.hint 47 (qJ (qQ Tf 47 [0,1,0,1,1]))) K) (fun _ _=>rfl) (fun (i:Nat) (_:Unit)=>hSm k q (i:Int)) (fun _ _=>True) (fun (i:Nat) _=>true) (fun _ _=>()) (c:=k) (fun _=>(K (.exit 0) ⟨[],[]⟩)) (fun i _=>(K .ret ⟨[(4,.v (.b false))],[]⟩)) (fun G i f hi _ => ?_) (fun _ _ _ _ _=>trivial) (fun G f _ => ?_) k 0 60 () (by omega) (by omega) trivial).trans ((jQ _ _ _ _ _).trans (yH _ _ _ _ _))
 ·refine (rdSm G K k q i).trans ?_;rw [vJQ (show (i:Int) < (k:Int) by omega),kW (by omega),yX (show i < k by omega),toN];simp only [eq_self,decide_true,Bool.not_true,vYG,vYV]
  all_goals rfl
 ·refine (rdSm G K k q k).trans ?_;rw [vYH (show ¬ (k:Int) < (k:Int) by omega)];rfl
noncomputable def kKK (k:Nat) (q:Nat→Int):List (List Nat × jK):=[([0,1,0,1,1],sumF (fun _:Unit=>(hSm k q 0)) (fun _=>()) (fun _ K=>(bif (decide (k≤50)) then (bif (allN (fun i:Nat=>true) k 0) then (K (.exit 0) ⟨[],[]⟩) else (K .ret ⟨[(4,.v (.b false))],[]⟩)) else none)))]
set_option maxRecDepth 100000 in
theorem pxsmi (k:Nat) (q:Nat→Int):qQU Tf (orSm k q) (qZ (kKK k q)) 60 47 [.lf k (fQ q),.lf k (fQ q)] =
 (bif (!decide ((k:Int)=(k:Int))) then some (.v (.b false),[])
 else (bif (gSt (hSm k q 0) (hSm k q 0)) then (bif (decide (k≤50)) then (bif (allN (fun i:Nat=>true) k 0) then some (.v (.b true),[])
 else some (.v (.b false),[]))
 else none)
 else none)):=by kernel_rfl
theorem snd_smi (k:Nat) (q:Nat→Int) (hk:k≤50):yK Tryz.prog 47 [.lf k (fQ q),.lf k (fQ q)] (.v (.b true)):=by
 refine zW (N:=60) (LO:=qZ (kKK k q)) jH zG (kY (l:=[]) (m:=[]) trivial trivial) (fun p S hp => ?_) ?_
 ·refine zU (L:=qQ Tf 47) (l:=(kKK k q)) (show AllP _ (kKK k q) from ⟨?_,trivial⟩) p S hp
  ·dsimp only;refine kQ (T:=Tf) (o:=(orSm k q)) (f:=47) (LO:=qZ []) (p:=[0,1,0,1,1]) kJ ?_;intro t K r hr;obtain ⟨hg,hr⟩:=qY hr;have hk:=vJZ hg;exact (lpSm K k q hk).trans hr
 ·refine (pxsmi k q).trans ?_;rw [vJQ (show (k:Int)=(k:Int) from rfl),yU,vJQ hk,allN_t];rfl
def csm:Nat × (Nat→Int)→Prop:=fun t=>match t with | (k,_)=>k≤50
def esm:Nat × (Nat→Int)→List PV:=fun t=>match t with | (k,q)=>[.lf k (fQ q),.lf k (fQ q)]
noncomputable def rsm:Nat × (Nat→Int)→Ret:=fun t=>match t with | (_,_)=>.v (.b true)
def dsm:List PV→Nat × (Nat→Int):=fun ps=>match ps with
 | [.lf k f,_]=>(k,unFQ f)
 | _=>(0,fun _=>0)
noncomputable def o_sm:List PV→Option (Bool × Ret):=o_fm dsm csm esm rsm
theorem ok_sm:zJ Tryz.prog 47 o_sm:=qQV fun t h=>by
 obtain ⟨k,q⟩:=t;exact snd_smi k q h
noncomputable def orcl1i (n:Nat) (q:Nat→Int):OrS:=orS [] []
noncomputable def jVJ (n:Nat) (q:Nat→Int):List (List Nat × jK):=[]
set_option maxRecDepth 100000 in
theorem pxcl1i (n:Nat) (q:Nat→Int):qQU Tf (orcl1i n q) (qZ (jVJ n q)) 60 143 [.lf (n + 1) (fQ q)] =
 (bif (decide (0 + (n + 1)≤1000000)) then some (.ow 3 1 (.fo (n + 1) (fQ q)),[])
 else none):=by kernel_rfl
theorem snd_cl1i (n:Nat) (q:Nat→Int) (_:n + 1≤50):yK Tryz.prog 143 [.lf (n + 1) (fQ q)] (.ow 3 1 (.fo (n + 1) (fQ q))):=by
 refine zW (N:=60) (LO:=qZ (jVJ n q)) jH zG (kY (l:=[]) (m:=[]) trivial trivial) (fun p S hp => ?_) ?_
 ·refine zU (L:=qQ Tf 143) (l:=(jVJ n q)) (show AllP _ (jVJ n q) from trivial) p S hp
 ·refine (pxcl1i n q).trans ?_;simp only [vJQ (show n + 1≤1000000 by omega),vJQ (show n + 1≤8796093022208 by omega),vJQ (show 0 + (n + 1)≤1000000 by omega),vYV]
  all_goals rfl
theorem snd_cloi (n:Nat) (q:Nat→Int) (hn:1≤n∧n≤50):yK Tryz.prog 143 [.lf n (fQ q)] (.ow 3 1 (.fo n (fQ q))):=by
 obtain ⟨h1,h2⟩:=hn;obtain ⟨m,rfl⟩:∃ m,n=m + 1:=⟨n - 1,by omega⟩
 exact snd_cl1i m q h2
def ccoi:Nat × (Nat→Int)→Prop:=fun t=>match t with | (n,_)=>1≤n∧n≤50
def ecoi:Nat × (Nat→Int)→List PV:=fun t=>match t with | (n,q)=>[.lf n (fQ q)]
noncomputable def rcoi:Nat × (Nat→Int)→Ret:=fun t=>match t with | (n,q)=>.ow 3 1 (.fo n (fQ q))
def dcoi:List PV→Nat × (Nat→Int):=fun ps=>match ps with
 | [.lf n f]=>(n,unFQ f)
 | _=>(0,fun _=>0)
noncomputable def kGK:List PV→Option (Bool × Ret):=o_fm dcoi ccoi ecoi rcoi
theorem ok_coi:zJ Tryz.prog 143 kGK:=qQV fun t h=>by
 obtain ⟨n,q⟩:=t;exact snd_cloi n q h
def inM (ws:Wsp) (x:Int):Bool:=!decide (x < vJJ .i64 (0 - (ws.nh:Int))) && !decide ((ws.np:Int)≤x)
def mdG (ws:Wsp) (q:Nat→Int) (i:Nat):Bool:=inM ws (q i) && !hasQ q i (q i)
def vlB (ws:Wsp) (k:Nat) (q:Nat→Int):Bool:=decide (wErr ws=0) && (decide ((k:Int)=(ws.no:Int)) && allN (fun i:Nat=>mdG ws q i) k 0)
noncomputable def orVa (_:Wsp) (k:Nat) (q:Nat→Int):OrS:=orS [(16,o_gk),(112,o_ct)] []
noncomputable def hVa (ws:Wsp) (k:Nat) (q:Nat→Int) (i:Int):St:=⟨[(2,.p 2 0),(3,.p 3 0),(20,.v (.lf k (fQ q))),(21,.v (.n .i64 (k:Int))),(22,.v (.n .i64 i))],[(2,.blk [.v (.lf ws.n (fJ ws.js)),.v (.lf ws.m (fM ws.ms)),.v (.lf ws.c (fS ws.sh)),.v (.lf ws.d (fK ws.sk)),.v (.lf ws.no (fO ws.ob)),.v (.lf ws.np (fZ ws.pl)),.v (.lf ws.nh (fH ws.hd)),.v (.lf ws.ng (fG ws.gr)),.v (.n .i64 ws.slack)]),(3,.blk [.v (.lf k (fQ q))])]⟩
set_option maxRecDepth 100000 in
theorem rdVa (G:St→Option (Ret × Mem)) (K:Cont) (ws:Wsp) (k:Nat) (q:Nat→Int) (i:Int):kZ 60 (cxS Tf (orVa ws k q) 60 62 (ntmF Tf 62)) (evX Tf (orVa ws k q) 60 62 (ntmF Tf 62)) (qZ []) (qQ Tf 62 [0,1,0,1,1]) [0,1,0,1,1] (Tf.hint 62 (qJ (qQ Tf 62 [0,1,0,1,1]))) K G (hVa ws k q i) =
 (bif (decide (i < (k:Int))) then (bif (inB i k) then (bif (decide ((q (i).toNat) < (vJJ .i64 (0 - (ws.nh:Int))))) then (K .ret ⟨[(4,.v (.b false))],[]⟩)
 else (bif (decide ((ws.np:Int)≤(q (i).toNat))) then (K .ret ⟨[(4,.v (.b false))],[]⟩)
 else (bif (inS none (some i) k) then (bif (gF1 cct ect (((i).toNat - 0),(fun v=>(q (v + 0))),(q (i).toNat))) then (bif (hasQ (fun v=>(q (v + 0))) ((i).toNat - 0) (q (i).toNat)) then (K .ret ⟨[(4,.v (.b false))],[]⟩)
 else (G (hVa ws k q (vJJ .i64 (i + 1)))))
 else none)
 else none)))
 else none)
 else (K (.exit 0) ⟨[],[]⟩)):=by kernel_rfl
theorem lpVa (K:Cont) (ws:Wsp) (k:Nat) (q:Nat→Int) (_:k≤50):LFX 60 (cxS Tf (orVa ws k q) 60 62 (ntmF Tf 62)) (evX Tf (orVa ws k q) 60 62 (ntmF Tf 62)) (qZ []) (qQ Tf 62 [0,1,0,1,1]) [0,1,0,1,1] (Tf.hint 62 (qJ (qQ Tf 62 [0,1,0,1,1]))) K 60 (hVa ws k q 0)=bif (allN (fun i:Nat=>mdG ws q i) k 0) then (K (.exit 0) ⟨[],[]⟩) else (K .ret ⟨[(4,.v (.b false))],[]⟩):=by
 refine (uK (L:=LFX 60 (cxS Tf (orVa ws k q) 60 62 (ntmF Tf 62)) (evX Tf (orVa ws k q) 60 62 (ntmF Tf 62)) (qZ []) (qQ Tf 62 [0,1,0,1,1]) [0,1,0,1,1] (Tf.hint 62 (qJ (qQ Tf 62 [0,1,0,1,1]))) K) (stp:=kZ 60 (cxS Tf (orVa ws k q) 60 62 (ntmF Tf 62)) (evX Tf (orVa ws k q) 60 62 (ntmF Tf 62)) (qZ []) (qQ Tf 62 [0,1,0,1,1]) [0,1,0,1,1] (Tf.hint 62 (qJ (qQ Tf 62 [0,1,0,1,1]))) K) (fun _ _=>rfl) (fun (i:Nat) (_:Unit)=>hVa ws k q (i:Int)) (fun _ _=>True) (fun (i:Nat) _=>mdG ws q i) (fun _ _=>()) (c:=k) (fun _=>(K (.exit 0) ⟨[],[]⟩)) (fun i _=>(K .ret ⟨[(4,.v (.b false))],[]⟩)) (fun G i f hi _ => ?_) (fun _ _ _ _ _=>trivial) (fun G f _ => ?_) k 0 60 () (by omega) (by omega) trivial).trans ((jQ _ _ _ _ _).trans (yH _ _ _ _ _))
 ·refine (rdVa G K ws k q i).trans ?_;rw [vJQ (show (i:Int) < (k:Int) by omega),kW (by omega),yX (show i < k by omega),toN,inS_nat (show i < k by omega),jU (C:=cct) (t:=(i - 0,(fun v=>q (v + 0)),q i)) (show i - 0≤50 by omega)];unfold mdG inM;show _=bif (!decide (q i < vJJ .i64 (0 - (ws.nh:Int))) && !decide ((ws.np:Int)≤q i)) && !hasQ (fun v=>q (v + 0)) (i - 0) (q i) then _ else _
  cases decide (q i < vJJ .i64 (0 - (ws.nh:Int))) <;> cases decide ((ws.np:Int)≤q i) <;> cases hasQ (fun v=>q (v + 0)) (i - 0) (q i) <;> rfl
 ·refine (rdVa G K ws k q k).trans ?_;rw [vYH (show ¬ (k:Int) < (k:Int) by omega)];rfl
theorem wE_spec {ws:Wsp} (h:wErr ws=0):sEW ws=0∧fiB ws=true∧obA ws=true∧cntF ws ws.no≤24:=by
 unfold wErr at h;by_cases h1:sEW ws=0
 ·rw [vJQ h1,vYV] at h;cases h2:fiB ws with
  | false=>rw [h2] at h; exact absurd (show (3401:Int)=0 from h) (by decide)
  | true =>
   rw [h2,vYV] at h;cases h3:obA ws with
   | false=>rw [h3] at h; exact absurd (show (3402:Int)=0 from h) (by decide)
   | true =>
    rw [h3,vYV] at h;by_cases h4:24 < cntF ws ws.no
    ·rw [vJQ h4] at h; exact absurd (show (3401:Int)=0 from h) (by decide)
    ·exact ⟨h1,rfl,rfl,by omega⟩
 ·rw [vYH h1,vYG] at h; exact absurd h h1
theorem kVZ {ws:Wsp} (h:wErr ws=0):ws.no≤6:=(fi_no (wE_spec h).2.1).1
noncomputable def kKQ (ws:Wsp) (k:Nat) (q:Nat→Int):List (List Nat × jK):=[([0,1,0,1,1],sumF (fun _:Unit=>(hVa ws k q 0)) (fun _=>()) (fun _ K=>(bif (decide (k≤50)) then (bif (allN (fun i:Nat=>mdG ws q i) k 0) then (K (.exit 0) ⟨[],[]⟩) else (K .ret ⟨[(4,.v (.b false))],[]⟩)) else none)))]
set_option maxRecDepth 100000 in
theorem pxvld (ws:Wsp) (k:Nat) (q:Nat→Int):qQU Tf (orVa ws k q) (qZ (kKQ ws k q)) 60 62 [.a (wP ws),.a [.lf k (fQ q)]] =
 (bif (gF1 cgk egk ws) then (bif (!decide ((wErr ws)=0)) then some (.v (.b false),[])
 else (bif (!decide ((k:Int)=(ws.no:Int))) then some (.v (.b false),[])
 else (bif (gSt (hVa ws k q 0) (hVa ws k q 0)) then (bif (decide (k≤50)) then (bif (allN (fun i:Nat=>mdG ws q i) k 0) then some (.v (.b true),[])
 else some (.v (.b false),[]))
 else none)
 else none)))
 else none):=by kernel_rfl
theorem snd_vld (ws:Wsp) (k:Nat) (q:Nat→Int) (ho:okW ws):yK Tryz.prog 62 [.a (wP ws),.a [.lf k (fQ q)]] (.v (.b (vlB ws k q))):=by
 refine zW (N:=60) (LO:=qZ (kKQ ws k q)) jH zG (kY (l:=[(16,o_gk),(112,o_ct)]) (m:=[]) ⟨ok_gk,ok_ct,trivial⟩ trivial) (fun p S hp => ?_) ?_
 ·refine zU (L:=qQ Tf 62) (l:=(kKQ ws k q)) (show AllP _ (kKQ ws k q) from ⟨?_,trivial⟩) p S hp
  ·dsimp only;refine kQ (T:=Tf) (o:=(orVa ws k q)) (f:=62) (LO:=qZ []) (p:=[0,1,0,1,1]) kJ ?_;intro t K r hr;obtain ⟨hg,hr⟩:=qY hr;have hk:=vJZ hg;exact (lpVa K ws k q hk).trans hr
 ·refine (pxvld ws k q).trans ?_;unfold vlB;rw [jU (C:=cgk) (t:=ws) ho];by_cases h:wErr ws=0
  ·rw [vJQ h];by_cases hk:(k:Int)=(ws.no:Int)
   ·have h6:=kVZ h;rw [vJQ hk,yU,vJQ (show k≤50 by omega)];cases allN (fun i:Nat=>mdG ws q i) k 0 <;> rfl
   ·rw [vYH hk]; rfl
  ·rw [vYH h]; rfl
noncomputable def orRv (_:Wsp) (k:Nat) (q:Nat→Int):OrS:=orS [(17,o_rw)] []
noncomputable def hRx (ws:Wsp) (k:Nat) (q:Nat→Int) (i:Int) (j:Int):St:=⟨[(2,.p 2 0),(3,.p 3 0),(5,.v (.n .i64 i)),(6,.v (.n .i64 j))],[(2,.blk [.v (.lf ws.n (fJ ws.js)),.v (.lf ws.m (fM ws.ms)),.v (.lf ws.c (fS ws.sh)),.v (.lf ws.d (fK ws.sk)),.v (.lf ws.no (fO ws.ob)),.v (.lf ws.np (fZ ws.pl)),.v (.lf ws.nh (fH ws.hd)),.v (.lf ws.ng (fG ws.gr)),.v (.n .i64 ws.slack)]),(3,.blk [.v (.lf k (fQ q))])]⟩
set_option maxRecDepth 100000 in
theorem rdRx (G:St→Option (Ret × Mem)) (K:Cont) (ws:Wsp) (k:Nat) (q:Nat→Int) (i:Int) (j:Int):kZ 60 (cxS Tf (orRv ws k q) 60 63 (ntmF Tf 63)) (evX Tf (orRv ws k q) 60 63 (ntmF Tf 63)) (qZ []) (qQ Tf 63 [0,1,1,0,0,1,0,0,1,0,1,1]) [0,1,1,0,0,1,0,0,1,0,1,1] (Tf.hint 63 (qJ (qQ Tf 63 [0,1,1,0,0,1,0,0,1,0,1,1]))) K G (hRx ws k q i j) =
 (bif (decide (j < i)) then (bif (inB j k) then (bif (inB i k) then (bif (decide ((q (j).toNat)=(q (i).toNat))) then (K .ret ⟨[(2,.p 2 0),(3,.p 3 0),(4,.v (.b false)),(5,.v (.n .i64 i))],[(2,.blk [.v (.lf ws.n (fJ ws.js)),.v (.lf ws.m (fM ws.ms)),.v (.lf ws.c (fS ws.sh)),.v (.lf ws.d (fK ws.sk)),.v (.lf ws.no (fO ws.ob)),.v (.lf ws.np (fZ ws.pl)),.v (.lf ws.nh (fH ws.hd)),.v (.lf ws.ng (fG ws.gr)),.v (.n .i64 ws.slack)]),(3,.blk [.v (.lf k (fQ q))])]⟩)
 else (G (hRx ws k q i (vJJ .i64 (j + 1)))))
 else none)
 else none)
 else (K (.exit 2) ⟨[(2,.p 2 0),(3,.p 3 0),(5,.v (.n .i64 i))],[(2,.blk [.v (.lf ws.n (fJ ws.js)),.v (.lf ws.m (fM ws.ms)),.v (.lf ws.c (fS ws.sh)),.v (.lf ws.d (fK ws.sk)),.v (.lf ws.no (fO ws.ob)),.v (.lf ws.np (fZ ws.pl)),.v (.lf ws.nh (fH ws.hd)),.v (.lf ws.ng (fG ws.gr)),.v (.n .i64 ws.slack)]),(3,.blk [.v (.lf k (fQ q))])]⟩)):=by kernel_rfl
theorem lpRx (K:Cont) (ws:Wsp) (k:Nat) (q:Nat→Int) (i:Nat) (hI:i < k) (hN:k≤50):LFX 60 (cxS Tf (orRv ws k q) 60 63 (ntmF Tf 63)) (evX Tf (orRv ws k q) 60 63 (ntmF Tf 63)) (qZ []) (qQ Tf 63 [0,1,1,0,0,1,0,0,1,0,1,1]) [0,1,1,0,0,1,0,0,1,0,1,1] (Tf.hint 63 (qJ (qQ Tf 63 [0,1,1,0,0,1,0,0,1,0,1,1]))) K 60 (hRx ws k q i 0)=bif (allN (fun j:Nat => !decide (q j=q i)) i 0) then (K (.exit 2) ⟨[(2,.p 2 0),(3,.p 3 0),(5,.v (.n .i64 i))],[(2,.blk [.v (.lf ws.n (fJ ws.js)),.v (.lf ws.m (fM ws.ms)),.v (.lf ws.c (fS ws.sh)),.v (.lf ws.d (fK ws.sk)),.v (.lf ws.no (fO ws.ob)),.v (.lf ws.np (fZ ws.pl)),.v (.lf ws.nh (fH ws.hd)),.v (.lf ws.ng (fG ws.gr)),.v (.n .i64 ws.slack)]),(3,.blk [.v (.lf k (fQ q))])]⟩) else (K .ret ⟨[(2,.p 2 0),(3,.p 3 0),(4,.v (.b false)),(5,.v (.n .i64 i))],[(2,.blk [.v (.lf ws.n (fJ ws.js)),.v (.lf ws.m (fM ws.ms)),.v (.lf ws.c (fS ws.sh)),.v (.lf ws.d (fK ws.sk)),.v (.lf ws.no (fO ws.ob)),.v (.lf ws.np (fZ ws.pl)),.v (.lf ws.nh (fH ws.hd)),.v (.lf ws.ng (fG ws.gr)),.v (.n .i64 ws.slack)]),(3,.blk [.v (.lf k (fQ q))])]⟩):=by
 refine (uK (L:=LFX 60 (cxS Tf (orRv ws k q) 60 63 (ntmF Tf 63)) (evX Tf (orRv ws k q) 60 63 (ntmF Tf 63)) (qZ []) (qQ Tf 63 [0,1,1,0,0,1,0,0,1,0,1,1]) [0,1,1,0,0,1,0,0,1,0,1,1] (Tf.hint 63 (qJ (qQ Tf 63 [0,1,1,0,0,1,0,0,1,0,1,1]))) K) (stp:=kZ 60 (cxS Tf (orRv ws k q) 60 63 (ntmF Tf 63)) (evX Tf (orRv ws k q) 60 63 (ntmF Tf 63)) (qZ []) (qQ Tf 63 [0,1,1,0,0,1,0,0,1,0,1,1]) [0,1,1,0,0,1,0,0,1,0,1,1] (Tf.hint 63 (qJ (qQ Tf 63 [0,1,1,0,0,1,0,0,1,0,1,1]))) K) (fun _ _=>rfl) (fun (j:Nat) (_:Unit)=>hRx ws k q i (j:Int)) (fun _ _=>True) (fun (j:Nat) _ => !decide (q j=q i)) (fun _ _=>()) (c:=i) (fun _=>(K (.exit 2) ⟨[(2,.p 2 0),(3,.p 3 0),(5,.v (.n .i64 i))],[(2,.blk [.v (.lf ws.n (fJ ws.js)),.v (.lf ws.m (fM ws.ms)),.v (.lf ws.c (fS ws.sh)),.v (.lf ws.d (fK ws.sk)),.v (.lf ws.no (fO ws.ob)),.v (.lf ws.np (fZ ws.pl)),.v (.lf ws.nh (fH ws.hd)),.v (.lf ws.ng (fG ws.gr)),.v (.n .i64 ws.slack)]),(3,.blk [.v (.lf k (fQ q))])]⟩)) (fun j _=>(K .ret ⟨[(2,.p 2 0),(3,.p 3 0),(4,.v (.b false)),(5,.v (.n .i64 i))],[(2,.blk [.v (.lf ws.n (fJ ws.js)),.v (.lf ws.m (fM ws.ms)),.v (.lf ws.c (fS ws.sh)),.v (.lf ws.d (fK ws.sk)),.v (.lf ws.no (fO ws.ob)),.v (.lf ws.np (fZ ws.pl)),.v (.lf ws.nh (fH ws.hd)),.v (.lf ws.ng (fG ws.gr)),.v (.n .i64 ws.slack)]),(3,.blk [.v (.lf k (fQ q))])]⟩)) (fun G j f hi _ => ?_) (fun _ _ _ _ _=>trivial) (fun G f _ => ?_) (i) 0 60 () (by omega) (by omega) trivial).trans ((jQ _ _ _ _ _).trans (yH _ _ _ _ _))
 ·refine (rdRx G K ws k q i j).trans ?_;rw [vJQ (show (j:Int) < (i:Int) by omega),kW (by omega),yX (show j < k by omega),yX hI,toN,toN];cases decide (q j=q i) <;> rfl
 ·refine (rdRx G K ws k q i (i:Int)).trans ?_;rw [vYH (show ¬ (i:Int) < (i:Int) by omega)];rfl
theorem okRx (ws:Wsp) (k:Nat) (q:Nat→Int):∀ p S,qZ [([0,1,1,0,0,1,0,0,1,0,1,1],sumF (fun t:Nat=>(hRx ws k q ((t:Nat):Int) 0)) (fun σ=>((slI σ 5).toNat)) (fun t K=>(bif (decide (t < k∧k≤50)) then (bif (allN (fun j:Nat => !decide (q j=q t)) t 0) then (K (.exit 2) ⟨[(2,.p 2 0),(3,.p 3 0),(5,.v (.n .i64 t))],[(2,.blk [.v (.lf ws.n (fJ ws.js)),.v (.lf ws.m (fM ws.ms)),.v (.lf ws.c (fS ws.sh)),.v (.lf ws.d (fK ws.sk)),.v (.lf ws.no (fO ws.ob)),.v (.lf ws.np (fZ ws.pl)),.v (.lf ws.nh (fH ws.hd)),.v (.lf ws.ng (fG ws.gr)),.v (.n .i64 ws.slack)]),(3,.blk [.v (.lf k (fQ q))])]⟩) else (K .ret ⟨[(2,.p 2 0),(3,.p 3 0),(4,.v (.b false)),(5,.v (.n .i64 t))],[(2,.blk [.v (.lf ws.n (fJ ws.js)),.v (.lf ws.m (fM ws.ms)),.v (.lf ws.c (fS ws.sh)),.v (.lf ws.d (fK ws.sk)),.v (.lf ws.no (fO ws.ob)),.v (.lf ws.np (fZ ws.pl)),.v (.lf ws.nh (fH ws.hd)),.v (.lf ws.ng (fG ws.gr)),.v (.n .i64 ws.slack)]),(3,.blk [.v (.lf k (fQ q))])]⟩)) else none)))] p=some S→qQZ 60 (cxS Tf (orRv ws k q) 60 63 (ntmF Tf 63)) (qQ Tf 63 p) S:=fun p S hp=>by
 refine zU (L:=qQ Tf 63) (l:=[([0,1,1,0,0,1,0,0,1,0,1,1],sumF (fun t:Nat=>(hRx ws k q ((t:Nat):Int) 0)) (fun σ=>((slI σ 5).toNat)) (fun t K=>(bif (decide (t < k∧k≤50)) then (bif (allN (fun j:Nat => !decide (q j=q t)) t 0) then (K (.exit 2) ⟨[(2,.p 2 0),(3,.p 3 0),(5,.v (.n .i64 t))],[(2,.blk [.v (.lf ws.n (fJ ws.js)),.v (.lf ws.m (fM ws.ms)),.v (.lf ws.c (fS ws.sh)),.v (.lf ws.d (fK ws.sk)),.v (.lf ws.no (fO ws.ob)),.v (.lf ws.np (fZ ws.pl)),.v (.lf ws.nh (fH ws.hd)),.v (.lf ws.ng (fG ws.gr)),.v (.n .i64 ws.slack)]),(3,.blk [.v (.lf k (fQ q))])]⟩) else (K .ret ⟨[(2,.p 2 0),(3,.p 3 0),(4,.v (.b false)),(5,.v (.n .i64 t))],[(2,.blk [.v (.lf ws.n (fJ ws.js)),.v (.lf ws.m (fM ws.ms)),.v (.lf ws.c (fS ws.sh)),.v (.lf ws.d (fK ws.sk)),.v (.lf ws.no (fO ws.ob)),.v (.lf ws.np (fZ ws.pl)),.v (.lf ws.nh (fH ws.hd)),.v (.lf ws.ng (fG ws.gr)),.v (.n .i64 ws.slack)]),(3,.blk [.v (.lf k (fQ q))])]⟩)) else none)))]) ⟨?_,trivial⟩ p S hp;dsimp only;refine kQ (T:=Tf) (o:=(orRv ws k q)) (f:=63) (LO:=qZ []) (p:=[0,1,1,0,0,1,0,0,1,0,1,1]) kJ ?_;intro t K r hr;obtain ⟨hg,hr⟩:=qY hr
 skip
 exact (lpRx K ws k q t (vJZ hg).1 (vJZ hg).2).trans hr
noncomputable def hRv (ws:Wsp) (k:Nat) (q:Nat→Int) (i:Int):St:=⟨[(2,.p 2 0),(3,.p 3 0),(5,.v (.n .i64 i))],[(2,.blk [.v (.lf ws.n (fJ ws.js)),.v (.lf ws.m (fM ws.ms)),.v (.lf ws.c (fS ws.sh)),.v (.lf ws.d (fK ws.sk)),.v (.lf ws.no (fO ws.ob)),.v (.lf ws.np (fZ ws.pl)),.v (.lf ws.nh (fH ws.hd)),.v (.lf ws.ng (fG ws.gr)),.v (.n .i64 ws.slack)]),(3,.blk [.v (.lf k (fQ q))])]⟩
set_option maxRecDepth 100000 in
theorem rdRv (G:St→Option (Ret × Mem)) (K:Cont) (ws:Wsp) (k:Nat) (q:Nat→Int) (i:Int):kZ 60 (cxS Tf (orRv ws k q) 60 63 (ntmF Tf 63)) (evX Tf (orRv ws k q) 60 63 (ntmF Tf 63)) (qZ [([0,1,1,0,0,1,0,0,1,0,1,1],sumF (fun t:Nat=>(hRx ws k q ((t:Nat):Int) 0)) (fun σ=>((slI σ 5).toNat)) (fun t K=>(bif (decide (t < k∧k≤50)) then (bif (allN (fun j:Nat => !decide (q j=q t)) t 0) then (K (.exit 2) ⟨[(2,.p 2 0),(3,.p 3 0),(5,.v (.n .i64 t))],[(2,.blk [.v (.lf ws.n (fJ ws.js)),.v (.lf ws.m (fM ws.ms)),.v (.lf ws.c (fS ws.sh)),.v (.lf ws.d (fK ws.sk)),.v (.lf ws.no (fO ws.ob)),.v (.lf ws.np (fZ ws.pl)),.v (.lf ws.nh (fH ws.hd)),.v (.lf ws.ng (fG ws.gr)),.v (.n .i64 ws.slack)]),(3,.blk [.v (.lf k (fQ q))])]⟩) else (K .ret ⟨[(2,.p 2 0),(3,.p 3 0),(4,.v (.b false)),(5,.v (.n .i64 t))],[(2,.blk [.v (.lf ws.n (fJ ws.js)),.v (.lf ws.m (fM ws.ms)),.v (.lf ws.c (fS ws.sh)),.v (.lf ws.d (fK ws.sk)),.v (.lf ws.no (fO ws.ob)),.v (.lf ws.np (fZ ws.pl)),.v (.lf ws.nh (fH ws.hd)),.v (.lf ws.ng (fG ws.gr)),.v (.n .i64 ws.slack)]),(3,.blk [.v (.lf k (fQ q))])]⟩)) else none)))]) (qQ Tf 63 [0,1,0,1,1]) [0,1,0,1,1] (Tf.hint 63 (qJ (qQ Tf 63 [0,1,0,1,1]))) K G (hRv ws k q i) =
 (bif (decide (i < (k:Int))) then (bif (inB i k) then (bif (decide ((q (i).toNat) < (vJJ .i64 (0 - (ws.nh:Int))))) then (K .ret ⟨[(4,.v (.b false))],[]⟩)
 else (bif (inB i k) then (bif (decide ((ws.np:Int)≤(q (i).toNat))) then (K .ret ⟨[(4,.v (.b false))],[]⟩)
 else (bif (gSt (hRx ws k q i 0) (hRx ws k q (((i).toNat:Nat):Int) 0)) then (bif (decide ((i).toNat < k∧k≤50)) then (bif (allN (fun j:Nat => !decide (q j=q (i).toNat)) (i).toNat 0) then (G (hRv ws k q (vJJ .i64 ((((i).toNat:Nat):Int) + 1))))
 else (K .ret ⟨[(4,.v (.b false))],[]⟩))
 else none)
 else none))
 else none))
 else none)
 else (K (.exit 0) ⟨[],[]⟩)):=by kernel_rfl
theorem lpRv (K:Cont) (ws:Wsp) (k:Nat) (q:Nat→Int) (hk:k≤50):LFX 60 (cxS Tf (orRv ws k q) 60 63 (ntmF Tf 63)) (evX Tf (orRv ws k q) 60 63 (ntmF Tf 63)) (qZ [([0,1,1,0,0,1,0,0,1,0,1,1],sumF (fun t:Nat=>(hRx ws k q ((t:Nat):Int) 0)) (fun σ=>((slI σ 5).toNat)) (fun t K=>(bif (decide (t < k∧k≤50)) then (bif (allN (fun j:Nat => !decide (q j=q t)) t 0) then (K (.exit 2) ⟨[(2,.p 2 0),(3,.p 3 0),(5,.v (.n .i64 t))],[(2,.blk [.v (.lf ws.n (fJ ws.js)),.v (.lf ws.m (fM ws.ms)),.v (.lf ws.c (fS ws.sh)),.v (.lf ws.d (fK ws.sk)),.v (.lf ws.no (fO ws.ob)),.v (.lf ws.np (fZ ws.pl)),.v (.lf ws.nh (fH ws.hd)),.v (.lf ws.ng (fG ws.gr)),.v (.n .i64 ws.slack)]),(3,.blk [.v (.lf k (fQ q))])]⟩) else (K .ret ⟨[(2,.p 2 0),(3,.p 3 0),(4,.v (.b false)),(5,.v (.n .i64 t))],[(2,.blk [.v (.lf ws.n (fJ ws.js)),.v (.lf ws.m (fM ws.ms)),.v (.lf ws.c (fS ws.sh)),.v (.lf ws.d (fK ws.sk)),.v (.lf ws.no (fO ws.ob)),.v (.lf ws.np (fZ ws.pl)),.v (.lf ws.nh (fH ws.hd)),.v (.lf ws.ng (fG ws.gr)),.v (.n .i64 ws.slack)]),(3,.blk [.v (.lf k (fQ q))])]⟩)) else none)))]) (qQ Tf 63 [0,1,0,1,1]) [0,1,0,1,1] (Tf.hint 63 (qJ (qQ Tf 63 [0,1,0,1,1]))) K 60 (hRv ws k q 0)=bif (allN (fun i:Nat=>mdG ws q i) k 0) then (K (.exit 0) ⟨[],[]⟩) else (K .ret ⟨[(4,.v (.b false))],[]⟩):=by
 refine (uK (L:=LFX 60 (cxS Tf (orRv ws k q) 60 63 (ntmF Tf 63)) (evX Tf (orRv ws k q) 60 63 (ntmF Tf 63)) (qZ [([0,1,1,0,0,1,0,0,1,0,1,1],sumF (fun t:Nat=>(hRx ws k q ((t:Nat):Int) 0)) (fun σ=>((slI σ 5).toNat)) (fun t K=>(bif (decide (t < k∧k≤50)) then (bif (allN (fun j:Nat => !decide (q j=q t)) t 0) then (K (.exit 2) ⟨[(2,.p 2 0),(3,.p 3 0),(5,.v (.n .i64 t))],[(2,.blk [.v (.lf ws.n (fJ ws.js)),.v (.lf ws.m (fM ws.ms)),.v (.lf ws.c (fS ws.sh)),.v (.lf ws.d (fK ws.sk)),.v (.lf ws.no (fO ws.ob)),.v (.lf ws.np (fZ ws.pl)),.v (.lf ws.nh (fH ws.hd)),.v (.lf ws.ng (fG ws.gr)),.v (.n .i64 ws.slack)]),(3,.blk [.v (.lf k (fQ q))])]⟩) else (K .ret ⟨[(2,.p 2 0),(3,.p 3 0),(4,.v (.b false)),(5,.v (.n .i64 t))],[(2,.blk [.v (.lf ws.n (fJ ws.js)),.v (.lf ws.m (fM ws.ms)),.v (.lf ws.c (fS ws.sh)),.v (.lf ws.d (fK ws.sk)),.v (.lf ws.no (fO ws.ob)),.v (.lf ws.np (fZ ws.pl)),.v (.lf ws.nh (fH ws.hd)),.v (.lf ws.ng (fG ws.gr)),.v (.n .i64 ws.slack)]),(3,.blk [.v (.lf k (fQ q))])]⟩)) else none)))]) (qQ Tf 63 [0,1,0,1,1]) [0,1,0,1,1] (Tf.hint 63 (qJ (qQ Tf 63 [0,1,0,1,1]))) K) (stp:=kZ 60 (cxS Tf (orRv ws k q) 60 63 (ntmF Tf 63)) (evX Tf (orRv ws k q) 60 63 (ntmF Tf 63)) (qZ [([0,1,1,0,0,1,0,0,1,0,1,1],sumF (fun t:Nat=>(hRx ws k q ((t:Nat):Int) 0)) (fun σ=>((slI σ 5).toNat)) (fun t K=>(bif (decide (t < k∧k≤50)) then (bif (allN (fun j:Nat => !decide (q j=q t)) t 0) then (K (.exit 2) ⟨[(2,.p 2 0),(3,.p 3 0),(5,.v (.n .i64 t))],[(2,.blk [.v (.lf ws.n (fJ ws.js)),.v (.lf ws.m (fM ws.ms)),.v (.lf ws.c (fS ws.sh)),.v (.lf ws.d (fK ws.sk)),.v (.lf ws.no (fO ws.ob)),.v (.lf ws.np (fZ ws.pl)),.v (.lf ws.nh (fH ws.hd)),.v (.lf ws.ng (fG ws.gr)),.v (.n .i64 ws.slack)]),(3,.blk [.v (.lf k (fQ q))])]⟩) else (K .ret ⟨[(2,.p 2 0),(3,.p 3 0),(4,.v (.b false)),(5,.v (.n .i64 t))],[(2,.blk [.v (.lf ws.n (fJ ws.js)),.v (.lf ws.m (fM ws.ms)),.v (.lf ws.c (fS ws.sh)),.v (.lf ws.d (fK ws.sk)),.v (.lf ws.no (fO ws.ob)),.v (.lf ws.np (fZ ws.pl)),.v (.lf ws.nh (fH ws.hd)),.v (.lf ws.ng (fG ws.gr)),.v (.n .i64 ws.slack)]),(3,.blk [.v (.lf k (fQ q))])]⟩)) else none)))]) (qQ Tf 63 [0,1,0,1,1]) [0,1,0,1,1] (Tf.hint 63 (qJ (qQ Tf 63 [0,1,0,1,1]))) K) (fun _ _=>rfl) (fun (i:Nat) (_:Unit)=>hRv ws k q (i:Int)) (fun _ _=>True) (fun (i:Nat) _=>mdG ws q i) (fun _ _=>()) (c:=k) (fun _=>(K (.exit 0) ⟨[],[]⟩)) (fun i _=>(K .ret ⟨[(4,.v (.b false))],[]⟩)) (fun G i f hi _ => ?_) (fun _ _ _ _ _=>trivial) (fun G f _ => ?_) k 0 60 () (by omega) (by omega) trivial).trans ((jQ _ _ _ _ _).trans (yH _ _ _ _ _))
 ·refine (rdRv G K ws k q i).trans ?_;rw [vJQ (show (i:Int) < (k:Int) by omega),kW (by omega),yX (show i < k by omega),toN,yU,vJQ (show i < k∧k≤50 from ⟨hi,hk⟩)];unfold mdG inM;rw [show allN (fun j:Nat => !decide (q j=q i)) i 0 = !hasQ q i (q i) from by unfold hasQ; rw [Bool.not_not]];cases decide (q i < vJJ .i64 (0 - (ws.nh:Int))) <;> cases decide ((ws.np:Int)≤q i) <;> cases hasQ q i (q i) <;> rfl
 ·refine (rdRv G K ws k q k).trans ?_;rw [vYH (show ¬ (k:Int) < (k:Int) by omega)];rfl
noncomputable def kKX (ws:Wsp) (k:Nat) (q:Nat→Int):List (List Nat × jK):=[([0,1,0,1,1],sumF (fun _:Unit=>(hRv ws k q 0)) (fun _=>()) (fun _ K=>(bif (decide (k≤50)) then (bif (allN (fun i:Nat=>mdG ws q i) k 0) then (K (.exit 0) ⟨[],[]⟩) else (K .ret ⟨[(4,.v (.b false))],[]⟩)) else none)))]
set_option maxRecDepth 100000 in
theorem pxrvm (ws:Wsp) (k:Nat) (q:Nat→Int):qQU Tf (orRv ws k q) (qZ (kKX ws k q)) 60 63 [.a (wP ws),.a [.lf k (fQ q)]] =
 (bif (gF1 crw erw ws) then (bif (!decide ((wErr ws)=0)) then some (.v (.b false),[])
 else (bif (!decide ((k:Int)=(ws.no:Int))) then some (.v (.b false),[])
 else (bif (gSt (hRv ws k q 0) (hRv ws k q 0)) then (bif (decide (k≤50)) then (bif (allN (fun i:Nat=>mdG ws q i) k 0) then some (.v (.b true),[])
 else some (.v (.b false),[]))
 else none)
 else none)))
 else none):=by kernel_rfl
theorem snd_rvm (ws:Wsp) (k:Nat) (q:Nat→Int) (ho:okW ws):yK Tryz.prog 63 [.a (wP ws),.a [.lf k (fQ q)]] (.v (.b (vlB ws k q))):=by
 refine zW (N:=60) (LO:=qZ (kKX ws k q)) jH zG (kY (l:=[(17,o_rw)]) (m:=[]) ⟨ok_rw,trivial⟩ trivial) (fun p S hp => ?_) ?_
 ·refine zU (L:=qQ Tf 63) (l:=(kKX ws k q)) (show AllP _ (kKX ws k q) from ⟨?_,trivial⟩) p S hp
  ·dsimp only;refine kQ (T:=Tf) (o:=(orRv ws k q)) (f:=63) (LO:=(qZ [([0,1,1,0,0,1,0,0,1,0,1,1],sumF (fun t:Nat=>(hRx ws k q ((t:Nat):Int) 0)) (fun σ=>((slI σ 5).toNat)) (fun t K=>(bif (decide (t < k∧k≤50)) then (bif (allN (fun j:Nat => !decide (q j=q t)) t 0) then (K (.exit 2) ⟨[(2,.p 2 0),(3,.p 3 0),(5,.v (.n .i64 t))],[(2,.blk [.v (.lf ws.n (fJ ws.js)),.v (.lf ws.m (fM ws.ms)),.v (.lf ws.c (fS ws.sh)),.v (.lf ws.d (fK ws.sk)),.v (.lf ws.no (fO ws.ob)),.v (.lf ws.np (fZ ws.pl)),.v (.lf ws.nh (fH ws.hd)),.v (.lf ws.ng (fG ws.gr)),.v (.n .i64 ws.slack)]),(3,.blk [.v (.lf k (fQ q))])]⟩) else (K .ret ⟨[(2,.p 2 0),(3,.p 3 0),(4,.v (.b false)),(5,.v (.n .i64 t))],[(2,.blk [.v (.lf ws.n (fJ ws.js)),.v (.lf ws.m (fM ws.ms)),.v (.lf ws.c (fS ws.sh)),.v (.lf ws.d (fK ws.sk)),.v (.lf ws.no (fO ws.ob)),.v (.lf ws.np (fZ ws.pl)),.v (.lf ws.nh (fH ws.hd)),.v (.lf ws.ng (fG ws.gr)),.v (.n .i64 ws.slack)]),(3,.blk [.v (.lf k (fQ q))])]⟩)) else none)))])) (p:=[0,1,0,1,1]) (okRx ws k q) ?_;intro t K r hr;obtain ⟨hg,hr⟩:=qY hr;have hk:=vJZ hg;exact (lpRv K ws k q hk).trans hr
 ·refine (pxrvm ws k q).trans ?_;unfold vlB;rw [jU (C:=crw) (t:=ws) ho];by_cases h:wErr ws=0
  ·rw [vJQ h];by_cases hk:(k:Int)=(ws.no:Int)
   ·have h6:=kVZ h;rw [vJQ hk,yU,vJQ (show k≤50 by omega)];cases allN (fun i:Nat=>mdG ws q i) k 0 <;> rfl
   ·rw [vYH hk]; rfl
  ·rw [vYH h]; rfl
def cvl:Wsp × Nat × (Nat→Int)→Prop:=fun t=>match t with | (ws,_,_)=>okW ws
def evl:Wsp × Nat × (Nat→Int)→List PV:=fun t=>match t with | (ws,k,q)=>[.a (wP ws),.a [.lf k (fQ q)]]
noncomputable def rvl:Wsp × Nat × (Nat→Int)→Ret:=fun t=>match t with | (ws,k,q)=>.v (.b (vlB ws k q))
def dvl:List PV→Wsp × Nat × (Nat→Int):=fun ps=>match ps with
 | [.a r,.a [.lf k f]]=>(unW r,k,unFQ f)
 | _=>(unW [],0,fun _=>0)
noncomputable def o_vl:List PV→Option (Bool × Ret):=o_fm dvl cvl evl rvl
theorem ok_vl:zJ Tryz.prog 62 o_vl:=qQV fun t h=>by
 obtain ⟨ws,k,q⟩:=t;exact snd_vld ws k q h
def crv:Wsp × Nat × (Nat→Int)→Prop:=fun t=>match t with | (ws,_,_)=>okW ws
def erv:Wsp × Nat × (Nat→Int)→List PV:=fun t=>match t with | (ws,k,q)=>[.a (wP ws),.a [.lf k (fQ q)]]
noncomputable def rrv:Wsp × Nat × (Nat→Int)→Ret:=fun t=>match t with | (ws,k,q)=>.v (.b (vlB ws k q))
def drv:List PV→Wsp × Nat × (Nat→Int):=fun ps=>match ps with
 | [.a r,.a [.lf k f]]=>(unW r,k,unFQ f)
 | _=>(unW [],0,fun _=>0)
noncomputable def o_rv:List PV→Option (Bool × Ret):=o_fm drv crv erv rrv
theorem ok_rv:zJ Tryz.prog 63 o_rv:=qQV fun t h=>by
 obtain ⟨ws,k,q⟩:=t;exact snd_rvm ws k q h
end Go.Proofs.YtgmbkkkbfbocnaaGreat.He

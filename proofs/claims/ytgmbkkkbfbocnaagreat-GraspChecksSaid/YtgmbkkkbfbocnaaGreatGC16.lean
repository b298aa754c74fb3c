/- Part 16 of the texts behind the last one: rules and contracts. No condition. -/
import Derived.Test.YtgmbkkkbfbocnaaGreatGC15
open Go.IntKind renaming wrap → vJJ
namespace Go.Proofs.YtgmbkkkbfbocnaaGreat.Hd
open Go.Rx Rt Go.Sx Go.RowKit Od Na Nb Nc Nx Nf Nl Nm Ga Gb Gc Gd Ge Gf Gg Ha Hb Hc
noncomputable def orWp (_:Wsp):OrS:=orS [(56,kJK),(57,o_nq),(58,o_ri),(59,o_ob)] []
noncomputable def hWp (ws:Wsp) (i:Int):St:=⟨[(1,.p 1 0),(4,.v (.n .i64 i))],[(1,.blk ((wP ws).map .v))]⟩
set_option maxRecDepth 100000 in
theorem rdWp (G:St→Option (Ret × Mem)) (K:Cont) (ws:Wsp) (i:Int):kV 60 (cxS Tf (orWp ws) 60 17 (ntmF Tf 17)) (evX Tf (orWp ws) 60 17 (ntmF Tf 17)) (qZ []) (qQ Tf 17 [0,1,0,1,1,1]) [0,1,0,1,1,1] (Tf.hint 17 (qU (qQ Tf 17 [0,1,0,1,1,1]))) K G (hWp ws i) =
 (bif (decide (i < (ws.np:Int))) then (bif (inB i ws.np) then (bif (gF1 cnq enq (ws.pl (i).toNat)) then (bif (zOk 2097152 (ws.pl (i).toNat)) then (G (hWp ws (vJJ .i64 (i + 1))))
 else (K .ret ⟨[(1,.p 1 0),(2,.v (.n .i64 3401))],[(1,.blk ((wP ws).map .v))]⟩))
 else none)
 else none)
 else (K (.exit 0) ⟨[(1,.p 1 0)],[(1,.blk ((wP ws).map .v))]⟩)):=by kernel_rfl
theorem lpWp (K:Cont) (ws:Wsp) (_:ws.np≤50):LFX 60 (cxS Tf (orWp ws) 60 17 (ntmF Tf 17)) (evX Tf (orWp ws) 60 17 (ntmF Tf 17)) (qZ []) (qQ Tf 17 [0,1,0,1,1,1]) [0,1,0,1,1,1] (Tf.hint 17 (qU (qQ Tf 17 [0,1,0,1,1,1]))) K 60 (hWp ws 0)=bif (allN (fun i:Nat=>zOk 2097152 (ws.pl i)) ws.np 0) then (K (.exit 0) ⟨[(1,.p 1 0)],[(1,.blk ((wP ws).map .v))]⟩) else (K .ret ⟨[(1,.p 1 0),(2,.v (.n .i64 3401))],[(1,.blk ((wP ws).map .v))]⟩):=by
 refine (qQV (L:=LFX 60 (cxS Tf (orWp ws) 60 17 (ntmF Tf 17)) (evX Tf (orWp ws) 60 17 (ntmF Tf 17)) (qZ []) (qQ Tf 17 [0,1,0,1,1,1]) [0,1,0,1,1,1] (Tf.hint 17 (qU (qQ Tf 17 [0,1,0,1,1,1]))) K) (stp:=kV 60 (cxS Tf (orWp ws) 60 17 (ntmF Tf 17)) (evX Tf (orWp ws) 60 17 (ntmF Tf 17)) (qZ []) (qQ Tf 17 [0,1,0,1,1,1]) [0,1,0,1,1,1] (Tf.hint 17 (qU (qQ Tf 17 [0,1,0,1,1,1]))) K) (fun _ _=>rfl) (fun (i:Nat) (_:Unit)=>hWp ws (i:Int)) (fun _ _=>True) (fun (i:Nat) _=>zOk 2097152 (ws.pl i)) (fun _ _=>()) (c:=ws.np) (fun _=>(K (.exit 0) ⟨[(1,.p 1 0)],[(1,.blk ((wP ws).map .v))]⟩)) (fun i _=>(K .ret ⟨[(1,.p 1 0),(2,.v (.n .i64 3401))],[(1,.blk ((wP ws).map .v))]⟩)) (fun G i f hi _ => ?_) (fun _ _ _ _ _=>trivial) (fun G f _ => ?_) ws.np 0 60 () (by omega) (by omega) trivial).trans ((jW _ _ _ _ _).trans (jK _ _ _ _ _))
 ·refine (rdWp G K ws i).trans ?_;rw [vJQ (show (i:Int) < (ws.np:Int) by omega),uX (by omega),yU (show i < ws.np by omega),toN,jX (C:=cnq) (t:=ws.pl i) trivial];cases zOk 2097152 (ws.pl i) <;> rfl
 ·refine (rdWp G K ws ws.np).trans ?_;rw [vYH (show ¬ (ws.np:Int) < (ws.np:Int) by omega)];rfl
noncomputable def hWq (ws:Wsp) (i:Int):St:=⟨[(1,.p 1 0),(5,.v (.n .i64 i))],[(1,.blk ((wP ws).map .v))]⟩
set_option maxRecDepth 100000 in
theorem rdWq (G:St→Option (Ret × Mem)) (K:Cont) (ws:Wsp) (i:Int):kV 60 (cxS Tf (orWp ws) 60 17 (ntmF Tf 17)) (evX Tf (orWp ws) 60 17 (ntmF Tf 17)) (qZ []) (qQ Tf 17 [0,1,0,1,1,1,1]) [0,1,0,1,1,1,1] (Tf.hint 17 (qU (qQ Tf 17 [0,1,0,1,1,1,1]))) K G (hWq ws i) =
 (bif (decide (i < (ws.nh:Int))) then (bif (inB i ws.nh) then (bif (decide ((ws.hd (i).toNat).link < 0)) then (K .ret ⟨[(1,.p 1 0),(2,.v (.n .i64 3401))],[(1,.blk ((wP ws).map .v))]⟩)
 else (bif (decide ((ws.n:Int)≤(ws.hd (i).toNat).link)) then (K .ret ⟨[(1,.p 1 0),(2,.v (.n .i64 3401))],[(1,.blk ((wP ws).map .v))]⟩)
 else (bif (gF1 cnq enq ((ws.hd (i).toNat).off)) then (bif (zOk 2097152 ((ws.hd (i).toNat).off)) then (G (hWq ws (vJJ .i64 (i + 1))))
 else (K .ret ⟨[(1,.p 1 0),(2,.v (.n .i64 3401))],[(1,.blk ((wP ws).map .v))]⟩))
 else none)))
 else none)
 else (K (.exit 2) ⟨[(1,.p 1 0)],[(1,.blk ((wP ws).map .v))]⟩)):=by kernel_rfl
theorem lpWq (K:Cont) (ws:Wsp) (_:ws.nh≤50):LFX 60 (cxS Tf (orWp ws) 60 17 (ntmF Tf 17)) (evX Tf (orWp ws) 60 17 (ntmF Tf 17)) (qZ []) (qQ Tf 17 [0,1,0,1,1,1,1]) [0,1,0,1,1,1,1] (Tf.hint 17 (qU (qQ Tf 17 [0,1,0,1,1,1,1]))) K 60 (hWq ws 0)=bif (allN (fun i:Nat=>hdOk ws.n (ws.hd i)) ws.nh 0) then (K (.exit 2) ⟨[(1,.p 1 0)],[(1,.blk ((wP ws).map .v))]⟩) else (K .ret ⟨[(1,.p 1 0),(2,.v (.n .i64 3401))],[(1,.blk ((wP ws).map .v))]⟩):=by
 refine (qQV (L:=LFX 60 (cxS Tf (orWp ws) 60 17 (ntmF Tf 17)) (evX Tf (orWp ws) 60 17 (ntmF Tf 17)) (qZ []) (qQ Tf 17 [0,1,0,1,1,1,1]) [0,1,0,1,1,1,1] (Tf.hint 17 (qU (qQ Tf 17 [0,1,0,1,1,1,1]))) K) (stp:=kV 60 (cxS Tf (orWp ws) 60 17 (ntmF Tf 17)) (evX Tf (orWp ws) 60 17 (ntmF Tf 17)) (qZ []) (qQ Tf 17 [0,1,0,1,1,1,1]) [0,1,0,1,1,1,1] (Tf.hint 17 (qU (qQ Tf 17 [0,1,0,1,1,1,1]))) K) (fun _ _=>rfl) (fun (i:Nat) (_:Unit)=>hWq ws (i:Int)) (fun _ _=>True) (fun (i:Nat) _=>hdOk ws.n (ws.hd i)) (fun _ _=>()) (c:=ws.nh) (fun _=>(K (.exit 2) ⟨[(1,.p 1 0)],[(1,.blk ((wP ws).map .v))]⟩)) (fun i _=>(K .ret ⟨[(1,.p 1 0),(2,.v (.n .i64 3401))],[(1,.blk ((wP ws).map .v))]⟩)) (fun G i f hi _ => ?_) (fun _ _ _ _ _=>trivial) (fun G f _ => ?_) ws.nh 0 60 () (by omega) (by omega) trivial).trans ((jW _ _ _ _ _).trans (jK _ _ _ _ _))
 ·refine (rdWq G K ws i).trans ?_;rw [vJQ (show (i:Int) < (ws.nh:Int) by omega),uX (by omega),yU (show i < ws.nh by omega),toN,jX (C:=cnq) (t:=(ws.hd i).off) trivial];unfold hdOk;cases decide ((ws.hd i).link < 0) <;> cases decide ((ws.n:Int)≤(ws.hd i).link) <;> cases zOk 2097152 (ws.hd i).off <;> rfl
 ·refine (rdWq G K ws ws.nh).trans ?_;rw [vYH (show ¬ (ws.nh:Int) < (ws.nh:Int) by omega)];rfl
noncomputable def hWr (ws:Wsp) (i:Int):St:=⟨[(1,.p 1 0),(7,.v (.n .i64 i))],[(1,.blk ((wP ws).map .v))]⟩
set_option maxRecDepth 100000 in
theorem rdWr (G:St→Option (Ret × Mem)) (K:Cont) (ws:Wsp) (i:Int):kV 60 (cxS Tf (orWp ws) 60 17 (ntmF Tf 17)) (evX Tf (orWp ws) 60 17 (ntmF Tf 17)) (qZ []) (qQ Tf 17 [0,1,0,1,1,1,1,1]) [0,1,0,1,1,1,1,1] (Tf.hint 17 (qU (qQ Tf 17 [0,1,0,1,1,1,1,1]))) K G (hWr ws i) =
 (bif (decide (i < (ws.ng:Int))) then (bif (inB i ws.ng) then (bif (decide ((ws.gr (i).toNat).hand < 0)) then (K .ret ⟨[(1,.p 1 0),(2,.v (.n .i64 3401))],[(1,.blk ((wP ws).map .v))]⟩)
 else (bif (decide ((ws.nh:Int)≤(ws.gr (i).toNat).hand)) then (K .ret ⟨[(1,.p 1 0),(2,.v (.n .i64 3401))],[(1,.blk ((wP ws).map .v))]⟩)
 else (bif (decide ((ws.gr (i).toNat).place < 0)) then (K .ret ⟨[(1,.p 1 0),(2,.v (.n .i64 3401))],[(1,.blk ((wP ws).map .v))]⟩)
 else (bif (decide ((ws.np:Int)≤(ws.gr (i).toNat).place)) then (K .ret ⟨[(1,.p 1 0),(2,.v (.n .i64 3401))],[(1,.blk ((wP ws).map .v))]⟩)
 else (bif (gF1 cri eri (ws.js,ws.ms,ws.n,ws.m,((ws.gr (i).toNat).na),((ws.gr (i).toNat).cf))) then (bif (qIn ws.js ws.ms ((ws.gr (i).toNat).cf) ws.n ws.m ((ws.gr (i).toNat).na)) then (G (hWr ws (vJJ .i64 (i + 1))))
 else (K .ret ⟨[(1,.p 1 0),(2,.v (.n .i64 3401))],[(1,.blk ((wP ws).map .v))]⟩))
 else none)))))
 else none)
 else (K (.exit 4) ⟨[(1,.p 1 0)],[(1,.blk ((wP ws).map .v))]⟩)):=by kernel_rfl
theorem nlt0 (a b:Int):(!decide (b≤a))=decide (a < b):=by by_cases h:b≤a <;> simp [h] <;> omega
theorem lpWr (K:Cont) (ws:Wsp) (_:ws.ng≤50):LFX 60 (cxS Tf (orWp ws) 60 17 (ntmF Tf 17)) (evX Tf (orWp ws) 60 17 (ntmF Tf 17)) (qZ []) (qQ Tf 17 [0,1,0,1,1,1,1,1]) [0,1,0,1,1,1,1,1] (Tf.hint 17 (qU (qQ Tf 17 [0,1,0,1,1,1,1,1]))) K 60 (hWr ws 0)=bif (allN (fun i:Nat=>grOk ws (ws.gr i)) ws.ng 0) then (K (.exit 4) ⟨[(1,.p 1 0)],[(1,.blk ((wP ws).map .v))]⟩) else (K .ret ⟨[(1,.p 1 0),(2,.v (.n .i64 3401))],[(1,.blk ((wP ws).map .v))]⟩):=by
 refine (qQV (L:=LFX 60 (cxS Tf (orWp ws) 60 17 (ntmF Tf 17)) (evX Tf (orWp ws) 60 17 (ntmF Tf 17)) (qZ []) (qQ Tf 17 [0,1,0,1,1,1,1,1]) [0,1,0,1,1,1,1,1] (Tf.hint 17 (qU (qQ Tf 17 [0,1,0,1,1,1,1,1]))) K) (stp:=kV 60 (cxS Tf (orWp ws) 60 17 (ntmF Tf 17)) (evX Tf (orWp ws) 60 17 (ntmF Tf 17)) (qZ []) (qQ Tf 17 [0,1,0,1,1,1,1,1]) [0,1,0,1,1,1,1,1] (Tf.hint 17 (qU (qQ Tf 17 [0,1,0,1,1,1,1,1]))) K) (fun _ _=>rfl) (fun (i:Nat) (_:Unit)=>hWr ws (i:Int)) (fun _ _=>True) (fun (i:Nat) _=>grOk ws (ws.gr i)) (fun _ _=>()) (c:=ws.ng) (fun _=>(K (.exit 4) ⟨[(1,.p 1 0)],[(1,.blk ((wP ws).map .v))]⟩)) (fun i _=>(K .ret ⟨[(1,.p 1 0),(2,.v (.n .i64 3401))],[(1,.blk ((wP ws).map .v))]⟩)) (fun G i f hi _ => ?_) (fun _ _ _ _ _=>trivial) (fun G f _ => ?_) ws.ng 0 60 () (by omega) (by omega) trivial).trans ((jW _ _ _ _ _).trans (jK _ _ _ _ _))
 ·refine (rdWr G K ws i).trans ?_;rw [vJQ (show (i:Int) < (ws.ng:Int) by omega),uX (by omega),yU (show i < ws.ng by omega),toN,jX (C:=cri) (t:=(ws.js,ws.ms,ws.n,ws.m,(ws.gr i).na,(ws.gr i).cf)) trivial];unfold grOk knB;rw [nle 0 (ws.gr i).hand,nle 0 (ws.gr i).place,← nlt0 (ws.gr i).hand (ws.nh:Int),← nlt0 (ws.gr i).place (ws.np:Int)];cases decide ((ws.gr i).hand < 0) <;> cases decide ((ws.nh:Int)≤(ws.gr i).hand) <;> cases decide ((ws.gr i).place < 0) <;> cases decide ((ws.np:Int)≤(ws.gr i).place) <;> cases qIn ws.js ws.ms (ws.gr i).cf ws.n ws.m (ws.gr i).na <;> rfl
 ·refine (rdWr G K ws ws.ng).trans ?_;rw [vYH (show ¬ (ws.ng:Int) < (ws.ng:Int) by omega)];rfl
noncomputable def hWi (ws:Wsp) (s:Int) (i:Int) (k:Int):St:=⟨[(1,.p 1 0),(9,.v (.n .i64 s)),(10,.v (.n .i64 i)),(11,.v (.n .i64 k))],[(1,.blk ((wP ws).map .v))]⟩
set_option maxRecDepth 100000 in
theorem rdWi (G:St→Option (Ret × Mem)) (K:Cont) (ws:Wsp) (s:Int) (i:Int) (k:Int):kV 60 (cxS Tf (orWp ws) 60 17 (ntmF Tf 17)) (evX Tf (orWp ws) 60 17 (ntmF Tf 17)) (qZ []) (qQ Tf 17 [0,1,0,1,0,0,1,0,0,1,0,1,1,1,1,1,1,1]) [0,1,0,1,0,0,1,0,0,1,0,1,1,1,1,1,1,1] (Tf.hint 17 (qU (qQ Tf 17 [0,1,0,1,0,0,1,0,0,1,0,1,1,1,1,1,1,1]))) K G (hWi ws s i k) =
 (bif (decide (k < i)) then (bif (inB k ws.no) then (bif (inB i ws.no) then (bif ((ws.ob (k).toNat).name.toList == (ws.ob (i).toNat).name.toList) then (K .ret ⟨[(1,.p 1 0),(2,.v (.n .i64 3402)),(9,.v (.n .i64 s)),(10,.v (.n .i64 i))],[(1,.blk ((wP ws).map .v))]⟩)
 else (G (hWi ws s i (vJJ .i64 (k + 1)))))
 else none)
 else none)
 else (K (.exit 8) ⟨[(1,.p 1 0),(9,.v (.n .i64 s)),(10,.v (.n .i64 i))],[(1,.blk ((wP ws).map .v))]⟩)):=by kernel_rfl
theorem lpWi (K:Cont) (ws:Wsp) (s:Int) (i:Nat) (hI:i < ws.no) (hN:ws.no≤50):LFX 60 (cxS Tf (orWp ws) 60 17 (ntmF Tf 17)) (evX Tf (orWp ws) 60 17 (ntmF Tf 17)) (qZ []) (qQ Tf 17 [0,1,0,1,0,0,1,0,0,1,0,1,1,1,1,1,1,1]) [0,1,0,1,0,0,1,0,0,1,0,1,1,1,1,1,1,1] (Tf.hint 17 (qU (qQ Tf 17 [0,1,0,1,0,0,1,0,0,1,0,1,1,1,1,1,1,1]))) K 60 (hWi ws s i 0)=bif (allN (fun k:Nat => !((ws.ob k).name.toList == (ws.ob i).name.toList)) i 0) then (K (.exit 8) ⟨[(1,.p 1 0),(9,.v (.n .i64 s)),(10,.v (.n .i64 i))],[(1,.blk ((wP ws).map .v))]⟩) else (K .ret ⟨[(1,.p 1 0),(2,.v (.n .i64 3402)),(9,.v (.n .i64 s)),(10,.v (.n .i64 i))],[(1,.blk ((wP ws).map .v))]⟩):=by
 refine (qQV (L:=LFX 60 (cxS Tf (orWp ws) 60 17 (ntmF Tf 17)) (evX Tf (orWp ws) 60 17 (ntmF Tf 17)) (qZ []) (qQ Tf 17 [0,1,0,1,0,0,1,0,0,1,0,1,1,1,1,1,1,1]) [0,1,0,1,0,0,1,0,0,1,0,1,1,1,1,1,1,1] (Tf.hint 17 (qU (qQ Tf 17 [0,1,0,1,0,0,1,0,0,1,0,1,1,1,1,1,1,1]))) K) (stp:=kV 60 (cxS Tf (orWp ws) 60 17 (ntmF Tf 17)) (evX Tf (orWp ws) 60 17 (ntmF Tf 17)) (qZ []) (qQ Tf 17 [0,1,0,1,0,0,1,0,0,1,0,1,1,1,1,1,1,1]) [0,1,0,1,0,0,1,0,0,1,0,1,1,1,1,1,1,1] (Tf.hint 17 (qU (qQ Tf 17 [0,1,0,1,0,0,1,0,0,1,0,1,1,1,1,1,1,1]))) K) (fun _ _=>rfl) (fun (k:Nat) (_:Unit)=>hWi ws s i (k:Int)) (fun _ _=>True) (fun (k:Nat) _ => !((ws.ob k).name.toList == (ws.ob i).name.toList)) (fun _ _=>()) (c:=i) (fun _=>(K (.exit 8) ⟨[(1,.p 1 0),(9,.v (.n .i64 s)),(10,.v (.n .i64 i))],[(1,.blk ((wP ws).map .v))]⟩)) (fun k _=>(K .ret ⟨[(1,.p 1 0),(2,.v (.n .i64 3402)),(9,.v (.n .i64 s)),(10,.v (.n .i64 i))],[(1,.blk ((wP ws).map .v))]⟩)) (fun G k f hi _ => ?_) (fun _ _ _ _ _=>trivial) (fun G f _ => ?_) (i) 0 60 () (by omega) (by omega) trivial).trans ((jW _ _ _ _ _).trans (jK _ _ _ _ _))
 ·refine (rdWi G K ws s i k).trans ?_;rw [vJQ (show (k:Int) < (i:Int) by omega),uX (by omega),yU (show k < ws.no by omega),yU hI,toN,toN];cases ((ws.ob k).name.toList == (ws.ob i).name.toList) <;> rfl
 ·refine (rdWi G K ws s i (i:Int)).trans ?_;rw [vYH (show ¬ (i:Int) < (i:Int) by omega)];rfl
theorem okWi (ws:Wsp):∀ p S,qZ [([0,1,0,1,0,0,1,0,0,1,0,1,1,1,1,1,1,1],sumF (fun t:Int × Nat=>(hWi ws t.1 ((t.2:Nat):Int) 0)) (fun σ=>(slI σ 9,(slI σ 10).toNat)) (fun t K=>(bif (decide (t.2 < ws.no∧ws.no≤50)) then (bif (allN (fun k:Nat => !((ws.ob k).name.toList == (ws.ob t.2).name.toList)) t.2 0) then (K (.exit 8) ⟨[(1,.p 1 0),(9,.v (.n .i64 t.1)),(10,.v (.n .i64 t.2))],[(1,.blk ((wP ws).map .v))]⟩) else (K .ret ⟨[(1,.p 1 0),(2,.v (.n .i64 3402)),(9,.v (.n .i64 t.1)),(10,.v (.n .i64 t.2))],[(1,.blk ((wP ws).map .v))]⟩)) else none)))] p=some S→qJJ 60 (cxS Tf (orWp ws) 60 17 (ntmF Tf 17)) (qQ Tf 17 p) S:=fun p S hp=>by
 refine zH (L:=qQ Tf 17) (l:=[([0,1,0,1,0,0,1,0,0,1,0,1,1,1,1,1,1,1],sumF (fun t:Int × Nat=>(hWi ws t.1 ((t.2:Nat):Int) 0)) (fun σ=>(slI σ 9,(slI σ 10).toNat)) (fun t K=>(bif (decide (t.2 < ws.no∧ws.no≤50)) then (bif (allN (fun k:Nat => !((ws.ob k).name.toList == (ws.ob t.2).name.toList)) t.2 0) then (K (.exit 8) ⟨[(1,.p 1 0),(9,.v (.n .i64 t.1)),(10,.v (.n .i64 t.2))],[(1,.blk ((wP ws).map .v))]⟩) else (K .ret ⟨[(1,.p 1 0),(2,.v (.n .i64 3402)),(9,.v (.n .i64 t.1)),(10,.v (.n .i64 t.2))],[(1,.blk ((wP ws).map .v))]⟩)) else none)))]) ⟨?_,trivial⟩ p S hp;dsimp only;refine kH (T:=Tf) (o:=(orWp ws)) (f:=17) (LO:=qZ []) (p:=[0,1,0,1,0,0,1,0,0,1,0,1,1,1,1,1,1,1]) qQZ ?_;intro t K r hr;obtain ⟨hg,hr⟩:=qY hr
 skip
 exact (lpWi K ws t.1 t.2 (vJZ hg).1 (vJZ hg).2).trans hr
noncomputable def hWo (ws:Wsp) (i:Int) (s:Int):St:=⟨[(1,.p 1 0),(9,.v (.n .i64 s)),(10,.v (.n .i64 i))],[(1,.blk ((wP ws).map .v))]⟩
set_option maxRecDepth 100000 in
theorem rdWo (G:St→Option (Ret × Mem)) (K:Cont) (ws:Wsp) (i:Int) (s:Int):kV 60 (cxS Tf (orWp ws) 60 17 (ntmF Tf 17)) (evX Tf (orWp ws) 60 17 (ntmF Tf 17)) (qZ [([0,1,0,1,0,0,1,0,0,1,0,1,1,1,1,1,1,1],sumF (fun t:Int × Nat=>(hWi ws t.1 ((t.2:Nat):Int) 0)) (fun σ=>(slI σ 9,(slI σ 10).toNat)) (fun t K=>(bif (decide (t.2 < ws.no∧ws.no≤50)) then (bif (allN (fun k:Nat => !((ws.ob k).name.toList == (ws.ob t.2).name.toList)) t.2 0) then (K (.exit 8) ⟨[(1,.p 1 0),(9,.v (.n .i64 t.1)),(10,.v (.n .i64 t.2))],[(1,.blk ((wP ws).map .v))]⟩) else (K .ret ⟨[(1,.p 1 0),(2,.v (.n .i64 3402)),(9,.v (.n .i64 t.1)),(10,.v (.n .i64 t.2))],[(1,.blk ((wP ws).map .v))]⟩)) else none)))]) (qQ Tf 17 [0,1,0,1,1,1,1,1,1,1]) [0,1,0,1,1,1,1,1,1,1] (Tf.hint 17 (qU (qQ Tf 17 [0,1,0,1,1,1,1,1,1,1]))) K G (hWo ws i s) =
 (bif (decide (i < (ws.no:Int))) then (bif (inB i ws.no) then (bif (gF1 cob eob (ws.ob (i).toNat)) then (bif (obOk (ws.ob (i).toNat)) then (bif (gSt (hWi ws s i 0) (hWi ws s (((i).toNat:Nat):Int) 0)) then (bif (decide ((i).toNat < ws.no∧ws.no≤50)) then (bif (allN (fun k:Nat => !((ws.ob k).name.toList == (ws.ob (i).toNat).name.toList)) (i).toNat 0) then (bif (inB (((i).toNat:Nat):Int) ws.no) then (G (hWo ws (vJJ .i64 ((((i).toNat:Nat):Int) + 1)) (vJJ .i64 (s + ((ws.ob ((((i).toNat:Nat):Int)).toNat).ns:Int)))))
 else none)
 else (K .ret ⟨[(2,.v (.n .i64 3402)),(9,.v (.n .i64 s))],[]⟩))
 else none)
 else none)
 else (K .ret ⟨[(2,.v (.n .i64 3402)),(9,.v (.n .i64 s))],[]⟩))
 else none)
 else none)
 else (K (.exit 6) ⟨[(9,.v (.n .i64 s))],[]⟩)):=by kernel_rfl
theorem lpWo (K:Cont) (ws:Wsp) (hn:ws.no≤50) (ho:okW ws):LFX 60 (cxS Tf (orWp ws) 60 17 (ntmF Tf 17)) (evX Tf (orWp ws) 60 17 (ntmF Tf 17)) (qZ [([0,1,0,1,0,0,1,0,0,1,0,1,1,1,1,1,1,1],sumF (fun t:Int × Nat=>(hWi ws t.1 ((t.2:Nat):Int) 0)) (fun σ=>(slI σ 9,(slI σ 10).toNat)) (fun t K=>(bif (decide (t.2 < ws.no∧ws.no≤50)) then (bif (allN (fun k:Nat => !((ws.ob k).name.toList == (ws.ob t.2).name.toList)) t.2 0) then (K (.exit 8) ⟨[(1,.p 1 0),(9,.v (.n .i64 t.1)),(10,.v (.n .i64 t.2))],[(1,.blk ((wP ws).map .v))]⟩) else (K .ret ⟨[(1,.p 1 0),(2,.v (.n .i64 3402)),(9,.v (.n .i64 t.1)),(10,.v (.n .i64 t.2))],[(1,.blk ((wP ws).map .v))]⟩)) else none)))]) (qQ Tf 17 [0,1,0,1,1,1,1,1,1,1]) [0,1,0,1,1,1,1,1,1,1] (Tf.hint 17 (qU (qQ Tf 17 [0,1,0,1,1,1,1,1,1,1]))) K 60 (hWo ws 0 (ws.c:Int))=bif obA ws then (K (.exit 6) ⟨[(9,.v (.n .i64 (cntF ws ws.no)))],[]⟩) else (K .ret ⟨[(2,.v (.n .i64 3402)),(9,.v (.n .i64 (cntF ws (Rx.firstK (fun j:Nat=>obG ws j) ws.no 0))))],[]⟩):=by
 refine (qQV (L:=LFX 60 (cxS Tf (orWp ws) 60 17 (ntmF Tf 17)) (evX Tf (orWp ws) 60 17 (ntmF Tf 17)) (qZ [([0,1,0,1,0,0,1,0,0,1,0,1,1,1,1,1,1,1],sumF (fun t:Int × Nat=>(hWi ws t.1 ((t.2:Nat):Int) 0)) (fun σ=>(slI σ 9,(slI σ 10).toNat)) (fun t K=>(bif (decide (t.2 < ws.no∧ws.no≤50)) then (bif (allN (fun k:Nat => !((ws.ob k).name.toList == (ws.ob t.2).name.toList)) t.2 0) then (K (.exit 8) ⟨[(1,.p 1 0),(9,.v (.n .i64 t.1)),(10,.v (.n .i64 t.2))],[(1,.blk ((wP ws).map .v))]⟩) else (K .ret ⟨[(1,.p 1 0),(2,.v (.n .i64 3402)),(9,.v (.n .i64 t.1)),(10,.v (.n .i64 t.2))],[(1,.blk ((wP ws).map .v))]⟩)) else none)))]) (qQ Tf 17 [0,1,0,1,1,1,1,1,1,1]) [0,1,0,1,1,1,1,1,1,1] (Tf.hint 17 (qU (qQ Tf 17 [0,1,0,1,1,1,1,1,1,1]))) K) (stp:=kV 60 (cxS Tf (orWp ws) 60 17 (ntmF Tf 17)) (evX Tf (orWp ws) 60 17 (ntmF Tf 17)) (qZ [([0,1,0,1,0,0,1,0,0,1,0,1,1,1,1,1,1,1],sumF (fun t:Int × Nat=>(hWi ws t.1 ((t.2:Nat):Int) 0)) (fun σ=>(slI σ 9,(slI σ 10).toNat)) (fun t K=>(bif (decide (t.2 < ws.no∧ws.no≤50)) then (bif (allN (fun k:Nat => !((ws.ob k).name.toList == (ws.ob t.2).name.toList)) t.2 0) then (K (.exit 8) ⟨[(1,.p 1 0),(9,.v (.n .i64 t.1)),(10,.v (.n .i64 t.2))],[(1,.blk ((wP ws).map .v))]⟩) else (K .ret ⟨[(1,.p 1 0),(2,.v (.n .i64 3402)),(9,.v (.n .i64 t.1)),(10,.v (.n .i64 t.2))],[(1,.blk ((wP ws).map .v))]⟩)) else none)))]) (qQ Tf 17 [0,1,0,1,1,1,1,1,1,1]) [0,1,0,1,1,1,1,1,1,1] (Tf.hint 17 (qU (qQ Tf 17 [0,1,0,1,1,1,1,1,1,1]))) K) (fun _ _=>rfl) (fun (i:Nat) (_:Unit)=>hWo ws (i:Int) (cntF ws i)) (fun _ _=>True) (fun (i:Nat) _=>obG ws i) (fun _ _=>()) (c:=ws.no) (fun _=>(K (.exit 6) ⟨[(9,.v (.n .i64 (cntF ws ws.no)))],[]⟩)) (fun i _=>(K .ret ⟨[(2,.v (.n .i64 3402)),(9,.v (.n .i64 (cntF ws i)))],[]⟩)) (fun G i f hi _ => ?_) (fun _ _ _ _ _=>trivial) (fun G f _ => ?_) ws.no 0 60 () (by omega) (by omega) trivial).trans ((jW _ _ _ _ _).trans (qYV _ _ _ _ _))
 ·have h1:(ws.ob i).ns≤9223372036854775807:=Nat.le_trans (ho i hi) (by decide);refine (rdWo G K ws i (cntF ws i)).trans ?_;rw [vJQ (show (i:Int) < (ws.no:Int) by omega),uX (by omega),yU hi,toN,jX (C:=cob) (t:=ws.ob i) h1,jY,vJQ (show i < ws.no∧ws.no≤50 from ⟨hi,hn⟩)];unfold obG obOk;rw [yU hi,show allN (fun k:Nat => !((ws.ob k).name.toList == (ws.ob i).name.toList)) i 0 = !dupO ws.ob (ws.ob i) i from by unfold dupO; rw [Bool.not_not]];cases nmB (ws.ob i).name <;> cases dupO ws.ob (ws.ob i) i <;> cases soOk (ws.ob i) <;> rfl
 ·refine (rdWo G K ws (ws.no:Int) (cntF ws ws.no)).trans ?_;rw [vYH (show ¬ (ws.no:Int) < (ws.no:Int) by omega)];rfl
noncomputable def kQK (ws:Wsp):List (List Nat × kY):=[([0,1,0,1,1,1],sumF (fun _:Unit=>(hWp ws 0)) (fun _=>()) (fun _ K=>(bif (decide (ws.np≤50)) then (bif (allN (fun i:Nat=>zOk 2097152 (ws.pl i)) ws.np 0) then (K (.exit 0) ⟨[(1,.p 1 0)],[(1,.blk ((wP ws).map .v))]⟩) else (K .ret ⟨[(1,.p 1 0),(2,.v (.n .i64 3401))],[(1,.blk ((wP ws).map .v))]⟩)) else none))),([0,1,0,1,1,1,1],sumF (fun _:Unit=>(hWq ws 0)) (fun _=>()) (fun _ K=>(bif (decide (ws.nh≤50)) then (bif (allN (fun i:Nat=>hdOk ws.n (ws.hd i)) ws.nh 0) then (K (.exit 2) ⟨[(1,.p 1 0)],[(1,.blk ((wP ws).map .v))]⟩) else (K .ret ⟨[(1,.p 1 0),(2,.v (.n .i64 3401))],[(1,.blk ((wP ws).map .v))]⟩)) else none))),([0,1,0,1,1,1,1,1],sumF (fun _:Unit=>(hWr ws 0)) (fun _=>()) (fun _ K=>(bif (decide (ws.ng≤50)) then (bif (allN (fun i:Nat=>grOk ws (ws.gr i)) ws.ng 0) then (K (.exit 4) ⟨[(1,.p 1 0)],[(1,.blk ((wP ws).map .v))]⟩) else (K .ret ⟨[(1,.p 1 0),(2,.v (.n .i64 3401))],[(1,.blk ((wP ws).map .v))]⟩)) else none))),([0,1,0,1,1,1,1,1,1,1],sumF (fun _:Unit=>(hWo ws 0 (ws.c:Int))) (fun _=>()) (fun _ K=>(bif gP (ws.no≤50∧okW ws) then (bif obA ws then (K (.exit 6) ⟨[(9,.v (.n .i64 (cntF ws ws.no)))],[]⟩) else (K .ret ⟨[(2,.v (.n .i64 3402)),(9,.v (.n .i64 (cntF ws (Rx.firstK (fun j:Nat=>obG ws j) ws.no 0))))],[]⟩)) else none)))]
set_option maxRecDepth 100000 in
theorem pxrcw (ws:Wsp):qYY Tf (orWp ws) (qZ (kQK ws)) 60 17 [.a (wP ws)] =
 (bif (gF1 crc_ erc_ (ws.js,ws.ms,ws.sh,ws.sk,ws.n,ws.m,ws.c,ws.d)) then (bif (!decide ((sErr ws.js ws.ms ws.sh ws.sk ws.n ws.m ws.c ws.d)=0)) then some (.v (.n .i64 (sErr ws.js ws.ms ws.sh ws.sk ws.n ws.m ws.c ws.d)),[])
 else (bif (decide (6 < (ws.no:Int))) then some (.v (.n .i64 3401),[])
 else (bif (decide (8 < (ws.np:Int))) then some (.v (.n .i64 3401),[])
 else (bif (decide (3 < (ws.nh:Int))) then some (.v (.n .i64 3401),[])
 else (bif (decide (32 < (ws.ng:Int))) then some (.v (.n .i64 3401),[])
 else (bif (decide (ws.slack < 0)) then some (.v (.n .i64 3401),[])
 else (bif (decide (65536 < ws.slack)) then some (.v (.n .i64 3401),[])
 else (bif (gSt (hWp ws 0) (hWp ws 0)) then (bif (decide (ws.np≤50)) then (bif (allN (fun i:Nat=>zOk 2097152 (ws.pl i)) ws.np 0) then (bif (gSt (hWq ws 0) (hWq ws 0)) then (bif (decide (ws.nh≤50)) then (bif (allN (fun i:Nat=>hdOk ws.n (ws.hd i)) ws.nh 0) then (bif (gSt (hWr ws 0) (hWr ws 0)) then (bif (decide (ws.ng≤50)) then (bif (allN (fun i:Nat=>grOk ws (ws.gr i)) ws.ng 0) then (bif (gSt (hWo ws 0 (ws.c:Int)) (hWo ws 0 (ws.c:Int))) then (bif gP (ws.no≤50∧okW ws) then (bif (obA ws) then (bif (decide (24 < (cntF ws ws.no))) then some (.v (.n .i64 3401),[])
 else some (.v (.n .i64 0),[]))
 else some (.v (.n .i64 3402),[]))
 else none)
 else none)
 else some (.v (.n .i64 3401),[]))
 else none)
 else none)
 else some (.v (.n .i64 3401),[]))
 else none)
 else none)
 else some (.v (.n .i64 3401),[]))
 else none)
 else none))))))))
 else none):=by kernel_rfl
theorem snd_rcw (ws:Wsp) (ho:okW ws):yV Tryz.prog 17 [.a (wP ws)] (.v (.n .i64 (wErr ws))):=by
 refine yQ (N:=60) (LO:=qZ (kQK ws)) kW zW (kG (l:=[(56,kJK),(57,o_nq),(58,o_ri),(59,o_ob)]) (m:=[]) ⟨ok_rc_,ok_nq,ok_ri,ok_ob,trivial⟩ trivial) (fun p S hp => ?_) ?_
 ·refine zH (L:=qQ Tf 17) (l:=(kQK ws)) (show AllP _ (kQK ws) from ⟨?_,?_,?_,?_,trivial⟩) p S hp
  ·dsimp only;refine kH (T:=Tf) (o:=(orWp ws)) (f:=17) (LO:=qZ []) (p:=[0,1,0,1,1,1]) qQZ ?_;intro t K r hr;obtain ⟨hg,hr⟩:=qY hr;have hk:=vJZ hg;exact (lpWp K ws hk).trans hr
  ·dsimp only;refine kH (T:=Tf) (o:=(orWp ws)) (f:=17) (LO:=qZ []) (p:=[0,1,0,1,1,1,1]) qQZ ?_;intro t K r hr;obtain ⟨hg,hr⟩:=qY hr;have hk:=vJZ hg;exact (lpWq K ws hk).trans hr
  ·dsimp only;refine kH (T:=Tf) (o:=(orWp ws)) (f:=17) (LO:=qZ []) (p:=[0,1,0,1,1,1,1,1]) qQZ ?_;intro t K r hr;obtain ⟨hg,hr⟩:=qY hr;have hk:=vJZ hg;exact (lpWr K ws hk).trans hr
  ·dsimp only;refine kH (T:=Tf) (o:=(orWp ws)) (f:=17) (LO:=(qZ [([0,1,0,1,0,0,1,0,0,1,0,1,1,1,1,1,1,1],sumF (fun t:Int × Nat=>(hWi ws t.1 ((t.2:Nat):Int) 0)) (fun σ=>(slI σ 9,(slI σ 10).toNat)) (fun t K=>(bif (decide (t.2 < ws.no∧ws.no≤50)) then (bif (allN (fun k:Nat => !((ws.ob k).name.toList == (ws.ob t.2).name.toList)) t.2 0) then (K (.exit 8) ⟨[(1,.p 1 0),(9,.v (.n .i64 t.1)),(10,.v (.n .i64 t.2))],[(1,.blk ((wP ws).map .v))]⟩) else (K .ret ⟨[(1,.p 1 0),(2,.v (.n .i64 3402)),(9,.v (.n .i64 t.1)),(10,.v (.n .i64 t.2))],[(1,.blk ((wP ws).map .v))]⟩)) else none)))])) (p:=[0,1,0,1,1,1,1,1,1,1]) (okWi ws) ?_;intro t K r hr;obtain ⟨hg,hr⟩:=qY hr
   skip
   exact (lpWo K ws (kX hg).1 (kX hg).2).trans hr
 ·refine (pxrcw ws).trans ?_;unfold wErr;rw [jX (C:=crc_) (t:=(ws.js,ws.ms,ws.sh,ws.sk,ws.n,ws.m,ws.c,ws.d)) trivial];show (bif true then (bif !decide (sEW ws=0) then some (Ret.v (.n .i64 (sEW ws)),([]:Mem)) else _) else none)=_;by_cases h:sEW ws=0
  ·rw [vJQ h];unfold fiB szG plG hdG grG;by_cases h1:6 < (ws.no:Int)
   ·rw [vJQ h1]; rfl
   by_cases h2:8 < (ws.np:Int)
   ·rw [vYH h1,vJQ h2]; rfl
   by_cases h3:3 < (ws.nh:Int)
   ·rw [vYH h1,vYH h2,vJQ h3]; rfl
   by_cases h4:32 < (ws.ng:Int)
   ·rw [vYH h1,vYH h2,vYH h3,vJQ h4]; rfl
   rw [vYH h1,vYH h2,vYH h3,vYH h4];simp only [jY,vJQ (show ws.np≤50 by omega),vJQ (show ws.nh≤50 by omega),vJQ (show ws.ng≤50 by omega),zWW (show ws.no≤50∧okW ws from ⟨by omega,ho⟩),vYV];cases decide (ws.slack < 0) with
   | true=>rfl
   | false =>
    cases decide (65536 < ws.slack) with
    | true=>rfl
    | false =>
     cases allN (fun i:Nat=>zOk 2097152 (ws.pl i)) ws.np 0 with
     | false=>rfl
     | true =>
      cases allN (fun i:Nat=>hdOk ws.n (ws.hd i)) ws.nh 0 with
      | false=>rfl
      | true =>
       cases allN (fun i:Nat=>grOk ws (ws.gr i)) ws.ng 0 with
       | false=>rfl
       | true =>
        cases obA ws with
        | false=>rfl
        | true =>
         cases decide (24 < cntF ws ws.no) <;> rfl
  ·rw [vYH h]; rfl
def crw:Wsp→Prop:=fun t=>match t with | ws=>okW ws
def erw:Wsp→List PV:=fun t=>match t with | ws=>[.a (wP ws)]
noncomputable def rrw:Wsp→Ret:=fun t=>match t with | ws=>.v (.n .i64 (wErr ws))
def drw:List PV→Wsp:=fun ps=>match ps with
 | [.a r]=>unW r
 | _=>(unW [])
noncomputable def o_rw:List PV→Option (Bool × Ret):=o_fm drw crw erw rrw
theorem ok_rw:zJ Tryz.prog 17 o_rw:=qYJ fun t h=>by
 revert h; revert t; intro ws h
 exact snd_rcw ws h
end Go.Proofs.YtgmbkkkbfbocnaaGreat.Hd
namespace Go.Rx
open Go.RowKit Go.Sx
theorem snd_two {P:Program} {f:Nat} {r:Ret} (h1:yV P f [.nz] r) (h2:yV P f [.ne] r):yV P f [.l []] r:=by
 refine ⟨h1.1,fun w F vals hF hal => ?_⟩;obtain ⟨v,vs,rfl,hv,ha⟩:=qVH hal;obtain rfl:=yVV ha;cases hv with
 | l0 ad c =>
  cases ad with
  | none=>exact h1.2 w F _ hF (qUK (.nz c) zYQ)
  | some a=>exact h2.2 w F _ hF (qUK (.ne a c) zYQ)
 | l _ b off n c sz g hn => 
  subst hn;exact h2.2 w F _ hF (qUK (.ne _ c) zYQ)
end Go.Rx
namespace Go.Proofs.YtgmbkkkbfbocnaaGreat.He
end Go.Proofs.YtgmbkkkbfbocnaaGreat.He
namespace Go.Proofs.YtgmbkkkbfbocnaaGreat.Hf
open Go.Rx Rt Go.Sx Go.RowKit Od Na Nb Nc Nx Nf Nl Nm Ga Gb Gc Gd Ge Gf Gg Ha Hb Hc Hd He
def unFB (f:Nat→List PV):Nat→Iv:=fun v=>match f v with
 | [.n _ a,.n _ b]=>⟨a,b⟩
 | _=>⟨0,0⟩
def cat:Wsp × Int × Int × Nat × (Nat→Int)→Prop:=fun t=>match t with | (ws,_,_,_,_)=>okW ws
end Go.Proofs.YtgmbkkkbfbocnaaGreat.Hf
namespace Go.Proofs.YtgmbkkkbfbocnaaGreat.Hg
end Go.Proofs.YtgmbkkkbfbocnaaGreat.Hg
namespace Go.Proofs.YtgmbkkkbfbocnaaGreat.Hh
end Go.Proofs.YtgmbkkkbfbocnaaGreat.Hh
namespace Go.Proofs.YtgmbkkkbfbocnaaGreat.Hi
open Go.Rx Rt Go.Sx Go.RowKit Od Na Nb Nc Nx Nf Nl Nm Ga Gb Gc Gd Ge Gf Gg Ha Hb Hc Hd He Hf Hg Hh
def sumN (f:Nat→Nat):Nat→Nat
 | 0=>0
 | i + 1=>sumN f i + f i
theorem jWQ (f:Nat→Nat) (b:Nat):∀ n,(∀ i,i < n→f i≤b)→sumN f n≤n * b
 | 0,_=>Nat.zero_le _
 | n + 1,h=>by
  have h1:=jWQ f b n fun i hi=>h i (by omega)
  have h2:=h n (by omega);unfold sumN;rw [Nat.add_mul]; omega
theorem cntF_eq {ws:Wsp} (ho:okW ws) (hc:ws.c≤24) (hn:ws.no≤6):∀ i,i≤ws.no→cntF ws i=((ws.c + sumN (fun j=>(ws.ob j).ns) i:Nat):Int)
 | 0,_=>rfl
 | i + 1,hi=>by
  have ih:=cntF_eq ho hc hn i (by omega);have hb:=jWQ (fun j=>(ws.ob j).ns) 8796093021952 i fun j hj=>ho j (by omega)
  have h1:=ho i (by omega);have hi2:i * 8796093021952≤6 * 8796093021952:=Nat.mul_le_mul_right _ (by omega);show vJJ .i64 (cntF ws i + ((ws.ob i).ns:Int))=_;rw [ih];show _=((ws.c + (sumN (fun j=>(ws.ob j).ns) i + (ws.ob i).ns):Nat):Int);have hb':sumN (fun j=>(ws.ob j).ns) i≤i * 8796093021952:=hb;rw [qH (by omega)];omega
end Go.Proofs.YtgmbkkkbfbocnaaGreat.Hi
namespace Go.Proofs.YtgmbkkkbfbocnaaGreat.Hj
end Go.Proofs.YtgmbkkkbfbocnaaGreat.Hj
namespace Go.Proofs.YtgmbkkkbfbocnaaGreat.Hk
open Go.Rx Rt Go.Sx Go.RowKit Od Na Nb Nc Nx Nf Nl Nm Ga Gb Gc Gd Ge Gf Gg Ha Hb Hc Hd He Hf Hg Hh Hi Hj
theorem isLk_of {n:Nat} {l:Int} (h : -1≤l∧l < (n:Int)):isLk n l=true:=by
 unfold isLk;rw [vJQ h.1,vJQ h.2]; rfl
theorem yGJ {k:Int} {p:Z3} (_:(-k≤p.x∧p.x≤k)∧(-k≤p.y∧p.y≤k)∧(-k≤p.z∧p.z≤k)):zOk k p=true:=by
 unfold zOk;rw [vYH (show ¬ p.x < -k by omega),vYH (show ¬ k < p.x by omega),vYH (show ¬ p.y < -k by omega),vYH (show ¬ k < p.y by omega),vYH (show ¬ p.z < -k by omega),vYH (show ¬ k < p.z by omega)]; rfl
end Go.Proofs.YtgmbkkkbfbocnaaGreat.Hk
namespace Go.Proofs.YtgmbkkkbfbocnaaGreat.Sn
open Go.Rx Rt Go.Sx Go.RowKit Od Nb
noncomputable def orrnd (x k:Int):OrS:=orS [] []
noncomputable def kQJ (x k:Int):List (List Nat × kY):=[]
set_option maxRecDepth 100000 in
theorem pxrnd (x k:Int):qYY Tf (orrnd x k) (qZ (kQJ x k)) 60 20 [.n .i64 x,.n .i64 k] =
 (bif (decide (k=0)) then none
 else (bif (decide ((x.tmod k) < 0)) then some (.v (.n .i64 (vJJ .i64 ((x.tmod k) + k))),[])
 else some (.v (.n .i64 (x.tmod k)),[]))):=by kernel_rfl
theorem jQG (x k:Int) (hk:0 < k∧k≤9223372036854775807):yV Tryz.prog 20 [.n .i64 x,.n .i64 k] (.v (.n .i64 (x % k))):=by
 refine yQ (N:=60) (LO:=qZ (kQJ x k)) kW zW (kG (l:=[]) (m:=[]) trivial trivial) (fun p S hp => ?_) ?_
 ·refine zH (L:=qQ Tf 20) (l:=(kQJ x k)) (show AllP _ (kQJ x k) from trivial) p S hp
 ·refine (pxrnd x k).trans ?_;have hk0:k ≠ 0:=by omega
  have h1:=Int.emod_nonneg x hk0;have h2:=Int.emod_lt_of_pos x hk.1;rw [vYH (show ¬ k=0 by omega),Int.tmod_eq_emod];by_cases h:0≤x ∨ k ∣ x
  ·rw [if_pos h,show ((0:Nat):Int)=0 from rfl,Int.sub_zero,vYH (show ¬ x % k < 0 by omega)];rfl
  ·rw [if_neg h,show ((k.natAbs:Nat):Int)=k by omega,vJQ (show x % k - k < 0 by omega),show vJJ .i64 (x % k - k + k)=x % k from by rw [show x % k - k + k=x % k by omega]; exact qH (by omega)];rfl
def crn:Int × Int→Prop:=fun t=>match t with | (_,k)=>0 < k∧k≤9223372036854775807
def ern:Int × Int→List PV:=fun t=>match t with | (x,k)=>[.n .i64 x,.n .i64 k]
noncomputable def rrn:Int × Int→Ret:=fun t=>match t with | (x,k)=>.v (.n .i64 (x % k))
def drn:List PV→Int × Int:=fun ps=>match ps with
 | [.n _ x,.n _ k]=>(x,k)
 | _=>(0,0)
noncomputable def o_rn:List PV→Option (Bool × Ret):=o_fm drn crn ern rrn
theorem jHH:zJ Tryz.prog 20 o_rn:=qYJ fun t h=>by
 obtain ⟨x,k⟩:=t;exact jQG x k h
noncomputable def ornx (w m:Nat) (e:Nat→Int) (k:Int):OrS:=orS [(20,o_rn)] []
noncomputable def lsnx (w m:Nat) (e:Nat→Int) (k:Int):List (List Nat × kY):=[]
set_option maxRecDepth 100000 in
theorem pxnx (w m:Nat) (e:Nat→Int) (k:Int):runBX Tf (ornx w m e k) (qZ (lsnx w m e k)) 60 30 [.p 1000000 0,.v (.n .i64 k)] [.lf w (fQ e),.n .i64 (m:Int)] =
 (bif (decide ((w:Int)≤(m:Int))) then some (.v (.t [.n .i64 0,.lf w (fQ e),.n .i64 (m:Int)]),[])
 else (bif (inB (vJJ .i64 ((vJJ .i64 ((m:Int) + 1)) - 1)) w) then (bif (gF1 crn ern ((e ((vJJ .i64 ((vJJ .i64 ((m:Int) + 1)) - 1))).toNat),k)) then some (.v (.t [.n .i64 ((e ((vJJ .i64 ((vJJ .i64 ((m:Int) + 1)) - 1))).toNat) % k),.lf w (fQ e),.n .i64 (vJJ .i64 ((m:Int) + 1))]),[])
 else none)
 else none)):=by kernel_rfl
theorem snd_nx (w m:Nat) (e:Nat→Int) (k:Int) (_:m≤w) (_:w≤9223372036854775807) (hk:0 < k∧k≤9223372036854775807):yHG Tryz.prog 30 [.p 1000000 0,.v (.n .i64 k)] [.lf w (fQ e),.n .i64 (m:Int)] (.n .i64 (nxV e w m k)) ([.lf w (fQ e),.n .i64 ((min (m + 1) w:Nat):Int)]):=by
 refine runBX_sound (N:=60) (LO:=qZ (lsnx w m e k)) kW zW (kG (l:=[(20,o_rn)]) (m:=[]) ⟨jHH,trivial⟩ trivial) (fun p S hp => ?_) ?_
 ·refine zH (L:=qQ Tf 30) (l:=(lsnx w m e k)) (show AllP _ (lsnx w m e k) from trivial) p S hp
 ·refine (pxnx w m e k).trans ?_;unfold nxV eW;by_cases h:m < w
  ·have h1:vJJ .i64 ((m:Int) + 1)=(m:Int) + 1:=qH (by omega);have h2:vJJ .i64 ((m:Int) + 1 - 1)=((m:Nat):Int):=by rw [qH (by omega)]; omega
   rw [vYH (show ¬ (w:Int)≤(m:Int) by omega),h1,h2,yU h,toN,jX (C:=crn) (t:=(_,k)) hk,show Nat.blt m w=true from by rw [Nat.blt_eq]; exact h,show min (m + 1) w=m + 1 by omega];rfl
  ·rw [vJQ (show (w:Int)≤(m:Int) by omega),show Nat.blt m w=false from by rw [Bool.eq_false_iff,ne_eq,Nat.blt_eq]; exact h,show min (m + 1) w=m by omega]
   simp
def cnx:Nat × Nat × (Nat→Int) × Int→Prop:=fun t=>match t with | (w,m,_,k)=>m≤w∧w≤9223372036854775807∧0 < k∧k≤9223372036854775807
def hnx:Nat × Nat × (Nat→Int) × Int→List HV:=fun t=>match t with | (_,_,_,k)=>[.p pid 0,.v (.n .i64 k)]
def enx:Nat × Nat × (Nat→Int) × Int→List PV:=fun t=>match t with | (w,m,e,_)=>[.lf w (fQ e),.n .i64 (m:Int)]
noncomputable def xnx:Nat × Nat × (Nat→Int) × Int→PV:=fun t=>match t with | (w,m,e,k)=>.n .i64 (nxV e w m k)
noncomputable def qnx:Nat × Nat × (Nat→Int) × Int→List PV:=fun t=>match t with | (w,m,e,_)=>[.lf w (fQ e),.n .i64 ((min (m + 1) w:Nat):Int)]
def dnx:List HV→List PV→Nat × Nat × (Nat→Int) × Int:=fun hs ps=>match hs,ps with
 | [_,.v (.n _ k)],[.lf w f,.n _ c]=>(w,c.toNat,unFQ f,k)
 | _,_=>(0,0,fun _=>0,0)
noncomputable def o_nx:List HV→List PV→Option (Bool × (PV × List PV)):=o_fb dnx cnx hnx enx xnx qnx
theorem ok_nx:jHQ Tryz.prog 30 o_nx:=ok_fb fun t h=>by
 obtain ⟨w,m,e,k⟩:=t;exact snd_nx w m e k h.1 h.2.1 h.2.2
def abcB:ByteArray:=ByteArray.mk #[97,98,99,100,101,102,103,104,105,106]
def ltrI (i:Int):ByteArray:=abcB.extract i.toNat (vJJ .i64 (i + 1)).toNat
end Go.Proofs.YtgmbkkkbfbocnaaGreat.Sn

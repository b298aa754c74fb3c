/- Part 15 of the texts behind the last one: rules and contracts. No condition. -/
import Derived.Test.YtmeldddgjfocdaaGreatGL14
open Bool renaming and_eq_true → vQJ, and_self → vZJ, true_and → vZH
open Go.IntKind renaming wrap → vJJ
namespace Go.Proofs.YtmeldddgjfocdaaGreat.Hd
open Go.Rx Rt Go.Sx Go.RowKit Od Na Nb Nc Nx Nf Nl Nm Ga Gb Gc Gd Ge Gf Gg Ha Hb Hc
noncomputable def orWp (_:Wsp):OrS:=orS [(37,uVD),(64,o_nq),(65,o_ri),(66,o_ob)] []
noncomputable def hWp (ws:Wsp) (i:Int):St:=⟨[(1,.p 1 0),(4,.v (.n .i64 i))],[(1,.blk ((wP ws).map .v))]⟩
set_option maxRecDepth 100000 in
theorem rdWp (G:St→Option (Ret × Mem)) (K:Cont) (ws:Wsp) (i:Int):stpT Tf 20 (orWp ws) 60 [] [0,1,0,1,1,1] K G (hWp ws i) =
 (bif (decide (i < (ws.np:Int))) then (bif (inB i ws.np) then (bif (gF1 cnq enq (ws.pl (i).toNat)) then (bif (zOk 2097152 (ws.pl (i).toNat)) then (G (hWp ws (vJJ .i64 (i + 1))))
 else (K .ret ⟨[(1,.p 1 0),(2,.v (.n .i64 3401))],[(1,.blk ((wP ws).map .v))]⟩))
 else none)
 else none)
 else (K (.exit 0) ⟨[(1,.p 1 0)],[(1,.blk ((wP ws).map .v))]⟩)):=by kernel_rfl
theorem lpWp (K:Cont) (ws:Wsp) (_:ws.np≤50):LFT Tf 20 (orWp ws) 60 [] [0,1,0,1,1,1] K 60 (hWp ws 0)=bif (allN (fun i:Nat=>zOk 2097152 (ws.pl i)) ws.np 0) then (K (.exit 0) ⟨[(1,.p 1 0)],[(1,.blk ((wP ws).map .v))]⟩) else (K .ret ⟨[(1,.p 1 0),(2,.v (.n .i64 3401))],[(1,.blk ((wP ws).map .v))]⟩):=by
 refine (kV (L:=LFT Tf 20 (orWp ws) 60 [] [0,1,0,1,1,1] K) (stp:=stpT Tf 20 (orWp ws) 60 [] [0,1,0,1,1,1] K) (fun _ _=>rfl) (fun (i:Nat) (_:Unit)=>hWp ws (i:Int)) (fun _ _=>True) (fun (i:Nat) _=>zOk 2097152 (ws.pl i)) (fun _ _=>()) (c:=ws.np) (fun _=>(K (.exit 0) ⟨[(1,.p 1 0)],[(1,.blk ((wP ws).map .v))]⟩)) (fun i _=>(K .ret ⟨[(1,.p 1 0),(2,.v (.n .i64 3401))],[(1,.blk ((wP ws).map .v))]⟩)) (fun G i f hi _ => ?_) (fun _ _ _ _ _=>trivial) (fun G f _ => ?_) ws.np 0 60 () (by omega) (by omega) trivial).trans ((jY _ _ _ _ _).trans (jZ _ _ _ _ _))
 ·refine (rdWp G K ws i).trans ?_;rw [vJQ (show (i:Int) < (ws.np:Int) by omega),kK (by omega),yU (show i < ws.np by omega),toN,jX (C:=cnq) (t:=ws.pl i) trivial];cases zOk 2097152 (ws.pl i) <;> rfl
 ·refine (rdWp G K ws ws.np).trans ?_;rw [vYH (show ¬ (ws.np:Int) < (ws.np:Int) by omega)];rfl
noncomputable def hWq (ws:Wsp) (i:Int):St:=⟨[(1,.p 1 0),(5,.v (.n .i64 i))],[(1,.blk ((wP ws).map .v))]⟩
set_option maxRecDepth 100000 in
theorem rdWq (G:St→Option (Ret × Mem)) (K:Cont) (ws:Wsp) (i:Int):stpT Tf 20 (orWp ws) 60 [] [0,1,0,1,1,1,1] K G (hWq ws i) =
 (bif (decide (i < (ws.nh:Int))) then (bif (inB i ws.nh) then (bif (decide ((ws.hd (i).toNat).link < 0)) then (K .ret ⟨[(1,.p 1 0),(2,.v (.n .i64 3401))],[(1,.blk ((wP ws).map .v))]⟩)
 else (bif (decide ((ws.n:Int)≤(ws.hd (i).toNat).link)) then (K .ret ⟨[(1,.p 1 0),(2,.v (.n .i64 3401))],[(1,.blk ((wP ws).map .v))]⟩)
 else (bif (gF1 cnq enq ((ws.hd (i).toNat).off)) then (bif (zOk 2097152 ((ws.hd (i).toNat).off)) then (G (hWq ws (vJJ .i64 (i + 1))))
 else (K .ret ⟨[(1,.p 1 0),(2,.v (.n .i64 3401))],[(1,.blk ((wP ws).map .v))]⟩))
 else none)))
 else none)
 else (K (.exit 2) ⟨[(1,.p 1 0)],[(1,.blk ((wP ws).map .v))]⟩)):=by kernel_rfl
theorem lpWq (K:Cont) (ws:Wsp) (_:ws.nh≤50):LFT Tf 20 (orWp ws) 60 [] [0,1,0,1,1,1,1] K 60 (hWq ws 0)=bif (allN (fun i:Nat=>hdOk ws.n (ws.hd i)) ws.nh 0) then (K (.exit 2) ⟨[(1,.p 1 0)],[(1,.blk ((wP ws).map .v))]⟩) else (K .ret ⟨[(1,.p 1 0),(2,.v (.n .i64 3401))],[(1,.blk ((wP ws).map .v))]⟩):=by
 refine (kV (L:=LFT Tf 20 (orWp ws) 60 [] [0,1,0,1,1,1,1] K) (stp:=stpT Tf 20 (orWp ws) 60 [] [0,1,0,1,1,1,1] K) (fun _ _=>rfl) (fun (i:Nat) (_:Unit)=>hWq ws (i:Int)) (fun _ _=>True) (fun (i:Nat) _=>hdOk ws.n (ws.hd i)) (fun _ _=>()) (c:=ws.nh) (fun _=>(K (.exit 2) ⟨[(1,.p 1 0)],[(1,.blk ((wP ws).map .v))]⟩)) (fun i _=>(K .ret ⟨[(1,.p 1 0),(2,.v (.n .i64 3401))],[(1,.blk ((wP ws).map .v))]⟩)) (fun G i f hi _ => ?_) (fun _ _ _ _ _=>trivial) (fun G f _ => ?_) ws.nh 0 60 () (by omega) (by omega) trivial).trans ((jY _ _ _ _ _).trans (jZ _ _ _ _ _))
 ·refine (rdWq G K ws i).trans ?_;rw [vJQ (show (i:Int) < (ws.nh:Int) by omega),kK (by omega),yU (show i < ws.nh by omega),toN,jX (C:=cnq) (t:=(ws.hd i).off) trivial];unfold hdOk;cases decide ((ws.hd i).link < 0) <;> cases decide ((ws.n:Int)≤(ws.hd i).link) <;> cases zOk 2097152 (ws.hd i).off <;> rfl
 ·refine (rdWq G K ws ws.nh).trans ?_;rw [vYH (show ¬ (ws.nh:Int) < (ws.nh:Int) by omega)];rfl
noncomputable def hWr (ws:Wsp) (i:Int):St:=⟨[(1,.p 1 0),(7,.v (.n .i64 i))],[(1,.blk ((wP ws).map .v))]⟩
set_option maxRecDepth 100000 in
theorem rdWr (G:St→Option (Ret × Mem)) (K:Cont) (ws:Wsp) (i:Int):stpT Tf 20 (orWp ws) 60 [] [0,1,0,1,1,1,1,1] K G (hWr ws i) =
 (bif (decide (i < (ws.ng:Int))) then (bif (inB i ws.ng) then (bif (decide ((ws.gr (i).toNat).hand < 0)) then (K .ret ⟨[(1,.p 1 0),(2,.v (.n .i64 3401))],[(1,.blk ((wP ws).map .v))]⟩)
 else (bif (decide ((ws.nh:Int)≤(ws.gr (i).toNat).hand)) then (K .ret ⟨[(1,.p 1 0),(2,.v (.n .i64 3401))],[(1,.blk ((wP ws).map .v))]⟩)
 else (bif (decide ((ws.gr (i).toNat).place < 0)) then (K .ret ⟨[(1,.p 1 0),(2,.v (.n .i64 3401))],[(1,.blk ((wP ws).map .v))]⟩)
 else (bif (decide ((ws.np:Int)≤(ws.gr (i).toNat).place)) then (K .ret ⟨[(1,.p 1 0),(2,.v (.n .i64 3401))],[(1,.blk ((wP ws).map .v))]⟩)
 else (bif (gF1 cri eri (ws.js,ws.ms,ws.n,ws.m,((ws.gr (i).toNat).na),((ws.gr (i).toNat).cf))) then (bif (qIn ws.js ws.ms ((ws.gr (i).toNat).cf) ws.n ws.m ((ws.gr (i).toNat).na)) then (G (hWr ws (vJJ .i64 (i + 1))))
 else (K .ret ⟨[(1,.p 1 0),(2,.v (.n .i64 3401))],[(1,.blk ((wP ws).map .v))]⟩))
 else none)))))
 else none)
 else (K (.exit 4) ⟨[(1,.p 1 0)],[(1,.blk ((wP ws).map .v))]⟩)):=by kernel_rfl
theorem nlt0 (a b:Int):(!decide (b≤a))=decide (a < b):=by by_cases h:b≤a <;> simp [h] <;> omega
theorem lpWr (K:Cont) (ws:Wsp) (_:ws.ng≤50):LFT Tf 20 (orWp ws) 60 [] [0,1,0,1,1,1,1,1] K 60 (hWr ws 0)=bif (allN (fun i:Nat=>grOk ws (ws.gr i)) ws.ng 0) then (K (.exit 4) ⟨[(1,.p 1 0)],[(1,.blk ((wP ws).map .v))]⟩) else (K .ret ⟨[(1,.p 1 0),(2,.v (.n .i64 3401))],[(1,.blk ((wP ws).map .v))]⟩):=by
 refine (kV (L:=LFT Tf 20 (orWp ws) 60 [] [0,1,0,1,1,1,1,1] K) (stp:=stpT Tf 20 (orWp ws) 60 [] [0,1,0,1,1,1,1,1] K) (fun _ _=>rfl) (fun (i:Nat) (_:Unit)=>hWr ws (i:Int)) (fun _ _=>True) (fun (i:Nat) _=>grOk ws (ws.gr i)) (fun _ _=>()) (c:=ws.ng) (fun _=>(K (.exit 4) ⟨[(1,.p 1 0)],[(1,.blk ((wP ws).map .v))]⟩)) (fun i _=>(K .ret ⟨[(1,.p 1 0),(2,.v (.n .i64 3401))],[(1,.blk ((wP ws).map .v))]⟩)) (fun G i f hi _ => ?_) (fun _ _ _ _ _=>trivial) (fun G f _ => ?_) ws.ng 0 60 () (by omega) (by omega) trivial).trans ((jY _ _ _ _ _).trans (jZ _ _ _ _ _))
 ·refine (rdWr G K ws i).trans ?_;rw [vJQ (show (i:Int) < (ws.ng:Int) by omega),kK (by omega),yU (show i < ws.ng by omega),toN,jX (C:=cri) (t:=(ws.js,ws.ms,ws.n,ws.m,(ws.gr i).na,(ws.gr i).cf)) trivial];unfold grOk knB;rw [nle 0 (ws.gr i).hand,nle 0 (ws.gr i).place,← nlt0 (ws.gr i).hand (ws.nh:Int),← nlt0 (ws.gr i).place (ws.np:Int)];cases decide ((ws.gr i).hand < 0) <;> cases decide ((ws.nh:Int)≤(ws.gr i).hand) <;> cases decide ((ws.gr i).place < 0) <;> cases decide ((ws.np:Int)≤(ws.gr i).place) <;> cases qIn ws.js ws.ms (ws.gr i).cf ws.n ws.m (ws.gr i).na <;> rfl
 ·refine (rdWr G K ws ws.ng).trans ?_;rw [vYH (show ¬ (ws.ng:Int) < (ws.ng:Int) by omega)];rfl
noncomputable def hWi (ws:Wsp) (s:Int) (i:Int) (k:Int):St:=⟨[(1,.p 1 0),(9,.v (.n .i64 s)),(10,.v (.n .i64 i)),(11,.v (.n .i64 k))],[(1,.blk ((wP ws).map .v))]⟩
set_option maxRecDepth 100000 in
theorem rdWi (G:St→Option (Ret × Mem)) (K:Cont) (ws:Wsp) (s:Int) (i:Int) (k:Int):stpT Tf 20 (orWp ws) 60 [] [0,1,0,1,0,0,1,0,0,1,0,1,1,1,1,1,1,1] K G (hWi ws s i k) =
 (bif (decide (k < i)) then (bif (inB k ws.no) then (bif (inB i ws.no) then (bif ((ws.ob (k).toNat).name.toList == (ws.ob (i).toNat).name.toList) then (K .ret ⟨[(1,.p 1 0),(2,.v (.n .i64 3402)),(9,.v (.n .i64 s)),(10,.v (.n .i64 i))],[(1,.blk ((wP ws).map .v))]⟩)
 else (G (hWi ws s i (vJJ .i64 (k + 1)))))
 else none)
 else none)
 else (K (.exit 8) ⟨[(1,.p 1 0),(9,.v (.n .i64 s)),(10,.v (.n .i64 i))],[(1,.blk ((wP ws).map .v))]⟩)):=by kernel_rfl
theorem lpWi (K:Cont) (ws:Wsp) (s:Int) (i:Nat) (hI:i < ws.no) (hN:ws.no≤50):LFT Tf 20 (orWp ws) 60 [] [0,1,0,1,0,0,1,0,0,1,0,1,1,1,1,1,1,1] K 60 (hWi ws s i 0)=bif (allN (fun k:Nat => !((ws.ob k).name.toList == (ws.ob i).name.toList)) i 0) then (K (.exit 8) ⟨[(1,.p 1 0),(9,.v (.n .i64 s)),(10,.v (.n .i64 i))],[(1,.blk ((wP ws).map .v))]⟩) else (K .ret ⟨[(1,.p 1 0),(2,.v (.n .i64 3402)),(9,.v (.n .i64 s)),(10,.v (.n .i64 i))],[(1,.blk ((wP ws).map .v))]⟩):=by
 refine (kV (L:=LFT Tf 20 (orWp ws) 60 [] [0,1,0,1,0,0,1,0,0,1,0,1,1,1,1,1,1,1] K) (stp:=stpT Tf 20 (orWp ws) 60 [] [0,1,0,1,0,0,1,0,0,1,0,1,1,1,1,1,1,1] K) (fun _ _=>rfl) (fun (k:Nat) (_:Unit)=>hWi ws s i (k:Int)) (fun _ _=>True) (fun (k:Nat) _ => !((ws.ob k).name.toList == (ws.ob i).name.toList)) (fun _ _=>()) (c:=i) (fun _=>(K (.exit 8) ⟨[(1,.p 1 0),(9,.v (.n .i64 s)),(10,.v (.n .i64 i))],[(1,.blk ((wP ws).map .v))]⟩)) (fun k _=>(K .ret ⟨[(1,.p 1 0),(2,.v (.n .i64 3402)),(9,.v (.n .i64 s)),(10,.v (.n .i64 i))],[(1,.blk ((wP ws).map .v))]⟩)) (fun G k f hi _ => ?_) (fun _ _ _ _ _=>trivial) (fun G f _ => ?_) (i) 0 60 () (by omega) (by omega) trivial).trans ((jY _ _ _ _ _).trans (jZ _ _ _ _ _))
 ·refine (rdWi G K ws s i k).trans ?_;rw [vJQ (show (k:Int) < (i:Int) by omega),kK (by omega),yU (show k < ws.no by omega),yU hI,toN,toN];cases ((ws.ob k).name.toList == (ws.ob i).name.toList) <;> rfl
 ·refine (rdWi G K ws s i (i:Int)).trans ?_;rw [vYH (show ¬ (i:Int) < (i:Int) by omega)];rfl
noncomputable def liWi (ws:Wsp):List (List Nat × yG):=[([0,1,0,1,0,0,1,0,0,1,0,1,1,1,1,1,1,1],sumF (fun t:Int × Nat=>(hWi ws t.1 ((t.2:Nat):Int) 0)) (fun σ=>(slI σ 9,(slI σ 10).toNat)) (fun t K=>(bif (decide (t.2 < ws.no∧ws.no≤50)) then (bif (allN (fun k:Nat => !((ws.ob k).name.toList == (ws.ob t.2).name.toList)) t.2 0) then (K (.exit 8) ⟨[(1,.p 1 0),(9,.v (.n .i64 t.1)),(10,.v (.n .i64 t.2))],[(1,.blk ((wP ws).map .v))]⟩) else (K .ret ⟨[(1,.p 1 0),(2,.v (.n .i64 3402)),(9,.v (.n .i64 t.1)),(10,.v (.n .i64 t.2))],[(1,.blk ((wP ws).map .v))]⟩)) else none)))]
theorem okWi (ws:Wsp):∀ p S,qK (liWi ws) p=some S→uX 60 (cxS Tf (orWp ws) 60 20 (ntmF Tf 20)) (qY Tf 20 p) S:=fun p S hp=>by
 refine zQ (L:=qY Tf 20) (l:=(liWi ws)) (show AllP _ (liWi ws) from ⟨?_,trivial⟩) p S hp;dsimp only;refine jK (T:=Tf) (o:=(orWp ws)) (f:=20) (LO:=qK []) (p:=[0,1,0,1,0,0,1,0,0,1,0,1,1,1,1,1,1,1]) kU ?_;intro t K r hr;obtain ⟨hg,hr⟩:=qQ hr
 skip
 exact (lpWi K ws t.1 t.2 (vJZ hg).1 (vJZ hg).2).trans hr
noncomputable def hWo (ws:Wsp) (i:Int) (s:Int):St:=⟨[(1,.p 1 0),(9,.v (.n .i64 s)),(10,.v (.n .i64 i))],[(1,.blk ((wP ws).map .v))]⟩
set_option maxRecDepth 100000 in
theorem rdWo (G:St→Option (Ret × Mem)) (K:Cont) (ws:Wsp) (i:Int) (s:Int):stpT Tf 20 (orWp ws) 60 (liWi ws) [0,1,0,1,1,1,1,1,1,1] K G (hWo ws i s) =
 (bif (decide (i < (ws.no:Int))) then (bif (inB i ws.no) then (bif (gF1 cob eob (ws.ob (i).toNat)) then (bif (obOk (ws.ob (i).toNat)) then (bif (gSt (hWi ws s i 0) (hWi ws s (((i).toNat:Nat):Int) 0)) then (bif (decide ((i).toNat < ws.no∧ws.no≤50)) then (bif (allN (fun k:Nat => !((ws.ob k).name.toList == (ws.ob (i).toNat).name.toList)) (i).toNat 0) then (bif (inB (((i).toNat:Nat):Int) ws.no) then (G (hWo ws (vJJ .i64 ((((i).toNat:Nat):Int) + 1)) (vJJ .i64 (s + ((ws.ob ((((i).toNat:Nat):Int)).toNat).ns:Int)))))
 else none)
 else (K .ret ⟨[(2,.v (.n .i64 3402)),(9,.v (.n .i64 s))],[]⟩))
 else none)
 else none)
 else (K .ret ⟨[(2,.v (.n .i64 3402)),(9,.v (.n .i64 s))],[]⟩))
 else none)
 else none)
 else (K (.exit 6) ⟨[(9,.v (.n .i64 s))],[]⟩)):=by kernel_rfl
theorem lpWo (K:Cont) (ws:Wsp) (hn:ws.no≤50) (ho:okW ws):LFT Tf 20 (orWp ws) 60 (liWi ws) [0,1,0,1,1,1,1,1,1,1] K 60 (hWo ws 0 (ws.c:Int))=bif obA ws then (K (.exit 6) ⟨[(9,.v (.n .i64 (cntF ws ws.no)))],[]⟩) else (K .ret ⟨[(2,.v (.n .i64 3402)),(9,.v (.n .i64 (cntF ws (Rx.firstK (fun j:Nat=>obG ws j) ws.no 0))))],[]⟩):=by
 refine (kV (L:=LFT Tf 20 (orWp ws) 60 (liWi ws) [0,1,0,1,1,1,1,1,1,1] K) (stp:=stpT Tf 20 (orWp ws) 60 (liWi ws) [0,1,0,1,1,1,1,1,1,1] K) (fun _ _=>rfl) (fun (i:Nat) (_:Unit)=>hWo ws (i:Int) (cntF ws i)) (fun _ _=>True) (fun (i:Nat) _=>obG ws i) (fun _ _=>()) (c:=ws.no) (fun _=>(K (.exit 6) ⟨[(9,.v (.n .i64 (cntF ws ws.no)))],[]⟩)) (fun i _=>(K .ret ⟨[(2,.v (.n .i64 3402)),(9,.v (.n .i64 (cntF ws i)))],[]⟩)) (fun G i f hi _ => ?_) (fun _ _ _ _ _=>trivial) (fun G f _ => ?_) ws.no 0 60 () (by omega) (by omega) trivial).trans ((jY _ _ _ _ _).trans (qQQ _ _ _ _ _))
 ·have h1:(ws.ob i).ns≤9223372036854775807:=Nat.le_trans (ho i hi) (by decide);refine (rdWo G K ws i (cntF ws i)).trans ?_;rw [vJQ (show (i:Int) < (ws.no:Int) by omega),kK (by omega),yU hi,toN,jX (C:=cob) (t:=ws.ob i) h1,yJ,vJQ (show i < ws.no∧ws.no≤50 from ⟨hi,hn⟩)];unfold obG obOk;rw [yU hi,show allN (fun k:Nat => !((ws.ob k).name.toList == (ws.ob i).name.toList)) i 0 = !dupO ws.ob (ws.ob i) i from by unfold dupO; rw [Bool.not_not]];cases nmB (ws.ob i).name <;> cases dupO ws.ob (ws.ob i) i <;> cases soOk (ws.ob i) <;> rfl
 ·refine (rdWo G K ws (ws.no:Int) (cntF ws ws.no)).trans ?_;rw [vYH (show ¬ (ws.no:Int) < (ws.no:Int) by omega)];rfl
noncomputable def kWD (ws:Wsp):List (List Nat × yG):=[([0,1,0,1,1,1],sumF (fun _:Unit=>(hWp ws 0)) (fun _=>()) (fun _ K=>(bif (decide (ws.np≤50)) then (bif (allN (fun i:Nat=>zOk 2097152 (ws.pl i)) ws.np 0) then (K (.exit 0) ⟨[(1,.p 1 0)],[(1,.blk ((wP ws).map .v))]⟩) else (K .ret ⟨[(1,.p 1 0),(2,.v (.n .i64 3401))],[(1,.blk ((wP ws).map .v))]⟩)) else none))),([0,1,0,1,1,1,1],sumF (fun _:Unit=>(hWq ws 0)) (fun _=>()) (fun _ K=>(bif (decide (ws.nh≤50)) then (bif (allN (fun i:Nat=>hdOk ws.n (ws.hd i)) ws.nh 0) then (K (.exit 2) ⟨[(1,.p 1 0)],[(1,.blk ((wP ws).map .v))]⟩) else (K .ret ⟨[(1,.p 1 0),(2,.v (.n .i64 3401))],[(1,.blk ((wP ws).map .v))]⟩)) else none))),([0,1,0,1,1,1,1,1],sumF (fun _:Unit=>(hWr ws 0)) (fun _=>()) (fun _ K=>(bif (decide (ws.ng≤50)) then (bif (allN (fun i:Nat=>grOk ws (ws.gr i)) ws.ng 0) then (K (.exit 4) ⟨[(1,.p 1 0)],[(1,.blk ((wP ws).map .v))]⟩) else (K .ret ⟨[(1,.p 1 0),(2,.v (.n .i64 3401))],[(1,.blk ((wP ws).map .v))]⟩)) else none))),([0,1,0,1,1,1,1,1,1,1],sumF (fun _:Unit=>(hWo ws 0 (ws.c:Int))) (fun _=>()) (fun _ K=>(bif gP (ws.no≤50∧okW ws) then (bif obA ws then (K (.exit 6) ⟨[(9,.v (.n .i64 (cntF ws ws.no)))],[]⟩) else (K .ret ⟨[(2,.v (.n .i64 3402)),(9,.v (.n .i64 (cntF ws (Rx.firstK (fun j:Nat=>obG ws j) ws.no 0))))],[]⟩)) else none)))]
set_option maxRecDepth 100000 in
theorem fYC (ws:Wsp):qQZ Tf (orWp ws) (qK (kWD ws)) 60 20 [.a (wP ws)] =
 (bif (gF1 crc_ erc_ (ws.js,ws.ms,ws.sh,ws.sk,ws.n,ws.m,ws.c,ws.d)) then (bif (!decide ((sErr ws.js ws.ms ws.sh ws.sk ws.n ws.m ws.c ws.d)=0)) then some (.v (.n .i64 (sErr ws.js ws.ms ws.sh ws.sk ws.n ws.m ws.c ws.d)),[])
 else (bif (decide (6 < (ws.no:Int))) then some (.v (.n .i64 3401),[])
 else (bif (decide (8 < (ws.np:Int))) then some (.v (.n .i64 3401),[])
 else (bif (decide (3 < (ws.nh:Int))) then some (.v (.n .i64 3401),[])
 else (bif (decide (32 < (ws.ng:Int))) then some (.v (.n .i64 3401),[])
 else (bif (decide (ws.slack < 0)) then some (.v (.n .i64 3401),[])
 else (bif (decide (65536 < ws.slack)) then some (.v (.n .i64 3401),[])
 else (bif (gSt (hWp ws 0) (hWp ws 0)) then (bif (decide (ws.np≤50)) then (bif (allN (fun i:Nat=>zOk 2097152 (ws.pl i)) ws.np 0) then (bif (gSt (hWq ws 0) (hWq ws 0)) then (bif (decide (ws.nh≤50)) then (bif (allN (fun i:Nat=>hdOk ws.n (ws.hd i)) ws.nh 0) then (bif (gSt (hWr ws 0) (hWr ws 0)) then (bif (decide (ws.ng≤50)) then (bif (allN (fun i:Nat=>grOk ws (ws.gr i)) ws.ng 0) then (bif (gSt (hWo ws 0 (ws.c:Int)) (hWo ws 0 (ws.c:Int))) then (bif gP (ws.no≤50∧okW ws) then (bif (obA ws) then (bif (decide (24 < (cntF ws ws.no))) then some (.v (.n .i64 3401),[])
 else some (.v (.n .i64 0),[]))
 else some (.v (.n .i64 3402),[]))
 else none)
 else none)
 else some (.v (.n .i64 3401),[]))
 else none)
 else none)
 else some (.v (.n .i64 3401),[]))
 else none)
 else none)
 else some (.v (.n .i64 3401),[]))
 else none)
 else none))))))))
 else none):=by kernel_rfl
theorem uJI (ws:Wsp) (ho:okW ws):zG Tryz.prog 20 [.a (wP ws)] (.v (.n .i64 (wErr ws))):=by
 refine zK (N:=60) (LO:=qK (kWD ws)) jV yQ (kQ (l:=[(37,uVD),(64,o_nq),(65,o_ri),(66,o_ob)]) (m:=[]) ⟨xXU,xXG,xXK,fUU,trivial⟩ trivial) (fun p S hp => ?_) ?_
 ·refine zQ (L:=qY Tf 20) (l:=(kWD ws)) (show AllP _ (kWD ws) from ⟨?_,?_,?_,?_,trivial⟩) p S hp
  ·dsimp only;refine jK (T:=Tf) (o:=(orWp ws)) (f:=20) (LO:=qK []) (p:=[0,1,0,1,1,1]) kU ?_;intro t K r hr;obtain ⟨hg,hr⟩:=qQ hr;have hk:=vJZ hg;exact (lpWp K ws hk).trans hr
  ·dsimp only;refine jK (T:=Tf) (o:=(orWp ws)) (f:=20) (LO:=qK []) (p:=[0,1,0,1,1,1,1]) kU ?_;intro t K r hr;obtain ⟨hg,hr⟩:=qQ hr;have hk:=vJZ hg;exact (lpWq K ws hk).trans hr
  ·dsimp only;refine jK (T:=Tf) (o:=(orWp ws)) (f:=20) (LO:=qK []) (p:=[0,1,0,1,1,1,1,1]) kU ?_;intro t K r hr;obtain ⟨hg,hr⟩:=qQ hr;have hk:=vJZ hg;exact (lpWr K ws hk).trans hr
  ·dsimp only;refine jK (T:=Tf) (o:=(orWp ws)) (f:=20) (LO:=(qK (liWi ws))) (p:=[0,1,0,1,1,1,1,1,1,1]) (okWi ws) ?_;intro t K r hr;obtain ⟨hg,hr⟩:=qQ hr
   skip
   exact (lpWo K ws (jH hg).1 (jH hg).2).trans hr
 ·refine (fYC ws).trans ?_;unfold wErr;rw [jX (C:=crc_) (t:=(ws.js,ws.ms,ws.sh,ws.sk,ws.n,ws.m,ws.c,ws.d)) trivial];show (bif true then (bif !decide (sEW ws=0) then some (Ret.v (.n .i64 (sEW ws)),([]:Mem)) else _) else none)=_;by_cases h:sEW ws=0
  ·rw [vJQ h];unfold fiB szG plG hdG grG;by_cases h1:6 < (ws.no:Int)
   ·rw [vJQ h1]; rfl
   by_cases h2:8 < (ws.np:Int)
   ·rw [vYH h1,vJQ h2]; rfl
   by_cases h3:3 < (ws.nh:Int)
   ·rw [vYH h1,vYH h2,vJQ h3]; rfl
   by_cases h4:32 < (ws.ng:Int)
   ·rw [vYH h1,vYH h2,vYH h3,vJQ h4]; rfl
   rw [vYH h1,vYH h2,vYH h3,vYH h4];simp only [yJ,vJQ (show ws.np≤50 by omega),vJQ (show ws.nh≤50 by omega),vJQ (show ws.ng≤50 by omega),qXJ (show ws.no≤50∧okW ws from ⟨by omega,ho⟩),vYV];cases decide (ws.slack < 0) with
   | true=>rfl
   | false =>
    cases decide (65536 < ws.slack) with
    | true=>rfl
    | false =>
     cases allN (fun i:Nat=>zOk 2097152 (ws.pl i)) ws.np 0 with
     | false=>rfl
     | true =>
      cases allN (fun i:Nat=>hdOk ws.n (ws.hd i)) ws.nh 0 with
      | false=>rfl
      | true =>
       cases allN (fun i:Nat=>grOk ws (ws.gr i)) ws.ng 0 with
       | false=>rfl
       | true =>
        cases obA ws with
        | false=>rfl
        | true =>
         cases decide (24 < cntF ws ws.no) <;> rfl
  ·rw [vYH h]; rfl
def crw:Wsp→Prop:=fun t=>match t with | ws=>okW ws
def erw:Wsp→List PV:=fun t=>match t with | ws=>[.a (wP ws)]
noncomputable def rrw:Wsp→Ret:=fun t=>match t with | ws=>.v (.n .i64 (wErr ws))
def drw:List PV→Wsp:=fun ps=>match ps with
 | [.a r]=>unW r
 | _=>(unW [])
noncomputable def o_rw:List PV→Option (Bool × Ret):=o_fm drw crw erw rrw
theorem xUL:zZ Tryz.prog 20 o_rw:=qQV fun t h=>by
 revert h; revert t; intro ws h
 exact uJI ws h
end Go.Proofs.YtmeldddgjfocdaaGreat.Hd
namespace Go.Rx
open Go.RowKit Go.Sx
theorem zUQ {P:Program} {f:Nat} {r:Ret} (h1:zG P f [.nz] r) (h2:zG P f [.ne] r):zG P f [.l []] r:=by
 refine ⟨h1.1,fun w F vals hF hal => ?_⟩;obtain ⟨v,vs,rfl,hv,ha⟩:=qKV hal;obtain rfl:=zKH ha;cases hv with
 | l0 ad c =>
  cases ad with
  | none=>exact h1.2 w F _ hF (qKZ (.nz c) zJG)
  | some a=>exact h2.2 w F _ hF (qKZ (.ne a c) zJG)
 | l _ b off n c sz g hn => 
  subst hn;exact h2.2 w F _ hF (qKZ (.ne _ c) zJG)
end Go.Rx
namespace Go.Proofs.YtmeldddgjfocdaaGreat.He
open Go.Rx Rt Go.Sx Go.RowKit Od Na Nb Nc Nx Nf Nl Nm Ga Gb Gc Gd Ge Gf Gg Ha Hb Hc Hd
def hasQ (q:Nat→Int) (k:Nat) (x:Int):Bool:=!allN (fun i:Nat => !decide (q i=x)) k 0
def ixQ (q:Nat→Int) (k:Nat) (x:Int):Int:=bif hasQ q k x then ((Rx.firstK (fun i:Nat => !decide (q i=x)) k 0:Nat):Int) else -1
theorem deq (a b:Int):decide (a=b)=decide (b=a):=by by_cases h:a=b <;> simp [h] <;> omega
theorem yKH {g:Nat→Bool}:∀ {k p:Nat},allN g k p=false→p≤Rx.firstK g k p∧Rx.firstK g k p < p + k∧g (Rx.firstK g k p)=false
 | 0,_,h=>by cases h
 | k + 1,p,h=>by
  unfold allN at h;unfold Rx.firstK;cases hp:g p with
  | true =>
   rw [hp,vZH] at h;obtain ⟨a,b,c⟩:=yKH (k:=k) (p:=p + 1) h;rw [vYV];exact ⟨by omega,by omega,c⟩
  | false=>rw [vYG]; exact ⟨Nat.le_refl _,by omega,hp⟩
theorem qUJ {q:Nat→Int} {k:Nat} {x:Int} (h:hasQ q k x=true):∃ i,i < k∧ixQ q k x=(i:Int)∧q i=x:=by
 have h':allN (fun i:Nat => !decide (q i=x)) k 0=false:=by unfold hasQ at h; simpa using h
 obtain ⟨_,h2,h3⟩:=yKH h';exact ⟨Rx.firstK (fun i:Nat => !decide (q i=x)) k 0,by omega,by unfold ixQ; rw [h]; rfl,by simpa using h3⟩
theorem hasQ_iff {q:Nat→Int} {k:Nat} {x:Int}:hasQ q k x=true ↔ ∃ i,i < k∧q i=x:=by
 constructor
 ·intro h; obtain ⟨i,h1,_,h3⟩:=qUJ h; exact ⟨i,h1,h3⟩
 ·rintro ⟨i,h1,h2⟩
  cases h:hasQ q k x with
  | true=>rfl
  | false =>
   have h':allN (fun i:Nat => !decide (q i=x)) k 0=true:=by unfold hasQ at h; simpa using h
   have:=allN_iff.1 h' i (Nat.zero_le _) (by omega)
   simp [h2] at this
theorem yVB {q:Nat→Int} {k:Nat} {x:Int}:decide (ixQ q k x < 0) = !hasQ q k x:=by
 cases h:hasQ q k x with
 | true=>obtain ⟨i,_,h2,_⟩:=qUJ h; rw [h2,vYH (by omega)]; rfl
 | false=>unfold ixQ; rw [h]; rfl
theorem yVA {q:Nat→Int} {k:Nat} {x:Int}:decide (0≤ixQ q k x)=hasQ q k x:=by
 cases h:hasQ q k x with
 | true=>obtain ⟨i,_,h2,_⟩:=qUJ h; rw [h2,vJQ (by omega)]
 | false=>unfold ixQ; rw [h]; rfl
noncomputable def orIq (k:Nat) (q:Nat→Int) (x:Int):OrS:=orS [] []
noncomputable def hIq (k:Nat) (q:Nat→Int) (x:Int) (i:Int):St:=⟨[(0,.v (.lf k (fQ q))),(1,.v (.n .i64 x)),(7,.v (.n .i64 (k:Int))),(8,.v (.n .i64 i))],[]⟩
set_option maxRecDepth 100000 in
theorem rdIq (G:St→Option (Ret × Mem)) (K:Cont) (k:Nat) (q:Nat→Int) (x:Int) (i:Int):stpT Tf 132 (orIq k q x) 60 [] [0,1,0,1] K G (hIq k q x i) =
 (bif (decide (i < (k:Int))) then (bif (inB i k) then (bif (decide (x=(q (i).toNat))) then (K .ret ⟨[(4,.v (.n .i64 i))],[]⟩)
 else (G (hIq k q x (vJJ .i64 (i + 1)))))
 else none)
 else (K (.exit 0) ⟨[],[]⟩)):=by kernel_rfl
theorem lpIq (K:Cont) (k:Nat) (q:Nat→Int) (x:Int) (_:k≤50):LFT Tf 132 (orIq k q x) 60 [] [0,1,0,1] K 60 (hIq k q x 0)=bif (allN (fun i:Nat => !decide (q i=x)) k 0) then (K (.exit 0) ⟨[],[]⟩) else (K .ret ⟨[(4,.v (.n .i64 ((Rx.firstK (fun i:Nat => !decide (q i=x)) k 0:Nat):Int)))],[]⟩):=by
 refine (kV (L:=LFT Tf 132 (orIq k q x) 60 [] [0,1,0,1] K) (stp:=stpT Tf 132 (orIq k q x) 60 [] [0,1,0,1] K) (fun _ _=>rfl) (fun (i:Nat) (_:Unit)=>hIq k q x (i:Int)) (fun _ _=>True) (fun (i:Nat) _ => !decide (q i=x)) (fun _ _=>()) (c:=k) (fun _=>(K (.exit 0) ⟨[],[]⟩)) (fun i _=>(K .ret ⟨[(4,.v (.n .i64 (i:Int)))],[]⟩)) (fun G i f hi _ => ?_) (fun _ _ _ _ _=>trivial) (fun G f _ => ?_) k 0 60 () (by omega) (by omega) trivial).trans ((jY _ _ _ _ _).trans (qQQ _ _ _ _ _))
 ·refine (rdIq G K k q x i).trans ?_;rw [vJQ (show (i:Int) < (k:Int) by omega),kK (by omega),yU (show i < k by omega),toN,deq x (q i)];cases decide (q i=x) <;> rfl
 ·refine (rdIq G K k q x k).trans ?_;rw [vYH (show ¬ (k:Int) < (k:Int) by omega)];rfl
noncomputable def kVW (k:Nat) (q:Nat→Int) (x:Int):List (List Nat × yG):=[([0,1,0,1],sumF (fun _:Unit=>(hIq k q x 0)) (fun _=>()) (fun _ K=>(bif (decide (k≤50)) then (bif (allN (fun i:Nat => !decide (q i=x)) k 0) then (K (.exit 0) ⟨[],[]⟩) else (K .ret ⟨[(4,.v (.n .i64 ((Rx.firstK (fun i:Nat => !decide (q i=x)) k 0:Nat):Int)))],[]⟩)) else none)))]
set_option maxRecDepth 100000 in
theorem fJX (k:Nat) (q:Nat→Int) (x:Int):qQZ Tf (orIq k q x) (qK (kVW k q x)) 60 132 [.lf k (fQ q),.n .i64 x] =
 (bif (gSt (hIq k q x 0) (hIq k q x 0)) then (bif (decide (k≤50)) then (bif (allN (fun i:Nat => !decide (q i=x)) k 0) then some (.v (.n .i64 (-1)),[])
 else some (.v (.n .i64 ((Rx.firstK (fun i:Nat => !decide (q i=x)) k 0:Nat):Int)),[]))
 else none)
 else none):=by kernel_rfl
theorem uKD (k:Nat) (q:Nat→Int) (x:Int) (hk:k≤50):zG Tryz.prog 132 [.lf k (fQ q),.n .i64 x] (.v (.n .i64 (ixQ q k x))):=by
 refine zK (N:=60) (LO:=qK (kVW k q x)) jV yQ (kQ (l:=[]) (m:=[]) trivial trivial) (fun p S hp => ?_) ?_
 ·refine zQ (L:=qY Tf 132) (l:=(kVW k q x)) (show AllP _ (kVW k q x) from ⟨?_,trivial⟩) p S hp
  ·dsimp only;refine jK (T:=Tf) (o:=(orIq k q x)) (f:=132) (LO:=qK []) (p:=[0,1,0,1]) kU ?_;intro t K r hr;obtain ⟨hg,hr⟩:=qQ hr;have hk:=vJZ hg;exact (lpIq K k q x hk).trans hr
 ·refine (fJX k q x).trans ?_;unfold ixQ hasQ;rw [yJ,vJQ hk];cases allN (fun i:Nat => !decide (q i=x)) k 0 <;> rfl
noncomputable def orOq (k:Nat) (q:Nat→Int) (x:Int):OrS:=orS [] []
noncomputable def hOq (k:Nat) (q:Nat→Int) (x:Int) (i:Int):St:=⟨[(1,.v (.n .i64 x)),(2,.p 2 0),(5,.v (.n .i64 i))],[(2,.blk [.v (.lf k (fQ q))])]⟩
set_option maxRecDepth 100000 in
theorem rdOq (G:St→Option (Ret × Mem)) (K:Cont) (k:Nat) (q:Nat→Int) (x:Int) (i:Int):stpT Tf 130 (orOq k q x) 60 [] [0,1,0,1] K G (hOq k q x i) =
 (bif (decide (i < (k:Int))) then (bif (inB i k) then (bif (decide ((q (i).toNat)=x)) then (K .ret ⟨[(4,.v (.n .i64 i))],[]⟩)
 else (G (hOq k q x (vJJ .i64 (i + 1)))))
 else none)
 else (K (.exit 0) ⟨[],[]⟩)):=by kernel_rfl
theorem lpOq (K:Cont) (k:Nat) (q:Nat→Int) (x:Int) (_:k≤50):LFT Tf 130 (orOq k q x) 60 [] [0,1,0,1] K 60 (hOq k q x 0)=bif (allN (fun i:Nat => !decide (q i=x)) k 0) then (K (.exit 0) ⟨[],[]⟩) else (K .ret ⟨[(4,.v (.n .i64 ((Rx.firstK (fun i:Nat => !decide (q i=x)) k 0:Nat):Int)))],[]⟩):=by
 refine (kV (L:=LFT Tf 130 (orOq k q x) 60 [] [0,1,0,1] K) (stp:=stpT Tf 130 (orOq k q x) 60 [] [0,1,0,1] K) (fun _ _=>rfl) (fun (i:Nat) (_:Unit)=>hOq k q x (i:Int)) (fun _ _=>True) (fun (i:Nat) _ => !decide (q i=x)) (fun _ _=>()) (c:=k) (fun _=>(K (.exit 0) ⟨[],[]⟩)) (fun i _=>(K .ret ⟨[(4,.v (.n .i64 (i:Int)))],[]⟩)) (fun G i f hi _ => ?_) (fun _ _ _ _ _=>trivial) (fun G f _ => ?_) k 0 60 () (by omega) (by omega) trivial).trans ((jY _ _ _ _ _).trans (qQQ _ _ _ _ _))
 ·refine (rdOq G K k q x i).trans ?_;rw [vJQ (show (i:Int) < (k:Int) by omega),kK (by omega),yU (show i < k by omega),toN];cases decide (q i=x) <;> rfl
 ·refine (rdOq G K k q x k).trans ?_;rw [vYH (show ¬ (k:Int) < (k:Int) by omega)];rfl
noncomputable def kVQ (k:Nat) (q:Nat→Int) (x:Int):List (List Nat × yG):=[([0,1,0,1],sumF (fun _:Unit=>(hOq k q x 0)) (fun _=>()) (fun _ K=>(bif (decide (k≤50)) then (bif (allN (fun i:Nat => !decide (q i=x)) k 0) then (K (.exit 0) ⟨[],[]⟩) else (K .ret ⟨[(4,.v (.n .i64 ((Rx.firstK (fun i:Nat => !decide (q i=x)) k 0:Nat):Int)))],[]⟩)) else none)))]
set_option maxRecDepth 100000 in
theorem fYL (k:Nat) (q:Nat→Int) (x:Int):qQZ Tf (orOq k q x) (qK (kVQ k q x)) 60 130 [.a [.lf k (fQ q)],.n .i64 x] =
 (bif (gSt (hOq k q x 0) (hOq k q x 0)) then (bif (decide (k≤50)) then (bif (allN (fun i:Nat => !decide (q i=x)) k 0) then some (.v (.n .i64 (-1)),[])
 else some (.v (.n .i64 ((Rx.firstK (fun i:Nat => !decide (q i=x)) k 0:Nat):Int)),[]))
 else none)
 else none):=by kernel_rfl
theorem uKU (k:Nat) (q:Nat→Int) (x:Int) (hk:k≤50):zG Tryz.prog 130 [.a [.lf k (fQ q)],.n .i64 x] (.v (.n .i64 (ixQ q k x))):=by
 refine zK (N:=60) (LO:=qK (kVQ k q x)) jV yQ (kQ (l:=[]) (m:=[]) trivial trivial) (fun p S hp => ?_) ?_
 ·refine zQ (L:=qY Tf 130) (l:=(kVQ k q x)) (show AllP _ (kVQ k q x) from ⟨?_,trivial⟩) p S hp
  ·dsimp only;refine jK (T:=Tf) (o:=(orOq k q x)) (f:=130) (LO:=qK []) (p:=[0,1,0,1]) kU ?_;intro t K r hr;obtain ⟨hg,hr⟩:=qQ hr;have hk:=vJZ hg;exact (lpOq K k q x hk).trans hr
 ·refine (fYL k q x).trans ?_;unfold ixQ hasQ;rw [yJ,vJQ hk];cases allN (fun i:Nat => !decide (q i=x)) k 0 <;> rfl
def ciq:Nat × (Nat→Int) × Int→Prop:=fun t=>match t with | (k,_,_)=>k≤50
def eiq:Nat × (Nat→Int) × Int→List PV:=fun t=>match t with | (k,q,x)=>[.lf k (fQ q),.n .i64 x]
noncomputable def riq:Nat × (Nat→Int) × Int→Ret:=fun t=>match t with | (k,q,x)=>.v (.n .i64 (ixQ q k x))
def diq:List PV→Nat × (Nat→Int) × Int:=fun ps=>match ps with
 | [.lf k f,.n _ x]=>(k,unFQ f,x)
 | _=>(0,fun _=>0,0)
noncomputable def o_iq:List PV→Option (Bool × Ret):=o_fm diq ciq eiq riq
theorem xWQ:zZ Tryz.prog 132 o_iq:=qQV fun t h=>by
 obtain ⟨k,q,x⟩:=t;exact uKD k q x h
def coa:Nat × (Nat→Int) × Int→Prop:=fun t=>match t with | (k,_,_)=>k≤50
def eoa:Nat × (Nat→Int) × Int→List PV:=fun t=>match t with | (k,q,x)=>[.a [.lf k (fQ q)],.n .i64 x]
noncomputable def roa:Nat × (Nat→Int) × Int→Ret:=fun t=>match t with | (k,q,x)=>.v (.n .i64 (ixQ q k x))
def doa:List PV→Nat × (Nat→Int) × Int:=fun ps=>match ps with
 | [.a [.lf k f],.n _ x]=>(k,unFQ f,x)
 | _=>(0,fun _=>0,0)
noncomputable def o_oa:List PV→Option (Bool × Ret):=o_fm doa coa eoa roa
theorem xXW:zZ Tryz.prog 130 o_oa:=qQV fun t h=>by
 obtain ⟨k,q,x⟩:=t;exact uKU k q x h
noncomputable def fKD (k:Nat) (q:Nat→Int) (x:Int):OrS:=orS [(132,o_iq)] []
noncomputable def kVD (k:Nat) (q:Nat→Int) (x:Int):List (List Nat × yG):=[]
set_option maxRecDepth 100000 in
theorem fJD (k:Nat) (q:Nat→Int) (x:Int):qQZ Tf (fKD k q x) (qK (kVD k q x)) 60 83 [.lf k (fQ q),.n .i64 x] =
 (bif (gF1 ciq eiq (k,q,x)) then (bif (decide (0≤(ixQ q k x))) then some (.v (.b true),[])
 else some (.v (.b false),[]))
 else none):=by kernel_rfl
theorem uUK (k:Nat) (q:Nat→Int) (x:Int) (hk:k≤50):zG Tryz.prog 83 [.lf k (fQ q),.n .i64 x] (.v (.b (hasQ q k x))):=by
 refine zK (N:=60) (LO:=qK (kVD k q x)) jV yQ (kQ (l:=[(132,o_iq)]) (m:=[]) ⟨xWQ,trivial⟩ trivial) (fun p S hp => ?_) ?_
 ·refine zQ (L:=qY Tf 83) (l:=(kVD k q x)) (show AllP _ (kVD k q x) from trivial) p S hp
 ·refine (fJD k q x).trans ?_;rw [jX (C:=ciq) (t:=(k,q,x)) hk,yVA];cases hasQ q k x <;> rfl
def cct:Nat × (Nat→Int) × Int→Prop:=fun t=>match t with | (k,_,_)=>k≤50
def ect:Nat × (Nat→Int) × Int→List PV:=fun t=>match t with | (k,q,x)=>[.lf k (fQ q),.n .i64 x]
noncomputable def rct:Nat × (Nat→Int) × Int→Ret:=fun t=>match t with | (k,q,x)=>.v (.b (hasQ q k x))
def dct:List PV→Nat × (Nat→Int) × Int:=fun ps=>match ps with
 | [.lf k f,.n _ x]=>(k,unFQ f,x)
 | _=>(0,fun _=>0,0)
noncomputable def o_ct:List PV→Option (Bool × Ret):=o_fm dct cct ect rct
theorem xWG:zZ Tryz.prog 83 o_ct:=qQV fun t h=>by
 obtain ⟨k,q,x⟩:=t;exact uUK k q x h
noncomputable def xUX (n:Nat) (q:Nat→Int):OrS:=orS [] []
noncomputable def jQE (n:Nat) (q:Nat→Int):List (List Nat × yG):=[]
set_option maxRecDepth 100000 in
theorem xKA (n:Nat) (q:Nat→Int):qQZ Tf (xUX n q) (qK (jQE n q)) 60 133 [.lf (n + 1) (fQ q)] =
 (bif (decide (0 + (n + 1)≤1000000)) then some (.ow 3 1 (.fo (n + 1) (fQ q)),[])
 else none):=by kernel_rfl
theorem kKQ (n:Nat) (q:Nat→Int) (_:n + 1≤50):zG Tryz.prog 133 [.lf (n + 1) (fQ q)] (.ow 3 1 (.fo (n + 1) (fQ q))):=by
 refine zK (N:=60) (LO:=qK (jQE n q)) jV yQ (kQ (l:=[]) (m:=[]) trivial trivial) (fun p S hp => ?_) ?_
 ·refine zQ (L:=qY Tf 133) (l:=(jQE n q)) (show AllP _ (jQE n q) from trivial) p S hp
 ·refine (xKA n q).trans ?_;simp only [vJQ (show n + 1≤1000000 by omega),vJQ (show n + 1≤8796093022208 by omega),vJQ (show 0 + (n + 1)≤1000000 by omega),vYV]
  all_goals rfl
theorem kJD (n:Nat) (q:Nat→Int) (hn:1≤n∧n≤50):zG Tryz.prog 133 [.lf n (fQ q)] (.ow 3 1 (.fo n (fQ q))):=by
 obtain ⟨h1,h2⟩:=hn;obtain ⟨m,rfl⟩:∃ m,n=m + 1:=⟨n - 1,by omega⟩
 exact kKQ m q h2
def ccoi:Nat × (Nat→Int)→Prop:=fun t=>match t with | (n,_)=>1≤n∧n≤50
def ecoi:Nat × (Nat→Int)→List PV:=fun t=>match t with | (n,q)=>[.lf n (fQ q)]
noncomputable def rcoi:Nat × (Nat→Int)→Ret:=fun t=>match t with | (n,q)=>.ow 3 1 (.fo n (fQ q))
def dcoi:List PV→Nat × (Nat→Int):=fun ps=>match ps with
 | [.lf n f]=>(n,unFQ f)
 | _=>(0,fun _=>0)
noncomputable def uGZ:List PV→Option (Bool × Ret):=o_fm dcoi ccoi ecoi rcoi
theorem xWA:zZ Tryz.prog 133 uGZ:=qQV fun t h=>by
 obtain ⟨n,q⟩:=t;exact kJD n q h
def inM (ws:Wsp) (x:Int):Bool:=!decide (x < vJJ .i64 (0 - (ws.nh:Int))) && !decide ((ws.np:Int)≤x)
def mdG (ws:Wsp) (q:Nat→Int) (i:Nat):Bool:=inM ws (q i) && !hasQ q i (q i)
def vlB (ws:Wsp) (k:Nat) (q:Nat→Int):Bool:=decide (wErr ws=0) && (decide ((k:Int)=(ws.no:Int)) && allN (fun i:Nat=>mdG ws q i) k 0)
noncomputable def orVa (_:Wsp) (k:Nat) (q:Nat→Int):OrS:=orS [(19,o_gk),(83,o_ct)] []
noncomputable def hVa (ws:Wsp) (k:Nat) (q:Nat→Int) (i:Int):St:=⟨[(2,.p 2 0),(3,.p 3 0),(20,.v (.lf k (fQ q))),(21,.v (.n .i64 (k:Int))),(22,.v (.n .i64 i))],[(2,.blk [.v (.lf ws.n (fJ ws.js)),.v (.lf ws.m (fM ws.ms)),.v (.lf ws.c (fS ws.sh)),.v (.lf ws.d (fK ws.sk)),.v (.lf ws.no (fO ws.ob)),.v (.lf ws.np (fZ ws.pl)),.v (.lf ws.nh (fH ws.hd)),.v (.lf ws.ng (fG ws.gr)),.v (.n .i64 ws.slack)]),(3,.blk [.v (.lf k (fQ q))])]⟩
set_option maxRecDepth 100000 in
theorem rdVa (G:St→Option (Ret × Mem)) (K:Cont) (ws:Wsp) (k:Nat) (q:Nat→Int) (i:Int):stpT Tf 34 (orVa ws k q) 60 [] [0,1,0,1,1] K G (hVa ws k q i) =
 (bif (decide (i < (k:Int))) then (bif (inB i k) then (bif (decide ((q (i).toNat) < (vJJ .i64 (0 - (ws.nh:Int))))) then (K .ret ⟨[(4,.v (.b false))],[]⟩)
 else (bif (decide ((ws.np:Int)≤(q (i).toNat))) then (K .ret ⟨[(4,.v (.b false))],[]⟩)
 else (bif (inS none (some i) k) then (bif (gF1 cct ect (((i).toNat - 0),(fun v=>(q (v + 0))),(q (i).toNat))) then (bif (hasQ (fun v=>(q (v + 0))) ((i).toNat - 0) (q (i).toNat)) then (K .ret ⟨[(4,.v (.b false))],[]⟩)
 else (G (hVa ws k q (vJJ .i64 (i + 1)))))
 else none)
 else none)))
 else none)
 else (K (.exit 0) ⟨[],[]⟩)):=by kernel_rfl
theorem lpVa (K:Cont) (ws:Wsp) (k:Nat) (q:Nat→Int) (_:k≤50):LFT Tf 34 (orVa ws k q) 60 [] [0,1,0,1,1] K 60 (hVa ws k q 0)=bif (allN (fun i:Nat=>mdG ws q i) k 0) then (K (.exit 0) ⟨[],[]⟩) else (K .ret ⟨[(4,.v (.b false))],[]⟩):=by
 refine (kV (L:=LFT Tf 34 (orVa ws k q) 60 [] [0,1,0,1,1] K) (stp:=stpT Tf 34 (orVa ws k q) 60 [] [0,1,0,1,1] K) (fun _ _=>rfl) (fun (i:Nat) (_:Unit)=>hVa ws k q (i:Int)) (fun _ _=>True) (fun (i:Nat) _=>mdG ws q i) (fun _ _=>()) (c:=k) (fun _=>(K (.exit 0) ⟨[],[]⟩)) (fun i _=>(K .ret ⟨[(4,.v (.b false))],[]⟩)) (fun G i f hi _ => ?_) (fun _ _ _ _ _=>trivial) (fun G f _ => ?_) k 0 60 () (by omega) (by omega) trivial).trans ((jY _ _ _ _ _).trans (jZ _ _ _ _ _))
 ·refine (rdVa G K ws k q i).trans ?_;rw [vJQ (show (i:Int) < (k:Int) by omega),kK (by omega),yU (show i < k by omega),toN,jHH (show i < k by omega),jX (C:=cct) (t:=(i - 0,(fun v=>q (v + 0)),q i)) (show i - 0≤50 by omega)];unfold mdG inM;show _=bif (!decide (q i < vJJ .i64 (0 - (ws.nh:Int))) && !decide ((ws.np:Int)≤q i)) && !hasQ (fun v=>q (v + 0)) (i - 0) (q i) then _ else _
  cases decide (q i < vJJ .i64 (0 - (ws.nh:Int))) <;> cases decide ((ws.np:Int)≤q i) <;> cases hasQ (fun v=>q (v + 0)) (i - 0) (q i) <;> rfl
 ·refine (rdVa G K ws k q k).trans ?_;rw [vYH (show ¬ (k:Int) < (k:Int) by omega)];rfl
theorem qUK {ws:Wsp} (h:wErr ws=0):sEW ws=0∧fiB ws=true∧obA ws=true∧cntF ws ws.no≤24:=by
 unfold wErr at h;by_cases h1:sEW ws=0
 ·rw [vJQ h1,vYV] at h;cases h2:fiB ws with
  | false=>rw [h2] at h; exact absurd (show (3401:Int)=0 from h) (by decide)
  | true =>
   rw [h2,vYV] at h;cases h3:obA ws with
   | false=>rw [h3] at h; exact absurd (show (3402:Int)=0 from h) (by decide)
   | true =>
    rw [h3,vYV] at h;by_cases h4:24 < cntF ws ws.no
    ·rw [vJQ h4] at h; exact absurd (show (3401:Int)=0 from h) (by decide)
    ·exact ⟨h1,rfl,rfl,by omega⟩
 ·rw [vYH h1,vYG] at h; exact absurd h h1
theorem uYA {ws:Wsp} (h:wErr ws=0):ws.no≤6:=(jKW (qUK h).2.1).1
noncomputable def kWK (ws:Wsp) (k:Nat) (q:Nat→Int):List (List Nat × yG):=[([0,1,0,1,1],sumF (fun _:Unit=>(hVa ws k q 0)) (fun _=>()) (fun _ K=>(bif (decide (k≤50)) then (bif (allN (fun i:Nat=>mdG ws q i) k 0) then (K (.exit 0) ⟨[],[]⟩) else (K .ret ⟨[(4,.v (.b false))],[]⟩)) else none)))]
set_option maxRecDepth 100000 in
theorem fYY (ws:Wsp) (k:Nat) (q:Nat→Int):qQZ Tf (orVa ws k q) (qK (kWK ws k q)) 60 34 [.a (wP ws),.a [.lf k (fQ q)]] =
 (bif (gF1 cgk egk ws) then (bif (!decide ((wErr ws)=0)) then some (.v (.b false),[])
 else (bif (!decide ((k:Int)=(ws.no:Int))) then some (.v (.b false),[])
 else (bif (gSt (hVa ws k q 0) (hVa ws k q 0)) then (bif (decide (k≤50)) then (bif (allN (fun i:Nat=>mdG ws q i) k 0) then some (.v (.b true),[])
 else some (.v (.b false),[]))
 else none)
 else none)))
 else none):=by kernel_rfl
theorem uJJ (ws:Wsp) (k:Nat) (q:Nat→Int) (ho:okW ws):zG Tryz.prog 34 [.a (wP ws),.a [.lf k (fQ q)]] (.v (.b (vlB ws k q))):=by
 refine zK (N:=60) (LO:=qK (kWK ws k q)) jV yQ (kQ (l:=[(19,o_gk),(83,o_ct)]) (m:=[]) ⟨uVK,xWG,trivial⟩ trivial) (fun p S hp => ?_) ?_
 ·refine zQ (L:=qY Tf 34) (l:=(kWK ws k q)) (show AllP _ (kWK ws k q) from ⟨?_,trivial⟩) p S hp
  ·dsimp only;refine jK (T:=Tf) (o:=(orVa ws k q)) (f:=34) (LO:=qK []) (p:=[0,1,0,1,1]) kU ?_;intro t K r hr;obtain ⟨hg,hr⟩:=qQ hr;have hk:=vJZ hg;exact (lpVa K ws k q hk).trans hr
 ·refine (fYY ws k q).trans ?_;unfold vlB;rw [jX (C:=cgk) (t:=ws) ho];by_cases h:wErr ws=0
  ·rw [vJQ h];by_cases hk:(k:Int)=(ws.no:Int)
   ·have h6:=uYA h;rw [vJQ hk,yJ,vJQ (show k≤50 by omega)];cases allN (fun i:Nat=>mdG ws q i) k 0 <;> rfl
   ·rw [vYH hk]; rfl
  ·rw [vYH h]; rfl
noncomputable def orRv (_:Wsp) (k:Nat) (q:Nat→Int):OrS:=orS [(20,o_rw)] []
noncomputable def hRx (ws:Wsp) (k:Nat) (q:Nat→Int) (i:Int) (j:Int):St:=⟨[(2,.p 2 0),(3,.p 3 0),(5,.v (.n .i64 i)),(6,.v (.n .i64 j))],[(2,.blk [.v (.lf ws.n (fJ ws.js)),.v (.lf ws.m (fM ws.ms)),.v (.lf ws.c (fS ws.sh)),.v (.lf ws.d (fK ws.sk)),.v (.lf ws.no (fO ws.ob)),.v (.lf ws.np (fZ ws.pl)),.v (.lf ws.nh (fH ws.hd)),.v (.lf ws.ng (fG ws.gr)),.v (.n .i64 ws.slack)]),(3,.blk [.v (.lf k (fQ q))])]⟩
set_option maxRecDepth 100000 in
theorem rdRx (G:St→Option (Ret × Mem)) (K:Cont) (ws:Wsp) (k:Nat) (q:Nat→Int) (i:Int) (j:Int):stpT Tf 68 (orRv ws k q) 60 [] [0,1,1,0,0,1,0,0,1,0,1,1] K G (hRx ws k q i j) =
 (bif (decide (j < i)) then (bif (inB j k) then (bif (inB i k) then (bif (decide ((q (j).toNat)=(q (i).toNat))) then (K .ret ⟨[(2,.p 2 0),(3,.p 3 0),(4,.v (.b false)),(5,.v (.n .i64 i))],[(2,.blk [.v (.lf ws.n (fJ ws.js)),.v (.lf ws.m (fM ws.ms)),.v (.lf ws.c (fS ws.sh)),.v (.lf ws.d (fK ws.sk)),.v (.lf ws.no (fO ws.ob)),.v (.lf ws.np (fZ ws.pl)),.v (.lf ws.nh (fH ws.hd)),.v (.lf ws.ng (fG ws.gr)),.v (.n .i64 ws.slack)]),(3,.blk [.v (.lf k (fQ q))])]⟩)
 else (G (hRx ws k q i (vJJ .i64 (j + 1)))))
 else none)
 else none)
 else (K (.exit 2) ⟨[(2,.p 2 0),(3,.p 3 0),(5,.v (.n .i64 i))],[(2,.blk [.v (.lf ws.n (fJ ws.js)),.v (.lf ws.m (fM ws.ms)),.v (.lf ws.c (fS ws.sh)),.v (.lf ws.d (fK ws.sk)),.v (.lf ws.no (fO ws.ob)),.v (.lf ws.np (fZ ws.pl)),.v (.lf ws.nh (fH ws.hd)),.v (.lf ws.ng (fG ws.gr)),.v (.n .i64 ws.slack)]),(3,.blk [.v (.lf k (fQ q))])]⟩)):=by kernel_rfl
theorem lpRx (K:Cont) (ws:Wsp) (k:Nat) (q:Nat→Int) (i:Nat) (hI:i < k) (hN:k≤50):LFT Tf 68 (orRv ws k q) 60 [] [0,1,1,0,0,1,0,0,1,0,1,1] K 60 (hRx ws k q i 0)=bif (allN (fun j:Nat => !decide (q j=q i)) i 0) then (K (.exit 2) ⟨[(2,.p 2 0),(3,.p 3 0),(5,.v (.n .i64 i))],[(2,.blk [.v (.lf ws.n (fJ ws.js)),.v (.lf ws.m (fM ws.ms)),.v (.lf ws.c (fS ws.sh)),.v (.lf ws.d (fK ws.sk)),.v (.lf ws.no (fO ws.ob)),.v (.lf ws.np (fZ ws.pl)),.v (.lf ws.nh (fH ws.hd)),.v (.lf ws.ng (fG ws.gr)),.v (.n .i64 ws.slack)]),(3,.blk [.v (.lf k (fQ q))])]⟩) else (K .ret ⟨[(2,.p 2 0),(3,.p 3 0),(4,.v (.b false)),(5,.v (.n .i64 i))],[(2,.blk [.v (.lf ws.n (fJ ws.js)),.v (.lf ws.m (fM ws.ms)),.v (.lf ws.c (fS ws.sh)),.v (.lf ws.d (fK ws.sk)),.v (.lf ws.no (fO ws.ob)),.v (.lf ws.np (fZ ws.pl)),.v (.lf ws.nh (fH ws.hd)),.v (.lf ws.ng (fG ws.gr)),.v (.n .i64 ws.slack)]),(3,.blk [.v (.lf k (fQ q))])]⟩):=by
 refine (kV (L:=LFT Tf 68 (orRv ws k q) 60 [] [0,1,1,0,0,1,0,0,1,0,1,1] K) (stp:=stpT Tf 68 (orRv ws k q) 60 [] [0,1,1,0,0,1,0,0,1,0,1,1] K) (fun _ _=>rfl) (fun (j:Nat) (_:Unit)=>hRx ws k q i (j:Int)) (fun _ _=>True) (fun (j:Nat) _ => !decide (q j=q i)) (fun _ _=>()) (c:=i) (fun _=>(K (.exit 2) ⟨[(2,.p 2 0),(3,.p 3 0),(5,.v (.n .i64 i))],[(2,.blk [.v (.lf ws.n (fJ ws.js)),.v (.lf ws.m (fM ws.ms)),.v (.lf ws.c (fS ws.sh)),.v (.lf ws.d (fK ws.sk)),.v (.lf ws.no (fO ws.ob)),.v (.lf ws.np (fZ ws.pl)),.v (.lf ws.nh (fH ws.hd)),.v (.lf ws.ng (fG ws.gr)),.v (.n .i64 ws.slack)]),(3,.blk [.v (.lf k (fQ q))])]⟩)) (fun j _=>(K .ret ⟨[(2,.p 2 0),(3,.p 3 0),(4,.v (.b false)),(5,.v (.n .i64 i))],[(2,.blk [.v (.lf ws.n (fJ ws.js)),.v (.lf ws.m (fM ws.ms)),.v (.lf ws.c (fS ws.sh)),.v (.lf ws.d (fK ws.sk)),.v (.lf ws.no (fO ws.ob)),.v (.lf ws.np (fZ ws.pl)),.v (.lf ws.nh (fH ws.hd)),.v (.lf ws.ng (fG ws.gr)),.v (.n .i64 ws.slack)]),(3,.blk [.v (.lf k (fQ q))])]⟩)) (fun G j f hi _ => ?_) (fun _ _ _ _ _=>trivial) (fun G f _ => ?_) (i) 0 60 () (by omega) (by omega) trivial).trans ((jY _ _ _ _ _).trans (jZ _ _ _ _ _))
 ·refine (rdRx G K ws k q i j).trans ?_;rw [vJQ (show (j:Int) < (i:Int) by omega),kK (by omega),yU (show j < k by omega),yU hI,toN,toN];cases decide (q j=q i) <;> rfl
 ·refine (rdRx G K ws k q i (i:Int)).trans ?_;rw [vYH (show ¬ (i:Int) < (i:Int) by omega)];rfl
noncomputable def liRx (ws:Wsp) (k:Nat) (q:Nat→Int):List (List Nat × yG):=[([0,1,1,0,0,1,0,0,1,0,1,1],sumF (fun t:Nat=>(hRx ws k q ((t:Nat):Int) 0)) (fun σ=>((slI σ 5).toNat)) (fun t K=>(bif (decide (t < k∧k≤50)) then (bif (allN (fun j:Nat => !decide (q j=q t)) t 0) then (K (.exit 2) ⟨[(2,.p 2 0),(3,.p 3 0),(5,.v (.n .i64 t))],[(2,.blk [.v (.lf ws.n (fJ ws.js)),.v (.lf ws.m (fM ws.ms)),.v (.lf ws.c (fS ws.sh)),.v (.lf ws.d (fK ws.sk)),.v (.lf ws.no (fO ws.ob)),.v (.lf ws.np (fZ ws.pl)),.v (.lf ws.nh (fH ws.hd)),.v (.lf ws.ng (fG ws.gr)),.v (.n .i64 ws.slack)]),(3,.blk [.v (.lf k (fQ q))])]⟩) else (K .ret ⟨[(2,.p 2 0),(3,.p 3 0),(4,.v (.b false)),(5,.v (.n .i64 t))],[(2,.blk [.v (.lf ws.n (fJ ws.js)),.v (.lf ws.m (fM ws.ms)),.v (.lf ws.c (fS ws.sh)),.v (.lf ws.d (fK ws.sk)),.v (.lf ws.no (fO ws.ob)),.v (.lf ws.np (fZ ws.pl)),.v (.lf ws.nh (fH ws.hd)),.v (.lf ws.ng (fG ws.gr)),.v (.n .i64 ws.slack)]),(3,.blk [.v (.lf k (fQ q))])]⟩)) else none)))]
theorem okRx (ws:Wsp) (k:Nat) (q:Nat→Int):∀ p S,qK (liRx ws k q) p=some S→uX 60 (cxS Tf (orRv ws k q) 60 68 (ntmF Tf 68)) (qY Tf 68 p) S:=fun p S hp=>by
 refine zQ (L:=qY Tf 68) (l:=(liRx ws k q)) (show AllP _ (liRx ws k q) from ⟨?_,trivial⟩) p S hp;dsimp only;refine jK (T:=Tf) (o:=(orRv ws k q)) (f:=68) (LO:=qK []) (p:=[0,1,1,0,0,1,0,0,1,0,1,1]) kU ?_;intro t K r hr;obtain ⟨hg,hr⟩:=qQ hr
 skip
 exact (lpRx K ws k q t (vJZ hg).1 (vJZ hg).2).trans hr
noncomputable def hRv (ws:Wsp) (k:Nat) (q:Nat→Int) (i:Int):St:=⟨[(2,.p 2 0),(3,.p 3 0),(5,.v (.n .i64 i))],[(2,.blk [.v (.lf ws.n (fJ ws.js)),.v (.lf ws.m (fM ws.ms)),.v (.lf ws.c (fS ws.sh)),.v (.lf ws.d (fK ws.sk)),.v (.lf ws.no (fO ws.ob)),.v (.lf ws.np (fZ ws.pl)),.v (.lf ws.nh (fH ws.hd)),.v (.lf ws.ng (fG ws.gr)),.v (.n .i64 ws.slack)]),(3,.blk [.v (.lf k (fQ q))])]⟩
set_option maxRecDepth 100000 in
theorem rdRv (G:St→Option (Ret × Mem)) (K:Cont) (ws:Wsp) (k:Nat) (q:Nat→Int) (i:Int):stpT Tf 68 (orRv ws k q) 60 (liRx ws k q) [0,1,0,1,1] K G (hRv ws k q i) =
 (bif (decide (i < (k:Int))) then (bif (inB i k) then (bif (decide ((q (i).toNat) < (vJJ .i64 (0 - (ws.nh:Int))))) then (K .ret ⟨[(4,.v (.b false))],[]⟩)
 else (bif (inB i k) then (bif (decide ((ws.np:Int)≤(q (i).toNat))) then (K .ret ⟨[(4,.v (.b false))],[]⟩)
 else (bif (gSt (hRx ws k q i 0) (hRx ws k q (((i).toNat:Nat):Int) 0)) then (bif (decide ((i).toNat < k∧k≤50)) then (bif (allN (fun j:Nat => !decide (q j=q (i).toNat)) (i).toNat 0) then (G (hRv ws k q (vJJ .i64 ((((i).toNat:Nat):Int) + 1))))
 else (K .ret ⟨[(4,.v (.b false))],[]⟩))
 else none)
 else none))
 else none))
 else none)
 else (K (.exit 0) ⟨[],[]⟩)):=by kernel_rfl
theorem lpRv (K:Cont) (ws:Wsp) (k:Nat) (q:Nat→Int) (hk:k≤50):LFT Tf 68 (orRv ws k q) 60 (liRx ws k q) [0,1,0,1,1] K 60 (hRv ws k q 0)=bif (allN (fun i:Nat=>mdG ws q i) k 0) then (K (.exit 0) ⟨[],[]⟩) else (K .ret ⟨[(4,.v (.b false))],[]⟩):=by
 refine (kV (L:=LFT Tf 68 (orRv ws k q) 60 (liRx ws k q) [0,1,0,1,1] K) (stp:=stpT Tf 68 (orRv ws k q) 60 (liRx ws k q) [0,1,0,1,1] K) (fun _ _=>rfl) (fun (i:Nat) (_:Unit)=>hRv ws k q (i:Int)) (fun _ _=>True) (fun (i:Nat) _=>mdG ws q i) (fun _ _=>()) (c:=k) (fun _=>(K (.exit 0) ⟨[],[]⟩)) (fun i _=>(K .ret ⟨[(4,.v (.b false))],[]⟩)) (fun G i f hi _ => ?_) (fun _ _ _ _ _=>trivial) (fun G f _ => ?_) k 0 60 () (by omega) (by omega) trivial).trans ((jY _ _ _ _ _).trans (jZ _ _ _ _ _))
 ·refine (rdRv G K ws k q i).trans ?_;rw [vJQ (show (i:Int) < (k:Int) by omega),kK (by omega),yU (show i < k by omega),toN,yJ,vJQ (show i < k∧k≤50 from ⟨hi,hk⟩)];unfold mdG inM;rw [show allN (fun j:Nat => !decide (q j=q i)) i 0 = !hasQ q i (q i) from by unfold hasQ; rw [Bool.not_not]];cases decide (q i < vJJ .i64 (0 - (ws.nh:Int))) <;> cases decide ((ws.np:Int)≤q i) <;> cases hasQ q i (q i) <;> rfl
 ·refine (rdRv G K ws k q k).trans ?_;rw [vYH (show ¬ (k:Int) < (k:Int) by omega)];rfl
noncomputable def kWA (ws:Wsp) (k:Nat) (q:Nat→Int):List (List Nat × yG):=[([0,1,0,1,1],sumF (fun _:Unit=>(hRv ws k q 0)) (fun _=>()) (fun _ K=>(bif (decide (k≤50)) then (bif (allN (fun i:Nat=>mdG ws q i) k 0) then (K (.exit 0) ⟨[],[]⟩) else (K .ret ⟨[(4,.v (.b false))],[]⟩)) else none)))]
set_option maxRecDepth 100000 in
theorem fYG (ws:Wsp) (k:Nat) (q:Nat→Int):qQZ Tf (orRv ws k q) (qK (kWA ws k q)) 60 68 [.a (wP ws),.a [.lf k (fQ q)]] =
 (bif (gF1 crw erw ws) then (bif (!decide ((wErr ws)=0)) then some (.v (.b false),[])
 else (bif (!decide ((k:Int)=(ws.no:Int))) then some (.v (.b false),[])
 else (bif (gSt (hRv ws k q 0) (hRv ws k q 0)) then (bif (decide (k≤50)) then (bif (allN (fun i:Nat=>mdG ws q i) k 0) then some (.v (.b true),[])
 else some (.v (.b false),[]))
 else none)
 else none)))
 else none):=by kernel_rfl
theorem uJB (ws:Wsp) (k:Nat) (q:Nat→Int) (ho:okW ws):zG Tryz.prog 68 [.a (wP ws),.a [.lf k (fQ q)]] (.v (.b (vlB ws k q))):=by
 refine zK (N:=60) (LO:=qK (kWA ws k q)) jV yQ (kQ (l:=[(20,o_rw)]) (m:=[]) ⟨xUL,trivial⟩ trivial) (fun p S hp => ?_) ?_
 ·refine zQ (L:=qY Tf 68) (l:=(kWA ws k q)) (show AllP _ (kWA ws k q) from ⟨?_,trivial⟩) p S hp
  ·dsimp only;refine jK (T:=Tf) (o:=(orRv ws k q)) (f:=68) (LO:=(qK (liRx ws k q))) (p:=[0,1,0,1,1]) (okRx ws k q) ?_;intro t K r hr;obtain ⟨hg,hr⟩:=qQ hr;have hk:=vJZ hg;exact (lpRv K ws k q hk).trans hr
 ·refine (fYG ws k q).trans ?_;unfold vlB;rw [jX (C:=crw) (t:=ws) ho];by_cases h:wErr ws=0
  ·rw [vJQ h];by_cases hk:(k:Int)=(ws.no:Int)
   ·have h6:=uYA h;rw [vJQ hk,yJ,vJQ (show k≤50 by omega)];cases allN (fun i:Nat=>mdG ws q i) k 0 <;> rfl
   ·rw [vYH hk]; rfl
  ·rw [vYH h]; rfl
def cvl:Wsp × Nat × (Nat→Int)→Prop:=fun t=>match t with | (ws,_,_)=>okW ws
def evl:Wsp × Nat × (Nat→Int)→List PV:=fun t=>match t with | (ws,k,q)=>[.a (wP ws),.a [.lf k (fQ q)]]
noncomputable def rvl:Wsp × Nat × (Nat→Int)→Ret:=fun t=>match t with | (ws,k,q)=>.v (.b (vlB ws k q))
def dvl:List PV→Wsp × Nat × (Nat→Int):=fun ps=>match ps with
 | [.a r,.a [.lf k f]]=>(unW r,k,unFQ f)
 | _=>(unW [],0,fun _=>0)
noncomputable def o_vl:List PV→Option (Bool × Ret):=o_fm dvl cvl evl rvl
theorem xUG:zZ Tryz.prog 34 o_vl:=qQV fun t h=>by
 obtain ⟨ws,k,q⟩:=t;exact uJJ ws k q h
def crv:Wsp × Nat × (Nat→Int)→Prop:=fun t=>match t with | (ws,_,_)=>okW ws
def erv:Wsp × Nat × (Nat→Int)→List PV:=fun t=>match t with | (ws,k,q)=>[.a (wP ws),.a [.lf k (fQ q)]]
noncomputable def rrv:Wsp × Nat × (Nat→Int)→Ret:=fun t=>match t with | (ws,k,q)=>.v (.b (vlB ws k q))
def drv:List PV→Wsp × Nat × (Nat→Int):=fun ps=>match ps with
 | [.a r,.a [.lf k f]]=>(unW r,k,unFQ f)
 | _=>(unW [],0,fun _=>0)
noncomputable def o_rv:List PV→Option (Bool × Ret):=o_fm drv crv erv rrv
theorem xXQ:zZ Tryz.prog 68 o_rv:=qQV fun t h=>by
 obtain ⟨ws,k,q⟩:=t;exact uJB ws k q h
end Go.Proofs.YtmeldddgjfocdaaGreat.He
namespace Go.Proofs.YtmeldddgjfocdaaGreat.Hf
open Go.Rx Rt Go.Sx Go.RowKit Od Na Nb Nc Nx Nf Nl Nm Ga Gb Gc Gd Ge Gf Gg Ha Hb Hc Hd He
theorem bz {c:Bool} {x y:Int} (h:(bif c then x else y)=0) (hx:x ≠ 0):c=false∧y=0:=by
 cases c with
 | true=>exact absurd h hx
 | false=>exact ⟨rfl,h⟩
theorem xHX {i:Int} {j:J} (h:cjT (fun e=>e) i j=0) : -4194304≤j.lo∧j.lo≤j.hi∧j.hi≤4194304:=by
 unfold cjT at h
 iterate 10 obtain ⟨_,h⟩:=bz h (by decide)
 by_cases k0:j.kind=0
 ·rw [vJQ k0,vYV] at h;obtain ⟨a,h⟩:=bz h (by decide);obtain ⟨b,h⟩:=bz h (by decide);obtain ⟨c,h⟩:=bz h (by decide);have a:=vJY a;have b:=vJY b;have c:=vJY c;omega
 rw [vYH k0,vYG] at h;by_cases k1:j.kind=1
 ·rw [vJQ k1,vYV] at h;obtain ⟨a,h⟩:=bz h (by decide);obtain ⟨b,h⟩:=bz h (by decide);obtain ⟨c,h⟩:=bz h (by decide);have a:=vJY a;have b:=vJY b;have c:=vJY c;omega
 rw [vYH k1,vYG] at h;by_cases k2:j.kind=2
 ·rw [vJQ k2,vYV] at h;obtain ⟨a,h⟩:=bz h (by decide);obtain ⟨b,h⟩:=bz h (by decide);obtain ⟨c,h⟩:=bz h (by decide);have a:=vJY a;have b:=vJY b;have c:=vJY c;omega
 rw [vYH k2,vYG] at h;by_cases k3:j.kind=3
 ·rw [vJQ k3,vYV] at h;obtain ⟨a,h⟩:=bz h (by decide);obtain ⟨b,h⟩:=bz h (by decide);obtain ⟨c,h⟩:=bz h (by decide);have a:=vJY a;have b:=vJY b;have c:=vJY c;omega
 rw [vYH k3,vYG] at h;obtain ⟨a,h⟩:=bz h (by decide);obtain ⟨b,h⟩:=bz h (by decide);obtain ⟨c,h⟩:=bz h (by decide);have a:=vJY a;have b:=vJY b;have c:=vJY c;omega
theorem kKA {js:Nat→J} {ms:Nat→Ms} {n m:Nat} (h:rErr js ms n m=0):∀ i,i < n → -4194304≤(js i).lo∧(js i).lo≤(js i).hi∧(js i).hi≤4194304:=fun i hi =>
 xHX (jHU (jHX (jXI h) i (Nat.zero_le _) (by omega)))
theorem uUA {js:Nat→J} {ms:Nat→Ms} {q:Nat→Int} {n m k:Nat} (h:qIn js ms q n m k=true):rErr js ms n m=0∧n=k∧(1≤n∧n≤10)∧smQ q k=true∧isB (ptB q) n k=true:=by
 obtain ⟨h1,h2,h3⟩:=yHH h;have hn:=qHA h1;have hl:=kKA h1;subst h2;have hq:∀ i,i < n → -4194304≤q i∧q i≤4194304:=fun i hi=>by
  have a:=hl i hi;have b:=h3 i hi;omega
 refine ⟨h1,rfl,hn,allN_iff.2 fun j _ hj => ?_,?_⟩
 ·have:=hq j (by omega)
  rw [vYH (show ¬ q j < -2147483648 by omega),vYH (show ¬ 2147483648 < q j by omega)]; rfl
 ·unfold isB allV;rw [vJQ (show (n:Int)=(n:Int) from rfl),vZH];refine allN_iff.2 fun j _ hj => ?_
  have:=hq j (by omega)
  unfold Iv.valid ptB
  simp
  omega
def cbx:Nat × (Nat→Int)→Prop:=fun t=>match t with | (k,_)=>k≤50
def ebx:Nat × (Nat→Int)→List PV:=fun t=>match t with | (k,q)=>[.lf k (fQ q)]
noncomputable def rbx:Nat × (Nat→Int)→Ret:=fun t=>match t with | (k,q)=>.v (.lf (bif smQ q k then k else 0) (fB (ptB q)))
def dbx:List PV→Nat × (Nat→Int):=fun ps=>match ps with
 | [.lf k f]=>(k,unFQ f)
 | _=>(0,fun _=>0)
noncomputable def o_bx:List PV→Option (Bool × Ret):=o_fm dbx cbx ebx rbx
theorem fUF:zZ Tryz.prog 77 o_bx:=qQV fun t h=>by
 obtain ⟨k,q⟩:=t;exact xYV q k h
def cry:Nat × (Nat→Int)→Prop:=fun t=>match t with | (k,_)=>k≤50
def ery:Nat × (Nat→Int)→List PV:=fun t=>match t with | (k,q)=>[.lf k (fQ q)]
noncomputable def rry:Nat × (Nat→Int)→Ret:=fun t=>match t with | (k,q)=>.v (.lf (bif smQ q k then k else 0) (fB (ptB q)))
def dry:List PV→Nat × (Nat→Int):=fun ps=>match ps with
 | [.lf k f]=>(k,unFQ f)
 | _=>(0,fun _=>0)
noncomputable def o_ry:List PV→Option (Bool × Ret):=o_fm dry cry ery rry
theorem xUI:zZ Tryz.prog 26 o_ry:=qQV fun t h=>by
 obtain ⟨k,q⟩:=t;exact uKQ q k h
def unFB (f:Nat→List PV):Nat→Iv:=fun v=>match f v with
 | [.n _ a,.n _ b]=>⟨a,b⟩
 | _=>⟨0,0⟩
def cka:(Nat→J) × (Nat→Ms) × (Nat→Iv) × Nat × Nat × Nat→Prop:=fun t=>match t with | (_,_,_,_,_,k)=>k≤9223372036854775807
def eka:(Nat→J) × (Nat→Ms) × (Nat→Iv) × Nat × Nat × Nat→List PV:=fun t=>match t with | (js,ms,bx,n,m,k)=>[.a [.lf n (fJ js),.lf m (fM ms)],.lf k (fB bx)]
noncomputable def rka:(Nat→J) × (Nat→Ms) × (Nat→Iv) × Nat × Nat × Nat→Ret:=fun t=>match t with | (js,ms,bx,n,m,k)=>.v (.lf (bif decide (rErr js ms n m=0) && isB bx n k then n else 0) (fP (LP js bx n)))
def dka:List PV→(Nat→J) × (Nat→Ms) × (Nat→Iv) × Nat × Nat × Nat:=fun ps=>match ps with
 | [.a [.lf n js,.lf m ms],.lf k f]=>(unFJ js,unFM ms,unFB f,n,m,k)
 | _=>(fun _=>⟨ByteArray.empty,0,0,⟨0,0,0⟩,0,0,0,0,0,0⟩,fun _=>⟨0,0,⟨0,0,0⟩⟩,fun _=>⟨0,0⟩,0,0,0)
noncomputable def o_ka:List PV→Option (Bool × Ret):=o_fm dka cka eka rka
theorem fUW:zZ Tryz.prog 51 o_ka:=qQV fun t h=>by
 obtain ⟨js,ms,bx,n,m,k⟩:=t;exact uKB js ms bx n m k h
def crl:(Nat→J) × (Nat→Ms) × (Nat→Iv) × Nat × Nat × Nat→Prop:=fun t=>match t with | (_,_,_,_,_,_)=>True
def erl:(Nat→J) × (Nat→Ms) × (Nat→Iv) × Nat × Nat × Nat→List PV:=fun t=>match t with | (js,ms,bx,n,m,k)=>[.a [.lf n (fJ js),.lf m (fM ms)],.lf k (fB bx)]
noncomputable def rrl:(Nat→J) × (Nat→Ms) × (Nat→Iv) × Nat × Nat × Nat→Ret:=fun t=>match t with | (js,ms,bx,n,m,k)=>.v (.lf (bif decide (rErr js ms n m=0) && isB bx n k then n else 0) (fP (LP js bx n)))
def drl:List PV→(Nat→J) × (Nat→Ms) × (Nat→Iv) × Nat × Nat × Nat:=fun ps=>match ps with
 | [.a [.lf n js,.lf m ms],.lf k f]=>(unFJ js,unFM ms,unFB f,n,m,k)
 | _=>(fun _=>⟨ByteArray.empty,0,0,⟨0,0,0⟩,0,0,0,0,0,0⟩,fun _=>⟨0,0,⟨0,0,0⟩⟩,fun _=>⟨0,0⟩,0,0,0)
noncomputable def o_rl:List PV→Option (Bool × Ret):=o_fm drl crl erl rrl
theorem fUZ:zZ Tryz.prog 25 o_rl:=qQV fun t h=>by
 obtain ⟨js,ms,bx,n,m,k⟩:=t;exact uJF js ms bx n m k
def atC (s:Int) (off to:Z3) (po:Po):Bool:=(!(decide (po.r.x.x.lo < (vJJ .i64 (65536 - s)))) && (!(decide (po.r.x.y.lo < (vJJ .i64 (0 - s)))) && (!(decide (s < po.r.x.y.hi)) && (!(decide (po.r.x.z.lo < (vJJ .i64 (0 - s)))) && (!(decide (s < po.r.x.z.hi)) && (!(decide (po.r.y.x.lo < (vJJ .i64 (0 - s)))) && (!(decide (s < po.r.y.x.hi)) && (!(decide (po.r.y.y.lo < (vJJ .i64 (65536 - s)))) && (!(decide (po.r.y.z.lo < (vJJ .i64 (0 - s)))) && (!(decide (s < po.r.y.z.hi)) && (!(decide (po.r.z.x.lo < (vJJ .i64 (0 - s)))) && (!(decide (s < po.r.z.x.hi)) && (!(decide (po.r.z.y.lo < (vJJ .i64 (0 - s)))) && (!(decide (s < po.r.z.y.hi)) && (!(decide (po.r.z.z.lo < (vJJ .i64 (65536 - s)))) && (!(decide ((Po.app po (V3.of off)).x.lo < (vJJ .i64 (to.x - s)))) && (!(decide ((vJJ .i64 (to.x + s)) < (Po.app po (V3.of off)).x.hi)) && (!(decide ((Po.app po (V3.of off)).y.lo < (vJJ .i64 (to.y - s)))) && (!(decide ((vJJ .i64 (to.y + s)) < (Po.app po (V3.of off)).y.hi)) && (!(decide ((Po.app po (V3.of off)).z.lo < (vJJ .i64 (to.z - s)))) && (!(decide ((vJJ .i64 (to.z + s)) < (Po.app po (V3.of off)).z.hi)) && true)))))))))))))))))))))
def atB (ws:Wsp) (a b:Int) (k:Nat) (q:Nat→Int):Bool:=decide (wErr ws=0) && (knB ws a b && (qIn ws.js ws.ms q ws.n ws.m k && atC ws.slack (ws.hd a.toNat).off (ws.pl b.toNat) (LP ws.js (ptB q) ws.n (ws.hd a.toNat).link.toNat)))
theorem bfT (c y:Bool):(bif c then some (Ret.v (.b false),([]:Mem)) else some (Ret.v (.b y),([]:Mem)))=some (Ret.v (.b (!c && y)),([]:Mem)):=by cases c <;> rfl
theorem zQK {i:Int} {n:Nat} (h:0≤i∧i < (n:Int)):inB i n=true:=by
 unfold inB;rw [vJQ h.1,vJQ (show i.toNat < n by omega)]; rfl
theorem jZZ {ws:Wsp} {a b:Int} (h:knB ws a b=true):(0≤a∧a < (ws.nh:Int))∧(0≤b∧b < (ws.np:Int)):=by
 unfold knB at h;simp only [vQJ,decide_eq_true_eq] at h;omega
theorem yVF {ws:Wsp} (h:wErr ws=0) {i:Nat} (_:i < ws.nh):0≤(ws.hd i).link∧(ws.hd i).link < (ws.n:Int):=by
 have h2:=(qUK h).2.1;unfold fiB at h2;simp only [vQJ] at h2;have h3:=allN_iff.1 h2.2.2.1 i (Nat.zero_le _) (by omega);unfold hdOk at h3;simp only [vQJ,Bool.not_eq_true',decide_eq_false_iff_not] at h3;omega
noncomputable def fKI (_:Wsp) (a b:Int) (k:Nat) (q:Nat→Int):OrS:=orS ((19,o_gk) :: (75,o_kn) :: (76,o_in) :: (77,o_bx) :: (51,o_ka) :: L9) []
noncomputable def kVL (_:Wsp) (a b:Int) (k:Nat) (q:Nat→Int):List (List Nat × yG):=[]
set_option maxRecDepth 100000 in
theorem fJL (ws:Wsp) (a b:Int) (k:Nat) (q:Nat→Int):qQZ Tf (fKI ws a b k q) (qK (kVL ws a b k q)) 60 27 [.a (wP ws),.n .i64 a,.n .i64 b,.lf k (fQ q)] =
 (bif (gF1 cgk egk ws) then (bif (!decide ((wErr ws)=0)) then some (.v (.b false),[])
 else (bif (gF1 ckn ekn (ws,a,b)) then (bif (knB ws a b) then (bif (gF1 cin ein (ws.js,ws.ms,ws.n,ws.m,k,q)) then (bif (qIn ws.js ws.ms q ws.n ws.m k) then (bif (inB a ws.nh) then (bif (gF1 cbx ebx (k,q)) then (bif (gF1 cka eka (ws.js,ws.ms,(ptB q),ws.n,ws.m,(bif smQ q k then k else 0))) then (bif (inB (ws.hd (a).toNat).link (bif decide (rErr ws.js ws.ms ws.n ws.m=0) && isB (ptB q) ws.n (bif smQ q k then k else 0) then ws.n else 0)) then (bif (decide ((LP ws.js (ptB q) ws.n ((ws.hd (a).toNat).link).toNat).r.x.x.lo < (vJJ .i64 (65536 - ws.slack)))) then some (.v (.b false),[])
 else (bif (decide ((LP ws.js (ptB q) ws.n ((ws.hd (a).toNat).link).toNat).r.x.y.lo < (vJJ .i64 (0 - ws.slack)))) then some (.v (.b false),[])
 else (bif (decide (ws.slack < (LP ws.js (ptB q) ws.n ((ws.hd (a).toNat).link).toNat).r.x.y.hi)) then some (.v (.b false),[])
 else (bif (decide ((LP ws.js (ptB q) ws.n ((ws.hd (a).toNat).link).toNat).r.x.z.lo < (vJJ .i64 (0 - ws.slack)))) then some (.v (.b false),[])
 else (bif (decide (ws.slack < (LP ws.js (ptB q) ws.n ((ws.hd (a).toNat).link).toNat).r.x.z.hi)) then some (.v (.b false),[])
 else (bif (decide ((LP ws.js (ptB q) ws.n ((ws.hd (a).toNat).link).toNat).r.y.x.lo < (vJJ .i64 (0 - ws.slack)))) then some (.v (.b false),[])
 else (bif (decide (ws.slack < (LP ws.js (ptB q) ws.n ((ws.hd (a).toNat).link).toNat).r.y.x.hi)) then some (.v (.b false),[])
 else (bif (decide ((LP ws.js (ptB q) ws.n ((ws.hd (a).toNat).link).toNat).r.y.y.lo < (vJJ .i64 (65536 - ws.slack)))) then some (.v (.b false),[])
 else (bif (decide ((LP ws.js (ptB q) ws.n ((ws.hd (a).toNat).link).toNat).r.y.z.lo < (vJJ .i64 (0 - ws.slack)))) then some (.v (.b false),[])
 else (bif (decide (ws.slack < (LP ws.js (ptB q) ws.n ((ws.hd (a).toNat).link).toNat).r.y.z.hi)) then some (.v (.b false),[])
 else (bif (decide ((LP ws.js (ptB q) ws.n ((ws.hd (a).toNat).link).toNat).r.z.x.lo < (vJJ .i64 (0 - ws.slack)))) then some (.v (.b false),[])
 else (bif (decide (ws.slack < (LP ws.js (ptB q) ws.n ((ws.hd (a).toNat).link).toNat).r.z.x.hi)) then some (.v (.b false),[])
 else (bif (decide ((LP ws.js (ptB q) ws.n ((ws.hd (a).toNat).link).toNat).r.z.y.lo < (vJJ .i64 (0 - ws.slack)))) then some (.v (.b false),[])
 else (bif (decide (ws.slack < (LP ws.js (ptB q) ws.n ((ws.hd (a).toNat).link).toNat).r.z.y.hi)) then some (.v (.b false),[])
 else (bif (decide ((LP ws.js (ptB q) ws.n ((ws.hd (a).toNat).link).toNat).r.z.z.lo < (vJJ .i64 (65536 - ws.slack)))) then some (.v (.b false),[])
 else (bif (inB b ws.np) then (bif (decide ((Po.app (LP ws.js (ptB q) ws.n ((ws.hd (a).toNat).link).toNat) (V3.of (ws.hd (a).toNat).off)).x.lo < (vJJ .i64 ((ws.pl (b).toNat).x - ws.slack)))) then some (.v (.b false),[])
 else (bif (decide ((vJJ .i64 ((ws.pl (b).toNat).x + ws.slack)) < (Po.app (LP ws.js (ptB q) ws.n ((ws.hd (a).toNat).link).toNat) (V3.of (ws.hd (a).toNat).off)).x.hi)) then some (.v (.b false),[])
 else (bif (decide ((Po.app (LP ws.js (ptB q) ws.n ((ws.hd (a).toNat).link).toNat) (V3.of (ws.hd (a).toNat).off)).y.lo < (vJJ .i64 ((ws.pl (b).toNat).y - ws.slack)))) then some (.v (.b false),[])
 else (bif (decide ((vJJ .i64 ((ws.pl (b).toNat).y + ws.slack)) < (Po.app (LP ws.js (ptB q) ws.n ((ws.hd (a).toNat).link).toNat) (V3.of (ws.hd (a).toNat).off)).y.hi)) then some (.v (.b false),[])
 else (bif (decide ((Po.app (LP ws.js (ptB q) ws.n ((ws.hd (a).toNat).link).toNat) (V3.of (ws.hd (a).toNat).off)).z.lo < (vJJ .i64 ((ws.pl (b).toNat).z - ws.slack)))) then some (.v (.b false),[])
 else (bif (decide ((vJJ .i64 ((ws.pl (b).toNat).z + ws.slack)) < (Po.app (LP ws.js (ptB q) ws.n ((ws.hd (a).toNat).link).toNat) (V3.of (ws.hd (a).toNat).off)).z.hi)) then some (.v (.b false),[])
 else some (.v (.b true),[])))))))
 else none))))))))))))))))
 else none)
 else none)
 else none)
 else none)
 else some (.v (.b false),[]))
 else none)
 else some (.v (.b false),[]))
 else none))
 else none):=by kernel_rfl
theorem uUH (ws:Wsp) (a b:Int) (k:Nat) (q:Nat→Int) (ho:okW ws):zG Tryz.prog 27 [.a (wP ws),.n .i64 a,.n .i64 b,.lf k (fQ q)] (.v (.b (atB ws a b k q))):=by
 refine zK (N:=60) (LO:=qK (kVL ws a b k q)) jV yQ (kQ (l:=((19,o_gk) :: (75,o_kn) :: (76,o_in) :: (77,o_bx) :: (51,o_ka) :: L9)) (m:=[]) ⟨uVK,xXL,xWZ,fUF,fUW,uQE⟩ trivial) (fun p S hp => ?_) ?_
 ·refine zQ (L:=qY Tf 27) (l:=(kVL ws a b k q)) (show AllP _ (kVL ws a b k q) from trivial) p S hp
 ·refine (fJL ws a b k q).trans ?_;unfold atB;rw [jX (C:=cgk) (t:=ws) ho];by_cases h0:wErr ws=0
  ·rw [vJQ h0,jX (C:=ckn) (t:=(ws,a,b)) trivial];cases hk:knB ws a b with
   | false=>rfl
   | true =>
    obtain ⟨k1,k2⟩:=jZZ hk;rw [jX (C:=cin) (t:=(ws.js,ws.ms,ws.n,ws.m,k,q)) trivial];cases hq:qIn ws.js ws.ms q ws.n ws.m k with
    | false=>rfl
    | true =>
     obtain ⟨h1,h2,h3,h4,h5⟩:=uUA hq;have hl:=zQK (yVF h0 (i:=a.toNat) (by omega));simp only [zQK k1,zQK k2,jX (C:=cbx) (t:=(k,q)) (show k≤50 by omega),h4,vYV,jX (C:=cka) (t:=(ws.js,ws.ms,ptB q,ws.n,ws.m,k)) (show k≤9223372036854775807 by omega),h5,vJQ h1,vZJ,hl,Bool.not_true,vYG,bfT];rfl
  ·rw [vYH h0]; rfl
theorem uHZ (s:Int) (off to:Z3) (po:Po):(!(decide (po.r.x.x.lo < (vJJ .i64 (65536 - s)))) && (!(decide (po.r.x.y.lo < (vJJ .i64 (0 - s)))) && (!(decide (s < po.r.x.y.hi)) && (!(decide (po.r.x.z.lo < (vJJ .i64 (0 - s)))) && (!(decide (s < po.r.x.z.hi)) && (!(decide ((Po.app po (V3.of off)).x.lo < (vJJ .i64 (to.x - s)))) && (!(decide ((vJJ .i64 (to.x + s)) < (Po.app po (V3.of off)).x.hi)) && (!(decide (po.r.y.x.lo < (vJJ .i64 (0 - s)))) && (!(decide (s < po.r.y.x.hi)) && (!(decide (po.r.y.y.lo < (vJJ .i64 (65536 - s)))) && (!(decide (po.r.y.z.lo < (vJJ .i64 (0 - s)))) && (!(decide (s < po.r.y.z.hi)) && (!(decide ((Po.app po (V3.of off)).y.lo < (vJJ .i64 (to.y - s)))) && (!(decide ((vJJ .i64 (to.y + s)) < (Po.app po (V3.of off)).y.hi)) && (!(decide (po.r.z.x.lo < (vJJ .i64 (0 - s)))) && (!(decide (s < po.r.z.x.hi)) && (!(decide (po.r.z.y.lo < (vJJ .i64 (0 - s)))) && (!(decide (s < po.r.z.y.hi)) && (!(decide (po.r.z.z.lo < (vJJ .i64 (65536 - s)))) && (!(decide ((Po.app po (V3.of off)).z.lo < (vJJ .i64 (to.z - s)))) && (!(decide ((vJJ .i64 (to.z + s)) < (Po.app po (V3.of off)).z.hi)) && true)))))))))))))))))))))=atC s off to po:=by
 unfold atC;rw [Bool.eq_iff_iff];simp only [vQJ];constructor
 ·rintro ⟨h0,h1,h2,h3,h4,h15,h16,h5,h6,h7,h8,h9,h17,h18,h10,h11,h12,h13,h14,h19,h20,_⟩
  exact ⟨h0,h1,h2,h3,h4,h5,h6,h7,h8,h9,h10,h11,h12,h13,h14,h15,h16,h17,h18,h19,h20,trivial⟩
 ·rintro ⟨h0,h1,h2,h3,h4,h5,h6,h7,h8,h9,h10,h11,h12,h13,h14,h15,h16,h17,h18,h19,h20,_⟩
  exact ⟨h0,h1,h2,h3,h4,h15,h16,h5,h6,h7,h8,h9,h17,h18,h10,h11,h12,h13,h14,h19,h20,trivial⟩
noncomputable def fKB (_:Wsp) (a b:Int) (k:Nat) (q:Nat→Int):OrS:=orS ((20,o_rw) :: (65,o_ri) :: (26,o_ry) :: (25,o_rl) :: L9) []
noncomputable def kVH (_:Wsp) (a b:Int) (k:Nat) (q:Nat→Int):List (List Nat × yG):=[]
set_option maxRecDepth 100000 in
theorem fJH (ws:Wsp) (a b:Int) (k:Nat) (q:Nat→Int):qQZ Tf (fKB ws a b k q) (qK (kVH ws a b k q)) 60 28 [.a (wP ws),.n .i64 a,.n .i64 b,.lf k (fQ q)] =
 (bif (gF1 crw erw ws) then (bif (!decide ((wErr ws)=0)) then some (.v (.b false),[])
 else (bif (decide (a < 0)) then some (.v (.b false),[])
 else (bif (decide ((ws.nh:Int)≤a)) then some (.v (.b false),[])
 else (bif (decide (b < 0)) then some (.v (.b false),[])
 else (bif (decide ((ws.np:Int)≤b)) then some (.v (.b false),[])
 else (bif (gF1 cri eri (ws.js,ws.ms,ws.n,ws.m,k,q)) then (bif (qIn ws.js ws.ms q ws.n ws.m k) then (bif (inB a ws.nh) then (bif (gF1 cry ery (k,q)) then (bif (gF1 crl erl (ws.js,ws.ms,(ptB q),ws.n,ws.m,(bif smQ q k then k else 0))) then (bif (inB (ws.hd (a).toNat).link (bif decide (rErr ws.js ws.ms ws.n ws.m=0) && isB (ptB q) ws.n (bif smQ q k then k else 0) then ws.n else 0)) then (bif (decide ((LP ws.js (ptB q) ws.n ((ws.hd (a).toNat).link).toNat).r.x.x.lo < (vJJ .i64 (65536 - ws.slack)))) then some (.v (.b false),[])
 else (bif (decide ((LP ws.js (ptB q) ws.n ((ws.hd (a).toNat).link).toNat).r.x.y.lo < (vJJ .i64 (0 - ws.slack)))) then some (.v (.b false),[])
 else (bif (decide (ws.slack < (LP ws.js (ptB q) ws.n ((ws.hd (a).toNat).link).toNat).r.x.y.hi)) then some (.v (.b false),[])
 else (bif (decide ((LP ws.js (ptB q) ws.n ((ws.hd (a).toNat).link).toNat).r.x.z.lo < (vJJ .i64 (0 - ws.slack)))) then some (.v (.b false),[])
 else (bif (decide (ws.slack < (LP ws.js (ptB q) ws.n ((ws.hd (a).toNat).link).toNat).r.x.z.hi)) then some (.v (.b false),[])
 else (bif (inB b ws.np) then (bif (decide ((Po.app (LP ws.js (ptB q) ws.n ((ws.hd (a).toNat).link).toNat) (V3.of (ws.hd (a).toNat).off)).x.lo < (vJJ .i64 ((ws.pl (b).toNat).x - ws.slack)))) then some (.v (.b false),[])
 else (bif (inB b ws.np) then (bif (decide ((vJJ .i64 ((ws.pl (b).toNat).x + ws.slack)) < (Po.app (LP ws.js (ptB q) ws.n ((ws.hd (a).toNat).link).toNat) (V3.of (ws.hd (a).toNat).off)).x.hi)) then some (.v (.b false),[])
 else (bif (decide ((LP ws.js (ptB q) ws.n ((ws.hd (a).toNat).link).toNat).r.y.x.lo < (vJJ .i64 (0 - ws.slack)))) then some (.v (.b false),[])
 else (bif (decide (ws.slack < (LP ws.js (ptB q) ws.n ((ws.hd (a).toNat).link).toNat).r.y.x.hi)) then some (.v (.b false),[])
 else (bif (decide ((LP ws.js (ptB q) ws.n ((ws.hd (a).toNat).link).toNat).r.y.y.lo < (vJJ .i64 (65536 - ws.slack)))) then some (.v (.b false),[])
 else (bif (decide ((LP ws.js (ptB q) ws.n ((ws.hd (a).toNat).link).toNat).r.y.z.lo < (vJJ .i64 (0 - ws.slack)))) then some (.v (.b false),[])
 else (bif (decide (ws.slack < (LP ws.js (ptB q) ws.n ((ws.hd (a).toNat).link).toNat).r.y.z.hi)) then some (.v (.b false),[])
 else (bif (inB b ws.np) then (bif (decide ((Po.app (LP ws.js (ptB q) ws.n ((ws.hd (a).toNat).link).toNat) (V3.of (ws.hd (a).toNat).off)).y.lo < (vJJ .i64 ((ws.pl (b).toNat).y - ws.slack)))) then some (.v (.b false),[])
 else (bif (inB b ws.np) then (bif (decide ((vJJ .i64 ((ws.pl (b).toNat).y + ws.slack)) < (Po.app (LP ws.js (ptB q) ws.n ((ws.hd (a).toNat).link).toNat) (V3.of (ws.hd (a).toNat).off)).y.hi)) then some (.v (.b false),[])
 else (bif (decide ((LP ws.js (ptB q) ws.n ((ws.hd (a).toNat).link).toNat).r.z.x.lo < (vJJ .i64 (0 - ws.slack)))) then some (.v (.b false),[])
 else (bif (decide (ws.slack < (LP ws.js (ptB q) ws.n ((ws.hd (a).toNat).link).toNat).r.z.x.hi)) then some (.v (.b false),[])
 else (bif (decide ((LP ws.js (ptB q) ws.n ((ws.hd (a).toNat).link).toNat).r.z.y.lo < (vJJ .i64 (0 - ws.slack)))) then some (.v (.b false),[])
 else (bif (decide (ws.slack < (LP ws.js (ptB q) ws.n ((ws.hd (a).toNat).link).toNat).r.z.y.hi)) then some (.v (.b false),[])
 else (bif (decide ((LP ws.js (ptB q) ws.n ((ws.hd (a).toNat).link).toNat).r.z.z.lo < (vJJ .i64 (65536 - ws.slack)))) then some (.v (.b false),[])
 else (bif (inB b ws.np) then (bif (decide ((Po.app (LP ws.js (ptB q) ws.n ((ws.hd (a).toNat).link).toNat) (V3.of (ws.hd (a).toNat).off)).z.lo < (vJJ .i64 ((ws.pl (b).toNat).z - ws.slack)))) then some (.v (.b false),[])
 else (bif (inB b ws.np) then (bif (decide ((vJJ .i64 ((ws.pl (b).toNat).z + ws.slack)) < (Po.app (LP ws.js (ptB q) ws.n ((ws.hd (a).toNat).link).toNat) (V3.of (ws.hd (a).toNat).off)).z.hi)) then some (.v (.b false),[])
 else some (.v (.b true),[]))
 else none))
 else none)))))))
 else none))
 else none)))))))
 else none))
 else none))))))
 else none)
 else none)
 else none)
 else none)
 else some (.v (.b false),[]))
 else none))))))
 else none):=by kernel_rfl
theorem uUQ (ws:Wsp) (a b:Int) (k:Nat) (q:Nat→Int) (ho:okW ws):zG Tryz.prog 28 [.a (wP ws),.n .i64 a,.n .i64 b,.lf k (fQ q)] (.v (.b (atB ws a b k q))):=by
 refine zK (N:=60) (LO:=qK (kVH ws a b k q)) jV yQ (kQ (l:=((20,o_rw) :: (65,o_ri) :: (26,o_ry) :: (25,o_rl) :: L9)) (m:=[]) ⟨xUL,xXK,xUI,fUZ,uQE⟩ trivial) (fun p S hp => ?_) ?_
 ·refine zQ (L:=qY Tf 28) (l:=(kVH ws a b k q)) (show AllP _ (kVH ws a b k q) from trivial) p S hp
 ·refine (fJH ws a b k q).trans ?_;unfold atB;rw [jX (C:=crw) (t:=ws) ho];by_cases h0:wErr ws=0
  ·rw [vJQ h0];unfold knB;rw [nle 0 a,nle 0 b,← nlt0 a (ws.nh:Int),← nlt0 b (ws.np:Int)];by_cases ka:a < 0
   ·rw [vJQ ka]; rfl
   by_cases kb:(ws.nh:Int)≤a
   ·rw [vYH ka,vJQ kb]; rfl
   by_cases kc:b < 0
   ·rw [vYH ka,vYH kb,vJQ kc]; rfl
   by_cases kd:(ws.np:Int)≤b
   ·rw [vYH ka,vYH kb,vYH kc,vJQ kd]; rfl
   have k1:0≤a∧a < (ws.nh:Int):=by omega
   have k2:0≤b∧b < (ws.np:Int):=by omega
   rw [vYH ka,vYH kb,vYH kc,vYH kd,jX (C:=cri) (t:=(ws.js,ws.ms,ws.n,ws.m,k,q)) trivial];cases hq:qIn ws.js ws.ms q ws.n ws.m k with
   | false=>rfl
   | true =>
    obtain ⟨h1,h2,h3,h4,h5⟩:=uUA hq;have hl:=zQK (yVF h0 (i:=a.toNat) (by omega));simp only [zQK k1,zQK k2,jX (C:=cry) (t:=(k,q)) (show k≤50 by omega),h4,vYV,jX (C:=crl) (t:=(ws.js,ws.ms,ptB q,ws.n,ws.m,k)) trivial,h5,vJQ h1,vZJ,hl,Bool.not_true,Bool.not_false,vYG,bfT];exact congrArg (fun y=>some (Ret.v (.b y),([]:Mem))) (uHZ _ _ _ _)
  ·rw [vYH h0]; rfl
def cat:Wsp × Int × Int × Nat × (Nat→Int)→Prop:=fun t=>match t with | (ws,_,_,_,_)=>okW ws
def eat:Wsp × Int × Int × Nat × (Nat→Int)→List PV:=fun t=>match t with | (ws,a,b,k,q)=>[.a (wP ws),.n .i64 a,.n .i64 b,.lf k (fQ q)]
noncomputable def rat:Wsp × Int × Int × Nat × (Nat→Int)→Ret:=fun t=>match t with | (ws,a,b,k,q)=>.v (.b (atB ws a b k q))
def dat:List PV→Wsp × Int × Int × Nat × (Nat→Int):=fun ps=>match ps with
 | [.a r,.n _ a,.n _ b,.lf k f]=>(unW r,a,b,k,unFQ f)
 | _=>(unW [],0,0,0,fun _=>0)
noncomputable def o_at:List PV→Option (Bool × Ret):=o_fm dat cat eat rat
theorem fXQ:zZ Tryz.prog 27 o_at:=qQV fun t h=>by
 obtain ⟨ws,a,b,k,q⟩:=t;exact uUH ws a b k q h
def cht:Wsp × Int × Int × Nat × (Nat→Int)→Prop:=fun t=>match t with | (ws,_,_,_,_)=>okW ws
def eht:Wsp × Int × Int × Nat × (Nat→Int)→List PV:=fun t=>match t with | (ws,a,b,k,q)=>[.a (wP ws),.n .i64 a,.n .i64 b,.lf k (fQ q)]
noncomputable def rht:Wsp × Int × Int × Nat × (Nat→Int)→Ret:=fun t=>match t with | (ws,a,b,k,q)=>.v (.b (atB ws a b k q))
def dht:List PV→Wsp × Int × Int × Nat × (Nat→Int):=fun ps=>match ps with
 | [.a r,.n _ a,.n _ b,.lf k f]=>(unW r,a,b,k,unFQ f)
 | _=>(unW [],0,0,0,fun _=>0)
noncomputable def o_ht:List PV→Option (Bool × Ret):=o_fm dht cht eht rht
theorem xWK:zZ Tryz.prog 28 o_ht:=qQV fun t h=>by
 obtain ⟨ws,a,b,k,q⟩:=t;exact uUQ ws a b k q h
end Go.Proofs.YtmeldddgjfocdaaGreat.Hf
namespace Go.Proofs.YtmeldddgjfocdaaGreat.Hg
open Go.Rx Rt Go.Sx Go.RowKit Od Na Nb Nc Nx Nf Nl Nm Ga Gb Gc Gd Ge Gf Gg Ha Hb Hc Hd He Hf
def mvC (q:Nat→Int) (k:Nat) (x y:Int):Bool:=hasQ q k x && !hasQ q k y
def mvQ (q:Nat→Int) (k:Nat) (x y:Int):Nat→Int:=fun v=>bif Nat.beq v (ixQ q k x).toNat then y else q v
theorem ixB {q:Nat→Int} {k:Nat} {x:Int} (h:hasQ q k x=true):inB (ixQ q k x) k=true:=by
 obtain ⟨i,h1,h2,_⟩:=qUJ h;rw [h2]; exact yU h1
noncomputable def xUZ (k:Nat) (q:Nat→Int) (x y:Int):OrS:=orS [(132,o_iq),(83,o_ct),(133,uGZ)] []
noncomputable def jQV (k:Nat) (q:Nat→Int) (x y:Int):List (List Nat × yG):=[]
set_option maxRecDepth 100000 in
theorem xKK (k:Nat) (q:Nat→Int) (x y:Int):qQZ Tf (xUZ k q x y) (qK (jQV k q x y)) 60 82 [.a [.lf k (fQ q)],.n .i64 x,.n .i64 y] =
 (bif (gF1 ciq eiq (k,q,x)) then (bif (decide ((ixQ q k x) < 0)) then some (.v (.t [.a [.l []],.b false]),[])
 else (bif (gF1 cct ect (k,q,y)) then (bif (hasQ q k y) then some (.v (.t [.a [.l []],.b false]),[])
 else (bif (gF1 ccoi ecoi (k,q)) then (bif (inB (ixQ q k x) k) then some (.v (.t [.a [.lf k (fQ (mvQ q k x y))],.b true]),[])
 else none)
 else none))
 else none))
 else none):=by kernel_rfl
theorem kJY (k:Nat) (q:Nat→Int) (x y:Int) (hk:k≤50):zG Tryz.prog 82 [.a [.lf k (fQ q)],.n .i64 x,.n .i64 y] (.v (bif mvC q k x y then .t [.a [.lf k (fQ (mvQ q k x y))],.b true] else .t [.a [.l []],.b false])):=by
 refine zK (N:=60) (LO:=qK (jQV k q x y)) jV yQ (kQ (l:=[(132,o_iq),(83,o_ct),(133,uGZ)]) (m:=[]) ⟨xWQ,xWG,xWA,trivial⟩ trivial) (fun p S hp => ?_) ?_
 ·refine zQ (L:=qY Tf 82) (l:=(jQV k q x y)) (show AllP _ (jQV k q x y) from trivial) p S hp
 ·refine (xKK k q x y).trans ?_;unfold mvC;rw [jX (C:=ciq) (t:=(k,q,x)) hk,yVB];cases hx:hasQ q k x with
  | false=>rfl
  | true =>
   rw [jX (C:=cct) (t:=(k,q,y)) hk];cases hy:hasQ q k y with
   | true=>rfl
   | false =>
    obtain ⟨i,h1,_,_⟩:=qUJ hx;rw [jX (C:=ccoi) (t:=(k,q)) ⟨by omega,hk⟩,ixB hx];rfl
theorem uKW (k:Nat) (q:Nat→Int) (x y:Int) (hk:k≤50):zG Tryz.prog 82 [.a [.lf k (fQ q)],.n .i64 x,.n .i64 y] (.v (.t [.a [.lf (bif mvC q k x y then k else 0) (fQ (mvQ q k x y))],.b (mvC q k x y)])):=by
 have h0:=kJY k q x y hk;cases h:mvC q k x y with
 | true=>rw [h] at h0; exact h0
 | false=>rw [h] at h0; exact qQU (Same.t (xs:=[_,_]) ⟨Same.a (xs:=[_]) ⟨Same.lf rfl,trivial⟩,fun _ _ _ h=>h,trivial⟩) h0
def cmv:Nat × (Nat→Int) × Int × Int→Prop:=fun t=>match t with | (k,_,_,_)=>k≤50
def emv:Nat × (Nat→Int) × Int × Int→List PV:=fun t=>match t with | (k,q,x,y)=>[.a [.lf k (fQ q)],.n .i64 x,.n .i64 y]
noncomputable def rmv:Nat × (Nat→Int) × Int × Int→Ret:=fun t=>match t with | (k,q,x,y)=>.v (.t [.a [.lf (bif mvC q k x y then k else 0) (fQ (mvQ q k x y))],.b (mvC q k x y)])
def dmv:List PV→Nat × (Nat→Int) × Int × Int:=fun ps=>match ps with
 | [.a [.lf k f],.n _ x,.n _ y]=>(k,unFQ f,x,y)
 | _=>(0,fun _=>0,0,0)
noncomputable def o_mv:List PV→Option (Bool × Ret):=o_fm dmv cmv emv rmv
theorem fUX:zZ Tryz.prog 82 o_mv:=qQV fun t h=>by
 obtain ⟨k,q,x,y⟩:=t;exact uKW k q x y h
noncomputable def xUQ (k:Nat) (q:Nat→Int) (x y:Int):OrS:=orS [] []
noncomputable def jQU (k:Nat) (q:Nat→Int) (x y:Int):List (List Nat × yG):=[]
set_option maxRecDepth 100000 in
theorem xKZ (k:Nat) (q:Nat→Int) (x y:Int):qQZ Tf (xUQ k q x y) (qK (jQU k q x y)) 60 131 [.a [.lf k (fQ q)],.n .i64 x,.n .i64 y] =
 (bif (decide (k≤1000000)) then (bif (inB x k) then some (.v (.a [.lf k (fun v=>[.n .i64 (bif (Nat.beq v (x).toNat) then y else (q v))])]),[])
 else none)
 else none):=by kernel_rfl
theorem kYL (k:Nat) (q:Nat→Int) (x y:Int) (_:k≤50) (hx:inB x k=true):zG Tryz.prog 131 [.a [.lf k (fQ q)],.n .i64 x,.n .i64 y] (.v (.a [.lf k (fQ (fun v=>bif Nat.beq v x.toNat then y else q v))])):=by
 refine zK (N:=60) (LO:=qK (jQU k q x y)) jV yQ (kQ (l:=[]) (m:=[]) trivial trivial) (fun p S hp => ?_) ?_
 ·refine zQ (L:=qY Tf 131) (l:=(jQU k q x y)) (show AllP _ (jQU k q x y) from trivial) p S hp
 ·refine (xKZ k q x y).trans ?_;rw [vJQ (show k≤1000000 by omega),hx];rfl
def crm:Nat × (Nat→Int) × Int × Int→Prop:=fun t=>match t with | (k,_,x,_)=>k≤50∧inB x k=true
def erm:Nat × (Nat→Int) × Int × Int→List PV:=fun t=>match t with | (k,q,x,y)=>[.a [.lf k (fQ q)],.n .i64 x,.n .i64 y]
noncomputable def rrm:Nat × (Nat→Int) × Int × Int→Ret:=fun t=>match t with | (k,q,x,y)=>.v (.a [.lf k (fQ (fun v=>bif Nat.beq v x.toNat then y else q v))])
def drm:List PV→Nat × (Nat→Int) × Int × Int:=fun ps=>match ps with
 | [.a [.lf k f],.n _ x,.n _ y]=>(k,unFQ f,x,y)
 | _=>(0,fun _=>0,0,0)
noncomputable def o_rm:List PV→Option (Bool × Ret):=o_fm drm crm erm rrm
theorem xXY:zZ Tryz.prog 131 o_rm:=qQV fun t h=>by
 obtain ⟨k,q,x,y⟩:=t;exact kYL k q x y h.1 h.2
def tkC (ws:Wsp) (k:Nat) (q:Nat→Int) (k2:Nat) (q2:Nat→Int) (a b x y:Int):Bool:=vlB ws k q && (atB ws a b k2 q2 && mvC q k x y)
theorem uYB {ws:Wsp} {k:Nat} {q:Nat→Int} (h:vlB ws k q=true):k≤6:=by
 unfold vlB at h;simp only [vQJ,decide_eq_true_eq] at h
 have:=uYA h.1
 omega
noncomputable def fKK (_:Wsp) (k:Nat) (q:Nat→Int) (_:Nat) (_:Nat→Int) (a b:Int):OrS:=orS [(34,o_vl),(27,o_at),(82,o_mv)] []
noncomputable def kWW (_:Wsp) (k:Nat) (q:Nat→Int) (_:Nat) (_:Nat→Int) (a b:Int):List (List Nat × yG):=[]
set_option maxRecDepth 100000 in
theorem fYU (ws:Wsp) (k:Nat) (q:Nat→Int) (k2:Nat) (q2:Nat→Int) (a b:Int):qQZ Tf (fKK ws k q k2 q2 a b) (qK (kWW ws k q k2 q2 a b)) 60 32 [.a (wP ws),.a [.lf k (fQ q)],.lf k2 (fQ q2),.n .i64 a,.n .i64 b] =
 (bif (gF1 cvl evl (ws,k,q)) then (bif (vlB ws k q) then (bif (gF1 cat eat (ws,a,b,k2,q2)) then (bif (atB ws a b k2 q2) then (bif (gF1 cmv emv (k,q,b,(vJJ .i64 ((-1) - a)))) then (bif (mvC q k b (vJJ .i64 ((-1) - a))) then some (.v (.t [.a [.lf (bif mvC q k b (vJJ .i64 ((-1) - a)) then k else 0) (fun v=>[.n .i64 (mvQ q k b (vJJ .i64 ((-1) - a)) v)])],.b true]),[])
 else some (.v (.t [.a [.lf (bif mvC q k b (vJJ .i64 ((-1) - a)) then k else 0) (fun v=>[.n .i64 (mvQ q k b (vJJ .i64 ((-1) - a)) v)])],.b false]),[]))
 else none)
 else some (.v (.t [.a [.l []],.b false]),[]))
 else none)
 else some (.v (.t [.a [.l []],.b false]),[]))
 else none):=by kernel_rfl
theorem uJX (ws:Wsp) (k:Nat) (q:Nat→Int) (k2:Nat) (q2:Nat→Int) (a b:Int) (ho:okW ws):zG Tryz.prog 32 [.a (wP ws),.a [.lf k (fQ q)],.lf k2 (fQ q2),.n .i64 a,.n .i64 b] (.v (bif vlB ws k q && atB ws a b k2 q2 then .t [.a [.lf (bif mvC q k b (vJJ .i64 ((-1) - a)) then k else 0) (fQ (mvQ q k b (vJJ .i64 ((-1) - a))))],.b (mvC q k b (vJJ .i64 ((-1) - a)))] else .t [.a [.l []],.b false])):=by
 refine zK (N:=60) (LO:=qK (kWW ws k q k2 q2 a b)) jV yQ (kQ (l:=[(34,o_vl),(27,o_at),(82,o_mv)]) (m:=[]) ⟨xUG,fXQ,fUX,trivial⟩ trivial) (fun p S hp => ?_) ?_
 ·refine zQ (L:=qY Tf 32) (l:=(kWW ws k q k2 q2 a b)) (show AllP _ (kWW ws k q k2 q2 a b) from trivial) p S hp
 ·refine (fYU ws k q k2 q2 a b).trans ?_;rw [jX (C:=cvl) (t:=(ws,k,q)) ho];cases hv:vlB ws k q with
  | false=>rfl
  | true =>
   rw [jX (C:=cat) (t:=(ws,a,b,k2,q2)) ho];cases ha:atB ws a b k2 q2 with
   | false=>rfl
   | true =>
    have:=uYB hv
    rw [jX (C:=cmv) (t:=(k,q,b,(vJJ .i64 ((-1) - a)))) (show k≤50 by omega)];cases mvC q k b (vJJ .i64 ((-1) - a)) <;> rfl
theorem xZL (ws:Wsp) (k:Nat) (q:Nat→Int) (k2:Nat) (q2:Nat→Int) (a b:Int) (ho:okW ws):zG Tryz.prog 32 [.a (wP ws),.a [.lf k (fQ q)],.lf k2 (fQ q2),.n .i64 a,.n .i64 b] (.v (.t [.a [.lf (bif tkC ws k q k2 q2 a b b (vJJ .i64 ((-1) - a)) then k else 0) (fQ (mvQ q k b (vJJ .i64 ((-1) - a))))],.b (tkC ws k q k2 q2 a b b (vJJ .i64 ((-1) - a)))])):=by
 have h0:=uJX ws k q k2 q2 a b ho;unfold tkC;cases hv:vlB ws k q with
 | false=>rw [hv] at h0; exact qQU (Same.t (xs:=[_,_]) ⟨Same.a (xs:=[_]) ⟨Same.lf rfl,trivial⟩,fun _ _ _ h=>h,trivial⟩) h0
 | true =>
  cases ha:atB ws a b k2 q2 with
  | false=>rw [hv,ha] at h0; exact qQU (Same.t (xs:=[_,_]) ⟨Same.a (xs:=[_]) ⟨Same.lf rfl,trivial⟩,fun _ _ _ h=>h,trivial⟩) h0
  | true=>rw [hv,ha] at h0; simpa using h0
noncomputable def xKI (_:Wsp) (k:Nat) (q:Nat→Int) (_:Nat) (_:Nat→Int) (a b:Int):OrS:=orS [(68,o_rv),(28,o_ht),(130,o_oa),(131,o_rm)] []
noncomputable def jQJ (_:Wsp) (k:Nat) (q:Nat→Int) (_:Nat) (_:Nat→Int) (a b:Int):List (List Nat × yG):=[]
set_option maxRecDepth 100000 in
theorem xJL (ws:Wsp) (k:Nat) (q:Nat→Int) (k2:Nat) (q2:Nat→Int) (a b:Int):qQZ Tf (xKI ws k q k2 q2 a b) (qK (jQJ ws k q k2 q2 a b)) 60 80 [.a (wP ws),.a [.lf k (fQ q)],.lf k2 (fQ q2),.n .i64 a,.n .i64 b] =
 (bif (gF1 crv erv (ws,k,q)) then (bif (vlB ws k q) then (bif (gF1 cht eht (ws,a,b,k2,q2)) then (bif (atB ws a b k2 q2) then (bif (gF1 coa eoa (k,q,(vJJ .i64 ((-1) - a)))) then (bif (decide (0≤(ixQ q k (vJJ .i64 ((-1) - a))))) then some (.v (.t [.a [.l []],.b false]),[])
 else (bif (gF1 coa eoa (k,q,b)) then (bif (decide ((ixQ q k b) < 0)) then some (.v (.t [.a [.l []],.b false]),[])
 else (bif (gF1 coa eoa (k,q,b)) then (bif (gF1 crm erm (k,q,(ixQ q k b),(vJJ .i64 ((-1) - a)))) then some (.v (.t [.a [.lf k (fun v=>[.n .i64 (bif Nat.beq v (ixQ q k b).toNat then (vJJ .i64 ((-1) - a)) else (q v))])],.b true]),[])
 else none)
 else none))
 else none))
 else none)
 else some (.v (.t [.a [.l []],.b false]),[]))
 else none)
 else some (.v (.t [.a [.l []],.b false]),[]))
 else none):=by kernel_rfl
theorem kYD (ws:Wsp) (k:Nat) (q:Nat→Int) (k2:Nat) (q2:Nat→Int) (a b:Int) (ho:okW ws):zG Tryz.prog 80 [.a (wP ws),.a [.lf k (fQ q)],.lf k2 (fQ q2),.n .i64 a,.n .i64 b] (.v (bif tkC ws k q k2 q2 a b b (vJJ .i64 ((-1) - a)) then .t [.a [.lf k (fQ (mvQ q k b (vJJ .i64 ((-1) - a))))],.b true] else .t [.a [.l []],.b false])):=by
 refine zK (N:=60) (LO:=qK (jQJ ws k q k2 q2 a b)) jV yQ (kQ (l:=[(68,o_rv),(28,o_ht),(130,o_oa),(131,o_rm)]) (m:=[]) ⟨xXQ,xWK,xXW,xXY,trivial⟩ trivial) (fun p S hp => ?_) ?_
 ·refine zQ (L:=qY Tf 80) (l:=(jQJ ws k q k2 q2 a b)) (show AllP _ (jQJ ws k q k2 q2 a b) from trivial) p S hp
 ·refine (xJL ws k q k2 q2 a b).trans ?_;unfold tkC mvC;rw [jX (C:=crv) (t:=(ws,k,q)) ho];cases hv:vlB ws k q with
  | false=>rfl
  | true =>
   rw [jX (C:=cht) (t:=(ws,a,b,k2,q2)) ho];cases ha:atB ws a b k2 q2 with
   | false=>rfl
   | true =>
    have hk:=uYB hv;simp only [jX (C:=coa) (t:=(k,q,b)) (show k≤50 by omega),jX (C:=coa) (t:=(k,q,(vJJ .i64 ((-1) - a)))) (show k≤50 by omega),yVA,yVB,vYV];cases hx:hasQ q k b with
    | false=>cases hy:hasQ q k (vJJ .i64 ((-1) - a)) <;> rfl
    | true =>
     cases hy:hasQ q k (vJJ .i64 ((-1) - a)) with
     | true=>rfl
     | false =>
      rw [jX (C:=crm) (t:=(k,q,ixQ q k b,(vJJ .i64 ((-1) - a)))) (show k≤50∧inB (ixQ q k b) k=true from ⟨by omega,ixB hx⟩)];rfl
theorem uJC (ws:Wsp) (k:Nat) (q:Nat→Int) (k2:Nat) (q2:Nat→Int) (a b:Int) (ho:okW ws):zG Tryz.prog 80 [.a (wP ws),.a [.lf k (fQ q)],.lf k2 (fQ q2),.n .i64 a,.n .i64 b] (.v (.t [.a [.lf (bif tkC ws k q k2 q2 a b b (vJJ .i64 ((-1) - a)) then k else 0) (fQ (mvQ q k b (vJJ .i64 ((-1) - a))))],.b (tkC ws k q k2 q2 a b b (vJJ .i64 ((-1) - a)))])):=by
 have h0:=kYD ws k q k2 q2 a b ho;cases hv:tkC ws k q k2 q2 a b b (vJJ .i64 ((-1) - a)) with
 | false=>rw [hv] at h0; exact qQU (Same.t (xs:=[_,_]) ⟨Same.a (xs:=[_]) ⟨Same.lf rfl,trivial⟩,fun _ _ _ h=>h,trivial⟩) h0
 | true=>rw [hv] at h0; exact h0
def ctk:Wsp × Nat × (Nat→Int) × Nat × (Nat→Int) × Int × Int→Prop:=fun t=>match t with | (ws,_,_,_,_,_,_)=>okW ws
def etk:Wsp × Nat × (Nat→Int) × Nat × (Nat→Int) × Int × Int→List PV:=fun t=>match t with | (ws,k,q,k2,q2,a,b)=>[.a (wP ws),.a [.lf k (fQ q)],.lf k2 (fQ q2),.n .i64 a,.n .i64 b]
noncomputable def rtk:Wsp × Nat × (Nat→Int) × Nat × (Nat→Int) × Int × Int→Ret:=fun t=>match t with | (ws,k,q,k2,q2,a,b)=>.v (.t [.a [.lf (bif tkC ws k q k2 q2 a b b (vJJ .i64 ((-1) - a)) then k else 0) (fQ (mvQ q k b (vJJ .i64 ((-1) - a))))],.b (tkC ws k q k2 q2 a b b (vJJ .i64 ((-1) - a)))])
def dtk:List PV→Wsp × Nat × (Nat→Int) × Nat × (Nat→Int) × Int × Int:=fun ps=>match ps with
 | [.a r,.a [.lf k f],.lf k2 g,.n _ a,.n _ b]=>(unW r,k,unFQ f,k2,unFQ g,a,b)
 | _=>(unW [],0,fun _=>0,0,fun _=>0,0,0)
noncomputable def o_tk:List PV→Option (Bool × Ret):=o_fm dtk ctk etk rtk
theorem fKL:zZ Tryz.prog 32 o_tk:=qQV fun t h=>by
 obtain ⟨ws,k,q,k2,q2,a,b⟩:=t;exact xZL ws k q k2 q2 a b h
def crtk:Wsp × Nat × (Nat→Int) × Nat × (Nat→Int) × Int × Int→Prop:=fun t=>match t with | (ws,_,_,_,_,_,_)=>okW ws
def ertk:Wsp × Nat × (Nat→Int) × Nat × (Nat→Int) × Int × Int→List PV:=fun t=>match t with | (ws,k,q,k2,q2,a,b)=>[.a (wP ws),.a [.lf k (fQ q)],.lf k2 (fQ q2),.n .i64 a,.n .i64 b]
noncomputable def rrtk:Wsp × Nat × (Nat→Int) × Nat × (Nat→Int) × Int × Int→Ret:=fun t=>match t with | (ws,k,q,k2,q2,a,b)=>.v (.t [.a [.lf (bif tkC ws k q k2 q2 a b b (vJJ .i64 ((-1) - a)) then k else 0) (fQ (mvQ q k b (vJJ .i64 ((-1) - a))))],.b (tkC ws k q k2 q2 a b b (vJJ .i64 ((-1) - a)))])
def drtk:List PV→Wsp × Nat × (Nat→Int) × Nat × (Nat→Int) × Int × Int:=fun ps=>match ps with
 | [.a r,.a [.lf k f],.lf k2 g,.n _ a,.n _ b]=>(unW r,k,unFQ f,k2,unFQ g,a,b)
 | _=>(unW [],0,fun _=>0,0,fun _=>0,0,0)
noncomputable def uVC:List PV→Option (Bool × Ret):=o_fm drtk crtk ertk rrtk
theorem xXZ:zZ Tryz.prog 80 uVC:=qQV fun t h=>by
 obtain ⟨ws,k,q,k2,q2,a,b⟩:=t;exact uJC ws k q k2 q2 a b h
noncomputable def xKL (_:Wsp) (k:Nat) (q:Nat→Int) (_:Nat) (_:Nat→Int) (a b:Int):OrS:=orS [(68,o_rv),(28,o_ht),(130,o_oa),(131,o_rm)] []
noncomputable def zQQ (_:Wsp) (k:Nat) (q:Nat→Int) (_:Nat) (_:Nat→Int) (a b:Int):List (List Nat × yG):=[]
set_option maxRecDepth 100000 in
theorem jWK (ws:Wsp) (k:Nat) (q:Nat→Int) (k2:Nat) (q2:Nat→Int) (a b:Int):qQZ Tf (xKL ws k q k2 q2 a b) (qK (zQQ ws k q k2 q2 a b)) 60 81 [.a (wP ws),.a [.lf k (fQ q)],.lf k2 (fQ q2),.n .i64 a,.n .i64 b] =
 (bif (gF1 crv erv (ws,k,q)) then (bif (vlB ws k q) then (bif (gF1 cht eht (ws,a,b,k2,q2)) then (bif (atB ws a b k2 q2) then (bif (gF1 coa eoa (k,q,(vJJ .i64 ((-1) - a)))) then (bif (decide ((ixQ q k (vJJ .i64 ((-1) - a))) < 0)) then some (.v (.t [.a [.l []],.b false]),[])
 else (bif (gF1 coa eoa (k,q,b)) then (bif (decide (0≤(ixQ q k b))) then some (.v (.t [.a [.l []],.b false]),[])
 else (bif (gF1 coa eoa (k,q,(vJJ .i64 ((-1) - a)))) then (bif (gF1 crm erm (k,q,(ixQ q k (vJJ .i64 ((-1) - a))),b)) then some (.v (.t [.a [.lf k (fun v=>[.n .i64 (bif Nat.beq v (ixQ q k (vJJ .i64 ((-1) - a))).toNat then b else (q v))])],.b true]),[])
 else none)
 else none))
 else none))
 else none)
 else some (.v (.t [.a [.l []],.b false]),[]))
 else none)
 else some (.v (.t [.a [.l []],.b false]),[]))
 else none):=by kernel_rfl
theorem zHZ (ws:Wsp) (k:Nat) (q:Nat→Int) (k2:Nat) (q2:Nat→Int) (a b:Int) (ho:okW ws):zG Tryz.prog 81 [.a (wP ws),.a [.lf k (fQ q)],.lf k2 (fQ q2),.n .i64 a,.n .i64 b] (.v (bif tkC ws k q k2 q2 a b (vJJ .i64 ((-1) - a)) b then .t [.a [.lf k (fQ (mvQ q k (vJJ .i64 ((-1) - a)) b))],.b true] else .t [.a [.l []],.b false])):=by
 refine zK (N:=60) (LO:=qK (zQQ ws k q k2 q2 a b)) jV yQ (kQ (l:=[(68,o_rv),(28,o_ht),(130,o_oa),(131,o_rm)]) (m:=[]) ⟨xXQ,xWK,xXW,xXY,trivial⟩ trivial) (fun p S hp => ?_) ?_
 ·refine zQ (L:=qY Tf 81) (l:=(zQQ ws k q k2 q2 a b)) (show AllP _ (zQQ ws k q k2 q2 a b) from trivial) p S hp
 ·refine (jWK ws k q k2 q2 a b).trans ?_;unfold tkC mvC;rw [jX (C:=crv) (t:=(ws,k,q)) ho];cases hv:vlB ws k q with
  | false=>rfl
  | true =>
   rw [jX (C:=cht) (t:=(ws,a,b,k2,q2)) ho];cases ha:atB ws a b k2 q2 with
   | false=>rfl
   | true =>
    have hk:=uYB hv;simp only [jX (C:=coa) (t:=(k,q,(vJJ .i64 ((-1) - a)))) (show k≤50 by omega),jX (C:=coa) (t:=(k,q,b)) (show k≤50 by omega),yVA,yVB,vYV];cases hx:hasQ q k (vJJ .i64 ((-1) - a)) with
    | false=>cases hy:hasQ q k b <;> rfl
    | true =>
     cases hy:hasQ q k b with
     | true=>rfl
     | false =>
      rw [jX (C:=crm) (t:=(k,q,ixQ q k (vJJ .i64 ((-1) - a)),b)) (show k≤50∧inB (ixQ q k (vJJ .i64 ((-1) - a))) k=true from ⟨by omega,ixB hx⟩)];rfl
theorem jUB (ws:Wsp) (k:Nat) (q:Nat→Int) (k2:Nat) (q2:Nat→Int) (a b:Int) (ho:okW ws):zG Tryz.prog 81 [.a (wP ws),.a [.lf k (fQ q)],.lf k2 (fQ q2),.n .i64 a,.n .i64 b] (.v (.t [.a [.lf (bif tkC ws k q k2 q2 a b (vJJ .i64 ((-1) - a)) b then k else 0) (fQ (mvQ q k (vJJ .i64 ((-1) - a)) b))],.b (tkC ws k q k2 q2 a b (vJJ .i64 ((-1) - a)) b)])):=by
 have h0:=zHZ ws k q k2 q2 a b ho;cases hv:tkC ws k q k2 q2 a b (vJJ .i64 ((-1) - a)) b with
 | false=>rw [hv] at h0; exact qQU (Same.t (xs:=[_,_]) ⟨Same.a (xs:=[_]) ⟨Same.lf rfl,trivial⟩,fun _ _ _ h=>h,trivial⟩) h0
 | true=>rw [hv] at h0; exact h0
end Go.Proofs.YtmeldddgjfocdaaGreat.Hg

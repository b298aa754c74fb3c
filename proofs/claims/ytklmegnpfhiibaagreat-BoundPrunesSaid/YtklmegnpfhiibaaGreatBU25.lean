/- Part 25 of the texts behind the last one: rules and contracts. No condition. -/
import Derived.Test.YtklmegnpfhiibaaGreatBU24
open Option.some renaming injEq → vQZ
open Bool renaming and_eq_true → vQJ, true_and → vZW
open List renaming getElem?_eq_getElem → vQK
open Go.IntKind renaming wrap → vYV
namespace Go.Proofs.YtklmegnpfhiibaaGreat.Xg
open Go.Rx Rt Go.Sx Go.RowKit Od Nb Nc Xb Xc Bb Xe Xf
def smN (q u:Nat→Int) (k l:Nat):Bool:=decide ((k:Int)=(l:Int)) && allN (fun t:Nat=>decide (q t=u t)) k 0
def poI (pn:Nat→Nat) (pv:Nat→Nat→Int) (q:Nat→Int) (k:Nat):Nat→Nat→Int
 | 0,_ => -1
 | d + 1,j=>bif smN (pv j) q (pn j) k then (j:Int) else poI pn pv q k d (j + 1)
theorem zZI {pn:Nat→Nat} {pv:Nat→Nat→Int} {q:Nat→Int} {k:Nat}:∀ {d j:Nat},poI pn pv q k d j = -1∧(∀ i,j≤i→i < j + d→smN (pv i) q (pn i) k=false) ∨ 0≤poI pn pv q k d j∧∃ i,j≤i∧i < j + d∧smN (pv i) q (pn i) k=true
 | 0,j=>.inl ⟨rfl,fun i h1 h2=>by omega⟩
 | d + 1,j=>by
  cases h:smN (pv j) q (pn j) k with
  | true=>exact .inr ⟨by simp only [poI,h,vYY]; omega,j,Nat.le_refl _,by omega,h⟩
  | false =>
   rcases zZI (pn:=pn) (pv:=pv) (q:=q) (k:=k) (d:=d) (j:=j + 1) with ⟨h1,h2⟩ | ⟨h1,i,h2,h3,h4⟩
   ·refine .inl ⟨by simp only [poI,h,vYJ]; exact h1,fun i h3 h4 => ?_⟩;by_cases e:i=j
    ·subst e; exact h
    ·exact h2 i (by omega) (by omega)
   ·exact .inr ⟨by simp only [poI,h,vYJ]; exact h1,i,by omega,by omega,h4⟩
noncomputable def orsn (q u:Nat→Int) (k l:Nat):OrS:=orS [] []
noncomputable def hsn (q u:Nat→Int) (k l:Nat) (i:Int):St:=⟨[(0,.v (.lf k (fQ q))),(1,.v (.lf l (fQ u))),(5,.v (.n .i64 i))],[]⟩
set_option maxRecDepth 100000 in
theorem rdsn (G:St→Option (Ret × Mem)) (K:Cont) (q u:Nat→Int) (k l:Nat) (i:Int):stpT Tf 85 (orsn q u k l) (k + 10) [] [0,1,0,1,1] K G (hsn q u k l i) =
 (bif (decide (i < (k:Int))) then (bif (inB i k) then (bif (inB i l) then (bif (!decide ((q (i).toNat)=(u (i).toNat))) then (K .ret ⟨[(4,.v (.b false))],[]⟩)
 else (G (hsn q u k l (vYV .i64 (i + 1)))))
 else none)
 else none)
 else (K (.exit 0) ⟨[],[]⟩)):=by kernel_rfl
theorem lpsn (K:Cont) (q u:Nat→Int) (k l:Nat) (_:k≤1000) (_:k=l):LFT Tf 85 (orsn q u k l) (k + 10) [] [0,1,0,1,1] K (k + 10) (hsn q u k l 0)=bif (allN (fun i:Nat=>decide (q i=u i)) k 0) then (K (.exit 0) ⟨[],[]⟩) else (K .ret ⟨[(4,.v (.b false))],[]⟩):=by
 refine (qYW (L:=LFT Tf 85 (orsn q u k l) (k + 10) [] [0,1,0,1,1] K) (stp:=stpT Tf 85 (orsn q u k l) (k + 10) [] [0,1,0,1,1] K) (fun _ _=>rfl) (fun (i:Nat) (_:Unit)=>hsn q u k l (i:Int)) (fun _ _=>True) (fun (i:Nat) _=>decide (q i=u i)) (fun _ _=>()) (c:=k) (fun _=>(K (.exit 0) ⟨[],[]⟩)) (fun i _=>(K .ret ⟨[(4,.v (.b false))],[]⟩)) (fun G i f hi _ => ?_) (fun _ _ _ _ _=>trivial) (fun G f _ => ?_) k 0 (k + 10) () (by omega) (by omega) trivial).trans ((qZV _ _ _ _ _).trans (kW _ _ _ _ _))
 ·refine (rdsn G K q u k l i).trans ?_;rw [vYU (show (i:Int) < (k:Int) by omega),kZ (by omega),zX (show i < k by omega),zX (show i < l by omega)];simp only [toN,vYY];cases decide (q i=u i) <;> rfl
 ·refine (rdsn G K q u k l k).trans ?_;rw [vYK (show ¬ (k:Int) < (k:Int) by omega)];rfl
noncomputable def yQI (q u:Nat→Int) (k l:Nat):List (List Nat × yW):=[([0,1,0,1,1],sumF (fun _:Unit=>(hsn q u k l 0)) (fun _=>()) (fun _ K=>(bif (decide (k≤1000) && decide (k=l)) then (bif (allN (fun i:Nat=>decide (q i=u i)) k 0) then (K (.exit 0) ⟨[],[]⟩) else (K .ret ⟨[(4,.v (.b false))],[]⟩)) else none)))]
set_option maxRecDepth 100000 in
theorem pxsn0 (q u:Nat→Int) (k l:Nat):qQU Tf (orsn q u k l) (qJ (yQI q u k l)) (k + 10) 85 [.lf k (fQ q),.lf l (fQ u)] =
 (bif (!decide ((k:Int)=(l:Int))) then some (.v (.b false),[])
 else (bif (gSt (hsn q u k l 0) (hsn q u k l 0)) then (bif (decide (k≤1000) && decide (k=l)) then (bif (allN (fun i:Nat=>decide (q i=u i)) k 0) then some (.v (.b true),[])
 else some (.v (.b false),[]))
 else none)
 else none)):=by kernel_rfl
theorem snd_sn0 (q u:Nat→Int) (k l:Nat) (hl:l≤1000):zQ Tryz.prog 85 [.lf k (fQ q),.lf l (fQ u)] (.v (.b (smN q u k l))):=by
 refine qV (N:=(k + 10)) (LO:=qJ (yQI q u k l)) jY jQ (jK (l:=[]) (m:=[]) trivial trivial) (fun p S hp => ?_) ?_
 ·refine qW (L:=qY Tf 85) (l:=(yQI q u k l)) (show AllP _ (yQI q u k l) from ⟨?_,trivial⟩) p S hp
  ·dsimp only;refine jJ (T:=Tf) (o:=(orsn q u k l)) (f:=85) (LO:=qJ []) (p:=[0,1,0,1,1]) jU ?_;intro t K r hr;obtain ⟨hg,hr⟩:=qZ hr;rw [vQJ] at hg;have hk:=vYX hg.1;have hl:=vYX hg.2;exact (lpsn K q u k l hk hl).trans hr
 ·refine (pxsn0 q u k l).trans ?_;unfold smN;by_cases h:k=l
  ·subst h;simp only [decide_true,Bool.not_true,vYJ,zV,vYU hl,vZW,vYY];cases allN (fun t:Nat=>decide (q t=u t)) k 0 <;> rfl
  ·rw [vYK (show ¬ (k:Int)=(l:Int) by omega)]; rfl
def csn:(Nat→Int) × (Nat→Int) × Nat × Nat→Prop:=fun t=>match t with | (_,_,_,l)=>l≤1000
def esn:(Nat→Int) × (Nat→Int) × Nat × Nat→List PV:=fun t=>match t with | (q,u,k,l)=>[.lf k (fQ q),.lf l (fQ u)]
noncomputable def rsn:(Nat→Int) × (Nat→Int) × Nat × Nat→Ret:=fun t=>match t with | (q,u,k,l)=>.v (.b (smN q u k l))
def dsn:List PV→(Nat→Int) × (Nat→Int) × Nat × Nat:=fun ps=>match ps with
 | [.lf k f,.lf l h]=>(unFQ f,unFQ h,k,l)
 | _=>(fun _=>0,fun _=>0,0,0)
noncomputable def o_sn:List PV→Option (Bool × Ret):=o_fm dsn csn esn rsn
theorem ok_sn:kU Tryz.prog 85 o_sn:=qZB fun t h=>by
 obtain ⟨q,u,k,l⟩:=t;exact snd_sn0 q u k l h
noncomputable def orpo (N i:Nat) (pn:Nat→Nat) (pv:Nat→Nat→Int) (q:Nat→Int) (k:Nat):OrS:=orS [(85,o_sn)] []
noncomputable def hpo (N i:Nat) (pn:Nat→Nat) (pv:Nat→Nat→Int) (q:Nat→Int) (k:Nat) (j:Int):St:=⟨[(0,.v (.lf i (fP pn pv))),(1,.v (.lf k (fQ q))),(5,.v (.n .i64 j))],[]⟩
set_option maxRecDepth 100000 in
theorem rdpo (G:St→Option (Ret × Mem)) (K:Cont) (N i:Nat) (pn:Nat→Nat) (pv:Nat→Nat→Int) (q:Nat→Int) (k:Nat) (j:Int):stpT Tf 53 (orpo N i pn pv q k) N [] [0,1,0,1] K G (hpo N i pn pv q k j) =
 (bif (decide (j < (i:Int))) then (bif (inB j i) then (bif (gF1 csn esn ((pv (j).toNat),q,(pn (j).toNat),k)) then (bif (smN (pv (j).toNat) q (pn (j).toNat) k) then (K .ret ⟨[(4,.v (.n .i64 j))],[]⟩)
 else (G (hpo N i pn pv q k (vYV .i64 (j + 1)))))
 else none)
 else none)
 else (K (.exit 0) ⟨[],[]⟩)):=by kernel_rfl
noncomputable def dcpo (i:Nat) (pn:Nat→Nat) (pv:Nat→Nat→Int) (q:Nat→Int) (k:Nat):Int→Int ⊕ (Nat × Int):=fun t=>match t with | j=>(bif (decide (j < (i:Int))) then (bif (inB j i) then (bif (gF1 csn esn ((pv (j).toNat),q,(pn (j).toNat),k)) then (bif (smN (pv (j).toNat) q (pn (j).toNat) k) then (.inr (0,j)) else (.inl (vYV .i64 (j + 1)))) else (.inr (2,j))) else (.inr (2,j))) else (.inr (1,j)))
noncomputable def kxpo (N i:Nat) (pn:Nat→Nat) (pv:Nat→Nat→Int) (q:Nat→Int) (k:Nat) (K:Cont) (w9:Nat × Int):Option (Ret × Mem):=bif Nat.beq w9.1 0 then (K .ret ⟨[(4,.v (.n .i64 w9.2))],[]⟩) else bif Nat.beq w9.1 1 then (K (.exit 0) ⟨[],[]⟩) else none
theorem wlpo (K:Cont) (N i:Nat) (pn:Nat→Nat) (pv:Nat→Nat→Int) (q:Nat→Int) (k:Nat):∀ n9 (t:Int),LFT Tf 53 (orpo N i pn pv q k) N [] [0,1,0,1] K n9 (hpo N i pn pv q k t)=(zU (dcpo i pn pv q k) n9 t).bind (kxpo N i pn pv q k K):=fun n9 t=>by
 refine qJI (L:=LFT Tf 53 (orpo N i pn pv q k) N [] [0,1,0,1] K) (stp:=stpT Tf 53 (orpo N i pn pv q k) N [] [0,1,0,1] K) (fun _ _=>rfl) (fun _=>rfl) (fun t=>hpo N i pn pv q k t) (fun _=>True) (dcpo i pn pv q k) (kxpo N i pn pv q k K) (fun G t _ => ?_) (fun _ _ _ _=>trivial) n9 t trivial;obtain ⟨j,rfl⟩:∃ j,j=t:=⟨_,rfl⟩
 refine (rdpo G K N i pn pv q k j).trans ?_;dsimp only [dcpo];cases (decide (j < (i:Int)))
 ·rfl
 ·cases (inB j i)
  ·rfl
  ·cases (gF1 csn esn ((pv (j).toNat),q,(pn (j).toNat),k))
   ·rfl
   ·cases (smN (pv (j).toNat) q (pn (j).toNat) k)
    ·rfl
    ·rfl
noncomputable def zGG (N:Nat) (i:Nat) (pn:Nat→Nat) (pv:Nat→Nat→Int) (q:Nat→Int) (k:Nat) (t:Int):Bool:=(zU (dcpo i pn pv q k) N t).isSome
noncomputable def zUD (N:Nat) (i:Nat) (pn:Nat→Nat) (pv:Nat→Nat→Int) (q:Nat→Int) (k:Nat) (t:Int):Nat × Int:=(zU (dcpo i pn pv q k) N t).getD (99,t)
theorem lwpo (K:Cont) (N i:Nat) (pn:Nat→Nat) (pv:Nat→Nat→Int) (q:Nat→Int) (k:Nat) (t:Int) (hg:zGG N i pn pv q k t=true):LFT Tf 53 (orpo N i pn pv q k) N [] [0,1,0,1] K N (hpo N i pn pv q k t)=kxpo N i pn pv q k K (zUD N i pn pv q k t):=by
 refine (wlpo K N i pn pv q k N t).trans ?_;unfold zGG at hg;unfold zUD;cases h:zU (dcpo i pn pv q k) N t with
 | none=>rw [h] at hg; cases hg
 | some y=>rfl
theorem it_po {i:Nat} {pn:Nat→Nat} {pv:Nat→Nat→Int} {q:Nat→Int} {k:Nat} (hk:k≤1000) (hi:i≤1000):∀ (d j N:Nat),j + d=i→d < N→zU (dcpo i pn pv q k) N (j:Int)=some (if poI pn pv q k d j = -1 then (1,(i:Int)) else (0,poI pn pv q k d j))
 | _,_,0,_,h=>by omega
 | 0,j,N + 1,hj,_=>by
  obtain rfl:j=i:=by omega
  rw [zU];simp only [dcpo,vYK (show ¬ (j:Int) < (j:Int) by omega),vYJ,poI,if_true]
 | d + 1,j,N + 1,hj,hN=>by
  rw [zU];simp only [dcpo,vYU (show (j:Int) < (i:Int) by omega),zX (show j < i by omega),toN,jW (C:=csn) (t:=(pv j,q,pn j,k)) hk,vYY];cases h:smN (pv j) q (pn j) k with
  | true=>simp only [poI,h,vYY,if_neg (show ¬ (j:Int) = -1 by omega)]
  | false =>
   simp only [poI,h,vYJ,kZ (show j < 1000000 by omega)];exact it_po hk hi d (j + 1) N (by omega) (by omega)
noncomputable def yZV (N i:Nat) (pn:Nat→Nat) (pv:Nat→Nat→Int) (q:Nat→Int) (k:Nat):List (List Nat × yW):=[([0,1,0,1],sumF (fun t:Int=>(hpo N i pn pv q k t)) (fun σ=>slI σ 5) (fun t K=>(bif zGG N i pn pv q k t then kxpo N i pn pv q k K (zUD N i pn pv q k t) else none)))]
set_option maxRecDepth 100000 in
theorem pxpo0 (N i:Nat) (pn:Nat→Nat) (pv:Nat→Nat→Int) (q:Nat→Int) (k:Nat):qQU Tf (orpo N i pn pv q k) (qJ (yZV N i pn pv q k)) N 53 [.lf i (fP pn pv),.lf k (fQ q)] =
 (bif (gSt (hpo N i pn pv q k 0) (hpo N i pn pv q k 0)) then (bif (zGG N i pn pv q k 0) then (bif (Nat.beq (zUD N i pn pv q k 0).1 0) then some (.v (.n .i64 (zUD N i pn pv q k 0).2),[])
 else (bif (Nat.beq (zUD N i pn pv q k 0).1 1) then some (.v (.n .i64 (-1)),[])
 else none))
 else none)
 else none):=by kernel_rfl
theorem snd_po0 (N i:Nat) (pn:Nat→Nat) (pv:Nat→Nat→Int) (q:Nat→Int) (k:Nat) (hN:N=1010) (hk:k≤1000) (hi:i≤1000):zQ Tryz.prog 53 [.lf i (fP pn pv),.lf k (fQ q)] (.v (.n .i64 (poI pn pv q k i 0))):=by
 refine qV (N:=N) (LO:=qJ (yZV N i pn pv q k)) jY jQ (jK (l:=[(85,o_sn)]) (m:=[]) ⟨ok_sn,trivial⟩ trivial) (fun p S hp => ?_) ?_
 ·refine qW (L:=qY Tf 53) (l:=(yZV N i pn pv q k)) (show AllP _ (yZV N i pn pv q k) from ⟨?_,trivial⟩) p S hp
  ·dsimp only;refine jJ (T:=Tf) (o:=(orpo N i pn pv q k)) (f:=53) (LO:=qJ []) (p:=[0,1,0,1]) jU ?_;intro t K r hr;obtain ⟨hg,hr⟩:=qZ hr
   skip
   exact (lwpo K N i pn pv q k t hg).trans hr
 ·refine (pxpo0 N i pn pv q k).trans ?_;subst hN;have h:=it_po (pn:=pn) (pv:=pv) (q:=q) hk hi i 0 1010 (by omega) (by omega);have ho:zGG 1010 i pn pv q k 0=true:=by unfold zGG; rw [show (0:Int)=((0:Nat):Int) from rfl,h]; rfl
  have hu:zUD 1010 i pn pv q k 0=(if poI pn pv q k i 0 = -1 then (1,(i:Int)) else (0,poI pn pv q k i 0)):=by unfold zUD; rw [show (0:Int)=((0:Nat):Int) from rfl,h]; rfl
  simp only [zV,ho,vYY];rw [hu];by_cases e:poI pn pv q k i 0 = -1
  ·rw [if_pos e,e]; rfl
  ·rw [if_neg e]; rfl
end Go.Proofs.YtklmegnpfhiibaaGreat.Xg
namespace Go.Proofs.YtklmegnpfhiibaaGreat.Xh
open Go.Rx Rt Go.Sx Go.RowKit Od Nb Nc Xb Xc Bb Xe Xf Xg
def unPn (f:Nat→List PV):Nat→Nat:=fun u=>match f u with
 | [.lf n _]=>n
 | _=>0
def unPv (f:Nat→List PV):Nat→Nat→Int:=fun u=>match f u with
 | [.lf _ h]=>unFQ h
 | _=>fun _=>0
def cpo:Nat × (Nat→Nat) × (Nat→Nat→Int) × (Nat→Int) × Nat→Prop:=fun t=>match t with | (i,_,_,_,k)=>k≤1000∧i≤1000
def epo:Nat × (Nat→Nat) × (Nat→Nat→Int) × (Nat→Int) × Nat→List PV:=fun t=>match t with | (i,pn,pv,q,k)=>[.lf i (fP pn pv),.lf k (fQ q)]
noncomputable def rpo:Nat × (Nat→Nat) × (Nat→Nat→Int) × (Nat→Int) × Nat→Ret:=fun t=>match t with | (i,pn,pv,q,k)=>.v (.n .i64 (poI pn pv q k i 0))
def dpo:List PV→Nat × (Nat→Nat) × (Nat→Nat→Int) × (Nat→Int) × Nat:=fun ps=>match ps with
 | [.lf i f,.lf k h]=>(i,unPn f,unPv f,unFQ h,k)
 | _=>(0,fun _=>0,fun _ _=>0,fun _=>0,0)
noncomputable def o_po:List PV→Option (Bool × Ret):=o_fm dpo cpo epo rpo
theorem ok_po:kU Tryz.prog 53 o_po:=qZB fun t h=>by
 obtain ⟨i,pn,pv,q,k⟩:=t;exact snd_po0 1010 i pn pv q k rfl h.1 h.2
def okP (js:Nat→J) (ms:Nat→Ms) (n m:Nat) (pn:Nat→Nat) (pv:Nat→Nat→Int) (i:Nat):Bool:=inP js ms n m pn pv i && !decide (0≤poI pn pv (pv i) (pn i) i 0)
noncomputable def orm1 (js:Nat→J) (ms:Nat→Ms) (n m:Nat) (np:Nat) (pn:Nat→Nat) (pv:Nat→Nat→Int) (ne:Nat) (ed:Nat→Ed):OrS:=orS [(28,o_cr [.a [.lf n (fJ js),.lf m (fM ms)]] (.v (.n .i64 (rErr js ms n m)))),(34,o_ir js ms n m),(53,o_po),(96,o_lk [.a [.lf np (fP pn pv),.lf ne (fE ed)]] (decide (ne≤8192)) (.v (.b (odB (⟨np,fP pn pv,ne,ed⟩:Gr))))),(10,o_dr js ms n m)] []
noncomputable def hm1 (js:Nat→J) (ms:Nat→Ms) (n m:Nat) (np:Nat) (pn:Nat→Nat) (pv:Nat→Nat→Int) (ne:Nat) (ed:Nat→Ed) (i:Int):St:=⟨[(2,.p 2 0),(3,.p 3 0),(5,.v (.n .i64 i))],[(2,.blk [.v (.lf n (fJ js)),.v (.lf m (fM ms))]),(3,.blk [.v (.lf np (fP pn pv)),.v (.lf ne (fE ed))])]⟩
set_option maxRecDepth 100000 in
theorem rdm1 (G:St→Option (Ret × Mem)) (K:Cont) (js:Nat→J) (ms:Nat→Ms) (n m:Nat) (np:Nat) (pn:Nat→Nat) (pv:Nat→Nat→Int) (ne:Nat) (ed:Nat→Ed) (i:Int):stpT Tf 66 (orm1 js ms n m np pn pv ne ed) (np + ne + 10) [] [0,1,0,1,1] K G (hm1 js ms n m np pn pv ne ed i) =
 (bif (decide (i < (np:Int))) then (bif (inB i np) then (bif (gF1 (cir js ms n m) (eir js ms n m) ((pv (i).toNat),(pn (i).toNat))) then (bif (qIn js ms (pv (i).toNat) n m (pn (i).toNat)) then (bif (inS none (some i) np) then (bif (inB i np) then (bif (gF1 cpo epo (((i).toNat - 0),(fun v=>(pn (v + 0))),(fun v w=>(pv (v + 0) w)),(pv (i).toNat),(pn (i).toNat))) then (bif (decide (0≤(poI (fun v=>(pn (v + 0))) (fun v w=>(pv (v + 0) w)) (pv (i).toNat) (pn (i).toNat) ((i).toNat - 0) 0))) then (K .ret ⟨[(2,.p 2 0),(3,.p 3 0),(4,.v (.b false))],[(2,.blk [.v (.lf n (fJ js)),.v (.lf m (fM ms))]),(3,.blk [.v (.lf np (fP pn pv)),.v (.lf ne (fE ed))])]⟩)
 else (G (hm1 js ms n m np pn pv ne ed (vYV .i64 (i + 1)))))
 else none)
 else none)
 else none)
 else (K .ret ⟨[(2,.p 2 0),(3,.p 3 0),(4,.v (.b false))],[(2,.blk [.v (.lf n (fJ js)),.v (.lf m (fM ms))]),(3,.blk [.v (.lf np (fP pn pv)),.v (.lf ne (fE ed))])]⟩))
 else none)
 else none)
 else (K (.exit 0) ⟨[(2,.p 2 0),(3,.p 3 0)],[(2,.blk [.v (.lf n (fJ js)),.v (.lf m (fM ms))]),(3,.blk [.v (.lf np (fP pn pv)),.v (.lf ne (fE ed))])]⟩)):=by kernel_rfl
theorem lpm1 (K:Cont) (js:Nat→J) (ms:Nat→Ms) (n m:Nat) (np:Nat) (pn:Nat→Nat) (pv:Nat→Nat→Int) (ne:Nat) (ed:Nat→Ed) (_:np≤1000):LFT Tf 66 (orm1 js ms n m np pn pv ne ed) (np + ne + 10) [] [0,1,0,1,1] K (np + ne + 10) (hm1 js ms n m np pn pv ne ed 0)=bif (allN (fun i:Nat=>okP js ms n m pn pv i) np 0) then (K (.exit 0) ⟨[(2,.p 2 0),(3,.p 3 0)],[(2,.blk [.v (.lf n (fJ js)),.v (.lf m (fM ms))]),(3,.blk [.v (.lf np (fP pn pv)),.v (.lf ne (fE ed))])]⟩) else (K .ret ⟨[(2,.p 2 0),(3,.p 3 0),(4,.v (.b false))],[(2,.blk [.v (.lf n (fJ js)),.v (.lf m (fM ms))]),(3,.blk [.v (.lf np (fP pn pv)),.v (.lf ne (fE ed))])]⟩):=by
 refine (qYW (L:=LFT Tf 66 (orm1 js ms n m np pn pv ne ed) (np + ne + 10) [] [0,1,0,1,1] K) (stp:=stpT Tf 66 (orm1 js ms n m np pn pv ne ed) (np + ne + 10) [] [0,1,0,1,1] K) (fun _ _=>rfl) (fun (i:Nat) (_:Unit)=>hm1 js ms n m np pn pv ne ed (i:Int)) (fun _ _=>True) (fun (i:Nat) _=>okP js ms n m pn pv i) (fun _ _=>()) (c:=np) (fun _=>(K (.exit 0) ⟨[(2,.p 2 0),(3,.p 3 0)],[(2,.blk [.v (.lf n (fJ js)),.v (.lf m (fM ms))]),(3,.blk [.v (.lf np (fP pn pv)),.v (.lf ne (fE ed))])]⟩)) (fun i _=>(K .ret ⟨[(2,.p 2 0),(3,.p 3 0),(4,.v (.b false))],[(2,.blk [.v (.lf n (fJ js)),.v (.lf m (fM ms))]),(3,.blk [.v (.lf np (fP pn pv)),.v (.lf ne (fE ed))])]⟩)) (fun G i f hi _ => ?_) (fun _ _ _ _ _=>trivial) (fun G f _ => ?_) np 0 (np + ne + 10) () (by omega) (by omega) trivial).trans ((qZV _ _ _ _ _).trans (kW _ _ _ _ _))
 ·refine (rdm1 G K js ms n m np pn pv ne ed i).trans ?_;rw [vYU (show (i:Int) < (np:Int) by omega),kZ (by omega),zX (show i < np by omega)];have hs:inS none (some (i:Int)) np=true:=by
   show (true && decide (0≤(i:Int)) && decide (0≤(i:Int).toNat) && decide ((i:Int).toNat≤np))=true;rw [vYU (show (0:Int)≤(i:Int) by omega),vYU (show 0≤(i:Int).toNat by omega),vYU (show (i:Int).toNat≤np by omega)]; rfl
  simp only [toN,Nat.sub_zero,Nat.add_zero,hs,jW (C:=cir js ms n m) (t:=_) trivial,vYY];cases hq:qIn js ms (pv i) n m (pn i) with
  | false=>simp only [okP,inP,hq,Bool.false_and,vYJ]
  | true =>
   have hk:=qKF hq;have hg:gF1 cpo epo (i,pn,pv,pv i,pn i)=true:=jW (C:=cpo) (t:=(i,pn,pv,pv i,pn i)) ⟨by omega,by omega⟩;simp only [okP,inP,hq,hg,vYY,vZW];cases decide (0≤poI pn pv (pv i) (pn i) i 0) <;> rfl
 ·refine (rdm1 G K js ms n m np pn pv ne ed np).trans ?_;rw [vYK (show ¬ (np:Int) < (np:Int) by omega)];rfl
def okW (js:Nat→J) (ms:Nat→Ms) (n m:Nat) (pn:Nat→Nat) (pv:Nat→Nat→Int) (ed:Nat→Ed) (i:Nat):Bool:=decide ((ed i).c=dE js ms n m pn pv (ed i).u.toNat (ed i).v.toNat) && stE (ed i)
def rgB (np ne:Nat) (ed:Nat→Ed):Bool:=allN (fun i:Nat=>decide (0≤(ed i).u∧(ed i).u < (np:Int)∧0≤(ed i).v∧(ed i).v < (np:Int))) ne 0
theorem rgB_iff {np ne:Nat} {ed:Nat→Ed}:rgB np ne ed=true ↔ ∀ i,i < ne→0≤(ed i).u∧(ed i).u < (np:Int)∧0≤(ed i).v∧(ed i).v < (np:Int):=by
 unfold rgB;refine allN_iff.trans ⟨fun h j hj=>vYX (h j (Nat.zero_le _) (by omega)),fun h j _ hj=>vYU (h j (by omega))⟩
noncomputable def hm2 (js:Nat→J) (ms:Nat→Ms) (n m:Nat) (np:Nat) (pn:Nat→Nat) (pv:Nat→Nat→Int) (ne:Nat) (ed:Nat→Ed) (i:Int):St:=⟨[(2,.p 2 0),(3,.p 3 0),(6,.v (.n .i64 i))],[(2,.blk [.v (.lf n (fJ js)),.v (.lf m (fM ms))]),(3,.blk [.v (.lf np (fP pn pv)),.v (.lf ne (fE ed))])]⟩
set_option maxRecDepth 100000 in
theorem rdm2 (G:St→Option (Ret × Mem)) (K:Cont) (js:Nat→J) (ms:Nat→Ms) (n m:Nat) (np:Nat) (pn:Nat→Nat) (pv:Nat→Nat→Int) (ne:Nat) (ed:Nat→Ed) (i:Int):stpT Tf 66 (orm1 js ms n m np pn pv ne ed) (np + ne + 10) [] [0,1,0,1,1,1] K G (hm2 js ms n m np pn pv ne ed i) =
 (bif (decide (i < (ne:Int))) then (bif (inB i ne) then (bif (inB (ed (i).toNat).u np) then (bif (inB (ed (i).toNat).v np) then (bif (gF1 (cdr js ms n m) (edr js ms n m) (pv ((ed (i).toNat).u).toNat,pv ((ed (i).toNat).v).toNat,pn ((ed (i).toNat).u).toNat,pn ((ed (i).toNat).v).toNat)) then (bif (!decide ((ed (i).toNat).c=(dsQ js ms (pv ((ed (i).toNat).u).toNat) (pv ((ed (i).toNat).v).toNat) n m (pn ((ed (i).toNat).u).toNat) (pn ((ed (i).toNat).v).toNat)))) then (K .ret ⟨[(4,.v (.b false))],[]⟩)
 else (bif (decide ((ed (i).toNat).s < 0)) then (K .ret ⟨[(4,.v (.b false))],[]⟩)
 else (bif (decide (3 < (ed (i).toNat).s)) then (K .ret ⟨[(4,.v (.b false))],[]⟩)
 else (bif (decide ((ed (i).toNat).s=1)) then (bif (!decide ((ed (i).toNat).kd=1)) then (K .ret ⟨[(4,.v (.b false))],[]⟩)
 else (bif (decide ((ed (i).toNat).s=0)) then (bif (decide ((ed (i).toNat).kd=0)) then (bif (decide (((ed (i).toNat).n1:Int)=0)) then (bif (decide ((ed (i).toNat).dp=0)) then (bif (decide ((ed (i).toNat).ix=0)) then (bif (decide (((ed (i).toNat).n2:Int)=0)) then (bif (decide ((ed (i).toNat).pr=0)) then (bif (decide (((ed (i).toNat).n3:Int)=0)) then (bif (decide (((ed (i).toNat).n4:Int)=0)) then (G (hm2 js ms n m np pn pv ne ed (vYV .i64 (i + 1))))
 else (K .ret ⟨[(4,.v (.b false))],[]⟩))
 else (K .ret ⟨[(4,.v (.b false))],[]⟩))
 else (K .ret ⟨[(4,.v (.b false))],[]⟩))
 else (K .ret ⟨[(4,.v (.b false))],[]⟩))
 else (K .ret ⟨[(4,.v (.b false))],[]⟩))
 else (K .ret ⟨[(4,.v (.b false))],[]⟩))
 else (K .ret ⟨[(4,.v (.b false))],[]⟩))
 else (K .ret ⟨[(4,.v (.b false))],[]⟩))
 else (G (hm2 js ms n m np pn pv ne ed (vYV .i64 (i + 1))))))
 else (bif (decide ((ed (i).toNat).s=2)) then (bif (!decide ((ed (i).toNat).kd=2)) then (K .ret ⟨[(4,.v (.b false))],[]⟩)
 else (bif (decide ((ed (i).toNat).s=0)) then (bif (decide ((ed (i).toNat).kd=0)) then (bif (decide (((ed (i).toNat).n1:Int)=0)) then (bif (decide ((ed (i).toNat).dp=0)) then (bif (decide ((ed (i).toNat).ix=0)) then (bif (decide (((ed (i).toNat).n2:Int)=0)) then (bif (decide ((ed (i).toNat).pr=0)) then (bif (decide (((ed (i).toNat).n3:Int)=0)) then (bif (decide (((ed (i).toNat).n4:Int)=0)) then (G (hm2 js ms n m np pn pv ne ed (vYV .i64 (i + 1))))
 else (K .ret ⟨[(4,.v (.b false))],[]⟩))
 else (K .ret ⟨[(4,.v (.b false))],[]⟩))
 else (K .ret ⟨[(4,.v (.b false))],[]⟩))
 else (K .ret ⟨[(4,.v (.b false))],[]⟩))
 else (K .ret ⟨[(4,.v (.b false))],[]⟩))
 else (K .ret ⟨[(4,.v (.b false))],[]⟩))
 else (K .ret ⟨[(4,.v (.b false))],[]⟩))
 else (K .ret ⟨[(4,.v (.b false))],[]⟩))
 else (G (hm2 js ms n m np pn pv ne ed (vYV .i64 (i + 1))))))
 else (bif (!decide ((ed (i).toNat).kd=0)) then (K .ret ⟨[(4,.v (.b false))],[]⟩)
 else (bif (decide ((ed (i).toNat).s=0)) then (bif (decide ((ed (i).toNat).kd=0)) then (bif (decide (((ed (i).toNat).n1:Int)=0)) then (bif (decide ((ed (i).toNat).dp=0)) then (bif (decide ((ed (i).toNat).ix=0)) then (bif (decide (((ed (i).toNat).n2:Int)=0)) then (bif (decide ((ed (i).toNat).pr=0)) then (bif (decide (((ed (i).toNat).n3:Int)=0)) then (bif (decide (((ed (i).toNat).n4:Int)=0)) then (G (hm2 js ms n m np pn pv ne ed (vYV .i64 (i + 1))))
 else (K .ret ⟨[(4,.v (.b false))],[]⟩))
 else (K .ret ⟨[(4,.v (.b false))],[]⟩))
 else (K .ret ⟨[(4,.v (.b false))],[]⟩))
 else (K .ret ⟨[(4,.v (.b false))],[]⟩))
 else (K .ret ⟨[(4,.v (.b false))],[]⟩))
 else (K .ret ⟨[(4,.v (.b false))],[]⟩))
 else (K .ret ⟨[(4,.v (.b false))],[]⟩))
 else (K .ret ⟨[(4,.v (.b false))],[]⟩))
 else (G (hm2 js ms n m np pn pv ne ed (vYV .i64 (i + 1)))))))))))
 else none)
 else none)
 else none)
 else none)
 else (K (.exit 2) ⟨[],[]⟩)):=by kernel_rfl
theorem lpm2 (K:Cont) (js:Nat→J) (ms:Nat→Ms) (n m:Nat) (np:Nat) (pn:Nat→Nat) (pv:Nat→Nat→Int) (ne:Nat) (ed:Nat→Ed) (_:ne≤8192) (hrg:∀ i,i < ne→0≤(ed i).u∧(ed i).u < (np:Int)∧0≤(ed i).v∧(ed i).v < (np:Int)) (hpn:∀ j,j < np→pn j≤50):LFT Tf 66 (orm1 js ms n m np pn pv ne ed) (np + ne + 10) [] [0,1,0,1,1,1] K (np + ne + 10) (hm2 js ms n m np pn pv ne ed 0)=bif (allN (fun i:Nat=>okW js ms n m pn pv ed i) ne 0) then (K (.exit 2) ⟨[],[]⟩) else (K .ret ⟨[(4,.v (.b false))],[]⟩):=by
 refine (qYW (L:=LFT Tf 66 (orm1 js ms n m np pn pv ne ed) (np + ne + 10) [] [0,1,0,1,1,1] K) (stp:=stpT Tf 66 (orm1 js ms n m np pn pv ne ed) (np + ne + 10) [] [0,1,0,1,1,1] K) (fun _ _=>rfl) (fun (i:Nat) (_:Unit)=>hm2 js ms n m np pn pv ne ed (i:Int)) (fun _ _=>True) (fun (i:Nat) _=>okW js ms n m pn pv ed i) (fun _ _=>()) (c:=ne) (fun _=>(K (.exit 2) ⟨[],[]⟩)) (fun i _=>(K .ret ⟨[(4,.v (.b false))],[]⟩)) (fun G i f hi _ => ?_) (fun _ _ _ _ _=>trivial) (fun G f _ => ?_) ne 0 (np + ne + 10) () (by omega) (by omega) trivial).trans ((qZV _ _ _ _ _).trans (kW _ _ _ _ _))
 ·refine (rdm2 G K js ms n m np pn pv ne ed i).trans ?_;rw [vYU (show (i:Int) < (ne:Int) by omega),kZ (by omega),zX (show i < ne by omega)];obtain ⟨r1,r2,r3,r4⟩:=hrg i (by omega);have hg:gF1 (cdr js ms n m) (edr js ms n m) (pv (ed i).u.toNat,pv (ed i).v.toNat,pn (ed i).u.toNat,pn (ed i).v.toNat)=true:=jW (C:=cdr js ms n m) (t:=(pv (ed i).u.toNat,pv (ed i).v.toNat,pn (ed i).u.toNat,pn (ed i).v.toNat)) ⟨hpn _ (by omega),hpn _ (by omega)⟩;simp only [toN,qUL r1 r2,qUL r3 r4,hg,vYY];unfold okW dE;cases decide ((ed i).c=dsQ js ms (pv (ed i).u.toNat) (pv (ed i).v.toNat) n m (pn (ed i).u.toNat) (pn (ed i).v.toNat)) with
  | false=>rfl
  | true =>
   unfold stE emE knd;cases decide ((ed i).s < 0) <;> try rfl
   cases decide (3 < (ed i).s) <;> try rfl
   cases decide ((ed i).s=1) <;> cases decide ((ed i).s=2)
   all_goals simp only [vYY,vYJ,Bool.not_true,Bool.not_false,vZW]
   ·cases decide ((ed i).kd=0) <;> try rfl
    all_goals (cases decide ((ed i).s=0) <;> try rfl)
    cases decide (((ed i).n1:Int)=0) <;> try rfl
    all_goals (cases decide ((ed i).dp=0) <;> try rfl)
    all_goals (cases decide ((ed i).ix=0) <;> try rfl)
    all_goals (cases decide (((ed i).n2:Int)=0) <;> try rfl)
    all_goals (cases decide ((ed i).pr=0) <;> try rfl)
    all_goals (cases decide (((ed i).n3:Int)=0) <;> try rfl)
    all_goals (cases decide (((ed i).n4:Int)=0) <;> rfl)
   ·cases decide ((ed i).kd=2) <;> try rfl
    all_goals (cases decide ((ed i).s=0) <;> try rfl)
    all_goals (cases decide ((ed i).kd=0) <;> try rfl)
    cases decide (((ed i).n1:Int)=0) <;> try rfl
    all_goals (cases decide ((ed i).dp=0) <;> try rfl)
    all_goals (cases decide ((ed i).ix=0) <;> try rfl)
    all_goals (cases decide (((ed i).n2:Int)=0) <;> try rfl)
    all_goals (cases decide ((ed i).pr=0) <;> try rfl)
    all_goals (cases decide (((ed i).n3:Int)=0) <;> try rfl)
    all_goals (cases decide (((ed i).n4:Int)=0) <;> rfl)
   ·cases decide ((ed i).kd=1) <;> try rfl
    all_goals (cases decide ((ed i).s=0) <;> try rfl)
    all_goals (cases decide ((ed i).kd=0) <;> try rfl)
    cases decide (((ed i).n1:Int)=0) <;> try rfl
    all_goals (cases decide ((ed i).dp=0) <;> try rfl)
    all_goals (cases decide ((ed i).ix=0) <;> try rfl)
    all_goals (cases decide (((ed i).n2:Int)=0) <;> try rfl)
    all_goals (cases decide ((ed i).pr=0) <;> try rfl)
    all_goals (cases decide (((ed i).n3:Int)=0) <;> try rfl)
    all_goals (cases decide (((ed i).n4:Int)=0) <;> rfl)
   ·cases decide ((ed i).kd=1) <;> try rfl
    all_goals (cases decide ((ed i).s=0) <;> try rfl)
    all_goals (cases decide ((ed i).kd=0) <;> try rfl)
    cases decide (((ed i).n1:Int)=0) <;> try rfl
    all_goals (cases decide ((ed i).dp=0) <;> try rfl)
    all_goals (cases decide ((ed i).ix=0) <;> try rfl)
    all_goals (cases decide (((ed i).n2:Int)=0) <;> try rfl)
    all_goals (cases decide ((ed i).pr=0) <;> try rfl)
    all_goals (cases decide (((ed i).n3:Int)=0) <;> try rfl)
    all_goals (cases decide (((ed i).n4:Int)=0) <;> rfl)
 ·refine (rdm2 G K js ms n m np pn pv ne ed ne).trans ?_;rw [vYK (show ¬ (ne:Int) < (ne:Int) by omega)];rfl
end Go.Proofs.YtklmegnpfhiibaaGreat.Xh
namespace Go.Proofs.YtklmegnpfhiibaaGreat.Xi
open Go.Rx Rt Go.Sx Go.RowKit Od Nb Nc Xb Xc Bb Xe Xf Xg Xh
def vmR (js:Nat→J) (ms:Nat→Ms) (n m np:Nat) (pn:Nat→Nat) (pv:Nat→Nat→Int) (ne:Nat) (ed:Nat→Ed):Bool:=decide (rErr js ms n m=0) && (odB ⟨np,fP pn pv,ne,ed⟩ && (allN (fun i:Nat=>okP js ms n m pn pv i) np 0 && allN (fun i:Nat=>okW js ms n m pn pv ed i) ne 0))
theorem od_rg {g:Gr} (h:odB g=true):∀ i,i < g.ne→0≤(g.ed i).u∧(g.ed i).u < (g.np:Int)∧0≤(g.ed i).v∧(g.ed i).v < (g.np:Int):=fun i hi=>by
 unfold odB at h;simp only [vQJ] at h
 have:=allN_iff.1 h.1 i (Nat.zero_le _) (by omega)
 unfold orE at this;simp only [vQJ,Bool.not_eq_true',decide_eq_false_iff_not] at this;omega
theorem okP_k {js:Nat→J} {ms:Nat→Ms} {n m np:Nat} {pn:Nat→Nat} {pv:Nat→Nat→Int} (h:allN (fun i:Nat=>okP js ms n m pn pv i) np 0=true):∀ j,j < np→inP js ms n m pn pv j=true∧poI pn pv (pv j) (pn j) j 0 < 0:=fun j hj=>by
 have:=allN_iff.1 h j (Nat.zero_le _) (by omega)
 unfold okP at this;simp only [vQJ,Bool.not_eq_true',decide_eq_false_iff_not] at this;exact ⟨this.1,by omega⟩
noncomputable def yQH (js:Nat→J) (ms:Nat→Ms) (n m:Nat) (np:Nat) (pn:Nat→Nat) (pv:Nat→Nat→Int) (ne:Nat) (ed:Nat→Ed):List (List Nat × yW):=[([0,1,0,1,1],sumF (fun _:Unit=>(hm1 js ms n m np pn pv ne ed 0)) (fun _=>()) (fun _ K=>(bif (decide (np≤1000)) then (bif (allN (fun i:Nat=>okP js ms n m pn pv i) np 0) then (K (.exit 0) ⟨[(2,.p 2 0),(3,.p 3 0)],[(2,.blk [.v (.lf n (fJ js)),.v (.lf m (fM ms))]),(3,.blk [.v (.lf np (fP pn pv)),.v (.lf ne (fE ed))])]⟩) else (K .ret ⟨[(2,.p 2 0),(3,.p 3 0),(4,.v (.b false))],[(2,.blk [.v (.lf n (fJ js)),.v (.lf m (fM ms))]),(3,.blk [.v (.lf np (fP pn pv)),.v (.lf ne (fE ed))])]⟩)) else none))),([0,1,0,1,1,1],sumF (fun _:Unit=>(hm2 js ms n m np pn pv ne ed 0)) (fun _=>()) (fun _ K=>(bif (decide (ne≤8192) && (rgB np ne ed && pnB np pn)) then (bif (allN (fun i:Nat=>okW js ms n m pn pv ed i) ne 0) then (K (.exit 2) ⟨[],[]⟩) else (K .ret ⟨[(4,.v (.b false))],[]⟩)) else none)))]
set_option maxRecDepth 100000 in
theorem pxvm0 (js:Nat→J) (ms:Nat→Ms) (n m:Nat) (np:Nat) (pn:Nat→Nat) (pv:Nat→Nat→Int) (ne:Nat) (ed:Nat→Ed):qQU Tf (orm1 js ms n m np pn pv ne ed) (qJ (yQH js ms n m np pn pv ne ed)) (np + ne + 10) 66 [.a [.lf n (fJ js),.lf m (fM ms)],.a [.lf np (fP pn pv),.lf ne (fE ed)]] =
 (bif (g1 [.a [.lf n (fJ js),.lf m (fM ms)]]) then (bif (!decide ((rErr js ms n m)=0)) then some (.v (.b false),[])
 else (bif (g1 [.a [.lf np (fP pn pv),.lf ne (fE ed)]] && decide (ne≤8192)) then (bif (odB (⟨np,fP pn pv,ne,ed⟩:Gr)) then (bif (gSt (hm1 js ms n m np pn pv ne ed 0) (hm1 js ms n m np pn pv ne ed 0)) then (bif (decide (np≤1000)) then (bif (allN (fun i:Nat=>okP js ms n m pn pv i) np 0) then (bif (gSt (hm2 js ms n m np pn pv ne ed 0) (hm2 js ms n m np pn pv ne ed 0)) then (bif (decide (ne≤8192) && (rgB np ne ed && pnB np pn)) then (bif (allN (fun i:Nat=>okW js ms n m pn pv ed i) ne 0) then some (.v (.b true),[])
 else some (.v (.b false),[]))
 else none)
 else none)
 else some (.v (.b false),[]))
 else none)
 else none)
 else some (.v (.b false),[]))
 else none))
 else none):=by kernel_rfl
theorem snd_vm0 (js:Nat→J) (ms:Nat→Ms) (n m:Nat) (np:Nat) (pn:Nat→Nat) (pv:Nat→Nat→Int) (ne:Nat) (ed:Nat→Ed) (hnp:np≤1000) (hne:ne≤8192):zQ Tryz.prog 66 [.a [.lf n (fJ js),.lf m (fM ms)],.a [.lf np (fP pn pv),.lf ne (fE ed)]] (.v (.b (vmR js ms n m np pn pv ne ed))):=by
 refine qV (N:=(np + ne + 10)) (LO:=qJ (yQH js ms n m np pn pv ne ed)) jY jQ (jK (l:=[(28,o_cr [.a [.lf n (fJ js),.lf m (fM ms)]] (.v (.n .i64 (rErr js ms n m)))),(34,o_ir js ms n m),(53,o_po),(96,o_lk [.a [.lf np (fP pn pv),.lf ne (fE ed)]] (decide (ne≤8192)) (.v (.b (odB (⟨np,fP pn pv,ne,ed⟩:Gr))))),(10,o_dr js ms n m)]) (m:=[]) ⟨qXG (zJF js ms n m),yYE js ms n m,ok_po,qWI (fun h=>snd_or (⟨np,fP pn pv,ne,ed⟩:Gr) (vYX h)),zGI js ms n m,trivial⟩ trivial) (fun p S hp => ?_) ?_
 ·refine qW (L:=qY Tf 66) (l:=(yQH js ms n m np pn pv ne ed)) (show AllP _ (yQH js ms n m np pn pv ne ed) from ⟨?_,?_,trivial⟩) p S hp
  ·dsimp only;refine jJ (T:=Tf) (o:=(orm1 js ms n m np pn pv ne ed)) (f:=66) (LO:=qJ []) (p:=[0,1,0,1,1]) jU ?_;intro t K r hr;obtain ⟨hg,hr⟩:=qZ hr;have hn:=vYX hg;exact (lpm1 K js ms n m np pn pv ne ed hn).trans hr
  ·dsimp only;refine jJ (T:=Tf) (o:=(orm1 js ms n m np pn pv ne ed)) (f:=66) (LO:=qJ []) (p:=[0,1,0,1,1,1]) jU ?_;intro t K r hr;obtain ⟨hg,hr⟩:=qZ hr;simp only [vQJ] at hg;have hn:=vYX hg.1;have hrg:=rgB_iff.1 hg.2.1;have hpn:=pnB_iff.1 hg.2.2;exact (lpm2 K js ms n m np pn pv ne ed hn hrg hpn).trans hr
 ·refine (pxvm0 js ms n m np pn pv ne ed).trans ?_;unfold vmR;rw [g1_t,g1_t,vYU hne];by_cases h0:rErr js ms n m=0
  ·rw [vYU h0];cases ho:odB (⟨np,fP pn pv,ne,ed⟩:Gr) with
   | false=>rfl
   | true =>
    rw [zV,vYU hnp];cases hp:allN (fun i:Nat=>okP js ms n m pn pv i) np 0 with
    | false=>rfl
    | true =>
     have hpn:∀ j,j < np→pn j≤50:=fun j hj=>by
      have:=qKF (okP_k hp j hj).1
      omega
     rw [zV,rgB_iff.2 (od_rg ho),pnB_iff.2 hpn];cases allN (fun i:Nat=>okW js ms n m pn pv ed i) ne 0 <;> rfl
  ·rw [vYK h0]; rfl
theorem key_sm {n:Nat} {q p:Nat→Int} (_:n≤10):Xa.keyL n q=Xa.keyL n p ↔ ∀ t,t < n→q t=p t:=by
 unfold Xa.keyL;rw [List.map_inj_left];refine ⟨fun h t ht => ?_,fun h t _ => ?_⟩
 ·have:=h t (List.mem_range.2 (by omega))
  rw [if_pos ht,if_pos ht] at this;exact this
 ·by_cases ht:t < n
  ·rw [if_pos ht,if_pos ht]; exact h t ht
  ·rw [if_neg ht,if_neg ht]
theorem sm_iff {q u:Nat→Int} {k l:Nat}:smN q u k l=true ↔ k=l∧∀ t,t < k→q t=u t:=by
 unfold smN;rw [vQJ,decide_eq_true_eq,allN_iff];refine ⟨fun ⟨h1,h2⟩=>⟨by omega,fun t ht=>vYX (h2 t (Nat.zero_le _) (by omega))⟩,fun ⟨h1,h2⟩=>⟨by omega,fun t _ ht=>vYU (h2 t (by omega))⟩⟩
theorem cnt_okP {js:Nat→J} {ms:Nat→Ms} {n m np:Nat} {pn:Nat→Nat} {pv:Nat→Nat→Int}:Xa.cntD (inP js ms n m pn pv) pn pv np=np ↔ allN (fun i:Nat=>okP js ms n m pn pv i) np 0=true:=by
 have same:∀ i j,inP js ms n m pn pv i=true→inP js ms n m pn pv j=true→(Xa.keyL (pn i) (pv i)=Xa.keyL (pn j) (pv j) ↔ smN (pv i) (pv j) (pn i) (pn j)=true):=fun i j hi hj=>by
  have a:=qKF hi;have b:=qKF hj;have e:pn j=pn i:=by omega
  rw [e,key_sm (by omega),sm_iff];exact ⟨fun h=>⟨rfl,h⟩,fun h=>h.2⟩
 rw [cntD_full];constructor
 ·intro h;refine allN_iff.2 fun j _ hj => ?_
  obtain ⟨h1,h2⟩:=h j (by omega);unfold okP;rw [h1,vZW,Bool.not_eq_true',decide_eq_false_iff_not];intro h3;rcases zZI (pn:=pn) (pv:=pv) (q:=pv j) (k:=pn j) (d:=j) (j:=0) with ⟨h4,_⟩ | ⟨_,i,_,h5,h6⟩
  ·omega
  ·have hi:=h i (by omega)
   have:Xa.sawB (inP js ms n m pn pv) pn pv j=true:=by
    unfold Xa.sawB;rw [List.any_eq_true];exact ⟨i,List.mem_range.2 (by omega),by rw [hi.1,vZW]; exact vYU ((same i j hi.1 h1).2 h6)⟩
   rw [h2] at this; cases this
 ·intro h j hj;obtain ⟨h1,h2⟩:=okP_k h j hj;refine ⟨h1,?_⟩;cases hs:Xa.sawB (inP js ms n m pn pv) pn pv j with
  | false=>rfl
  | true =>
   unfold Xa.sawB at hs;rw [List.any_eq_true] at hs;obtain ⟨i,hi,h3⟩:=hs;rw [List.mem_range] at hi;simp only [vQJ,decide_eq_true_eq] at h3;rcases zZI (pn:=pn) (pv:=pv) (q:=pv j) (k:=pn j) (d:=j) (j:=0) with ⟨_,h4⟩ | ⟨h4,_⟩
   ·have:=h4 i (Nat.zero_le _) (by omega)
    rw [(same i j h3.1 h1).1 h3.2] at this; cases this
   ·omega
theorem okV_eq (js:Nat→J) (ms:Nat→Ms) (n m np:Nat) (pn:Nat→Nat) (pv:Nat→Nat→Int) (ne:Nat) (ed:Nat→Ed) (i:Nat):okV js ms n m np pn pv ed i=(orE ⟨np,fP pn pv,ne,ed⟩ i && okW js ms n m pn pv ed i):=by
 unfold okV veB okW orE cpI;rw [Bool.eq_iff_iff];simp only [vQJ,Bool.or_eq_true,Bool.not_eq_true',decide_eq_true_eq,decide_eq_false_iff_not,Bool.and_eq_false_imp];generalize (ed (i - 1)).u=x;generalize (ed (i - 1)).v=y;generalize stE (ed i)=s;generalize dE js ms n m pn pv (ed i).u.toNat (ed i).v.toNat=z;cases s with
 | false=>simp
 | true =>
 simp only [and_true];by_cases h1:x < (ed i).u
 ·rw [vYU h1]; simp only [vYY]; omega
 ·rw [vYK h1];by_cases h2:(ed i).u < x
  ·rw [vYU h2]; simp only [vYY,vYJ]; omega
  ·rw [vYK h2];by_cases h3:y < (ed i).v
   ·rw [vYU h3]; simp only [vYY,vYJ]; omega
   ·rw [vYK h3];by_cases h4:(ed i).v < y
    ·rw [vYU h4]; simp only [vYY,vYJ]; omega
    ·rw [vYK h4]; simp only [vYJ]; omega
theorem vm_eq (js:Nat→J) (ms:Nat→Ms) (n m np:Nat) (pn:Nat→Nat) (pv:Nat→Nat→Int) (ne:Nat) (ed:Nat→Ed):vmR js ms n m np pn pv ne ed=vmB js ms n m np pn pv ne ed:=by
 unfold vmR vmB odB;rw [show (fun i:Nat=>okV js ms n m np pn pv ed i)=fun i:Nat=>orE ⟨np,fP pn pv,ne,ed⟩ i && okW js ms n m pn pv ed i from funext (okV_eq js ms n m np pn pv ne ed),allN_and];rw [show decide (Xa.cntD (inP js ms n m pn pv) pn pv np=np)=allN (fun i:Nat=>okP js ms n m pn pv i) np 0 from by rw [Bool.eq_iff_iff,decide_eq_true_eq]; exact cnt_okP];cases decide (rErr js ms n m=0) <;> cases allN (fun i:Nat=>orE ⟨np,fP pn pv,ne,ed⟩ i) ne 0 <;> cases decide (np≤1024) <;> cases decide (ne≤8192) <;> cases allN (fun i:Nat=>okP js ms n m pn pv i) np 0 <;> rfl
theorem snd_vm (js:Nat→J) (ms:Nat→Ms) (n m np:Nat) (pn:Nat→Nat) (pv:Nat→Nat→Int) (ne:Nat) (ed:Nat→Ed) (hnp:np≤1000) (hne:ne≤8192):zQ Tryz.prog 66 [.a [.lf n (fJ js),.lf m (fM ms)],.a [.lf np (fP pn pv),.lf ne (fE ed)]] (.v (.b (vmB js ms n m np pn pv ne ed))):=by
 rw [← vm_eq];exact snd_vm0 js ms n m np pn pv ne ed hnp hne
end Go.Proofs.YtklmegnpfhiibaaGreat.Xi
namespace Go.Proofs.YtklmegnpfhiibaaGreat.Xk
open Go.Rx Rt Go.Sx Go.RowKit Od Nb Nc Xb Xc Bb Xe Xf Xg Xh Xi
theorem ds_step {w q u s B:Int} (hw:1≤w∧w≤1024) (_: -4194304≤q∧q≤4194304) (_: -4194304≤u∧u≤4194304) (_:0≤s∧s≤B) (_:B≤1099511627776):0≤vYV .i64 (s + vYV .i64 (w * max (vYV .i64 (u - q)) (vYV .i64 (q - u))))∧vYV .i64 (s + vYV .i64 (w * max (vYV .i64 (u - q)) (vYV .i64 (q - u))))≤B + 8589934592:=by
 rw [jZ (x:=u - q) (by omega),jZ (x:=q - u) (by omega)];have h0:0≤max (u - q) (q - u):=by omega
 have h1:max (u - q) (q - u)≤8388608:=by omega
 generalize max (u - q) (q - u)=z at h0 h1;have h2:0≤w * z:=Int.mul_nonneg (by omega) h0;have h3:w * z≤1024 * 8388608:=Int.mul_le_mul hw.2 h1 h0 (by omega);rw [jZ (x:=w * z) (by omega),jZ (x:=s + w * z) (by omega)];omega
theorem ds_b {js:Nat→J} {ms:Nat→Ms} {q u:Nat→Int} {n m k l:Nat} (hq:qIn js ms q n m k=true) (hu:qIn js ms u n m l=true):0≤dsQ js ms q u n m k l∧dsQ js ms q u n m k l≤1099511627776:=by
 obtain ⟨h1,h2,h3,h4⟩:=qKF hq;obtain ⟨_,g2,_,_⟩:=qKF hu;have hl:=Xl.rerr_lim h1;have bq:=Xl.qIn_b hq;have bu:=Xl.qIn_b hu;unfold dsQ;cases decide (rErr js ms n m=0) && decide (k=n) && decide (l=n) && smQ q k && smQ u l with
 | false=>exact ⟨Int.le_refl _,(by decide:(0:Int)≤1099511627776)⟩
 | true =>
  rw [vYY];unfold dsS
  have:=qUJ (Q:=fun (i:Nat) (s:Int)=>0≤s∧s≤(i:Int) * 8589934592) (c:=n) (nx:=fun (i:Nat) (s:Int)=>vYV .i64 (s + vYV .i64 ((js i).weight * max (vYV .i64 (u i - q i)) (vYV .i64 (q i - u i))))) (fun i s hi hs=>by
   have:=ds_step (hl i hi).2.2.2 (bq i (by omega)) (bu i (by omega)) hs (by omega)
   refine ⟨this.1,?_⟩;have h:=this.2
   omega) n 0 0 (by omega) ⟨Int.le_refl _,by omega⟩
  refine ⟨this.1,?_⟩;have h:=this.2;omega
theorem zHY {js:Nat→J} {ms:Nat→Ms} {n m np:Nat} {pn:Nat→Nat} {pv:Nat→Nat→Int} {ne:Nat} {ed:Nat→Ed} (h:vmB js ms n m np pn pv ne ed=true):∀ j,j < np→qIn js ms (pv j) n m (pn j)=true:=fun j hj=>by
 unfold vmB at h;simp only [vQJ,decide_eq_true_eq] at h;exact (cntD_full.1 h.2.2.2.1 j hj).1
theorem vm_edge {js:Nat→J} {ms:Nat→Ms} {n m np:Nat} {pn:Nat→Nat} {pv:Nat→Nat→Int} {ne:Nat} {ed:Nat→Ed} (h:vmB js ms n m np pn pv ne ed=true):∀ i,i < ne→veB js ms n m np pn pv (ed i)=true∧(i=0 ∨ ¬ 0≤cpI (ed (i - 1)).u (ed (i - 1)).v (ed i).u (ed i).v):=fun i hi=>by
 unfold vmB at h;simp only [vQJ,decide_eq_true_eq] at h
 have:=allN_iff.1 h.2.2.2.2 i (Nat.zero_le _) (by omega)
 unfold okV at this;simp only [vQJ,Bool.or_eq_true,Bool.not_eq_true',decide_eq_true_eq,decide_eq_false_iff_not] at this;exact this
theorem vm_wf {js:Nat→J} {ms:Nat→Ms} {n m np:Nat} {pn:Nat→Nat} {pv:Nat→Nat→Int} {ne:Nat} {ed:Nat→Ed} (h:vmB js ms n m np pn pv ne ed=true):wfB ⟨np,fP pn pv,ne,ed⟩=true:=by
 have hin:=zHY h;have hed:=vm_edge h;unfold vmB at h;simp only [vQJ,decide_eq_true_eq] at h;unfold wfB;simp only [vQJ,decide_eq_true_eq];refine ⟨h.2.1,h.2.2.1,allN_iff.2 fun i _ hi => ?_⟩;obtain ⟨hv,ho⟩:=hed i (by omega);unfold veB dE at hv;simp only [vQJ,Bool.not_eq_true',decide_eq_true_eq,decide_eq_false_iff_not] at hv;obtain ⟨v1,v2,v3,v4,v5,v6,_⟩:=hv;have hd:=ds_b (hin (ed i).u.toNat (by omega)) (hin (ed i).v.toNat (by omega));rw [← v6] at hd;unfold okE isP;simp only [vQJ,Bool.or_eq_true,Bool.not_eq_true',decide_eq_true_eq,decide_eq_false_iff_not];exact ⟨⟨v1,v2⟩,⟨v3,v4⟩,v5,by omega,by omega,ho⟩
end Go.Proofs.YtklmegnpfhiibaaGreat.Xk
namespace Go.Sx
open Go.RowKit Go.Maps
section
variable {P:Program} {n:Nat} {w0:Base} {ops:Array Oper} {Q:Exit→Act→World→Prop} {S:yK} {H:Heap}
variable {d:Nat} {ty:TypeId} {pos:String} {af:Array Edge} {g:Option (Nat × Bool)} {rest:List Oper}
theorem qZQ {dd:Option Tmp} {x:Operand} {t t' e:TypeId} {a:Option Addr} {m c:Nat} (ht:P.underlying t=some (.slice e)) (hx:ev S x=some (.slice a m c)):OpV P w0 S H ⟨dd,.binOp .eql t x (.const (.slice none 0 0)) t',ty,pos,af,g⟩ (.bool a.isNone) :=
 have hc:ev S (.const (.slice none 0 0))=some (.slice none 0 0):=rfl
 yH (by simp [yY,Op.operands,hx,hc]) rfl fun w _=>by
  have h2:evD S (.const (.slice none 0 0))=.slice none 0 0:=rfl;have h3:=Lib.run_eql_slice_nil (P:=P) w t e a m c 0 0 ht;simp [execOp,zY hx,h2,eqGuard,h3]
theorem qJQ {t e sz bytes m c b0:Nat} {zs:List Value} {a:Option Addr} {rows:List (List Value)} {x y:Operand} (id:Nat) (hB:qUW P t e sz bytes zs) (hS:Holds w0 (qJE sz a rows)) (hx:ev S x=some (.slice (some ⟨b0,0,none⟩) 0 0)) (hy:ev S y=some (.slice a m c))
  (hr:rows.length=m) (h0:0 < m) (hm:m * bytes≤281474976710656) (h63:m≤maxLen)
  (hw:qZI ops S ⟨some d,.call ⟨.builtin .append,#[x,y],#[t,t]⟩,ty,pos,af,g⟩=some true) (hn:Nat.blt d n=true)
  (next:∀ b c',DoL P n ⟨w0.w,(id,ownD (some ⟨b,0,none⟩),OwnF 0 e sz (some ⟨b,0,none⟩) c' m rows.flatten) :: w0.R⟩ ops Q rest ((d,.slice (some ⟨b,0,none⟩) m c') :: S) H) :
  DoL P n w0 ops Q (⟨some d,.call ⟨.builtin .append,#[x,y],#[t,t]⟩,ty,pos,af,g⟩ :: rest) S H:=by
 intro act w fi k;unfold wpList;rw [qZU fi hw,if_pos rfl];refine .inl ?_;unfold Oper.wp;obtain ⟨ht,i,z,hi,hz,rfl,rfl,rfl,hlen,hs0⟩:=hB;have hF:=hS _ _ k;obtain ⟨r0,hr0⟩:∃ r0,rows[0]? = some r0:=⟨_,vQK (by omega)⟩
 obtain ⟨_,b1,off,rfl,_,_⟩:=hF 0 r0 hr0;have hall:∀ r ∈ rows,r.length=i.size:=fun r hr=>by
  obtain ⟨j,hj⟩:=List.mem_iff_getElem?.1 hr;exact (hF j r hj).1
 have hfl:=rows_len rows hall;have hnews:∀ j v,rows.flatten[j]? = some v→w.cell? ((⟨b1,off,none⟩:Addr).add j)=some v:=fun j v hj=>by
  have hjl:=(List.getElem?_eq_some_iff.1 hj).1;rw [hfl] at hjl;have hd:j / i.size < rows.length:=(Nat.div_lt_iff_lt_mul hs0).2 hjl;have hmod:=Nat.mod_lt j hs0;have hrow:rows[j / i.size]? = some rows[j / i.size]:=vQK hd;have hg:=qXB (sz:=i.size) rows hall (j / i.size) _ hrow (j % i.size) hmod;rw [show j / i.size * i.size + j % i.size=j by rw [Nat.mul_comm]; exact Nat.div_add_mod j i.size] at hg;obtain ⟨_,b2,off2,he,_,hc⟩:=hF _ _ hrow;simp only [vQZ,Addr.mk.injEq,and_true] at he;obtain ⟨rfl,rfl⟩:=he
  have:=hc _ hmod
  rw [← hg,hj,Nat.add_assoc,show j / i.size * i.size + j % i.size=j by rw [Nat.mul_comm]; exact Nat.div_add_mod j i.size] at this;rw [kG];exact this
 have hml:m≤9223372036854775807:=Nat.le_trans h63 (by unfold maxLen; decide);have hrun0:=run_append_grow (P:=P) w t ty e i z ht hi hz ⟨b0,0,none⟩ 0 0 [] (by simp) (fun j v hj=>by simp at hj) ⟨b1,off,none⟩ m c rows.flatten (by rw [hfl,hr]) hnews (by omega) (by omega) (by rw [Nat.zero_add,nextslicecap_zero h0]; exact hm);simp only [Nat.zero_add] at hrun0;have hcap:=grownCap_ge w m 0 e;have hcap2:=grownCap_le_maxLen w m 0 e h63;generalize grownCap w m 0 e=cap at hrun0 hcap hcap2;have hrun:(execOp act.eval ⟨some d,.call ⟨.builtin .append,#[x,y],#[t,t]⟩,ty,pos,af,g⟩).run P w=.ok (.value (.slice (some ⟨w.heap.size,0,none⟩) m cap)) (w.drew.alloc (.cells ((#[]:Array Value) ++ rows.flatten.toArray ++ Builtin.zeroCells z.cells (cap - m)) e)):=by
  simp [execOp,resolve,invoke,builtin,fi.ev hx,fi.ev hy,hrun0]
 rw [hrun];simp only [Oper.upon];have hzs:z.cells.size=i.size:=by simpa using hlen
 refine next w.heap.size cap _ _ (fi.put hn _) (k.tell ((Grow.refl w).drew.alloc _) id (zKJ _ _ _ _ _ _ _) (fun q hq => ?_) ?_)
 ·obtain ⟨ad,h1,h2⟩:=hq;cases h1;subst h2;exact ⟨Nat.le_refl _,by show w.heap.size < (w.heap.push _).size; simp⟩
 ·refine ⟨by rw [hfl,hr],.inr ⟨w.heap.size,cap,_,rfl,Nat.zero_le _,by show (w.heap.push _)[w.heap.size]? = _; rw [Array.getElem?_push_size],hcap,hcap2,?_,?_⟩⟩
  ·simp only [Array.size_append,Array.size_empty,size_zeroCells,hzs,List.size_toArray,hfl,hr];simp only [List.length_nil,Nat.zero_add];rw [← Nat.add_mul]; congr 1; omega
  ·simp only [Array.toList_append,List.nil_append]
   have:rows.flatten.length=m * i.size:=by rw [hfl,hr]
   rw [← this,List.take_left]
end
end Go.Sx

/- Part 24 of the texts behind the last one: rules and contracts. No condition. -/
import Derived.Test.YtklmegnpfhiibaaGreatBK23
open Option.some renaming injEq → vQZ
open Bool renaming and_eq_true → vQJ, true_and → vZW
open List renaming getElem?_eq_getElem → vQK
open Go.IntKind renaming wrap → vYW
namespace Go.Proofs.YtklmegnpfhiibaaGreat.Xg
open Go.Rx Rt Go.Sx Go.RowKit Od Nb Nc Xb Xc Bb Xe Xf
def smN (q u:Nat→Int) (k l:Nat):Bool:=decide ((k:Int)=(l:Int)) && allN (fun t:Nat=>decide (q t=u t)) k 0
def poI (pn:Nat→Nat) (pv:Nat→Nat→Int) (q:Nat→Int) (k:Nat):Nat→Nat→Int
 | 0,_ => -1
 | d + 1,j=>bif smN (pv j) q (pn j) k then (j:Int) else poI pn pv q k d (j + 1)
theorem zZC {pn:Nat→Nat} {pv:Nat→Nat→Int} {q:Nat→Int} {k:Nat}:∀ {d j:Nat},poI pn pv q k d j = -1∧(∀ i,j≤i→i < j + d→smN (pv i) q (pn i) k=false) ∨ 0≤poI pn pv q k d j∧∃ i,j≤i∧i < j + d∧smN (pv i) q (pn i) k=true
 | 0,j=>.inl ⟨rfl,fun i h1 h2=>by omega⟩
 | d + 1,j=>by
  cases h:smN (pv j) q (pn j) k with
  | true=>exact .inr ⟨by simp only [poI,h,vYZ]; omega,j,Nat.le_refl _,by omega,h⟩
  | false =>
   rcases zZC (pn:=pn) (pv:=pv) (q:=q) (k:=k) (d:=d) (j:=j + 1) with ⟨h1,h2⟩ | ⟨h1,i,h2,h3,h4⟩
   ·refine .inl ⟨by simp only [poI,h,vYY]; exact h1,fun i h3 h4 => ?_⟩;by_cases e:i=j
    ·subst e; exact h
    ·exact h2 i (by omega) (by omega)
   ·exact .inr ⟨by simp only [poI,h,vYY]; exact h1,i,by omega,by omega,h4⟩
noncomputable def orsn (q u:Nat→Int) (k l:Nat):OrS:=orS [] []
noncomputable def hsn (q u:Nat→Int) (k l:Nat) (i:Int):St:=⟨[(0,.v (.lf k (fQ q))),(1,.v (.lf l (fQ u))),(5,.v (.n .i64 i))],[]⟩
set_option maxRecDepth 100000 in
theorem rdsn (G:St→Option (Ret × Mem)) (K:Cont) (q u:Nat→Int) (k l:Nat) (i:Int):stpT Tf 85 (orsn q u k l) (k + 10) [] [0,1,0,1,1] K G (hsn q u k l i) =
 (bif (decide (i < (k:Int))) then (bif (inB i k) then (bif (inB i l) then (bif (!decide ((q (i).toNat)=(u (i).toNat))) then (K .ret ⟨[(4,.v (.b false))],[]⟩)
 else (G (hsn q u k l (vYW .i64 (i + 1)))))
 else none)
 else none)
 else (K (.exit 0) ⟨[],[]⟩)):=by kernel_rfl
theorem lpsn (K:Cont) (q u:Nat→Int) (k l:Nat) (_:k≤1000) (_:k=l):LFT Tf 85 (orsn q u k l) (k + 10) [] [0,1,0,1,1] K (k + 10) (hsn q u k l 0)=bif (allN (fun i:Nat=>decide (q i=u i)) k 0) then (K (.exit 0) ⟨[],[]⟩) else (K .ret ⟨[(4,.v (.b false))],[]⟩):=by
 refine (qKL (L:=LFT Tf 85 (orsn q u k l) (k + 10) [] [0,1,0,1,1] K) (stp:=stpT Tf 85 (orsn q u k l) (k + 10) [] [0,1,0,1,1] K) (fun _ _=>rfl) (fun (i:Nat) (_:Unit)=>hsn q u k l (i:Int)) (fun _ _=>True) (fun (i:Nat) _=>decide (q i=u i)) (fun _ _=>()) (c:=k) (fun _=>(K (.exit 0) ⟨[],[]⟩)) (fun i _=>(K .ret ⟨[(4,.v (.b false))],[]⟩)) (fun G i f hi _ => ?_) (fun _ _ _ _ _=>trivial) (fun G f _ => ?_) k 0 (k + 10) () (by omega) (by omega) trivial).trans ((qKC _ _ _ _ _).trans (qQA _ _ _ _ _))
 ·refine (rdsn G K q u k l i).trans ?_;rw [vYK (show (i:Int) < (k:Int) by omega),jG (by omega),zU (show i < k by omega),zU (show i < l by omega)];simp only [toN,vYZ];cases decide (q i=u i) <;> rfl
 ·refine (rdsn G K q u k l k).trans ?_;rw [vYJ (show ¬ (k:Int) < (k:Int) by omega)];rfl
noncomputable def yZA (q u:Nat→Int) (k l:Nat):List (List Nat × yV):=[([0,1,0,1,1],sumF (fun _:Unit=>(hsn q u k l 0)) (fun _=>()) (fun _ K=>(bif (decide (k≤1000) && decide (k=l)) then (bif (allN (fun i:Nat=>decide (q i=u i)) k 0) then (K (.exit 0) ⟨[],[]⟩) else (K .ret ⟨[(4,.v (.b false))],[]⟩)) else none)))]
set_option maxRecDepth 100000 in
theorem pxsn0 (q u:Nat→Int) (k l:Nat):qQI Tf (orsn q u k l) (qY (yZA q u k l)) (k + 10) 85 [.lf k (fQ q),.lf l (fQ u)] =
 (bif (!decide ((k:Int)=(l:Int))) then some (.v (.b false),[])
 else (bif (gSt (hsn q u k l 0) (hsn q u k l 0)) then (bif (decide (k≤1000) && decide (k=l)) then (bif (allN (fun i:Nat=>decide (q i=u i)) k 0) then some (.v (.b true),[])
 else some (.v (.b false),[]))
 else none)
 else none)):=by kernel_rfl
theorem snd_sn0 (q u:Nat→Int) (k l:Nat) (hl:l≤1000):zY Tryz.prog 85 [.lf k (fQ q),.lf l (fQ u)] (.v (.b (smN q u k l))):=by
 refine qH (N:=(k + 10)) (LO:=qY (yZA q u k l)) jY yH (jK (l:=[]) (m:=[]) trivial trivial) (fun p S hp => ?_) ?_
 ·refine qX (L:=qZ Tf 85) (l:=(yZA q u k l)) (show AllP _ (yZA q u k l) from ⟨?_,trivial⟩) p S hp
  ·dsimp only;refine jQ (T:=Tf) (o:=(orsn q u k l)) (f:=85) (LO:=qY []) (p:=[0,1,0,1,1]) jU ?_;intro t K r hr;obtain ⟨hg,hr⟩:=qQ hr;rw [vQJ] at hg;have hk:=vYU hg.1;have hl:=vYU hg.2;exact (lpsn K q u k l hk hl).trans hr
 ·refine (pxsn0 q u k l).trans ?_;unfold smN;by_cases h:k=l
  ·subst h;simp only [decide_true,Bool.not_true,vYY,zW,vYK hl,vZW,vYZ];cases allN (fun t:Nat=>decide (q t=u t)) k 0 <;> rfl
  ·rw [vYJ (show ¬ (k:Int)=(l:Int) by omega)]; rfl
def csn:(Nat→Int) × (Nat→Int) × Nat × Nat→Prop:=fun t=>match t with | (_,_,_,l)=>l≤1000
def esn:(Nat→Int) × (Nat→Int) × Nat × Nat→List PV:=fun t=>match t with | (q,u,k,l)=>[.lf k (fQ q),.lf l (fQ u)]
noncomputable def rsn:(Nat→Int) × (Nat→Int) × Nat × Nat→Ret:=fun t=>match t with | (q,u,k,l)=>.v (.b (smN q u k l))
def dsn:List PV→(Nat→Int) × (Nat→Int) × Nat × Nat:=fun ps=>match ps with
 | [.lf k f,.lf l h]=>(unFQ f,unFQ h,k,l)
 | _=>(fun _=>0,fun _=>0,0,0)
noncomputable def o_sn:List PV→Option (Bool × Ret):=o_fm dsn csn esn rsn
theorem ok_sn:jH Tryz.prog 85 o_sn:=qQD fun t h=>by
 obtain ⟨q,u,k,l⟩:=t;exact snd_sn0 q u k l h
noncomputable def orpo (N i:Nat) (pn:Nat→Nat) (pv:Nat→Nat→Int) (q:Nat→Int) (k:Nat):OrS:=orS [(85,o_sn)] []
noncomputable def hpo (N i:Nat) (pn:Nat→Nat) (pv:Nat→Nat→Int) (q:Nat→Int) (k:Nat) (j:Int):St:=⟨[(0,.v (.lf i (fP pn pv))),(1,.v (.lf k (fQ q))),(5,.v (.n .i64 j))],[]⟩
set_option maxRecDepth 100000 in
theorem rdpo (G:St→Option (Ret × Mem)) (K:Cont) (N i:Nat) (pn:Nat→Nat) (pv:Nat→Nat→Int) (q:Nat→Int) (k:Nat) (j:Int):stpT Tf 53 (orpo N i pn pv q k) N [] [0,1,0,1] K G (hpo N i pn pv q k j) =
 (bif (decide (j < (i:Int))) then (bif (inB j i) then (bif (gF1 csn esn ((pv (j).toNat),q,(pn (j).toNat),k)) then (bif (smN (pv (j).toNat) q (pn (j).toNat) k) then (K .ret ⟨[(4,.v (.n .i64 j))],[]⟩)
 else (G (hpo N i pn pv q k (vYW .i64 (j + 1)))))
 else none)
 else none)
 else (K (.exit 0) ⟨[],[]⟩)):=by kernel_rfl
noncomputable def dcpo (i:Nat) (pn:Nat→Nat) (pv:Nat→Nat→Int) (q:Nat→Int) (k:Nat):Int→Int ⊕ (Nat × Int):=fun t=>match t with | j=>(bif (decide (j < (i:Int))) then (bif (inB j i) then (bif (gF1 csn esn ((pv (j).toNat),q,(pn (j).toNat),k)) then (bif (smN (pv (j).toNat) q (pn (j).toNat) k) then (.inr (0,j)) else (.inl (vYW .i64 (j + 1)))) else (.inr (2,j))) else (.inr (2,j))) else (.inr (1,j)))
noncomputable def kxpo (N i:Nat) (pn:Nat→Nat) (pv:Nat→Nat→Int) (q:Nat→Int) (k:Nat) (K:Cont) (w9:Nat × Int):Option (Ret × Mem):=bif Nat.beq w9.1 0 then (K .ret ⟨[(4,.v (.n .i64 w9.2))],[]⟩) else bif Nat.beq w9.1 1 then (K (.exit 0) ⟨[],[]⟩) else none
theorem wlpo (K:Cont) (N i:Nat) (pn:Nat→Nat) (pv:Nat→Nat→Int) (q:Nat→Int) (k:Nat):∀ n9 (t:Int),LFT Tf 53 (orpo N i pn pv q k) N [] [0,1,0,1] K n9 (hpo N i pn pv q k t)=(qG (dcpo i pn pv q k) n9 t).bind (kxpo N i pn pv q k K):=fun n9 t=>by
 refine qYG (L:=LFT Tf 53 (orpo N i pn pv q k) N [] [0,1,0,1] K) (stp:=stpT Tf 53 (orpo N i pn pv q k) N [] [0,1,0,1] K) (fun _ _=>rfl) (fun _=>rfl) (fun t=>hpo N i pn pv q k t) (fun _=>True) (dcpo i pn pv q k) (kxpo N i pn pv q k K) (fun G t _ => ?_) (fun _ _ _ _=>trivial) n9 t trivial;obtain ⟨j,rfl⟩:∃ j,j=t:=⟨_,rfl⟩
 refine (rdpo G K N i pn pv q k j).trans ?_;dsimp only [dcpo];cases (decide (j < (i:Int)))
 ·rfl
 ·cases (inB j i)
  ·rfl
  ·cases (gF1 csn esn ((pv (j).toNat),q,(pn (j).toNat),k))
   ·rfl
   ·cases (smN (pv (j).toNat) q (pn (j).toNat) k)
    ·rfl
    ·rfl
noncomputable def zHY (N:Nat) (i:Nat) (pn:Nat→Nat) (pv:Nat→Nat→Int) (q:Nat→Int) (k:Nat) (t:Int):Bool:=(qG (dcpo i pn pv q k) N t).isSome
noncomputable def zUI (N:Nat) (i:Nat) (pn:Nat→Nat) (pv:Nat→Nat→Int) (q:Nat→Int) (k:Nat) (t:Int):Nat × Int:=(qG (dcpo i pn pv q k) N t).getD (99,t)
theorem lwpo (K:Cont) (N i:Nat) (pn:Nat→Nat) (pv:Nat→Nat→Int) (q:Nat→Int) (k:Nat) (t:Int) (hg:zHY N i pn pv q k t=true):LFT Tf 53 (orpo N i pn pv q k) N [] [0,1,0,1] K N (hpo N i pn pv q k t)=kxpo N i pn pv q k K (zUI N i pn pv q k t):=by
 refine (wlpo K N i pn pv q k N t).trans ?_;unfold zHY at hg;unfold zUI;cases h:qG (dcpo i pn pv q k) N t with
 | none=>rw [h] at hg; cases hg
 | some y=>rfl
theorem it_po {i:Nat} {pn:Nat→Nat} {pv:Nat→Nat→Int} {q:Nat→Int} {k:Nat} (hk:k≤1000) (hi:i≤1000):∀ (d j N:Nat),j + d=i→d < N→qG (dcpo i pn pv q k) N (j:Int)=some (if poI pn pv q k d j = -1 then (1,(i:Int)) else (0,poI pn pv q k d j))
 | _,_,0,_,h=>by omega
 | 0,j,N + 1,hj,_=>by
  obtain rfl:j=i:=by omega
  rw [qG];simp only [dcpo,vYJ (show ¬ (j:Int) < (j:Int) by omega),vYY,poI,if_true]
 | d + 1,j,N + 1,hj,hN=>by
  rw [qG];simp only [dcpo,vYK (show (j:Int) < (i:Int) by omega),zU (show j < i by omega),toN,jV (C:=csn) (t:=(pv j,q,pn j,k)) hk,vYZ];cases h:smN (pv j) q (pn j) k with
  | true=>simp only [poI,h,vYZ,if_neg (show ¬ (j:Int) = -1 by omega)]
  | false =>
   simp only [poI,h,vYY,jG (show j < 1000000 by omega)];exact it_po hk hi d (j + 1) N (by omega) (by omega)
noncomputable def yYQ (N i:Nat) (pn:Nat→Nat) (pv:Nat→Nat→Int) (q:Nat→Int) (k:Nat):List (List Nat × yV):=[([0,1,0,1],sumF (fun t:Int=>(hpo N i pn pv q k t)) (fun σ=>slI σ 5) (fun t K=>(bif zHY N i pn pv q k t then kxpo N i pn pv q k K (zUI N i pn pv q k t) else none)))]
set_option maxRecDepth 100000 in
theorem pxpo0 (N i:Nat) (pn:Nat→Nat) (pv:Nat→Nat→Int) (q:Nat→Int) (k:Nat):qQI Tf (orpo N i pn pv q k) (qY (yYQ N i pn pv q k)) N 53 [.lf i (fP pn pv),.lf k (fQ q)] =
 (bif (gSt (hpo N i pn pv q k 0) (hpo N i pn pv q k 0)) then (bif (zHY N i pn pv q k 0) then (bif (Nat.beq (zUI N i pn pv q k 0).1 0) then some (.v (.n .i64 (zUI N i pn pv q k 0).2),[])
 else (bif (Nat.beq (zUI N i pn pv q k 0).1 1) then some (.v (.n .i64 (-1)),[])
 else none))
 else none)
 else none):=by kernel_rfl
theorem snd_po0 (N i:Nat) (pn:Nat→Nat) (pv:Nat→Nat→Int) (q:Nat→Int) (k:Nat) (hN:N=1010) (hk:k≤1000) (hi:i≤1000):zY Tryz.prog 53 [.lf i (fP pn pv),.lf k (fQ q)] (.v (.n .i64 (poI pn pv q k i 0))):=by
 refine qH (N:=N) (LO:=qY (yYQ N i pn pv q k)) jY yH (jK (l:=[(85,o_sn)]) (m:=[]) ⟨ok_sn,trivial⟩ trivial) (fun p S hp => ?_) ?_
 ·refine qX (L:=qZ Tf 53) (l:=(yYQ N i pn pv q k)) (show AllP _ (yYQ N i pn pv q k) from ⟨?_,trivial⟩) p S hp
  ·dsimp only;refine jQ (T:=Tf) (o:=(orpo N i pn pv q k)) (f:=53) (LO:=qY []) (p:=[0,1,0,1]) jU ?_;intro t K r hr;obtain ⟨hg,hr⟩:=qQ hr
   skip
   exact (lwpo K N i pn pv q k t hg).trans hr
 ·refine (pxpo0 N i pn pv q k).trans ?_;subst hN;have h:=it_po (pn:=pn) (pv:=pv) (q:=q) hk hi i 0 1010 (by omega) (by omega);have ho:zHY 1010 i pn pv q k 0=true:=by unfold zHY; rw [show (0:Int)=((0:Nat):Int) from rfl,h]; rfl
  have hu:zUI 1010 i pn pv q k 0=(if poI pn pv q k i 0 = -1 then (1,(i:Int)) else (0,poI pn pv q k i 0)):=by unfold zUI; rw [show (0:Int)=((0:Nat):Int) from rfl,h]; rfl
  simp only [zW,ho,vYZ];rw [hu];by_cases e:poI pn pv q k i 0 = -1
  ·rw [if_pos e,e]; rfl
  ·rw [if_neg e]; rfl
end Go.Proofs.YtklmegnpfhiibaaGreat.Xg
namespace Go.Proofs.YtklmegnpfhiibaaGreat.Xh
open Go.Rx Rt Go.Sx Go.RowKit Od Nb Nc Xb Xc Bb Xe Xf Xg
def unPn (f:Nat→List PV):Nat→Nat:=fun u=>match f u with
 | [.lf n _]=>n
 | _=>0
def unPv (f:Nat→List PV):Nat→Nat→Int:=fun u=>match f u with
 | [.lf _ h]=>unFQ h
 | _=>fun _=>0
def cpo:Nat × (Nat→Nat) × (Nat→Nat→Int) × (Nat→Int) × Nat→Prop:=fun t=>match t with | (i,_,_,_,k)=>k≤1000∧i≤1000
def epo:Nat × (Nat→Nat) × (Nat→Nat→Int) × (Nat→Int) × Nat→List PV:=fun t=>match t with | (i,pn,pv,q,k)=>[.lf i (fP pn pv),.lf k (fQ q)]
noncomputable def rpo:Nat × (Nat→Nat) × (Nat→Nat→Int) × (Nat→Int) × Nat→Ret:=fun t=>match t with | (i,pn,pv,q,k)=>.v (.n .i64 (poI pn pv q k i 0))
def dpo:List PV→Nat × (Nat→Nat) × (Nat→Nat→Int) × (Nat→Int) × Nat:=fun ps=>match ps with
 | [.lf i f,.lf k h]=>(i,unPn f,unPv f,unFQ h,k)
 | _=>(0,fun _=>0,fun _ _=>0,fun _=>0,0)
noncomputable def o_po:List PV→Option (Bool × Ret):=o_fm dpo cpo epo rpo
theorem ok_po:jH Tryz.prog 53 o_po:=qQD fun t h=>by
 obtain ⟨i,pn,pv,q,k⟩:=t;exact snd_po0 1010 i pn pv q k rfl h.1 h.2
def okP (js:Nat→J) (ms:Nat→Ms) (n m:Nat) (pn:Nat→Nat) (pv:Nat→Nat→Int) (i:Nat):Bool:=inP js ms n m pn pv i && !decide (0≤poI pn pv (pv i) (pn i) i 0)
noncomputable def hm2 (js:Nat→J) (ms:Nat→Ms) (n m:Nat) (np:Nat) (pn:Nat→Nat) (pv:Nat→Nat→Int) (ne:Nat) (ed:Nat→Ed) (i:Int):St:=⟨[(2,.p 2 0),(3,.p 3 0),(6,.v (.n .i64 i))],[(2,.blk [.v (.lf n (fJ js)),.v (.lf m (fM ms))]),(3,.blk [.v (.lf np (fP pn pv)),.v (.lf ne (fE ed))])]⟩
end Go.Proofs.YtklmegnpfhiibaaGreat.Xh
namespace Go.Proofs.YtklmegnpfhiibaaGreat.Xi
open Go.Rx Rt Go.Sx Go.RowKit Od Nb Nc Xb Xc Bb Xe Xf Xg Xh
theorem okP_k {js:Nat→J} {ms:Nat→Ms} {n m np:Nat} {pn:Nat→Nat} {pv:Nat→Nat→Int} (h:allN (fun i:Nat=>okP js ms n m pn pv i) np 0=true):∀ j,j < np→inP js ms n m pn pv j=true∧poI pn pv (pv j) (pn j) j 0 < 0:=fun j hj=>by
 have:=allN_iff.1 h j (Nat.zero_le _) (by omega)
 unfold okP at this;simp only [vQJ,Bool.not_eq_true',decide_eq_false_iff_not] at this;exact ⟨this.1,by omega⟩
theorem key_sm {n:Nat} {q p:Nat→Int} (_:n≤10):Xa.keyL n q=Xa.keyL n p ↔ ∀ t,t < n→q t=p t:=by
 unfold Xa.keyL;rw [List.map_inj_left];refine ⟨fun h t ht => ?_,fun h t _ => ?_⟩
 ·have:=h t (List.mem_range.2 (by omega))
  rw [if_pos ht,if_pos ht] at this;exact this
 ·by_cases ht:t < n
  ·rw [if_pos ht,if_pos ht]; exact h t ht
  ·rw [if_neg ht,if_neg ht]
theorem sm_iff {q u:Nat→Int} {k l:Nat}:smN q u k l=true ↔ k=l∧∀ t,t < k→q t=u t:=by
 unfold smN;rw [vQJ,decide_eq_true_eq,allN_iff];refine ⟨fun ⟨h1,h2⟩=>⟨by omega,fun t ht=>vYU (h2 t (Nat.zero_le _) (by omega))⟩,fun ⟨h1,h2⟩=>⟨by omega,fun t _ ht=>vYK (h2 t (by omega))⟩⟩
theorem cnt_okP {js:Nat→J} {ms:Nat→Ms} {n m np:Nat} {pn:Nat→Nat} {pv:Nat→Nat→Int}:Xa.cntD (inP js ms n m pn pv) pn pv np=np ↔ allN (fun i:Nat=>okP js ms n m pn pv i) np 0=true:=by
 have same:∀ i j,inP js ms n m pn pv i=true→inP js ms n m pn pv j=true→(Xa.keyL (pn i) (pv i)=Xa.keyL (pn j) (pv j) ↔ smN (pv i) (pv j) (pn i) (pn j)=true):=fun i j hi hj=>by
  have a:=qUI hi;have b:=qUI hj;have e:pn j=pn i:=by omega
  rw [e,key_sm (by omega),sm_iff];exact ⟨fun h=>⟨rfl,h⟩,fun h=>h.2⟩
 rw [cntD_full];constructor
 ·intro h;refine allN_iff.2 fun j _ hj => ?_
  obtain ⟨h1,h2⟩:=h j (by omega);unfold okP;rw [h1,vZW,Bool.not_eq_true',decide_eq_false_iff_not];intro h3;rcases zZC (pn:=pn) (pv:=pv) (q:=pv j) (k:=pn j) (d:=j) (j:=0) with ⟨h4,_⟩ | ⟨_,i,_,h5,h6⟩
  ·omega
  ·have hi:=h i (by omega)
   have:Xa.sawB (inP js ms n m pn pv) pn pv j=true:=by
    unfold Xa.sawB;rw [List.any_eq_true];exact ⟨i,List.mem_range.2 (by omega),by rw [hi.1,vZW]; exact vYK ((same i j hi.1 h1).2 h6)⟩
   rw [h2] at this; cases this
 ·intro h j hj;obtain ⟨h1,h2⟩:=okP_k h j hj;refine ⟨h1,?_⟩;cases hs:Xa.sawB (inP js ms n m pn pv) pn pv j with
  | false=>rfl
  | true =>
   unfold Xa.sawB at hs;rw [List.any_eq_true] at hs;obtain ⟨i,hi,h3⟩:=hs;rw [List.mem_range] at hi;simp only [vQJ,decide_eq_true_eq] at h3;rcases zZC (pn:=pn) (pv:=pv) (q:=pv j) (k:=pn j) (d:=j) (j:=0) with ⟨_,h4⟩ | ⟨h4,_⟩
   ·have:=h4 i (Nat.zero_le _) (by omega)
    rw [(same i j h3.1 h1).1 h3.2] at this; cases this
   ·omega
end Go.Proofs.YtklmegnpfhiibaaGreat.Xi
namespace Go.Proofs.YtklmegnpfhiibaaGreat.Xk
open Go.Rx Rt Go.Sx Go.RowKit Od Nb Nc Xb Xc Bb Xe Xf Xg Xh Xi
theorem ds_step {w q u s B:Int} (hw:1≤w∧w≤1024) (_: -4194304≤q∧q≤4194304) (_: -4194304≤u∧u≤4194304) (_:0≤s∧s≤B) (_:B≤1099511627776):0≤vYW .i64 (s + vYW .i64 (w * max (vYW .i64 (u - q)) (vYW .i64 (q - u))))∧vYW .i64 (s + vYW .i64 (w * max (vYW .i64 (u - q)) (vYW .i64 (q - u))))≤B + 8589934592:=by
 rw [zV (x:=u - q) (by omega),zV (x:=q - u) (by omega)];have h0:0≤max (u - q) (q - u):=by omega
 have h1:max (u - q) (q - u)≤8388608:=by omega
 generalize max (u - q) (q - u)=z at h0 h1;have h2:0≤w * z:=Int.mul_nonneg (by omega) h0;have h3:w * z≤1024 * 8388608:=Int.mul_le_mul hw.2 h1 h0 (by omega);rw [zV (x:=w * z) (by omega),zV (x:=s + w * z) (by omega)];omega
theorem ds_b {js:Nat→J} {ms:Nat→Ms} {q u:Nat→Int} {n m k l:Nat} (hq:qIn js ms q n m k=true) (hu:qIn js ms u n m l=true):0≤dsQ js ms q u n m k l∧dsQ js ms q u n m k l≤1099511627776:=by
 obtain ⟨h1,h2,h3,h4⟩:=qUI hq;obtain ⟨_,g2,_,_⟩:=qUI hu;have hl:=Xl.rerr_lim h1;have bq:=Xl.qIn_b hq;have bu:=Xl.qIn_b hu;unfold dsQ;cases decide (rErr js ms n m=0) && decide (k=n) && decide (l=n) && smQ q k && smQ u l with
 | false=>exact ⟨Int.le_refl _,(by decide:(0:Int)≤1099511627776)⟩
 | true =>
  rw [vYZ];unfold dsS
  have:=qZX (Q:=fun (i:Nat) (s:Int)=>0≤s∧s≤(i:Int) * 8589934592) (c:=n) (nx:=fun (i:Nat) (s:Int)=>vYW .i64 (s + vYW .i64 ((js i).weight * max (vYW .i64 (u i - q i)) (vYW .i64 (q i - u i))))) (fun i s hi hs=>by
   have:=ds_step (hl i hi).2.2.2 (bq i (by omega)) (bu i (by omega)) hs (by omega)
   refine ⟨this.1,?_⟩;have h:=this.2
   omega) n 0 0 (by omega) ⟨Int.le_refl _,by omega⟩
  refine ⟨this.1,?_⟩;have h:=this.2;omega
theorem zJG {js:Nat→J} {ms:Nat→Ms} {n m np:Nat} {pn:Nat→Nat} {pv:Nat→Nat→Int} {ne:Nat} {ed:Nat→Ed} (h:vmB js ms n m np pn pv ne ed=true):∀ j,j < np→qIn js ms (pv j) n m (pn j)=true:=fun j hj=>by
 unfold vmB at h;simp only [vQJ,decide_eq_true_eq] at h;exact (cntD_full.1 h.2.2.2.1 j hj).1
theorem zZK {js:Nat→J} {ms:Nat→Ms} {n m np:Nat} {pn:Nat→Nat} {pv:Nat→Nat→Int} {ne:Nat} {ed:Nat→Ed} (h:vmB js ms n m np pn pv ne ed=true):∀ i,i < ne→veB js ms n m np pn pv (ed i)=true∧(i=0 ∨ ¬ 0≤cpI (ed (i - 1)).u (ed (i - 1)).v (ed i).u (ed i).v):=fun i hi=>by
 unfold vmB at h;simp only [vQJ,decide_eq_true_eq] at h
 have:=allN_iff.1 h.2.2.2.2 i (Nat.zero_le _) (by omega)
 unfold okV at this;simp only [vQJ,Bool.or_eq_true,Bool.not_eq_true',decide_eq_true_eq,decide_eq_false_iff_not] at this;exact this
theorem vm_wf {js:Nat→J} {ms:Nat→Ms} {n m np:Nat} {pn:Nat→Nat} {pv:Nat→Nat→Int} {ne:Nat} {ed:Nat→Ed} (h:vmB js ms n m np pn pv ne ed=true):wfB ⟨np,fP pn pv,ne,ed⟩=true:=by
 have hin:=zJG h;have hed:=zZK h;unfold vmB at h;simp only [vQJ,decide_eq_true_eq] at h;unfold wfB;simp only [vQJ,decide_eq_true_eq];refine ⟨h.2.1,h.2.2.1,allN_iff.2 fun i _ hi => ?_⟩;obtain ⟨hv,ho⟩:=hed i (by omega);unfold veB dE at hv;simp only [vQJ,Bool.not_eq_true',decide_eq_true_eq,decide_eq_false_iff_not] at hv;obtain ⟨v1,v2,v3,v4,v5,v6,_⟩:=hv;have hd:=ds_b (hin (ed i).u.toNat (by omega)) (hin (ed i).v.toNat (by omega));rw [← v6] at hd;unfold okE isP;simp only [vQJ,Bool.or_eq_true,Bool.not_eq_true',decide_eq_true_eq,decide_eq_false_iff_not];exact ⟨⟨v1,v2⟩,⟨v3,v4⟩,v5,by omega,by omega,ho⟩
end Go.Proofs.YtklmegnpfhiibaaGreat.Xk
namespace Go.Sx
open Go.RowKit Go.Maps
section
variable {P:Program} {n:Nat} {w0:Base} {ops:Array Oper} {Q:Exit→Act→World→Prop} {S:yY} {H:Heap}
variable {d:Nat} {ty:TypeId} {pos:String} {af:Array Edge} {g:Option (Nat × Bool)} {rest:List Oper}
theorem qQB {dd:Option Tmp} {x:Operand} {t t' e:TypeId} {a:Option Addr} {m c:Nat} (ht:P.underlying t=some (.slice e)) (hx:ev S x=some (.slice a m c)):OpV P w0 S H ⟨dd,.binOp .eql t x (.const (.slice none 0 0)) t',ty,pos,af,g⟩ (.bool a.isNone) :=
 have hc:ev S (.const (.slice none 0 0))=some (.slice none 0 0):=rfl
 yG (by simp [yQ,Op.operands,hx,hc]) rfl fun w _=>by
  have h2:evD S (.const (.slice none 0 0))=.slice none 0 0:=rfl;have h3:=Lib.run_eql_slice_nil (P:=P) w t e a m c 0 0 ht;simp [execOp,zQ hx,h2,eqGuard,h3]
theorem qYF {t e sz bytes m c b0:Nat} {zs:List Value} {a:Option Addr} {rows:List (List Value)} {x y:Operand} (id:Nat) (hB:qUU P t e sz bytes zs) (hS:Holds w0 (qJA sz a rows)) (hx:ev S x=some (.slice (some ⟨b0,0,none⟩) 0 0)) (hy:ev S y=some (.slice a m c))
  (hr:rows.length=m) (h0:0 < m) (hm:m * bytes≤281474976710656) (h63:m≤maxLen)
  (hw:qZH ops S ⟨some d,.call ⟨.builtin .append,#[x,y],#[t,t]⟩,ty,pos,af,g⟩=some true) (hn:Nat.blt d n=true)
  (next:∀ b c',DoL P n ⟨w0.w,(id,ownD (some ⟨b,0,none⟩),OwnF 0 e sz (some ⟨b,0,none⟩) c' m rows.flatten) :: w0.R⟩ ops Q rest ((d,.slice (some ⟨b,0,none⟩) m c') :: S) H) :
  DoL P n w0 ops Q (⟨some d,.call ⟨.builtin .append,#[x,y],#[t,t]⟩,ty,pos,af,g⟩ :: rest) S H:=by
 intro act w fi k;unfold wpList;rw [qZQ fi hw,if_pos rfl];refine .inl ?_;unfold Oper.wp;obtain ⟨ht,i,z,hi,hz,rfl,rfl,rfl,hlen,hs0⟩:=hB;have hF:=hS _ _ k;obtain ⟨r0,hr0⟩:∃ r0,rows[0]? = some r0:=⟨_,vQK (by omega)⟩
 obtain ⟨_,b1,off,rfl,_,_⟩:=hF 0 r0 hr0;have hall:∀ r ∈ rows,r.length=i.size:=fun r hr=>by
  obtain ⟨j,hj⟩:=List.mem_iff_getElem?.1 hr;exact (hF j r hj).1
 have hfl:=rows_len rows hall;have hnews:∀ j v,rows.flatten[j]? = some v→w.cell? ((⟨b1,off,none⟩:Addr).add j)=some v:=fun j v hj=>by
  have hjl:=(List.getElem?_eq_some_iff.1 hj).1;rw [hfl] at hjl;have hd:j / i.size < rows.length:=(Nat.div_lt_iff_lt_mul hs0).2 hjl;have hmod:=Nat.mod_lt j hs0;have hrow:rows[j / i.size]? = some rows[j / i.size]:=vQK hd;have hg:=qXB (sz:=i.size) rows hall (j / i.size) _ hrow (j % i.size) hmod;rw [show j / i.size * i.size + j % i.size=j by rw [Nat.mul_comm]; exact Nat.div_add_mod j i.size] at hg;obtain ⟨_,b2,off2,he,_,hc⟩:=hF _ _ hrow;simp only [vQZ,Addr.mk.injEq,and_true] at he;obtain ⟨rfl,rfl⟩:=he
  have:=hc _ hmod
  rw [← hg,hj,Nat.add_assoc,show j / i.size * i.size + j % i.size=j by rw [Nat.mul_comm]; exact Nat.div_add_mod j i.size] at this;rw [qYK];exact this
 have hml:m≤9223372036854775807:=Nat.le_trans h63 (by unfold maxLen; decide);have hrun0:=run_append_grow (P:=P) w t ty e i z ht hi hz ⟨b0,0,none⟩ 0 0 [] (by simp) (fun j v hj=>by simp at hj) ⟨b1,off,none⟩ m c rows.flatten (by rw [hfl,hr]) hnews (by omega) (by omega) (by rw [Nat.zero_add,nextslicecap_zero h0]; exact hm);simp only [Nat.zero_add] at hrun0;have hcap:=grownCap_ge w m 0 e;have hcap2:=grownCap_le_maxLen w m 0 e h63;generalize grownCap w m 0 e=cap at hrun0 hcap hcap2;have hrun:(execOp act.eval ⟨some d,.call ⟨.builtin .append,#[x,y],#[t,t]⟩,ty,pos,af,g⟩).run P w=.ok (.value (.slice (some ⟨w.heap.size,0,none⟩) m cap)) (w.drew.alloc (.cells ((#[]:Array Value) ++ rows.flatten.toArray ++ Builtin.zeroCells z.cells (cap - m)) e)):=by
  simp [execOp,resolve,invoke,builtin,fi.ev hx,fi.ev hy,hrun0]
 rw [hrun];simp only [Oper.upon];have hzs:z.cells.size=i.size:=by simpa using hlen
 refine next w.heap.size cap _ _ (fi.put hn _) (k.tell ((Grow.refl w).drew.alloc _) id (zKY _ _ _ _ _ _ _) (fun q hq => ?_) ?_)
 ·obtain ⟨ad,h1,h2⟩:=hq;cases h1;subst h2;exact ⟨Nat.le_refl _,by show w.heap.size < (w.heap.push _).size; simp⟩
 ·refine ⟨by rw [hfl,hr],.inr ⟨w.heap.size,cap,_,rfl,Nat.zero_le _,by show (w.heap.push _)[w.heap.size]? = _; rw [Array.getElem?_push_size],hcap,hcap2,?_,?_⟩⟩
  ·simp only [Array.size_append,Array.size_empty,size_zeroCells,hzs,List.size_toArray,hfl,hr];simp only [List.length_nil,Nat.zero_add];rw [← Nat.add_mul]; congr 1; omega
  ·simp only [Array.toList_append,List.nil_append]
   have:rows.flatten.length=m * i.size:=by rw [hfl,hr]
   rw [← this,List.take_left]
end
end Go.Sx

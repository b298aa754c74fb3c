/- Part 14 of the texts behind the last one: rules and contracts. No condition. -/
import Derived.Test.YthkhihoplfpgmaaGreatPH13
namespace Go.Proofs.YthkhihoplfpgmaaGreat.Nw
open Go.Rx Rt Go.Sx Go.RowKit Od Ov Pc Na Nb Nc Nd Nx Nf Ng Nj Nl Nm Nn No Nq Nr Ns Nu Nv
def nrm' (k:Nat) (p:Nat→Int):Nat→Int:=fun i=>bif decide (i < k) then p i else 0
theorem jQX {k:Nat} {p:Nat→Int} {i:Nat} (h:i < k):nrm' k p i=p i:=by unfold nrm'; rw [decide_eq_true h]; rfl
theorem nrm_idem (k:Nat) (p:Nat→Int):nrm' k (nrm' k p)=nrm' k p:=by
 funext i
 by_cases h:i < k
 ·rw [jQX h]
 ·unfold nrm'
  rw [decide_eq_false h]; rfl
theorem nrm_ext {k:Nat} {p u:Nat→Int} (h:∀ i,i < k→p i=u i):nrm' k p=nrm' k u:=by
 funext i
 by_cases hi:i < k
 ·rw [jQX hi,jQX hi,h i hi]
 ·unfold nrm'
  rw [decide_eq_false hi]; rfl
theorem nrm_same (k:Nat) (p:Nat→Int):Same (.lf k (fQ p)) (.lf k (fQ (nrm' k p))):=yJY fun j hj=>by show [PV.n .i64 _]=[PV.n .i64 _]; rw [jQX hj]
noncomputable def stN (js:Nat→J) (ms:Nat→Ms) (q:Nat→Int) (n m k:Nat) (c:Cn):Nat→Int:=nrm' k (stQ js ms q n m k c)
theorem stN_in {js:Nat→J} {ms:Nat→Ms} {q:Nat→Int} {n m k:Nat} {c:Cn} (h:gOk js ms q n m k c=true):qIn js ms (stN js ms q n m k c) n m k=true:=by
 obtain ⟨_,hq,h0,hnk,_,h1,h10⟩:=zKK h
 obtain ⟨_,_,hin⟩:=zZV hq
 unfold qIn insQ
 rw [decide_eq_true h0,decide_eq_true (show (n:Int)=(k:Int) by omega)]
 simp only [Bool.true_and]
 refine allN_iff.2 fun i _ hi => ?_
 have hl:=(yUQ h0 i (by omega)).2.1
 have hb:=hin i (by omega)
 have:(js i).lo≤stN js ms q n m k c i∧stN js ms q n m k c i≤(js i).hi:=by
  unfold stN
  rw [jQX (by omega)]
  unfold stQ
  cases hQ js ms q n m k c || decide (sS js ms q n m k c=0) with
  | true=>exact hb
  | false =>
   show (js i).lo≤nxE js ms q n m k c i∧nxE js ms q n m k c i≤(js i).hi
   unfold nxE
   omega
 rw [decide_eq_true this.1,decide_eq_true this.2]; rfl
theorem snd_stpN (js:Nat→J) (ms:Nat→Ms) (q:Nat→Int) (n m k:Nat) (c:Cn) (hk:k≤50):yZ Tryz.prog 29 [.a [.lf n (fJ js),.lf m (fM ms)],.a (cp c),.lf k (fQ q)] (.v (.t [.lf (gN js ms q n m k c) (fQ (stN js ms q n m k c)),.b (gOk js ms q n m k c)])):=by
 refine qYU (Same.t (xs:=[_,_]) ⟨?_,Same.refl _,trivial⟩) (snd_stp js ms q n m k c hk)
 cases h:gOk js ms q n m k c with
 | true =>
  rw [(zKK h).2.2.2.2.1]
  exact nrm_same _ _
 | false=>rw [show gN js ms q n m k c=0 by unfold gN; rw [h]; rfl]; exact yJY fun j hj=>absurd hj (by omega)
def isSp (js:Nat→J) (ms:Nat→Ms) (n m:Nat) (ps:List PV):Prop:=∃ (q:Nat→Int) (k:Nat) (c:Cn),k≤50∧ps=[.a [.lf n (fJ js),.lf m (fM ms)],.a (cp c),.lf k (fQ q)]
def unC (ps:List PV):Cn:=match ps with
 | [.n _ a,.n _ b,.n _ c,.n _ d,.n _ e,.n _ f,.n _ g,.n _ h,.n _ i,.n _ j]=>⟨a,b,⟨c,d,e⟩,⟨f,g,h⟩,i,j⟩
 | _=>⟨0,0,⟨0,0,0⟩,⟨0,0,0⟩,0,0⟩
noncomputable def o_sp (js:Nat→J) (ms:Nat→Ms) (n m:Nat):List PV→Option (Bool × Ret):=fun ps=>match ps with
 | [r,.a c',.lf k f]=>some (gP (isSp js ms n m [r,.a c',.lf k f]),.v (.t [.lf (gN js ms (unFQ f) n m k (unC c')) (fQ (stN js ms (unFQ f) n m k (unC c'))),.b (gOk js ms (unFQ f) n m k (unC c'))]))
 | _=>none
theorem ok_sp (js:Nat→J) (ms:Nat→Ms) (n m:Nat):zX Tryz.prog 29 (o_sp js ms n m):=by
 intro ps r hh
 unfold o_sp at hh
 split at hh
 ·simp only [Option.some.injEq,Prod.mk.injEq] at hh
  obtain ⟨hg,rfl⟩:=hh
  obtain ⟨q,k,c,hk,e⟩:=zXK hg
  simp only [List.cons.injEq,PV.a.injEq,PV.lf.injEq,and_true] at e
  obtain ⟨rfl,rfl,rfl,rfl⟩:=e
  exact snd_stpN js ms _ n m _ _ hk
 ·cases hh
noncomputable def orIm (js:Nat→J) (ms:Nat→Ms) (q:Nat→Int) (n m k:Nat) (cs:Nat→Cn) (c:Nat):OrL:=[(29,o_sp js ms n m)]
noncomputable def hIm (js:Nat→J) (ms:Nat→Ms) (q:Nat→Int) (n m k:Nat) (cs:Nat→Cn) (c:Nat) (i:Int) (r:Nat) (p:Nat→Int):St:=⟨[(2,.v (.lf r (fQ p))),(3,.p 3 0),(9,.v (.lf c (fC cs))),(10,.v (.n .i64 (c:Int))),(11,.v (.n .i64 i))],[(3,.blk [.v (.lf n (fJ js)),.v (.lf m (fM ms))])]⟩
set_option maxRecDepth 100000 in
theorem rdIm (G:St→Option (Ret × Mem)) (K:Cont) (js:Nat→J) (ms:Nat→Ms) (q:Nat→Int) (n m k:Nat) (cs:Nat→Cn) (c:Nat) (i:Int) (r:Nat) (p:Nat→Int):zZZ 60 (cxF Tf (OrL.k (orIm js ms q n m k cs c)) 60 40 (ntmF Tf 40)) (ckF Tf (OrL.k (orIm js ms q n m k cs c)) 60) (zG []) (qW Tf 40 [0,1,0,1]) [0,1,0,1] (Tf.hint 40 (zU (qW Tf 40 [0,1,0,1]))) K G (hIm js ms q n m k cs c i r p) =
 (bif (decide (i < (c:Int))) then (bif (inB i c) then (bif (gP (isSp js ms n m [.a [.lf n (fJ js),.lf m (fM ms)],.a [.n .i64 (cs (i).toNat).kind,.n .i64 (cs (i).toNat).link,.n .i64 (cs (i).toNat).p.x,.n .i64 (cs (i).toNat).p.y,.n .i64 (cs (i).toNat).p.z,.n .i64 (cs (i).toNat).n.x,.n .i64 (cs (i).toNat).n.y,.n .i64 (cs (i).toNat).n.z,.n .i64 (cs (i).toNat).lo,.n .i64 (cs (i).toNat).hi],.lf r (fQ p)])) then (bif (gOk js ms p n m r (cs (i).toNat)) then (G (hIm js ms q n m k cs c (IntKind.i64.wrap (i + 1)) (gN js ms p n m r (cs (i).toNat)) (stN js ms p n m r (cs (i).toNat))))
 else (G (hIm js ms q n m k cs c (IntKind.i64.wrap (i + 1)) (gN js ms p n m r (cs (i).toNat)) (stN js ms p n m r (cs (i).toNat)))))
 else none)
 else none)
 else (K (.exit 0) ⟨[(2,.v (.lf r (fQ p)))],[]⟩)):=by kernel_rfl
noncomputable def impQ (js:Nat→J) (ms:Nat→Ms) (q:Nat→Int) (n m k:Nat) (cs:Nat→Cn) (c:Nat):Nat→Int:=jXK (fun (i:Nat) (p:Nat→Int)=>stN js ms p n m k (cs i)) c 0 q
theorem kKU {js:Nat→J} {ms:Nat→Ms} {p:Nat→Int} {n m k:Nat} {cs:Nat→Cn} {c:Nat} (hc:cErr js ms n m cs c=true) (hq:qIn js ms p n m k=true) {i:Nat} (hi:i < c):gOk js ms p n m k (cs i)=true:=by
 unfold gOk
 rw [jKV hc hi,hq]; rfl
theorem lpIm (K:Cont) (js:Nat→J) (ms:Nat→Ms) (q:Nat→Int) (n m k:Nat) (cs:Nat→Cn) (c:Nat) (hc:cErr js ms n m cs c=true) (hq:qIn js ms q n m k=true):LFL 60 (cxF Tf (OrL.k (orIm js ms q n m k cs c)) 60 40 (ntmF Tf 40)) (ckF Tf (OrL.k (orIm js ms q n m k cs c)) 60) (zG []) (qW Tf 40 [0,1,0,1]) [0,1,0,1] (Tf.hint 40 (zU (qW Tf 40 [0,1,0,1]))) K 60 (hIm js ms q n m k cs c 0 k q)=(K (.exit 0) ⟨[(2,.v (.lf k (fQ (impQ js ms q n m k cs c))))],[]⟩):=by
 obtain ⟨_,h8,_⟩:=qWW hc
 refine (zVJ (L:=LFL 60 (cxF Tf (OrL.k (orIm js ms q n m k cs c)) 60 40 (ntmF Tf 40)) (ckF Tf (OrL.k (orIm js ms q n m k cs c)) 60) (zG []) (qW Tf 40 [0,1,0,1]) [0,1,0,1] (Tf.hint 40 (zU (qW Tf 40 [0,1,0,1]))) K) (stp:=zZZ 60 (cxF Tf (OrL.k (orIm js ms q n m k cs c)) 60 40 (ntmF Tf 40)) (ckF Tf (OrL.k (orIm js ms q n m k cs c)) 60) (zG []) (qW Tf 40 [0,1,0,1]) [0,1,0,1] (Tf.hint 40 (zU (qW Tf 40 [0,1,0,1]))) K) (fun _ _=>rfl) (fun (i:Nat) (p:Nat→Int)=>hIm js ms q n m k cs c (i:Int) k p) (fun _ p=>qIn js ms p n m k=true) (fun _ _=>true) (fun (i:Nat) (p:Nat→Int)=>stN js ms p n m k (cs i)) (c:=c) (fun p=>(K (.exit 0) ⟨[(2,.v (.lf k (fQ p)))],[]⟩)) (fun _ _=>none) (fun G i p hi hv => ?_) (fun i p hi hv _=>stN_in (kKU hc hv hi)) (fun G p _ => ?_) c 0 60 q (by omega) (by omega) hq).trans (yXW c 0 _)
 ·refine (rdIm G K js ms q n m k cs c i k p).trans ?_
  have hg:=kKU hc hv hi
  obtain ⟨_,_,_,hnk,hgk,h1,h10⟩:=zKK hg
  have hs:gP (isSp js ms n m [.a [.lf n (fJ js),.lf m (fM ms)],.a (cp (cs i)),.lf k (fQ p)])=true:=jJV ⟨p,k,cs i,by omega,rfl⟩
  simp only [decide_eq_true (show (i:Int) < (c:Int) by omega),qZY (show i < 1000000 by omega),kU (show i < c by omega),toN,cond_true]
  refine (congrArg (fun b=>bif b then _ else none) hs).trans ?_
  rw [cond_true,hg,cond_true,hgk]
 ·refine (rdIm G K js ms q n m k cs c c k p).trans ?_
  rw [decide_eq_false (show ¬ (c:Int) < (c:Int) by omega)]
  rfl
noncomputable def kVW (js:Nat→J) (ms:Nat→Ms) (q:Nat→Int) (n m k:Nat) (cs:Nat→Cn) (c:Nat):List (List Nat × qWG):=[([0,1,0,1],sumF (fun _:Unit=>(hIm js ms q n m k cs c 0 k q)) (fun _=>()) (fun _ K=>(bif (cErr js ms n m cs c && qIn js ms q n m k) then (K (.exit 0) ⟨[(2,.v (.lf k (fQ (impQ js ms q n m k cs c))))],[]⟩) else none)))]
set_option maxRecDepth 100000 in
theorem pximp (js:Nat→J) (ms:Nat→Ms) (q:Nat→Int) (n m k:Nat) (cs:Nat→Cn) (c:Nat):qKH Tf (OrL.k (orIm js ms q n m k cs c)) (zG (kVW js ms q n m k cs c)) 60 40 [.a [.lf n (fJ js),.lf m (fM ms)],.lf c (fC cs),.lf k (fQ q)] =
 (bif (gSt (hIm js ms q n m k cs c 0 k q) (hIm js ms q n m k cs c 0 k q)) then (bif (cErr js ms n m cs c && qIn js ms q n m k) then some (.v (.lf k (fQ (impQ js ms q n m k cs c))),[])
 else none)
 else none):=by kernel_rfl
theorem snd_imp (js:Nat→J) (ms:Nat→Ms) (q:Nat→Int) (n m k:Nat) (cs:Nat→Cn) (c:Nat) (hc:cErr js ms n m cs c=true) (hq:qIn js ms q n m k=true):yZ Tryz.prog 40 [.a [.lf n (fJ js),.lf m (fM ms)],.lf c (fC cs),.lf k (fQ q)] (.v (.lf k (fQ (impQ js ms q n m k cs c)))):=by
 refine qKK (N:=60) (LO:=zG (kVW js ms q n m k cs c)) yKQ yY (OrL.ok (l:=(orIm js ms q n m k cs c)) ⟨ok_sp js ms n m,trivial⟩) (fun p S hp => ?_) ?_
 ·refine qJH (L:=qW Tf 40) (l:=(kVW js ms q n m k cs c)) (show AllP _ (kVW js ms q n m k cs c) from ⟨?_,trivial⟩) p S hp
  ·dsimp only
   refine zYZ (T:=Tf) (ok:=(OrL.k (orIm js ms q n m k cs c))) (f:=40) (LO:=zG []) (p:=[0,1,0,1]) zUH ?_
   intro _ K r hr
   obtain ⟨hg,hr⟩:=zZ hr
   rw [Bool.and_eq_true] at hg
   exact (lpIm K js ms q n m k cs c hg.1 hg.2).trans hr
 ·refine (pximp js ms q n m k cs c).trans ?_
  rw [kZ,hc,hq]
  rfl
noncomputable def hB (js:Nat→J) (ms:Nat→Ms) (bx:Nat→Iv) (n m kk:Nat) (c:Cn):Bool:=cErr js ms n m (fun _=>c) 1 && (pIn js ms bx n m kk && zHW (fun _=>c) (vI js bx n (fun _=>c)) 1)
noncomputable def allH (js:Nat→J) (ms:Nat→Ms) (q:Nat→Int) (n m k:Nat) (cs:Nat→Cn) (c:Nat):Bool:=allN (fun i=>hQ js ms q n m k (cs i)) c 0
theorem qIn_pIn {js:Nat→J} {ms:Nat→Ms} {q:Nat→Int} {n m k:Nat} (h:qIn js ms q n m k=true):smQ q k=true∧pIn js ms (ptB q) n m k=true:=by
 obtain ⟨h0,hn,hin⟩:=zZV h
 have hs:smQ q k=true:=allN_iff.2 fun i _ hi=>by
  have h1:=yUQ h0 i (by omega)
  have h2:=hin i (by omega)
  rw [decide_eq_false (show ¬ q i < -2147483648 by omega),decide_eq_false (show ¬ 2147483648 < q i by omega)]; rfl
 refine ⟨hs,?_⟩
 unfold pIn insB
 rw [decide_eq_true h0,decide_eq_true (show (n:Int)=(k:Int) by omega)]
 simp only [Bool.true_and]
 refine allN_iff.2 fun i _ hi => ?_
 have h1:=yUQ h0 i (by omega)
 have h2:=hin i (by omega)
 unfold Iv.within Iv.valid ptB
 simp only [Bool.and_eq_true,decide_eq_true_eq]
 omega
theorem allH_eq {js:Nat→J} {ms:Nat→Ms} {q:Nat→Int} {n m k:Nat} {cs:Nat→Cn} {c:Nat} (hc:cErr js ms n m cs c=true) (hq:qIn js ms q n m k=true):(cErr js ms n m cs c && (pIn js ms (ptB q) n m (bif smQ q k then k else 0) && zHW cs (vI js (ptB q) n cs) c))=allH js ms q n m k cs c:=by
 obtain ⟨hs,hp⟩:=qIn_pIn hq
 rw [hc,hs,cond_true,hp]
 simp only [Bool.true_and]
 unfold zHW allH
 refine yJH fun i _ hi => ?_
 unfold Nr.hQ
 rw [jKV hc (by omega),hs,cond_true,hp]
 show _=(true && (true && (inR (cs i) (vI js (ptB q) n (fun _=>cs i) 0) && true)))
 rw [Bool.true_and,Bool.true_and,Bool.and_true]
 rfl
def isHb (js:Nat→J) (ms:Nat→Ms) (n m:Nat) (ps:List PV):Prop:=∃ (bx:Nat→Iv) (kk:Nat) (c:Cn),ps=[.a [.lf n (fJ js),.lf m (fM ms)],.l [cp c],.lf kk (fB bx)]
noncomputable def o_hb (js:Nat→J) (ms:Nat→Ms) (n m:Nat):List PV→Option (Bool × Ret):=fun ps=>match ps with
 | [r,.l [c'],.lf k f]=>some (gP (isHb js ms n m [r,.l [c'],.lf k f]),.v (.b (hB js ms (unFB f) n m k (unC c'))))
 | _=>none
theorem ok_hb (js:Nat→J) (ms:Nat→Ms) (n m:Nat):zX Tryz.prog 38 (o_hb js ms n m):=by
 intro ps r hh
 unfold o_hb at hh
 split at hh
 ·simp only [Option.some.injEq,Prod.mk.injEq] at hh
  obtain ⟨hg,rfl⟩:=hh
  obtain ⟨bx,kk,c,e⟩:=zXK hg
  simp only [List.cons.injEq,PV.l.injEq,PV.lf.injEq,and_true] at e
  obtain ⟨rfl,rfl,rfl,rfl⟩:=e
  exact qYJ (fun _ _ _=>Sames.al (ys:=[_,_,_]) ⟨Same.refl _,Same.lf rfl,Same.refl _,trivial⟩) (snd_PH js ms _ n m _ (fun _=>_) 1)
 ·cases hh
noncomputable def o_bq:List PV→Option (Bool × Ret):=fun ps=>match ps with
 | [.lf k f]=>some (decide (k≤50) && gFQ f,.v (.lf (bif smQ (unFQ f) k then k else 0) (fB (ptB (unFQ f)))))
 | _=>none
theorem ok_bq:zX Tryz.prog 39 o_bq:=by
 intro ps r hh
 unfold o_bq at hh
 split at hh
 ·simp only [Option.some.injEq,Prod.mk.injEq,Bool.and_eq_true] at hh
  obtain ⟨⟨hk,hf⟩,rfl⟩:=hh
  rename_i k f
  have:=kJH (unFQ f) k (of_decide_eq_true hk)
  rw [← kXW hf] at this
  exact this
 ·cases hh
theorem ok_rbq:zX Tryz.prog 17 o_bq:=by
 intro ps r hh
 unfold o_bq at hh
 split at hh
 ·simp only [Option.some.injEq,Prod.mk.injEq,Bool.and_eq_true] at hh
  obtain ⟨⟨hk,hf⟩,rfl⟩:=hh
  rename_i k f
  have:=zYY (unFQ f) k (of_decide_eq_true hk)
  rw [← kXW hf] at this
  exact this
 ·cases hh
def isIm (js:Nat→J) (ms:Nat→Ms) (n m:Nat) (cs:Nat→Cn) (c:Nat) (ps:List PV):Prop:=∃ (q:Nat→Int) (k:Nat),cErr js ms n m cs c=true∧qIn js ms q n m k=true∧ps=[.a [.lf n (fJ js),.lf m (fM ms)],.lf c (fC cs),.lf k (fQ q)]
noncomputable def o_im (js:Nat→J) (ms:Nat→Ms) (n m:Nat) (cs:Nat→Cn) (c:Nat):List PV→Option (Bool × Ret):=fun ps=>match ps with
 | [r,l,.lf k f]=>some (gP (isIm js ms n m cs c [r,l,.lf k f]),.v (.lf k (fQ (impQ js ms (unFQ f) n m k cs c))))
 | _=>none
theorem ok_im (js:Nat→J) (ms:Nat→Ms) (n m:Nat) (cs:Nat→Cn) (c:Nat):zX Tryz.prog 40 (o_im js ms n m cs c):=by
 intro ps r hh
 unfold o_im at hh
 split at hh
 ·simp only [Option.some.injEq,Prod.mk.injEq] at hh
  obtain ⟨hg,rfl⟩:=hh
  obtain ⟨q,k,hc,hq,e⟩:=zXK hg
  simp only [List.cons.injEq,PV.lf.injEq,and_true] at e
  obtain ⟨rfl,rfl,rfl,rfl⟩:=e
  exact snd_imp js ms _ n m _ cs c hc hq
 ·cases hh
theorem snd_cl2 (q:Nat→Int) (k:Nat) (h:1≤k∧k≤10):yZ Tryz.prog 37 [.lf k (fQ q)] (.v (.lf k (fQ q))):=snd_ownF (yXK q k h)
def hEu (q u:Nat→Int) (k l:Nat) (i:Int):St:=⟨[(0,.v (.lf k (fQ q))),(1,.v (.lf l (fQ u))),(12,.v (.n .i64 (k:Int))),(13,.v (.n .i64 i))],[]⟩
set_option maxRecDepth 100000 in
theorem rdEu (G:St→Option (Ret × Mem)) (K:Cont) (q u:Nat→Int) (k l:Nat) (i:Int):zJY 60 (cxF T (OrL.k ([]:OrL)) 60 41 (ntmF T 41)) (ckF T (OrL.k ([]:OrL)) 60) (qW T 41 [0,1,0,1,1]) ((cxF T (OrL.k ([]:OrL)) 60 41 (ntmF T 41)).T.hint (cxF T (OrL.k ([]:OrL)) 60 41 (ntmF T 41)).me (zU (qW T 41 [0,1,0,1,1]))) K G (hEu q u k l i) =
 (bif (decide (i < (k:Int))) then (bif (inB i k) then (bif (inB i l) then (bif (!decide ((q (i).toNat)=(u (i).toNat))) then (K .ret ⟨[(4,.v (.b false))],[]⟩)
 else (G (hEu q u k l (IntKind.i64.wrap (i + 1)))))
 else none)
 else none)
 else (K (.exit 0) ⟨[],[]⟩)):=by kernel_rfl
theorem lpEu (K:Cont) (q u:Nat→Int) (k l:Nat) (hk:k≤50) (hl:k=l):LF 60 (cxF T (OrL.k ([]:OrL)) 60 41 (ntmF T 41)) (ckF T (OrL.k ([]:OrL)) 60) (qW T 41 [0,1,0,1,1]) ((cxF T (OrL.k ([]:OrL)) 60 41 (ntmF T 41)).T.hint (cxF T (OrL.k ([]:OrL)) 60 41 (ntmF T 41)).me (zU (qW T 41 [0,1,0,1,1]))) K 60 (hEu q u k l 0)=bif (allN (fun i:Nat=>decide (q i=u i)) k 0) then (K (.exit 0) ⟨[],[]⟩) else (K .ret ⟨[(4,.v (.b false))],[]⟩):=by
 refine (zYW (c:=k) (hEu q u k l) (fun i:Nat=>decide (q i=u i)) (K (.exit 0) ⟨[],[]⟩) (fun i:Nat=>(K .ret ⟨[(4,.v (.b false))],[]⟩)) (fun G i hi => ?_) (fun G => ?_) k 0 60 (by omega) (by omega)).trans (qYY _ _ _ _ _)
 ·refine (rdEu G K q u k l i).trans ?_
  rw [decide_eq_true (show (i:Int) < (k:Int) by omega),qZY (by omega),kU (show i < k by omega),kU (show i < l by omega),toN]
  cases decide (q i=u i) <;> rfl
 ·refine (rdEu G K q u k l k).trans ?_
  rw [decide_eq_false (show ¬ (k:Int) < (k:Int) by omega)]
  rfl
set_option maxRecDepth 100000 in
theorem pxeql (q u:Nat→Int) (k l:Nat):qKH T (OrL.k ([]:OrL)) (zG [([0,1,0,1,1],jK (hEu q u k l 0) (fun K=>(bif (decide (k≤50) && decide (k=l)) then (bif (allN (fun i:Nat=>decide (q i=u i)) k 0) then (K (.exit 0) ⟨[],[]⟩) else (K .ret ⟨[(4,.v (.b false))],[]⟩)) else none)))]) 60 41 [.lf k (fQ q),.lf l (fQ u)] =
 (bif (!decide ((k:Int)=(l:Int))) then some (.v (.b false),[])
 else (bif (gSt (hEu q u k l 0) (hEu q u k l 0)) then (bif (decide (k≤50) && decide (k=l)) then (bif (allN (fun i:Nat=>decide (q i=u i)) k 0) then some (.v (.b true),[])
 else some (.v (.b false),[]))
 else none)
 else none)):=by kernel_rfl
theorem snd_eql (q u:Nat→Int) (k l:Nat) (hk:k≤50):yZ Tryz.prog 41 [.lf k (fQ q),.lf l (fQ u)] (.v (.b (smB q u k l))):=by
 refine jX (N:=60) (LO:=zG [([0,1,0,1,1],jK (hEu q u k l 0) (fun K=>(bif (decide (k≤50) && decide (k=l)) then (bif (allN (fun i:Nat=>decide (q i=u i)) k 0) then (K (.exit 0) ⟨[],[]⟩) else (K .ret ⟨[(4,.v (.b false))],[]⟩)) else none)))]) yJ yY (OrL.ok (l:=([]:OrL)) trivial) (fun p S hp => ?_) ?_
 ·refine uQ (L:=qW T 41) (l:=[([0,1,0,1,1],jK (hEu q u k l 0) (fun K=>(bif (decide (k≤50) && decide (k=l)) then (bif (allN (fun i:Nat=>decide (q i=u i)) k 0) then (K (.exit 0) ⟨[],[]⟩) else (K .ret ⟨[(4,.v (.b false))],[]⟩)) else none)))]) (show AllP _ [([0,1,0,1,1],jK (hEu q u k l 0) (fun K=>(bif (decide (k≤50) && decide (k=l)) then (bif (allN (fun i:Nat=>decide (q i=u i)) k 0) then (K (.exit 0) ⟨[],[]⟩) else (K .ret ⟨[(4,.v (.b false))],[]⟩)) else none)))] from ⟨qQY fun K r hr => ?_,trivial⟩) p S hp
  ·obtain ⟨hg,hr⟩:=zZ hr
   rw [Bool.and_eq_true] at hg
   have hk:=of_decide_eq_true hg.1
   have hl:=of_decide_eq_true hg.2
   exact (lpEu K q u k l hk hl).trans hr
 ·refine (pxeql q u k l).trans ?_
  unfold smB
  by_cases e:k=l
  ·rw [kZ,decide_eq_true hk,decide_eq_true e,decide_eq_true (show (k:Int)=(l:Int) by omega)]
   cases (allN (fun i:Nat=>decide (q i=u i)) k 0) <;> rfl
  ·rw [decide_eq_false (show ¬ (k:Int)=(l:Int) by omega)]
   rfl
def kXU (ps:List PV):Prop:=∃ (q u:Nat→Int) (k l:Nat),k≤50∧ps=[.lf k (fQ q),.lf l (fQ u)]
noncomputable def kJQ:List PV→Option (Bool × Ret):=fun ps=>match ps with
 | [.lf k f,.lf l g]=>some (gP (kXU [.lf k f,.lf l g]),.v (.b (smB (unFQ f) (unFQ g) k l)))
 | _=>none
theorem ok_eq2:zX Tryz.prog 41 kJQ:=by
 intro ps r hh
 unfold kJQ at hh
 split at hh
 ·simp only [Option.some.injEq,Prod.mk.injEq] at hh
  obtain ⟨hg,rfl⟩:=hh
  obtain ⟨q,u,k,l,hk,e⟩:=zXK hg
  simp only [List.cons.injEq,PV.lf.injEq,and_true] at e
  obtain ⟨⟨rfl,rfl⟩,rfl,rfl⟩:=e
  exact snd_eql _ _ _ _ hk
 ·cases hh
noncomputable def orPa (js:Nat→J) (ms:Nat→Ms) (q:Nat→Int) (n m k:Nat) (cs:Nat→Cn) (c:Nat) (rs:Int):OrL:=[(35,o_cr [.a [.lf n (fJ js),.lf m (fM ms)],.lf c (fC cs)] (.v (.b (cErr js ms n m cs c)))),(36,o_cr [.a [.lf n (fJ js),.lf m (fM ms)],.lf k (fQ q)] (.v (.b (qIn js ms q n m k)))),(37,o_lk [.lf k (fQ q)] (decide (1≤k∧k≤10)) (.v (.lf k (fQ q)))),(39,o_bq),(38,o_hb js ms n m),(40,o_im js ms n m cs c),(41,kJQ)]
noncomputable def hPa (js:Nat→J) (ms:Nat→Ms) (q:Nat→Int) (n m k:Nat) (cs:Nat→Cn) (c:Nat) (rs:Int) (i:Int) (s:Int) (r:Nat) (p:Nat→Int):St:=⟨[(1,.v (.lf c (fC cs))),(2,.v (.lf r (fQ p))),(3,.v (.n .i64 rs)),(4,.p 4 0),(11,.v (.n .i64 s)),(40,.v (.lf c (fC cs))),(41,.v (.n .i64 (c:Int))),(42,.v (.n .i64 i))],[(4,.blk [.v (.lf n (fJ js)),.v (.lf m (fM ms))])]⟩
set_option maxRecDepth 100000 in
theorem rdPa (G:St→Option (Ret × Mem)) (K:Cont) (js:Nat→J) (ms:Nat→Ms) (q:Nat→Int) (n m k:Nat) (cs:Nat→Cn) (c:Nat) (rs:Int) (i:Int) (s:Int) (r:Nat) (p:Nat→Int):zZZ 100 (cxF Tf (OrL.k (orPa js ms q n m k cs c rs)) 100 15 (ntmF Tf 15)) (ckF Tf (OrL.k (orPa js ms q n m k cs c rs)) 100) (zG []) (qW Tf 15 [0,1,0,0,0,1,0,0,1,0,1,1,1,0,1]) [0,1,0,0,0,1,0,0,1,0,1,1,1,0,1] (Tf.hint 15 (zU (qW Tf 15 [0,1,0,0,0,1,0,0,1,0,1,1,1,0,1]))) K G (hPa js ms q n m k cs c rs i s r p) =
 (bif (decide (i < (c:Int))) then (bif (inB i c) then (bif (decide (r≤50) && gFQ (fQ p)) then (bif (gP (isHb js ms n m [.a [.lf n (fJ js),.lf m (fM ms)],.l [[.n .i64 (cs (i).toNat).kind,.n .i64 (cs (i).toNat).link,.n .i64 (cs (i).toNat).p.x,.n .i64 (cs (i).toNat).p.y,.n .i64 (cs (i).toNat).p.z,.n .i64 (cs (i).toNat).n.x,.n .i64 (cs (i).toNat).n.y,.n .i64 (cs (i).toNat).n.z,.n .i64 (cs (i).toNat).lo,.n .i64 (cs (i).toNat).hi]],.lf (bif smQ p r then r else 0) (fB (ptB p))])) then (bif (hQ js ms p n m r (cs (i).toNat)) then (G (hPa js ms q n m k cs c rs (IntKind.i64.wrap (i + 1)) s r p))
 else (bif (decide (s=rs)) then (K (.exit 0) ⟨[(1,.v (.lf c (fC cs))),(2,.v (.lf r (fQ p))),(3,.v (.n .i64 rs)),(4,.p 4 0),(11,.v (.n .i64 s))],[(4,.blk [.v (.lf n (fJ js)),.v (.lf m (fM ms))])]⟩)
 else (bif (gP (isIm js ms n m cs c [.a [.lf n (fJ js),.lf m (fM ms)],.lf c (fC cs),.lf r (fQ p)])) then (bif (gP (kXU [.lf r (fQ (impQ js ms p n m r cs c)),.lf r (fQ p)])) then (bif (smB (impQ js ms p n m r cs c) p r r) then (K (.exit 0) ⟨[(1,.v (.lf c (fC cs))),(2,.v (.lf r (fQ p))),(3,.v (.n .i64 rs)),(4,.p 4 0),(11,.v (.n .i64 s))],[(4,.blk [.v (.lf n (fJ js)),.v (.lf m (fM ms))])]⟩)
 else (K (.exit 1) ⟨[(1,.v (.lf c (fC cs))),(2,.v (.lf r (fQ (impQ js ms p n m r cs c)))),(3,.v (.n .i64 rs)),(4,.p 4 0),(11,.v (.n .i64 s))],[(4,.blk [.v (.lf n (fJ js)),.v (.lf m (fM ms))])]⟩))
 else none)
 else none)))
 else none)
 else none)
 else none)
 else (K (.exit 2) ⟨[(1,.v (.lf c (fC cs))),(2,.v (.lf r (fQ p))),(3,.v (.n .i64 rs)),(4,.p 4 0),(11,.v (.n .i64 s))],[(4,.blk [.v (.lf n (fJ js)),.v (.lf m (fM ms))])]⟩)):=by kernel_rfl
theorem lpPa (K:Cont) (js:Nat→J) (ms:Nat→Ms) (q:Nat→Int) (n m k:Nat) (cs:Nat→Cn) (c:Nat) (rs:Int) (s:Int) (p:Nat→Int) (hc:cErr js ms n m cs c=true) (hq:qIn js ms p n m k=true):LFL 100 (cxF Tf (OrL.k (orPa js ms q n m k cs c rs)) 100 15 (ntmF Tf 15)) (ckF Tf (OrL.k (orPa js ms q n m k cs c rs)) 100) (zG []) (qW Tf 15 [0,1,0,0,0,1,0,0,1,0,1,1,1,0,1]) [0,1,0,0,0,1,0,0,1,0,1,1,1,0,1] (Tf.hint 15 (zU (qW Tf 15 [0,1,0,0,0,1,0,0,1,0,1,1,1,0,1]))) K 100 (hPa js ms q n m k cs c rs 0 s k p)=(bif allH js ms p n m k cs c then (K (.exit 2) ⟨[(1,.v (.lf c (fC cs))),(2,.v (.lf k (fQ p))),(3,.v (.n .i64 rs)),(4,.p 4 0),(11,.v (.n .i64 s))],[(4,.blk [.v (.lf n (fJ js)),.v (.lf m (fM ms))])]⟩) else (bif decide (s=rs) then (K (.exit 0) ⟨[(1,.v (.lf c (fC cs))),(2,.v (.lf k (fQ p))),(3,.v (.n .i64 rs)),(4,.p 4 0),(11,.v (.n .i64 s))],[(4,.blk [.v (.lf n (fJ js)),.v (.lf m (fM ms))])]⟩) else bif smB (impQ js ms p n m k cs c) p k k then (K (.exit 0) ⟨[(1,.v (.lf c (fC cs))),(2,.v (.lf k (fQ p))),(3,.v (.n .i64 rs)),(4,.p 4 0),(11,.v (.n .i64 s))],[(4,.blk [.v (.lf n (fJ js)),.v (.lf m (fM ms))])]⟩) else (K (.exit 1) ⟨[(1,.v (.lf c (fC cs))),(2,.v (.lf k (fQ (impQ js ms p n m k cs c)))),(3,.v (.n .i64 rs)),(4,.p 4 0),(11,.v (.n .i64 s))],[(4,.blk [.v (.lf n (fJ js)),.v (.lf m (fM ms))])]⟩))):=by
 obtain ⟨h0,hn,_⟩:=zZV hq
 have h10:=qHJ h0
 obtain ⟨_,h8,_⟩:=qWW hc
 refine (zVJ (L:=LFL 100 (cxF Tf (OrL.k (orPa js ms q n m k cs c rs)) 100 15 (ntmF Tf 15)) (ckF Tf (OrL.k (orPa js ms q n m k cs c rs)) 100) (zG []) (qW Tf 15 [0,1,0,0,0,1,0,0,1,0,1,1,1,0,1]) [0,1,0,0,0,1,0,0,1,0,1,1,1,0,1] (Tf.hint 15 (zU (qW Tf 15 [0,1,0,0,0,1,0,0,1,0,1,1,1,0,1]))) K) (stp:=zZZ 100 (cxF Tf (OrL.k (orPa js ms q n m k cs c rs)) 100 15 (ntmF Tf 15)) (ckF Tf (OrL.k (orPa js ms q n m k cs c rs)) 100) (zG []) (qW Tf 15 [0,1,0,0,0,1,0,0,1,0,1,1,1,0,1]) [0,1,0,0,0,1,0,0,1,0,1,1,1,0,1] (Tf.hint 15 (zU (qW Tf 15 [0,1,0,0,0,1,0,0,1,0,1,1,1,0,1]))) K) (fun _ _=>rfl) (fun (i:Nat) (_:Unit)=>hPa js ms q n m k cs c rs (i:Int) s k p) (fun _ _=>True) (fun (i:Nat) _=>hQ js ms p n m k (cs i)) (fun _ _=>()) (c:=c) (fun _=>(K (.exit 2) ⟨[(1,.v (.lf c (fC cs))),(2,.v (.lf k (fQ p))),(3,.v (.n .i64 rs)),(4,.p 4 0),(11,.v (.n .i64 s))],[(4,.blk [.v (.lf n (fJ js)),.v (.lf m (fM ms))])]⟩)) (fun _ _=>(bif decide (s=rs) then (K (.exit 0) ⟨[(1,.v (.lf c (fC cs))),(2,.v (.lf k (fQ p))),(3,.v (.n .i64 rs)),(4,.p 4 0),(11,.v (.n .i64 s))],[(4,.blk [.v (.lf n (fJ js)),.v (.lf m (fM ms))])]⟩) else bif smB (impQ js ms p n m k cs c) p k k then (K (.exit 0) ⟨[(1,.v (.lf c (fC cs))),(2,.v (.lf k (fQ p))),(3,.v (.n .i64 rs)),(4,.p 4 0),(11,.v (.n .i64 s))],[(4,.blk [.v (.lf n (fJ js)),.v (.lf m (fM ms))])]⟩) else (K (.exit 1) ⟨[(1,.v (.lf c (fC cs))),(2,.v (.lf k (fQ (impQ js ms p n m k cs c)))),(3,.v (.n .i64 rs)),(4,.p 4 0),(11,.v (.n .i64 s))],[(4,.blk [.v (.lf n (fJ js)),.v (.lf m (fM ms))])]⟩))) (fun G i _ hi _ => ?_) (fun _ _ _ _ _=>trivial) (fun G _ _ => ?_) c 0 100 () (by omega) (by omega) trivial).trans ((runS_unit _ _ _ _ _).trans (qYY _ _ _ _ _))
 ·refine (rdPa G K js ms q n m k cs c rs i s k p).trans ?_
  have hf:gFQ (fQ p)=true:=(kZW rfl).1
  have e1:gP (isHb js ms n m [.a [.lf n (fJ js),.lf m (fM ms)],.l [[.n .i64 (cs i).kind,.n .i64 (cs i).link,.n .i64 (cs i).p.x,.n .i64 (cs i).p.y,.n .i64 (cs i).p.z,.n .i64 (cs i).n.x,.n .i64 (cs i).n.y,.n .i64 (cs i).n.z,.n .i64 (cs i).lo,.n .i64 (cs i).hi]],.lf (bif smQ p k then k else 0) (fB (ptB p))])=true:=jJV ⟨ptB p,_,cs i,rfl⟩
  have e2:gP (isIm js ms n m cs c [.a [.lf n (fJ js),.lf m (fM ms)],.lf c (fC cs),.lf k (fQ p)])=true:=jJV ⟨p,k,hc,hq,rfl⟩
  have e3:gP (kXU [.lf k (fQ (impQ js ms p n m k cs c)),.lf k (fQ p)])=true:=jJV ⟨_,_,k,k,by omega,rfl⟩
  simp only [decide_eq_true (show (i:Int) < (c:Int) by omega),qZY (show i < 1000000 by omega),kU (show i < c by omega),toN,cond_true,decide_eq_true (show k≤50 by omega),hf,Bool.and_self]
  rw [e1,e2,e3,cond_true]
  rfl
 ·refine (rdPa G K js ms q n m k cs c rs c s k p).trans ?_
  rw [decide_eq_false (show ¬ (c:Int) < (c:Int) by omega)]
  rfl
noncomputable def lfI (σ:St) (k:Nat):Nat→Int:=match qYZ σ.S k with
 | some (.v (.lf _ f))=>unFQ f
 | _=>fun _=>0
theorem okPa (js:Nat→J) (ms:Nat→Ms) (q:Nat→Int) (n m k:Nat) (cs:Nat→Cn) (c:Nat) (rs:Int):∀ p S,zG [([0,1,0,0,0,1,0,0,1,0,1,1,1,0,1],sumF (fun t:Int × (Nat→Int)=>(hPa js ms q n m k cs c rs 0 t.1 k t.2)) (fun σ=>(slI σ 11,lfI σ 2)) (fun t K=>(bif (cErr js ms n m cs c && qIn js ms t.2 n m k) then (bif allH js ms t.2 n m k cs c then (K (.exit 2) ⟨[(1,.v (.lf c (fC cs))),(2,.v (.lf k (fQ t.2))),(3,.v (.n .i64 rs)),(4,.p 4 0),(11,.v (.n .i64 t.1))],[(4,.blk [.v (.lf n (fJ js)),.v (.lf m (fM ms))])]⟩) else (bif decide (t.1=rs) then (K (.exit 0) ⟨[(1,.v (.lf c (fC cs))),(2,.v (.lf k (fQ t.2))),(3,.v (.n .i64 rs)),(4,.p 4 0),(11,.v (.n .i64 t.1))],[(4,.blk [.v (.lf n (fJ js)),.v (.lf m (fM ms))])]⟩) else bif smB (impQ js ms t.2 n m k cs c) t.2 k k then (K (.exit 0) ⟨[(1,.v (.lf c (fC cs))),(2,.v (.lf k (fQ t.2))),(3,.v (.n .i64 rs)),(4,.p 4 0),(11,.v (.n .i64 t.1))],[(4,.blk [.v (.lf n (fJ js)),.v (.lf m (fM ms))])]⟩) else (K (.exit 1) ⟨[(1,.v (.lf c (fC cs))),(2,.v (.lf k (fQ (impQ js ms t.2 n m k cs c)))),(3,.v (.n .i64 rs)),(4,.p 4 0),(11,.v (.n .i64 t.1))],[(4,.blk [.v (.lf n (fJ js)),.v (.lf m (fM ms))])]⟩))) else none)))] p=some S→qHZ 100 (cxF Tf (OrL.k (orPa js ms q n m k cs c rs)) 100 15 (ntmF Tf 15)) (qW Tf 15 p) S:=fun p S hp=>by
 refine qJH (L:=qW Tf 15) (l:=[([0,1,0,0,0,1,0,0,1,0,1,1,1,0,1],sumF (fun t:Int × (Nat→Int)=>(hPa js ms q n m k cs c rs 0 t.1 k t.2)) (fun σ=>(slI σ 11,lfI σ 2)) (fun t K=>(bif (cErr js ms n m cs c && qIn js ms t.2 n m k) then (bif allH js ms t.2 n m k cs c then (K (.exit 2) ⟨[(1,.v (.lf c (fC cs))),(2,.v (.lf k (fQ t.2))),(3,.v (.n .i64 rs)),(4,.p 4 0),(11,.v (.n .i64 t.1))],[(4,.blk [.v (.lf n (fJ js)),.v (.lf m (fM ms))])]⟩) else (bif decide (t.1=rs) then (K (.exit 0) ⟨[(1,.v (.lf c (fC cs))),(2,.v (.lf k (fQ t.2))),(3,.v (.n .i64 rs)),(4,.p 4 0),(11,.v (.n .i64 t.1))],[(4,.blk [.v (.lf n (fJ js)),.v (.lf m (fM ms))])]⟩) else bif smB (impQ js ms t.2 n m k cs c) t.2 k k then (K (.exit 0) ⟨[(1,.v (.lf c (fC cs))),(2,.v (.lf k (fQ t.2))),(3,.v (.n .i64 rs)),(4,.p 4 0),(11,.v (.n .i64 t.1))],[(4,.blk [.v (.lf n (fJ js)),.v (.lf m (fM ms))])]⟩) else (K (.exit 1) ⟨[(1,.v (.lf c (fC cs))),(2,.v (.lf k (fQ (impQ js ms t.2 n m k cs c)))),(3,.v (.n .i64 rs)),(4,.p 4 0),(11,.v (.n .i64 t.1))],[(4,.blk [.v (.lf n (fJ js)),.v (.lf m (fM ms))])]⟩))) else none)))]) ⟨?_,trivial⟩ p S hp
 dsimp only
 refine zYZ (T:=Tf) (ok:=(OrL.k (orPa js ms q n m k cs c rs))) (f:=15) (LO:=zG []) (p:=[0,1,0,0,0,1,0,0,1,0,1,1,1,0,1]) zUH ?_
 intro t K r hr
 obtain ⟨hg,hr⟩:=zZ hr
 rw [Bool.and_eq_true] at hg
 exact (lpPa K js ms q n m k cs c rs t.1 t.2 hg.1 hg.2).trans hr
noncomputable def hPo (js:Nat→J) (ms:Nat→Ms) (q:Nat→Int) (n m k:Nat) (cs:Nat→Cn) (c:Nat) (rs:Int) (s:Int) (p:Nat→Int):St:=⟨[(1,.v (.lf c (fC cs))),(2,.v (.lf k (fQ p))),(3,.v (.n .i64 rs)),(4,.p 4 0),(11,.v (.n .i64 s))],[(4,.blk [.v (.lf n (fJ js)),.v (.lf m (fM ms))])]⟩
set_option maxRecDepth 100000 in
theorem rdPo (G:St→Option (Ret × Mem)) (K:Cont) (js:Nat→J) (ms:Nat→Ms) (q:Nat→Int) (n m k:Nat) (cs:Nat→Cn) (c:Nat) (rs:Int) (s:Int) (p:Nat→Int):zZZ 100 (cxF Tf (OrL.k (orPa js ms q n m k cs c rs)) 100 15 (ntmF Tf 15)) (ckF Tf (OrL.k (orPa js ms q n m k cs c rs)) 100) (zG [([0,1,0,0,0,1,0,0,1,0,1,1,1,0,1],sumF (fun t:Int × (Nat→Int)=>(hPa js ms q n m k cs c rs 0 t.1 k t.2)) (fun σ=>(slI σ 11,lfI σ 2)) (fun t K=>(bif (cErr js ms n m cs c && qIn js ms t.2 n m k) then (bif allH js ms t.2 n m k cs c then (K (.exit 2) ⟨[(1,.v (.lf c (fC cs))),(2,.v (.lf k (fQ t.2))),(3,.v (.n .i64 rs)),(4,.p 4 0),(11,.v (.n .i64 t.1))],[(4,.blk [.v (.lf n (fJ js)),.v (.lf m (fM ms))])]⟩) else (bif decide (t.1=rs) then (K (.exit 0) ⟨[(1,.v (.lf c (fC cs))),(2,.v (.lf k (fQ t.2))),(3,.v (.n .i64 rs)),(4,.p 4 0),(11,.v (.n .i64 t.1))],[(4,.blk [.v (.lf n (fJ js)),.v (.lf m (fM ms))])]⟩) else bif smB (impQ js ms t.2 n m k cs c) t.2 k k then (K (.exit 0) ⟨[(1,.v (.lf c (fC cs))),(2,.v (.lf k (fQ t.2))),(3,.v (.n .i64 rs)),(4,.p 4 0),(11,.v (.n .i64 t.1))],[(4,.blk [.v (.lf n (fJ js)),.v (.lf m (fM ms))])]⟩) else (K (.exit 1) ⟨[(1,.v (.lf c (fC cs))),(2,.v (.lf k (fQ (impQ js ms t.2 n m k cs c)))),(3,.v (.n .i64 rs)),(4,.p 4 0),(11,.v (.n .i64 t.1))],[(4,.blk [.v (.lf n (fJ js)),.v (.lf m (fM ms))])]⟩))) else none)))]) (qW Tf 15 [0,1,0,1,1,1,0,1]) [0,1,0,1,1,1,0,1] (Tf.hint 15 (zU (qW Tf 15 [0,1,0,1,1,1,0,1]))) K G (hPo js ms q n m k cs c rs s p) =
 (bif (decide (s≤rs)) then (bif (gSt (hPa js ms q n m k cs c rs 0 s k p) (hPa js ms q n m k cs c rs 0 s k p)) then (bif (cErr js ms n m cs c && qIn js ms p n m k) then (bif (allH js ms p n m k cs c) then (K .ret ⟨[(3,.v (.n .i64 rs)),(8,.v (.lf k (fQ p))),(9,.v (.n .i64 s)),(10,.v (.b true))],[]⟩)
 else (bif (decide (s=rs)) then (K (.exit 0) ⟨[(3,.v (.n .i64 rs))],[]⟩)
 else (bif (smB (impQ js ms p n m k cs c) p k k) then (K (.exit 0) ⟨[(3,.v (.n .i64 rs))],[]⟩)
 else (G (hPo js ms q n m k cs c rs (IntKind.i64.wrap (s + 1)) (impQ js ms p n m k cs c))))))
 else none)
 else none)
 else (K (.exit 0) ⟨[(3,.v (.n .i64 rs))],[]⟩)):=by kernel_rfl
noncomputable def prj (js:Nat→J) (ms:Nat→Ms) (n m k:Nat) (cs:Nat→Cn) (c:Nat):Nat→Nat→(Nat→Int)→Option (Nat × (Nat→Int))
 | 0,j,p=>bif allH js ms p n m k cs c then some (j,p) else none
 | r + 1,j,p=>bif allH js ms p n m k cs c then some (j,p) else prj js ms n m k cs c r (j + 1) (impQ js ms p n m k cs c)
theorem prj_stuck {js:Nat→J} {ms:Nat→Ms} {n m k:Nat} {cs:Nat→Cn} {c:Nat} {p:Nat→Int} (h:allH js ms p n m k cs c=false) (e:impQ js ms p n m k cs c=p):∀ r j,prj js ms n m k cs c r j p=none
 | 0,j=>by rw [prj,h]; rfl
 | r + 1,j=>by
  rw [prj,h,cond_false,e]
  exact prj_stuck h e r (j + 1)
theorem iterS_inv {τ:Type} {nx:Nat→τ→τ} {Q:Nat→τ→Prop} {c:Nat} (h:∀ i s,i < c→Q i s→Q (i + 1) (nx i s)):∀ r p s,p + r=c→Q p s→Q c (jXK nx r p s)
 | 0,p,s,hp,hq=>by
  obtain rfl:p=c:=by omega
  exact hq
 | r + 1,p,s,hp,hq=>iterS_inv h r (p + 1) (nx p s) (by omega) (h p s (by omega) hq)
theorem kZX {js:Nat→J} {ms:Nat→Ms} {p:Nat→Int} {n m k:Nat} {cs:Nat→Cn} {c:Nat} (hc:cErr js ms n m cs c=true) (hq:qIn js ms p n m k=true) (hn:nrm' k p=p):qIn js ms (impQ js ms p n m k cs c) n m k=true∧nrm' k (impQ js ms p n m k cs c)=impQ js ms p n m k cs c :=
 iterS_inv (Q:=fun _ p=>qIn js ms p n m k=true∧nrm' k p=p) (c:=c) (fun i s hi h=>⟨stN_in (kKU hc h.1 hi),nrm_idem _ _⟩) c 0 p (by omega) ⟨hq,hn⟩
theorem smB_eq {k:Nat} {p u:Nat→Int} (h:smB p u k k=true) (hp:nrm' k p=p) (hu:nrm' k u=u):p=u:=by
 unfold smB at h
 rw [Bool.and_eq_true] at h
 rw [← hp,← hu]
 exact nrm_ext fun i hi=>of_decide_eq_true (allN_iff.1 h.2 i (Nat.zero_le _) (by omega))
noncomputable def dcP (js:Nat→J) (ms:Nat→Ms) (n m k:Nat) (cs:Nat→Cn) (c N:Nat):Nat × (Nat→Int)→(Nat × (Nat→Int)) ⊕ Option (Nat × (Nat→Int)):=fun x =>
 match allH js ms x.2 n m k cs c,decide (x.1=N),smB (impQ js ms x.2 n m k cs c) x.2 k k with
 | true,_,_=>.inr (some x)
 | false,true,_=>.inr none
 | false,false,true=>.inr none
 | false,false,false=>.inl (x.1 + 1,impQ js ms x.2 n m k cs c)
theorem iter_P {js:Nat→J} {ms:Nat→Ms} {n m k:Nat} {cs:Nat→Cn} {c N:Nat} (hc:cErr js ms n m cs c=true):∀ r j f p,j + r=N→r < f→qIn js ms p n m k=true→nrm' k p=p→kJJ (dcP js ms n m k cs c N) f (j,p)=some (prj js ms n m k cs c r j p)
 | 0,j,f + 1,p,hj,_,hq,hn=>by
  rw [kJJ,prj]
  unfold dcP
  dsimp only
  rw [decide_eq_true (show j=N by omega)]
  cases allH js ms p n m k cs c <;> rfl
 | r + 1,j,f + 1,p,hj,hf,hq,hn=>by
  obtain ⟨h1,h2⟩:=kZX hc hq hn
  rw [kJJ,prj]
  unfold dcP
  dsimp only
  rw [decide_eq_false (show ¬ j=N by omega)]
  cases h:allH js ms p n m k cs c with
  | true=>rfl
  | false =>
   cases e:smB (impQ js ms p n m k cs c) p k k with
   | true =>
    show some none=some _
    rw [cond_false,smB_eq e h2 hn,prj_stuck h (smB_eq e h2 hn)]
   | false=>exact iter_P hc r (j + 1) f _ (by omega) (by omega) h1 h2
theorem lpPo (K:Cont) (js:Nat→J) (ms:Nat→Ms) (q:Nat→Int) (n m k:Nat) (cs:Nat→Cn) (c:Nat) (rs:Int) (hc:cErr js ms n m cs c=true) (hq:qIn js ms q n m k=true) (hn:nrm' k q=q) (hr:0≤rs∧rs≤64):LFL 100 (cxF Tf (OrL.k (orPa js ms q n m k cs c rs)) 100 15 (ntmF Tf 15)) (ckF Tf (OrL.k (orPa js ms q n m k cs c rs)) 100) (zG [([0,1,0,0,0,1,0,0,1,0,1,1,1,0,1],sumF (fun t:Int × (Nat→Int)=>(hPa js ms q n m k cs c rs 0 t.1 k t.2)) (fun σ=>(slI σ 11,lfI σ 2)) (fun t K=>(bif (cErr js ms n m cs c && qIn js ms t.2 n m k) then (bif allH js ms t.2 n m k cs c then (K (.exit 2) ⟨[(1,.v (.lf c (fC cs))),(2,.v (.lf k (fQ t.2))),(3,.v (.n .i64 rs)),(4,.p 4 0),(11,.v (.n .i64 t.1))],[(4,.blk [.v (.lf n (fJ js)),.v (.lf m (fM ms))])]⟩) else (bif decide (t.1=rs) then (K (.exit 0) ⟨[(1,.v (.lf c (fC cs))),(2,.v (.lf k (fQ t.2))),(3,.v (.n .i64 rs)),(4,.p 4 0),(11,.v (.n .i64 t.1))],[(4,.blk [.v (.lf n (fJ js)),.v (.lf m (fM ms))])]⟩) else bif smB (impQ js ms t.2 n m k cs c) t.2 k k then (K (.exit 0) ⟨[(1,.v (.lf c (fC cs))),(2,.v (.lf k (fQ t.2))),(3,.v (.n .i64 rs)),(4,.p 4 0),(11,.v (.n .i64 t.1))],[(4,.blk [.v (.lf n (fJ js)),.v (.lf m (fM ms))])]⟩) else (K (.exit 1) ⟨[(1,.v (.lf c (fC cs))),(2,.v (.lf k (fQ (impQ js ms t.2 n m k cs c)))),(3,.v (.n .i64 rs)),(4,.p 4 0),(11,.v (.n .i64 t.1))],[(4,.blk [.v (.lf n (fJ js)),.v (.lf m (fM ms))])]⟩))) else none)))]) (qW Tf 15 [0,1,0,1,1,1,0,1]) [0,1,0,1,1,1,0,1] (Tf.hint 15 (zU (qW Tf 15 [0,1,0,1,1,1,0,1]))) K 100 (hPo js ms q n m k cs c rs 0 q)=(match prj js ms n m k cs c rs.toNat 0 q with | some x=>(K .ret ⟨[(3,.v (.n .i64 rs)),(8,.v (.lf k (fQ x.2))),(9,.v (.n .i64 (x.1:Int))),(10,.v (.b true))],[]⟩) | none=>(K (.exit 0) ⟨[(3,.v (.n .i64 rs))],[]⟩)):=by
 have hN:(rs.toNat:Int)=rs:=by omega
 have h:=lp_gen (L:=LFL 100 (cxF Tf (OrL.k (orPa js ms q n m k cs c rs)) 100 15 (ntmF Tf 15)) (ckF Tf (OrL.k (orPa js ms q n m k cs c rs)) 100) (zG [([0,1,0,0,0,1,0,0,1,0,1,1,1,0,1],sumF (fun t:Int × (Nat→Int)=>(hPa js ms q n m k cs c rs 0 t.1 k t.2)) (fun σ=>(slI σ 11,lfI σ 2)) (fun t K=>(bif (cErr js ms n m cs c && qIn js ms t.2 n m k) then (bif allH js ms t.2 n m k cs c then (K (.exit 2) ⟨[(1,.v (.lf c (fC cs))),(2,.v (.lf k (fQ t.2))),(3,.v (.n .i64 rs)),(4,.p 4 0),(11,.v (.n .i64 t.1))],[(4,.blk [.v (.lf n (fJ js)),.v (.lf m (fM ms))])]⟩) else (bif decide (t.1=rs) then (K (.exit 0) ⟨[(1,.v (.lf c (fC cs))),(2,.v (.lf k (fQ t.2))),(3,.v (.n .i64 rs)),(4,.p 4 0),(11,.v (.n .i64 t.1))],[(4,.blk [.v (.lf n (fJ js)),.v (.lf m (fM ms))])]⟩) else bif smB (impQ js ms t.2 n m k cs c) t.2 k k then (K (.exit 0) ⟨[(1,.v (.lf c (fC cs))),(2,.v (.lf k (fQ t.2))),(3,.v (.n .i64 rs)),(4,.p 4 0),(11,.v (.n .i64 t.1))],[(4,.blk [.v (.lf n (fJ js)),.v (.lf m (fM ms))])]⟩) else (K (.exit 1) ⟨[(1,.v (.lf c (fC cs))),(2,.v (.lf k (fQ (impQ js ms t.2 n m k cs c)))),(3,.v (.n .i64 rs)),(4,.p 4 0),(11,.v (.n .i64 t.1))],[(4,.blk [.v (.lf n (fJ js)),.v (.lf m (fM ms))])]⟩))) else none)))]) (qW Tf 15 [0,1,0,1,1,1,0,1]) [0,1,0,1,1,1,0,1] (Tf.hint 15 (zU (qW Tf 15 [0,1,0,1,1,1,0,1]))) K) (stp:=zZZ 100 (cxF Tf (OrL.k (orPa js ms q n m k cs c rs)) 100 15 (ntmF Tf 15)) (ckF Tf (OrL.k (orPa js ms q n m k cs c rs)) 100) (zG [([0,1,0,0,0,1,0,0,1,0,1,1,1,0,1],sumF (fun t:Int × (Nat→Int)=>(hPa js ms q n m k cs c rs 0 t.1 k t.2)) (fun σ=>(slI σ 11,lfI σ 2)) (fun t K=>(bif (cErr js ms n m cs c && qIn js ms t.2 n m k) then (bif allH js ms t.2 n m k cs c then (K (.exit 2) ⟨[(1,.v (.lf c (fC cs))),(2,.v (.lf k (fQ t.2))),(3,.v (.n .i64 rs)),(4,.p 4 0),(11,.v (.n .i64 t.1))],[(4,.blk [.v (.lf n (fJ js)),.v (.lf m (fM ms))])]⟩) else (bif decide (t.1=rs) then (K (.exit 0) ⟨[(1,.v (.lf c (fC cs))),(2,.v (.lf k (fQ t.2))),(3,.v (.n .i64 rs)),(4,.p 4 0),(11,.v (.n .i64 t.1))],[(4,.blk [.v (.lf n (fJ js)),.v (.lf m (fM ms))])]⟩) else bif smB (impQ js ms t.2 n m k cs c) t.2 k k then (K (.exit 0) ⟨[(1,.v (.lf c (fC cs))),(2,.v (.lf k (fQ t.2))),(3,.v (.n .i64 rs)),(4,.p 4 0),(11,.v (.n .i64 t.1))],[(4,.blk [.v (.lf n (fJ js)),.v (.lf m (fM ms))])]⟩) else (K (.exit 1) ⟨[(1,.v (.lf c (fC cs))),(2,.v (.lf k (fQ (impQ js ms t.2 n m k cs c)))),(3,.v (.n .i64 rs)),(4,.p 4 0),(11,.v (.n .i64 t.1))],[(4,.blk [.v (.lf n (fJ js)),.v (.lf m (fM ms))])]⟩))) else none)))]) (qW Tf 15 [0,1,0,1,1,1,0,1]) [0,1,0,1,1,1,0,1] (Tf.hint 15 (zU (qW Tf 15 [0,1,0,1,1,1,0,1]))) K) (fun _ _=>rfl) (fun _=>rfl) (fun x:Nat × (Nat→Int)=>hPo js ms q n m k cs c rs (x.1:Int) x.2) (fun x=>qIn js ms x.2 n m k=true∧nrm' k x.2=x.2∧x.1≤rs.toNat) (dcP js ms n m k cs c rs.toNat) (fun y=>match y with | some x=>(K .ret ⟨[(3,.v (.n .i64 rs)),(8,.v (.lf k (fQ x.2))),(9,.v (.n .i64 (x.1:Int))),(10,.v (.b true))],[]⟩) | none=>(K (.exit 0) ⟨[(3,.v (.n .i64 rs))],[]⟩)) (fun G x hx => ?_) (fun x y hx hd => ?_) 100 (0,q) ⟨hq,hn,Nat.zero_le _⟩
 ·refine h.trans ?_
  rw [iter_P hc rs.toNat 0 100 q (by omega) (by omega) hq hn]
  rfl
 ·obtain ⟨j,p⟩:=x
  obtain ⟨h1,h2,h3⟩:=hx
  refine (rdPo G K js ms q n m k cs c rs j p).trans ?_
  dsimp only at h1 h2 h3
  rw [decide_eq_true (show (j:Int)≤rs by omega),cond_true,kZ,cond_true,hc,h1]
  unfold dcP
  dsimp only
  by_cases e:j=rs.toNat
  ·rw [decide_eq_true e,decide_eq_true (show (j:Int)=rs by omega)]
   cases allH js ms p n m k cs c <;> rfl
  ·rw [decide_eq_false e,decide_eq_false (show ¬ (j:Int)=rs by omega),qZY (show j < 1000000 by omega)]
   cases allH js ms p n m k cs c <;> cases smB (impQ js ms p n m k cs c) p k k <;> rfl
 ·obtain ⟨j,p⟩:=x
  obtain ⟨h1,h2,h3⟩:=hx
  unfold dcP at hd
  dsimp only at h1 h2 h3 hd
  split at hd
  ·cases hd
  ·cases hd
  ·cases hd
  ·rename_i hx hy hz
   cases hd
   have:=of_decide_eq_false hy
   exact ⟨(kZX hc h1 h2).1,(kZX hc h1 h2).2,by show j + 1≤_; omega⟩
noncomputable def pjO (js:Nat→J) (ms:Nat→Ms) (q:Nat→Int) (n m k:Nat) (cs:Nat→Cn) (c:Nat) (rs:Int):Bool:=(prj js ms n m k cs c rs.toNat 0 q).isSome
noncomputable def pjJ (js:Nat→J) (ms:Nat→Ms) (q:Nat→Int) (n m k:Nat) (cs:Nat→Cn) (c:Nat) (rs:Int):Int:=match prj js ms n m k cs c rs.toNat 0 q with
 | some x=>(x.1:Int)
 | none=>0
noncomputable def pjP (js:Nat→J) (ms:Nat→Ms) (q:Nat→Int) (n m k:Nat) (cs:Nat→Cn) (c:Nat) (rs:Int):Nat→Int:=match prj js ms n m k cs c rs.toNat 0 q with
 | some x=>x.2
 | none=>fun _=>0
theorem lpPo' (K:Cont) (js:Nat→J) (ms:Nat→Ms) (q:Nat→Int) (n m k:Nat) (cs:Nat→Cn) (c:Nat) (rs:Int) (hc:cErr js ms n m cs c=true) (hq:qIn js ms q n m k=true) (hn:nrm' k q=q) (hr:0≤rs∧rs≤64):LFL 100 (cxF Tf (OrL.k (orPa js ms q n m k cs c rs)) 100 15 (ntmF Tf 15)) (ckF Tf (OrL.k (orPa js ms q n m k cs c rs)) 100) (zG [([0,1,0,0,0,1,0,0,1,0,1,1,1,0,1],sumF (fun t:Int × (Nat→Int)=>(hPa js ms q n m k cs c rs 0 t.1 k t.2)) (fun σ=>(slI σ 11,lfI σ 2)) (fun t K=>(bif (cErr js ms n m cs c && qIn js ms t.2 n m k) then (bif allH js ms t.2 n m k cs c then (K (.exit 2) ⟨[(1,.v (.lf c (fC cs))),(2,.v (.lf k (fQ t.2))),(3,.v (.n .i64 rs)),(4,.p 4 0),(11,.v (.n .i64 t.1))],[(4,.blk [.v (.lf n (fJ js)),.v (.lf m (fM ms))])]⟩) else (bif decide (t.1=rs) then (K (.exit 0) ⟨[(1,.v (.lf c (fC cs))),(2,.v (.lf k (fQ t.2))),(3,.v (.n .i64 rs)),(4,.p 4 0),(11,.v (.n .i64 t.1))],[(4,.blk [.v (.lf n (fJ js)),.v (.lf m (fM ms))])]⟩) else bif smB (impQ js ms t.2 n m k cs c) t.2 k k then (K (.exit 0) ⟨[(1,.v (.lf c (fC cs))),(2,.v (.lf k (fQ t.2))),(3,.v (.n .i64 rs)),(4,.p 4 0),(11,.v (.n .i64 t.1))],[(4,.blk [.v (.lf n (fJ js)),.v (.lf m (fM ms))])]⟩) else (K (.exit 1) ⟨[(1,.v (.lf c (fC cs))),(2,.v (.lf k (fQ (impQ js ms t.2 n m k cs c)))),(3,.v (.n .i64 rs)),(4,.p 4 0),(11,.v (.n .i64 t.1))],[(4,.blk [.v (.lf n (fJ js)),.v (.lf m (fM ms))])]⟩))) else none)))]) (qW Tf 15 [0,1,0,1,1,1,0,1]) [0,1,0,1,1,1,0,1] (Tf.hint 15 (zU (qW Tf 15 [0,1,0,1,1,1,0,1]))) K 100 (hPo js ms q n m k cs c rs 0 q)=bif pjO js ms q n m k cs c rs then (K .ret ⟨[(3,.v (.n .i64 rs)),(8,.v (.lf k (fQ (pjP js ms q n m k cs c rs)))),(9,.v (.n .i64 (pjJ js ms q n m k cs c rs))),(10,.v (.b true))],[]⟩) else (K (.exit 0) ⟨[(3,.v (.n .i64 rs))],[]⟩):=by
 rw [lpPo K js ms q n m k cs c rs hc hq hn hr]
 unfold pjO pjJ pjP
 cases prj js ms n m k cs c rs.toNat 0 q <;> rfl
noncomputable def kZK (js:Nat→J) (ms:Nat→Ms) (q:Nat→Int) (n m k:Nat) (cs:Nat→Cn) (c:Nat) (rs:Int):List (List Nat × qWG):=[([0,1,0,1,1,1,0,1],sumF (fun _:Unit=>(hPo js ms q n m k cs c rs 0 q)) (fun _=>()) (fun _ K=>(bif (gP (cErr js ms n m cs c=true∧qIn js ms q n m k=true∧nrm' k q=q∧0≤rs∧rs≤64)) then (bif pjO js ms q n m k cs c rs then (K .ret ⟨[(3,.v (.n .i64 rs)),(8,.v (.lf k (fQ (pjP js ms q n m k cs c rs)))),(9,.v (.n .i64 (pjJ js ms q n m k cs c rs))),(10,.v (.b true))],[]⟩) else (K (.exit 0) ⟨[(3,.v (.n .i64 rs))],[]⟩)) else none)))]
set_option maxRecDepth 100000 in
theorem pxprj0 (js:Nat→J) (ms:Nat→Ms) (q:Nat→Int) (n m k:Nat) (cs:Nat→Cn) (c:Nat) (rs:Int):qKH Tf (OrL.k (orPa js ms q n m k cs c rs)) (zG (kZK js ms q n m k cs c rs)) 100 15 [.a [.lf n (fJ js),.lf m (fM ms)],.lf c (fC cs),.lf k (fQ q),.n .i64 rs] =
 (bif (g1 [.a [.lf n (fJ js),.lf m (fM ms)],.lf c (fC cs)]) then (bif (cErr js ms n m cs c) then (bif (g1 [.a [.lf n (fJ js),.lf m (fM ms)],.lf k (fQ q)]) then (bif (qIn js ms q n m k) then (bif (decide (rs < 0)) then some (.v (.t [.l [],.n .i64 0,.b false]),[])
 else (bif (decide (64 < rs)) then some (.v (.t [.l [],.n .i64 0,.b false]),[])
 else (bif (g1 [.lf k (fQ q)] && decide (1≤k∧k≤10)) then (bif (gSt (hPo js ms q n m k cs c rs 0 q) (hPo js ms q n m k cs c rs 0 q)) then (bif (gP (cErr js ms n m cs c=true∧qIn js ms q n m k=true∧nrm' k q=q∧0≤rs∧rs≤64)) then (bif (pjO js ms q n m k cs c rs) then some (.v (.t [.lf k (fQ (pjP js ms q n m k cs c rs)),.n .i64 (pjJ js ms q n m k cs c rs),.b true]),[])
 else some (.v (.t [.l [],.n .i64 rs,.b false]),[]))
 else none)
 else none)
 else none)))
 else some (.v (.t [.l [],.n .i64 0,.b false]),[]))
 else none)
 else some (.v (.t [.l [],.n .i64 0,.b false]),[]))
 else none):=by kernel_rfl
theorem snd_prj0 (js:Nat→J) (ms:Nat→Ms) (q:Nat→Int) (n m k:Nat) (cs:Nat→Cn) (c:Nat) (rs:Int) (hn:nrm' k q=q):yZ Tryz.prog 15 [.a [.lf n (fJ js),.lf m (fM ms)],.lf c (fC cs),.lf k (fQ q),.n .i64 rs] (bif (cErr js ms n m cs c && qIn js ms q n m k) && decide (0≤rs∧rs≤64) then (bif pjO js ms q n m k cs c rs then .v (.t [.lf k (fQ (pjP js ms q n m k cs c rs)),.n .i64 (pjJ js ms q n m k cs c rs),.b true]) else .v (.t [.l [],.n .i64 rs,.b false])) else .v (.t [.l [],.n .i64 0,.b false])):=by
 refine qKK (N:=100) (LO:=zG (kZK js ms q n m k cs c rs)) yKQ yY (OrL.ok (l:=(orPa js ms q n m k cs c rs)) ⟨qYW (kKQ js ms n m cs c),qYW (snd_qIn js ms q n m k),qVQ (fun h=>snd_cl2 q k (of_decide_eq_true h)),ok_bq,ok_hb js ms n m,ok_im js ms n m cs c,ok_eq2,trivial⟩) (fun p S hp => ?_) ?_
 ·refine qJH (L:=qW Tf 15) (l:=(kZK js ms q n m k cs c rs)) (show AllP _ (kZK js ms q n m k cs c rs) from ⟨?_,trivial⟩) p S hp
  ·dsimp only
   refine zYZ (T:=Tf) (ok:=(OrL.k (orPa js ms q n m k cs c rs))) (f:=15) (LO:=(zG [([0,1,0,0,0,1,0,0,1,0,1,1,1,0,1],sumF (fun t:Int × (Nat→Int)=>(hPa js ms q n m k cs c rs 0 t.1 k t.2)) (fun σ=>(slI σ 11,lfI σ 2)) (fun t K=>(bif (cErr js ms n m cs c && qIn js ms t.2 n m k) then (bif allH js ms t.2 n m k cs c then (K (.exit 2) ⟨[(1,.v (.lf c (fC cs))),(2,.v (.lf k (fQ t.2))),(3,.v (.n .i64 rs)),(4,.p 4 0),(11,.v (.n .i64 t.1))],[(4,.blk [.v (.lf n (fJ js)),.v (.lf m (fM ms))])]⟩) else (bif decide (t.1=rs) then (K (.exit 0) ⟨[(1,.v (.lf c (fC cs))),(2,.v (.lf k (fQ t.2))),(3,.v (.n .i64 rs)),(4,.p 4 0),(11,.v (.n .i64 t.1))],[(4,.blk [.v (.lf n (fJ js)),.v (.lf m (fM ms))])]⟩) else bif smB (impQ js ms t.2 n m k cs c) t.2 k k then (K (.exit 0) ⟨[(1,.v (.lf c (fC cs))),(2,.v (.lf k (fQ t.2))),(3,.v (.n .i64 rs)),(4,.p 4 0),(11,.v (.n .i64 t.1))],[(4,.blk [.v (.lf n (fJ js)),.v (.lf m (fM ms))])]⟩) else (K (.exit 1) ⟨[(1,.v (.lf c (fC cs))),(2,.v (.lf k (fQ (impQ js ms t.2 n m k cs c)))),(3,.v (.n .i64 rs)),(4,.p 4 0),(11,.v (.n .i64 t.1))],[(4,.blk [.v (.lf n (fJ js)),.v (.lf m (fM ms))])]⟩))) else none)))])) (p:=[0,1,0,1,1,1,0,1]) (okPa js ms q n m k cs c rs) ?_
   intro _ K r hr
   obtain ⟨hg,hr⟩:=zZ hr
   have hg:=zXK hg
   exact (lpPo' K js ms q n m k cs c rs hg.1 hg.2.1 hg.2.2.1 hg.2.2.2).trans hr
 ·refine (pxprj0 js ms q n m k cs c rs).trans ?_
  by_cases hr0:rs < 0
  ·rw [decide_eq_false (show ¬ (0≤rs∧rs≤64) by omega),Bool.and_false]
   simp only [g1_t,decide_eq_true hr0,cond_true,cond_false]
   cases cErr js ms n m cs c <;> cases qIn js ms q n m k <;> rfl
  by_cases hr1:64 < rs
  ·rw [decide_eq_false (show ¬ (0≤rs∧rs≤64) by omega),Bool.and_false]
   simp only [g1_t,decide_eq_false hr0,decide_eq_true hr1,cond_true,cond_false]
   cases cErr js ms n m cs c <;> cases qIn js ms q n m k <;> rfl
  cases hc:cErr js ms n m cs c with
  | false=>simp only [g1_t]; rfl
  | true =>
   cases hq:qIn js ms q n m k with
   | false=>simp only [g1_t]; rfl
   | true =>
    obtain ⟨h0,hnk,_⟩:=zZV hq
    have h10:=qHJ h0
    simp only [g1_t,kZ,decide_eq_false hr0,decide_eq_false hr1,decide_eq_true (show 0≤rs∧rs≤64 by omega),decide_eq_true (show 1≤k∧k≤10 by omega),decide_eq_true (show 0≤rs by omega),Bool.and_self,cond_true,cond_false]
    have hg2:gP (True∧True∧nrm' k q=q∧0≤rs∧rs≤64)=true:=jJV ⟨trivial,trivial,hn,by omega,by omega⟩
    rw [hg2,cond_true]
    cases pjO js ms q n m k cs c rs <;> rfl
end Go.Proofs.YthkhihoplfpgmaaGreat.Nw
namespace Go.Proofs.YthkhihoplfpgmaaGreat.Ny
open Go.Rx Rt Go.Sx Go.RowKit Od Ov Pc Na Nb Nc Nd Nx Nf Ng Nj Nl Nm Nn No Nq Nr Ns Nu Nv Nw
noncomputable def hAB (js:Nat→J) (ms:Nat→Ms) (bx:Nat→Iv) (n m kk:Nat) (cs:Nat→Cn) (c:Nat):Bool:=cErr js ms n m cs c && (pIn js ms bx n m kk && zHW cs (vI js bx n cs) c)
noncomputable def hA (js:Nat→J) (ms:Nat→Ms) (q:Nat→Int) (n m k:Nat) (cs:Nat→Cn) (c:Nat):Bool:=hAB js ms (ptB q) n m (bif smQ q k then k else 0) cs c
def isHA (js:Nat→J) (ms:Nat→Ms) (n m:Nat) (cs:Nat→Cn) (c:Nat) (ps:List PV):Prop:=∃ (bx:Nat→Iv) (kk:Nat),kk≤50∧ps=[.a [.lf n (fJ js),.lf m (fM ms)],.lf c (fC cs),.lf kk (fB bx)]
noncomputable def o_ha (js:Nat→J) (ms:Nat→Ms) (n m:Nat) (cs:Nat→Cn) (c:Nat):List PV→Option (Bool × Ret):=fun ps=>match ps with
 | [r,l,.lf k f]=>some (gP (isHA js ms n m cs c [r,l,.lf k f]),.v (.b (hAB js ms (unFB f) n m k cs c)))
 | _=>none
theorem ok_ha (js:Nat→J) (ms:Nat→Ms) (n m:Nat) (cs:Nat→Cn) (c:Nat):zX Tryz.prog 16 (o_ha js ms n m cs c):=by
 intro ps r hh
 unfold o_ha at hh
 split at hh
 ·simp only [Option.some.injEq,Prod.mk.injEq] at hh
  obtain ⟨hg,rfl⟩:=hh
  obtain ⟨bx,kk,hk,e⟩:=zXK hg
  simp only [List.cons.injEq,PV.lf.injEq,and_true] at e
  obtain ⟨rfl,rfl,rfl,rfl⟩:=e
  exact snd_RHo' js ms _ n m _ cs c hk
 ·cases hh
theorem kHW {js:Nat→J} {ms:Nat→Ms} {q:Nat→Int} {n m k:Nat} {cs:Nat→Cn} {c:Nat} (hc:cErr js ms n m cs c=true) (hq:qIn js ms q n m k=true):hA js ms q n m k cs c=allH js ms q n m k cs c:=allH_eq hc hq
noncomputable def prOk (js:Nat→J) (ms:Nat→Ms) (q:Nat→Int) (n m k:Nat) (cs:Nat→Cn) (c:Nat) (rs:Int):Bool:=(cErr js ms n m cs c && qIn js ms q n m k) && decide (0≤rs∧rs≤64)
noncomputable def prB (js:Nat→J) (ms:Nat→Ms) (q:Nat→Int) (n m k:Nat) (cs:Nat→Cn) (c:Nat) (rs:Int):Bool:=prOk js ms (nrm' k q) n m k cs c rs && pjO js ms (nrm' k q) n m k cs c rs
noncomputable def prL (js:Nat→J) (ms:Nat→Ms) (q:Nat→Int) (n m k:Nat) (cs:Nat→Cn) (c:Nat) (rs:Int):Nat:=bif prB js ms q n m k cs c rs then k else 0
noncomputable def prQ (js:Nat→J) (ms:Nat→Ms) (q:Nat→Int) (n m k:Nat) (cs:Nat→Cn) (c:Nat) (rs:Int):Nat→Int:=pjP js ms (nrm' k q) n m k cs c rs
noncomputable def prJ (js:Nat→J) (ms:Nat→Ms) (q:Nat→Int) (n m k:Nat) (cs:Nat→Cn) (c:Nat) (rs:Int):Int:=bif prOk js ms (nrm' k q) n m k cs c rs then (bif pjO js ms (nrm' k q) n m k cs c rs then pjJ js ms (nrm' k q) n m k cs c rs else rs) else 0
theorem snd_both {f:Nat} (js:Nat→J) (ms:Nat→Ms) (q:Nat→Int) (n m k:Nat) (cs:Nat→Cn) (c:Nat) (rs:Int) (h:∀ q:Nat→Int,nrm' k q=q→yZ Tryz.prog f [.a [.lf n (fJ js),.lf m (fM ms)],.lf c (fC cs),.lf k (fQ q),.n .i64 rs] (bif (cErr js ms n m cs c && qIn js ms q n m k) && decide (0≤rs∧rs≤64) then (bif pjO js ms q n m k cs c rs then .v (.t [.lf k (fQ (pjP js ms q n m k cs c rs)),.n .i64 (pjJ js ms q n m k cs c rs),.b true]) else .v (.t [.l [],.n .i64 rs,.b false])) else .v (.t [.l [],.n .i64 0,.b false]))):yZ Tryz.prog f [.a [.lf n (fJ js),.lf m (fM ms)],.lf c (fC cs),.lf k (fQ q),.n .i64 rs] (.v (.t [.lf (prL js ms q n m k cs c rs) (fQ (prQ js ms q n m k cs c rs)),.n .i64 (prJ js ms q n m k cs c rs),.b (prB js ms q n m k cs c rs)])):=by
 refine qYJ (fun _ _ _=>Sames.al (ys:=[_,_,.lf k (fQ (nrm' k q)),_]) ⟨Same.refl _,Same.refl _,nrm_same k q,Same.refl _,trivial⟩) ?_
 have h0:=h (nrm' k q) (nrm_idem k q)
 unfold prL prJ prQ prB
 change yZ Tryz.prog f _ (bif prOk js ms (nrm' k q) n m k cs c rs then _ else _) at h0
 cases e:prOk js ms (nrm' k q) n m k cs c rs with
 | false =>
  rw [e,cond_false] at h0
  exact qYU (Same.t (xs:=[_,_,_]) ⟨Same.lf rfl,Same.refl _,Same.refl _,trivial⟩) h0
 | true =>
  rw [e,cond_true] at h0
  cases e2:pjO js ms (nrm' k q) n m k cs c rs with
  | false =>
   rw [e2,cond_false] at h0
   exact qYU (Same.t (xs:=[_,_,_]) ⟨Same.lf rfl,Same.refl _,Same.refl _,trivial⟩) h0
  | true =>
   rw [e2,cond_true] at h0
   exact h0
theorem snd_prj (js:Nat→J) (ms:Nat→Ms) (q:Nat→Int) (n m k:Nat) (cs:Nat→Cn) (c:Nat) (rs:Int):yZ Tryz.prog 15 [.a [.lf n (fJ js),.lf m (fM ms)],.lf c (fC cs),.lf k (fQ q),.n .i64 rs] (.v (.t [.lf (prL js ms q n m k cs c rs) (fQ (prQ js ms q n m k cs c rs)),.n .i64 (prJ js ms q n m k cs c rs),.b (prB js ms q n m k cs c rs)])):=snd_both js ms q n m k cs c rs fun q hn=>snd_prj0 js ms q n m k cs c rs hn
end Go.Proofs.YthkhihoplfpgmaaGreat.Ny
namespace Go.Proofs.YthkhihoplfpgmaaGreat.Nz
open Go.Rx Rt Go.Sx Go.RowKit Od Ov Pc Na Nb Nc Nd Nx Nf Ng Nj Nl Nm Nn No Nq Nr Ns Nu Nv Nw Ny
theorem near0 (js:Nat→J) (ms:Nat→Ms) (q:Nat→Int) (n m k:Nat) (c d:Cn) (w:Nat) (e:Nat→Int) (hk:k≤50) (hc:yZ Tryz.prog 11 [.a [.lf n (fJ js),.lf m (fM ms)],.n .i64 0,.lf w (fQ e)] (.ow 29 10 (.l []))):yZ Tryz.prog 12 [.a [.lf n (fJ js),.lf m (fM ms)],.n .i64 0,.lf w (fQ e),.lf k (fQ q)] (.ow 29 10 (.l [])):=by
 refine qG (N:=60) yJ yY (OrL.ok (l:=[(11,o_cr [.a [.lf n (fJ js),.lf m (fM ms)],.n .i64 0,.lf w (fQ e)] (.ow 29 10 (.l []))),(13,yKX),(17,o_lk [.lf k (fQ q)] (decide (k≤50)) (.v (.lf (bif smQ q k then k else 0) (fB (ptB q))))),(33,o_rv js ms (ptB q) n m (bif smQ q k then k else 0))]) ⟨qYW hc,zVY,qVQ (fun h=>zYY q k (of_decide_eq_true h)),jVV js ms (ptB q) n m (bif smQ q k then k else 0),trivial⟩) ?_
 refine (by kernel_rfl:_=bif (g1 [.a [.lf n (fJ js),.lf m (fM ms)],.n .i64 0,.lf w (fQ e)]) then some (.ow 29 10 (.l []),[])
 else none).trans ?_
 simp only [g1_t,cond_true]
theorem near2_0 (js:Nat→J) (ms:Nat→Ms) (q:Nat→Int) (n m k:Nat) (c d:Cn) (w:Nat) (e:Nat→Int) (hk:k≤50) (hc:yZ Tryz.prog 11 [.a [.lf n (fJ js),.lf m (fM ms)],.n .i64 2,.lf 0 (fQ e)] (.ow 29 10 (.l [cp c,cp d]))):∃ c' d':Cn,yZ Tryz.prog 12 [.a [.lf n (fJ js),.lf m (fM ms)],.n .i64 2,.lf 0 (fQ e),.lf k (fQ q)] (.ow 29 10 (.l [cp c',cp d'])):=by
 refine ⟨bif qOk js ms q n m k c then ⟨c.kind,c.link,c.p,c.n,(IntKind.i64.wrap ((qLo js ms q n m k c) + (-1966080))),(IntKind.i64.wrap ((IntKind.i64.wrap ((qLo js ms q n m k c) + (-1966080))) + 65536))⟩ else c,bif qOk js ms q n m k d then (bif qOk js ms q n m k c then ⟨d.kind,d.link,d.p,d.n,(IntKind.i64.wrap ((qLo js ms q n m k d) + (-1966080))),(IntKind.i64.wrap ((IntKind.i64.wrap ((qLo js ms q n m k d) + (-1966080))) + 65536))⟩ else ⟨d.kind,d.link,d.p,d.n,(IntKind.i64.wrap ((qLo js ms q n m k d) + (-1966080))),(IntKind.i64.wrap ((IntKind.i64.wrap ((qLo js ms q n m k d) + (-1966080))) + 65536))⟩) else d,qG (N:=60) yJ yY (OrL.ok (l:=[(11,o_cr [.a [.lf n (fJ js),.lf m (fM ms)],.n .i64 2,.lf 0 (fQ e)] (.ow 29 10 (.l [cp c,cp d]))),(13,yKX),(17,o_lk [.lf k (fQ q)] (decide (k≤50)) (.v (.lf (bif smQ q k then k else 0) (fB (ptB q))))),(33,o_rv js ms (ptB q) n m (bif smQ q k then k else 0))]) ⟨qYW hc,zVY,qVQ (fun h=>zYY q k (of_decide_eq_true h)),jVV js ms (ptB q) n m (bif smQ q k then k else 0),trivial⟩) ?_⟩
 refine (by kernel_rfl:_=bif (g1 [.a [.lf n (fJ js),.lf m (fM ms)],.n .i64 2,.lf 0 (fQ e)]) then (bif (g1 [.lf k (fQ q)] && decide (k≤50)) then (bif (g1 [.a [.lf n (fJ js),.lf m (fM ms)],.a (cp c),.lf (bif smQ q k then k else 0) (fB (ptB q))] && decide ((bif smQ q k then k else 0)≤50)) then (bif (qOk js ms q n m k c) then (bif (g1 [.lf k (fQ q)] && decide (k≤50)) then (bif (g1 [.a [.lf n (fJ js),.lf m (fM ms)],.a (cp d),.lf (bif smQ q k then k else 0) (fB (ptB q))] && decide ((bif smQ q k then k else 0)≤50)) then (bif (qOk js ms q n m k d) then some (.ow 29 10 (.l [[.n .i64 c.kind,.n .i64 c.link,.n .i64 c.p.x,.n .i64 c.p.y,.n .i64 c.p.z,.n .i64 c.n.x,.n .i64 c.n.y,.n .i64 c.n.z,.n .i64 (IntKind.i64.wrap ((qLo js ms q n m k c) + (-1966080))),.n .i64 (IntKind.i64.wrap ((IntKind.i64.wrap ((qLo js ms q n m k c) + (-1966080))) + 65536))],[.n .i64 d.kind,.n .i64 d.link,.n .i64 d.p.x,.n .i64 d.p.y,.n .i64 d.p.z,.n .i64 d.n.x,.n .i64 d.n.y,.n .i64 d.n.z,.n .i64 (IntKind.i64.wrap ((qLo js ms q n m k d) + (-1966080))),.n .i64 (IntKind.i64.wrap ((IntKind.i64.wrap ((qLo js ms q n m k d) + (-1966080))) + 65536))]]),[])
 else some (.ow 29 10 (.l [[.n .i64 c.kind,.n .i64 c.link,.n .i64 c.p.x,.n .i64 c.p.y,.n .i64 c.p.z,.n .i64 c.n.x,.n .i64 c.n.y,.n .i64 c.n.z,.n .i64 (IntKind.i64.wrap ((qLo js ms q n m k c) + (-1966080))),.n .i64 (IntKind.i64.wrap ((IntKind.i64.wrap ((qLo js ms q n m k c) + (-1966080))) + 65536))],(cp d)]),[]))
 else none)
 else none)
 else bif (g1 [.lf k (fQ q)] && decide (k≤50)) then (bif (g1 [.a [.lf n (fJ js),.lf m (fM ms)],.a (cp d),.lf (bif smQ q k then k else 0) (fB (ptB q))] && decide ((bif smQ q k then k else 0)≤50)) then (bif (qOk js ms q n m k d) then some (.ow 29 10 (.l [(cp c),[.n .i64 d.kind,.n .i64 d.link,.n .i64 d.p.x,.n .i64 d.p.y,.n .i64 d.p.z,.n .i64 d.n.x,.n .i64 d.n.y,.n .i64 d.n.z,.n .i64 (IntKind.i64.wrap ((qLo js ms q n m k d) + (-1966080))),.n .i64 (IntKind.i64.wrap ((IntKind.i64.wrap ((qLo js ms q n m k d) + (-1966080))) + 65536))]]),[])
 else some (.ow 29 10 (.l [(cp c),(cp d)]),[]))
 else none)
 else none)
 else none)
 else none)
 else none).trans ?_
 simp only [g1_t,decide_eq_true hk,decide_eq_true (jQZ (q:=q) hk),Bool.and_self,cond_true]
 cases qOk js ms q n m k c <;> cases qOk js ms q n m k d <;> rfl
theorem near2_1 (js:Nat→J) (ms:Nat→Ms) (q:Nat→Int) (n m k:Nat) (c d:Cn) (w:Nat) (e:Nat→Int) (hk:k≤50) (hc:yZ Tryz.prog 11 [.a [.lf n (fJ js),.lf m (fM ms)],.n .i64 2,.lf 1 (fQ e)] (.ow 29 10 (.l [cp c,cp d]))):∃ c' d':Cn,yZ Tryz.prog 12 [.a [.lf n (fJ js),.lf m (fM ms)],.n .i64 2,.lf 1 (fQ e),.lf k (fQ q)] (.ow 29 10 (.l [cp c',cp d'])):=by
 refine ⟨bif qOk js ms q n m k c then ⟨c.kind,c.link,c.p,c.n,(IntKind.i64.wrap ((qLo js ms q n m k c) + (IntKind.i64.wrap ((IntKind.i64.wrap (((e (0:Int).toNat) % 61) - 30)) * 65536)))),(IntKind.i64.wrap ((IntKind.i64.wrap ((qLo js ms q n m k c) + (IntKind.i64.wrap ((IntKind.i64.wrap (((e (0:Int).toNat) % 61) - 30)) * 65536)))) + 65536))⟩ else c,bif qOk js ms q n m k d then (bif qOk js ms q n m k c then ⟨d.kind,d.link,d.p,d.n,(IntKind.i64.wrap ((qLo js ms q n m k d) + (-1966080))),(IntKind.i64.wrap ((IntKind.i64.wrap ((qLo js ms q n m k d) + (-1966080))) + 65536))⟩ else ⟨d.kind,d.link,d.p,d.n,(IntKind.i64.wrap ((qLo js ms q n m k d) + (IntKind.i64.wrap ((IntKind.i64.wrap (((e (0:Int).toNat) % 61) - 30)) * 65536)))),(IntKind.i64.wrap ((IntKind.i64.wrap ((qLo js ms q n m k d) + (IntKind.i64.wrap ((IntKind.i64.wrap (((e (0:Int).toNat) % 61) - 30)) * 65536)))) + 65536))⟩) else d,qG (N:=60) yJ yY (OrL.ok (l:=[(11,o_cr [.a [.lf n (fJ js),.lf m (fM ms)],.n .i64 2,.lf 1 (fQ e)] (.ow 29 10 (.l [cp c,cp d]))),(13,yKX),(17,o_lk [.lf k (fQ q)] (decide (k≤50)) (.v (.lf (bif smQ q k then k else 0) (fB (ptB q))))),(33,o_rv js ms (ptB q) n m (bif smQ q k then k else 0))]) ⟨qYW hc,zVY,qVQ (fun h=>zYY q k (of_decide_eq_true h)),jVV js ms (ptB q) n m (bif smQ q k then k else 0),trivial⟩) ?_⟩
 refine (by kernel_rfl:_=bif (g1 [.a [.lf n (fJ js),.lf m (fM ms)],.n .i64 2,.lf 1 (fQ e)]) then (bif (g1 [.lf k (fQ q)] && decide (k≤50)) then (bif (g1 [.a [.lf n (fJ js),.lf m (fM ms)],.a (cp c),.lf (bif smQ q k then k else 0) (fB (ptB q))] && decide ((bif smQ q k then k else 0)≤50)) then (bif (qOk js ms q n m k c) then (bif (g1 [.lf k (fQ q)] && decide (k≤50)) then (bif (g1 [.a [.lf n (fJ js),.lf m (fM ms)],.a (cp d),.lf (bif smQ q k then k else 0) (fB (ptB q))] && decide ((bif smQ q k then k else 0)≤50)) then (bif (qOk js ms q n m k d) then some (.ow 29 10 (.l [[.n .i64 c.kind,.n .i64 c.link,.n .i64 c.p.x,.n .i64 c.p.y,.n .i64 c.p.z,.n .i64 c.n.x,.n .i64 c.n.y,.n .i64 c.n.z,.n .i64 (IntKind.i64.wrap ((qLo js ms q n m k c) + (IntKind.i64.wrap ((IntKind.i64.wrap (((e (0:Int).toNat) % 61) - 30)) * 65536)))),.n .i64 (IntKind.i64.wrap ((IntKind.i64.wrap ((qLo js ms q n m k c) + (IntKind.i64.wrap ((IntKind.i64.wrap (((e (0:Int).toNat) % 61) - 30)) * 65536)))) + 65536))],[.n .i64 d.kind,.n .i64 d.link,.n .i64 d.p.x,.n .i64 d.p.y,.n .i64 d.p.z,.n .i64 d.n.x,.n .i64 d.n.y,.n .i64 d.n.z,.n .i64 (IntKind.i64.wrap ((qLo js ms q n m k d) + (-1966080))),.n .i64 (IntKind.i64.wrap ((IntKind.i64.wrap ((qLo js ms q n m k d) + (-1966080))) + 65536))]]),[])
 else some (.ow 29 10 (.l [[.n .i64 c.kind,.n .i64 c.link,.n .i64 c.p.x,.n .i64 c.p.y,.n .i64 c.p.z,.n .i64 c.n.x,.n .i64 c.n.y,.n .i64 c.n.z,.n .i64 (IntKind.i64.wrap ((qLo js ms q n m k c) + (IntKind.i64.wrap ((IntKind.i64.wrap (((e (0:Int).toNat) % 61) - 30)) * 65536)))),.n .i64 (IntKind.i64.wrap ((IntKind.i64.wrap ((qLo js ms q n m k c) + (IntKind.i64.wrap ((IntKind.i64.wrap (((e (0:Int).toNat) % 61) - 30)) * 65536)))) + 65536))],(cp d)]),[]))
 else none)
 else none)
 else bif (g1 [.lf k (fQ q)] && decide (k≤50)) then (bif (g1 [.a [.lf n (fJ js),.lf m (fM ms)],.a (cp d),.lf (bif smQ q k then k else 0) (fB (ptB q))] && decide ((bif smQ q k then k else 0)≤50)) then (bif (qOk js ms q n m k d) then some (.ow 29 10 (.l [(cp c),[.n .i64 d.kind,.n .i64 d.link,.n .i64 d.p.x,.n .i64 d.p.y,.n .i64 d.p.z,.n .i64 d.n.x,.n .i64 d.n.y,.n .i64 d.n.z,.n .i64 (IntKind.i64.wrap ((qLo js ms q n m k d) + (IntKind.i64.wrap ((IntKind.i64.wrap (((e (0:Int).toNat) % 61) - 30)) * 65536)))),.n .i64 (IntKind.i64.wrap ((IntKind.i64.wrap ((qLo js ms q n m k d) + (IntKind.i64.wrap ((IntKind.i64.wrap (((e (0:Int).toNat) % 61) - 30)) * 65536)))) + 65536))]]),[])
 else some (.ow 29 10 (.l [(cp c),(cp d)]),[]))
 else none)
 else none)
 else none)
 else none)
 else none).trans ?_
 simp only [g1_t,decide_eq_true hk,decide_eq_true (jQZ (q:=q) hk),Bool.and_self,cond_true]
 cases qOk js ms q n m k c <;> cases qOk js ms q n m k d <;> rfl
theorem near2_2 (js:Nat→J) (ms:Nat→Ms) (q:Nat→Int) (n m k:Nat) (c d:Cn) (w:Nat) (e:Nat→Int) (hk:k≤50) (hc:yZ Tryz.prog 11 [.a [.lf n (fJ js),.lf m (fM ms)],.n .i64 2,.lf 2 (fQ e)] (.ow 29 10 (.l [cp c,cp d]))):∃ c' d':Cn,yZ Tryz.prog 12 [.a [.lf n (fJ js),.lf m (fM ms)],.n .i64 2,.lf 2 (fQ e),.lf k (fQ q)] (.ow 29 10 (.l [cp c',cp d'])):=by
 refine ⟨bif qOk js ms q n m k c then ⟨c.kind,c.link,c.p,c.n,(IntKind.i64.wrap ((qLo js ms q n m k c) + (IntKind.i64.wrap ((IntKind.i64.wrap (((e (0:Int).toNat) % 61) - 30)) * 65536)))),(IntKind.i64.wrap ((IntKind.i64.wrap ((qLo js ms q n m k c) + (IntKind.i64.wrap ((IntKind.i64.wrap (((e (0:Int).toNat) % 61) - 30)) * 65536)))) + (IntKind.i64.wrap ((IntKind.i64.wrap (1 + ((e (1:Int).toNat) % 40))) * 65536))))⟩ else c,bif qOk js ms q n m k d then (bif qOk js ms q n m k c then ⟨d.kind,d.link,d.p,d.n,(IntKind.i64.wrap ((qLo js ms q n m k d) + (-1966080))),(IntKind.i64.wrap ((IntKind.i64.wrap ((qLo js ms q n m k d) + (-1966080))) + 65536))⟩ else ⟨d.kind,d.link,d.p,d.n,(IntKind.i64.wrap ((qLo js ms q n m k d) + (IntKind.i64.wrap ((IntKind.i64.wrap (((e (0:Int).toNat) % 61) - 30)) * 65536)))),(IntKind.i64.wrap ((IntKind.i64.wrap ((qLo js ms q n m k d) + (IntKind.i64.wrap ((IntKind.i64.wrap (((e (0:Int).toNat) % 61) - 30)) * 65536)))) + (IntKind.i64.wrap ((IntKind.i64.wrap (1 + ((e (1:Int).toNat) % 40))) * 65536))))⟩) else d,qG (N:=60) yJ yY (OrL.ok (l:=[(11,o_cr [.a [.lf n (fJ js),.lf m (fM ms)],.n .i64 2,.lf 2 (fQ e)] (.ow 29 10 (.l [cp c,cp d]))),(13,yKX),(17,o_lk [.lf k (fQ q)] (decide (k≤50)) (.v (.lf (bif smQ q k then k else 0) (fB (ptB q))))),(33,o_rv js ms (ptB q) n m (bif smQ q k then k else 0))]) ⟨qYW hc,zVY,qVQ (fun h=>zYY q k (of_decide_eq_true h)),jVV js ms (ptB q) n m (bif smQ q k then k else 0),trivial⟩) ?_⟩
 refine (by kernel_rfl:_=bif (g1 [.a [.lf n (fJ js),.lf m (fM ms)],.n .i64 2,.lf 2 (fQ e)]) then (bif (g1 [.lf k (fQ q)] && decide (k≤50)) then (bif (g1 [.a [.lf n (fJ js),.lf m (fM ms)],.a (cp c),.lf (bif smQ q k then k else 0) (fB (ptB q))] && decide ((bif smQ q k then k else 0)≤50)) then (bif (qOk js ms q n m k c) then (bif (g1 [.lf k (fQ q)] && decide (k≤50)) then (bif (g1 [.a [.lf n (fJ js),.lf m (fM ms)],.a (cp d),.lf (bif smQ q k then k else 0) (fB (ptB q))] && decide ((bif smQ q k then k else 0)≤50)) then (bif (qOk js ms q n m k d) then some (.ow 29 10 (.l [[.n .i64 c.kind,.n .i64 c.link,.n .i64 c.p.x,.n .i64 c.p.y,.n .i64 c.p.z,.n .i64 c.n.x,.n .i64 c.n.y,.n .i64 c.n.z,.n .i64 (IntKind.i64.wrap ((qLo js ms q n m k c) + (IntKind.i64.wrap ((IntKind.i64.wrap (((e (0:Int).toNat) % 61) - 30)) * 65536)))),.n .i64 (IntKind.i64.wrap ((IntKind.i64.wrap ((qLo js ms q n m k c) + (IntKind.i64.wrap ((IntKind.i64.wrap (((e (0:Int).toNat) % 61) - 30)) * 65536)))) + (IntKind.i64.wrap ((IntKind.i64.wrap (1 + ((e (1:Int).toNat) % 40))) * 65536))))],[.n .i64 d.kind,.n .i64 d.link,.n .i64 d.p.x,.n .i64 d.p.y,.n .i64 d.p.z,.n .i64 d.n.x,.n .i64 d.n.y,.n .i64 d.n.z,.n .i64 (IntKind.i64.wrap ((qLo js ms q n m k d) + (-1966080))),.n .i64 (IntKind.i64.wrap ((IntKind.i64.wrap ((qLo js ms q n m k d) + (-1966080))) + 65536))]]),[])
 else some (.ow 29 10 (.l [[.n .i64 c.kind,.n .i64 c.link,.n .i64 c.p.x,.n .i64 c.p.y,.n .i64 c.p.z,.n .i64 c.n.x,.n .i64 c.n.y,.n .i64 c.n.z,.n .i64 (IntKind.i64.wrap ((qLo js ms q n m k c) + (IntKind.i64.wrap ((IntKind.i64.wrap (((e (0:Int).toNat) % 61) - 30)) * 65536)))),.n .i64 (IntKind.i64.wrap ((IntKind.i64.wrap ((qLo js ms q n m k c) + (IntKind.i64.wrap ((IntKind.i64.wrap (((e (0:Int).toNat) % 61) - 30)) * 65536)))) + (IntKind.i64.wrap ((IntKind.i64.wrap (1 + ((e (1:Int).toNat) % 40))) * 65536))))],(cp d)]),[]))
 else none)
 else none)
 else bif (g1 [.lf k (fQ q)] && decide (k≤50)) then (bif (g1 [.a [.lf n (fJ js),.lf m (fM ms)],.a (cp d),.lf (bif smQ q k then k else 0) (fB (ptB q))] && decide ((bif smQ q k then k else 0)≤50)) then (bif (qOk js ms q n m k d) then some (.ow 29 10 (.l [(cp c),[.n .i64 d.kind,.n .i64 d.link,.n .i64 d.p.x,.n .i64 d.p.y,.n .i64 d.p.z,.n .i64 d.n.x,.n .i64 d.n.y,.n .i64 d.n.z,.n .i64 (IntKind.i64.wrap ((qLo js ms q n m k d) + (IntKind.i64.wrap ((IntKind.i64.wrap (((e (0:Int).toNat) % 61) - 30)) * 65536)))),.n .i64 (IntKind.i64.wrap ((IntKind.i64.wrap ((qLo js ms q n m k d) + (IntKind.i64.wrap ((IntKind.i64.wrap (((e (0:Int).toNat) % 61) - 30)) * 65536)))) + (IntKind.i64.wrap ((IntKind.i64.wrap (1 + ((e (1:Int).toNat) % 40))) * 65536))))]]),[])
 else some (.ow 29 10 (.l [(cp c),(cp d)]),[]))
 else none)
 else none)
 else none)
 else none)
 else none).trans ?_
 simp only [g1_t,decide_eq_true hk,decide_eq_true (jQZ (q:=q) hk),Bool.and_self,cond_true]
 cases qOk js ms q n m k c <;> cases qOk js ms q n m k d <;> rfl
theorem near2_3 (js:Nat→J) (ms:Nat→Ms) (q:Nat→Int) (n m k:Nat) (c d:Cn) (w:Nat) (e:Nat→Int) (hk:k≤50) (hc:yZ Tryz.prog 11 [.a [.lf n (fJ js),.lf m (fM ms)],.n .i64 2,.lf 3 (fQ e)] (.ow 29 10 (.l [cp c,cp d]))):∃ c' d':Cn,yZ Tryz.prog 12 [.a [.lf n (fJ js),.lf m (fM ms)],.n .i64 2,.lf 3 (fQ e),.lf k (fQ q)] (.ow 29 10 (.l [cp c',cp d'])):=by
 refine ⟨bif qOk js ms q n m k c then ⟨c.kind,c.link,c.p,c.n,(IntKind.i64.wrap ((qLo js ms q n m k c) + (IntKind.i64.wrap ((IntKind.i64.wrap (((e (0:Int).toNat) % 61) - 30)) * 65536)))),(IntKind.i64.wrap ((IntKind.i64.wrap ((qLo js ms q n m k c) + (IntKind.i64.wrap ((IntKind.i64.wrap (((e (0:Int).toNat) % 61) - 30)) * 65536)))) + (IntKind.i64.wrap ((IntKind.i64.wrap (1 + ((e (1:Int).toNat) % 40))) * 65536))))⟩ else c,bif qOk js ms q n m k d then (bif qOk js ms q n m k c then ⟨d.kind,d.link,d.p,d.n,(IntKind.i64.wrap ((qLo js ms q n m k d) + (IntKind.i64.wrap ((IntKind.i64.wrap (((e (2:Int).toNat) % 61) - 30)) * 65536)))),(IntKind.i64.wrap ((IntKind.i64.wrap ((qLo js ms q n m k d) + (IntKind.i64.wrap ((IntKind.i64.wrap (((e (2:Int).toNat) % 61) - 30)) * 65536)))) + 65536))⟩ else ⟨d.kind,d.link,d.p,d.n,(IntKind.i64.wrap ((qLo js ms q n m k d) + (IntKind.i64.wrap ((IntKind.i64.wrap (((e (0:Int).toNat) % 61) - 30)) * 65536)))),(IntKind.i64.wrap ((IntKind.i64.wrap ((qLo js ms q n m k d) + (IntKind.i64.wrap ((IntKind.i64.wrap (((e (0:Int).toNat) % 61) - 30)) * 65536)))) + (IntKind.i64.wrap ((IntKind.i64.wrap (1 + ((e (1:Int).toNat) % 40))) * 65536))))⟩) else d,qG (N:=60) yJ yY (OrL.ok (l:=[(11,o_cr [.a [.lf n (fJ js),.lf m (fM ms)],.n .i64 2,.lf 3 (fQ e)] (.ow 29 10 (.l [cp c,cp d]))),(13,yKX),(17,o_lk [.lf k (fQ q)] (decide (k≤50)) (.v (.lf (bif smQ q k then k else 0) (fB (ptB q))))),(33,o_rv js ms (ptB q) n m (bif smQ q k then k else 0))]) ⟨qYW hc,zVY,qVQ (fun h=>zYY q k (of_decide_eq_true h)),jVV js ms (ptB q) n m (bif smQ q k then k else 0),trivial⟩) ?_⟩
 refine (by kernel_rfl:_=bif (g1 [.a [.lf n (fJ js),.lf m (fM ms)],.n .i64 2,.lf 3 (fQ e)]) then (bif (g1 [.lf k (fQ q)] && decide (k≤50)) then (bif (g1 [.a [.lf n (fJ js),.lf m (fM ms)],.a (cp c),.lf (bif smQ q k then k else 0) (fB (ptB q))] && decide ((bif smQ q k then k else 0)≤50)) then (bif (qOk js ms q n m k c) then (bif (g1 [.lf k (fQ q)] && decide (k≤50)) then (bif (g1 [.a [.lf n (fJ js),.lf m (fM ms)],.a (cp d),.lf (bif smQ q k then k else 0) (fB (ptB q))] && decide ((bif smQ q k then k else 0)≤50)) then (bif (qOk js ms q n m k d) then some (.ow 29 10 (.l [[.n .i64 c.kind,.n .i64 c.link,.n .i64 c.p.x,.n .i64 c.p.y,.n .i64 c.p.z,.n .i64 c.n.x,.n .i64 c.n.y,.n .i64 c.n.z,.n .i64 (IntKind.i64.wrap ((qLo js ms q n m k c) + (IntKind.i64.wrap ((IntKind.i64.wrap (((e (0:Int).toNat) % 61) - 30)) * 65536)))),.n .i64 (IntKind.i64.wrap ((IntKind.i64.wrap ((qLo js ms q n m k c) + (IntKind.i64.wrap ((IntKind.i64.wrap (((e (0:Int).toNat) % 61) - 30)) * 65536)))) + (IntKind.i64.wrap ((IntKind.i64.wrap (1 + ((e (1:Int).toNat) % 40))) * 65536))))],[.n .i64 d.kind,.n .i64 d.link,.n .i64 d.p.x,.n .i64 d.p.y,.n .i64 d.p.z,.n .i64 d.n.x,.n .i64 d.n.y,.n .i64 d.n.z,.n .i64 (IntKind.i64.wrap ((qLo js ms q n m k d) + (IntKind.i64.wrap ((IntKind.i64.wrap (((e (2:Int).toNat) % 61) - 30)) * 65536)))),.n .i64 (IntKind.i64.wrap ((IntKind.i64.wrap ((qLo js ms q n m k d) + (IntKind.i64.wrap ((IntKind.i64.wrap (((e (2:Int).toNat) % 61) - 30)) * 65536)))) + 65536))]]),[])
 else some (.ow 29 10 (.l [[.n .i64 c.kind,.n .i64 c.link,.n .i64 c.p.x,.n .i64 c.p.y,.n .i64 c.p.z,.n .i64 c.n.x,.n .i64 c.n.y,.n .i64 c.n.z,.n .i64 (IntKind.i64.wrap ((qLo js ms q n m k c) + (IntKind.i64.wrap ((IntKind.i64.wrap (((e (0:Int).toNat) % 61) - 30)) * 65536)))),.n .i64 (IntKind.i64.wrap ((IntKind.i64.wrap ((qLo js ms q n m k c) + (IntKind.i64.wrap ((IntKind.i64.wrap (((e (0:Int).toNat) % 61) - 30)) * 65536)))) + (IntKind.i64.wrap ((IntKind.i64.wrap (1 + ((e (1:Int).toNat) % 40))) * 65536))))],(cp d)]),[]))
 else none)
 else none)
 else bif (g1 [.lf k (fQ q)] && decide (k≤50)) then (bif (g1 [.a [.lf n (fJ js),.lf m (fM ms)],.a (cp d),.lf (bif smQ q k then k else 0) (fB (ptB q))] && decide ((bif smQ q k then k else 0)≤50)) then (bif (qOk js ms q n m k d) then some (.ow 29 10 (.l [(cp c),[.n .i64 d.kind,.n .i64 d.link,.n .i64 d.p.x,.n .i64 d.p.y,.n .i64 d.p.z,.n .i64 d.n.x,.n .i64 d.n.y,.n .i64 d.n.z,.n .i64 (IntKind.i64.wrap ((qLo js ms q n m k d) + (IntKind.i64.wrap ((IntKind.i64.wrap (((e (0:Int).toNat) % 61) - 30)) * 65536)))),.n .i64 (IntKind.i64.wrap ((IntKind.i64.wrap ((qLo js ms q n m k d) + (IntKind.i64.wrap ((IntKind.i64.wrap (((e (0:Int).toNat) % 61) - 30)) * 65536)))) + (IntKind.i64.wrap ((IntKind.i64.wrap (1 + ((e (1:Int).toNat) % 40))) * 65536))))]]),[])
 else some (.ow 29 10 (.l [(cp c),(cp d)]),[]))
 else none)
 else none)
 else none)
 else none)
 else none).trans ?_
 simp only [g1_t,decide_eq_true hk,decide_eq_true (jQZ (q:=q) hk),Bool.and_self,cond_true]
 cases qOk js ms q n m k c <;> cases qOk js ms q n m k d <;> rfl
theorem near2_4 (js:Nat→J) (ms:Nat→Ms) (q:Nat→Int) (n m k:Nat) (c d:Cn) (w:Nat) (e:Nat→Int) (hk:k≤50) (hc:yZ Tryz.prog 11 [.a [.lf n (fJ js),.lf m (fM ms)],.n .i64 2,.lf (w + 4) (fQ e)] (.ow 29 10 (.l [cp c,cp d]))):∃ c' d':Cn,yZ Tryz.prog 12 [.a [.lf n (fJ js),.lf m (fM ms)],.n .i64 2,.lf (w + 4) (fQ e),.lf k (fQ q)] (.ow 29 10 (.l [cp c',cp d'])):=by
 refine ⟨bif qOk js ms q n m k c then ⟨c.kind,c.link,c.p,c.n,(IntKind.i64.wrap ((qLo js ms q n m k c) + (IntKind.i64.wrap ((IntKind.i64.wrap (((e (0:Int).toNat) % 61) - 30)) * 65536)))),(IntKind.i64.wrap ((IntKind.i64.wrap ((qLo js ms q n m k c) + (IntKind.i64.wrap ((IntKind.i64.wrap (((e (0:Int).toNat) % 61) - 30)) * 65536)))) + (IntKind.i64.wrap ((IntKind.i64.wrap (1 + ((e (1:Int).toNat) % 40))) * 65536))))⟩ else c,bif qOk js ms q n m k d then (bif qOk js ms q n m k c then ⟨d.kind,d.link,d.p,d.n,(IntKind.i64.wrap ((qLo js ms q n m k d) + (IntKind.i64.wrap ((IntKind.i64.wrap (((e (2:Int).toNat) % 61) - 30)) * 65536)))),(IntKind.i64.wrap ((IntKind.i64.wrap ((qLo js ms q n m k d) + (IntKind.i64.wrap ((IntKind.i64.wrap (((e (2:Int).toNat) % 61) - 30)) * 65536)))) + (IntKind.i64.wrap ((IntKind.i64.wrap (1 + ((e (3:Int).toNat) % 40))) * 65536))))⟩ else ⟨d.kind,d.link,d.p,d.n,(IntKind.i64.wrap ((qLo js ms q n m k d) + (IntKind.i64.wrap ((IntKind.i64.wrap (((e (0:Int).toNat) % 61) - 30)) * 65536)))),(IntKind.i64.wrap ((IntKind.i64.wrap ((qLo js ms q n m k d) + (IntKind.i64.wrap ((IntKind.i64.wrap (((e (0:Int).toNat) % 61) - 30)) * 65536)))) + (IntKind.i64.wrap ((IntKind.i64.wrap (1 + ((e (1:Int).toNat) % 40))) * 65536))))⟩) else d,qG (N:=60) yJ yY (OrL.ok (l:=[(11,o_cr [.a [.lf n (fJ js),.lf m (fM ms)],.n .i64 2,.lf (w + 4) (fQ e)] (.ow 29 10 (.l [cp c,cp d]))),(13,yKX),(17,o_lk [.lf k (fQ q)] (decide (k≤50)) (.v (.lf (bif smQ q k then k else 0) (fB (ptB q))))),(33,o_rv js ms (ptB q) n m (bif smQ q k then k else 0))]) ⟨qYW hc,zVY,qVQ (fun h=>zYY q k (of_decide_eq_true h)),jVV js ms (ptB q) n m (bif smQ q k then k else 0),trivial⟩) ?_⟩
 refine (by kernel_rfl:_=bif (g1 [.a [.lf n (fJ js),.lf m (fM ms)],.n .i64 2,.lf (w + 4) (fQ e)]) then (bif (g1 [.lf k (fQ q)] && decide (k≤50)) then (bif (g1 [.a [.lf n (fJ js),.lf m (fM ms)],.a (cp c),.lf (bif smQ q k then k else 0) (fB (ptB q))] && decide ((bif smQ q k then k else 0)≤50)) then (bif (qOk js ms q n m k c) then (bif (g1 [.lf k (fQ q)] && decide (k≤50)) then (bif (g1 [.a [.lf n (fJ js),.lf m (fM ms)],.a (cp d),.lf (bif smQ q k then k else 0) (fB (ptB q))] && decide ((bif smQ q k then k else 0)≤50)) then (bif (qOk js ms q n m k d) then some (.ow 29 10 (.l [[.n .i64 c.kind,.n .i64 c.link,.n .i64 c.p.x,.n .i64 c.p.y,.n .i64 c.p.z,.n .i64 c.n.x,.n .i64 c.n.y,.n .i64 c.n.z,.n .i64 (IntKind.i64.wrap ((qLo js ms q n m k c) + (IntKind.i64.wrap ((IntKind.i64.wrap (((e (0:Int).toNat) % 61) - 30)) * 65536)))),.n .i64 (IntKind.i64.wrap ((IntKind.i64.wrap ((qLo js ms q n m k c) + (IntKind.i64.wrap ((IntKind.i64.wrap (((e (0:Int).toNat) % 61) - 30)) * 65536)))) + (IntKind.i64.wrap ((IntKind.i64.wrap (1 + ((e (1:Int).toNat) % 40))) * 65536))))],[.n .i64 d.kind,.n .i64 d.link,.n .i64 d.p.x,.n .i64 d.p.y,.n .i64 d.p.z,.n .i64 d.n.x,.n .i64 d.n.y,.n .i64 d.n.z,.n .i64 (IntKind.i64.wrap ((qLo js ms q n m k d) + (IntKind.i64.wrap ((IntKind.i64.wrap (((e (2:Int).toNat) % 61) - 30)) * 65536)))),.n .i64 (IntKind.i64.wrap ((IntKind.i64.wrap ((qLo js ms q n m k d) + (IntKind.i64.wrap ((IntKind.i64.wrap (((e (2:Int).toNat) % 61) - 30)) * 65536)))) + (IntKind.i64.wrap ((IntKind.i64.wrap (1 + ((e (3:Int).toNat) % 40))) * 65536))))]]),[])
 else some (.ow 29 10 (.l [[.n .i64 c.kind,.n .i64 c.link,.n .i64 c.p.x,.n .i64 c.p.y,.n .i64 c.p.z,.n .i64 c.n.x,.n .i64 c.n.y,.n .i64 c.n.z,.n .i64 (IntKind.i64.wrap ((qLo js ms q n m k c) + (IntKind.i64.wrap ((IntKind.i64.wrap (((e (0:Int).toNat) % 61) - 30)) * 65536)))),.n .i64 (IntKind.i64.wrap ((IntKind.i64.wrap ((qLo js ms q n m k c) + (IntKind.i64.wrap ((IntKind.i64.wrap (((e (0:Int).toNat) % 61) - 30)) * 65536)))) + (IntKind.i64.wrap ((IntKind.i64.wrap (1 + ((e (1:Int).toNat) % 40))) * 65536))))],(cp d)]),[]))
 else none)
 else none)
 else bif (g1 [.lf k (fQ q)] && decide (k≤50)) then (bif (g1 [.a [.lf n (fJ js),.lf m (fM ms)],.a (cp d),.lf (bif smQ q k then k else 0) (fB (ptB q))] && decide ((bif smQ q k then k else 0)≤50)) then (bif (qOk js ms q n m k d) then some (.ow 29 10 (.l [(cp c),[.n .i64 d.kind,.n .i64 d.link,.n .i64 d.p.x,.n .i64 d.p.y,.n .i64 d.p.z,.n .i64 d.n.x,.n .i64 d.n.y,.n .i64 d.n.z,.n .i64 (IntKind.i64.wrap ((qLo js ms q n m k d) + (IntKind.i64.wrap ((IntKind.i64.wrap (((e (0:Int).toNat) % 61) - 30)) * 65536)))),.n .i64 (IntKind.i64.wrap ((IntKind.i64.wrap ((qLo js ms q n m k d) + (IntKind.i64.wrap ((IntKind.i64.wrap (((e (0:Int).toNat) % 61) - 30)) * 65536)))) + (IntKind.i64.wrap ((IntKind.i64.wrap (1 + ((e (1:Int).toNat) % 40))) * 65536))))]]),[])
 else some (.ow 29 10 (.l [(cp c),(cp d)]),[]))
 else none)
 else none)
 else none)
 else none)
 else none).trans ?_
 simp only [g1_t,decide_eq_true hk,decide_eq_true (jQZ (q:=q) hk),Bool.and_self,cond_true]
 cases qOk js ms q n m k c <;> cases qOk js ms q n m k d <;> rfl
theorem near2 (js:Nat→J) (ms:Nat→Ms) (q:Nat→Int) (n m k:Nat) (c d:Cn) (w:Nat) (e:Nat→Int) (hk:k≤50) (hc:yZ Tryz.prog 11 [.a [.lf n (fJ js),.lf m (fM ms)],.n .i64 2,.lf w (fQ e)] (.ow 29 10 (.l [cp c,cp d]))):∃ c' d':Cn,yZ Tryz.prog 12 [.a [.lf n (fJ js),.lf m (fM ms)],.n .i64 2,.lf w (fQ e),.lf k (fQ q)] (.ow 29 10 (.l [cp c',cp d'])):=by
 rcases w with _ | _ | _ | _ | w
 ·exact near2_0 js ms q n m k c d 0 e hk hc
 ·exact near2_1 js ms q n m k c d 1 e hk hc
 ·exact near2_2 js ms q n m k c d 2 e hk hc
 ·exact near2_3 js ms q n m k c d 3 e hk hc
 ·exact near2_4 js ms q n m k c d w e hk hc
theorem prL_le (js:Nat→J) (ms:Nat→Ms) (q:Nat→Int) (n m k:Nat) (cs:Nat→Cn) (c:Nat) (rs:Int) (hk:k≤50):prL js ms q n m k cs c rs≤50:=by
 unfold prL
 cases prB js ms q n m k cs c rs <;> simp <;> omega
def c0:Cn:=⟨0,0,⟨0,0,0⟩,⟨0,0,0⟩,0,0⟩
theorem snd_nearV {l mm a:List Int} {u:Nat} (hu:u≤2) (hm:mm.length≤9223372036854775807):∃ ce:Nat→Cn,yZ Tryz.prog 12 [.a [.lf (nJ l 0) (fJ (jaOf l)),.lf (nM l 0) (fM (maOf l))],.n .i64 u,zXY mm,.lf (nJ l 0) (fQ (cqOf l a))] (.v (.lf u (fC ce))):=by
 have hb:=nJ_b l 0
 have hc:=snd_consO (l:=l) (n:=u) (by omega) hm
 have hlen:(jXV l mm u).length=u:=yGW _ _ _ _
 have hc':=qYJ (ps':=[.a [.lf (nJ l 0) (fJ (jaOf l)),.lf (nM l 0) (fM (maOf l))],.n .i64 u,.lf mm.length (fQ (iqOf mm))]) (fun _ _ _=>Sames.al (ys:=[_,_,_]) ⟨Same.refl _,Same.refl _,ints_same' mm,trivial⟩) hc
 have tr:∀ {r:Ret},yZ Tryz.prog 12 [.a [.lf (nJ l 0) (fJ (jaOf l)),.lf (nM l 0) (fM (maOf l))],.n .i64 u,.lf mm.length (fQ (iqOf mm)),.lf (nJ l 0) (fQ (cqOf l a))] r→yZ Tryz.prog 12 [.a [.lf (nJ l 0) (fJ (jaOf l)),.lf (nM l 0) (fM (maOf l))],.n .i64 u,zXY mm,.lf (nJ l 0) (fQ (cqOf l a))] r:=fun h=>qYJ (fun _ _ _=>Sames.al (ys:=[_,_,_,_]) ⟨Same.refl _,Same.refl _,ints_same mm,Same.refl _,trivial⟩) h
 match u,hu,jXV l mm u,hlen,hc',@tr with
 | 0,_,[],_,hc',tr=>exact ⟨fun _=>c0,qYU (Same.lf rfl) (zVX (tr (near0 (jaOf l) (maOf l) (cqOf l a) (nJ l 0) (nM l 0) (nJ l 0) c0 c0 mm.length (iqOf mm) (by omega) hc')))⟩
 | 1,_,[c],_,hc',tr =>
  obtain ⟨c',h⟩:=snd_near (jaOf l) (maOf l) (cqOf l a) (nJ l 0) (nM l 0) (nJ l 0) c mm.length (iqOf mm) (by omega) hc'
  exact ⟨fun _=>c',qYU (Same.lf rfl) (zVX (tr h))⟩
 | 2,_,[c,d],_,hc',tr =>
  obtain ⟨c',d',h⟩:=near2 (jaOf l) (maOf l) (cqOf l a) (nJ l 0) (nM l 0) (nJ l 0) c d mm.length (iqOf mm) (by omega) hc'
  exact ⟨fun i=>match i with | 0=>c' | _=>d',qYU (Same.lf rfl) (zVX (tr h))⟩
end Go.Proofs.YthkhihoplfpgmaaGreat.Nz
namespace Go.Proofs.YthkhihoplfpgmaaGreat.Nh3
open Go.Rx Rt Go.Sx Go.RowKit Od Ov Pc Na Nb Nc Nd Nx Nf Ng Nj Nl Nm Nn No Nq Nr Ns Nu Nv Nw Ny Nz
theorem ha_in {js:Nat→J} {ms:Nat→Ms} {q:Nat→Int} {n m k:Nat} {cs:Nat→Cn} {c:Nat} (h:hA js ms q n m k cs c=true):cErr js ms n m cs c=true∧qIn js ms q n m k=true:=by
 unfold Ny.hA hAB at h
 simp only [Bool.and_eq_true] at h
 obtain ⟨hc,hp,_⟩:=h
 obtain ⟨h0,hn,_⟩:=kVK hp
 have h1:=qHJ h0
 unfold pIn insB at hp
 simp only [Bool.and_eq_true] at hp
 have hk:n=k:=by
  cases hs:smQ q k with
  | true=>rw [hs] at hn; exact hn
  | false=>rw [hs] at hn; exact absurd hn (by show ¬ n=0; omega)
 refine ⟨hc,?_⟩
 unfold qIn insQ
 rw [decide_eq_true h0,decide_eq_true (show (n:Int)=(k:Int) by omega)]
 simp only [Bool.true_and]
 refine allN_iff.2 fun i h1 h2 => ?_
 have:=allN_iff.1 hp.2.2 i h1 h2
 unfold Iv.within ptB at this
 simp only [Bool.and_eq_true,decide_eq_true_eq] at this
 rw [decide_eq_true this.1.2,decide_eq_true this.2]; rfl
theorem prj_spec {js:Nat→J} {ms:Nat→Ms} {n m k:Nat} {cs:Nat→Cn} {c:Nat} (hc:cErr js ms n m cs c=true):∀ r j p j' p',qIn js ms p n m k=true→nrm' k p=p→prj js ms n m k cs c r j p=some (j',p')→allH js ms p' n m k cs c=true∧qIn js ms p' n m k=true∧j≤j'∧(j'=j→p'=p)∧(allH js ms p n m k cs c=true→j'=j)
 | 0,j,p,j',p',hq,hn,h=>by
  rw [prj] at h
  cases e:allH js ms p n m k cs c with
  | false=>rw [e] at h; cases h
  | true =>
   rw [e] at h
   cases h
   exact ⟨e,hq,Nat.le_refl _,fun _=>rfl,fun _=>rfl⟩
 | r + 1,j,p,j',p',hq,hn,h=>by
  rw [prj] at h
  cases e:allH js ms p n m k cs c with
  | true =>
   rw [e] at h
   cases h
   exact ⟨e,hq,Nat.le_refl _,fun _=>rfl,fun _=>rfl⟩
  | false =>
   rw [e,cond_false] at h
   obtain ⟨h1,h2⟩:=kZX hc hq hn
   obtain ⟨a,b,d,_,_⟩:=prj_spec hc r (j + 1) _ j' p' h1 h2 h
   exact ⟨a,b,by omega,fun h=>absurd h (by omega),fun h=>by cases h⟩
theorem prj_no {js:Nat→J} {ms:Nat→Ms} {n m k:Nat} {cs:Nat→Cn} {c r j:Nat} {p:Nat→Int} (h:prj js ms n m k cs c r j p=none):allH js ms p n m k cs c=false:=by
 cases e:allH js ms p n m k cs c with
 | false=>rfl
 | true =>
  cases r <;> (rw [prj,e] at h; cases h)
def isIn (js:Nat→J) (ms:Nat→Ms) (n m:Nat) (ps:List PV):Prop:=∃ (q:Nat→Int) (k:Nat),ps=[.a [.lf n (fJ js),.lf m (fM ms)],.lf k (fQ q)]
noncomputable def o_in (js:Nat→J) (ms:Nat→Ms) (n m:Nat):List PV→Option (Bool × Ret):=fun ps=>match ps with
 | [r,.lf k f]=>some (gP (isIn js ms n m [r,.lf k f]),.v (.b (qIn js ms (unFQ f) n m k)))
 | _=>none
theorem ok_in (js:Nat→J) (ms:Nat→Ms) (n m:Nat):zX Tryz.prog 18 (o_in js ms n m):=by
 intro ps r hh
 unfold o_in at hh
 split at hh
 ·simp only [Option.some.injEq,Prod.mk.injEq] at hh
  obtain ⟨hg,rfl⟩:=hh
  obtain ⟨q,k,e⟩:=zXK hg
  simp only [List.cons.injEq,PV.lf.injEq,and_true] at e
  obtain ⟨rfl,rfl,rfl⟩:=e
  exact snd_rqIn js ms _ n m _
 ·cases hh
theorem ok_sm2:zX Tryz.prog 19 kJQ:=by
 intro ps r hh
 unfold kJQ at hh
 split at hh
 ·simp only [Option.some.injEq,Prod.mk.injEq] at hh
  obtain ⟨hg,rfl⟩:=hh
  obtain ⟨q,u,k,l,hk,e⟩:=zXK hg
  simp only [List.cons.injEq,PV.lf.injEq,and_true] at e
  obtain ⟨⟨rfl,rfl⟩,rfl,rfl⟩:=e
  exact snd_sam _ _ _ _ hk
 ·cases hh
theorem gen_law3 (js:Nat→J) (ms:Nat→Ms) (q:Nat→Int) (n m k:Nat) (cs:Nat→Cn) (c:Nat) (L M AL:List (List PV)) (nn rr:Int) (hk:k≤50) (hn:nrm' k q=q) (h0:yZ Tryz.prog 7 [] (.v (.b true))) (h1:yZ Tryz.prog 8 [.l L] (.v (.a [.lf n (fJ js),.lf m (fM ms)]))) (h2:yZ Tryz.prog 9 [.a [.lf n (fJ js),.lf m (fM ms)],.l AL] (.v (.lf k (fQ q)))) (h4:yZ Tryz.prog 12 [.a [.lf n (fJ js),.lf m (fM ms)],.n .i64 (nn % 3),.l M,.lf k (fQ q)] (.v (.lf c (fC cs)))) :
  yZ Tryz.prog 5 [.l L,.l M,.l AL,.n .i64 nn,.n .i64 rr] (.v (.b true)):=by
 refine qG (N:=60) yJ yY (OrL.ok (l:=[(7,o_cr [] (.v (.b true))),(8,o_cr [.l L] (.v (.a [.lf n (fJ js),.lf m (fM ms)]))),(9,o_cr [.a [.lf n (fJ js),.lf m (fM ms)],.l AL] (.v (.lf k (fQ q)))),(13,yKX),(12,o_cr [.a [.lf n (fJ js),.lf m (fM ms)],.n .i64 (nn % 3),.l M,.lf k (fQ q)] (.v (.lf c (fC cs)))),(15,o_cr [.a [.lf n (fJ js),.lf m (fM ms)],.lf c (fC cs),.lf k (fQ q),.n .i64 (rr % 20)] (.v (.t [.lf (prL js ms q n m k cs c (rr % 20)) (fQ (prQ js ms q n m k cs c (rr % 20))),.n .i64 (prJ js ms q n m k cs c (rr % 20)),.b (prB js ms q n m k cs c (rr % 20))]))),(17,o_bq),(16,o_ha js ms n m cs c),(18,o_in js ms n m),(19,kJQ)]) ⟨qYW h0,qYW h1,qYW h2,zVY,qYW h4,qYW (snd_prj js ms q n m k cs c (rr % 20)),ok_rbq,ok_ha js ms n m cs c,ok_in js ms n m,ok_sm2,trivial⟩) ?_
 refine (by kernel_rfl:_=bif (g1 [(.l L)]) then (bif (g1 [.a [.lf n (fJ js),.lf m (fM ms)],(.l AL)]) then (bif (g1 [.a [.lf n (fJ js),.lf m (fM ms)],.n .i64 (nn % 3),(.l M),.lf k (fQ q)]) then (bif (g1 [.a [.lf n (fJ js),.lf m (fM ms)],.lf c (fC cs),.lf k (fQ q),.n .i64 (rr % 20)]) then (bif (prB js ms q n m k cs c (rr % 20)) then (bif (decide (k≤50) && gFQ (fQ q)) then (bif (gP (isHA js ms n m cs c [.a [.lf n (fJ js),.lf m (fM ms)],.lf c (fC cs),.lf (bif smQ q k then k else 0) (fB (ptB q))])) then (bif (hA js ms q n m k cs c) then (bif (g1 []) then (bif (gP (isIn js ms n m [.a [.lf n (fJ js),.lf m (fM ms)],.lf (prL js ms q n m k cs c (rr % 20)) (fQ (prQ js ms q n m k cs c (rr % 20)))])) then (bif (qIn js ms (prQ js ms q n m k cs c (rr % 20)) n m (prL js ms q n m k cs c (rr % 20))) then (bif (decide ((prL js ms q n m k cs c (rr % 20))≤50) && gFQ (fQ (prQ js ms q n m k cs c (rr % 20)))) then (bif (gP (isHA js ms n m cs c [.a [.lf n (fJ js),.lf m (fM ms)],.lf c (fC cs),.lf (bif smQ (prQ js ms q n m k cs c (rr % 20)) (prL js ms q n m k cs c (rr % 20)) then (prL js ms q n m k cs c (rr % 20)) else 0) (fB (ptB (prQ js ms q n m k cs c (rr % 20))))])) then (bif (hA js ms (prQ js ms q n m k cs c (rr % 20)) n m (prL js ms q n m k cs c (rr % 20)) cs c) then (bif (decide ((prJ js ms q n m k cs c (rr % 20))=0)) then (bif (gP (kXU [.lf k (fQ q),.lf (prL js ms q n m k cs c (rr % 20)) (fQ (prQ js ms q n m k cs c (rr % 20)))])) then (bif (smB q (prQ js ms q n m k cs c (rr % 20)) k (prL js ms q n m k cs c (rr % 20))) then some (.v (.b true),[])
 else some (.v (.b false),[]))
 else none)
 else some (.v (.b false),[]))
 else some (.v (.b false),[]))
 else none)
 else none)
 else some (.v (.b false),[]))
 else none)
 else none)
 else bif (g1 []) then (bif (gP (isIn js ms n m [.a [.lf n (fJ js),.lf m (fM ms)],.lf (prL js ms q n m k cs c (rr % 20)) (fQ (prQ js ms q n m k cs c (rr % 20)))])) then (bif (qIn js ms (prQ js ms q n m k cs c (rr % 20)) n m (prL js ms q n m k cs c (rr % 20))) then (bif (decide ((prL js ms q n m k cs c (rr % 20))≤50) && gFQ (fQ (prQ js ms q n m k cs c (rr % 20)))) then (bif (gP (isHA js ms n m cs c [.a [.lf n (fJ js),.lf m (fM ms)],.lf c (fC cs),.lf (bif smQ (prQ js ms q n m k cs c (rr % 20)) (prL js ms q n m k cs c (rr % 20)) then (prL js ms q n m k cs c (rr % 20)) else 0) (fB (ptB (prQ js ms q n m k cs c (rr % 20))))])) then (bif (hA js ms (prQ js ms q n m k cs c (rr % 20)) n m (prL js ms q n m k cs c (rr % 20)) cs c) then (bif (decide ((prJ js ms q n m k cs c (rr % 20))=0)) then some (.v (.b false),[])
 else some (.v (.b true),[]))
 else some (.v (.b false),[]))
 else none)
 else none)
 else some (.v (.b false),[]))
 else none)
 else none)
 else none)
 else none)
 else bif (g1 []) then (bif (decide (((prL js ms q n m k cs c (rr % 20)):Int)=0)) then (bif (decide (k≤50) && gFQ (fQ q)) then (bif (gP (isHA js ms n m cs c [.a [.lf n (fJ js),.lf m (fM ms)],.lf c (fC cs),.lf (bif smQ q k then k else 0) (fB (ptB q))])) then (bif (hA js ms q n m k cs c) then some (.v (.b false),[])
 else some (.v (.b true),[]))
 else none)
 else none)
 else some (.v (.b false),[]))
 else none)
 else none)
 else none)
 else none)
 else none).trans ?_
 have hr:0≤rr % 20∧rr % 20≤64:=by omega
 have hf:∀ p:Nat→Int,gFQ (fQ p)=true:=fun p=>(kZW rfl).1
 have e1:gP (isHA js ms n m cs c [.a [.lf n (fJ js),.lf m (fM ms)],.lf c (fC cs),.lf (bif smQ q k then k else 0) (fB (ptB q))])=true:=jJV ⟨ptB q,_,jQZ hk,rfl⟩
 have hl:prL js ms q n m k cs c (rr % 20)≤50:=prL_le js ms q n m k cs c (rr % 20) hk
 have e2:gP (isHA js ms n m cs c [.a [.lf n (fJ js),.lf m (fM ms)],.lf c (fC cs),.lf (bif smQ (prQ js ms q n m k cs c (rr % 20)) (prL js ms q n m k cs c (rr % 20)) then prL js ms q n m k cs c (rr % 20) else 0) (fB (ptB (prQ js ms q n m k cs c (rr % 20))))])=true:=jJV ⟨ptB (prQ js ms q n m k cs c (rr % 20)),_,jQZ hl,rfl⟩
 have e3:gP (isIn js ms n m [.a [.lf n (fJ js),.lf m (fM ms)],.lf (prL js ms q n m k cs c (rr % 20)) (fQ (prQ js ms q n m k cs c (rr % 20)))])=true:=jJV ⟨_,_,rfl⟩
 have e4:gP (kXU [.lf k (fQ q),.lf (prL js ms q n m k cs c (rr % 20)) (fQ (prQ js ms q n m k cs c (rr % 20)))])=true:=jJV ⟨_,_,_,_,hk,rfl⟩
 simp only [g1_t,decide_eq_true hk,decide_eq_true hl,hf,e1,e2,e3,e4,Bool.and_self,cond_true]
 by_cases hcq:cErr js ms n m cs c=true∧qIn js ms q n m k=true
 ·obtain ⟨hc,hq⟩:=hcq
  have ho:prOk js ms (nrm' k q) n m k cs c (rr % 20)=true:=by unfold prOk; rw [hn,hc,hq,decide_eq_true hr]; rfl
  cases hp:prj js ms n m k cs c (rr % 20).toNat 0 q with
  | none =>
   have hj:pjO js ms (nrm' k q) n m k cs c (rr % 20)=false:=by unfold pjO; rw [hn,hp]; rfl
   have hb:prB js ms q n m k cs c (rr % 20)=false:=by unfold prB; rw [ho,hj]; rfl
   have hL:prL js ms q n m k cs c (rr % 20)=0:=by unfold prL; rw [hb]; rfl
   have hh:hA js ms q n m k cs c=false:=by rw [kHW hc hq]; exact prj_no hp
   rw [hb,hL,hh]
   rfl
  | some x =>
   obtain ⟨j,p⟩:=x
   have hj:pjO js ms (nrm' k q) n m k cs c (rr % 20)=true:=by unfold pjO; rw [hn,hp]; rfl
   have hb:prB js ms q n m k cs c (rr % 20)=true:=by unfold prB; rw [ho,hj]; rfl
   have hL:prL js ms q n m k cs c (rr % 20)=k:=by unfold prL; rw [hb]; rfl
   have hQ':prQ js ms q n m k cs c (rr % 20)=p:=by unfold prQ pjP; rw [hn,hp]
   have hJ:prJ js ms q n m k cs c (rr % 20)=(j:Int):=by unfold prJ; rw [ho,hj]; unfold pjJ; rw [hn,hp]; rfl
   obtain ⟨a,b,d,e,g⟩:=prj_spec hc _ 0 q j p hq hn hp
   have hhp:hA js ms p n m k cs c=true:=by rw [kHW hc b]; exact a
   have hhq:=kHW (cs:=cs) (c:=c) hc hq
   rw [hb,hL,hQ',hJ,b,hhp]
   cases eq:allH js ms q n m k cs c with
   | true =>
    have j0:=g eq
    subst j0
    have p0:=e rfl
    subst p0
    have hs:smB p p k k=true:=by
     unfold smB
     rw [decide_eq_true rfl,Bool.true_and]
     exact allN_iff.2 fun i _ _=>decide_eq_true rfl
    rw [hhq,eq,hs]
    rfl
   | false =>
    have hj0:¬ (j:Int)=0:=fun h=>by
     have:=e (by omega)
     subst this
     rw [a] at eq; cases eq
    rw [hhq,eq,decide_eq_false hj0]
    rfl
 ·have ho:prOk js ms (nrm' k q) n m k cs c (rr % 20)=false:=by
   unfold prOk
   rw [hn]
   cases hc:cErr js ms n m cs c with
   | false=>rfl
   | true =>
    cases hq:qIn js ms q n m k with
    | false=>rfl
    | true=>exact absurd ⟨hc,hq⟩ hcq
  have hb:prB js ms q n m k cs c (rr % 20)=false:=by unfold prB; rw [ho]; rfl
  have hL:prL js ms q n m k cs c (rr % 20)=0:=by unfold prL; rw [hb]; rfl
  have hh:hA js ms q n m k cs c=false:=by
   cases e:hA js ms q n m k cs c with
   | false=>rfl
   | true=>exact absurd (ha_in e) hcq
  rw [hb,hL,hh]
  rfl
theorem iq_nrm (l:List Int):nrm' l.length (iqOf l)=iqOf l:=by
 funext i
 by_cases h:i < l.length
 ·exact jQX h
 ·unfold nrm' iqOf
  rw [decide_eq_false h]
  simp [List.getD_eq_getElem?_getD,List.getElem?_eq_none (show l.length≤i by omega)]
theorem snd_law3 (l mm a:List Int) (nn rr:Int) (hl:l.length≤9223372036854775807) (hm:mm.length≤9223372036854775807) (ha:a.length≤9223372036854775807) (h0:yZ Tryz.prog 7 [] (.v (.b true))) :
  yZ Tryz.prog 5 [zXY l,zXY mm,zXY a,.n .i64 nn,.n .i64 rr] (.v (.b true)):=by
 have hb:=nJ_b l 0
 have hw:nn % 3=(((nn % 3).toNat:Nat):Int):=by omega
 obtain ⟨ce,he⟩:=snd_nearV (l:=l) (mm:=mm) (a:=a) (u:=(nn % 3).toNat) (by omega) hm
 rw [← hw] at he
 have hn:=iq_nrm (kQQ l a)
 rw [yGV] at hn
 exact gen_law3 (jaOf l) (maOf l) (cqOf l a) (nJ l 0) (nM l 0) (nJ l 0) ce (nn % 3).toNat _ _ _ nn rr (by omega) hn h0 (snd_robF hl) (snd_cfgF ha) he
end Go.Proofs.YthkhihoplfpgmaaGreat.Nh3

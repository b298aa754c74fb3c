/- Part 14 of the texts behind the last one: rules and contracts. No condition. -/
import Derived.Test.YtmffoiemmlcmfaaGreatPN13
open Option.some renaming injEq → vQZ
open Prod.mk renaming injEq → vQY
open Bool renaming and_eq_true → vQJ, and_self → vZJ, true_and → vZH
open Go.IntKind renaming wrap → vJZ
namespace Go.Proofs.YtmffoiemmlcmfaaGreat.Nw
open Go.Rx Rt Go.Sx Go.RowKit Od Ov Pc Na Nb Nc Nd Nx Nf Ng Nj Nl Nm Nn No Nq Nr Ns Nu Nv
def nrm' (k:Nat) (p:Nat→Int):Nat→Int:=fun i=>bif decide (i < k) then p i else 0
theorem jWJ {k:Nat} {p:Nat→Int} {i:Nat} (h:i < k):nrm' k p i=p i:=by unfold nrm'; rw [vYG h]; rfl
theorem jJG (k:Nat) (p:Nat→Int):nrm' k (nrm' k p)=nrm' k p:=by
 funext i;by_cases h:i < k
 ·rw [jWJ h]
 ·unfold nrm';rw [vYV h]; rfl
theorem nrm_ext {k:Nat} {p u:Nat→Int} (h:∀ i,i < k→p i=u i):nrm' k p=nrm' k u:=by
 funext i;by_cases hi:i < k
 ·rw [jWJ hi,jWJ hi,h i hi]
 ·unfold nrm';rw [vYV hi]; rfl
theorem nrm_same (k:Nat) (p:Nat→Int):Same (.lf k (fQ p)) (.lf k (fQ (nrm' k p))):=zHY fun j hj=>by show [PV.n .i64 _]=[PV.n .i64 _]; rw [jWJ hj]
noncomputable def stN (js:Nat→J) (ms:Nat→Ms) (q:Nat→Int) (n m k:Nat) (c:Cn):Nat→Int:=nrm' k (stQ js ms q n m k c)
theorem stN_in {js:Nat→J} {ms:Nat→Ms} {q:Nat→Int} {n m k:Nat} {c:Cn} (h:gOk js ms q n m k c=true):qIn js ms (stN js ms q n m k c) n m k=true:=by
 obtain ⟨_,hq,h0,hnk,_,h1,h10⟩:=zUJ h;obtain ⟨_,_,hin⟩:=qUU hq;unfold qIn insQ;rw [vYG h0,vYG (show (n:Int)=(k:Int) by omega)];simp only [vZH];refine allN_iff.2 fun i _ hi => ?_
 have hl:=(yQZ h0 i (by omega)).2.1;have hb:=hin i (by omega)
 have:(js i).lo≤stN js ms q n m k c i∧stN js ms q n m k c i≤(js i).hi:=by
  unfold stN;rw [jWJ (by omega)];unfold stQ;cases hQ js ms q n m k c || decide (sS js ms q n m k c=0) with
  | true=>exact hb
  | false =>
   show (js i).lo≤nxE js ms q n m k c i∧nxE js ms q n m k c i≤(js i).hi;unfold nxE;omega
 rw [vYG this.1,vYG this.2]; rfl
theorem snd_stpN (js:Nat→J) (ms:Nat→Ms) (q:Nat→Int) (n m k:Nat) (c:Cn) (hk:k≤50):zH Tryz.prog 66 [.a [.lf n (fJ js),.lf m (fM ms)],.a (cp c),.lf k (fQ q)] (.v (.t [.lf (gN js ms q n m k c) (fQ (stN js ms q n m k c)),.b (gOk js ms q n m k c)])):=by
 refine qYJ (Same.t (xs:=[_,_]) ⟨?_,Same.refl _,trivial⟩) (snd_stp js ms q n m k c hk);cases h:gOk js ms q n m k c with
 | true =>
  rw [(zUJ h).2.2.2.2.1];exact nrm_same _ _
 | false=>rw [show gN js ms q n m k c=0 by unfold gN; rw [h]; rfl]; exact zHY fun j hj=>absurd hj (by omega)
def isSp (js:Nat→J) (ms:Nat→Ms) (n m:Nat) (ps:List PV):Prop:=∃ (q:Nat→Int) (k:Nat) (c:Cn),k≤50∧ps=[.a [.lf n (fJ js),.lf m (fM ms)],.a (cp c),.lf k (fQ q)]
def unC (ps:List PV):Cn:=match ps with
 | [.n _ a,.n _ b,.n _ c,.n _ d,.n _ e,.n _ f,.n _ g,.n _ h,.n _ i,.n _ j]=>⟨a,b,⟨c,d,e⟩,⟨f,g,h⟩,i,j⟩
 | _=>⟨0,0,⟨0,0,0⟩,⟨0,0,0⟩,0,0⟩
noncomputable def o_sp (js:Nat→J) (ms:Nat→Ms) (n m:Nat):List PV→Option (Bool × Ret):=fun ps=>match ps with
 | [r,.a c',.lf k f]=>some (gP (isSp js ms n m [r,.a c',.lf k f]),.v (.t [.lf (gN js ms (unFQ f) n m k (unC c')) (fQ (stN js ms (unFQ f) n m k (unC c'))),.b (gOk js ms (unFQ f) n m k (unC c'))]))
 | _=>none
theorem ok_sp (js:Nat→J) (ms:Nat→Ms) (n m:Nat):zW Tryz.prog 66 (o_sp js ms n m):=by
 intro ps r hh;unfold o_sp at hh;split at hh
 ·simp only [vQZ,vQY] at hh;obtain ⟨hg,rfl⟩:=hh;obtain ⟨q,k,c,hk,e⟩:=qWK hg;simp only [List.cons.injEq,PV.a.injEq,PV.lf.injEq,and_true] at e;obtain ⟨rfl,rfl,rfl,rfl⟩:=e;exact snd_stpN js ms _ n m _ _ hk
 ·cases hh
noncomputable def orIm (js:Nat→J) (ms:Nat→Ms) (q:Nat→Int) (n m k:Nat) (cs:Nat→Cn) (c:Nat):OrL:=[(66,o_sp js ms n m)]
noncomputable def hIm (js:Nat→J) (ms:Nat→Ms) (q:Nat→Int) (n m k:Nat) (cs:Nat→Cn) (c:Nat) (i:Int) (r:Nat) (p:Nat→Int):St:=⟨[(2,.v (.lf r (fQ p))),(3,.p 3 0),(9,.v (.lf c (fC cs))),(10,.v (.n .i64 (c:Int))),(11,.v (.n .i64 i))],[(3,.blk [.v (.lf n (fJ js)),.v (.lf m (fM ms))])]⟩
set_option maxRecDepth 100000 in
theorem rdIm (G:St→Option (Ret × Mem)) (K:Cont) (js:Nat→J) (ms:Nat→Ms) (q:Nat→Int) (n m k:Nat) (cs:Nat→Cn) (c:Nat) (i:Int) (r:Nat) (p:Nat→Int):qXW 60 (cxF Tf (OrL.k (orIm js ms q n m k cs c)) 60 39 (ntmF Tf 39)) (ckF Tf (OrL.k (orIm js ms q n m k cs c)) 60) (zX []) (qK Tf 39 [0,1,0,1]) [0,1,0,1] (Tf.hint 39 (zJ (qK Tf 39 [0,1,0,1]))) K G (hIm js ms q n m k cs c i r p) =
 (bif (decide (i < (c:Int))) then (bif (inB i c) then (bif (gP (isSp js ms n m [.a [.lf n (fJ js),.lf m (fM ms)],.a [.n .i64 (cs (i).toNat).kind,.n .i64 (cs (i).toNat).link,.n .i64 (cs (i).toNat).p.x,.n .i64 (cs (i).toNat).p.y,.n .i64 (cs (i).toNat).p.z,.n .i64 (cs (i).toNat).n.x,.n .i64 (cs (i).toNat).n.y,.n .i64 (cs (i).toNat).n.z,.n .i64 (cs (i).toNat).lo,.n .i64 (cs (i).toNat).hi],.lf r (fQ p)])) then (bif (gOk js ms p n m r (cs (i).toNat)) then (G (hIm js ms q n m k cs c (vJZ .i64 (i + 1)) (gN js ms p n m r (cs (i).toNat)) (stN js ms p n m r (cs (i).toNat))))
 else (G (hIm js ms q n m k cs c (vJZ .i64 (i + 1)) (gN js ms p n m r (cs (i).toNat)) (stN js ms p n m r (cs (i).toNat)))))
 else none)
 else none)
 else (K (.exit 0) ⟨[(2,.v (.lf r (fQ p)))],[]⟩)):=by kernel_rfl
noncomputable def impQ (js:Nat→J) (ms:Nat→Ms) (q:Nat→Int) (n m k:Nat) (cs:Nat→Cn) (c:Nat):Nat→Int:=zHJ (fun (i:Nat) (p:Nat→Int)=>stN js ms p n m k (cs i)) c 0 q
theorem kXW {js:Nat→J} {ms:Nat→Ms} {p:Nat→Int} {n m k:Nat} {cs:Nat→Cn} {c:Nat} (hc:cErr js ms n m cs c=true) (hq:qIn js ms p n m k=true) {i:Nat} (hi:i < c):gOk js ms p n m k (cs i)=true:=by
 unfold gOk;rw [jXQ hc hi,hq]; rfl
theorem lpIm (K:Cont) (js:Nat→J) (ms:Nat→Ms) (q:Nat→Int) (n m k:Nat) (cs:Nat→Cn) (c:Nat) (hc:cErr js ms n m cs c=true) (hq:qIn js ms q n m k=true):LFL 60 (cxF Tf (OrL.k (orIm js ms q n m k cs c)) 60 39 (ntmF Tf 39)) (ckF Tf (OrL.k (orIm js ms q n m k cs c)) 60) (zX []) (qK Tf 39 [0,1,0,1]) [0,1,0,1] (Tf.hint 39 (zJ (qK Tf 39 [0,1,0,1]))) K 60 (hIm js ms q n m k cs c 0 k q)=(K (.exit 0) ⟨[(2,.v (.lf k (fQ (impQ js ms q n m k cs c))))],[]⟩):=by
 obtain ⟨_,h8,_⟩:=qVW hc;refine (zYX (L:=LFL 60 (cxF Tf (OrL.k (orIm js ms q n m k cs c)) 60 39 (ntmF Tf 39)) (ckF Tf (OrL.k (orIm js ms q n m k cs c)) 60) (zX []) (qK Tf 39 [0,1,0,1]) [0,1,0,1] (Tf.hint 39 (zJ (qK Tf 39 [0,1,0,1]))) K) (stp:=qXW 60 (cxF Tf (OrL.k (orIm js ms q n m k cs c)) 60 39 (ntmF Tf 39)) (ckF Tf (OrL.k (orIm js ms q n m k cs c)) 60) (zX []) (qK Tf 39 [0,1,0,1]) [0,1,0,1] (Tf.hint 39 (zJ (qK Tf 39 [0,1,0,1]))) K) (fun _ _=>rfl) (fun (i:Nat) (p:Nat→Int)=>hIm js ms q n m k cs c (i:Int) k p) (fun _ p=>qIn js ms p n m k=true) (fun _ _=>true) (fun (i:Nat) (p:Nat→Int)=>stN js ms p n m k (cs i)) (c:=c) (fun p=>(K (.exit 0) ⟨[(2,.v (.lf k (fQ p)))],[]⟩)) (fun _ _=>none) (fun G i p hi hv => ?_) (fun i p hi hv _=>stN_in (kXW hc hv hi)) (fun G p _ => ?_) c 0 60 q (by omega) (by omega) hq).trans (zXW c 0 _)
 ·refine (rdIm G K js ms q n m k cs c i k p).trans ?_;have hg:=kXW hc hv hi;obtain ⟨_,_,_,hnk,hgk,h1,h10⟩:=zUJ hg;have hs:gP (isSp js ms n m [.a [.lf n (fJ js),.lf m (fM ms)],.a (cp (cs i)),.lf k (fQ p)])=true:=zUK ⟨p,k,cs i,by omega,rfl⟩;simp only [vYG (show (i:Int) < (c:Int) by omega),qZZ (show i < 1000000 by omega),jY (show i < c by omega),toN,cond_true];refine (congrArg (fun b=>bif b then _ else none) hs).trans ?_;rw [cond_true,hg,cond_true,hgk]
 ·refine (rdIm G K js ms q n m k cs c c k p).trans ?_;rw [vYV (show ¬ (c:Int) < (c:Int) by omega)];rfl
noncomputable def kHH (js:Nat→J) (ms:Nat→Ms) (q:Nat→Int) (n m k:Nat) (cs:Nat→Cn) (c:Nat):List (List Nat × qUG):=[([0,1,0,1],sumF (fun _:Unit=>(hIm js ms q n m k cs c 0 k q)) (fun _=>()) (fun _ K=>(bif (cErr js ms n m cs c && qIn js ms q n m k) then (K (.exit 0) ⟨[(2,.v (.lf k (fQ (impQ js ms q n m k cs c))))],[]⟩) else none)))]
set_option maxRecDepth 100000 in
theorem pximp (js:Nat→J) (ms:Nat→Ms) (q:Nat→Int) (n m k:Nat) (cs:Nat→Cn) (c:Nat):qKZ Tf (OrL.k (orIm js ms q n m k cs c)) (zX (kHH js ms q n m k cs c)) 60 39 [.a [.lf n (fJ js),.lf m (fM ms)],.lf c (fC cs),.lf k (fQ q)] =
 (bif (gSt (hIm js ms q n m k cs c 0 k q) (hIm js ms q n m k cs c 0 k q)) then (bif (cErr js ms n m cs c && qIn js ms q n m k) then some (.v (.lf k (fQ (impQ js ms q n m k cs c))),[])
 else none)
 else none):=by kernel_rfl
theorem snd_imp (js:Nat→J) (ms:Nat→Ms) (q:Nat→Int) (n m k:Nat) (cs:Nat→Cn) (c:Nat) (hc:cErr js ms n m cs c=true) (hq:qIn js ms q n m k=true):zH Tryz.prog 39 [.a [.lf n (fJ js),.lf m (fM ms)],.lf c (fC cs),.lf k (fQ q)] (.v (.lf k (fQ (impQ js ms q n m k cs c)))):=by
 refine qQX (N:=60) (LO:=zX (kHH js ms q n m k cs c)) zJK yY (OrL.ok (l:=(orIm js ms q n m k cs c)) ⟨ok_sp js ms n m,trivial⟩) (fun p S hp => ?_) ?_
 ·refine qQG (L:=qK Tf 39) (l:=(kHH js ms q n m k cs c)) (show AllP _ (kHH js ms q n m k cs c) from ⟨?_,trivial⟩) p S hp
  ·dsimp only;refine qWJ (T:=Tf) (ok:=(OrL.k (orIm js ms q n m k cs c))) (f:=39) (LO:=zX []) (p:=[0,1,0,1]) qGX ?_;intro _ K r hr;obtain ⟨hg,hr⟩:=zQ hr;rw [vQJ] at hg;exact (lpIm K js ms q n m k cs c hg.1 hg.2).trans hr
 ·refine (pximp js ms q n m k cs c).trans ?_;rw [jU,hc,hq];rfl
noncomputable def hB (js:Nat→J) (ms:Nat→Ms) (bx:Nat→Iv) (n m kk:Nat) (c:Cn):Bool:=cErr js ms n m (fun _=>c) 1 && (pIn js ms bx n m kk && yQW (fun _=>c) (vI js bx n (fun _=>c)) 1)
noncomputable def allH (js:Nat→J) (ms:Nat→Ms) (q:Nat→Int) (n m k:Nat) (cs:Nat→Cn) (c:Nat):Bool:=allN (fun i=>hQ js ms q n m k (cs i)) c 0
theorem jGG {js:Nat→J} {ms:Nat→Ms} {q:Nat→Int} {n m k:Nat} (h:qIn js ms q n m k=true):smQ q k=true∧pIn js ms (ptB q) n m k=true:=by
 obtain ⟨h0,hn,hin⟩:=qUU h;have hs:smQ q k=true:=allN_iff.2 fun i _ hi=>by
  have h1:=yQZ h0 i (by omega);have h2:=hin i (by omega);rw [vYV (show ¬ q i < -2147483648 by omega),vYV (show ¬ 2147483648 < q i by omega)]; rfl
 refine ⟨hs,?_⟩;unfold pIn insB;rw [vYG h0,vYG (show (n:Int)=(k:Int) by omega)];simp only [vZH];refine allN_iff.2 fun i _ hi => ?_
 have h1:=yQZ h0 i (by omega);have h2:=hin i (by omega);unfold Iv.within Iv.valid ptB;simp only [vQJ,decide_eq_true_eq];omega
theorem allH_eq {js:Nat→J} {ms:Nat→Ms} {q:Nat→Int} {n m k:Nat} {cs:Nat→Cn} {c:Nat} (hc:cErr js ms n m cs c=true) (hq:qIn js ms q n m k=true):(cErr js ms n m cs c && (pIn js ms (ptB q) n m (bif smQ q k then k else 0) && yQW cs (vI js (ptB q) n cs) c))=allH js ms q n m k cs c:=by
 obtain ⟨hs,hp⟩:=jGG hq;rw [hc,hs,cond_true,hp];simp only [vZH];unfold yQW allH;refine yKW fun i _ hi => ?_
 unfold Nr.hQ;rw [jXQ hc (by omega),hs,cond_true,hp];show _=(true && (true && (inR (cs i) (vI js (ptB q) n (fun _=>cs i) 0) && true)));rw [vZH,vZH,Bool.and_true];rfl
def isHb (js:Nat→J) (ms:Nat→Ms) (n m:Nat) (ps:List PV):Prop:=∃ (bx:Nat→Iv) (kk:Nat) (c:Cn),ps=[.a [.lf n (fJ js),.lf m (fM ms)],.l [cp c],.lf kk (fB bx)]
noncomputable def o_hb (js:Nat→J) (ms:Nat→Ms) (n m:Nat):List PV→Option (Bool × Ret):=fun ps=>match ps with
 | [r,.l [c'],.lf k f]=>some (gP (isHb js ms n m [r,.l [c'],.lf k f]),.v (.b (hB js ms (unFB f) n m k (unC c'))))
 | _=>none
theorem ok_hb (js:Nat→J) (ms:Nat→Ms) (n m:Nat):zW Tryz.prog 29 (o_hb js ms n m):=by
 intro ps r hh;unfold o_hb at hh;split at hh
 ·simp only [vQZ,vQY] at hh;obtain ⟨hg,rfl⟩:=hh;obtain ⟨bx,kk,c,e⟩:=qWK hg;simp only [List.cons.injEq,PV.l.injEq,PV.lf.injEq,and_true] at e;obtain ⟨rfl,rfl,rfl,rfl⟩:=e;exact qYG (fun _ _ _=>Sames.al (ys:=[_,_,_]) ⟨Same.refl _,Same.lf rfl,Same.refl _,trivial⟩) (kXY js ms _ n m _ (fun _=>_) 1)
 ·cases hh
noncomputable def o_bq:List PV→Option (Bool × Ret):=fun ps=>match ps with
 | [.lf k f]=>some (decide (k≤50) && gFQ f,.v (.lf (bif smQ (unFQ f) k then k else 0) (fB (ptB (unFQ f)))))
 | _=>none
theorem ok_bq:zW Tryz.prog 30 o_bq:=by
 intro ps r hh;unfold o_bq at hh;split at hh
 ·simp only [vQZ,vQY,vQJ] at hh;obtain ⟨⟨hk,hf⟩,rfl⟩:=hh;rename_i k f
  have:=kXZ (unFQ f) k (vYH hk)
  rw [← jZX hf] at this;exact this
 ·cases hh
theorem ok_rbq:zW Tryz.prog 13 o_bq:=by
 intro ps r hh;unfold o_bq at hh;split at hh
 ·simp only [vQZ,vQY,vQJ] at hh;obtain ⟨⟨hk,hf⟩,rfl⟩:=hh;rename_i k f
  have:=zYG (unFQ f) k (vYH hk)
  rw [← jZX hf] at this;exact this
 ·cases hh
def isIm (js:Nat→J) (ms:Nat→Ms) (n m:Nat) (cs:Nat→Cn) (c:Nat) (ps:List PV):Prop:=∃ (q:Nat→Int) (k:Nat),cErr js ms n m cs c=true∧qIn js ms q n m k=true∧ps=[.a [.lf n (fJ js),.lf m (fM ms)],.lf c (fC cs),.lf k (fQ q)]
noncomputable def o_im (js:Nat→J) (ms:Nat→Ms) (n m:Nat) (cs:Nat→Cn) (c:Nat):List PV→Option (Bool × Ret):=fun ps=>match ps with
 | [r,l,.lf k f]=>some (gP (isIm js ms n m cs c [r,l,.lf k f]),.v (.lf k (fQ (impQ js ms (unFQ f) n m k cs c))))
 | _=>none
theorem ok_im (js:Nat→J) (ms:Nat→Ms) (n m:Nat) (cs:Nat→Cn) (c:Nat):zW Tryz.prog 39 (o_im js ms n m cs c):=by
 intro ps r hh;unfold o_im at hh;split at hh
 ·simp only [vQZ,vQY] at hh;obtain ⟨hg,rfl⟩:=hh;obtain ⟨q,k,hc,hq,e⟩:=qWK hg;simp only [List.cons.injEq,PV.lf.injEq,and_true] at e;obtain ⟨rfl,rfl,rfl,rfl⟩:=e;exact snd_imp js ms _ n m _ cs c hc hq
 ·cases hh
theorem snd_cl2 (q:Nat→Int) (k:Nat) (h:1≤k∧k≤10):zH Tryz.prog 31 [.lf k (fQ q)] (.v (.lf k (fQ q))):=jYZ (zHV q k h)
def hEu (q u:Nat→Int) (k l:Nat) (i:Int):St:=⟨[(0,.v (.lf k (fQ q))),(1,.v (.lf l (fQ u))),(12,.v (.n .i64 (k:Int))),(13,.v (.n .i64 i))],[]⟩
set_option maxRecDepth 100000 in
theorem rdEu (G:St→Option (Ret × Mem)) (K:Cont) (q u:Nat→Int) (k l:Nat) (i:Int):zJH 60 (cxF T (OrL.k ([]:OrL)) 60 40 (ntmF T 40)) (ckF T (OrL.k ([]:OrL)) 60) (qK T 40 [0,1,0,1,1]) ((cxF T (OrL.k ([]:OrL)) 60 40 (ntmF T 40)).T.hint (cxF T (OrL.k ([]:OrL)) 60 40 (ntmF T 40)).me (zJ (qK T 40 [0,1,0,1,1]))) K G (hEu q u k l i) =
 (bif (decide (i < (k:Int))) then (bif (inB i k) then (bif (inB i l) then (bif (!decide ((q (i).toNat)=(u (i).toNat))) then (K .ret ⟨[(4,.v (.b false))],[]⟩)
 else (G (hEu q u k l (vJZ .i64 (i + 1)))))
 else none)
 else none)
 else (K (.exit 0) ⟨[],[]⟩)):=by kernel_rfl
theorem lpEu (K:Cont) (q u:Nat→Int) (k l:Nat) (hk:k≤50) (hl:k=l):LF 60 (cxF T (OrL.k ([]:OrL)) 60 40 (ntmF T 40)) (ckF T (OrL.k ([]:OrL)) 60) (qK T 40 [0,1,0,1,1]) ((cxF T (OrL.k ([]:OrL)) 60 40 (ntmF T 40)).T.hint (cxF T (OrL.k ([]:OrL)) 60 40 (ntmF T 40)).me (zJ (qK T 40 [0,1,0,1,1]))) K 60 (hEu q u k l 0)=bif (allN (fun i:Nat=>decide (q i=u i)) k 0) then (K (.exit 0) ⟨[],[]⟩) else (K .ret ⟨[(4,.v (.b false))],[]⟩):=by
 refine (zJU (c:=k) (hEu q u k l) (fun i:Nat=>decide (q i=u i)) (K (.exit 0) ⟨[],[]⟩) (fun i:Nat=>(K .ret ⟨[(4,.v (.b false))],[]⟩)) (fun G i hi => ?_) (fun G => ?_) k 0 60 (by omega) (by omega)).trans (qYV _ _ _ _ _)
 ·refine (rdEu G K q u k l i).trans ?_;rw [vYG (show (i:Int) < (k:Int) by omega),qZZ (by omega),jY (show i < k by omega),jY (show i < l by omega),toN];cases decide (q i=u i) <;> rfl
 ·refine (rdEu G K q u k l k).trans ?_;rw [vYV (show ¬ (k:Int) < (k:Int) by omega)];rfl
set_option maxRecDepth 100000 in
theorem pxeql (q u:Nat→Int) (k l:Nat):qKZ T (OrL.k ([]:OrL)) (zX [([0,1,0,1,1],jV (hEu q u k l 0) (fun K=>(bif (decide (k≤50) && decide (k=l)) then (bif (allN (fun i:Nat=>decide (q i=u i)) k 0) then (K (.exit 0) ⟨[],[]⟩) else (K .ret ⟨[(4,.v (.b false))],[]⟩)) else none)))]) 60 40 [.lf k (fQ q),.lf l (fQ u)] =
 (bif (!decide ((k:Int)=(l:Int))) then some (.v (.b false),[])
 else (bif (gSt (hEu q u k l 0) (hEu q u k l 0)) then (bif (decide (k≤50) && decide (k=l)) then (bif (allN (fun i:Nat=>decide (q i=u i)) k 0) then some (.v (.b true),[])
 else some (.v (.b false),[]))
 else none)
 else none)):=by kernel_rfl
theorem snd_eql (q u:Nat→Int) (k l:Nat) (hk:k≤50):zH Tryz.prog 40 [.lf k (fQ q),.lf l (fQ u)] (.v (.b (smB q u k l))):=by
 refine jH (N:=60) (LO:=zX [([0,1,0,1,1],jV (hEu q u k l 0) (fun K=>(bif (decide (k≤50) && decide (k=l)) then (bif (allN (fun i:Nat=>decide (q i=u i)) k 0) then (K (.exit 0) ⟨[],[]⟩) else (K .ret ⟨[(4,.v (.b false))],[]⟩)) else none)))]) yJ yY (OrL.ok (l:=([]:OrL)) trivial) (fun p S hp => ?_) ?_
 ·refine uK (L:=qK T 40) (l:=[([0,1,0,1,1],jV (hEu q u k l 0) (fun K=>(bif (decide (k≤50) && decide (k=l)) then (bif (allN (fun i:Nat=>decide (q i=u i)) k 0) then (K (.exit 0) ⟨[],[]⟩) else (K .ret ⟨[(4,.v (.b false))],[]⟩)) else none)))]) (show AllP _ [([0,1,0,1,1],jV (hEu q u k l 0) (fun K=>(bif (decide (k≤50) && decide (k=l)) then (bif (allN (fun i:Nat=>decide (q i=u i)) k 0) then (K (.exit 0) ⟨[],[]⟩) else (K .ret ⟨[(4,.v (.b false))],[]⟩)) else none)))] from ⟨qQK fun K r hr => ?_,trivial⟩) p S hp
  ·obtain ⟨hg,hr⟩:=zQ hr;rw [vQJ] at hg;have hk:=vYH hg.1;have hl:=vYH hg.2;exact (lpEu K q u k l hk hl).trans hr
 ·refine (pxeql q u k l).trans ?_;unfold smB;by_cases e:k=l
  ·rw [jU,vYG hk,vYG e,vYG (show (k:Int)=(l:Int) by omega)];cases (allN (fun i:Nat=>decide (q i=u i)) k 0) <;> rfl
  ·rw [vYV (show ¬ (k:Int)=(l:Int) by omega)];rfl
def kUU (ps:List PV):Prop:=∃ (q u:Nat→Int) (k l:Nat),k≤50∧ps=[.lf k (fQ q),.lf l (fQ u)]
noncomputable def kUZ:List PV→Option (Bool × Ret):=fun ps=>match ps with
 | [.lf k f,.lf l g]=>some (gP (kUU [.lf k f,.lf l g]),.v (.b (smB (unFQ f) (unFQ g) k l)))
 | _=>none
theorem ok_eq2:zW Tryz.prog 40 kUZ:=by
 intro ps r hh;unfold kUZ at hh;split at hh
 ·simp only [vQZ,vQY] at hh;obtain ⟨hg,rfl⟩:=hh;obtain ⟨q,u,k,l,hk,e⟩:=qWK hg;simp only [List.cons.injEq,PV.lf.injEq,and_true] at e;obtain ⟨⟨rfl,rfl⟩,rfl,rfl⟩:=e;exact snd_eql _ _ _ _ hk
 ·cases hh
noncomputable def orPa (js:Nat→J) (ms:Nat→Ms) (q:Nat→Int) (n m k:Nat) (cs:Nat→Cn) (c:Nat) (rs:Int):OrL:=[(27,o_cr [.a [.lf n (fJ js),.lf m (fM ms)],.lf c (fC cs)] (.v (.b (cErr js ms n m cs c)))),(28,o_cr [.a [.lf n (fJ js),.lf m (fM ms)],.lf k (fQ q)] (.v (.b (qIn js ms q n m k)))),(31,o_lk [.lf k (fQ q)] (decide (1≤k∧k≤10)) (.v (.lf k (fQ q)))),(30,o_bq),(29,o_hb js ms n m),(39,o_im js ms n m cs c),(40,kUZ)]
noncomputable def hPa (js:Nat→J) (ms:Nat→Ms) (q:Nat→Int) (n m k:Nat) (cs:Nat→Cn) (c:Nat) (rs:Int) (i:Int) (s:Int) (r:Nat) (p:Nat→Int):St:=⟨[(1,.v (.lf c (fC cs))),(2,.v (.lf r (fQ p))),(3,.v (.n .i64 rs)),(4,.p 4 0),(11,.v (.n .i64 s)),(40,.v (.lf c (fC cs))),(41,.v (.n .i64 (c:Int))),(42,.v (.n .i64 i))],[(4,.blk [.v (.lf n (fJ js)),.v (.lf m (fM ms))])]⟩
set_option maxRecDepth 100000 in
theorem rdPa (G:St→Option (Ret × Mem)) (K:Cont) (js:Nat→J) (ms:Nat→Ms) (q:Nat→Int) (n m k:Nat) (cs:Nat→Cn) (c:Nat) (rs:Int) (i:Int) (s:Int) (r:Nat) (p:Nat→Int):qXW 100 (cxF Tf (OrL.k (orPa js ms q n m k cs c rs)) 100 17 (ntmF Tf 17)) (ckF Tf (OrL.k (orPa js ms q n m k cs c rs)) 100) (zX []) (qK Tf 17 [0,1,0,0,0,1,0,0,1,0,1,1,1,0,1]) [0,1,0,0,0,1,0,0,1,0,1,1,1,0,1] (Tf.hint 17 (zJ (qK Tf 17 [0,1,0,0,0,1,0,0,1,0,1,1,1,0,1]))) K G (hPa js ms q n m k cs c rs i s r p) =
 (bif (decide (i < (c:Int))) then (bif (inB i c) then (bif (decide (r≤50) && gFQ (fQ p)) then (bif (gP (isHb js ms n m [.a [.lf n (fJ js),.lf m (fM ms)],.l [[.n .i64 (cs (i).toNat).kind,.n .i64 (cs (i).toNat).link,.n .i64 (cs (i).toNat).p.x,.n .i64 (cs (i).toNat).p.y,.n .i64 (cs (i).toNat).p.z,.n .i64 (cs (i).toNat).n.x,.n .i64 (cs (i).toNat).n.y,.n .i64 (cs (i).toNat).n.z,.n .i64 (cs (i).toNat).lo,.n .i64 (cs (i).toNat).hi]],.lf (bif smQ p r then r else 0) (fB (ptB p))])) then (bif (hQ js ms p n m r (cs (i).toNat)) then (G (hPa js ms q n m k cs c rs (vJZ .i64 (i + 1)) s r p))
 else (bif (decide (s=rs)) then (K (.exit 0) ⟨[(1,.v (.lf c (fC cs))),(2,.v (.lf r (fQ p))),(3,.v (.n .i64 rs)),(4,.p 4 0),(11,.v (.n .i64 s))],[(4,.blk [.v (.lf n (fJ js)),.v (.lf m (fM ms))])]⟩)
 else (bif (gP (isIm js ms n m cs c [.a [.lf n (fJ js),.lf m (fM ms)],.lf c (fC cs),.lf r (fQ p)])) then (bif (gP (kUU [.lf r (fQ (impQ js ms p n m r cs c)),.lf r (fQ p)])) then (bif (smB (impQ js ms p n m r cs c) p r r) then (K (.exit 0) ⟨[(1,.v (.lf c (fC cs))),(2,.v (.lf r (fQ p))),(3,.v (.n .i64 rs)),(4,.p 4 0),(11,.v (.n .i64 s))],[(4,.blk [.v (.lf n (fJ js)),.v (.lf m (fM ms))])]⟩)
 else (K (.exit 1) ⟨[(1,.v (.lf c (fC cs))),(2,.v (.lf r (fQ (impQ js ms p n m r cs c)))),(3,.v (.n .i64 rs)),(4,.p 4 0),(11,.v (.n .i64 s))],[(4,.blk [.v (.lf n (fJ js)),.v (.lf m (fM ms))])]⟩))
 else none)
 else none)))
 else none)
 else none)
 else none)
 else (K (.exit 2) ⟨[(1,.v (.lf c (fC cs))),(2,.v (.lf r (fQ p))),(3,.v (.n .i64 rs)),(4,.p 4 0),(11,.v (.n .i64 s))],[(4,.blk [.v (.lf n (fJ js)),.v (.lf m (fM ms))])]⟩)):=by kernel_rfl
theorem lpPa (K:Cont) (js:Nat→J) (ms:Nat→Ms) (q:Nat→Int) (n m k:Nat) (cs:Nat→Cn) (c:Nat) (rs:Int) (s:Int) (p:Nat→Int) (hc:cErr js ms n m cs c=true) (hq:qIn js ms p n m k=true):LFL 100 (cxF Tf (OrL.k (orPa js ms q n m k cs c rs)) 100 17 (ntmF Tf 17)) (ckF Tf (OrL.k (orPa js ms q n m k cs c rs)) 100) (zX []) (qK Tf 17 [0,1,0,0,0,1,0,0,1,0,1,1,1,0,1]) [0,1,0,0,0,1,0,0,1,0,1,1,1,0,1] (Tf.hint 17 (zJ (qK Tf 17 [0,1,0,0,0,1,0,0,1,0,1,1,1,0,1]))) K 100 (hPa js ms q n m k cs c rs 0 s k p)=(bif allH js ms p n m k cs c then (K (.exit 2) ⟨[(1,.v (.lf c (fC cs))),(2,.v (.lf k (fQ p))),(3,.v (.n .i64 rs)),(4,.p 4 0),(11,.v (.n .i64 s))],[(4,.blk [.v (.lf n (fJ js)),.v (.lf m (fM ms))])]⟩) else (bif decide (s=rs) then (K (.exit 0) ⟨[(1,.v (.lf c (fC cs))),(2,.v (.lf k (fQ p))),(3,.v (.n .i64 rs)),(4,.p 4 0),(11,.v (.n .i64 s))],[(4,.blk [.v (.lf n (fJ js)),.v (.lf m (fM ms))])]⟩) else bif smB (impQ js ms p n m k cs c) p k k then (K (.exit 0) ⟨[(1,.v (.lf c (fC cs))),(2,.v (.lf k (fQ p))),(3,.v (.n .i64 rs)),(4,.p 4 0),(11,.v (.n .i64 s))],[(4,.blk [.v (.lf n (fJ js)),.v (.lf m (fM ms))])]⟩) else (K (.exit 1) ⟨[(1,.v (.lf c (fC cs))),(2,.v (.lf k (fQ (impQ js ms p n m k cs c)))),(3,.v (.n .i64 rs)),(4,.p 4 0),(11,.v (.n .i64 s))],[(4,.blk [.v (.lf n (fJ js)),.v (.lf m (fM ms))])]⟩))):=by
 obtain ⟨h0,hn,_⟩:=qUU hq;have h10:=qWV h0;obtain ⟨_,h8,_⟩:=qVW hc;refine (zYX (L:=LFL 100 (cxF Tf (OrL.k (orPa js ms q n m k cs c rs)) 100 17 (ntmF Tf 17)) (ckF Tf (OrL.k (orPa js ms q n m k cs c rs)) 100) (zX []) (qK Tf 17 [0,1,0,0,0,1,0,0,1,0,1,1,1,0,1]) [0,1,0,0,0,1,0,0,1,0,1,1,1,0,1] (Tf.hint 17 (zJ (qK Tf 17 [0,1,0,0,0,1,0,0,1,0,1,1,1,0,1]))) K) (stp:=qXW 100 (cxF Tf (OrL.k (orPa js ms q n m k cs c rs)) 100 17 (ntmF Tf 17)) (ckF Tf (OrL.k (orPa js ms q n m k cs c rs)) 100) (zX []) (qK Tf 17 [0,1,0,0,0,1,0,0,1,0,1,1,1,0,1]) [0,1,0,0,0,1,0,0,1,0,1,1,1,0,1] (Tf.hint 17 (zJ (qK Tf 17 [0,1,0,0,0,1,0,0,1,0,1,1,1,0,1]))) K) (fun _ _=>rfl) (fun (i:Nat) (_:Unit)=>hPa js ms q n m k cs c rs (i:Int) s k p) (fun _ _=>True) (fun (i:Nat) _=>hQ js ms p n m k (cs i)) (fun _ _=>()) (c:=c) (fun _=>(K (.exit 2) ⟨[(1,.v (.lf c (fC cs))),(2,.v (.lf k (fQ p))),(3,.v (.n .i64 rs)),(4,.p 4 0),(11,.v (.n .i64 s))],[(4,.blk [.v (.lf n (fJ js)),.v (.lf m (fM ms))])]⟩)) (fun _ _=>(bif decide (s=rs) then (K (.exit 0) ⟨[(1,.v (.lf c (fC cs))),(2,.v (.lf k (fQ p))),(3,.v (.n .i64 rs)),(4,.p 4 0),(11,.v (.n .i64 s))],[(4,.blk [.v (.lf n (fJ js)),.v (.lf m (fM ms))])]⟩) else bif smB (impQ js ms p n m k cs c) p k k then (K (.exit 0) ⟨[(1,.v (.lf c (fC cs))),(2,.v (.lf k (fQ p))),(3,.v (.n .i64 rs)),(4,.p 4 0),(11,.v (.n .i64 s))],[(4,.blk [.v (.lf n (fJ js)),.v (.lf m (fM ms))])]⟩) else (K (.exit 1) ⟨[(1,.v (.lf c (fC cs))),(2,.v (.lf k (fQ (impQ js ms p n m k cs c)))),(3,.v (.n .i64 rs)),(4,.p 4 0),(11,.v (.n .i64 s))],[(4,.blk [.v (.lf n (fJ js)),.v (.lf m (fM ms))])]⟩))) (fun G i _ hi _ => ?_) (fun _ _ _ _ _=>trivial) (fun G _ _ => ?_) c 0 100 () (by omega) (by omega) trivial).trans ((runS_unit _ _ _ _ _).trans (qYV _ _ _ _ _))
 ·refine (rdPa G K js ms q n m k cs c rs i s k p).trans ?_;have hf:gFQ (fQ p)=true:=(zWJ rfl).1;have e1:gP (isHb js ms n m [.a [.lf n (fJ js),.lf m (fM ms)],.l [[.n .i64 (cs i).kind,.n .i64 (cs i).link,.n .i64 (cs i).p.x,.n .i64 (cs i).p.y,.n .i64 (cs i).p.z,.n .i64 (cs i).n.x,.n .i64 (cs i).n.y,.n .i64 (cs i).n.z,.n .i64 (cs i).lo,.n .i64 (cs i).hi]],.lf (bif smQ p k then k else 0) (fB (ptB p))])=true:=zUK ⟨ptB p,_,cs i,rfl⟩;have e2:gP (isIm js ms n m cs c [.a [.lf n (fJ js),.lf m (fM ms)],.lf c (fC cs),.lf k (fQ p)])=true:=zUK ⟨p,k,hc,hq,rfl⟩;have e3:gP (kUU [.lf k (fQ (impQ js ms p n m k cs c)),.lf k (fQ p)])=true:=zUK ⟨_,_,k,k,by omega,rfl⟩;simp only [vYG (show (i:Int) < (c:Int) by omega),qZZ (show i < 1000000 by omega),jY (show i < c by omega),toN,cond_true,vYG (show k≤50 by omega),hf,vZJ];rw [e1,e2,e3,cond_true];rfl
 ·refine (rdPa G K js ms q n m k cs c rs c s k p).trans ?_;rw [vYV (show ¬ (c:Int) < (c:Int) by omega)];rfl
noncomputable def lfI (σ:St) (k:Nat):Nat→Int:=match qYW σ.S k with
 | some (.v (.lf _ f))=>unFQ f
 | _=>fun _=>0
theorem okPa (js:Nat→J) (ms:Nat→Ms) (q:Nat→Int) (n m k:Nat) (cs:Nat→Cn) (c:Nat) (rs:Int):∀ p S,zX [([0,1,0,0,0,1,0,0,1,0,1,1,1,0,1],sumF (fun t:Int × (Nat→Int)=>(hPa js ms q n m k cs c rs 0 t.1 k t.2)) (fun σ=>(slI σ 11,lfI σ 2)) (fun t K=>(bif (cErr js ms n m cs c && qIn js ms t.2 n m k) then (bif allH js ms t.2 n m k cs c then (K (.exit 2) ⟨[(1,.v (.lf c (fC cs))),(2,.v (.lf k (fQ t.2))),(3,.v (.n .i64 rs)),(4,.p 4 0),(11,.v (.n .i64 t.1))],[(4,.blk [.v (.lf n (fJ js)),.v (.lf m (fM ms))])]⟩) else (bif decide (t.1=rs) then (K (.exit 0) ⟨[(1,.v (.lf c (fC cs))),(2,.v (.lf k (fQ t.2))),(3,.v (.n .i64 rs)),(4,.p 4 0),(11,.v (.n .i64 t.1))],[(4,.blk [.v (.lf n (fJ js)),.v (.lf m (fM ms))])]⟩) else bif smB (impQ js ms t.2 n m k cs c) t.2 k k then (K (.exit 0) ⟨[(1,.v (.lf c (fC cs))),(2,.v (.lf k (fQ t.2))),(3,.v (.n .i64 rs)),(4,.p 4 0),(11,.v (.n .i64 t.1))],[(4,.blk [.v (.lf n (fJ js)),.v (.lf m (fM ms))])]⟩) else (K (.exit 1) ⟨[(1,.v (.lf c (fC cs))),(2,.v (.lf k (fQ (impQ js ms t.2 n m k cs c)))),(3,.v (.n .i64 rs)),(4,.p 4 0),(11,.v (.n .i64 t.1))],[(4,.blk [.v (.lf n (fJ js)),.v (.lf m (fM ms))])]⟩))) else none)))] p=some S→zQZ 100 (cxF Tf (OrL.k (orPa js ms q n m k cs c rs)) 100 17 (ntmF Tf 17)) (qK Tf 17 p) S:=fun p S hp=>by
 refine qQG (L:=qK Tf 17) (l:=[([0,1,0,0,0,1,0,0,1,0,1,1,1,0,1],sumF (fun t:Int × (Nat→Int)=>(hPa js ms q n m k cs c rs 0 t.1 k t.2)) (fun σ=>(slI σ 11,lfI σ 2)) (fun t K=>(bif (cErr js ms n m cs c && qIn js ms t.2 n m k) then (bif allH js ms t.2 n m k cs c then (K (.exit 2) ⟨[(1,.v (.lf c (fC cs))),(2,.v (.lf k (fQ t.2))),(3,.v (.n .i64 rs)),(4,.p 4 0),(11,.v (.n .i64 t.1))],[(4,.blk [.v (.lf n (fJ js)),.v (.lf m (fM ms))])]⟩) else (bif decide (t.1=rs) then (K (.exit 0) ⟨[(1,.v (.lf c (fC cs))),(2,.v (.lf k (fQ t.2))),(3,.v (.n .i64 rs)),(4,.p 4 0),(11,.v (.n .i64 t.1))],[(4,.blk [.v (.lf n (fJ js)),.v (.lf m (fM ms))])]⟩) else bif smB (impQ js ms t.2 n m k cs c) t.2 k k then (K (.exit 0) ⟨[(1,.v (.lf c (fC cs))),(2,.v (.lf k (fQ t.2))),(3,.v (.n .i64 rs)),(4,.p 4 0),(11,.v (.n .i64 t.1))],[(4,.blk [.v (.lf n (fJ js)),.v (.lf m (fM ms))])]⟩) else (K (.exit 1) ⟨[(1,.v (.lf c (fC cs))),(2,.v (.lf k (fQ (impQ js ms t.2 n m k cs c)))),(3,.v (.n .i64 rs)),(4,.p 4 0),(11,.v (.n .i64 t.1))],[(4,.blk [.v (.lf n (fJ js)),.v (.lf m (fM ms))])]⟩))) else none)))]) ⟨?_,trivial⟩ p S hp;dsimp only;refine qWJ (T:=Tf) (ok:=(OrL.k (orPa js ms q n m k cs c rs))) (f:=17) (LO:=zX []) (p:=[0,1,0,0,0,1,0,0,1,0,1,1,1,0,1]) qGX ?_;intro t K r hr;obtain ⟨hg,hr⟩:=zQ hr;rw [vQJ] at hg;exact (lpPa K js ms q n m k cs c rs t.1 t.2 hg.1 hg.2).trans hr
noncomputable def hPo (js:Nat→J) (ms:Nat→Ms) (q:Nat→Int) (n m k:Nat) (cs:Nat→Cn) (c:Nat) (rs:Int) (s:Int) (p:Nat→Int):St:=⟨[(1,.v (.lf c (fC cs))),(2,.v (.lf k (fQ p))),(3,.v (.n .i64 rs)),(4,.p 4 0),(11,.v (.n .i64 s))],[(4,.blk [.v (.lf n (fJ js)),.v (.lf m (fM ms))])]⟩
set_option maxRecDepth 100000 in
theorem rdPo (G:St→Option (Ret × Mem)) (K:Cont) (js:Nat→J) (ms:Nat→Ms) (q:Nat→Int) (n m k:Nat) (cs:Nat→Cn) (c:Nat) (rs:Int) (s:Int) (p:Nat→Int):qXW 100 (cxF Tf (OrL.k (orPa js ms q n m k cs c rs)) 100 17 (ntmF Tf 17)) (ckF Tf (OrL.k (orPa js ms q n m k cs c rs)) 100) (zX [([0,1,0,0,0,1,0,0,1,0,1,1,1,0,1],sumF (fun t:Int × (Nat→Int)=>(hPa js ms q n m k cs c rs 0 t.1 k t.2)) (fun σ=>(slI σ 11,lfI σ 2)) (fun t K=>(bif (cErr js ms n m cs c && qIn js ms t.2 n m k) then (bif allH js ms t.2 n m k cs c then (K (.exit 2) ⟨[(1,.v (.lf c (fC cs))),(2,.v (.lf k (fQ t.2))),(3,.v (.n .i64 rs)),(4,.p 4 0),(11,.v (.n .i64 t.1))],[(4,.blk [.v (.lf n (fJ js)),.v (.lf m (fM ms))])]⟩) else (bif decide (t.1=rs) then (K (.exit 0) ⟨[(1,.v (.lf c (fC cs))),(2,.v (.lf k (fQ t.2))),(3,.v (.n .i64 rs)),(4,.p 4 0),(11,.v (.n .i64 t.1))],[(4,.blk [.v (.lf n (fJ js)),.v (.lf m (fM ms))])]⟩) else bif smB (impQ js ms t.2 n m k cs c) t.2 k k then (K (.exit 0) ⟨[(1,.v (.lf c (fC cs))),(2,.v (.lf k (fQ t.2))),(3,.v (.n .i64 rs)),(4,.p 4 0),(11,.v (.n .i64 t.1))],[(4,.blk [.v (.lf n (fJ js)),.v (.lf m (fM ms))])]⟩) else (K (.exit 1) ⟨[(1,.v (.lf c (fC cs))),(2,.v (.lf k (fQ (impQ js ms t.2 n m k cs c)))),(3,.v (.n .i64 rs)),(4,.p 4 0),(11,.v (.n .i64 t.1))],[(4,.blk [.v (.lf n (fJ js)),.v (.lf m (fM ms))])]⟩))) else none)))]) (qK Tf 17 [0,1,0,1,1,1,0,1]) [0,1,0,1,1,1,0,1] (Tf.hint 17 (zJ (qK Tf 17 [0,1,0,1,1,1,0,1]))) K G (hPo js ms q n m k cs c rs s p) =
 (bif (decide (s≤rs)) then (bif (gSt (hPa js ms q n m k cs c rs 0 s k p) (hPa js ms q n m k cs c rs 0 s k p)) then (bif (cErr js ms n m cs c && qIn js ms p n m k) then (bif (allH js ms p n m k cs c) then (K .ret ⟨[(3,.v (.n .i64 rs)),(8,.v (.lf k (fQ p))),(9,.v (.n .i64 s)),(10,.v (.b true))],[]⟩)
 else (bif (decide (s=rs)) then (K (.exit 0) ⟨[(3,.v (.n .i64 rs))],[]⟩)
 else (bif (smB (impQ js ms p n m k cs c) p k k) then (K (.exit 0) ⟨[(3,.v (.n .i64 rs))],[]⟩)
 else (G (hPo js ms q n m k cs c rs (vJZ .i64 (s + 1)) (impQ js ms p n m k cs c))))))
 else none)
 else none)
 else (K (.exit 0) ⟨[(3,.v (.n .i64 rs))],[]⟩)):=by kernel_rfl
noncomputable def prj (js:Nat→J) (ms:Nat→Ms) (n m k:Nat) (cs:Nat→Cn) (c:Nat):Nat→Nat→(Nat→Int)→Option (Nat × (Nat→Int))
 | 0,j,p=>bif allH js ms p n m k cs c then some (j,p) else none
 | r + 1,j,p=>bif allH js ms p n m k cs c then some (j,p) else prj js ms n m k cs c r (j + 1) (impQ js ms p n m k cs c)
theorem prj_stuck {js:Nat→J} {ms:Nat→Ms} {n m k:Nat} {cs:Nat→Cn} {c:Nat} {p:Nat→Int} (h:allH js ms p n m k cs c=false) (e:impQ js ms p n m k cs c=p):∀ r j,prj js ms n m k cs c r j p=none
 | 0,j=>by rw [prj,h]; rfl
 | r + 1,j=>by
  rw [prj,h,cond_false,e];exact prj_stuck h e r (j + 1)
theorem yGH {τ:Type} {nx:Nat→τ→τ} {Q:Nat→τ→Prop} {c:Nat} (h:∀ i s,i < c→Q i s→Q (i + 1) (nx i s)):∀ r p s,p + r=c→Q p s→Q c (zHJ nx r p s)
 | 0,p,s,hp,hq=>by
  obtain rfl:p=c:=by omega
  exact hq
 | r + 1,p,s,hp,hq=>yGH h r (p + 1) (nx p s) (by omega) (h p s (by omega) hq)
theorem kJX {js:Nat→J} {ms:Nat→Ms} {p:Nat→Int} {n m k:Nat} {cs:Nat→Cn} {c:Nat} (hc:cErr js ms n m cs c=true) (hq:qIn js ms p n m k=true) (hn:nrm' k p=p):qIn js ms (impQ js ms p n m k cs c) n m k=true∧nrm' k (impQ js ms p n m k cs c)=impQ js ms p n m k cs c :=
 yGH (Q:=fun _ p=>qIn js ms p n m k=true∧nrm' k p=p) (c:=c) (fun i s hi h=>⟨stN_in (kXW hc h.1 hi),jJG _ _⟩) c 0 p (by omega) ⟨hq,hn⟩
theorem smB_eq {k:Nat} {p u:Nat→Int} (h:smB p u k k=true) (hp:nrm' k p=p) (hu:nrm' k u=u):p=u:=by
 unfold smB at h;rw [vQJ] at h;rw [← hp,← hu];exact nrm_ext fun i hi=>vYH (allN_iff.1 h.2 i (Nat.zero_le _) (by omega))
noncomputable def dcP (js:Nat→J) (ms:Nat→Ms) (n m k:Nat) (cs:Nat→Cn) (c N:Nat):Nat × (Nat→Int)→(Nat × (Nat→Int)) ⊕ Option (Nat × (Nat→Int)):=fun x =>
 match allH js ms x.2 n m k cs c,decide (x.1=N),smB (impQ js ms x.2 n m k cs c) x.2 k k with
 | true,_,_=>.inr (some x)
 | false,true,_=>.inr none
 | false,false,true=>.inr none
 | false,false,false=>.inl (x.1 + 1,impQ js ms x.2 n m k cs c)
theorem iter_P {js:Nat→J} {ms:Nat→Ms} {n m k:Nat} {cs:Nat→Cn} {c N:Nat} (hc:cErr js ms n m cs c=true):∀ r j f p,j + r=N→r < f→qIn js ms p n m k=true→nrm' k p=p→yHQ (dcP js ms n m k cs c N) f (j,p)=some (prj js ms n m k cs c r j p)
 | 0,j,f + 1,p,hj,_,hq,hn=>by
  rw [yHQ,prj];unfold dcP;dsimp only;rw [vYG (show j=N by omega)];cases allH js ms p n m k cs c <;> rfl
 | r + 1,j,f + 1,p,hj,hf,hq,hn=>by
  obtain ⟨h1,h2⟩:=kJX hc hq hn;rw [yHQ,prj];unfold dcP;dsimp only;rw [vYV (show ¬ j=N by omega)];cases h:allH js ms p n m k cs c with
  | true=>rfl
  | false =>
   cases e:smB (impQ js ms p n m k cs c) p k k with
   | true =>
    show some none=some _;rw [cond_false,smB_eq e h2 hn,prj_stuck h (smB_eq e h2 hn)]
   | false=>exact iter_P hc r (j + 1) f _ (by omega) (by omega) h1 h2
theorem lpPo (K:Cont) (js:Nat→J) (ms:Nat→Ms) (q:Nat→Int) (n m k:Nat) (cs:Nat→Cn) (c:Nat) (rs:Int) (hc:cErr js ms n m cs c=true) (hq:qIn js ms q n m k=true) (hn:nrm' k q=q) (hr:0≤rs∧rs≤64):LFL 100 (cxF Tf (OrL.k (orPa js ms q n m k cs c rs)) 100 17 (ntmF Tf 17)) (ckF Tf (OrL.k (orPa js ms q n m k cs c rs)) 100) (zX [([0,1,0,0,0,1,0,0,1,0,1,1,1,0,1],sumF (fun t:Int × (Nat→Int)=>(hPa js ms q n m k cs c rs 0 t.1 k t.2)) (fun σ=>(slI σ 11,lfI σ 2)) (fun t K=>(bif (cErr js ms n m cs c && qIn js ms t.2 n m k) then (bif allH js ms t.2 n m k cs c then (K (.exit 2) ⟨[(1,.v (.lf c (fC cs))),(2,.v (.lf k (fQ t.2))),(3,.v (.n .i64 rs)),(4,.p 4 0),(11,.v (.n .i64 t.1))],[(4,.blk [.v (.lf n (fJ js)),.v (.lf m (fM ms))])]⟩) else (bif decide (t.1=rs) then (K (.exit 0) ⟨[(1,.v (.lf c (fC cs))),(2,.v (.lf k (fQ t.2))),(3,.v (.n .i64 rs)),(4,.p 4 0),(11,.v (.n .i64 t.1))],[(4,.blk [.v (.lf n (fJ js)),.v (.lf m (fM ms))])]⟩) else bif smB (impQ js ms t.2 n m k cs c) t.2 k k then (K (.exit 0) ⟨[(1,.v (.lf c (fC cs))),(2,.v (.lf k (fQ t.2))),(3,.v (.n .i64 rs)),(4,.p 4 0),(11,.v (.n .i64 t.1))],[(4,.blk [.v (.lf n (fJ js)),.v (.lf m (fM ms))])]⟩) else (K (.exit 1) ⟨[(1,.v (.lf c (fC cs))),(2,.v (.lf k (fQ (impQ js ms t.2 n m k cs c)))),(3,.v (.n .i64 rs)),(4,.p 4 0),(11,.v (.n .i64 t.1))],[(4,.blk [.v (.lf n (fJ js)),.v (.lf m (fM ms))])]⟩))) else none)))]) (qK Tf 17 [0,1,0,1,1,1,0,1]) [0,1,0,1,1,1,0,1] (Tf.hint 17 (zJ (qK Tf 17 [0,1,0,1,1,1,0,1]))) K 100 (hPo js ms q n m k cs c rs 0 q)=(match prj js ms n m k cs c rs.toNat 0 q with | some x=>(K .ret ⟨[(3,.v (.n .i64 rs)),(8,.v (.lf k (fQ x.2))),(9,.v (.n .i64 (x.1:Int))),(10,.v (.b true))],[]⟩) | none=>(K (.exit 0) ⟨[(3,.v (.n .i64 rs))],[]⟩)):=by
 have hN:(rs.toNat:Int)=rs:=by omega
 have h:=kVY (L:=LFL 100 (cxF Tf (OrL.k (orPa js ms q n m k cs c rs)) 100 17 (ntmF Tf 17)) (ckF Tf (OrL.k (orPa js ms q n m k cs c rs)) 100) (zX [([0,1,0,0,0,1,0,0,1,0,1,1,1,0,1],sumF (fun t:Int × (Nat→Int)=>(hPa js ms q n m k cs c rs 0 t.1 k t.2)) (fun σ=>(slI σ 11,lfI σ 2)) (fun t K=>(bif (cErr js ms n m cs c && qIn js ms t.2 n m k) then (bif allH js ms t.2 n m k cs c then (K (.exit 2) ⟨[(1,.v (.lf c (fC cs))),(2,.v (.lf k (fQ t.2))),(3,.v (.n .i64 rs)),(4,.p 4 0),(11,.v (.n .i64 t.1))],[(4,.blk [.v (.lf n (fJ js)),.v (.lf m (fM ms))])]⟩) else (bif decide (t.1=rs) then (K (.exit 0) ⟨[(1,.v (.lf c (fC cs))),(2,.v (.lf k (fQ t.2))),(3,.v (.n .i64 rs)),(4,.p 4 0),(11,.v (.n .i64 t.1))],[(4,.blk [.v (.lf n (fJ js)),.v (.lf m (fM ms))])]⟩) else bif smB (impQ js ms t.2 n m k cs c) t.2 k k then (K (.exit 0) ⟨[(1,.v (.lf c (fC cs))),(2,.v (.lf k (fQ t.2))),(3,.v (.n .i64 rs)),(4,.p 4 0),(11,.v (.n .i64 t.1))],[(4,.blk [.v (.lf n (fJ js)),.v (.lf m (fM ms))])]⟩) else (K (.exit 1) ⟨[(1,.v (.lf c (fC cs))),(2,.v (.lf k (fQ (impQ js ms t.2 n m k cs c)))),(3,.v (.n .i64 rs)),(4,.p 4 0),(11,.v (.n .i64 t.1))],[(4,.blk [.v (.lf n (fJ js)),.v (.lf m (fM ms))])]⟩))) else none)))]) (qK Tf 17 [0,1,0,1,1,1,0,1]) [0,1,0,1,1,1,0,1] (Tf.hint 17 (zJ (qK Tf 17 [0,1,0,1,1,1,0,1]))) K) (stp:=qXW 100 (cxF Tf (OrL.k (orPa js ms q n m k cs c rs)) 100 17 (ntmF Tf 17)) (ckF Tf (OrL.k (orPa js ms q n m k cs c rs)) 100) (zX [([0,1,0,0,0,1,0,0,1,0,1,1,1,0,1],sumF (fun t:Int × (Nat→Int)=>(hPa js ms q n m k cs c rs 0 t.1 k t.2)) (fun σ=>(slI σ 11,lfI σ 2)) (fun t K=>(bif (cErr js ms n m cs c && qIn js ms t.2 n m k) then (bif allH js ms t.2 n m k cs c then (K (.exit 2) ⟨[(1,.v (.lf c (fC cs))),(2,.v (.lf k (fQ t.2))),(3,.v (.n .i64 rs)),(4,.p 4 0),(11,.v (.n .i64 t.1))],[(4,.blk [.v (.lf n (fJ js)),.v (.lf m (fM ms))])]⟩) else (bif decide (t.1=rs) then (K (.exit 0) ⟨[(1,.v (.lf c (fC cs))),(2,.v (.lf k (fQ t.2))),(3,.v (.n .i64 rs)),(4,.p 4 0),(11,.v (.n .i64 t.1))],[(4,.blk [.v (.lf n (fJ js)),.v (.lf m (fM ms))])]⟩) else bif smB (impQ js ms t.2 n m k cs c) t.2 k k then (K (.exit 0) ⟨[(1,.v (.lf c (fC cs))),(2,.v (.lf k (fQ t.2))),(3,.v (.n .i64 rs)),(4,.p 4 0),(11,.v (.n .i64 t.1))],[(4,.blk [.v (.lf n (fJ js)),.v (.lf m (fM ms))])]⟩) else (K (.exit 1) ⟨[(1,.v (.lf c (fC cs))),(2,.v (.lf k (fQ (impQ js ms t.2 n m k cs c)))),(3,.v (.n .i64 rs)),(4,.p 4 0),(11,.v (.n .i64 t.1))],[(4,.blk [.v (.lf n (fJ js)),.v (.lf m (fM ms))])]⟩))) else none)))]) (qK Tf 17 [0,1,0,1,1,1,0,1]) [0,1,0,1,1,1,0,1] (Tf.hint 17 (zJ (qK Tf 17 [0,1,0,1,1,1,0,1]))) K) (fun _ _=>rfl) (fun _=>rfl) (fun x:Nat × (Nat→Int)=>hPo js ms q n m k cs c rs (x.1:Int) x.2) (fun x=>qIn js ms x.2 n m k=true∧nrm' k x.2=x.2∧x.1≤rs.toNat) (dcP js ms n m k cs c rs.toNat) (fun y=>match y with | some x=>(K .ret ⟨[(3,.v (.n .i64 rs)),(8,.v (.lf k (fQ x.2))),(9,.v (.n .i64 (x.1:Int))),(10,.v (.b true))],[]⟩) | none=>(K (.exit 0) ⟨[(3,.v (.n .i64 rs))],[]⟩)) (fun G x hx => ?_) (fun x y hx hd => ?_) 100 (0,q) ⟨hq,hn,Nat.zero_le _⟩
 ·refine h.trans ?_;rw [iter_P hc rs.toNat 0 100 q (by omega) (by omega) hq hn];rfl
 ·obtain ⟨j,p⟩:=x;obtain ⟨h1,h2,h3⟩:=hx;refine (rdPo G K js ms q n m k cs c rs j p).trans ?_;dsimp only at h1 h2 h3;rw [vYG (show (j:Int)≤rs by omega),cond_true,jU,cond_true,hc,h1];unfold dcP;dsimp only;by_cases e:j=rs.toNat
  ·rw [vYG e,vYG (show (j:Int)=rs by omega)];cases allH js ms p n m k cs c <;> rfl
  ·rw [vYV e,vYV (show ¬ (j:Int)=rs by omega),qZZ (show j < 1000000 by omega)];cases allH js ms p n m k cs c <;> cases smB (impQ js ms p n m k cs c) p k k <;> rfl
 ·obtain ⟨j,p⟩:=x;obtain ⟨h1,h2,h3⟩:=hx;unfold dcP at hd;dsimp only at h1 h2 h3 hd;split at hd
  ·cases hd
  ·cases hd
  ·cases hd
  ·rename_i hx hy hz;cases hd
   have:=vJQ hy
   exact ⟨(kJX hc h1 h2).1,(kJX hc h1 h2).2,by show j + 1≤_; omega⟩
noncomputable def pjO (js:Nat→J) (ms:Nat→Ms) (q:Nat→Int) (n m k:Nat) (cs:Nat→Cn) (c:Nat) (rs:Int):Bool:=(prj js ms n m k cs c rs.toNat 0 q).isSome
noncomputable def pjJ (js:Nat→J) (ms:Nat→Ms) (q:Nat→Int) (n m k:Nat) (cs:Nat→Cn) (c:Nat) (rs:Int):Int:=match prj js ms n m k cs c rs.toNat 0 q with
 | some x=>(x.1:Int)
 | none=>0
noncomputable def pjP (js:Nat→J) (ms:Nat→Ms) (q:Nat→Int) (n m k:Nat) (cs:Nat→Cn) (c:Nat) (rs:Int):Nat→Int:=match prj js ms n m k cs c rs.toNat 0 q with
 | some x=>x.2
 | none=>fun _=>0
theorem lpPo' (K:Cont) (js:Nat→J) (ms:Nat→Ms) (q:Nat→Int) (n m k:Nat) (cs:Nat→Cn) (c:Nat) (rs:Int) (hc:cErr js ms n m cs c=true) (hq:qIn js ms q n m k=true) (hn:nrm' k q=q) (hr:0≤rs∧rs≤64):LFL 100 (cxF Tf (OrL.k (orPa js ms q n m k cs c rs)) 100 17 (ntmF Tf 17)) (ckF Tf (OrL.k (orPa js ms q n m k cs c rs)) 100) (zX [([0,1,0,0,0,1,0,0,1,0,1,1,1,0,1],sumF (fun t:Int × (Nat→Int)=>(hPa js ms q n m k cs c rs 0 t.1 k t.2)) (fun σ=>(slI σ 11,lfI σ 2)) (fun t K=>(bif (cErr js ms n m cs c && qIn js ms t.2 n m k) then (bif allH js ms t.2 n m k cs c then (K (.exit 2) ⟨[(1,.v (.lf c (fC cs))),(2,.v (.lf k (fQ t.2))),(3,.v (.n .i64 rs)),(4,.p 4 0),(11,.v (.n .i64 t.1))],[(4,.blk [.v (.lf n (fJ js)),.v (.lf m (fM ms))])]⟩) else (bif decide (t.1=rs) then (K (.exit 0) ⟨[(1,.v (.lf c (fC cs))),(2,.v (.lf k (fQ t.2))),(3,.v (.n .i64 rs)),(4,.p 4 0),(11,.v (.n .i64 t.1))],[(4,.blk [.v (.lf n (fJ js)),.v (.lf m (fM ms))])]⟩) else bif smB (impQ js ms t.2 n m k cs c) t.2 k k then (K (.exit 0) ⟨[(1,.v (.lf c (fC cs))),(2,.v (.lf k (fQ t.2))),(3,.v (.n .i64 rs)),(4,.p 4 0),(11,.v (.n .i64 t.1))],[(4,.blk [.v (.lf n (fJ js)),.v (.lf m (fM ms))])]⟩) else (K (.exit 1) ⟨[(1,.v (.lf c (fC cs))),(2,.v (.lf k (fQ (impQ js ms t.2 n m k cs c)))),(3,.v (.n .i64 rs)),(4,.p 4 0),(11,.v (.n .i64 t.1))],[(4,.blk [.v (.lf n (fJ js)),.v (.lf m (fM ms))])]⟩))) else none)))]) (qK Tf 17 [0,1,0,1,1,1,0,1]) [0,1,0,1,1,1,0,1] (Tf.hint 17 (zJ (qK Tf 17 [0,1,0,1,1,1,0,1]))) K 100 (hPo js ms q n m k cs c rs 0 q)=bif pjO js ms q n m k cs c rs then (K .ret ⟨[(3,.v (.n .i64 rs)),(8,.v (.lf k (fQ (pjP js ms q n m k cs c rs)))),(9,.v (.n .i64 (pjJ js ms q n m k cs c rs))),(10,.v (.b true))],[]⟩) else (K (.exit 0) ⟨[(3,.v (.n .i64 rs))],[]⟩):=by
 rw [lpPo K js ms q n m k cs c rs hc hq hn hr];unfold pjO pjJ pjP;cases prj js ms n m k cs c rs.toNat 0 q <;> rfl
noncomputable def kJZ (js:Nat→J) (ms:Nat→Ms) (q:Nat→Int) (n m k:Nat) (cs:Nat→Cn) (c:Nat) (rs:Int):List (List Nat × qUG):=[([0,1,0,1,1,1,0,1],sumF (fun _:Unit=>(hPo js ms q n m k cs c rs 0 q)) (fun _=>()) (fun _ K=>(bif (gP (cErr js ms n m cs c=true∧qIn js ms q n m k=true∧nrm' k q=q∧0≤rs∧rs≤64)) then (bif pjO js ms q n m k cs c rs then (K .ret ⟨[(3,.v (.n .i64 rs)),(8,.v (.lf k (fQ (pjP js ms q n m k cs c rs)))),(9,.v (.n .i64 (pjJ js ms q n m k cs c rs))),(10,.v (.b true))],[]⟩) else (K (.exit 0) ⟨[(3,.v (.n .i64 rs))],[]⟩)) else none)))]
set_option maxRecDepth 100000 in
theorem pxprj0 (js:Nat→J) (ms:Nat→Ms) (q:Nat→Int) (n m k:Nat) (cs:Nat→Cn) (c:Nat) (rs:Int):qKZ Tf (OrL.k (orPa js ms q n m k cs c rs)) (zX (kJZ js ms q n m k cs c rs)) 100 17 [.a [.lf n (fJ js),.lf m (fM ms)],.lf c (fC cs),.lf k (fQ q),.n .i64 rs] =
 (bif (g1 [.a [.lf n (fJ js),.lf m (fM ms)],.lf c (fC cs)]) then (bif (cErr js ms n m cs c) then (bif (g1 [.a [.lf n (fJ js),.lf m (fM ms)],.lf k (fQ q)]) then (bif (qIn js ms q n m k) then (bif (decide (rs < 0)) then some (.v (.t [.l [],.n .i64 0,.b false]),[])
 else (bif (decide (64 < rs)) then some (.v (.t [.l [],.n .i64 0,.b false]),[])
 else (bif (g1 [.lf k (fQ q)] && decide (1≤k∧k≤10)) then (bif (gSt (hPo js ms q n m k cs c rs 0 q) (hPo js ms q n m k cs c rs 0 q)) then (bif (gP (cErr js ms n m cs c=true∧qIn js ms q n m k=true∧nrm' k q=q∧0≤rs∧rs≤64)) then (bif (pjO js ms q n m k cs c rs) then some (.v (.t [.lf k (fQ (pjP js ms q n m k cs c rs)),.n .i64 (pjJ js ms q n m k cs c rs),.b true]),[])
 else some (.v (.t [.l [],.n .i64 rs,.b false]),[]))
 else none)
 else none)
 else none)))
 else some (.v (.t [.l [],.n .i64 0,.b false]),[]))
 else none)
 else some (.v (.t [.l [],.n .i64 0,.b false]),[]))
 else none):=by kernel_rfl
theorem snd_prj0 (js:Nat→J) (ms:Nat→Ms) (q:Nat→Int) (n m k:Nat) (cs:Nat→Cn) (c:Nat) (rs:Int) (hn:nrm' k q=q):zH Tryz.prog 17 [.a [.lf n (fJ js),.lf m (fM ms)],.lf c (fC cs),.lf k (fQ q),.n .i64 rs] (bif (cErr js ms n m cs c && qIn js ms q n m k) && decide (0≤rs∧rs≤64) then (bif pjO js ms q n m k cs c rs then .v (.t [.lf k (fQ (pjP js ms q n m k cs c rs)),.n .i64 (pjJ js ms q n m k cs c rs),.b true]) else .v (.t [.l [],.n .i64 rs,.b false])) else .v (.t [.l [],.n .i64 0,.b false])):=by
 refine qQX (N:=100) (LO:=zX (kJZ js ms q n m k cs c rs)) zJK yY (OrL.ok (l:=(orPa js ms q n m k cs c rs)) ⟨qJQ (kYJ js ms n m cs c),qJQ (jGZ js ms q n m k),qVK (fun h=>snd_cl2 q k (vYH h)),ok_bq,ok_hb js ms n m,ok_im js ms n m cs c,ok_eq2,trivial⟩) (fun p S hp => ?_) ?_
 ·refine qQG (L:=qK Tf 17) (l:=(kJZ js ms q n m k cs c rs)) (show AllP _ (kJZ js ms q n m k cs c rs) from ⟨?_,trivial⟩) p S hp
  ·dsimp only;refine qWJ (T:=Tf) (ok:=(OrL.k (orPa js ms q n m k cs c rs))) (f:=17) (LO:=(zX [([0,1,0,0,0,1,0,0,1,0,1,1,1,0,1],sumF (fun t:Int × (Nat→Int)=>(hPa js ms q n m k cs c rs 0 t.1 k t.2)) (fun σ=>(slI σ 11,lfI σ 2)) (fun t K=>(bif (cErr js ms n m cs c && qIn js ms t.2 n m k) then (bif allH js ms t.2 n m k cs c then (K (.exit 2) ⟨[(1,.v (.lf c (fC cs))),(2,.v (.lf k (fQ t.2))),(3,.v (.n .i64 rs)),(4,.p 4 0),(11,.v (.n .i64 t.1))],[(4,.blk [.v (.lf n (fJ js)),.v (.lf m (fM ms))])]⟩) else (bif decide (t.1=rs) then (K (.exit 0) ⟨[(1,.v (.lf c (fC cs))),(2,.v (.lf k (fQ t.2))),(3,.v (.n .i64 rs)),(4,.p 4 0),(11,.v (.n .i64 t.1))],[(4,.blk [.v (.lf n (fJ js)),.v (.lf m (fM ms))])]⟩) else bif smB (impQ js ms t.2 n m k cs c) t.2 k k then (K (.exit 0) ⟨[(1,.v (.lf c (fC cs))),(2,.v (.lf k (fQ t.2))),(3,.v (.n .i64 rs)),(4,.p 4 0),(11,.v (.n .i64 t.1))],[(4,.blk [.v (.lf n (fJ js)),.v (.lf m (fM ms))])]⟩) else (K (.exit 1) ⟨[(1,.v (.lf c (fC cs))),(2,.v (.lf k (fQ (impQ js ms t.2 n m k cs c)))),(3,.v (.n .i64 rs)),(4,.p 4 0),(11,.v (.n .i64 t.1))],[(4,.blk [.v (.lf n (fJ js)),.v (.lf m (fM ms))])]⟩))) else none)))])) (p:=[0,1,0,1,1,1,0,1]) (okPa js ms q n m k cs c rs) ?_;intro _ K r hr;obtain ⟨hg,hr⟩:=zQ hr;have hg:=qWK hg;exact (lpPo' K js ms q n m k cs c rs hg.1 hg.2.1 hg.2.2.1 hg.2.2.2).trans hr
 ·refine (pxprj0 js ms q n m k cs c rs).trans ?_;by_cases hr0:rs < 0
  ·rw [vYV (show ¬ (0≤rs∧rs≤64) by omega),Bool.and_false];simp only [g1_t,vYG hr0,cond_true,cond_false];cases cErr js ms n m cs c <;> cases qIn js ms q n m k <;> rfl
  by_cases hr1:64 < rs
  ·rw [vYV (show ¬ (0≤rs∧rs≤64) by omega),Bool.and_false];simp only [g1_t,vYV hr0,vYG hr1,cond_true,cond_false];cases cErr js ms n m cs c <;> cases qIn js ms q n m k <;> rfl
  cases hc:cErr js ms n m cs c with
  | false=>simp only [g1_t]; rfl
  | true =>
   cases hq:qIn js ms q n m k with
   | false=>simp only [g1_t]; rfl
   | true =>
    obtain ⟨h0,hnk,_⟩:=qUU hq;have h10:=qWV h0;simp only [g1_t,jU,vYV hr0,vYV hr1,vYG (show 0≤rs∧rs≤64 by omega),vYG (show 1≤k∧k≤10 by omega),vYG (show 0≤rs by omega),vZJ,cond_true,cond_false];have hg2:gP (True∧True∧nrm' k q=q∧0≤rs∧rs≤64)=true:=zUK ⟨trivial,trivial,hn,by omega,by omega⟩;rw [hg2,cond_true];cases pjO js ms q n m k cs c rs <;> rfl
end Go.Proofs.YtmffoiemmlcmfaaGreat.Nw
namespace Go.Proofs.YtmffoiemmlcmfaaGreat.Ny
open Go.Rx Rt Go.Sx Go.RowKit Od Ov Pc Na Nb Nc Nd Nx Nf Ng Nj Nl Nm Nn No Nq Nr Ns Nu Nv Nw
noncomputable def hAB (js:Nat→J) (ms:Nat→Ms) (bx:Nat→Iv) (n m kk:Nat) (cs:Nat→Cn) (c:Nat):Bool:=cErr js ms n m cs c && (pIn js ms bx n m kk && yQW cs (vI js bx n cs) c)
noncomputable def hA (js:Nat→J) (ms:Nat→Ms) (q:Nat→Int) (n m k:Nat) (cs:Nat→Cn) (c:Nat):Bool:=hAB js ms (ptB q) n m (bif smQ q k then k else 0) cs c
def isHA (js:Nat→J) (ms:Nat→Ms) (n m:Nat) (cs:Nat→Cn) (c:Nat) (ps:List PV):Prop:=∃ (bx:Nat→Iv) (kk:Nat),kk≤50∧ps=[.a [.lf n (fJ js),.lf m (fM ms)],.lf c (fC cs),.lf kk (fB bx)]
noncomputable def o_ha (js:Nat→J) (ms:Nat→Ms) (n m:Nat) (cs:Nat→Cn) (c:Nat):List PV→Option (Bool × Ret):=fun ps=>match ps with
 | [r,l,.lf k f]=>some (gP (isHA js ms n m cs c [r,l,.lf k f]),.v (.b (hAB js ms (unFB f) n m k cs c)))
 | _=>none
theorem ok_ha (js:Nat→J) (ms:Nat→Ms) (n m:Nat) (cs:Nat→Cn) (c:Nat):zW Tryz.prog 12 (o_ha js ms n m cs c):=by
 intro ps r hh;unfold o_ha at hh;split at hh
 ·simp only [vQZ,vQY] at hh;obtain ⟨hg,rfl⟩:=hh;obtain ⟨bx,kk,hk,e⟩:=qWK hg;simp only [List.cons.injEq,PV.lf.injEq,and_true] at e;obtain ⟨rfl,rfl,rfl,rfl⟩:=e;exact snd_RHo' js ms _ n m _ cs c hk
 ·cases hh
theorem hA_eq {js:Nat→J} {ms:Nat→Ms} {q:Nat→Int} {n m k:Nat} {cs:Nat→Cn} {c:Nat} (hc:cErr js ms n m cs c=true) (hq:qIn js ms q n m k=true):hA js ms q n m k cs c=allH js ms q n m k cs c:=allH_eq hc hq
noncomputable def prOk (js:Nat→J) (ms:Nat→Ms) (q:Nat→Int) (n m k:Nat) (cs:Nat→Cn) (c:Nat) (rs:Int):Bool:=(cErr js ms n m cs c && qIn js ms q n m k) && decide (0≤rs∧rs≤64)
noncomputable def prB (js:Nat→J) (ms:Nat→Ms) (q:Nat→Int) (n m k:Nat) (cs:Nat→Cn) (c:Nat) (rs:Int):Bool:=prOk js ms (nrm' k q) n m k cs c rs && pjO js ms (nrm' k q) n m k cs c rs
noncomputable def prL (js:Nat→J) (ms:Nat→Ms) (q:Nat→Int) (n m k:Nat) (cs:Nat→Cn) (c:Nat) (rs:Int):Nat:=bif prB js ms q n m k cs c rs then k else 0
noncomputable def prQ (js:Nat→J) (ms:Nat→Ms) (q:Nat→Int) (n m k:Nat) (cs:Nat→Cn) (c:Nat) (rs:Int):Nat→Int:=pjP js ms (nrm' k q) n m k cs c rs
noncomputable def prJ (js:Nat→J) (ms:Nat→Ms) (q:Nat→Int) (n m k:Nat) (cs:Nat→Cn) (c:Nat) (rs:Int):Int:=bif prOk js ms (nrm' k q) n m k cs c rs then (bif pjO js ms (nrm' k q) n m k cs c rs then pjJ js ms (nrm' k q) n m k cs c rs else rs) else 0
theorem snd_both {f:Nat} (js:Nat→J) (ms:Nat→Ms) (q:Nat→Int) (n m k:Nat) (cs:Nat→Cn) (c:Nat) (rs:Int) (h:∀ q:Nat→Int,nrm' k q=q→zH Tryz.prog f [.a [.lf n (fJ js),.lf m (fM ms)],.lf c (fC cs),.lf k (fQ q),.n .i64 rs] (bif (cErr js ms n m cs c && qIn js ms q n m k) && decide (0≤rs∧rs≤64) then (bif pjO js ms q n m k cs c rs then .v (.t [.lf k (fQ (pjP js ms q n m k cs c rs)),.n .i64 (pjJ js ms q n m k cs c rs),.b true]) else .v (.t [.l [],.n .i64 rs,.b false])) else .v (.t [.l [],.n .i64 0,.b false]))):zH Tryz.prog f [.a [.lf n (fJ js),.lf m (fM ms)],.lf c (fC cs),.lf k (fQ q),.n .i64 rs] (.v (.t [.lf (prL js ms q n m k cs c rs) (fQ (prQ js ms q n m k cs c rs)),.n .i64 (prJ js ms q n m k cs c rs),.b (prB js ms q n m k cs c rs)])):=by
 refine qYG (fun _ _ _=>Sames.al (ys:=[_,_,.lf k (fQ (nrm' k q)),_]) ⟨Same.refl _,Same.refl _,nrm_same k q,Same.refl _,trivial⟩) ?_;have h0:=h (nrm' k q) (jJG k q);unfold prL prJ prQ prB;change zH Tryz.prog f _ (bif prOk js ms (nrm' k q) n m k cs c rs then _ else _) at h0;cases e:prOk js ms (nrm' k q) n m k cs c rs with
 | false =>
  rw [e,cond_false] at h0;exact qYJ (Same.t (xs:=[_,_,_]) ⟨Same.lf rfl,Same.refl _,Same.refl _,trivial⟩) h0
 | true =>
  rw [e,cond_true] at h0;cases e2:pjO js ms (nrm' k q) n m k cs c rs with
  | false =>
   rw [e2,cond_false] at h0;exact qYJ (Same.t (xs:=[_,_,_]) ⟨Same.lf rfl,Same.refl _,Same.refl _,trivial⟩) h0
  | true =>
   rw [e2,cond_true] at h0;exact h0
theorem snd_prj (js:Nat→J) (ms:Nat→Ms) (q:Nat→Int) (n m k:Nat) (cs:Nat→Cn) (c:Nat) (rs:Int):zH Tryz.prog 17 [.a [.lf n (fJ js),.lf m (fM ms)],.lf c (fC cs),.lf k (fQ q),.n .i64 rs] (.v (.t [.lf (prL js ms q n m k cs c rs) (fQ (prQ js ms q n m k cs c rs)),.n .i64 (prJ js ms q n m k cs c rs),.b (prB js ms q n m k cs c rs)])):=snd_both js ms q n m k cs c rs fun q hn=>snd_prj0 js ms q n m k cs c rs hn
end Go.Proofs.YtmffoiemmlcmfaaGreat.Ny
namespace Go.Proofs.YtmffoiemmlcmfaaGreat.Nz
open Go.Rx Rt Go.Sx Go.RowKit Od Ov Pc Na Nb Nc Nd Nx Nf Ng Nj Nl Nm Nn No Nq Nr Ns Nu Nv Nw Ny
theorem near0 (js:Nat→J) (ms:Nat→Ms) (q:Nat→Int) (n m k:Nat) (c d:Cn) (w:Nat) (e:Nat→Int) (hk:k≤50) (hc:zH Tryz.prog 22 [.a [.lf n (fJ js),.lf m (fM ms)],.n .i64 0,.lf w (fQ e)] (.ow 63 10 (.l []))):zH Tryz.prog 8 [.a [.lf n (fJ js),.lf m (fM ms)],.n .i64 0,.lf w (fQ e),.lf k (fQ q)] (.ow 63 10 (.l [])):=by
 refine qG (N:=60) yJ yY (OrL.ok (l:=[(22,o_cr [.a [.lf n (fJ js),.lf m (fM ms)],.n .i64 0,.lf w (fQ e)] (.ow 63 10 (.l []))),(9,yUY),(13,o_lk [.lf k (fQ q)] (decide (k≤50)) (.v (.lf (bif smQ q k then k else 0) (fB (ptB q))))),(23,o_rv js ms (ptB q) n m (bif smQ q k then k else 0))]) ⟨qJQ hc,zGY,qVK (fun h=>zYG q k (vYH h)),jHZ js ms (ptB q) n m (bif smQ q k then k else 0),trivial⟩) ?_;refine (by kernel_rfl:_=bif (g1 [.a [.lf n (fJ js),.lf m (fM ms)],.n .i64 0,.lf w (fQ e)]) then some (.ow 63 10 (.l []),[])
 else none).trans ?_
 simp only [g1_t,cond_true]
theorem near2_0 (js:Nat→J) (ms:Nat→Ms) (q:Nat→Int) (n m k:Nat) (c d:Cn) (w:Nat) (e:Nat→Int) (hk:k≤50) (hc:zH Tryz.prog 22 [.a [.lf n (fJ js),.lf m (fM ms)],.n .i64 2,.lf 0 (fQ e)] (.ow 63 10 (.l [cp c,cp d]))):∃ c' d':Cn,zH Tryz.prog 8 [.a [.lf n (fJ js),.lf m (fM ms)],.n .i64 2,.lf 0 (fQ e),.lf k (fQ q)] (.ow 63 10 (.l [cp c',cp d'])):=by
 refine ⟨bif qOk js ms q n m k c then ⟨c.kind,c.link,c.p,c.n,(vJZ .i64 ((qLo js ms q n m k c) + (-1966080))),(vJZ .i64 ((vJZ .i64 ((qLo js ms q n m k c) + (-1966080))) + 65536))⟩ else c,bif qOk js ms q n m k d then (bif qOk js ms q n m k c then ⟨d.kind,d.link,d.p,d.n,(vJZ .i64 ((qLo js ms q n m k d) + (-1966080))),(vJZ .i64 ((vJZ .i64 ((qLo js ms q n m k d) + (-1966080))) + 65536))⟩ else ⟨d.kind,d.link,d.p,d.n,(vJZ .i64 ((qLo js ms q n m k d) + (-1966080))),(vJZ .i64 ((vJZ .i64 ((qLo js ms q n m k d) + (-1966080))) + 65536))⟩) else d,qG (N:=60) yJ yY (OrL.ok (l:=[(22,o_cr [.a [.lf n (fJ js),.lf m (fM ms)],.n .i64 2,.lf 0 (fQ e)] (.ow 63 10 (.l [cp c,cp d]))),(9,yUY),(13,o_lk [.lf k (fQ q)] (decide (k≤50)) (.v (.lf (bif smQ q k then k else 0) (fB (ptB q))))),(23,o_rv js ms (ptB q) n m (bif smQ q k then k else 0))]) ⟨qJQ hc,zGY,qVK (fun h=>zYG q k (vYH h)),jHZ js ms (ptB q) n m (bif smQ q k then k else 0),trivial⟩) ?_⟩;refine (by kernel_rfl:_=bif (g1 [.a [.lf n (fJ js),.lf m (fM ms)],.n .i64 2,.lf 0 (fQ e)]) then (bif (g1 [.lf k (fQ q)] && decide (k≤50)) then (bif (g1 [.a [.lf n (fJ js),.lf m (fM ms)],.a (cp c),.lf (bif smQ q k then k else 0) (fB (ptB q))] && decide ((bif smQ q k then k else 0)≤50)) then (bif (qOk js ms q n m k c) then (bif (g1 [.lf k (fQ q)] && decide (k≤50)) then (bif (g1 [.a [.lf n (fJ js),.lf m (fM ms)],.a (cp d),.lf (bif smQ q k then k else 0) (fB (ptB q))] && decide ((bif smQ q k then k else 0)≤50)) then (bif (qOk js ms q n m k d) then some (.ow 63 10 (.l [[.n .i64 c.kind,.n .i64 c.link,.n .i64 c.p.x,.n .i64 c.p.y,.n .i64 c.p.z,.n .i64 c.n.x,.n .i64 c.n.y,.n .i64 c.n.z,.n .i64 (vJZ .i64 ((qLo js ms q n m k c) + (-1966080))),.n .i64 (vJZ .i64 ((vJZ .i64 ((qLo js ms q n m k c) + (-1966080))) + 65536))],[.n .i64 d.kind,.n .i64 d.link,.n .i64 d.p.x,.n .i64 d.p.y,.n .i64 d.p.z,.n .i64 d.n.x,.n .i64 d.n.y,.n .i64 d.n.z,.n .i64 (vJZ .i64 ((qLo js ms q n m k d) + (-1966080))),.n .i64 (vJZ .i64 ((vJZ .i64 ((qLo js ms q n m k d) + (-1966080))) + 65536))]]),[])
 else some (.ow 63 10 (.l [[.n .i64 c.kind,.n .i64 c.link,.n .i64 c.p.x,.n .i64 c.p.y,.n .i64 c.p.z,.n .i64 c.n.x,.n .i64 c.n.y,.n .i64 c.n.z,.n .i64 (vJZ .i64 ((qLo js ms q n m k c) + (-1966080))),.n .i64 (vJZ .i64 ((vJZ .i64 ((qLo js ms q n m k c) + (-1966080))) + 65536))],(cp d)]),[]))
 else none)
 else none)
 else bif (g1 [.lf k (fQ q)] && decide (k≤50)) then (bif (g1 [.a [.lf n (fJ js),.lf m (fM ms)],.a (cp d),.lf (bif smQ q k then k else 0) (fB (ptB q))] && decide ((bif smQ q k then k else 0)≤50)) then (bif (qOk js ms q n m k d) then some (.ow 63 10 (.l [(cp c),[.n .i64 d.kind,.n .i64 d.link,.n .i64 d.p.x,.n .i64 d.p.y,.n .i64 d.p.z,.n .i64 d.n.x,.n .i64 d.n.y,.n .i64 d.n.z,.n .i64 (vJZ .i64 ((qLo js ms q n m k d) + (-1966080))),.n .i64 (vJZ .i64 ((vJZ .i64 ((qLo js ms q n m k d) + (-1966080))) + 65536))]]),[])
 else some (.ow 63 10 (.l [(cp c),(cp d)]),[]))
 else none)
 else none)
 else none)
 else none)
 else none).trans ?_
 simp only [g1_t,vYG hk,vYG (jQH (q:=q) hk),vZJ,cond_true];cases qOk js ms q n m k c <;> cases qOk js ms q n m k d <;> rfl
theorem near2_1 (js:Nat→J) (ms:Nat→Ms) (q:Nat→Int) (n m k:Nat) (c d:Cn) (w:Nat) (e:Nat→Int) (hk:k≤50) (hc:zH Tryz.prog 22 [.a [.lf n (fJ js),.lf m (fM ms)],.n .i64 2,.lf 1 (fQ e)] (.ow 63 10 (.l [cp c,cp d]))):∃ c' d':Cn,zH Tryz.prog 8 [.a [.lf n (fJ js),.lf m (fM ms)],.n .i64 2,.lf 1 (fQ e),.lf k (fQ q)] (.ow 63 10 (.l [cp c',cp d'])):=by
 refine ⟨bif qOk js ms q n m k c then ⟨c.kind,c.link,c.p,c.n,(vJZ .i64 ((qLo js ms q n m k c) + (vJZ .i64 ((vJZ .i64 (((e (0:Int).toNat) % 61) - 30)) * 65536)))),(vJZ .i64 ((vJZ .i64 ((qLo js ms q n m k c) + (vJZ .i64 ((vJZ .i64 (((e (0:Int).toNat) % 61) - 30)) * 65536)))) + 65536))⟩ else c,bif qOk js ms q n m k d then (bif qOk js ms q n m k c then ⟨d.kind,d.link,d.p,d.n,(vJZ .i64 ((qLo js ms q n m k d) + (-1966080))),(vJZ .i64 ((vJZ .i64 ((qLo js ms q n m k d) + (-1966080))) + 65536))⟩ else ⟨d.kind,d.link,d.p,d.n,(vJZ .i64 ((qLo js ms q n m k d) + (vJZ .i64 ((vJZ .i64 (((e (0:Int).toNat) % 61) - 30)) * 65536)))),(vJZ .i64 ((vJZ .i64 ((qLo js ms q n m k d) + (vJZ .i64 ((vJZ .i64 (((e (0:Int).toNat) % 61) - 30)) * 65536)))) + 65536))⟩) else d,qG (N:=60) yJ yY (OrL.ok (l:=[(22,o_cr [.a [.lf n (fJ js),.lf m (fM ms)],.n .i64 2,.lf 1 (fQ e)] (.ow 63 10 (.l [cp c,cp d]))),(9,yUY),(13,o_lk [.lf k (fQ q)] (decide (k≤50)) (.v (.lf (bif smQ q k then k else 0) (fB (ptB q))))),(23,o_rv js ms (ptB q) n m (bif smQ q k then k else 0))]) ⟨qJQ hc,zGY,qVK (fun h=>zYG q k (vYH h)),jHZ js ms (ptB q) n m (bif smQ q k then k else 0),trivial⟩) ?_⟩;refine (by kernel_rfl:_=bif (g1 [.a [.lf n (fJ js),.lf m (fM ms)],.n .i64 2,.lf 1 (fQ e)]) then (bif (g1 [.lf k (fQ q)] && decide (k≤50)) then (bif (g1 [.a [.lf n (fJ js),.lf m (fM ms)],.a (cp c),.lf (bif smQ q k then k else 0) (fB (ptB q))] && decide ((bif smQ q k then k else 0)≤50)) then (bif (qOk js ms q n m k c) then (bif (g1 [.lf k (fQ q)] && decide (k≤50)) then (bif (g1 [.a [.lf n (fJ js),.lf m (fM ms)],.a (cp d),.lf (bif smQ q k then k else 0) (fB (ptB q))] && decide ((bif smQ q k then k else 0)≤50)) then (bif (qOk js ms q n m k d) then some (.ow 63 10 (.l [[.n .i64 c.kind,.n .i64 c.link,.n .i64 c.p.x,.n .i64 c.p.y,.n .i64 c.p.z,.n .i64 c.n.x,.n .i64 c.n.y,.n .i64 c.n.z,.n .i64 (vJZ .i64 ((qLo js ms q n m k c) + (vJZ .i64 ((vJZ .i64 (((e (0:Int).toNat) % 61) - 30)) * 65536)))),.n .i64 (vJZ .i64 ((vJZ .i64 ((qLo js ms q n m k c) + (vJZ .i64 ((vJZ .i64 (((e (0:Int).toNat) % 61) - 30)) * 65536)))) + 65536))],[.n .i64 d.kind,.n .i64 d.link,.n .i64 d.p.x,.n .i64 d.p.y,.n .i64 d.p.z,.n .i64 d.n.x,.n .i64 d.n.y,.n .i64 d.n.z,.n .i64 (vJZ .i64 ((qLo js ms q n m k d) + (-1966080))),.n .i64 (vJZ .i64 ((vJZ .i64 ((qLo js ms q n m k d) + (-1966080))) + 65536))]]),[])
 else some (.ow 63 10 (.l [[.n .i64 c.kind,.n .i64 c.link,.n .i64 c.p.x,.n .i64 c.p.y,.n .i64 c.p.z,.n .i64 c.n.x,.n .i64 c.n.y,.n .i64 c.n.z,.n .i64 (vJZ .i64 ((qLo js ms q n m k c) + (vJZ .i64 ((vJZ .i64 (((e (0:Int).toNat) % 61) - 30)) * 65536)))),.n .i64 (vJZ .i64 ((vJZ .i64 ((qLo js ms q n m k c) + (vJZ .i64 ((vJZ .i64 (((e (0:Int).toNat) % 61) - 30)) * 65536)))) + 65536))],(cp d)]),[]))
 else none)
 else none)
 else bif (g1 [.lf k (fQ q)] && decide (k≤50)) then (bif (g1 [.a [.lf n (fJ js),.lf m (fM ms)],.a (cp d),.lf (bif smQ q k then k else 0) (fB (ptB q))] && decide ((bif smQ q k then k else 0)≤50)) then (bif (qOk js ms q n m k d) then some (.ow 63 10 (.l [(cp c),[.n .i64 d.kind,.n .i64 d.link,.n .i64 d.p.x,.n .i64 d.p.y,.n .i64 d.p.z,.n .i64 d.n.x,.n .i64 d.n.y,.n .i64 d.n.z,.n .i64 (vJZ .i64 ((qLo js ms q n m k d) + (vJZ .i64 ((vJZ .i64 (((e (0:Int).toNat) % 61) - 30)) * 65536)))),.n .i64 (vJZ .i64 ((vJZ .i64 ((qLo js ms q n m k d) + (vJZ .i64 ((vJZ .i64 (((e (0:Int).toNat) % 61) - 30)) * 65536)))) + 65536))]]),[])
 else some (.ow 63 10 (.l [(cp c),(cp d)]),[]))
 else none)
 else none)
 else none)
 else none)
 else none).trans ?_
 simp only [g1_t,vYG hk,vYG (jQH (q:=q) hk),vZJ,cond_true];cases qOk js ms q n m k c <;> cases qOk js ms q n m k d <;> rfl
theorem near2_2 (js:Nat→J) (ms:Nat→Ms) (q:Nat→Int) (n m k:Nat) (c d:Cn) (w:Nat) (e:Nat→Int) (hk:k≤50) (hc:zH Tryz.prog 22 [.a [.lf n (fJ js),.lf m (fM ms)],.n .i64 2,.lf 2 (fQ e)] (.ow 63 10 (.l [cp c,cp d]))):∃ c' d':Cn,zH Tryz.prog 8 [.a [.lf n (fJ js),.lf m (fM ms)],.n .i64 2,.lf 2 (fQ e),.lf k (fQ q)] (.ow 63 10 (.l [cp c',cp d'])):=by
 refine ⟨bif qOk js ms q n m k c then ⟨c.kind,c.link,c.p,c.n,(vJZ .i64 ((qLo js ms q n m k c) + (vJZ .i64 ((vJZ .i64 (((e (0:Int).toNat) % 61) - 30)) * 65536)))),(vJZ .i64 ((vJZ .i64 ((qLo js ms q n m k c) + (vJZ .i64 ((vJZ .i64 (((e (0:Int).toNat) % 61) - 30)) * 65536)))) + (vJZ .i64 ((vJZ .i64 (1 + ((e (1:Int).toNat) % 40))) * 65536))))⟩ else c,bif qOk js ms q n m k d then (bif qOk js ms q n m k c then ⟨d.kind,d.link,d.p,d.n,(vJZ .i64 ((qLo js ms q n m k d) + (-1966080))),(vJZ .i64 ((vJZ .i64 ((qLo js ms q n m k d) + (-1966080))) + 65536))⟩ else ⟨d.kind,d.link,d.p,d.n,(vJZ .i64 ((qLo js ms q n m k d) + (vJZ .i64 ((vJZ .i64 (((e (0:Int).toNat) % 61) - 30)) * 65536)))),(vJZ .i64 ((vJZ .i64 ((qLo js ms q n m k d) + (vJZ .i64 ((vJZ .i64 (((e (0:Int).toNat) % 61) - 30)) * 65536)))) + (vJZ .i64 ((vJZ .i64 (1 + ((e (1:Int).toNat) % 40))) * 65536))))⟩) else d,qG (N:=60) yJ yY (OrL.ok (l:=[(22,o_cr [.a [.lf n (fJ js),.lf m (fM ms)],.n .i64 2,.lf 2 (fQ e)] (.ow 63 10 (.l [cp c,cp d]))),(9,yUY),(13,o_lk [.lf k (fQ q)] (decide (k≤50)) (.v (.lf (bif smQ q k then k else 0) (fB (ptB q))))),(23,o_rv js ms (ptB q) n m (bif smQ q k then k else 0))]) ⟨qJQ hc,zGY,qVK (fun h=>zYG q k (vYH h)),jHZ js ms (ptB q) n m (bif smQ q k then k else 0),trivial⟩) ?_⟩;refine (by kernel_rfl:_=bif (g1 [.a [.lf n (fJ js),.lf m (fM ms)],.n .i64 2,.lf 2 (fQ e)]) then (bif (g1 [.lf k (fQ q)] && decide (k≤50)) then (bif (g1 [.a [.lf n (fJ js),.lf m (fM ms)],.a (cp c),.lf (bif smQ q k then k else 0) (fB (ptB q))] && decide ((bif smQ q k then k else 0)≤50)) then (bif (qOk js ms q n m k c) then (bif (g1 [.lf k (fQ q)] && decide (k≤50)) then (bif (g1 [.a [.lf n (fJ js),.lf m (fM ms)],.a (cp d),.lf (bif smQ q k then k else 0) (fB (ptB q))] && decide ((bif smQ q k then k else 0)≤50)) then (bif (qOk js ms q n m k d) then some (.ow 63 10 (.l [[.n .i64 c.kind,.n .i64 c.link,.n .i64 c.p.x,.n .i64 c.p.y,.n .i64 c.p.z,.n .i64 c.n.x,.n .i64 c.n.y,.n .i64 c.n.z,.n .i64 (vJZ .i64 ((qLo js ms q n m k c) + (vJZ .i64 ((vJZ .i64 (((e (0:Int).toNat) % 61) - 30)) * 65536)))),.n .i64 (vJZ .i64 ((vJZ .i64 ((qLo js ms q n m k c) + (vJZ .i64 ((vJZ .i64 (((e (0:Int).toNat) % 61) - 30)) * 65536)))) + (vJZ .i64 ((vJZ .i64 (1 + ((e (1:Int).toNat) % 40))) * 65536))))],[.n .i64 d.kind,.n .i64 d.link,.n .i64 d.p.x,.n .i64 d.p.y,.n .i64 d.p.z,.n .i64 d.n.x,.n .i64 d.n.y,.n .i64 d.n.z,.n .i64 (vJZ .i64 ((qLo js ms q n m k d) + (-1966080))),.n .i64 (vJZ .i64 ((vJZ .i64 ((qLo js ms q n m k d) + (-1966080))) + 65536))]]),[])
 else some (.ow 63 10 (.l [[.n .i64 c.kind,.n .i64 c.link,.n .i64 c.p.x,.n .i64 c.p.y,.n .i64 c.p.z,.n .i64 c.n.x,.n .i64 c.n.y,.n .i64 c.n.z,.n .i64 (vJZ .i64 ((qLo js ms q n m k c) + (vJZ .i64 ((vJZ .i64 (((e (0:Int).toNat) % 61) - 30)) * 65536)))),.n .i64 (vJZ .i64 ((vJZ .i64 ((qLo js ms q n m k c) + (vJZ .i64 ((vJZ .i64 (((e (0:Int).toNat) % 61) - 30)) * 65536)))) + (vJZ .i64 ((vJZ .i64 (1 + ((e (1:Int).toNat) % 40))) * 65536))))],(cp d)]),[]))
 else none)
 else none)
 else bif (g1 [.lf k (fQ q)] && decide (k≤50)) then (bif (g1 [.a [.lf n (fJ js),.lf m (fM ms)],.a (cp d),.lf (bif smQ q k then k else 0) (fB (ptB q))] && decide ((bif smQ q k then k else 0)≤50)) then (bif (qOk js ms q n m k d) then some (.ow 63 10 (.l [(cp c),[.n .i64 d.kind,.n .i64 d.link,.n .i64 d.p.x,.n .i64 d.p.y,.n .i64 d.p.z,.n .i64 d.n.x,.n .i64 d.n.y,.n .i64 d.n.z,.n .i64 (vJZ .i64 ((qLo js ms q n m k d) + (vJZ .i64 ((vJZ .i64 (((e (0:Int).toNat) % 61) - 30)) * 65536)))),.n .i64 (vJZ .i64 ((vJZ .i64 ((qLo js ms q n m k d) + (vJZ .i64 ((vJZ .i64 (((e (0:Int).toNat) % 61) - 30)) * 65536)))) + (vJZ .i64 ((vJZ .i64 (1 + ((e (1:Int).toNat) % 40))) * 65536))))]]),[])
 else some (.ow 63 10 (.l [(cp c),(cp d)]),[]))
 else none)
 else none)
 else none)
 else none)
 else none).trans ?_
 simp only [g1_t,vYG hk,vYG (jQH (q:=q) hk),vZJ,cond_true];cases qOk js ms q n m k c <;> cases qOk js ms q n m k d <;> rfl
theorem near2_3 (js:Nat→J) (ms:Nat→Ms) (q:Nat→Int) (n m k:Nat) (c d:Cn) (w:Nat) (e:Nat→Int) (hk:k≤50) (hc:zH Tryz.prog 22 [.a [.lf n (fJ js),.lf m (fM ms)],.n .i64 2,.lf 3 (fQ e)] (.ow 63 10 (.l [cp c,cp d]))):∃ c' d':Cn,zH Tryz.prog 8 [.a [.lf n (fJ js),.lf m (fM ms)],.n .i64 2,.lf 3 (fQ e),.lf k (fQ q)] (.ow 63 10 (.l [cp c',cp d'])):=by
 refine ⟨bif qOk js ms q n m k c then ⟨c.kind,c.link,c.p,c.n,(vJZ .i64 ((qLo js ms q n m k c) + (vJZ .i64 ((vJZ .i64 (((e (0:Int).toNat) % 61) - 30)) * 65536)))),(vJZ .i64 ((vJZ .i64 ((qLo js ms q n m k c) + (vJZ .i64 ((vJZ .i64 (((e (0:Int).toNat) % 61) - 30)) * 65536)))) + (vJZ .i64 ((vJZ .i64 (1 + ((e (1:Int).toNat) % 40))) * 65536))))⟩ else c,bif qOk js ms q n m k d then (bif qOk js ms q n m k c then ⟨d.kind,d.link,d.p,d.n,(vJZ .i64 ((qLo js ms q n m k d) + (vJZ .i64 ((vJZ .i64 (((e (2:Int).toNat) % 61) - 30)) * 65536)))),(vJZ .i64 ((vJZ .i64 ((qLo js ms q n m k d) + (vJZ .i64 ((vJZ .i64 (((e (2:Int).toNat) % 61) - 30)) * 65536)))) + 65536))⟩ else ⟨d.kind,d.link,d.p,d.n,(vJZ .i64 ((qLo js ms q n m k d) + (vJZ .i64 ((vJZ .i64 (((e (0:Int).toNat) % 61) - 30)) * 65536)))),(vJZ .i64 ((vJZ .i64 ((qLo js ms q n m k d) + (vJZ .i64 ((vJZ .i64 (((e (0:Int).toNat) % 61) - 30)) * 65536)))) + (vJZ .i64 ((vJZ .i64 (1 + ((e (1:Int).toNat) % 40))) * 65536))))⟩) else d,qG (N:=60) yJ yY (OrL.ok (l:=[(22,o_cr [.a [.lf n (fJ js),.lf m (fM ms)],.n .i64 2,.lf 3 (fQ e)] (.ow 63 10 (.l [cp c,cp d]))),(9,yUY),(13,o_lk [.lf k (fQ q)] (decide (k≤50)) (.v (.lf (bif smQ q k then k else 0) (fB (ptB q))))),(23,o_rv js ms (ptB q) n m (bif smQ q k then k else 0))]) ⟨qJQ hc,zGY,qVK (fun h=>zYG q k (vYH h)),jHZ js ms (ptB q) n m (bif smQ q k then k else 0),trivial⟩) ?_⟩;refine (by kernel_rfl:_=bif (g1 [.a [.lf n (fJ js),.lf m (fM ms)],.n .i64 2,.lf 3 (fQ e)]) then (bif (g1 [.lf k (fQ q)] && decide (k≤50)) then (bif (g1 [.a [.lf n (fJ js),.lf m (fM ms)],.a (cp c),.lf (bif smQ q k then k else 0) (fB (ptB q))] && decide ((bif smQ q k then k else 0)≤50)) then (bif (qOk js ms q n m k c) then (bif (g1 [.lf k (fQ q)] && decide (k≤50)) then (bif (g1 [.a [.lf n (fJ js),.lf m (fM ms)],.a (cp d),.lf (bif smQ q k then k else 0) (fB (ptB q))] && decide ((bif smQ q k then k else 0)≤50)) then (bif (qOk js ms q n m k d) then some (.ow 63 10 (.l [[.n .i64 c.kind,.n .i64 c.link,.n .i64 c.p.x,.n .i64 c.p.y,.n .i64 c.p.z,.n .i64 c.n.x,.n .i64 c.n.y,.n .i64 c.n.z,.n .i64 (vJZ .i64 ((qLo js ms q n m k c) + (vJZ .i64 ((vJZ .i64 (((e (0:Int).toNat) % 61) - 30)) * 65536)))),.n .i64 (vJZ .i64 ((vJZ .i64 ((qLo js ms q n m k c) + (vJZ .i64 ((vJZ .i64 (((e (0:Int).toNat) % 61) - 30)) * 65536)))) + (vJZ .i64 ((vJZ .i64 (1 + ((e (1:Int).toNat) % 40))) * 65536))))],[.n .i64 d.kind,.n .i64 d.link,.n .i64 d.p.x,.n .i64 d.p.y,.n .i64 d.p.z,.n .i64 d.n.x,.n .i64 d.n.y,.n .i64 d.n.z,.n .i64 (vJZ .i64 ((qLo js ms q n m k d) + (vJZ .i64 ((vJZ .i64 (((e (2:Int).toNat) % 61) - 30)) * 65536)))),.n .i64 (vJZ .i64 ((vJZ .i64 ((qLo js ms q n m k d) + (vJZ .i64 ((vJZ .i64 (((e (2:Int).toNat) % 61) - 30)) * 65536)))) + 65536))]]),[])
 else some (.ow 63 10 (.l [[.n .i64 c.kind,.n .i64 c.link,.n .i64 c.p.x,.n .i64 c.p.y,.n .i64 c.p.z,.n .i64 c.n.x,.n .i64 c.n.y,.n .i64 c.n.z,.n .i64 (vJZ .i64 ((qLo js ms q n m k c) + (vJZ .i64 ((vJZ .i64 (((e (0:Int).toNat) % 61) - 30)) * 65536)))),.n .i64 (vJZ .i64 ((vJZ .i64 ((qLo js ms q n m k c) + (vJZ .i64 ((vJZ .i64 (((e (0:Int).toNat) % 61) - 30)) * 65536)))) + (vJZ .i64 ((vJZ .i64 (1 + ((e (1:Int).toNat) % 40))) * 65536))))],(cp d)]),[]))
 else none)
 else none)
 else bif (g1 [.lf k (fQ q)] && decide (k≤50)) then (bif (g1 [.a [.lf n (fJ js),.lf m (fM ms)],.a (cp d),.lf (bif smQ q k then k else 0) (fB (ptB q))] && decide ((bif smQ q k then k else 0)≤50)) then (bif (qOk js ms q n m k d) then some (.ow 63 10 (.l [(cp c),[.n .i64 d.kind,.n .i64 d.link,.n .i64 d.p.x,.n .i64 d.p.y,.n .i64 d.p.z,.n .i64 d.n.x,.n .i64 d.n.y,.n .i64 d.n.z,.n .i64 (vJZ .i64 ((qLo js ms q n m k d) + (vJZ .i64 ((vJZ .i64 (((e (0:Int).toNat) % 61) - 30)) * 65536)))),.n .i64 (vJZ .i64 ((vJZ .i64 ((qLo js ms q n m k d) + (vJZ .i64 ((vJZ .i64 (((e (0:Int).toNat) % 61) - 30)) * 65536)))) + (vJZ .i64 ((vJZ .i64 (1 + ((e (1:Int).toNat) % 40))) * 65536))))]]),[])
 else some (.ow 63 10 (.l [(cp c),(cp d)]),[]))
 else none)
 else none)
 else none)
 else none)
 else none).trans ?_
 simp only [g1_t,vYG hk,vYG (jQH (q:=q) hk),vZJ,cond_true];cases qOk js ms q n m k c <;> cases qOk js ms q n m k d <;> rfl
theorem near2_4 (js:Nat→J) (ms:Nat→Ms) (q:Nat→Int) (n m k:Nat) (c d:Cn) (w:Nat) (e:Nat→Int) (hk:k≤50) (hc:zH Tryz.prog 22 [.a [.lf n (fJ js),.lf m (fM ms)],.n .i64 2,.lf (w + 4) (fQ e)] (.ow 63 10 (.l [cp c,cp d]))):∃ c' d':Cn,zH Tryz.prog 8 [.a [.lf n (fJ js),.lf m (fM ms)],.n .i64 2,.lf (w + 4) (fQ e),.lf k (fQ q)] (.ow 63 10 (.l [cp c',cp d'])):=by
 refine ⟨bif qOk js ms q n m k c then ⟨c.kind,c.link,c.p,c.n,(vJZ .i64 ((qLo js ms q n m k c) + (vJZ .i64 ((vJZ .i64 (((e (0:Int).toNat) % 61) - 30)) * 65536)))),(vJZ .i64 ((vJZ .i64 ((qLo js ms q n m k c) + (vJZ .i64 ((vJZ .i64 (((e (0:Int).toNat) % 61) - 30)) * 65536)))) + (vJZ .i64 ((vJZ .i64 (1 + ((e (1:Int).toNat) % 40))) * 65536))))⟩ else c,bif qOk js ms q n m k d then (bif qOk js ms q n m k c then ⟨d.kind,d.link,d.p,d.n,(vJZ .i64 ((qLo js ms q n m k d) + (vJZ .i64 ((vJZ .i64 (((e (2:Int).toNat) % 61) - 30)) * 65536)))),(vJZ .i64 ((vJZ .i64 ((qLo js ms q n m k d) + (vJZ .i64 ((vJZ .i64 (((e (2:Int).toNat) % 61) - 30)) * 65536)))) + (vJZ .i64 ((vJZ .i64 (1 + ((e (3:Int).toNat) % 40))) * 65536))))⟩ else ⟨d.kind,d.link,d.p,d.n,(vJZ .i64 ((qLo js ms q n m k d) + (vJZ .i64 ((vJZ .i64 (((e (0:Int).toNat) % 61) - 30)) * 65536)))),(vJZ .i64 ((vJZ .i64 ((qLo js ms q n m k d) + (vJZ .i64 ((vJZ .i64 (((e (0:Int).toNat) % 61) - 30)) * 65536)))) + (vJZ .i64 ((vJZ .i64 (1 + ((e (1:Int).toNat) % 40))) * 65536))))⟩) else d,qG (N:=60) yJ yY (OrL.ok (l:=[(22,o_cr [.a [.lf n (fJ js),.lf m (fM ms)],.n .i64 2,.lf (w + 4) (fQ e)] (.ow 63 10 (.l [cp c,cp d]))),(9,yUY),(13,o_lk [.lf k (fQ q)] (decide (k≤50)) (.v (.lf (bif smQ q k then k else 0) (fB (ptB q))))),(23,o_rv js ms (ptB q) n m (bif smQ q k then k else 0))]) ⟨qJQ hc,zGY,qVK (fun h=>zYG q k (vYH h)),jHZ js ms (ptB q) n m (bif smQ q k then k else 0),trivial⟩) ?_⟩;refine (by kernel_rfl:_=bif (g1 [.a [.lf n (fJ js),.lf m (fM ms)],.n .i64 2,.lf (w + 4) (fQ e)]) then (bif (g1 [.lf k (fQ q)] && decide (k≤50)) then (bif (g1 [.a [.lf n (fJ js),.lf m (fM ms)],.a (cp c),.lf (bif smQ q k then k else 0) (fB (ptB q))] && decide ((bif smQ q k then k else 0)≤50)) then (bif (qOk js ms q n m k c) then (bif (g1 [.lf k (fQ q)] && decide (k≤50)) then (bif (g1 [.a [.lf n (fJ js),.lf m (fM ms)],.a (cp d),.lf (bif smQ q k then k else 0) (fB (ptB q))] && decide ((bif smQ q k then k else 0)≤50)) then (bif (qOk js ms q n m k d) then some (.ow 63 10 (.l [[.n .i64 c.kind,.n .i64 c.link,.n .i64 c.p.x,.n .i64 c.p.y,.n .i64 c.p.z,.n .i64 c.n.x,.n .i64 c.n.y,.n .i64 c.n.z,.n .i64 (vJZ .i64 ((qLo js ms q n m k c) + (vJZ .i64 ((vJZ .i64 (((e (0:Int).toNat) % 61) - 30)) * 65536)))),.n .i64 (vJZ .i64 ((vJZ .i64 ((qLo js ms q n m k c) + (vJZ .i64 ((vJZ .i64 (((e (0:Int).toNat) % 61) - 30)) * 65536)))) + (vJZ .i64 ((vJZ .i64 (1 + ((e (1:Int).toNat) % 40))) * 65536))))],[.n .i64 d.kind,.n .i64 d.link,.n .i64 d.p.x,.n .i64 d.p.y,.n .i64 d.p.z,.n .i64 d.n.x,.n .i64 d.n.y,.n .i64 d.n.z,.n .i64 (vJZ .i64 ((qLo js ms q n m k d) + (vJZ .i64 ((vJZ .i64 (((e (2:Int).toNat) % 61) - 30)) * 65536)))),.n .i64 (vJZ .i64 ((vJZ .i64 ((qLo js ms q n m k d) + (vJZ .i64 ((vJZ .i64 (((e (2:Int).toNat) % 61) - 30)) * 65536)))) + (vJZ .i64 ((vJZ .i64 (1 + ((e (3:Int).toNat) % 40))) * 65536))))]]),[])
 else some (.ow 63 10 (.l [[.n .i64 c.kind,.n .i64 c.link,.n .i64 c.p.x,.n .i64 c.p.y,.n .i64 c.p.z,.n .i64 c.n.x,.n .i64 c.n.y,.n .i64 c.n.z,.n .i64 (vJZ .i64 ((qLo js ms q n m k c) + (vJZ .i64 ((vJZ .i64 (((e (0:Int).toNat) % 61) - 30)) * 65536)))),.n .i64 (vJZ .i64 ((vJZ .i64 ((qLo js ms q n m k c) + (vJZ .i64 ((vJZ .i64 (((e (0:Int).toNat) % 61) - 30)) * 65536)))) + (vJZ .i64 ((vJZ .i64 (1 + ((e (1:Int).toNat) % 40))) * 65536))))],(cp d)]),[]))
 else none)
 else none)
 else bif (g1 [.lf k (fQ q)] && decide (k≤50)) then (bif (g1 [.a [.lf n (fJ js),.lf m (fM ms)],.a (cp d),.lf (bif smQ q k then k else 0) (fB (ptB q))] && decide ((bif smQ q k then k else 0)≤50)) then (bif (qOk js ms q n m k d) then some (.ow 63 10 (.l [(cp c),[.n .i64 d.kind,.n .i64 d.link,.n .i64 d.p.x,.n .i64 d.p.y,.n .i64 d.p.z,.n .i64 d.n.x,.n .i64 d.n.y,.n .i64 d.n.z,.n .i64 (vJZ .i64 ((qLo js ms q n m k d) + (vJZ .i64 ((vJZ .i64 (((e (0:Int).toNat) % 61) - 30)) * 65536)))),.n .i64 (vJZ .i64 ((vJZ .i64 ((qLo js ms q n m k d) + (vJZ .i64 ((vJZ .i64 (((e (0:Int).toNat) % 61) - 30)) * 65536)))) + (vJZ .i64 ((vJZ .i64 (1 + ((e (1:Int).toNat) % 40))) * 65536))))]]),[])
 else some (.ow 63 10 (.l [(cp c),(cp d)]),[]))
 else none)
 else none)
 else none)
 else none)
 else none).trans ?_
 simp only [g1_t,vYG hk,vYG (jQH (q:=q) hk),vZJ,cond_true];cases qOk js ms q n m k c <;> cases qOk js ms q n m k d <;> rfl
theorem near2 (js:Nat→J) (ms:Nat→Ms) (q:Nat→Int) (n m k:Nat) (c d:Cn) (w:Nat) (e:Nat→Int) (hk:k≤50) (hc:zH Tryz.prog 22 [.a [.lf n (fJ js),.lf m (fM ms)],.n .i64 2,.lf w (fQ e)] (.ow 63 10 (.l [cp c,cp d]))):∃ c' d':Cn,zH Tryz.prog 8 [.a [.lf n (fJ js),.lf m (fM ms)],.n .i64 2,.lf w (fQ e),.lf k (fQ q)] (.ow 63 10 (.l [cp c',cp d'])):=by
 rcases w with _ | _ | _ | _ | w
 ·exact near2_0 js ms q n m k c d 0 e hk hc
 ·exact near2_1 js ms q n m k c d 1 e hk hc
 ·exact near2_2 js ms q n m k c d 2 e hk hc
 ·exact near2_3 js ms q n m k c d 3 e hk hc
 ·exact near2_4 js ms q n m k c d w e hk hc
def c0:Cn:=⟨0,0,⟨0,0,0⟩,⟨0,0,0⟩,0,0⟩
theorem snd_nearV {l mm a:List Int} {u:Nat} (hu:u≤2) (hm:mm.length≤9223372036854775807):∃ ce:Nat→Cn,zH Tryz.prog 8 [.a [.lf (nJ l 0) (fJ (jaOf l)),.lf (nM l 0) (fM (maOf l))],.n .i64 u,zUQ mm,.lf (nJ l 0) (fQ (cqOf l a))] (.v (.lf u (fC ce))):=by
 have hb:=nJ_b l 0;have hc:=snd_consO (l:=l) (n:=u) (by omega) hm;have hlen:(jWH l mm u).length=u:=yHU _ _ _ _;have hc':=qYG (ps':=[.a [.lf (nJ l 0) (fJ (jaOf l)),.lf (nM l 0) (fM (maOf l))],.n .i64 u,.lf mm.length (fQ (iqOf mm))]) (fun _ _ _=>Sames.al (ys:=[_,_,_]) ⟨Same.refl _,Same.refl _,ints_same' mm,trivial⟩) hc;have tr:∀ {r:Ret},zH Tryz.prog 8 [.a [.lf (nJ l 0) (fJ (jaOf l)),.lf (nM l 0) (fM (maOf l))],.n .i64 u,.lf mm.length (fQ (iqOf mm)),.lf (nJ l 0) (fQ (cqOf l a))] r→zH Tryz.prog 8 [.a [.lf (nJ l 0) (fJ (jaOf l)),.lf (nM l 0) (fM (maOf l))],.n .i64 u,zUQ mm,.lf (nJ l 0) (fQ (cqOf l a))] r:=fun h=>qYG (fun _ _ _=>Sames.al (ys:=[_,_,_,_]) ⟨Same.refl _,Same.refl _,ints_same mm,Same.refl _,trivial⟩) h
 match u,hu,jWH l mm u,hlen,hc',@tr with
 | 0,_,[],_,hc',tr=>exact ⟨fun _=>c0,qYJ (Same.lf rfl) (zGU (tr (near0 (jaOf l) (maOf l) (cqOf l a) (nJ l 0) (nM l 0) (nJ l 0) c0 c0 mm.length (iqOf mm) (by omega) hc')))⟩
 | 1,_,[c],_,hc',tr =>
  obtain ⟨c',h⟩:=snd_near (jaOf l) (maOf l) (cqOf l a) (nJ l 0) (nM l 0) (nJ l 0) c mm.length (iqOf mm) (by omega) hc';exact ⟨fun _=>c',qYJ (Same.lf rfl) (zGU (tr h))⟩
 | 2,_,[c,d],_,hc',tr =>
  obtain ⟨c',d',h⟩:=near2 (jaOf l) (maOf l) (cqOf l a) (nJ l 0) (nM l 0) (nJ l 0) c d mm.length (iqOf mm) (by omega) hc';exact ⟨fun i=>match i with | 0=>c' | _=>d',qYJ (Same.lf rfl) (zGU (tr h))⟩
end Go.Proofs.YtmffoiemmlcmfaaGreat.Nz
namespace Go.Proofs.YtmffoiemmlcmfaaGreat.Nh3
open Go.Rx Rt Go.Sx Go.RowKit Od Ov Pc Na Nb Nc Nd Nx Nf Ng Nj Nl Nm Nn No Nq Nr Ns Nu Nv Nw Ny Nz
theorem ha_in {js:Nat→J} {ms:Nat→Ms} {q:Nat→Int} {n m k:Nat} {cs:Nat→Cn} {c:Nat} (h:hA js ms q n m k cs c=true):cErr js ms n m cs c=true∧qIn js ms q n m k=true:=by
 unfold Ny.hA hAB at h;simp only [vQJ] at h;obtain ⟨hc,hp,_⟩:=h;obtain ⟨h0,hn,_⟩:=kHX hp;have h1:=qWV h0;unfold pIn insB at hp;simp only [vQJ] at hp;have hk:n=k:=by
  cases hs:smQ q k with
  | true=>rw [hs] at hn; exact hn
  | false=>rw [hs] at hn; exact absurd hn (by show ¬ n=0; omega)
 refine ⟨hc,?_⟩;unfold qIn insQ;rw [vYG h0,vYG (show (n:Int)=(k:Int) by omega)];simp only [vZH];refine allN_iff.2 fun i h1 h2 => ?_
 have:=allN_iff.1 hp.2.2 i h1 h2
 unfold Iv.within ptB at this;simp only [vQJ,decide_eq_true_eq] at this;rw [vYG this.1.2,vYG this.2]; rfl
theorem prj_spec {js:Nat→J} {ms:Nat→Ms} {n m k:Nat} {cs:Nat→Cn} {c:Nat} (hc:cErr js ms n m cs c=true):∀ r j p j' p',qIn js ms p n m k=true→nrm' k p=p→prj js ms n m k cs c r j p=some (j',p')→allH js ms p' n m k cs c=true∧qIn js ms p' n m k=true∧j≤j'∧(j'=j→p'=p)∧(allH js ms p n m k cs c=true→j'=j)
 | 0,j,p,j',p',hq,hn,h=>by
  rw [prj] at h;cases e:allH js ms p n m k cs c with
  | false=>rw [e] at h; cases h
  | true =>
   rw [e] at h;cases h;exact ⟨e,hq,Nat.le_refl _,fun _=>rfl,fun _=>rfl⟩
 | r + 1,j,p,j',p',hq,hn,h=>by
  rw [prj] at h;cases e:allH js ms p n m k cs c with
  | true =>
   rw [e] at h;cases h;exact ⟨e,hq,Nat.le_refl _,fun _=>rfl,fun _=>rfl⟩
  | false =>
   rw [e,cond_false] at h;obtain ⟨h1,h2⟩:=kJX hc hq hn;obtain ⟨a,b,d,_,_⟩:=prj_spec hc r (j + 1) _ j' p' h1 h2 h;exact ⟨a,b,by omega,fun h=>absurd h (by omega),fun h=>by cases h⟩
def isIn (js:Nat→J) (ms:Nat→Ms) (n m:Nat) (ps:List PV):Prop:=∃ (q:Nat→Int) (k:Nat),ps=[.a [.lf n (fJ js),.lf m (fM ms)],.lf k (fQ q)]
noncomputable def o_in (js:Nat→J) (ms:Nat→Ms) (n m:Nat):List PV→Option (Bool × Ret):=fun ps=>match ps with
 | [r,.lf k f]=>some (gP (isIn js ms n m [r,.lf k f]),.v (.b (qIn js ms (unFQ f) n m k)))
 | _=>none
theorem ok_sm2:zW Tryz.prog 14 kUZ:=by
 intro ps r hh;unfold kUZ at hh;split at hh
 ·simp only [vQZ,vQY] at hh;obtain ⟨hg,rfl⟩:=hh;obtain ⟨q,u,k,l,hk,e⟩:=qWK hg;simp only [List.cons.injEq,PV.lf.injEq,and_true] at e;obtain ⟨⟨rfl,rfl⟩,rfl,rfl⟩:=e;exact snd_sam _ _ _ _ hk
 ·cases hh
end Go.Proofs.YtmffoiemmlcmfaaGreat.Nh3
namespace Go.Proofs.YtmffoiemmlcmfaaGreat.Ea
open Go.Rx Rt Go.Sx Go.RowKit Od Ov Pc Na Nb Nc Nd Nx Nf Ng Nj Nl Nm Nn No Nq Nr Ns Nu Nv Nw Ny Nz Nh3
noncomputable def kUQ:List PV→Option (Bool × Ret):=fun ps=>match ps with
 | [.lf k f]=>some (decide (k≤50) && gFQ f,.v (.b (smQ (unFQ f) k)))
 | _=>none
theorem ok_smp:zW Tryz.prog 57 kUQ:=by
 intro ps r hh;unfold kUQ at hh;split at hh
 ·rename_i k f;simp only [vQZ,vQY,vQJ] at hh;obtain ⟨⟨hk,hf⟩,rfl⟩:=hh
  have:=snd_sm (unFQ f) k (vYH hk)
  rw [← jZX hf] at this;exact this
 ·cases hh
theorem ok_smr:zW Tryz.prog 36 kUQ:=by
 intro ps r hh;unfold kUQ at hh;split at hh
 ·rename_i k f;simp only [vQZ,vQY,vQJ] at hh;obtain ⟨⟨hk,hf⟩,rfl⟩:=hh
  have:=snd_rsm (unFQ f) k (vYH hk)
  rw [← jZX hf] at this;exact this
 ·cases hh
def dsS (js:Nat→J) (q u:Nat→Int) (n:Nat):Int:=zHJ (fun (i:Nat) (s:Int)=>vJZ .i64 (s + vJZ .i64 ((js i).weight * max (vJZ .i64 (u i - q i)) (vJZ .i64 (q i - u i))))) n 0 0
def dsQ (js:Nat→J) (ms:Nat→Ms) (q u:Nat→Int) (n m k l:Nat):Int:=bif decide (rErr js ms n m=0) && decide (k=n) && decide (l=n) && smQ q k && smQ u l then dsS js q u n else 0
noncomputable def orDi (js:Nat→J) (ms:Nat→Ms) (q u:Nat→Int) (n m k l:Nat):OrL:=[(57,kUQ),(50,o_cr [.a [.lf n (fJ js),.lf m (fM ms)]] (.v (.n .i64 (rErr js ms n m))))]
noncomputable def hDi (js:Nat→J) (ms:Nat→Ms) (q u:Nat→Int) (n m k l:Nat) (i:Int) (s:Int):St:=⟨[(1,.v (.lf k (fQ q))),(2,.v (.lf l (fQ u))),(8,.v (.n .i64 s)),(40,.v (.lf n (fJ js))),(41,.v (.n .i64 (n:Int))),(42,.v (.n .i64 i))],[]⟩
set_option maxRecDepth 100000 in
theorem rdDi (G:St→Option (Ret × Mem)) (K:Cont) (js:Nat→J) (ms:Nat→Ms) (q u:Nat→Int) (n m k l:Nat) (i:Int) (s:Int):qXW 60 (cxF Tf (OrL.k (orDi js ms q u n m k l)) 60 32 (ntmF Tf 32)) (ckF Tf (OrL.k (orDi js ms q u n m k l)) 60) (zX []) (qK Tf 32 [0,1,0,1,1,1,1]) [0,1,0,1,1,1,1] (Tf.hint 32 (zJ (qK Tf 32 [0,1,0,1,1,1,1]))) K G (hDi js ms q u n m k l i s) =
 (bif (decide (i < (n:Int))) then (bif (inB i n) then (bif (inB i l) then (bif (inB i k) then (bif (inB i k) then (bif (inB i l) then (G (hDi js ms q u n m k l (vJZ .i64 (i + 1)) (vJZ .i64 (s + (vJZ .i64 ((js (i).toNat).weight * (max (vJZ .i64 ((u (i).toNat) - (q (i).toNat))) (vJZ .i64 ((q (i).toNat) - (u (i).toNat))))))))))
 else none)
 else none)
 else none)
 else none)
 else none)
 else (K (.exit 0) ⟨[(8,.v (.n .i64 s))],[]⟩)):=by kernel_rfl
theorem lpDi (K:Cont) (js:Nat→J) (ms:Nat→Ms) (q u:Nat→Int) (n m k l:Nat) (hn:n≤10) (hk:k=n) (hl:l=n):LFL 60 (cxF Tf (OrL.k (orDi js ms q u n m k l)) 60 32 (ntmF Tf 32)) (ckF Tf (OrL.k (orDi js ms q u n m k l)) 60) (zX []) (qK Tf 32 [0,1,0,1,1,1,1]) [0,1,0,1,1,1,1] (Tf.hint 32 (zJ (qK Tf 32 [0,1,0,1,1,1,1]))) K 60 (hDi js ms q u n m k l 0 0)=(K (.exit 0) ⟨[(8,.v (.n .i64 (zHJ (fun (i:Nat) (s:Int)=>vJZ .i64 (s + vJZ .i64 ((js i).weight * max (vJZ .i64 (u i - q i)) (vJZ .i64 (q i - u i))))) n 0 0)))],[]⟩):=by
 refine (zYX (L:=LFL 60 (cxF Tf (OrL.k (orDi js ms q u n m k l)) 60 32 (ntmF Tf 32)) (ckF Tf (OrL.k (orDi js ms q u n m k l)) 60) (zX []) (qK Tf 32 [0,1,0,1,1,1,1]) [0,1,0,1,1,1,1] (Tf.hint 32 (zJ (qK Tf 32 [0,1,0,1,1,1,1]))) K) (stp:=qXW 60 (cxF Tf (OrL.k (orDi js ms q u n m k l)) 60 32 (ntmF Tf 32)) (ckF Tf (OrL.k (orDi js ms q u n m k l)) 60) (zX []) (qK Tf 32 [0,1,0,1,1,1,1]) [0,1,0,1,1,1,1] (Tf.hint 32 (zJ (qK Tf 32 [0,1,0,1,1,1,1]))) K) (fun _ _=>rfl) (fun (i:Nat) (s:Int)=>hDi js ms q u n m k l (i:Int) s) (fun _ _=>True) (fun _ _=>true) (fun (i:Nat) (s:Int)=>vJZ .i64 (s + vJZ .i64 ((js i).weight * max (vJZ .i64 (u i - q i)) (vJZ .i64 (q i - u i))))) (c:=n) (fun s=>(K (.exit 0) ⟨[(8,.v (.n .i64 s))],[]⟩)) (fun _ _=>none) (fun G i s hi _ => ?_) (fun _ _ _ _ _=>trivial) (fun G s _ => ?_) n 0 60 0 (by omega) (by omega) trivial).trans (zXW n 0 _)
 ·refine (rdDi G K js ms q u n m k l i s).trans ?_;simp only [vYG (show (i:Int) < (n:Int) by omega),qZZ (show i < 1000000 by omega),jY (show i < n by omega),jY (show i < k by omega),jY (show i < l by omega),toN,cond_true]
  all_goals rfl
 ·refine (rdDi G K js ms q u n m k l n s).trans ?_;rw [vYV (show ¬ (n:Int) < (n:Int) by omega)];rfl
noncomputable def uQQ (js:Nat→J) (ms:Nat→Ms) (q u:Nat→Int) (n m k l:Nat):List (List Nat × qUG):=[([0,1,0,1,1,1,1],sumF (fun _:Unit=>(hDi js ms q u n m k l 0 0)) (fun _=>()) (fun _ K=>(bif (decide (n≤10) && decide (k=n) && decide (l=n)) then (K (.exit 0) ⟨[(8,.v (.n .i64 (zHJ (fun (i:Nat) (s:Int)=>vJZ .i64 (s + vJZ .i64 ((js i).weight * max (vJZ .i64 (u i - q i)) (vJZ .i64 (q i - u i))))) n 0 0)))],[]⟩) else none)))]
set_option maxRecDepth 100000 in
theorem pxdis (js:Nat→J) (ms:Nat→Ms) (q u:Nat→Int) (n m k l:Nat):qKZ Tf (OrL.k (orDi js ms q u n m k l)) (zX (uQQ js ms q u n m k l)) 60 32 [.a [.lf n (fJ js),.lf m (fM ms)],.lf k (fQ q),.lf l (fQ u)] =
 (bif (!decide ((k:Int)=(n:Int))) then some (.v (.n .i64 0),[])
 else (bif (!decide ((l:Int)=(n:Int))) then some (.v (.n .i64 0),[])
 else (bif (decide (k≤50) && gFQ (fQ q)) then (bif (smQ q k) then (bif (decide (l≤50) && gFQ (fQ u)) then (bif (smQ u l) then (bif (g1 [.a [.lf n (fJ js),.lf m (fM ms)]]) then (bif (!decide ((rErr js ms n m)=0)) then some (.v (.n .i64 0),[])
 else (bif (gSt (hDi js ms q u n m k l 0 0) (hDi js ms q u n m k l 0 0)) then (bif (decide (n≤10) && decide (k=n) && decide (l=n)) then some (.v (.n .i64 (zHJ (fun (i:Nat) (s:Int)=>vJZ .i64 (s + vJZ .i64 ((js i).weight * max (vJZ .i64 (u i - q i)) (vJZ .i64 (q i - u i))))) n 0 0)),[])
 else none)
 else none))
 else none)
 else some (.v (.n .i64 0),[]))
 else none)
 else some (.v (.n .i64 0),[]))
 else none))):=by kernel_rfl
theorem snd_dis (js:Nat→J) (ms:Nat→Ms) (q u:Nat→Int) (n m k l:Nat) (hk0:k≤50) (hl0:l≤50):zH Tryz.prog 32 [.a [.lf n (fJ js),.lf m (fM ms)],.lf k (fQ q),.lf l (fQ u)] (.v (.n .i64 (dsQ js ms q u n m k l))):=by
 refine qQX (N:=60) (LO:=zX (uQQ js ms q u n m k l)) zJK yY (OrL.ok (l:=(orDi js ms q u n m k l)) ⟨ok_smp,qJQ (yWQ js ms n m),trivial⟩) (fun p S hp => ?_) ?_
 ·refine qQG (L:=qK Tf 32) (l:=(uQQ js ms q u n m k l)) (show AllP _ (uQQ js ms q u n m k l) from ⟨?_,trivial⟩) p S hp
  ·dsimp only;refine qWJ (T:=Tf) (ok:=(OrL.k (orDi js ms q u n m k l))) (f:=32) (LO:=zX []) (p:=[0,1,0,1,1,1,1]) qGX ?_;intro _ K r hr;obtain ⟨hg,hr⟩:=zQ hr;simp only [vQJ,decide_eq_true_eq] at hg;obtain ⟨⟨hn,hk⟩,hl⟩:=hg;exact (lpDi K js ms q u n m k l hn hk hl).trans hr
 ·refine (pxdis js ms q u n m k l).trans ?_;simp only [g1_t,(zWJ (q:=q) rfl).1,(zWJ (q:=u) rfl).1,vYG hk0,vYG hl0,vZJ,cond_true,jU];unfold dsQ dsS;by_cases hr:rErr js ms n m=0
  ·have h10:=qWV hr;by_cases h1:k=n
   ·by_cases h2:l=n
    ·subst h1; subst h2;simp only [hr,decide_true,Bool.not_true,vZH,Bool.and_true,cond_true,cond_false,vYG (show l≤10 by omega)];cases smQ q l <;> cases smQ u l <;> rfl
    ·simp only [vYG hr,vYG h1,vYV h2,vYG (show (k:Int)=(n:Int) by omega),vYV (show ¬ (l:Int)=(n:Int) by omega),vYV (show ¬ (l:Int)=(k:Int) by omega),Bool.and_false,Bool.false_and,Bool.not_true,Bool.not_false,cond_true,cond_false]
     all_goals (cases smQ q k <;> cases smQ u l <;> rfl)
   ·simp only [vYG hr,vYV h1,vYV (show ¬ (k:Int)=(n:Int) by omega),Bool.and_false,Bool.false_and,Bool.not_false,Bool.not_true,cond_true,cond_false]
    all_goals (cases smQ q k <;> cases smQ u l <;> rfl)
  ·simp only [vYV hr,Bool.false_and,Bool.not_false,cond_true,cond_false,Bool.cond_self]
   all_goals (cases decide ((k:Int)=(n:Int)) <;> cases decide ((l:Int)=(n:Int)) <;> cases smQ q k <;> cases smQ u l <;> rfl)
noncomputable def orDr (js:Nat→J) (ms:Nat→Ms) (q u:Nat→Int) (n m k l:Nat):OrL:=[(36,kUQ),(37,o_cr [.a [.lf n (fJ js),.lf m (fM ms)]] (.v (.n .i64 (rErr js ms n m))))]
noncomputable def hDr (js:Nat→J) (ms:Nat→Ms) (q u:Nat→Int) (n m k l:Nat) (i:Int) (s:Int):St:=⟨[(1,.v (.lf k (fQ q))),(2,.v (.lf l (fQ u))),(3,.p 3 0),(7,.v (.n .i64 s)),(8,.v (.n .i64 i))],[(3,.blk [.v (.lf n (fJ js)),.v (.lf m (fM ms))])]⟩
set_option maxRecDepth 100000 in
theorem rdDr (G:St→Option (Ret × Mem)) (K:Cont) (js:Nat→J) (ms:Nat→Ms) (q u:Nat→Int) (n m k l:Nat) (i:Int) (s:Int):qXW 60 (cxF Tf (OrL.k (orDr js ms q u n m k l)) 60 15 (ntmF Tf 15)) (ckF Tf (OrL.k (orDr js ms q u n m k l)) 60) (zX []) (qK Tf 15 [0,1,0,1,1,1]) [0,1,0,1,1,1] (Tf.hint 15 (zJ (qK Tf 15 [0,1,0,1,1,1]))) K G (hDr js ms q u n m k l i s) =
 (bif (decide (i < (k:Int))) then (bif (inB i n) then (bif (inB i k) then (bif (inB i l) then (bif (inB i l) then (bif (inB i k) then (G (hDr js ms q u n m k l (vJZ .i64 (i + 1)) (vJZ .i64 (s + (vJZ .i64 ((js (i).toNat).weight * (max (vJZ .i64 ((q (i).toNat) - (u (i).toNat))) (vJZ .i64 ((u (i).toNat) - (q (i).toNat))))))))))
 else none)
 else none)
 else none)
 else none)
 else none)
 else (K (.exit 0) ⟨[(7,.v (.n .i64 s))],[]⟩)):=by kernel_rfl
theorem lpDr (K:Cont) (js:Nat→J) (ms:Nat→Ms) (q u:Nat→Int) (n m k l:Nat) (hn:n≤10) (hk:k=n) (hl:l=n):LFL 60 (cxF Tf (OrL.k (orDr js ms q u n m k l)) 60 15 (ntmF Tf 15)) (ckF Tf (OrL.k (orDr js ms q u n m k l)) 60) (zX []) (qK Tf 15 [0,1,0,1,1,1]) [0,1,0,1,1,1] (Tf.hint 15 (zJ (qK Tf 15 [0,1,0,1,1,1]))) K 60 (hDr js ms q u n m k l 0 0)=(K (.exit 0) ⟨[(7,.v (.n .i64 (zHJ (fun (i:Nat) (s:Int)=>vJZ .i64 (s + vJZ .i64 ((js i).weight * max (vJZ .i64 (u i - q i)) (vJZ .i64 (q i - u i))))) n 0 0)))],[]⟩):=by
 refine (zYX (L:=LFL 60 (cxF Tf (OrL.k (orDr js ms q u n m k l)) 60 15 (ntmF Tf 15)) (ckF Tf (OrL.k (orDr js ms q u n m k l)) 60) (zX []) (qK Tf 15 [0,1,0,1,1,1]) [0,1,0,1,1,1] (Tf.hint 15 (zJ (qK Tf 15 [0,1,0,1,1,1]))) K) (stp:=qXW 60 (cxF Tf (OrL.k (orDr js ms q u n m k l)) 60 15 (ntmF Tf 15)) (ckF Tf (OrL.k (orDr js ms q u n m k l)) 60) (zX []) (qK Tf 15 [0,1,0,1,1,1]) [0,1,0,1,1,1] (Tf.hint 15 (zJ (qK Tf 15 [0,1,0,1,1,1]))) K) (fun _ _=>rfl) (fun (i:Nat) (s:Int)=>hDr js ms q u n m k l (i:Int) s) (fun _ _=>True) (fun _ _=>true) (fun (i:Nat) (s:Int)=>vJZ .i64 (s + vJZ .i64 ((js i).weight * max (vJZ .i64 (u i - q i)) (vJZ .i64 (q i - u i))))) (c:=n) (fun s=>(K (.exit 0) ⟨[(7,.v (.n .i64 s))],[]⟩)) (fun _ _=>none) (fun G i s hi _ => ?_) (fun _ _ _ _ _=>trivial) (fun G s _ => ?_) n 0 60 0 (by omega) (by omega) trivial).trans (zXW n 0 _)
 ·refine (rdDr G K js ms q u n m k l i s).trans ?_;simp only [vYG (show (i:Int) < (n:Int) by omega),qZZ (show i < 1000000 by omega),jY (show i < n by omega),jY (show i < k by omega),jY (show i < l by omega),toN,cond_true,vYG (show (i:Int) < (k:Int) by omega)];rw [Int.max_comm (vJZ .i64 (q i - u i))]
  all_goals rfl
 ·refine (rdDr G K js ms q u n m k l n s).trans ?_;rw [vYV (show ¬ (n:Int) < (k:Int) by omega)];rfl
noncomputable def kYH (js:Nat→J) (ms:Nat→Ms) (q u:Nat→Int) (n m k l:Nat):List (List Nat × qUG):=[([0,1,0,1,1,1],sumF (fun _:Unit=>(hDr js ms q u n m k l 0 0)) (fun _=>()) (fun _ K=>(bif (decide (n≤10) && decide (k=n) && decide (l=n)) then (K (.exit 0) ⟨[(7,.v (.n .i64 (zHJ (fun (i:Nat) (s:Int)=>vJZ .i64 (s + vJZ .i64 ((js i).weight * max (vJZ .i64 (u i - q i)) (vJZ .i64 (q i - u i))))) n 0 0)))],[]⟩) else none)))]
set_option maxRecDepth 100000 in
theorem pxrdis (js:Nat→J) (ms:Nat→Ms) (q u:Nat→Int) (n m k l:Nat):qKZ Tf (OrL.k (orDr js ms q u n m k l)) (zX (kYH js ms q u n m k l)) 60 15 [.a [.lf n (fJ js),.lf m (fM ms)],.lf k (fQ q),.lf l (fQ u)] =
 (bif (g1 [.a [.lf n (fJ js),.lf m (fM ms)]]) then (bif (!decide ((rErr js ms n m)=0)) then some (.v (.n .i64 0),[])
 else (bif (decide (k≤50) && gFQ (fQ q)) then (bif (smQ q k) then (bif (decide (l≤50) && gFQ (fQ u)) then (bif (smQ u l) then (bif (!decide ((k:Int)=(n:Int))) then some (.v (.n .i64 0),[])
 else (bif (!decide ((l:Int)=(k:Int))) then some (.v (.n .i64 0),[])
 else (bif (gSt (hDr js ms q u n m k l 0 0) (hDr js ms q u n m k l 0 0)) then (bif (decide (n≤10) && decide (k=n) && decide (l=n)) then some (.v (.n .i64 (zHJ (fun (i:Nat) (s:Int)=>vJZ .i64 (s + vJZ .i64 ((js i).weight * max (vJZ .i64 (u i - q i)) (vJZ .i64 (q i - u i))))) n 0 0)),[])
 else none)
 else none)))
 else some (.v (.n .i64 0),[]))
 else none)
 else some (.v (.n .i64 0),[]))
 else none))
 else none):=by kernel_rfl
theorem snd_rdis (js:Nat→J) (ms:Nat→Ms) (q u:Nat→Int) (n m k l:Nat) (hk0:k≤50) (hl0:l≤50):zH Tryz.prog 15 [.a [.lf n (fJ js),.lf m (fM ms)],.lf k (fQ q),.lf l (fQ u)] (.v (.n .i64 (dsQ js ms q u n m k l))):=by
 refine qQX (N:=60) (LO:=zX (kYH js ms q u n m k l)) zJK yY (OrL.ok (l:=(orDr js ms q u n m k l)) ⟨ok_smr,qJQ (jYY js ms n m),trivial⟩) (fun p S hp => ?_) ?_
 ·refine qQG (L:=qK Tf 15) (l:=(kYH js ms q u n m k l)) (show AllP _ (kYH js ms q u n m k l) from ⟨?_,trivial⟩) p S hp
  ·dsimp only;refine qWJ (T:=Tf) (ok:=(OrL.k (orDr js ms q u n m k l))) (f:=15) (LO:=zX []) (p:=[0,1,0,1,1,1]) qGX ?_;intro _ K r hr;obtain ⟨hg,hr⟩:=zQ hr;simp only [vQJ,decide_eq_true_eq] at hg;obtain ⟨⟨hn,hk⟩,hl⟩:=hg;exact (lpDr K js ms q u n m k l hn hk hl).trans hr
 ·refine (pxrdis js ms q u n m k l).trans ?_;simp only [g1_t,(zWJ (q:=q) rfl).1,(zWJ (q:=u) rfl).1,vYG hk0,vYG hl0,vZJ,cond_true,jU];unfold dsQ dsS;by_cases hr:rErr js ms n m=0
  ·have h10:=qWV hr;by_cases h1:k=n
   ·by_cases h2:l=n
    ·subst h1; subst h2;simp only [hr,decide_true,Bool.not_true,vZH,Bool.and_true,cond_true,cond_false,vYG (show l≤10 by omega)];cases smQ q l <;> cases smQ u l <;> rfl
    ·simp only [vYG hr,vYG h1,vYV h2,vYG (show (k:Int)=(n:Int) by omega),vYV (show ¬ (l:Int)=(n:Int) by omega),vYV (show ¬ (l:Int)=(k:Int) by omega),Bool.and_false,Bool.false_and,Bool.not_true,Bool.not_false,cond_true,cond_false]
     all_goals (cases smQ q k <;> cases smQ u l <;> rfl)
   ·simp only [vYG hr,vYV h1,vYV (show ¬ (k:Int)=(n:Int) by omega),Bool.and_false,Bool.false_and,Bool.not_false,Bool.not_true,cond_true,cond_false]
    all_goals (cases smQ q k <;> cases smQ u l <;> rfl)
  ·simp only [vYV hr,Bool.false_and,Bool.not_false,cond_true,cond_false,Bool.cond_self]
   all_goals (cases decide ((k:Int)=(n:Int)) <;> cases decide ((l:Int)=(n:Int)) <;> cases smQ q k <;> cases smQ u l <;> rfl)
noncomputable def uZH:List PV→Option (Bool × Ret):=fun ps=>match ps with
 | [.lf k f]=>some (decide (1≤k∧k≤10) && gFQ f,.v (.lf k f))
 | _=>none
theorem ok_clq:zW Tryz.prog 31 uZH:=by
 intro ps r hh;unfold uZH at hh;split at hh
 ·rename_i k f;simp only [vQZ,vQY,vQJ] at hh;obtain ⟨⟨hk,hf⟩,rfl⟩:=hh
  have:=snd_cl2 (unFQ f) k (vYH hk)
  rw [← jZX hf] at this;exact this
 ·cases hh
noncomputable def orTw (q u:Nat→Int) (k:Nat) (st d:Int):OrL:=[(31,o_lk [.lf k (fQ u)] (decide (1≤k∧k≤10)) (.ow 2 1 (.fo k (fQ u))))]
noncomputable def hTw (q u:Nat→Int) (k:Nat) (st d:Int) (i:Int) (f:Nat→Int):St:=⟨[(0,.v (.lf k (fQ q))),(1,.v (.lf k (fQ u))),(2,.v (.n .i64 st)),(3,.v (.n .i64 d)),(9,.o 18),(20,.v (.n .i64 ((k:Int).toNat:Int))),(21,.v (.n .i64 i))],[(18,.reg 2 1 (.fo (k:Int).toNat (fun v=>[.n .i64 (f v)])))]⟩
set_option maxRecDepth 100000 in
theorem rdTw (G:St→Option (Ret × Mem)) (K:Cont) (q u:Nat→Int) (k:Nat) (st d:Int) (i:Int) (f:Nat→Int):qXW 60 (cxF Tf (OrL.k (orTw q u k st d)) 60 33 (ntmF Tf 33)) (ckF Tf (OrL.k (orTw q u k st d)) 60) (zX []) (qK Tf 33 [0,1,0,1,1,1]) [0,1,0,1,1,1] (Tf.hint 33 (zJ (qK Tf 33 [0,1,0,1,1,1]))) K G (hTw q u k st d i f) =
 (bif (decide (i < ((k:Int).toNat:Int))) then (bif (inB i k) then (bif (inB i k) then (bif (inB i k) then (bif (decide (d=0)) then none
 else (bif (inB i (k:Int).toNat) then (G (hTw q u k st d (vJZ .i64 (i + 1)) (fun v=>(bif (Nat.beq v (i).toNat) then (vJZ .i64 ((q (i).toNat) + (vJZ .i64 ((vJZ .i64 ((vJZ .i64 ((u (i).toNat) - (q (i).toNat))) * st)).tdiv d)))) else (f v)))))
 else none))
 else none)
 else none)
 else none)
 else (K (.exit 0) ⟨[(9,.o 18)],[(18,.reg 2 1 (.fo (k:Int).toNat (fun v=>[.n .i64 (f v)])))]⟩)):=by kernel_rfl
theorem lpTw (K:Cont) (q u:Nat→Int) (k:Nat) (st d:Int) (hk:1≤k∧k≤10) (hd:¬ d=0):LFL 60 (cxF Tf (OrL.k (orTw q u k st d)) 60 33 (ntmF Tf 33)) (ckF Tf (OrL.k (orTw q u k st d)) 60) (zX []) (qK Tf 33 [0,1,0,1,1,1]) [0,1,0,1,1,1] (Tf.hint 33 (zJ (qK Tf 33 [0,1,0,1,1,1]))) K 60 (hTw q u k st d 0 (fun v=>0))=(K (.exit 0) ⟨[(9,.o 18)],[(18,.reg 2 1 (.fo (k:Int).toNat (fun v=>[.n .i64 ((qZV (fun i:Nat=>(vJZ .i64 (q i + vJZ .i64 ((vJZ .i64 (vJZ .i64 (u i - q i) * st)).tdiv d)))) k 0 (fun v=>0)) v)])))]⟩):=by
 refine (zYX (L:=LFL 60 (cxF Tf (OrL.k (orTw q u k st d)) 60 33 (ntmF Tf 33)) (ckF Tf (OrL.k (orTw q u k st d)) 60) (zX []) (qK Tf 33 [0,1,0,1,1,1]) [0,1,0,1,1,1] (Tf.hint 33 (zJ (qK Tf 33 [0,1,0,1,1,1]))) K) (stp:=qXW 60 (cxF Tf (OrL.k (orTw q u k st d)) 60 33 (ntmF Tf 33)) (ckF Tf (OrL.k (orTw q u k st d)) 60) (zX []) (qK Tf 33 [0,1,0,1,1,1]) [0,1,0,1,1,1] (Tf.hint 33 (zJ (qK Tf 33 [0,1,0,1,1,1]))) K) (fun _ _=>rfl) (fun (i:Nat) (t:(Nat→Int))=>hTw q u k st d (i:Int) t) (fun _ _=>True) (fun _ _=>true) (fun (i:Nat) t=>(fun v=>bif Nat.beq v i then (vJZ .i64 (q i + vJZ .i64 ((vJZ .i64 (vJZ .i64 (u i - q i) * st)).tdiv d))) else t v)) (c:=k) (fun t=>(K (.exit 0) ⟨[(9,.o 18)],[(18,.reg 2 1 (.fo (k:Int).toNat (fun v=>[.n .i64 (t v)])))]⟩)) (fun _ _=>none) (fun G i t hi _ => ?_) (fun _ _ _ _ _=>trivial) (fun G t _ => ?_) k 0 60 (fun v=>0) (by omega) (by omega) trivial).trans (zWH k 0 _)
 ·refine (rdTw G K q u k st d i t).trans ?_;simp only [vYG (show (i:Int) < (k:Int) by omega),qZZ (show i < 1000000 by omega),jY (show i < k by omega),vYV hd,toN,Int.toNat_natCast,cond_true,cond_false]
  all_goals rfl
 ·refine (rdTw G K q u k st d k t).trans ?_;simp only [Int.toNat_natCast,vYV (show ¬ (k:Int) < (k:Int) by omega),cond_false]
def twX (q u:Nat→Int) (k:Nat) (st d:Int):Nat→Int:=(qZV (fun i:Nat=>(vJZ .i64 (q i + vJZ .i64 ((vJZ .i64 (vJZ .i64 (u i - q i) * st)).tdiv d)))) k 0 (fun v=>0))
def twQ (q u:Nat→Int) (k:Nat) (st d:Int):Nat→Int:=bif decide (d≤st) then u else fun i=>(vJZ .i64 (q i + vJZ .i64 ((vJZ .i64 (vJZ .i64 (u i - q i) * st)).tdiv d)))
noncomputable def kHV (q u:Nat→Int) (k:Nat) (st d:Int):List (List Nat × qUG):=[([0,1,0,1,1,1],sumF (fun _:Unit=>(hTw q u k st d 0 (fun v=>0))) (fun _=>()) (fun _ K=>(bif (decide (1≤k∧k≤10) && !decide (d=0)) then (K (.exit 0) ⟨[(9,.o 18)],[(18,.reg 2 1 (.fo (k:Int).toNat (fun v=>[.n .i64 ((qZV (fun i:Nat=>(vJZ .i64 (q i + vJZ .i64 ((vJZ .i64 (vJZ .i64 (u i - q i) * st)).tdiv d)))) k 0 (fun v=>0)) v)])))]⟩) else none)))]
set_option maxRecDepth 100000 in
theorem pxtw0 (q u:Nat→Int) (k:Nat) (st d:Int):qKZ Tf (OrL.k (orTw q u k st d)) (zX (kHV q u k st d)) 60 33 [.lf k (fQ q),.lf k (fQ u),.n .i64 st,.n .i64 d] =
 (bif (decide (d≤st)) then (bif (g1 [.lf k (fQ u)] && decide (1≤k∧k≤10)) then some (.v (.lf k (fQ u)),[])
 else none)
 else (bif (decide (0≤(k:Int))) then (bif (decide ((k:Int)≤(k:Int))) then (bif (decide ((k:Int)≤1000000)) then (bif (gSt (hTw q u k st d 0 (fun v=>0)) (hTw q u k st d 0 (fun v=>0))) then (bif (decide (1≤k∧k≤10) && !decide (d=0)) then some (.ow 2 1 (.fo (k:Int).toNat (fQ (twX q u k st d))),[])
 else none)
 else none)
 else none)
 else none)
 else none)):=by kernel_rfl
theorem snd_tw0 (q u:Nat→Int) (k:Nat) (st d:Int) (hk:1≤k∧k≤10) (hd:¬ d=0):zH Tryz.prog 33 [.lf k (fQ q),.lf k (fQ u),.n .i64 st,.n .i64 d] (bif decide (d≤st) then .v (.lf k (fQ u)) else .ow 2 1 (.fo k (fQ (twX q u k st d)))):=by
 refine qQX (N:=60) (LO:=zX (kHV q u k st d)) zJK yY (OrL.ok (l:=(orTw q u k st d)) ⟨qVK (fun h=>zHV u k (vYH h)),trivial⟩) (fun p S hp => ?_) ?_
 ·refine qQG (L:=qK Tf 33) (l:=(kHV q u k st d)) (show AllP _ (kHV q u k st d) from ⟨?_,trivial⟩) p S hp
  ·dsimp only;refine qWJ (T:=Tf) (ok:=(OrL.k (orTw q u k st d))) (f:=33) (LO:=zX []) (p:=[0,1,0,1,1,1]) qGX ?_;intro _ K r hr;obtain ⟨hg,hr⟩:=zQ hr;simp only [vQJ,Bool.not_eq_true',decide_eq_true_eq,decide_eq_false_iff_not] at hg;obtain ⟨hk,hd⟩:=hg;exact (lpTw K q u k st d hk hd).trans hr
 ·refine (pxtw0 q u k st d).trans ?_;simp only [g1_t,jU,(zWJ (q:=u) rfl).1,vYG hk,vYV hd,vYG (show (0:Int)≤(k:Int) by omega),vYG (show (k:Int)≤(k:Int) by omega),vYG (show (k:Int)≤1000000 by omega),Int.toNat_natCast,vZJ,Bool.not_false,cond_true];cases decide (d≤st) <;> rfl
theorem snd_tw (q u:Nat→Int) (k:Nat) (st d:Int) (hk:1≤k∧k≤10) (hd:¬ d=0):zH Tryz.prog 33 [.lf k (fQ q),.lf k (fQ u),.n .i64 st,.n .i64 d] (.v (.lf k (fQ (twQ q u k st d)))):=by
 have h:=snd_tw0 q u k st d hk hd;unfold twQ;cases e:decide (d≤st) with
 | true=>rw [e] at h; exact h
 | false =>
  rw [e] at h;refine qYJ (zHY fun j hj => ?_) (jYZ h);show [PV.n .i64 _]=[PV.n .i64 _];simp only [cond_false];unfold twX;rw [zWU hj]
end Go.Proofs.YtmffoiemmlcmfaaGreat.Ea

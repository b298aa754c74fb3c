/- Part 10 of the texts behind the last one: rules and contracts. No condition. -/
import Derived.Test.YtmeldddgjfocdaaGreatGN9
open Bool renaming and_eq_true → vQJ, true_and → vZW
open Go.IntKind renaming wrap → vYX
namespace Go.Proofs.YtmeldddgjfocdaaGreat.He
open Go.Rx Rt Go.Sx Go.RowKit Od Na Nb Nc Nx Nf Nl Nm Ga Gb Gc Gd Ge Gf Gg Ha Hb Hc Hd
def hasQ (q:Nat→Int) (k:Nat) (x:Int):Bool:=!allN (fun i:Nat => !decide (q i=x)) k 0
def ixQ (q:Nat→Int) (k:Nat) (x:Int):Int:=bif hasQ q k x then ((Rx.firstK (fun i:Nat => !decide (q i=x)) k 0:Nat):Int) else -1
theorem deq (a b:Int):decide (a=b)=decide (b=a):=by by_cases h:a=b <;> simp [h] <;> omega
theorem zJU {g:Nat→Bool}:∀ {k p:Nat},allN g k p=false→p≤Rx.firstK g k p∧Rx.firstK g k p < p + k∧g (Rx.firstK g k p)=false
 | 0,_,h=>by cases h
 | k + 1,p,h=>by
  unfold allN at h;unfold Rx.firstK;cases hp:g p with
  | true =>
   rw [hp,vZW] at h;obtain ⟨a,b,c⟩:=zJU (k:=k) (p:=p + 1) h;rw [vYQ];exact ⟨by omega,by omega,c⟩
  | false=>rw [vYZ]; exact ⟨Nat.le_refl _,by omega,hp⟩
theorem zHZ {q:Nat→Int} {k:Nat} {x:Int} (h:hasQ q k x=true):∃ i,i < k∧ixQ q k x=(i:Int)∧q i=x:=by
 have h':allN (fun i:Nat => !decide (q i=x)) k 0=false:=by unfold hasQ at h; simpa using h
 obtain ⟨_,h2,h3⟩:=zJU h';exact ⟨Rx.firstK (fun i:Nat => !decide (q i=x)) k 0,by omega,by unfold ixQ; rw [h]; rfl,by simpa using h3⟩
theorem jKJ {q:Nat→Int} {k:Nat} {x:Int}:decide (0≤ixQ q k x)=hasQ q k x:=by
 cases h:hasQ q k x with
 | true=>obtain ⟨i,_,h2,_⟩:=zHZ h; rw [h2,vYJ (by omega)]
 | false=>unfold ixQ; rw [h]; rfl
noncomputable def orIq (k:Nat) (q:Nat→Int) (x:Int):OrS:=orS [] []
noncomputable def hIq (k:Nat) (q:Nat→Int) (x:Int) (i:Int):St:=⟨[(0,.v (.lf k (fQ q))),(1,.v (.n .i64 x)),(7,.v (.n .i64 (k:Int))),(8,.v (.n .i64 i))],[]⟩
set_option maxRecDepth 100000 in
theorem rdIq (G:St→Option (Ret × Mem)) (K:Cont) (k:Nat) (q:Nat→Int) (x:Int) (i:Int):yJ 60 (cxS Tf (orIq k q x) 60 132 (ntmF Tf 132)) (evX Tf (orIq k q x) 60 132 (ntmF Tf 132)) (qZ []) (qQ Tf 132 [0,1,0,1]) [0,1,0,1] (Tf.hint 132 (qJ (qQ Tf 132 [0,1,0,1]))) K G (hIq k q x i) =
 (bif (decide (i < (k:Int))) then (bif (inB i k) then (bif (decide (x=(q (i).toNat))) then (K .ret ⟨[(4,.v (.n .i64 i))],[]⟩)
 else (G (hIq k q x (vYX .i64 (i + 1)))))
 else none)
 else (K (.exit 0) ⟨[],[]⟩)):=by kernel_rfl
theorem lpIq (K:Cont) (k:Nat) (q:Nat→Int) (x:Int) (_:k≤50):LFX 60 (cxS Tf (orIq k q x) 60 132 (ntmF Tf 132)) (evX Tf (orIq k q x) 60 132 (ntmF Tf 132)) (qZ []) (qQ Tf 132 [0,1,0,1]) [0,1,0,1] (Tf.hint 132 (qJ (qQ Tf 132 [0,1,0,1]))) K 60 (hIq k q x 0)=bif (allN (fun i:Nat => !decide (q i=x)) k 0) then (K (.exit 0) ⟨[],[]⟩) else (K .ret ⟨[(4,.v (.n .i64 ((Rx.firstK (fun i:Nat => !decide (q i=x)) k 0:Nat):Int)))],[]⟩):=by
 refine (jJ (L:=LFX 60 (cxS Tf (orIq k q x) 60 132 (ntmF Tf 132)) (evX Tf (orIq k q x) 60 132 (ntmF Tf 132)) (qZ []) (qQ Tf 132 [0,1,0,1]) [0,1,0,1] (Tf.hint 132 (qJ (qQ Tf 132 [0,1,0,1]))) K) (stp:=yJ 60 (cxS Tf (orIq k q x) 60 132 (ntmF Tf 132)) (evX Tf (orIq k q x) 60 132 (ntmF Tf 132)) (qZ []) (qQ Tf 132 [0,1,0,1]) [0,1,0,1] (Tf.hint 132 (qJ (qQ Tf 132 [0,1,0,1]))) K) (fun _ _=>rfl) (fun (i:Nat) (_:Unit)=>hIq k q x (i:Int)) (fun _ _=>True) (fun (i:Nat) _ => !decide (q i=x)) (fun _ _=>()) (c:=k) (fun _=>(K (.exit 0) ⟨[],[]⟩)) (fun i _=>(K .ret ⟨[(4,.v (.n .i64 (i:Int)))],[]⟩)) (fun G i f hi _ => ?_) (fun _ _ _ _ _=>trivial) (fun G f _ => ?_) k 0 60 () (by omega) (by omega) trivial).trans ((zG _ _ _ _ _).trans (kK _ _ _ _ _))
 ·refine (rdIq G K k q x i).trans ?_;rw [vYJ (show (i:Int) < (k:Int) by omega),jZ (by omega),zJ (show i < k by omega),toN,deq x (q i)];cases decide (q i=x) <;> rfl
 ·refine (rdIq G K k q x k).trans ?_;rw [vYY (show ¬ (k:Int) < (k:Int) by omega)];rfl
noncomputable def yVK (k:Nat) (q:Nat→Int) (x:Int):List (List Nat × yU):=[([0,1,0,1],sumF (fun _:Unit=>(hIq k q x 0)) (fun _=>()) (fun _ K=>(bif (decide (k≤50)) then (bif (allN (fun i:Nat => !decide (q i=x)) k 0) then (K (.exit 0) ⟨[],[]⟩) else (K .ret ⟨[(4,.v (.n .i64 ((Rx.firstK (fun i:Nat => !decide (q i=x)) k 0:Nat):Int)))],[]⟩)) else none)))]
set_option maxRecDepth 100000 in
theorem kQZ (k:Nat) (q:Nat→Int) (x:Int):kH Tf (orIq k q x) (qZ (yVK k q x)) 60 132 [.lf k (fQ q),.n .i64 x] =
 (bif (gSt (hIq k q x 0) (hIq k q x 0)) then (bif (decide (k≤50)) then (bif (allN (fun i:Nat => !decide (q i=x)) k 0) then some (.v (.n .i64 (-1)),[])
 else some (.v (.n .i64 ((Rx.firstK (fun i:Nat => !decide (q i=x)) k 0:Nat):Int)),[]))
 else none)
 else none):=by kernel_rfl
theorem jQA (k:Nat) (q:Nat→Int) (x:Int) (hk:k≤50):qH Tryz.prog 132 [.lf k (fQ q),.n .i64 x] (.v (.n .i64 (ixQ q k x))):=by
 refine qX (N:=60) (LO:=qZ (yVK k q x)) yG qG (yH (l:=[]) (m:=[]) trivial trivial) (fun p S hp => ?_) ?_
 ·refine qK (L:=qQ Tf 132) (l:=(yVK k q x)) (show AllP _ (yVK k q x) from ⟨?_,trivial⟩) p S hp
  ·dsimp only;refine yQ (T:=Tf) (o:=(orIq k q x)) (f:=132) (LO:=qZ []) (p:=[0,1,0,1]) yV ?_;intro t K r hr;obtain ⟨hg,hr⟩:=qY hr;have hk:=vYK hg;exact (lpIq K k q x hk).trans hr
 ·refine (kQZ k q x).trans ?_;unfold ixQ hasQ;rw [zQ,vYJ hk];cases allN (fun i:Nat => !decide (q i=x)) k 0 <;> rfl
def ciq:Nat × (Nat→Int) × Int→Prop:=fun t=>match t with | (k,_,_)=>k≤50
def eiq:Nat × (Nat→Int) × Int→List PV:=fun t=>match t with | (k,q,x)=>[.lf k (fQ q),.n .i64 x]
noncomputable def riq:Nat × (Nat→Int) × Int→Ret:=fun t=>match t with | (k,q,x)=>.v (.n .i64 (ixQ q k x))
def diq:List PV→Nat × (Nat→Int) × Int:=fun ps=>match ps with
 | [.lf k f,.n _ x]=>(k,unFQ f,x)
 | _=>(0,fun _=>0,0)
noncomputable def o_iq:List PV→Option (Bool × Ret):=o_fm diq ciq eiq riq
theorem kZD:jG Tryz.prog 132 o_iq:=qQU fun t h=>by
 obtain ⟨k,q,x⟩:=t;exact jQA k q x h
noncomputable def kQF (k:Nat) (q:Nat→Int) (x:Int):OrS:=orS [(132,o_iq)] []
noncomputable def yVG (k:Nat) (q:Nat→Int) (x:Int):List (List Nat × yU):=[]
set_option maxRecDepth 100000 in
theorem kQX (k:Nat) (q:Nat→Int) (x:Int):kH Tf (kQF k q x) (qZ (yVG k q x)) 60 83 [.lf k (fQ q),.n .i64 x] =
 (bif (gF1 ciq eiq (k,q,x)) then (bif (decide (0≤(ixQ q k x))) then some (.v (.b true),[])
 else some (.v (.b false),[]))
 else none):=by kernel_rfl
theorem jQF (k:Nat) (q:Nat→Int) (x:Int) (hk:k≤50):qH Tryz.prog 83 [.lf k (fQ q),.n .i64 x] (.v (.b (hasQ q k x))):=by
 refine qX (N:=60) (LO:=qZ (yVG k q x)) yG qG (yH (l:=[(132,o_iq)]) (m:=[]) ⟨kZD,trivial⟩ trivial) (fun p S hp => ?_) ?_
 ·refine qK (L:=qQ Tf 83) (l:=(yVG k q x)) (show AllP _ (yVG k q x) from trivial) p S hp
 ·refine (kQX k q x).trans ?_;rw [jH (C:=ciq) (t:=(k,q,x)) hk,jKJ];cases hasQ q k x <;> rfl
def cct:Nat × (Nat→Int) × Int→Prop:=fun t=>match t with | (k,_,_)=>k≤50
def ect:Nat × (Nat→Int) × Int→List PV:=fun t=>match t with | (k,q,x)=>[.lf k (fQ q),.n .i64 x]
noncomputable def rct:Nat × (Nat→Int) × Int→Ret:=fun t=>match t with | (k,q,x)=>.v (.b (hasQ q k x))
def dct:List PV→Nat × (Nat→Int) × Int:=fun ps=>match ps with
 | [.lf k f,.n _ x]=>(k,unFQ f,x)
 | _=>(0,fun _=>0,0)
noncomputable def o_ct:List PV→Option (Bool × Ret):=o_fm dct cct ect rct
theorem kZL:jG Tryz.prog 83 o_ct:=qQU fun t h=>by
 obtain ⟨k,q,x⟩:=t;exact jQF k q x h
def inM (ws:Wsp) (x:Int):Bool:=!decide (x < vYX .i64 (0 - (ws.nh:Int))) && !decide ((ws.np:Int)≤x)
def mdG (ws:Wsp) (q:Nat→Int) (i:Nat):Bool:=inM ws (q i) && !hasQ q i (q i)
def vlB (ws:Wsp) (k:Nat) (q:Nat→Int):Bool:=decide (wErr ws=0) && (decide ((k:Int)=(ws.no:Int)) && allN (fun i:Nat=>mdG ws q i) k 0)
noncomputable def orVa (_:Wsp) (k:Nat) (q:Nat→Int):OrS:=orS [(19,o_gk),(83,o_ct)] []
noncomputable def hVa (ws:Wsp) (k:Nat) (q:Nat→Int) (i:Int):St:=⟨[(2,.p 2 0),(3,.p 3 0),(20,.v (.lf k (fQ q))),(21,.v (.n .i64 (k:Int))),(22,.v (.n .i64 i))],[(2,.blk [.v (.lf ws.n (fJ ws.js)),.v (.lf ws.m (fM ws.ms)),.v (.lf ws.c (fS ws.sh)),.v (.lf ws.d (fK ws.sk)),.v (.lf ws.no (fO ws.ob)),.v (.lf ws.np (fZ ws.pl)),.v (.lf ws.nh (fH ws.hd)),.v (.lf ws.ng (fG ws.gr)),.v (.n .i64 ws.slack)]),(3,.blk [.v (.lf k (fQ q))])]⟩
set_option maxRecDepth 100000 in
theorem rdVa (G:St→Option (Ret × Mem)) (K:Cont) (ws:Wsp) (k:Nat) (q:Nat→Int) (i:Int):yJ 60 (cxS Tf (orVa ws k q) 60 34 (ntmF Tf 34)) (evX Tf (orVa ws k q) 60 34 (ntmF Tf 34)) (qZ []) (qQ Tf 34 [0,1,0,1,1]) [0,1,0,1,1] (Tf.hint 34 (qJ (qQ Tf 34 [0,1,0,1,1]))) K G (hVa ws k q i) =
 (bif (decide (i < (k:Int))) then (bif (inB i k) then (bif (decide ((q (i).toNat) < (vYX .i64 (0 - (ws.nh:Int))))) then (K .ret ⟨[(4,.v (.b false))],[]⟩)
 else (bif (decide ((ws.np:Int)≤(q (i).toNat))) then (K .ret ⟨[(4,.v (.b false))],[]⟩)
 else (bif (inS none (some i) k) then (bif (gF1 cct ect (((i).toNat - 0),(fun v=>(q (v + 0))),(q (i).toNat))) then (bif (hasQ (fun v=>(q (v + 0))) ((i).toNat - 0) (q (i).toNat)) then (K .ret ⟨[(4,.v (.b false))],[]⟩)
 else (G (hVa ws k q (vYX .i64 (i + 1)))))
 else none)
 else none)))
 else none)
 else (K (.exit 0) ⟨[],[]⟩)):=by kernel_rfl
theorem lpVa (K:Cont) (ws:Wsp) (k:Nat) (q:Nat→Int) (_:k≤50):LFX 60 (cxS Tf (orVa ws k q) 60 34 (ntmF Tf 34)) (evX Tf (orVa ws k q) 60 34 (ntmF Tf 34)) (qZ []) (qQ Tf 34 [0,1,0,1,1]) [0,1,0,1,1] (Tf.hint 34 (qJ (qQ Tf 34 [0,1,0,1,1]))) K 60 (hVa ws k q 0)=bif (allN (fun i:Nat=>mdG ws q i) k 0) then (K (.exit 0) ⟨[],[]⟩) else (K .ret ⟨[(4,.v (.b false))],[]⟩):=by
 refine (jJ (L:=LFX 60 (cxS Tf (orVa ws k q) 60 34 (ntmF Tf 34)) (evX Tf (orVa ws k q) 60 34 (ntmF Tf 34)) (qZ []) (qQ Tf 34 [0,1,0,1,1]) [0,1,0,1,1] (Tf.hint 34 (qJ (qQ Tf 34 [0,1,0,1,1]))) K) (stp:=yJ 60 (cxS Tf (orVa ws k q) 60 34 (ntmF Tf 34)) (evX Tf (orVa ws k q) 60 34 (ntmF Tf 34)) (qZ []) (qQ Tf 34 [0,1,0,1,1]) [0,1,0,1,1] (Tf.hint 34 (qJ (qQ Tf 34 [0,1,0,1,1]))) K) (fun _ _=>rfl) (fun (i:Nat) (_:Unit)=>hVa ws k q (i:Int)) (fun _ _=>True) (fun (i:Nat) _=>mdG ws q i) (fun _ _=>()) (c:=k) (fun _=>(K (.exit 0) ⟨[],[]⟩)) (fun i _=>(K .ret ⟨[(4,.v (.b false))],[]⟩)) (fun G i f hi _ => ?_) (fun _ _ _ _ _=>trivial) (fun G f _ => ?_) k 0 60 () (by omega) (by omega) trivial).trans ((zG _ _ _ _ _).trans (yZ _ _ _ _ _))
 ·refine (rdVa G K ws k q i).trans ?_;rw [vYJ (show (i:Int) < (k:Int) by omega),jZ (by omega),zJ (show i < k by omega),toN,yYU (show i < k by omega),jH (C:=cct) (t:=(i - 0,(fun v=>q (v + 0)),q i)) (show i - 0≤50 by omega)];unfold mdG inM;show _=bif (!decide (q i < vYX .i64 (0 - (ws.nh:Int))) && !decide ((ws.np:Int)≤q i)) && !hasQ (fun v=>q (v + 0)) (i - 0) (q i) then _ else _
  cases decide (q i < vYX .i64 (0 - (ws.nh:Int))) <;> cases decide ((ws.np:Int)≤q i) <;> cases hasQ (fun v=>q (v + 0)) (i - 0) (q i) <;> rfl
 ·refine (rdVa G K ws k q k).trans ?_;rw [vYY (show ¬ (k:Int) < (k:Int) by omega)];rfl
theorem qZY {ws:Wsp} (h:wErr ws=0):sEW ws=0∧fiB ws=true∧obA ws=true∧cntF ws ws.no≤24:=by
 unfold wErr at h;by_cases h1:sEW ws=0
 ·rw [vYJ h1,vYQ] at h;cases h2:fiB ws with
  | false=>rw [h2] at h; exact absurd (show (3401:Int)=0 from h) (by decide)
  | true =>
   rw [h2,vYQ] at h;cases h3:obA ws with
   | false=>rw [h3] at h; exact absurd (show (3402:Int)=0 from h) (by decide)
   | true =>
    rw [h3,vYQ] at h;by_cases h4:24 < cntF ws ws.no
    ·rw [vYJ h4] at h; exact absurd (show (3401:Int)=0 from h) (by decide)
    ·exact ⟨h1,rfl,rfl,by omega⟩
 ·rw [vYY h1,vYZ] at h; exact absurd h h1
theorem jGE {ws:Wsp} (h:wErr ws=0):ws.no≤6:=(zHY (qZY h).2.1).1
noncomputable def yWH (ws:Wsp) (k:Nat) (q:Nat→Int):List (List Nat × yU):=[([0,1,0,1,1],sumF (fun _:Unit=>(hVa ws k q 0)) (fun _=>()) (fun _ K=>(bif (decide (k≤50)) then (bif (allN (fun i:Nat=>mdG ws q i) k 0) then (K (.exit 0) ⟨[],[]⟩) else (K .ret ⟨[(4,.v (.b false))],[]⟩)) else none)))]
set_option maxRecDepth 100000 in
theorem jHW (ws:Wsp) (k:Nat) (q:Nat→Int):kH Tf (orVa ws k q) (qZ (yWH ws k q)) 60 34 [.a (wP ws),.a [.lf k (fQ q)]] =
 (bif (gF1 cgk egk ws) then (bif (!decide ((wErr ws)=0)) then some (.v (.b false),[])
 else (bif (!decide ((k:Int)=(ws.no:Int))) then some (.v (.b false),[])
 else (bif (gSt (hVa ws k q 0) (hVa ws k q 0)) then (bif (decide (k≤50)) then (bif (allN (fun i:Nat=>mdG ws q i) k 0) then some (.v (.b true),[])
 else some (.v (.b false),[]))
 else none)
 else none)))
 else none):=by kernel_rfl
theorem yHD (ws:Wsp) (k:Nat) (q:Nat→Int) (ho:okW ws):qH Tryz.prog 34 [.a (wP ws),.a [.lf k (fQ q)]] (.v (.b (vlB ws k q))):=by
 refine qX (N:=60) (LO:=qZ (yWH ws k q)) yG qG (yH (l:=[(19,o_gk),(83,o_ct)]) (m:=[]) ⟨jWW,kZL,trivial⟩ trivial) (fun p S hp => ?_) ?_
 ·refine qK (L:=qQ Tf 34) (l:=(yWH ws k q)) (show AllP _ (yWH ws k q) from ⟨?_,trivial⟩) p S hp
  ·dsimp only;refine yQ (T:=Tf) (o:=(orVa ws k q)) (f:=34) (LO:=qZ []) (p:=[0,1,0,1,1]) yV ?_;intro t K r hr;obtain ⟨hg,hr⟩:=qY hr;have hk:=vYK hg;exact (lpVa K ws k q hk).trans hr
 ·refine (jHW ws k q).trans ?_;unfold vlB;rw [jH (C:=cgk) (t:=ws) ho];by_cases h:wErr ws=0
  ·rw [vYJ h];by_cases hk:(k:Int)=(ws.no:Int)
   ·have h6:=jGE h;rw [vYJ hk,zQ,vYJ (show k≤50 by omega)];cases allN (fun i:Nat=>mdG ws q i) k 0 <;> rfl
   ·rw [vYY hk]; rfl
  ·rw [vYY h]; rfl
def cvl:Wsp × Nat × (Nat→Int)→Prop:=fun t=>match t with | (ws,_,_)=>okW ws
def evl:Wsp × Nat × (Nat→Int)→List PV:=fun t=>match t with | (ws,k,q)=>[.a (wP ws),.a [.lf k (fQ q)]]
noncomputable def rvl:Wsp × Nat × (Nat→Int)→Ret:=fun t=>match t with | (ws,k,q)=>.v (.b (vlB ws k q))
def dvl:List PV→Wsp × Nat × (Nat→Int):=fun ps=>match ps with
 | [.a r,.a [.lf k f]]=>(unW r,k,unFQ f)
 | _=>(unW [],0,fun _=>0)
noncomputable def o_vl:List PV→Option (Bool × Ret):=o_fm dvl cvl evl rvl
theorem kZK:jG Tryz.prog 34 o_vl:=qQU fun t h=>by
 obtain ⟨ws,k,q⟩:=t;exact yHD ws k q h
end Go.Proofs.YtmeldddgjfocdaaGreat.He
namespace Go.Proofs.YtmeldddgjfocdaaGreat.Hf
open Go.Rx Rt Go.Sx Go.RowKit Od Na Nb Nc Nx Nf Nl Nm Ga Gb Gc Gd Ge Gf Gg Ha Hb Hc Hd He
theorem bz {c:Bool} {x y:Int} (h:(bif c then x else y)=0) (hx:x ≠ 0):c=false∧y=0:=by
 cases c with
 | true=>exact absurd h hx
 | false=>exact ⟨rfl,h⟩
theorem yGE {i:Int} {n:Nat} (h:0≤i∧i < (n:Int)):inB i n=true:=by
 unfold inB;rw [vYJ h.1,vYJ (show i.toNat < n by omega)]; rfl
theorem jKX {ws:Wsp} (h:wErr ws=0) {i:Nat} (_:i < ws.nh):0≤(ws.hd i).link∧(ws.hd i).link < (ws.n:Int):=by
 have h2:=(qZY h).2.1;unfold fiB at h2;simp only [vQJ] at h2;have h3:=allN_iff.1 h2.2.2.1 i (Nat.zero_le _) (by omega);unfold hdOk at h3;simp only [vQJ,Bool.not_eq_true',decide_eq_false_iff_not] at h3;omega
def cat:Wsp × Int × Int × Nat × (Nat→Int)→Prop:=fun t=>match t with | (ws,_,_,_,_)=>okW ws
end Go.Proofs.YtmeldddgjfocdaaGreat.Hf
namespace Go.Proofs.YtmeldddgjfocdaaGreat.Hg
end Go.Proofs.YtmeldddgjfocdaaGreat.Hg
namespace Go.Proofs.YtmeldddgjfocdaaGreat.Hh
open Go.Rx Rt Go.Sx Go.RowKit Od Na Nb Nc Nx Nf Nl Nm Ga Gb Gc Gd Ge Gf Gg Ha Hb Hc Hd He Hf Hg
noncomputable def jXU (n:Nat) (q:Nat→Z3):OrS:=orS [] []
noncomputable def zXF (n:Nat) (q:Nat→Z3):List (List Nat × yU):=[]
set_option maxRecDepth 100000 in
theorem jXZ (n:Nat) (q:Nat→Z3):kH Tf (jXU n q) (qZ (zXF n q)) 60 134 [.lf (n + 1) (fZ q)] =
 (bif (decide (0 + (n + 1)≤1000000)) then some (.ow 58 3 (.fo (n + 1) (fZ q)),[])
 else none):=by kernel_rfl
theorem yKL (n:Nat) (q:Nat→Z3) (_:n + 1≤50):qH Tryz.prog 134 [.lf (n + 1) (fZ q)] (.ow 58 3 (.fo (n + 1) (fZ q))):=by
 refine qX (N:=60) (LO:=qZ (zXF n q)) yG qG (yH (l:=[]) (m:=[]) trivial trivial) (fun p S hp => ?_) ?_
 ·refine qK (L:=qQ Tf 134) (l:=(zXF n q)) (show AllP _ (zXF n q) from trivial) p S hp
 ·refine (jXZ n q).trans ?_;simp only [vYJ (show n + 1≤1000000 by omega),vYJ (show n + 1≤8796093022208 by omega),vYJ (show 0 + (n + 1)≤1000000 by omega),vYQ]
  all_goals rfl
theorem yKD (n:Nat) (q:Nat→Z3) (hn:1≤n∧n≤50):qH Tryz.prog 134 [.lf n (fZ q)] (.ow 58 3 (.fo n (fZ q))):=by
 obtain ⟨h1,h2⟩:=hn;obtain ⟨m,rfl⟩:∃ m,n=m + 1:=⟨n - 1,by omega⟩
 exact yKL m q h2
def ccov:Nat × (Nat→Z3)→Prop:=fun t=>match t with | (n,_)=>1≤n∧n≤50
def ecov:Nat × (Nat→Z3)→List PV:=fun t=>match t with | (n,q)=>[.lf n (fZ q)]
noncomputable def rcov:Nat × (Nat→Z3)→Ret:=fun t=>match t with | (n,q)=>.ow 58 3 (.fo n (fZ q))
def dcov:List PV→Nat × (Nat→Z3):=fun ps=>match ps with
 | [.lf n f]=>(n,unFZ f)
 | _=>(0,fun _=>⟨0,0,0⟩)
noncomputable def jJE:List PV→Option (Bool × Ret):=o_fm dcov ccov ecov rcov
theorem jWB:jG Tryz.prog 134 jJE:=qQU fun t h=>by
 obtain ⟨n,q⟩:=t;exact yKD n q h
noncomputable def orPa (c:Nat) (_:Nat→Shp) (_:Z3):OrS:=orS [(134,jJE)] []
def sft (by_:Z3) (n:Nat) (p:Nat→Z3):Nat→Z3:=fun v=>⟨bif Nat.blt v n then vYX .i64 ((p v).x + by_.x) else (p v).x,bif Nat.blt v n then vYX .i64 ((p v).y + by_.y) else (p v).y,bif Nat.blt v n then vYX .i64 ((p v).z + by_.z) else (p v).z⟩
def sftS (by_:Z3) (link:Int) (s:Shp):Shp:=⟨link,s.rad,s.np,sft by_ s.np s.pts⟩
def sftL (by_:Z3) (s:Shp):Shp:=sftS by_ s.link s
def sfQ (by_:Z3) (p:Nat→Z3) (k:Nat):Nat→Nat→Int:=fun v j=>List.getD [(sft by_ k p v).x,(sft by_ k p v).y,(sft by_ k p v).z] j 0
theorem zQE (v k:Nat) (a b:Nat→Int):(bif Nat.beq v k then a k else bif Nat.blt v k then a v else b v)=bif Nat.blt v (k + 1) then a v else b v:=by
 rw [qVD];by_cases h:v=k
 ·subst h;rw [vYJ rfl,show Nat.blt v (v + 1)=true from by rw [Nat.blt_eq]; omega]; rfl
 ·rw [vYY h,vYZ];by_cases h2:v < k
  ·rw [show Nat.blt v k=true from by rw [Nat.blt_eq]; exact h2,show Nat.blt v (k + 1)=true from by rw [Nat.blt_eq]; omega]
  ·rw [show Nat.blt v k=false from by rw [Bool.eq_false_iff,ne_eq,Nat.blt_eq]; exact h2,show Nat.blt v (k + 1)=false from by rw [Bool.eq_false_iff,ne_eq,Nat.blt_eq]; omega]
theorem yGU (k:Nat):Nat.blt k k=false:=by rw [Bool.eq_false_iff,ne_eq,Nat.blt_eq]; omega
noncomputable def hPb (c:Nat) (sh:Nat→Shp) (by_:Z3) (i:Int) (j:Int) (r:Nat) (f:Nat→List PV) (s:Shp) (q:Nat→Nat→Int):St:=⟨[(3,.p 3 0),(5,.o 13),(7,.p 7 0),(14,.v (.lf c (fS sh))),(15,.v (.n .i64 (c:Int))),(16,.v (.n .i64 i)),(26,.v (.n .i64 (s.np:Int))),(27,.v (.n .i64 j))],[(3,.blk [.v (.n .i64 by_.x),.v (.n .i64 by_.y),.v (.n .i64 by_.z)]),(7,.blk [.v (.n .i64 s.link),.v (.n .i64 s.rad),.o 22]),(13,.reg 94 3 (.fo r f)),(22,.reg 58 3 (.fo s.np (fun v=>[.n .i64 (q v 0),.n .i64 (q v 1),.n .i64 (q v 2)])))]⟩
set_option maxRecDepth 100000 in
theorem rdPb (G:St→Option (Ret × Mem)) (K:Cont) (c:Nat) (sh:Nat→Shp) (by_:Z3) (i:Int) (j:Int) (r:Nat) (f:Nat→List PV) (s:Shp) (q:Nat→Nat→Int):yJ 60 (cxS Tf (orPa c sh by_) 60 86 (ntmF Tf 86)) (evX Tf (orPa c sh by_) 60 86 (ntmF Tf 86)) (qZ []) (qQ Tf 86 [0,1,0,1,1,0,0,1,1,0,0,1,0,1,1]) [0,1,0,1,1,0,0,1,1,0,0,1,0,1,1] (Tf.hint 86 (qJ (qQ Tf 86 [0,1,0,1,1,0,0,1,1,0,0,1,0,1,1]))) K G (hPb c sh by_ i j r f s q) =
 (bif (decide (j < (s.np:Int))) then (bif (inB j s.np) then (bif (inB j s.np) then (bif (inB j s.np) then (bif (inB j s.np) then (bif (inB j s.np) then (bif (inB j s.np) then (G (hPb c sh by_ i (vYX .i64 (j + 1)) r f s (fun v k=>List.getD [(bif (Nat.beq v (j).toNat) then (bif (Nat.beq (j).toNat (j).toNat) then (bif (Nat.beq (j).toNat (j).toNat) then (vYX .i64 ((q (j).toNat 0) + by_.x)) else (q (j).toNat 0)) else (bif (Nat.beq (j).toNat (j).toNat) then (vYX .i64 ((q (j).toNat 0) + by_.x)) else (q (j).toNat 0))) else (bif (Nat.beq v (j).toNat) then (bif (Nat.beq (j).toNat (j).toNat) then (vYX .i64 ((q (j).toNat 0) + by_.x)) else (q (j).toNat 0)) else (bif (Nat.beq v (j).toNat) then (vYX .i64 ((q (j).toNat 0) + by_.x)) else (q v 0)))),(bif (Nat.beq v (j).toNat) then (bif (Nat.beq (j).toNat (j).toNat) then (vYX .i64 ((bif (Nat.beq (j).toNat (j).toNat) then (q (j).toNat 1) else (q (j).toNat 1)) + by_.y)) else (bif (Nat.beq (j).toNat (j).toNat) then (q (j).toNat 1) else (q (j).toNat 1))) else (bif (Nat.beq v (j).toNat) then (vYX .i64 ((bif (Nat.beq (j).toNat (j).toNat) then (q (j).toNat 1) else (q (j).toNat 1)) + by_.y)) else (bif (Nat.beq v (j).toNat) then (q (j).toNat 1) else (q v 1)))),(bif (Nat.beq v (j).toNat) then (vYX .i64 ((bif (Nat.beq (j).toNat (j).toNat) then (bif (Nat.beq (j).toNat (j).toNat) then (q (j).toNat 2) else (q (j).toNat 2)) else (bif (Nat.beq (j).toNat (j).toNat) then (q (j).toNat 2) else (q (j).toNat 2))) + by_.z)) else (bif (Nat.beq v (j).toNat) then (bif (Nat.beq (j).toNat (j).toNat) then (q (j).toNat 2) else (q (j).toNat 2)) else (bif (Nat.beq v (j).toNat) then (q (j).toNat 2) else (q v 2))))] k 0)))
 else none)
 else none)
 else none)
 else none)
 else none)
 else none)
 else (K (.exit 2) ⟨[(3,.p 3 0),(5,.o 13),(7,.p 7 0),(14,.v (.lf c (fS sh))),(15,.v (.n .i64 (c:Int))),(16,.v (.n .i64 i))],[(3,.blk [.v (.n .i64 by_.x),.v (.n .i64 by_.y),.v (.n .i64 by_.z)]),(7,.blk [.v (.n .i64 s.link),.v (.n .i64 s.rad),.o 22]),(13,.reg 94 3 (.fo r f)),(22,.reg 58 3 (.fo s.np (fun v=>[.n .i64 (q v 0),.n .i64 (q v 1),.n .i64 (q v 2)])))]⟩)):=by kernel_rfl
theorem jZU (by_:Z3) (p:Nat→Z3) (j:Nat):(fun v k=>List.getD [(bif (Nat.beq v j) then (bif (Nat.beq j j) then (bif (Nat.beq j j) then (vYX .i64 (((sfQ by_ p j) j 0) + by_.x)) else ((sfQ by_ p j) j 0)) else (bif (Nat.beq j j) then (vYX .i64 (((sfQ by_ p j) j 0) + by_.x)) else ((sfQ by_ p j) j 0))) else (bif (Nat.beq v j) then (bif (Nat.beq j j) then (vYX .i64 (((sfQ by_ p j) j 0) + by_.x)) else ((sfQ by_ p j) j 0)) else (bif (Nat.beq v j) then (vYX .i64 (((sfQ by_ p j) j 0) + by_.x)) else ((sfQ by_ p j) v 0)))),(bif (Nat.beq v j) then (bif (Nat.beq j j) then (vYX .i64 ((bif (Nat.beq j j) then ((sfQ by_ p j) j 1) else ((sfQ by_ p j) j 1)) + by_.y)) else (bif (Nat.beq j j) then ((sfQ by_ p j) j 1) else ((sfQ by_ p j) j 1))) else (bif (Nat.beq v j) then (vYX .i64 ((bif (Nat.beq j j) then ((sfQ by_ p j) j 1) else ((sfQ by_ p j) j 1)) + by_.y)) else (bif (Nat.beq v j) then ((sfQ by_ p j) j 1) else ((sfQ by_ p j) v 1)))),(bif (Nat.beq v j) then (vYX .i64 ((bif (Nat.beq j j) then (bif (Nat.beq j j) then ((sfQ by_ p j) j 2) else ((sfQ by_ p j) j 2)) else (bif (Nat.beq j j) then ((sfQ by_ p j) j 2) else ((sfQ by_ p j) j 2))) + by_.z)) else (bif (Nat.beq v j) then (bif (Nat.beq j j) then ((sfQ by_ p j) j 2) else ((sfQ by_ p j) j 2)) else (bif (Nat.beq v j) then ((sfQ by_ p j) j 2) else ((sfQ by_ p j) v 2))))] k 0)=sfQ by_ p (j + 1):=by
 funext v k;have e1:sfQ by_ p j j 0=(p j).x∧sfQ by_ p j j 1=(p j).y∧sfQ by_ p j j 2=(p j).z:=by
  refine ⟨?_,?_,?_⟩ <;> (show (bif Nat.blt j j then _ else _)=_; rw [yGU]; rfl)
 have e2:(bif Nat.beq v j then vYX .i64 ((p j).x + by_.x) else sfQ by_ p j v 0)=(sft by_ (j + 1) p v).x:=zQE v j (fun v=>vYX .i64 ((p v).x + by_.x)) (fun v=>(p v).x);have e3:(bif Nat.beq v j then vYX .i64 ((p j).y + by_.y) else sfQ by_ p j v 1)=(sft by_ (j + 1) p v).y:=zQE v j (fun v=>vYX .i64 ((p v).y + by_.y)) (fun v=>(p v).y);have e4:(bif Nat.beq v j then vYX .i64 ((p j).z + by_.z) else sfQ by_ p j v 2)=(sft by_ (j + 1) p v).z:=zQE v j (fun v=>vYX .i64 ((p v).z + by_.z)) (fun v=>(p v).z);show _=List.getD [(sft by_ (j + 1) p v).x,(sft by_ (j + 1) p v).y,(sft by_ (j + 1) p v).z] k 0;rw [← e2,← e3,← e4];simp only [Nat.beq_refl,vYQ,e1.1,e1.2.1,e1.2.2];cases Nat.beq v j <;> rfl
theorem lpPb (K:Cont) (c:Nat) (sh:Nat→Shp) (by_:Z3) (i:Int) (r:Nat) (f:Nat→List PV) (s:Shp) (_:s.np≤50):LFX 60 (cxS Tf (orPa c sh by_) 60 86 (ntmF Tf 86)) (evX Tf (orPa c sh by_) 60 86 (ntmF Tf 86)) (qZ []) (qQ Tf 86 [0,1,0,1,1,0,0,1,1,0,0,1,0,1,1]) [0,1,0,1,1,0,0,1,1,0,0,1,0,1,1] (Tf.hint 86 (qJ (qQ Tf 86 [0,1,0,1,1,0,0,1,1,0,0,1,0,1,1]))) K 60 (hPb c sh by_ i 0 r f s (sfQ by_ s.pts 0))=(K (.exit 2) ⟨[(3,.p 3 0),(5,.o 13),(7,.p 7 0),(14,.v (.lf c (fS sh))),(15,.v (.n .i64 (c:Int))),(16,.v (.n .i64 i))],[(3,.blk [.v (.n .i64 by_.x),.v (.n .i64 by_.y),.v (.n .i64 by_.z)]),(7,.blk [.v (.n .i64 s.link),.v (.n .i64 s.rad),.o 22]),(13,.reg 94 3 (.fo r f)),(22,.reg 58 3 (.fo s.np (fZ (sft by_ s.np s.pts))))]⟩):=by
 refine (jJ (L:=LFX 60 (cxS Tf (orPa c sh by_) 60 86 (ntmF Tf 86)) (evX Tf (orPa c sh by_) 60 86 (ntmF Tf 86)) (qZ []) (qQ Tf 86 [0,1,0,1,1,0,0,1,1,0,0,1,0,1,1]) [0,1,0,1,1,0,0,1,1,0,0,1,0,1,1] (Tf.hint 86 (qJ (qQ Tf 86 [0,1,0,1,1,0,0,1,1,0,0,1,0,1,1]))) K) (stp:=yJ 60 (cxS Tf (orPa c sh by_) 60 86 (ntmF Tf 86)) (evX Tf (orPa c sh by_) 60 86 (ntmF Tf 86)) (qZ []) (qQ Tf 86 [0,1,0,1,1,0,0,1,1,0,0,1,0,1,1]) [0,1,0,1,1,0,0,1,1,0,0,1,0,1,1] (Tf.hint 86 (qJ (qQ Tf 86 [0,1,0,1,1,0,0,1,1,0,0,1,0,1,1]))) K) (fun _ _=>rfl) (fun (j:Nat) (_:Unit)=>hPb c sh by_ i (j:Int) r f s (sfQ by_ s.pts j)) (fun _ _=>True) (fun _ _=>true) (fun _ _=>()) (c:=s.np) (fun _=>(K (.exit 2) ⟨[(3,.p 3 0),(5,.o 13),(7,.p 7 0),(14,.v (.lf c (fS sh))),(15,.v (.n .i64 (c:Int))),(16,.v (.n .i64 i))],[(3,.blk [.v (.n .i64 by_.x),.v (.n .i64 by_.y),.v (.n .i64 by_.z)]),(7,.blk [.v (.n .i64 s.link),.v (.n .i64 s.rad),.o 22]),(13,.reg 94 3 (.fo r f)),(22,.reg 58 3 (.fo s.np (fZ (sft by_ s.np s.pts))))]⟩)) (fun _ _=>none) (fun G j f_ hj _ => ?_) (fun _ _ _ _ _=>trivial) (fun G f_ _ => ?_) s.np 0 60 () (by omega) (by omega) trivial).trans (qQK s.np 0 _)
 ·refine (rdPb G K c sh by_ i j r f s (sfQ by_ s.pts j)).trans ?_;simp only [vYJ (show (j:Int) < (s.np:Int) by omega),jZ (show j < 1000000 by omega),zJ hj,toN,vYQ];rw [jZU by_ s.pts j]
 ·refine (rdPb G K c sh by_ i s.np r f s (sfQ by_ s.pts s.np)).trans ?_;rw [vYY (show ¬ (s.np:Int) < (s.np:Int) by omega)];rfl
theorem okPb (c:Nat) (sh:Nat→Shp) (by_:Z3):∀ p S,qZ [([0,1,0,1,1,0,0,1,1,0,0,1,0,1,1],sumF (fun t:Int × Nat × (Nat→List PV) × Shp=>(hPb c sh by_ t.1 0 t.2.1 t.2.2.1 t.2.2.2 (sfQ by_ t.2.2.2.pts 0))) (fun σ=>(slI σ 16,rgN σ 13,rgF σ 13,⟨bkC σ 7 0,bkC σ 7 1,rgN σ 22,unFZ (rgF σ 22)⟩)) (fun t K=>(bif (decide (t.2.2.2.np≤50)) then (K (.exit 2) ⟨[(3,.p 3 0),(5,.o 13),(7,.p 7 0),(14,.v (.lf c (fS sh))),(15,.v (.n .i64 (c:Int))),(16,.v (.n .i64 t.1))],[(3,.blk [.v (.n .i64 by_.x),.v (.n .i64 by_.y),.v (.n .i64 by_.z)]),(7,.blk [.v (.n .i64 t.2.2.2.link),.v (.n .i64 t.2.2.2.rad),.o 22]),(13,.reg 94 3 (.fo t.2.1 t.2.2.1)),(22,.reg 58 3 (.fo t.2.2.2.np (fZ (sft by_ t.2.2.2.np t.2.2.2.pts))))]⟩) else none)))] p=some S→uG 60 (cxS Tf (orPa c sh by_) 60 86 (ntmF Tf 86)) (qQ Tf 86 p) S:=fun p S hp=>by
 refine qK (L:=qQ Tf 86) (l:=[([0,1,0,1,1,0,0,1,1,0,0,1,0,1,1],sumF (fun t:Int × Nat × (Nat→List PV) × Shp=>(hPb c sh by_ t.1 0 t.2.1 t.2.2.1 t.2.2.2 (sfQ by_ t.2.2.2.pts 0))) (fun σ=>(slI σ 16,rgN σ 13,rgF σ 13,⟨bkC σ 7 0,bkC σ 7 1,rgN σ 22,unFZ (rgF σ 22)⟩)) (fun t K=>(bif (decide (t.2.2.2.np≤50)) then (K (.exit 2) ⟨[(3,.p 3 0),(5,.o 13),(7,.p 7 0),(14,.v (.lf c (fS sh))),(15,.v (.n .i64 (c:Int))),(16,.v (.n .i64 t.1))],[(3,.blk [.v (.n .i64 by_.x),.v (.n .i64 by_.y),.v (.n .i64 by_.z)]),(7,.blk [.v (.n .i64 t.2.2.2.link),.v (.n .i64 t.2.2.2.rad),.o 22]),(13,.reg 94 3 (.fo t.2.1 t.2.2.1)),(22,.reg 58 3 (.fo t.2.2.2.np (fZ (sft by_ t.2.2.2.np t.2.2.2.pts))))]⟩) else none)))]) ⟨?_,trivial⟩ p S hp;dsimp only;refine yQ (T:=Tf) (o:=(orPa c sh by_)) (f:=86) (LO:=qZ []) (p:=[0,1,0,1,1,0,0,1,1,0,0,1,0,1,1]) yV ?_;intro t K r hr;obtain ⟨hg,hr⟩:=qY hr
 skip
 exact (lpPb K c sh by_ t.1 t.2.1 t.2.2.1 t.2.2.2 (vYK hg)).trans hr
noncomputable def hPa (c:Nat) (sh:Nat→Shp) (by_:Z3) (i:Int) (r:Nat) (f:Nat→List PV):St:=⟨[(3,.p 3 0),(5,.o 13),(14,.v (.lf c (fS sh))),(15,.v (.n .i64 (c:Int))),(16,.v (.n .i64 i))],[(3,.blk [.v (.n .i64 by_.x),.v (.n .i64 by_.y),.v (.n .i64 by_.z)]),(13,.reg 94 3 (.fo r f))]⟩
set_option maxRecDepth 100000 in
theorem rdPa (G:St→Option (Ret × Mem)) (K:Cont) (c:Nat) (sh:Nat→Shp) (by_:Z3) (i:Int) (r:Nat) (f:Nat→List PV):yJ 60 (cxS Tf (orPa c sh by_) 60 86 (ntmF Tf 86)) (evX Tf (orPa c sh by_) 60 86 (ntmF Tf 86)) (qZ [([0,1,0,1,1,0,0,1,1,0,0,1,0,1,1],sumF (fun t:Int × Nat × (Nat→List PV) × Shp=>(hPb c sh by_ t.1 0 t.2.1 t.2.2.1 t.2.2.2 (sfQ by_ t.2.2.2.pts 0))) (fun σ=>(slI σ 16,rgN σ 13,rgF σ 13,⟨bkC σ 7 0,bkC σ 7 1,rgN σ 22,unFZ (rgF σ 22)⟩)) (fun t K=>(bif (decide (t.2.2.2.np≤50)) then (K (.exit 2) ⟨[(3,.p 3 0),(5,.o 13),(7,.p 7 0),(14,.v (.lf c (fS sh))),(15,.v (.n .i64 (c:Int))),(16,.v (.n .i64 t.1))],[(3,.blk [.v (.n .i64 by_.x),.v (.n .i64 by_.y),.v (.n .i64 by_.z)]),(7,.blk [.v (.n .i64 t.2.2.2.link),.v (.n .i64 t.2.2.2.rad),.o 22]),(13,.reg 94 3 (.fo t.2.1 t.2.2.1)),(22,.reg 58 3 (.fo t.2.2.2.np (fZ (sft by_ t.2.2.2.np t.2.2.2.pts))))]⟩) else none)))]) (qQ Tf 86 [0,1,0,1,1]) [0,1,0,1,1] (Tf.hint 86 (qJ (qQ Tf 86 [0,1,0,1,1]))) K G (hPa c sh by_ i r f) =
 (bif (decide (i < (c:Int))) then (bif (inB i c) then (bif (gF1 ccov ecov (((sh (i).toNat).np),((sh (i).toNat).pts))) then (bif (gSt (hPb c sh by_ i 0 r f (sh (i).toNat) (sfQ by_ (sh (i).toNat).pts 0)) (hPb c sh by_ i 0 r f (sh (i).toNat) (sfQ by_ (sh (i).toNat).pts 0))) then (bif (decide ((sh (i).toNat).np≤50)) then (bif (decide (r + 1≤1000000)) then (G (hPa c sh by_ (vYX .i64 (i + 1)) (r + 1) (fun v=>uU (Nat.beq v r) [.n .i64 (sh (i).toNat).link,.n .i64 (sh (i).toNat).rad,.lf (sh (i).toNat).np (fZ (sft by_ (sh (i).toNat).np (sh (i).toNat).pts))] (f v))))
 else none)
 else none)
 else none)
 else none)
 else none)
 else (K (.exit 0) ⟨[(5,.o 13)],[(13,.reg 94 3 (.fo r f))]⟩)):=by kernel_rfl
theorem lpPa (K:Cont) (c:Nat) (sh:Nat→Shp) (by_:Z3) (_:c≤50) (hp:∀ i,i < c→1≤(sh i).np∧(sh i).np≤50):LFX 60 (cxS Tf (orPa c sh by_) 60 86 (ntmF Tf 86)) (evX Tf (orPa c sh by_) 60 86 (ntmF Tf 86)) (qZ [([0,1,0,1,1,0,0,1,1,0,0,1,0,1,1],sumF (fun t:Int × Nat × (Nat→List PV) × Shp=>(hPb c sh by_ t.1 0 t.2.1 t.2.2.1 t.2.2.2 (sfQ by_ t.2.2.2.pts 0))) (fun σ=>(slI σ 16,rgN σ 13,rgF σ 13,⟨bkC σ 7 0,bkC σ 7 1,rgN σ 22,unFZ (rgF σ 22)⟩)) (fun t K=>(bif (decide (t.2.2.2.np≤50)) then (K (.exit 2) ⟨[(3,.p 3 0),(5,.o 13),(7,.p 7 0),(14,.v (.lf c (fS sh))),(15,.v (.n .i64 (c:Int))),(16,.v (.n .i64 t.1))],[(3,.blk [.v (.n .i64 by_.x),.v (.n .i64 by_.y),.v (.n .i64 by_.z)]),(7,.blk [.v (.n .i64 t.2.2.2.link),.v (.n .i64 t.2.2.2.rad),.o 22]),(13,.reg 94 3 (.fo t.2.1 t.2.2.1)),(22,.reg 58 3 (.fo t.2.2.2.np (fZ (sft by_ t.2.2.2.np t.2.2.2.pts))))]⟩) else none)))]) (qQ Tf 86 [0,1,0,1,1]) [0,1,0,1,1] (Tf.hint 86 (qJ (qQ Tf 86 [0,1,0,1,1]))) K 60 (hPa c sh by_ 0 0 (fun _=>[.n .i64 0,.n .i64 0,.zs]))=(K (.exit 0) ⟨[(5,.o 13)],[(13,.reg 94 3 (.fo c (zQB (fun i:Nat=>sP (sftL by_ (sh i))) c 0 (fun _=>[.n .i64 0,.n .i64 0,.zs]))))]⟩):=by
 refine (jJ (L:=LFX 60 (cxS Tf (orPa c sh by_) 60 86 (ntmF Tf 86)) (evX Tf (orPa c sh by_) 60 86 (ntmF Tf 86)) (qZ [([0,1,0,1,1,0,0,1,1,0,0,1,0,1,1],sumF (fun t:Int × Nat × (Nat→List PV) × Shp=>(hPb c sh by_ t.1 0 t.2.1 t.2.2.1 t.2.2.2 (sfQ by_ t.2.2.2.pts 0))) (fun σ=>(slI σ 16,rgN σ 13,rgF σ 13,⟨bkC σ 7 0,bkC σ 7 1,rgN σ 22,unFZ (rgF σ 22)⟩)) (fun t K=>(bif (decide (t.2.2.2.np≤50)) then (K (.exit 2) ⟨[(3,.p 3 0),(5,.o 13),(7,.p 7 0),(14,.v (.lf c (fS sh))),(15,.v (.n .i64 (c:Int))),(16,.v (.n .i64 t.1))],[(3,.blk [.v (.n .i64 by_.x),.v (.n .i64 by_.y),.v (.n .i64 by_.z)]),(7,.blk [.v (.n .i64 t.2.2.2.link),.v (.n .i64 t.2.2.2.rad),.o 22]),(13,.reg 94 3 (.fo t.2.1 t.2.2.1)),(22,.reg 58 3 (.fo t.2.2.2.np (fZ (sft by_ t.2.2.2.np t.2.2.2.pts))))]⟩) else none)))]) (qQ Tf 86 [0,1,0,1,1]) [0,1,0,1,1] (Tf.hint 86 (qJ (qQ Tf 86 [0,1,0,1,1]))) K) (stp:=yJ 60 (cxS Tf (orPa c sh by_) 60 86 (ntmF Tf 86)) (evX Tf (orPa c sh by_) 60 86 (ntmF Tf 86)) (qZ [([0,1,0,1,1,0,0,1,1,0,0,1,0,1,1],sumF (fun t:Int × Nat × (Nat→List PV) × Shp=>(hPb c sh by_ t.1 0 t.2.1 t.2.2.1 t.2.2.2 (sfQ by_ t.2.2.2.pts 0))) (fun σ=>(slI σ 16,rgN σ 13,rgF σ 13,⟨bkC σ 7 0,bkC σ 7 1,rgN σ 22,unFZ (rgF σ 22)⟩)) (fun t K=>(bif (decide (t.2.2.2.np≤50)) then (K (.exit 2) ⟨[(3,.p 3 0),(5,.o 13),(7,.p 7 0),(14,.v (.lf c (fS sh))),(15,.v (.n .i64 (c:Int))),(16,.v (.n .i64 t.1))],[(3,.blk [.v (.n .i64 by_.x),.v (.n .i64 by_.y),.v (.n .i64 by_.z)]),(7,.blk [.v (.n .i64 t.2.2.2.link),.v (.n .i64 t.2.2.2.rad),.o 22]),(13,.reg 94 3 (.fo t.2.1 t.2.2.1)),(22,.reg 58 3 (.fo t.2.2.2.np (fZ (sft by_ t.2.2.2.np t.2.2.2.pts))))]⟩) else none)))]) (qQ Tf 86 [0,1,0,1,1]) [0,1,0,1,1] (Tf.hint 86 (qJ (qQ Tf 86 [0,1,0,1,1]))) K) (fun _ _=>rfl) (fun (i:Nat) (f:Nat→List PV)=>hPa c sh by_ (i:Int) i f) (fun _ _=>True) (fun _ _=>true) (fun (i:Nat) f v=>uU (Nat.beq v i) (sP (sftL by_ (sh i))) (f v)) (c:=c) (fun f=>(K (.exit 0) ⟨[(5,.o 13)],[(13,.reg 94 3 (.fo c f))]⟩)) (fun _ _=>none) (fun G i f hi _ => ?_) (fun _ _ _ _ _=>trivial) (fun G f _ => ?_) c 0 60 (fun _=>[.n .i64 0,.n .i64 0,.zs]) (by omega) (by omega) trivial).trans (zZA c 0 (fun _=>[.n .i64 0,.n .i64 0,.zs]))
 ·refine (rdPa G K c sh by_ (i:Int) i f).trans ?_;simp only [vYJ (show (i:Int) < (c:Int) by omega),jZ (show i < 1000000 by omega),zJ (show i < c by omega),toN,jH (C:=ccov) (t:=((sh i).np,(sh i).pts)) (hp i hi),zQ,vYJ (hp i hi).2,vYQ,vYJ (show i + 1≤1000000 by omega)]
  all_goals rfl
 ·refine (rdPa G K c sh by_ (c:Int) c f).trans ?_;rw [vYY (show ¬ (c:Int) < (c:Int) by omega)];rfl
noncomputable def zXC (c:Nat) (sh:Nat→Shp) (by_:Z3):List (List Nat × yU):=[([0,1,0,1,1],sumF (fun _:Unit=>(hPa c sh by_ 0 0 (fun _=>[.n .i64 0,.n .i64 0,.zs]))) (fun _=>()) (fun _ K=>(bif gP (c≤50∧∀ i,i < c→1≤(sh i).np∧(sh i).np≤50) then (K (.exit 0) ⟨[(5,.o 13)],[(13,.reg 94 3 (.fo c (zQB (fun i:Nat=>sP (sftL by_ (sh i))) c 0 (fun _=>[.n .i64 0,.n .i64 0,.zs]))))]⟩) else none)))]
set_option maxRecDepth 100000 in
theorem jUI (c:Nat) (sh:Nat→Shp) (by_:Z3):kH Tf (orPa c sh by_) (qZ (zXC c sh by_)) 60 86 [.lf c (fS sh),.a [.n .i64 by_.x,.n .i64 by_.y,.n .i64 by_.z]] =
 (bif (decide (0≤(c:Int))) then (bif (decide ((c:Int)≤1000000)) then (bif (gSt (hPa c sh by_ 0 0 (fun _=>[.n .i64 0,.n .i64 0,.zs])) (hPa c sh by_ 0 0 (fun _=>[.n .i64 0,.n .i64 0,.zs]))) then (bif gP (c≤50∧∀ i,i < c→1≤(sh i).np∧(sh i).np≤50) then some (.ow 94 3 (.fo c (zQB (fun i:Nat=>sP (sftL by_ (sh i))) c 0 (fun _=>[.n .i64 0,.n .i64 0,.zs]))),[])
 else none)
 else none)
 else none)
 else none):=by kernel_rfl
theorem yKW (c:Nat) (sh:Nat→Shp) (by_:Z3) (hc:c≤50) (hp:∀ i,i < c→1≤(sh i).np∧(sh i).np≤50):qH Tryz.prog 86 [.lf c (fS sh),.a [.n .i64 by_.x,.n .i64 by_.y,.n .i64 by_.z]] (.ow 94 3 (.fo c (zQB (fun i:Nat=>sP (sftL by_ (sh i))) c 0 (fun _=>[.n .i64 0,.n .i64 0,.zs])))):=by
 refine qX (N:=60) (LO:=qZ (zXC c sh by_)) yG qG (yH (l:=[(134,jJE)]) (m:=[]) ⟨jWB,trivial⟩ trivial) (fun p S hp => ?_) ?_
 ·refine qK (L:=qQ Tf 86) (l:=(zXC c sh by_)) (show AllP _ (zXC c sh by_) from ⟨?_,trivial⟩) p S hp
  ·dsimp only;refine yQ (T:=Tf) (o:=(orPa c sh by_)) (f:=86) (LO:=(qZ [([0,1,0,1,1,0,0,1,1,0,0,1,0,1,1],sumF (fun t:Int × Nat × (Nat→List PV) × Shp=>(hPb c sh by_ t.1 0 t.2.1 t.2.2.1 t.2.2.2 (sfQ by_ t.2.2.2.pts 0))) (fun σ=>(slI σ 16,rgN σ 13,rgF σ 13,⟨bkC σ 7 0,bkC σ 7 1,rgN σ 22,unFZ (rgF σ 22)⟩)) (fun t K=>(bif (decide (t.2.2.2.np≤50)) then (K (.exit 2) ⟨[(3,.p 3 0),(5,.o 13),(7,.p 7 0),(14,.v (.lf c (fS sh))),(15,.v (.n .i64 (c:Int))),(16,.v (.n .i64 t.1))],[(3,.blk [.v (.n .i64 by_.x),.v (.n .i64 by_.y),.v (.n .i64 by_.z)]),(7,.blk [.v (.n .i64 t.2.2.2.link),.v (.n .i64 t.2.2.2.rad),.o 22]),(13,.reg 94 3 (.fo t.2.1 t.2.2.1)),(22,.reg 58 3 (.fo t.2.2.2.np (fZ (sft by_ t.2.2.2.np t.2.2.2.pts))))]⟩) else none)))])) (p:=[0,1,0,1,1]) (okPb c sh by_) ?_;intro t K r hr;obtain ⟨hg,hr⟩:=qY hr
   skip
   exact (lpPa K c sh by_ (zX hg).1 (zX hg).2).trans hr
 ·refine (jUI c sh by_).trans ?_;simp only [vYJ (show (0:Int)≤(c:Int) by omega),vYJ (show (c:Int)≤1000000 by omega),zQ,qYH (show c≤50∧∀ i,i < c→1≤(sh i).np∧(sh i).np≤50 from ⟨hc,hp⟩),vYQ]
  all_goals rfl
theorem yKX {f e sz:Nat} {ps:List PV} {rows rows':Go.Rx.Rows} (h:rows.L=rows'.L) (hs:qH Tryz.prog f ps (.ow e sz rows)):qH Tryz.prog f ps (.ow e sz rows'):=by
 refine ⟨hs.1,fun w F vals hF hal=>(hs.2 w F vals hF hal).mono fun _ w' ⟨v,F',he,hg,f1,f2,hr⟩=>⟨v,F',he,hg,f1,f2,?_⟩⟩;have e:rows.len=rows'.len:=by rw [← Rows.len_L,h,Rows.len_L]
 simp only [RRet,e,h] at hr ⊢;exact hr
theorem jQU (c:Nat) (sh:Nat→Shp) (by_:Z3) (hc:c≤50) (hp:∀ i,i < c→1≤(sh i).np∧(sh i).np≤50):qH Tryz.prog 86 [.lf c (fS sh),.a (zP by_)] (.ow 94 3 (.fo c (fS (fun v=>sftL by_ (sh v))))):=by
 refine yKX ?_ (yKW c sh by_ hc hp);refine List.map_congr_left fun j hj => ?_
 rw [zJV,if_pos (by have:=List.mem_range.1 hj; omega)];rfl
def cpl:Nat × (Nat→Shp) × Z3→Prop:=fun t=>match t with | (c,sh,_)=>c≤50∧∀ i,i < c→1≤(sh i).np∧(sh i).np≤50
def epl:Nat × (Nat→Shp) × Z3→List PV:=fun t=>match t with | (c,sh,by_)=>[.lf c (fS sh),.a (zP by_)]
noncomputable def rpl:Nat × (Nat→Shp) × Z3→Ret:=fun t=>match t with | (c,sh,by_)=>.ow 94 3 (.fo c (fS (fun v=>sftL by_ (sh v))))
def dpl:List PV→Nat × (Nat→Shp) × Z3:=fun ps=>match ps with
 | [.lf c f,.a r]=>(c,unFS f,unZ r)
 | _=>(0,fun _=>⟨0,0,0,fun _=>⟨0,0,0⟩⟩,⟨0,0,0⟩)
noncomputable def o_pl:List PV→Option (Bool × Ret):=o_fm dpl cpl epl rpl
theorem kZW:jG Tryz.prog 86 o_pl:=qQU fun t h=>by
 obtain ⟨c,sh,by_⟩:=t;exact jQU c sh by_ h.1 h.2
end Go.Proofs.YtmeldddgjfocdaaGreat.Hh
namespace Go.Proofs.YtmeldddgjfocdaaGreat.Hi
open Go.Rx Rt Go.Sx Go.RowKit Od Na Nb Nc Nx Nf Nl Nm Ga Gb Gc Gd Ge Gf Gg Ha Hb Hc Hd He Hf Hg Hh
theorem cl0j:qH Tryz.prog 84 [.l []] (.v (.l [])):=qWC (jY (N:=60) zV qG qQH (by kernel_rfl)) (qWD (e:=105) (sz:=12) (jY (N:=60) zV qG qQH (by kernel_rfl)))
noncomputable def jXV (n:Nat) (q:Nat→J):OrS:=orS [] []
noncomputable def zWQ (n:Nat) (q:Nat→J):List (List Nat × yU):=[]
set_option maxRecDepth 100000 in
theorem jXK (n:Nat) (q:Nat→J):kH Tf (jXV n q) (qZ (zWQ n q)) 60 84 [.lf (n + 1) (fJ q)] =
 (bif (decide (0 + (n + 1)≤1000000)) then some (.ow 105 12 (.fo (n + 1) (fJ q)),[])
 else none):=by kernel_rfl
theorem yUY (n:Nat) (q:Nat→J) (_:n + 1≤70):qH Tryz.prog 84 [.lf (n + 1) (fJ q)] (.ow 105 12 (.fo (n + 1) (fJ q))):=by
 refine qX (N:=60) (LO:=qZ (zWQ n q)) yG qG (yH (l:=[]) (m:=[]) trivial trivial) (fun p S hp => ?_) ?_
 ·refine qK (L:=qQ Tf 84) (l:=(zWQ n q)) (show AllP _ (zWQ n q) from trivial) p S hp
 ·refine (jXK n q).trans ?_;simp only [vYJ (show n + 1≤1000000 by omega),vYJ (show n + 1≤8796093022208 by omega),vYJ (show 0 + (n + 1)≤1000000 by omega),vYQ]
  all_goals rfl
theorem yKI (n:Nat) (q:Nat→J) (hn:1≤n∧n≤70):qH Tryz.prog 84 [.lf n (fJ q)] (.ow 105 12 (.fo n (fJ q))):=by
 obtain ⟨h1,h2⟩:=hn;obtain ⟨m,rfl⟩:∃ m,n=m + 1:=⟨n - 1,by omega⟩
 exact yUY m q h2
theorem yKC (n:Nat) (q:Nat→J) (hn:n≤70):qH Tryz.prog 84 [.lf n (fJ q)] (.v (.lf n (fJ q))):=by
 rcases Nat.eq_zero_or_pos n with rfl | h
 ·exact qHG (ps:=[.l []]) (x:=.l []) ⟨Same.l rfl,trivial⟩ (Same.lf rfl) cl0j
 ·exact qHH (yKI n q ⟨h,hn⟩)
def ccvj:Nat × (Nat→J)→Prop:=fun t=>match t with | (n,_)=>n≤70
def ecvj:Nat × (Nat→J)→List PV:=fun t=>match t with | (n,q)=>[.lf n (fJ q)]
noncomputable def rcvj:Nat × (Nat→J)→Ret:=fun t=>match t with | (n,q)=>.v (.lf n (fJ q))
def dcvj:List PV→Nat × (Nat→J):=fun ps=>match ps with
 | [.lf n f]=>(n,unFJ f)
 | _=>(0,fun _=>⟨ByteArray.empty,0,0,⟨0,0,0⟩,0,0,0,0,0,0⟩)
noncomputable def jJD:List PV→Option (Bool × Ret):=o_fm dcvj ccvj ecvj rcvj
theorem jWA:jG Tryz.prog 84 jJD:=qQU fun t h=>by
 obtain ⟨n,q⟩:=t;exact yKC n q h
theorem cl0m:qH Tryz.prog 85 [.l []] (.v (.l [])):=qWC (jY (N:=60) zV qG qQH (by kernel_rfl)) (qWD (e:=134) (sz:=5) (jY (N:=60) zV qG qQH (by kernel_rfl)))
noncomputable def jXX (n:Nat) (q:Nat→Ms):OrS:=orS [] []
noncomputable def zXI (n:Nat) (q:Nat→Ms):List (List Nat × yU):=[]
set_option maxRecDepth 100000 in
theorem jXY (n:Nat) (q:Nat→Ms):kH Tf (jXX n q) (qZ (zXI n q)) 60 85 [.lf (n + 1) (fM q)] =
 (bif (decide (0 + (n + 1)≤1000000)) then some (.ow 134 5 (.fo (n + 1) (fM q)),[])
 else none):=by kernel_rfl
theorem yUQ (n:Nat) (q:Nat→Ms) (_:n + 1≤70):qH Tryz.prog 85 [.lf (n + 1) (fM q)] (.ow 134 5 (.fo (n + 1) (fM q))):=by
 refine qX (N:=60) (LO:=qZ (zXI n q)) yG qG (yH (l:=[]) (m:=[]) trivial trivial) (fun p S hp => ?_) ?_
 ·refine qK (L:=qQ Tf 85) (l:=(zXI n q)) (show AllP _ (zXI n q) from trivial) p S hp
 ·refine (jXY n q).trans ?_;simp only [vYJ (show n + 1≤1000000 by omega),vYJ (show n + 1≤8796093022208 by omega),vYJ (show 0 + (n + 1)≤1000000 by omega),vYQ]
  all_goals rfl
theorem yKE (n:Nat) (q:Nat→Ms) (hn:1≤n∧n≤70):qH Tryz.prog 85 [.lf n (fM q)] (.ow 134 5 (.fo n (fM q))):=by
 obtain ⟨h1,h2⟩:=hn;obtain ⟨m,rfl⟩:∃ m,n=m + 1:=⟨n - 1,by omega⟩
 exact yUQ m q h2
theorem yKA (n:Nat) (q:Nat→Ms) (hn:n≤70):qH Tryz.prog 85 [.lf n (fM q)] (.v (.lf n (fM q))):=by
 rcases Nat.eq_zero_or_pos n with rfl | h
 ·exact qHG (ps:=[.l []]) (x:=.l []) ⟨Same.l rfl,trivial⟩ (Same.lf rfl) cl0m
 ·exact qHH (yKE n q ⟨h,hn⟩)
def ccvm:Nat × (Nat→Ms)→Prop:=fun t=>match t with | (n,_)=>n≤70
def ecvm:Nat × (Nat→Ms)→List PV:=fun t=>match t with | (n,q)=>[.lf n (fM q)]
noncomputable def rcvm:Nat × (Nat→Ms)→Ret:=fun t=>match t with | (n,q)=>.v (.lf n (fM q))
def dcvm:List PV→Nat × (Nat→Ms):=fun ps=>match ps with
 | [.lf n f]=>(n,unFM f)
 | _=>(0,fun _=>⟨0,0,⟨0,0,0⟩⟩)
noncomputable def jJB:List PV→Option (Bool × Ret):=o_fm dcvm ccvm ecvm rcvm
theorem jWG:jG Tryz.prog 85 jJB:=qQU fun t h=>by
 obtain ⟨n,q⟩:=t;exact yKA n q h
theorem cl0k:qH Tryz.prog 87 [.l []] (.v (.l [])):=qWC (jY (N:=60) zV qG qQH (by kernel_rfl)) (qWD (e:=103) (sz:=2) (jY (N:=60) zV qG qQH (by kernel_rfl)))
noncomputable def jXW (n:Nat) (q:Nat→Skp):OrS:=orS [] []
noncomputable def zXL (n:Nat) (q:Nat→Skp):List (List Nat × yU):=[]
set_option maxRecDepth 100000 in
theorem jXJ (n:Nat) (q:Nat→Skp):kH Tf (jXW n q) (qZ (zXL n q)) 60 87 [.lf (n + 1) (fK q)] =
 (bif (decide (0 + (n + 1)≤1000000)) then some (.ow 103 2 (.fo (n + 1) (fK q)),[])
 else none):=by kernel_rfl
theorem yUZ (n:Nat) (q:Nat→Skp) (_:n + 1≤70):qH Tryz.prog 87 [.lf (n + 1) (fK q)] (.ow 103 2 (.fo (n + 1) (fK q))):=by
 refine qX (N:=60) (LO:=qZ (zXL n q)) yG qG (yH (l:=[]) (m:=[]) trivial trivial) (fun p S hp => ?_) ?_
 ·refine qK (L:=qQ Tf 87) (l:=(zXL n q)) (show AllP _ (zXL n q) from trivial) p S hp
 ·refine (jXJ n q).trans ?_;simp only [vYJ (show n + 1≤1000000 by omega),vYJ (show n + 1≤8796093022208 by omega),vYJ (show 0 + (n + 1)≤1000000 by omega),vYQ]
  all_goals rfl
theorem yKF (n:Nat) (q:Nat→Skp) (hn:1≤n∧n≤70):qH Tryz.prog 87 [.lf n (fK q)] (.ow 103 2 (.fo n (fK q))):=by
 obtain ⟨h1,h2⟩:=hn;obtain ⟨m,rfl⟩:∃ m,n=m + 1:=⟨n - 1,by omega⟩
 exact yUZ m q h2
theorem yKB (n:Nat) (q:Nat→Skp) (hn:n≤70):qH Tryz.prog 87 [.lf n (fK q)] (.v (.lf n (fK q))):=by
 rcases Nat.eq_zero_or_pos n with rfl | h
 ·exact qHG (ps:=[.l []]) (x:=.l []) ⟨Same.l rfl,trivial⟩ (Same.lf rfl) cl0k
 ·exact qHH (yKF n q ⟨h,hn⟩)
def ccvk:Nat × (Nat→Skp)→Prop:=fun t=>match t with | (n,_)=>n≤70
def ecvk:Nat × (Nat→Skp)→List PV:=fun t=>match t with | (n,q)=>[.lf n (fK q)]
noncomputable def rcvk:Nat × (Nat→Skp)→Ret:=fun t=>match t with | (n,q)=>.v (.lf n (fK q))
def dcvk:List PV→Nat × (Nat→Skp):=fun ps=>match ps with
 | [.lf n f]=>(n,unFK f)
 | _=>(0,fun _=>⟨0,0⟩)
noncomputable def jJC:List PV→Option (Bool × Ret):=o_fm dcvk ccvk ecvk rcvk
theorem jWH:jG Tryz.prog 87 jJC:=qQU fun t h=>by
 obtain ⟨n,q⟩:=t;exact yKB n q h
noncomputable def orCa (_:Wsp) (k:Nat) (q:Nat→Int):OrS:=orS [(19,o_gk),(34,o_vl),(86,o_pl),(84,jJD),(85,jJB),(87,jJC)] []
def lkS (l:Int) (s:Shp):Shp:=⟨l,s.rad,s.np,s.pts⟩
def qKH (g:Nat→Shp) (r:Nat) (s:Shp):Nat→Shp:=fun v=>bif Nat.beq v r then s else g v
theorem jYQ (g:Nat→Shp) (r:Nat) (s:Shp):(fun v=>uU (Nat.beq v r) (sP s) (fS g v))=fS (qKH g r s):=by
 funext v;rw [jX];show _=sP (bif Nat.beq v r then s else g v);cases Nat.beq v r <;> rfl
def addN (l:Int) (hs:Nat→Shp) (n:Nat) (t:Nat × (Nat→Shp)):Nat × (Nat→Shp):=qYZ (fun (j:Nat) (t:Nat × (Nat→Shp))=>(t.1 + 1,qKH t.2 t.1 (lkS l (hs j)))) n 0 t
theorem yYY {τ:Type} {nx:Nat→τ→τ} {len:τ→Nat} (h:∀ j t,len (nx j t)=len t + 1):∀ n p t,len (qYZ nx n p t)=len t + n
 | 0,p,t=>rfl
 | n + 1,p,t=>by rw [qYZ,yYY h n (p + 1),h]; omega
theorem yHY (l:Int) (hs:Nat→Shp) (n:Nat) (t:Nat × (Nat→Shp)):(addN l hs n t).1=t.1 + n:=yYY (len:=fun (t:Nat × (Nat→Shp))=>t.1) (fun j t=>rfl) n 0 t
noncomputable def hCb (ws:Wsp) (k:Nat) (q:Nat→Int) (i:Int) (l:Int) (n:Nat) (hs:Nat→Shp) (j:Int) (r:Nat) (f:Nat→List PV):St:=⟨[(2,.p 2 0),(3,.p 3 0),(4,.p 4 0),(7,.p 7 0),(10,.v (.n .i64 l)),(48,.v (.lf ws.no (fO ws.ob))),(49,.v (.n .i64 (ws.no:Int))),(50,.v (.n .i64 i)),(85,.v (.lf n (fS hs))),(86,.v (.n .i64 (n:Int))),(87,.v (.n .i64 j))],[(2,.blk [.v (.lf ws.n (fJ ws.js)),.v (.lf ws.m (fM ws.ms)),.v (.lf ws.c (fS ws.sh)),.v (.lf ws.d (fK ws.sk)),.v (.lf ws.no (fO ws.ob)),.v (.lf ws.np (fZ ws.pl)),.v (.lf ws.nh (fH ws.hd)),.v (.lf ws.ng (fG ws.gr)),.v (.n .i64 ws.slack)]),(3,.blk [.v (.lf k (fQ q))]),(4,.blk [.nl,.nl,.nl,.nl]),(7,.blk [.v (.lf ws.n (fJ ws.js)),.v (.lf ws.m (fM ws.ms)),.o 41,.v (.lf ws.d (fK ws.sk))]),(41,.reg 94 3 (.fo r f))]⟩
set_option maxRecDepth 100000 in
theorem rdCb (G:St→Option (Ret × Mem)) (K:Cont) (ws:Wsp) (k:Nat) (q:Nat→Int) (i:Int) (l:Int) (n:Nat) (hs:Nat→Shp) (j:Int) (r:Nat) (f:Nat→List PV):yJ 60 (cxS Tf (orCa ws k q) 60 36 (ntmF Tf 36)) (evX Tf (orCa ws k q) 60 36 (ntmF Tf 36)) (qZ []) (qQ Tf 36 [0,1,1,1,1,0,0,1,1,0,0,1,0,1,1,1,1]) [0,1,1,1,1,0,0,1,1,0,0,1,0,1,1,1,1] (Tf.hint 36 (qJ (qQ Tf 36 [0,1,1,1,1,0,0,1,1,0,0,1,0,1,1,1,1]))) K G (hCb ws k q i l n hs j r f) =
 (bif (decide (j < (n:Int))) then (bif (inB j n) then (bif (decide (r + 1≤1000000)) then (G (hCb ws k q i l n hs (vYX .i64 (j + 1)) (r + 1) (fun v=>uU (Nat.beq v r) [.n .i64 l,.n .i64 (hs (j).toNat).rad,.lf (hs (j).toNat).np (fZ (hs (j).toNat).pts)] (f v))))
 else none)
 else none)
 else (K (.exit 2) ⟨[(2,.p 2 0),(3,.p 3 0),(4,.p 4 0),(7,.p 7 0),(48,.v (.lf ws.no (fO ws.ob))),(49,.v (.n .i64 (ws.no:Int))),(50,.v (.n .i64 i))],[(2,.blk [.v (.lf ws.n (fJ ws.js)),.v (.lf ws.m (fM ws.ms)),.v (.lf ws.c (fS ws.sh)),.v (.lf ws.d (fK ws.sk)),.v (.lf ws.no (fO ws.ob)),.v (.lf ws.np (fZ ws.pl)),.v (.lf ws.nh (fH ws.hd)),.v (.lf ws.ng (fG ws.gr)),.v (.n .i64 ws.slack)]),(3,.blk [.v (.lf k (fQ q))]),(4,.blk [.nl,.nl,.nl,.nl]),(7,.blk [.v (.lf ws.n (fJ ws.js)),.v (.lf ws.m (fM ws.ms)),.o 41,.v (.lf ws.d (fK ws.sk))]),(41,.reg 94 3 (.fo r f))]⟩)):=by kernel_rfl
def slFS (σ:St) (k:Nat):Nat→Shp:=match jU σ.S k with
 | some (.v (.lf _ f))=>unFS f
 | _=>fun _=>⟨0,0,0,fun _=>⟨0,0,0⟩⟩
theorem lpCb (K:Cont) (ws:Wsp) (k:Nat) (q:Nat→Int) (i l:Int) (n:Nat) (hs:Nat→Shp) (r:Nat) (g:Nat→Shp) (_:n≤50) (_:r≤900000):LFX 60 (cxS Tf (orCa ws k q) 60 36 (ntmF Tf 36)) (evX Tf (orCa ws k q) 60 36 (ntmF Tf 36)) (qZ []) (qQ Tf 36 [0,1,1,1,1,0,0,1,1,0,0,1,0,1,1,1,1]) [0,1,1,1,1,0,0,1,1,0,0,1,0,1,1,1,1] (Tf.hint 36 (qJ (qQ Tf 36 [0,1,1,1,1,0,0,1,1,0,0,1,0,1,1,1,1]))) K 60 (hCb ws k q i l n hs 0 r (fS g))=(K (.exit 2) ⟨[(2,.p 2 0),(3,.p 3 0),(4,.p 4 0),(7,.p 7 0),(48,.v (.lf ws.no (fO ws.ob))),(49,.v (.n .i64 (ws.no:Int))),(50,.v (.n .i64 i))],[(2,.blk [.v (.lf ws.n (fJ ws.js)),.v (.lf ws.m (fM ws.ms)),.v (.lf ws.c (fS ws.sh)),.v (.lf ws.d (fK ws.sk)),.v (.lf ws.no (fO ws.ob)),.v (.lf ws.np (fZ ws.pl)),.v (.lf ws.nh (fH ws.hd)),.v (.lf ws.ng (fG ws.gr)),.v (.n .i64 ws.slack)]),(3,.blk [.v (.lf k (fQ q))]),(4,.blk [.nl,.nl,.nl,.nl]),(7,.blk [.v (.lf ws.n (fJ ws.js)),.v (.lf ws.m (fM ws.ms)),.o 41,.v (.lf ws.d (fK ws.sk))]),(41,.reg 94 3 (.fo (addN l hs n (r,g)).1 (fS (addN l hs n (r,g)).2)))]⟩):=by
 refine (jJ (L:=LFX 60 (cxS Tf (orCa ws k q) 60 36 (ntmF Tf 36)) (evX Tf (orCa ws k q) 60 36 (ntmF Tf 36)) (qZ []) (qQ Tf 36 [0,1,1,1,1,0,0,1,1,0,0,1,0,1,1,1,1]) [0,1,1,1,1,0,0,1,1,0,0,1,0,1,1,1,1] (Tf.hint 36 (qJ (qQ Tf 36 [0,1,1,1,1,0,0,1,1,0,0,1,0,1,1,1,1]))) K) (stp:=yJ 60 (cxS Tf (orCa ws k q) 60 36 (ntmF Tf 36)) (evX Tf (orCa ws k q) 60 36 (ntmF Tf 36)) (qZ []) (qQ Tf 36 [0,1,1,1,1,0,0,1,1,0,0,1,0,1,1,1,1]) [0,1,1,1,1,0,0,1,1,0,0,1,0,1,1,1,1] (Tf.hint 36 (qJ (qQ Tf 36 [0,1,1,1,1,0,0,1,1,0,0,1,0,1,1,1,1]))) K) (fun _ _=>rfl) (fun (j:Nat) (t:Nat × (Nat→Shp))=>(hCb ws k q i l n hs (j:Int) t.1 (fS t.2))) (fun j t=>t.1=r + j) (fun _ _=>true) (fun (j:Nat) (t:Nat × (Nat→Shp))=>(t.1 + 1,qKH t.2 t.1 (lkS l (hs j)))) (c:=n) (fun t=>(K (.exit 2) ⟨[(2,.p 2 0),(3,.p 3 0),(4,.p 4 0),(7,.p 7 0),(48,.v (.lf ws.no (fO ws.ob))),(49,.v (.n .i64 (ws.no:Int))),(50,.v (.n .i64 i))],[(2,.blk [.v (.lf ws.n (fJ ws.js)),.v (.lf ws.m (fM ws.ms)),.v (.lf ws.c (fS ws.sh)),.v (.lf ws.d (fK ws.sk)),.v (.lf ws.no (fO ws.ob)),.v (.lf ws.np (fZ ws.pl)),.v (.lf ws.nh (fH ws.hd)),.v (.lf ws.ng (fG ws.gr)),.v (.n .i64 ws.slack)]),(3,.blk [.v (.lf k (fQ q))]),(4,.blk [.nl,.nl,.nl,.nl]),(7,.blk [.v (.lf ws.n (fJ ws.js)),.v (.lf ws.m (fM ws.ms)),.o 41,.v (.lf ws.d (fK ws.sk))]),(41,.reg 94 3 (.fo t.1 (fS t.2)))]⟩)) (fun _ _=>none) (fun G j t hj hv => ?_) (fun j t hj hv _ => ?_) (fun G t hv => ?_) n 0 60 (r,g) (by omega) (by omega) rfl).trans (qQK n 0 _)
 ·refine (rdCb G K ws k q i l n hs j t.1 (fS t.2)).trans ?_;simp only [vYJ (show (j:Int) < (n:Int) by omega),jZ (show j < 1000000 by omega),zJ hj,toN,vYJ (show t.1 + 1≤1000000 by omega),vYQ];exact congrArg (fun f=>G (hCb ws k q i l n hs ((j + 1:Nat):Int) (t.1 + 1) f)) (jYQ t.2 t.1 (lkS l (hs j)))
 ·show t.1 + 1=r + (j + 1);omega
 ·refine (rdCb G K ws k q i l n hs n t.1 (fS t.2)).trans ?_;rw [vYY (show ¬ (n:Int) < (n:Int) by omega)];rfl
theorem okCb (ws:Wsp) (k:Nat) (q:Nat→Int):∀ p S,qZ [([0,1,1,1,1,0,0,1,1,0,0,1,0,1,1,1,1],sumF (fun t:Int × Int × Nat × (Nat→Shp) × Nat × (Nat→Shp)=>(hCb ws k q t.1 t.2.1 t.2.2.1 t.2.2.2.1 0 t.2.2.2.2.1 (fS t.2.2.2.2.2))) (fun σ=>(slI σ 50,slI σ 10,lfN σ 85,slFS σ 85,rgN σ 41,unFS (rgF σ 41))) (fun t K=>(bif (decide (t.2.2.1≤50∧t.2.2.2.2.1≤900000)) then (K (.exit 2) ⟨[(2,.p 2 0),(3,.p 3 0),(4,.p 4 0),(7,.p 7 0),(48,.v (.lf ws.no (fO ws.ob))),(49,.v (.n .i64 (ws.no:Int))),(50,.v (.n .i64 t.1))],[(2,.blk [.v (.lf ws.n (fJ ws.js)),.v (.lf ws.m (fM ws.ms)),.v (.lf ws.c (fS ws.sh)),.v (.lf ws.d (fK ws.sk)),.v (.lf ws.no (fO ws.ob)),.v (.lf ws.np (fZ ws.pl)),.v (.lf ws.nh (fH ws.hd)),.v (.lf ws.ng (fG ws.gr)),.v (.n .i64 ws.slack)]),(3,.blk [.v (.lf k (fQ q))]),(4,.blk [.nl,.nl,.nl,.nl]),(7,.blk [.v (.lf ws.n (fJ ws.js)),.v (.lf ws.m (fM ws.ms)),.o 41,.v (.lf ws.d (fK ws.sk))]),(41,.reg 94 3 (.fo (addN t.2.1 t.2.2.2.1 t.2.2.1 (t.2.2.2.2.1,t.2.2.2.2.2)).1 (fS (addN t.2.1 t.2.2.2.1 t.2.2.1 (t.2.2.2.2.1,t.2.2.2.2.2)).2)))]⟩) else none)))] p=some S→uG 60 (cxS Tf (orCa ws k q) 60 36 (ntmF Tf 36)) (qQ Tf 36 p) S:=fun p S hp=>by
 refine qK (L:=qQ Tf 36) (l:=[([0,1,1,1,1,0,0,1,1,0,0,1,0,1,1,1,1],sumF (fun t:Int × Int × Nat × (Nat→Shp) × Nat × (Nat→Shp)=>(hCb ws k q t.1 t.2.1 t.2.2.1 t.2.2.2.1 0 t.2.2.2.2.1 (fS t.2.2.2.2.2))) (fun σ=>(slI σ 50,slI σ 10,lfN σ 85,slFS σ 85,rgN σ 41,unFS (rgF σ 41))) (fun t K=>(bif (decide (t.2.2.1≤50∧t.2.2.2.2.1≤900000)) then (K (.exit 2) ⟨[(2,.p 2 0),(3,.p 3 0),(4,.p 4 0),(7,.p 7 0),(48,.v (.lf ws.no (fO ws.ob))),(49,.v (.n .i64 (ws.no:Int))),(50,.v (.n .i64 t.1))],[(2,.blk [.v (.lf ws.n (fJ ws.js)),.v (.lf ws.m (fM ws.ms)),.v (.lf ws.c (fS ws.sh)),.v (.lf ws.d (fK ws.sk)),.v (.lf ws.no (fO ws.ob)),.v (.lf ws.np (fZ ws.pl)),.v (.lf ws.nh (fH ws.hd)),.v (.lf ws.ng (fG ws.gr)),.v (.n .i64 ws.slack)]),(3,.blk [.v (.lf k (fQ q))]),(4,.blk [.nl,.nl,.nl,.nl]),(7,.blk [.v (.lf ws.n (fJ ws.js)),.v (.lf ws.m (fM ws.ms)),.o 41,.v (.lf ws.d (fK ws.sk))]),(41,.reg 94 3 (.fo (addN t.2.1 t.2.2.2.1 t.2.2.1 (t.2.2.2.2.1,t.2.2.2.2.2)).1 (fS (addN t.2.1 t.2.2.2.1 t.2.2.1 (t.2.2.2.2.1,t.2.2.2.2.2)).2)))]⟩) else none)))]) ⟨?_,trivial⟩ p S hp;dsimp only;refine yQ (T:=Tf) (o:=(orCa ws k q)) (f:=36) (LO:=qZ []) (p:=[0,1,1,1,1,0,0,1,1,0,0,1,0,1,1,1,1]) yV ?_;intro t K r hr;obtain ⟨hg,hr⟩:=qY hr
 skip
 exact (lpCb K ws k q t.1 t.2.1 t.2.2.1 t.2.2.2.1 t.2.2.2.2.1 t.2.2.2.2.2 (vYK hg).1 (vYK hg).2).trans hr
noncomputable def hCa (ws:Wsp) (k:Nat) (q:Nat→Int) (i:Int) (r:Nat) (g:Nat→Shp):St:=⟨[(2,.p 2 0),(3,.p 3 0),(4,.p 4 0),(7,.p 7 0),(48,.v (.lf ws.no (fO ws.ob))),(49,.v (.n .i64 (ws.no:Int))),(50,.v (.n .i64 i))],[(2,.blk [.v (.lf ws.n (fJ ws.js)),.v (.lf ws.m (fM ws.ms)),.v (.lf ws.c (fS ws.sh)),.v (.lf ws.d (fK ws.sk)),.v (.lf ws.no (fO ws.ob)),.v (.lf ws.np (fZ ws.pl)),.v (.lf ws.nh (fH ws.hd)),.v (.lf ws.ng (fG ws.gr)),.v (.n .i64 ws.slack)]),(3,.blk [.v (.lf k (fQ q))]),(4,.blk [.nl,.nl,.nl,.nl]),(7,.blk [.v (.lf ws.n (fJ ws.js)),.v (.lf ws.m (fM ws.ms)),.o 41,.v (.lf ws.d (fK ws.sk))]),(41,.reg 94 3 (.fo r (fS g)))]⟩
set_option maxRecDepth 100000 in
theorem rdCa (G:St→Option (Ret × Mem)) (K:Cont) (ws:Wsp) (k:Nat) (q:Nat→Int) (i:Int) (r:Nat) (g:Nat→Shp):yJ 60 (cxS Tf (orCa ws k q) 60 36 (ntmF Tf 36)) (evX Tf (orCa ws k q) 60 36 (ntmF Tf 36)) (qZ [([0,1,1,1,1,0,0,1,1,0,0,1,0,1,1,1,1],sumF (fun t:Int × Int × Nat × (Nat→Shp) × Nat × (Nat→Shp)=>(hCb ws k q t.1 t.2.1 t.2.2.1 t.2.2.2.1 0 t.2.2.2.2.1 (fS t.2.2.2.2.2))) (fun σ=>(slI σ 50,slI σ 10,lfN σ 85,slFS σ 85,rgN σ 41,unFS (rgF σ 41))) (fun t K=>(bif (decide (t.2.2.1≤50∧t.2.2.2.2.1≤900000)) then (K (.exit 2) ⟨[(2,.p 2 0),(3,.p 3 0),(4,.p 4 0),(7,.p 7 0),(48,.v (.lf ws.no (fO ws.ob))),(49,.v (.n .i64 (ws.no:Int))),(50,.v (.n .i64 t.1))],[(2,.blk [.v (.lf ws.n (fJ ws.js)),.v (.lf ws.m (fM ws.ms)),.v (.lf ws.c (fS ws.sh)),.v (.lf ws.d (fK ws.sk)),.v (.lf ws.no (fO ws.ob)),.v (.lf ws.np (fZ ws.pl)),.v (.lf ws.nh (fH ws.hd)),.v (.lf ws.ng (fG ws.gr)),.v (.n .i64 ws.slack)]),(3,.blk [.v (.lf k (fQ q))]),(4,.blk [.nl,.nl,.nl,.nl]),(7,.blk [.v (.lf ws.n (fJ ws.js)),.v (.lf ws.m (fM ws.ms)),.o 41,.v (.lf ws.d (fK ws.sk))]),(41,.reg 94 3 (.fo (addN t.2.1 t.2.2.2.1 t.2.2.1 (t.2.2.2.2.1,t.2.2.2.2.2)).1 (fS (addN t.2.1 t.2.2.2.1 t.2.2.1 (t.2.2.2.2.1,t.2.2.2.2.2)).2)))]⟩) else none)))]) (qQ Tf 36 [0,1,0,1,1,1,1]) [0,1,0,1,1,1,1] (Tf.hint 36 (qJ (qQ Tf 36 [0,1,0,1,1,1,1]))) K G (hCa ws k q i r g) =
 (bif (decide (i < (ws.no:Int))) then (bif (inB i ws.no) then (bif (inB i k) then (bif (decide (0≤(q (i).toNat))) then (bif (inB (q (i).toNat) ws.np) then (bif (gF1 cpl epl (((ws.ob (i).toNat).ns),((ws.ob (i).toNat).shs),(ws.pl ((q (i).toNat)).toNat))) then (bif (gSt (hCb ws k q i (-1) ((ws.ob (i).toNat).ns) (fun v=>(sftL (ws.pl ((q (i).toNat)).toNat) (((ws.ob (i).toNat).shs) v))) 0 r (fS g)) (hCb ws k q i (-1) ((ws.ob (i).toNat).ns) (fun v=>(sftL (ws.pl ((q (i).toNat)).toNat) (((ws.ob (i).toNat).shs) v))) 0 r (fS g))) then (bif (decide (((ws.ob (i).toNat).ns)≤50∧r≤900000)) then (G (hCa ws k q (vYX .i64 (i + 1)) (addN (-1) (fun v=>(sftL (ws.pl ((q (i).toNat)).toNat) (((ws.ob (i).toNat).shs) v))) ((ws.ob (i).toNat).ns) (r,g)).1 ((addN (-1) (fun v=>(sftL (ws.pl ((q (i).toNat)).toNat) (((ws.ob (i).toNat).shs) v))) ((ws.ob (i).toNat).ns) (r,g)).2)))
 else none)
 else none)
 else none)
 else none)
 else (bif (inB (vYX .i64 ((-1) - (q (i).toNat))) ws.nh) then (bif (inB (vYX .i64 ((-1) - (q (i).toNat))) ws.nh) then (bif (gF1 cpl epl (((ws.ob (i).toNat).ns),((ws.ob (i).toNat).shs),((ws.hd ((vYX .i64 ((-1) - (q (i).toNat)))).toNat).off))) then (bif (gSt (hCb ws k q i ((ws.hd ((vYX .i64 ((-1) - (q (i).toNat)))).toNat).link) ((ws.ob (i).toNat).ns) (fun v=>(sftL ((ws.hd ((vYX .i64 ((-1) - (q (i).toNat)))).toNat).off) (((ws.ob (i).toNat).shs) v))) 0 r (fS g)) (hCb ws k q i ((ws.hd ((vYX .i64 ((-1) - (q (i).toNat)))).toNat).link) ((ws.ob (i).toNat).ns) (fun v=>(sftL ((ws.hd ((vYX .i64 ((-1) - (q (i).toNat)))).toNat).off) (((ws.ob (i).toNat).shs) v))) 0 r (fS g))) then (bif (decide (((ws.ob (i).toNat).ns)≤50∧r≤900000)) then (G (hCa ws k q (vYX .i64 (i + 1)) (addN ((ws.hd ((vYX .i64 ((-1) - (q (i).toNat)))).toNat).link) (fun v=>(sftL ((ws.hd ((vYX .i64 ((-1) - (q (i).toNat)))).toNat).off) (((ws.ob (i).toNat).shs) v))) ((ws.ob (i).toNat).ns) (r,g)).1 ((addN ((ws.hd ((vYX .i64 ((-1) - (q (i).toNat)))).toNat).link) (fun v=>(sftL ((ws.hd ((vYX .i64 ((-1) - (q (i).toNat)))).toNat).off) (((ws.ob (i).toNat).shs) v))) ((ws.ob (i).toNat).ns) (r,g)).2)))
 else none)
 else none)
 else none)
 else none)
 else none))
 else none)
 else none)
 else (K (.exit 0) ⟨[(4,.p 4 0),(7,.p 7 0)],[(4,.blk [.nl,.nl,.nl,.nl]),(7,.blk [.v (.lf ws.n (fJ ws.js)),.v (.lf ws.m (fM ws.ms)),.o 41,.v (.lf ws.d (fK ws.sk))]),(41,.reg 94 3 (.fo r (fS g)))]⟩)):=by kernel_rfl
def scN (ws:Wsp) (q:Nat→Int) (i:Nat) (t:Nat × (Nat→Shp)):Nat × (Nat→Shp):=bif decide (0≤q i) then addN (-1) (fun v=>(sftL (ws.pl (q i).toNat) ((ws.ob i).shs v))) (ws.ob i).ns t else addN (ws.hd (vYX .i64 ((-1) - (q i))).toNat).link (fun v=>(sftL (ws.hd (vYX .i64 ((-1) - (q i))).toNat).off ((ws.ob i).shs v))) (ws.ob i).ns t
def scS (ws:Wsp) (q:Nat→Int) (t:Nat × (Nat→Shp)):Nat × (Nat→Shp):=qYZ (scN ws q) ws.no 0 t
def sumN (f:Nat→Nat):Nat→Nat
 | 0=>0
 | i + 1=>sumN f i + f i
theorem yHV (f:Nat→Nat) {i n:Nat} (_:i < n):f i≤sumN f n:=by
 induction n with
 | zero=>omega
 | succ n ih =>
  unfold sumN;by_cases e:i=n
  ·subst e; omega
  ·have:=ih (by omega); omega
theorem zHC (f:Nat→Nat) (b:Nat):∀ n,(∀ i,i < n→f i≤b)→sumN f n≤n * b
 | 0,_=>Nat.zero_le _
 | n + 1,h=>by
  have h1:=zHC f b n fun i hi=>h i (by omega)
  have h2:=h n (by omega);unfold sumN;rw [Nat.add_mul]; omega
theorem zUV {ws:Wsp} (ho:okW ws) (hc:ws.c≤24) (hn:ws.no≤6):∀ i,i≤ws.no→cntF ws i=((ws.c + sumN (fun j=>(ws.ob j).ns) i:Nat):Int)
 | 0,_=>rfl
 | i + 1,hi=>by
  have ih:=zUV ho hc hn i (by omega);have hb:=zHC (fun j=>(ws.ob j).ns) 8796093021952 i fun j hj=>ho j (by omega)
  have h1:=ho i (by omega);have hi2:i * 8796093021952≤6 * 8796093021952:=Nat.mul_le_mul_right _ (by omega);show vYX .i64 (cntF ws i + ((ws.ob i).ns:Int))=_;rw [ih];show _=((ws.c + (sumN (fun j=>(ws.ob j).ns) i + (ws.ob i).ns):Nat):Int);have hb':sumN (fun j=>(ws.ob j).ns) i≤i * 8796093021952:=hb;rw [zU (by omega)];omega
theorem yXI {ws:Wsp} (h:wErr ws=0) (ho:okW ws):ws.c + sumN (fun j=>(ws.ob j).ns) ws.no≤24∧∀ i,i < ws.no→((1≤(ws.ob i).ns∧(ws.ob i).ns≤24)∧∀ v,v < (ws.ob i).ns→sOk ((ws.ob i).shs v)=true):=by
 obtain ⟨h1,h2,h3,h4⟩:=qZY h;have hc:=(qZQ h1).2.1;have hn:=(zHY h2).1;rw [zUV ho hc hn ws.no (Nat.le_refl _)] at h4;refine ⟨by omega,fun i hi => ?_⟩;have h5:=yHV (fun j=>(ws.ob j).ns) hi;have h6:=allN_iff.1 h3 i (Nat.zero_le _) (by omega);unfold obG soOk at h6;simp only [vQJ,decide_eq_true_eq] at h6;refine ⟨⟨by omega,by have h7:(ws.ob i).ns≤sumN (fun j=>(ws.ob j).ns) ws.no:=h5; omega⟩,fun v hv=>allN_iff.1 h6.2.2.1 v (Nat.zero_le _) (by omega)⟩
theorem zUI {s:Shp} (h:sOk s=true):shOk s=true∧s.link=0∧∀ v,v < s.np→zOk 2097152 (s.pts v)=true:=by
 unfold sOk at h;simp only [vQJ,decide_eq_true_eq] at h;exact ⟨h.1,h.2.1,fun v hv=>allN_iff.1 h.2.2 v (Nat.zero_le _) (by omega)⟩
theorem yHQ {ws:Wsp} (h:wErr ws=0) (ho:okW ws) {i:Nat} (hi:i < ws.no) (b:Z3):cpl ((ws.ob i).ns,(ws.ob i).shs,b):=by
 obtain ⟨h1,h2⟩:=(yXI h ho).2 i hi;exact ⟨by omega,fun v hv=>by have:=qHB (zUI (h2 v hv)).1; omega⟩
theorem zKZ {ws:Wsp} {k:Nat} {q:Nat→Int} (h:vlB ws k q=true):wErr ws=0∧k=ws.no∧∀ i,i < k → -(ws.nh:Int)≤q i∧q i < (ws.np:Int):=by
 unfold vlB at h;simp only [vQJ,decide_eq_true_eq] at h;obtain ⟨h1,h2,h3⟩:=h;have hn:=zHY (qZY h1).2.1;refine ⟨h1,by omega,fun i hi => ?_⟩;have h4:=allN_iff.1 h3 i (Nat.zero_le _) (by omega);unfold mdG inM at h4;simp only [vQJ,Bool.not_eq_true',decide_eq_false_iff_not] at h4;have e:vYX .i64 (0 - (ws.nh:Int)) = -(ws.nh:Int):=by rw [zU (by omega)]; omega
 rw [e] at h4;omega
theorem jVG {x:Int} {n:Nat} (_: -(n:Int)≤x) (_:x < 0) (_:n≤3):vYX .i64 ((-1) - x) = -1 - x∧inB (vYX .i64 ((-1) - x)) n=true:=by
 have e:vYX .i64 ((-1) - x) = -1 - x:=zU (by omega);exact ⟨e,by rw [e]; exact yGE (by omega)⟩
theorem jUH (ws:Wsp) (q:Nat→Int) (i:Nat) (t:Nat × (Nat→Shp)):(scN ws q i t).1=t.1 + (ws.ob i).ns:=by
 unfold scN;cases decide (0≤q i) with
 | true=>exact yHY _ _ _ t
 | false=>exact yHY _ _ _ t
theorem lpCa (K:Cont) (ws:Wsp) (k:Nat) (q:Nat→Int) (r:Nat) (g:Nat→Shp) (ho:okW ws) (hv:vlB ws k q=true) (_:r≤100):LFX 60 (cxS Tf (orCa ws k q) 60 36 (ntmF Tf 36)) (evX Tf (orCa ws k q) 60 36 (ntmF Tf 36)) (qZ [([0,1,1,1,1,0,0,1,1,0,0,1,0,1,1,1,1],sumF (fun t:Int × Int × Nat × (Nat→Shp) × Nat × (Nat→Shp)=>(hCb ws k q t.1 t.2.1 t.2.2.1 t.2.2.2.1 0 t.2.2.2.2.1 (fS t.2.2.2.2.2))) (fun σ=>(slI σ 50,slI σ 10,lfN σ 85,slFS σ 85,rgN σ 41,unFS (rgF σ 41))) (fun t K=>(bif (decide (t.2.2.1≤50∧t.2.2.2.2.1≤900000)) then (K (.exit 2) ⟨[(2,.p 2 0),(3,.p 3 0),(4,.p 4 0),(7,.p 7 0),(48,.v (.lf ws.no (fO ws.ob))),(49,.v (.n .i64 (ws.no:Int))),(50,.v (.n .i64 t.1))],[(2,.blk [.v (.lf ws.n (fJ ws.js)),.v (.lf ws.m (fM ws.ms)),.v (.lf ws.c (fS ws.sh)),.v (.lf ws.d (fK ws.sk)),.v (.lf ws.no (fO ws.ob)),.v (.lf ws.np (fZ ws.pl)),.v (.lf ws.nh (fH ws.hd)),.v (.lf ws.ng (fG ws.gr)),.v (.n .i64 ws.slack)]),(3,.blk [.v (.lf k (fQ q))]),(4,.blk [.nl,.nl,.nl,.nl]),(7,.blk [.v (.lf ws.n (fJ ws.js)),.v (.lf ws.m (fM ws.ms)),.o 41,.v (.lf ws.d (fK ws.sk))]),(41,.reg 94 3 (.fo (addN t.2.1 t.2.2.2.1 t.2.2.1 (t.2.2.2.2.1,t.2.2.2.2.2)).1 (fS (addN t.2.1 t.2.2.2.1 t.2.2.1 (t.2.2.2.2.1,t.2.2.2.2.2)).2)))]⟩) else none)))]) (qQ Tf 36 [0,1,0,1,1,1,1]) [0,1,0,1,1,1,1] (Tf.hint 36 (qJ (qQ Tf 36 [0,1,0,1,1,1,1]))) K 60 (hCa ws k q 0 r g)=(K (.exit 0) ⟨[(4,.p 4 0),(7,.p 7 0)],[(4,.blk [.nl,.nl,.nl,.nl]),(7,.blk [.v (.lf ws.n (fJ ws.js)),.v (.lf ws.m (fM ws.ms)),.o 41,.v (.lf ws.d (fK ws.sk))]),(41,.reg 94 3 (.fo (scS ws q (r,g)).1 (fS (scS ws q (r,g)).2)))]⟩):=by
 obtain ⟨w0,hk,hq⟩:=zKZ hv;have hnb:=zHY (qZY w0).2.1;refine (jJ (L:=LFX 60 (cxS Tf (orCa ws k q) 60 36 (ntmF Tf 36)) (evX Tf (orCa ws k q) 60 36 (ntmF Tf 36)) (qZ [([0,1,1,1,1,0,0,1,1,0,0,1,0,1,1,1,1],sumF (fun t:Int × Int × Nat × (Nat→Shp) × Nat × (Nat→Shp)=>(hCb ws k q t.1 t.2.1 t.2.2.1 t.2.2.2.1 0 t.2.2.2.2.1 (fS t.2.2.2.2.2))) (fun σ=>(slI σ 50,slI σ 10,lfN σ 85,slFS σ 85,rgN σ 41,unFS (rgF σ 41))) (fun t K=>(bif (decide (t.2.2.1≤50∧t.2.2.2.2.1≤900000)) then (K (.exit 2) ⟨[(2,.p 2 0),(3,.p 3 0),(4,.p 4 0),(7,.p 7 0),(48,.v (.lf ws.no (fO ws.ob))),(49,.v (.n .i64 (ws.no:Int))),(50,.v (.n .i64 t.1))],[(2,.blk [.v (.lf ws.n (fJ ws.js)),.v (.lf ws.m (fM ws.ms)),.v (.lf ws.c (fS ws.sh)),.v (.lf ws.d (fK ws.sk)),.v (.lf ws.no (fO ws.ob)),.v (.lf ws.np (fZ ws.pl)),.v (.lf ws.nh (fH ws.hd)),.v (.lf ws.ng (fG ws.gr)),.v (.n .i64 ws.slack)]),(3,.blk [.v (.lf k (fQ q))]),(4,.blk [.nl,.nl,.nl,.nl]),(7,.blk [.v (.lf ws.n (fJ ws.js)),.v (.lf ws.m (fM ws.ms)),.o 41,.v (.lf ws.d (fK ws.sk))]),(41,.reg 94 3 (.fo (addN t.2.1 t.2.2.2.1 t.2.2.1 (t.2.2.2.2.1,t.2.2.2.2.2)).1 (fS (addN t.2.1 t.2.2.2.1 t.2.2.1 (t.2.2.2.2.1,t.2.2.2.2.2)).2)))]⟩) else none)))]) (qQ Tf 36 [0,1,0,1,1,1,1]) [0,1,0,1,1,1,1] (Tf.hint 36 (qJ (qQ Tf 36 [0,1,0,1,1,1,1]))) K) (stp:=yJ 60 (cxS Tf (orCa ws k q) 60 36 (ntmF Tf 36)) (evX Tf (orCa ws k q) 60 36 (ntmF Tf 36)) (qZ [([0,1,1,1,1,0,0,1,1,0,0,1,0,1,1,1,1],sumF (fun t:Int × Int × Nat × (Nat→Shp) × Nat × (Nat→Shp)=>(hCb ws k q t.1 t.2.1 t.2.2.1 t.2.2.2.1 0 t.2.2.2.2.1 (fS t.2.2.2.2.2))) (fun σ=>(slI σ 50,slI σ 10,lfN σ 85,slFS σ 85,rgN σ 41,unFS (rgF σ 41))) (fun t K=>(bif (decide (t.2.2.1≤50∧t.2.2.2.2.1≤900000)) then (K (.exit 2) ⟨[(2,.p 2 0),(3,.p 3 0),(4,.p 4 0),(7,.p 7 0),(48,.v (.lf ws.no (fO ws.ob))),(49,.v (.n .i64 (ws.no:Int))),(50,.v (.n .i64 t.1))],[(2,.blk [.v (.lf ws.n (fJ ws.js)),.v (.lf ws.m (fM ws.ms)),.v (.lf ws.c (fS ws.sh)),.v (.lf ws.d (fK ws.sk)),.v (.lf ws.no (fO ws.ob)),.v (.lf ws.np (fZ ws.pl)),.v (.lf ws.nh (fH ws.hd)),.v (.lf ws.ng (fG ws.gr)),.v (.n .i64 ws.slack)]),(3,.blk [.v (.lf k (fQ q))]),(4,.blk [.nl,.nl,.nl,.nl]),(7,.blk [.v (.lf ws.n (fJ ws.js)),.v (.lf ws.m (fM ws.ms)),.o 41,.v (.lf ws.d (fK ws.sk))]),(41,.reg 94 3 (.fo (addN t.2.1 t.2.2.2.1 t.2.2.1 (t.2.2.2.2.1,t.2.2.2.2.2)).1 (fS (addN t.2.1 t.2.2.2.1 t.2.2.1 (t.2.2.2.2.1,t.2.2.2.2.2)).2)))]⟩) else none)))]) (qQ Tf 36 [0,1,0,1,1,1,1]) [0,1,0,1,1,1,1] (Tf.hint 36 (qJ (qQ Tf 36 [0,1,0,1,1,1,1]))) K) (fun _ _=>rfl) (fun (i:Nat) (t:Nat × (Nat→Shp))=>hCa ws k q (i:Int) t.1 t.2) (fun i t=>t.1≤100 + 24 * i) (fun _ _=>true) (scN ws q) (c:=ws.no) (fun t=>(K (.exit 0) ⟨[(4,.p 4 0),(7,.p 7 0)],[(4,.blk [.nl,.nl,.nl,.nl]),(7,.blk [.v (.lf ws.n (fJ ws.js)),.v (.lf ws.m (fM ws.ms)),.o 41,.v (.lf ws.d (fK ws.sk))]),(41,.reg 94 3 (.fo t.1 (fS t.2)))]⟩)) (fun _ _=>none) (fun G i t hi hiv => ?_) (fun i t hi hiv _ => ?_) (fun G t hiv => ?_) ws.no 0 60 (r,g) (by omega) (by omega) (by show r≤_; omega)).trans (qQK ws.no 0 _)
 ·refine (rdCa G K ws k q i t.1 t.2).trans ?_;have h1:=(yXI w0 ho).2 i hi;have h2:=hq i (by omega);simp only [vYJ (show (i:Int) < (ws.no:Int) by omega),jZ (show i < 1000000 by omega),zJ hi,zJ (show i < k by omega),toN,vYQ];unfold scN;by_cases h0:0≤q i
  ·simp only [vYJ h0,vYQ,yGE (show 0≤q i∧q i < (ws.np:Int) from ⟨h0,h2.2⟩),jH (C:=cpl) (t:=((ws.ob i).ns,(ws.ob i).shs,ws.pl (q i).toNat)) (yHQ w0 ho hi _),zQ,vYJ (show (ws.ob i).ns≤50∧t.1≤900000 by omega)]
  ·obtain ⟨e1,e2⟩:=jVG h2.1 (show q i < 0 by omega) hnb.2.2.1;simp only [vYY h0,vYQ,vYZ,e2,jH (C:=cpl) (t:=((ws.ob i).ns,(ws.ob i).shs,(ws.hd (vYX .i64 ((-1) - (q i))).toNat).off)) (yHQ w0 ho hi _),zQ,vYJ (show (ws.ob i).ns≤50∧t.1≤900000 by omega)]
 ·rw [jUH];have h1:=(yXI w0 ho).2 i hi;omega
 ·refine (rdCa G K ws k q ws.no t.1 t.2).trans ?_;rw [vYY (show ¬ (ws.no:Int) < (ws.no:Int) by omega)];rfl
theorem yGG {js:Nat→J} {ms:Nat→Ms} {n m:Nat} (h:rErr js ms n m=0):m≤32:=by
 unfold rErr at h;obtain ⟨_,h⟩:=bz h (by decide);obtain ⟨_,h⟩:=bz h (by decide);by_cases h1:jE js n n 0=0
 ·rw [vYJ h1,vYQ] at h;obtain ⟨h2,_⟩:=bz h (by decide)
  have:=vYU h2
  omega
 ·rw [vYY h1,vYZ] at h; exact absurd h h1
theorem yGV {js:Nat→J} {ms:Nat→Ms} {sh:Nat→Shp} {sk:Nat→Skp} {n m c d:Nat} (h:sErr js ms sh sk n m c d=0):d≤64:=by
 have hs:=qZQ h;unfold sErr at h;rw [vYJ hs.1,vYQ,vYY (show ¬ 24 < (c:Int) by have:=hs.2.1; omega),vYZ,show shG sh n c=true from allN_iff.2 fun j _ hj=>vYJ (hs.2.2 j (by omega)),vYQ] at h;obtain ⟨h2,_⟩:=bz h (by decide)
 have:=vYU h2
 omega
noncomputable def zXB (ws:Wsp) (k:Nat) (q:Nat→Int):List (List Nat × yU):=[([0,1,0,1,1,1,1],sumF (fun _:Unit=>(hCa ws k q 0 ws.c (fun v=>(sftL (Z3.mk 0 0 0) (ws.sh v))))) (fun _=>()) (fun _ K=>(bif gP (okW ws∧vlB ws k q=true∧ws.c≤100) then (K (.exit 0) ⟨[(4,.p 4 0),(7,.p 7 0)],[(4,.blk [.nl,.nl,.nl,.nl]),(7,.blk [.v (.lf ws.n (fJ ws.js)),.v (.lf ws.m (fM ws.ms)),.o 41,.v (.lf ws.d (fK ws.sk))]),(41,.reg 94 3 (.fo (scS ws q (ws.c,(fun v=>(sftL (Z3.mk 0 0 0) (ws.sh v))))).1 (fS (scS ws q (ws.c,(fun v=>(sftL (Z3.mk 0 0 0) (ws.sh v))))).2)))]⟩) else none)))]
set_option maxRecDepth 100000 in
theorem jUF (ws:Wsp) (k:Nat) (q:Nat→Int):kH Tf (orCa ws k q) (qZ (zXB ws k q)) 60 36 [.a (wP ws),.a [.lf k (fQ q)]] =
 (bif (gF1 cgk egk ws) then (bif (!decide ((wErr ws)=0)) then some (.v (.t [.a [.l [],.l [],.l [],.l []],.n .i64 (wErr ws)]),[])
 else (bif (gF1 cvl evl (ws,k,q)) then (bif (vlB ws k q) then (bif (gF1 ccvj ecvj (ws.n,ws.js)) then (bif (gF1 ccvm ecvm (ws.m,ws.ms)) then (bif (gF1 cpl epl (ws.c,ws.sh,(Z3.mk 0 0 0))) then (bif (gF1 ccvk ecvk (ws.d,ws.sk)) then (bif (gSt (hCa ws k q 0 ws.c (fun v=>(sftL (Z3.mk 0 0 0) (ws.sh v)))) (hCa ws k q 0 ws.c (fun v=>(sftL (Z3.mk 0 0 0) (ws.sh v))))) then (bif gP (okW ws∧vlB ws k q=true∧ws.c≤100) then some (.v (.t [.a [.lf ws.n (fJ ws.js),.lf ws.m (fM ws.ms),.lf (scS ws q (ws.c,(fun v=>(sftL (Z3.mk 0 0 0) (ws.sh v))))).1 (fS ((scS ws q (ws.c,(fun v=>(sftL (Z3.mk 0 0 0) (ws.sh v))))).2)),.lf ws.d (fK ws.sk)],.n .i64 0]),[])
 else none)
 else none)
 else none)
 else none)
 else none)
 else none)
 else some (.v (.t [.a [.l [],.l [],.l [],.l []],.n .i64 3403]),[]))
 else none))
 else none):=by kernel_rfl
theorem yKU (ws:Wsp) (k:Nat) (q:Nat→Int) (ho:okW ws):qH Tryz.prog 36 [.a (wP ws),.a [.lf k (fQ q)]] (.v (bif decide (wErr ws=0) then (bif vlB ws k q then .t [.a [.lf ws.n (fJ ws.js),.lf ws.m (fM ws.ms),.lf (scS ws q (ws.c,(fun v=>(sftL (Z3.mk 0 0 0) (ws.sh v))))).1 (fS (scS ws q (ws.c,(fun v=>(sftL (Z3.mk 0 0 0) (ws.sh v))))).2),.lf ws.d (fK ws.sk)],.n .i64 0] else .t [.a [.l [],.l [],.l [],.l []],.n .i64 3403]) else .t [.a [.l [],.l [],.l [],.l []],.n .i64 (wErr ws)])):=by
 refine qX (N:=60) (LO:=qZ (zXB ws k q)) yG qG (yH (l:=[(19,o_gk),(34,o_vl),(86,o_pl),(84,jJD),(85,jJB),(87,jJC)]) (m:=[]) ⟨jWW,kZK,kZW,jWA,jWG,jWH,trivial⟩ trivial) (fun p S hp => ?_) ?_
 ·refine qK (L:=qQ Tf 36) (l:=(zXB ws k q)) (show AllP _ (zXB ws k q) from ⟨?_,trivial⟩) p S hp
  ·dsimp only;refine yQ (T:=Tf) (o:=(orCa ws k q)) (f:=36) (LO:=(qZ [([0,1,1,1,1,0,0,1,1,0,0,1,0,1,1,1,1],sumF (fun t:Int × Int × Nat × (Nat→Shp) × Nat × (Nat→Shp)=>(hCb ws k q t.1 t.2.1 t.2.2.1 t.2.2.2.1 0 t.2.2.2.2.1 (fS t.2.2.2.2.2))) (fun σ=>(slI σ 50,slI σ 10,lfN σ 85,slFS σ 85,rgN σ 41,unFS (rgF σ 41))) (fun t K=>(bif (decide (t.2.2.1≤50∧t.2.2.2.2.1≤900000)) then (K (.exit 2) ⟨[(2,.p 2 0),(3,.p 3 0),(4,.p 4 0),(7,.p 7 0),(48,.v (.lf ws.no (fO ws.ob))),(49,.v (.n .i64 (ws.no:Int))),(50,.v (.n .i64 t.1))],[(2,.blk [.v (.lf ws.n (fJ ws.js)),.v (.lf ws.m (fM ws.ms)),.v (.lf ws.c (fS ws.sh)),.v (.lf ws.d (fK ws.sk)),.v (.lf ws.no (fO ws.ob)),.v (.lf ws.np (fZ ws.pl)),.v (.lf ws.nh (fH ws.hd)),.v (.lf ws.ng (fG ws.gr)),.v (.n .i64 ws.slack)]),(3,.blk [.v (.lf k (fQ q))]),(4,.blk [.nl,.nl,.nl,.nl]),(7,.blk [.v (.lf ws.n (fJ ws.js)),.v (.lf ws.m (fM ws.ms)),.o 41,.v (.lf ws.d (fK ws.sk))]),(41,.reg 94 3 (.fo (addN t.2.1 t.2.2.2.1 t.2.2.1 (t.2.2.2.2.1,t.2.2.2.2.2)).1 (fS (addN t.2.1 t.2.2.2.1 t.2.2.1 (t.2.2.2.2.1,t.2.2.2.2.2)).2)))]⟩) else none)))])) (p:=[0,1,0,1,1,1,1]) (okCb ws k q) ?_;intro t K r hr;obtain ⟨hg,hr⟩:=qY hr
   skip
   exact (lpCa K ws k q ws.c (fun v=>(sftL (Z3.mk 0 0 0) (ws.sh v))) (zX hg).1 (zX hg).2.1 (zX hg).2.2).trans hr
 ·refine (jUF ws k q).trans ?_;rw [jH (C:=cgk) (t:=ws) ho];by_cases h0:wErr ws=0
  ·rw [vYJ h0,jH (C:=cvl) (t:=(ws,k,q)) ho];cases hv:vlB ws k q with
   | false=>rfl
   | true =>
    obtain ⟨w1,w2,w3,w4⟩:=qZY h0;obtain ⟨s1,s2,s3⟩:=qZQ w1;have hn:=yZQ s1;have hm:=yGG s1;have hd:=yGV w1;have hP:gP (okW ws∧True∧ws.c≤100)=true:=qYH ⟨ho,trivial,by omega⟩;simp only [jH (C:=ccvj) (t:=(ws.n,ws.js)) (show ws.n≤70 by omega),jH (C:=ccvm) (t:=(ws.m,ws.ms)) (show ws.m≤70 by omega),jH (C:=ccvk) (t:=(ws.d,ws.sk)) (show ws.d≤70 by omega),jH (C:=cpl) (t:=(ws.c,ws.sh,Z3.mk 0 0 0)) (show cpl (ws.c,ws.sh,Z3.mk 0 0 0) from ⟨by omega,fun i hi=>by have:=qHB (qHC (s3 i hi)).2; omega⟩),zQ,hP,vYQ,vYZ,Bool.not_true]
    all_goals rfl
  ·rw [vYY h0]; rfl
end Go.Proofs.YtmeldddgjfocdaaGreat.Hi
namespace Go.Proofs.YtmeldddgjfocdaaGreat.Hj
open Go.Rx Rt Go.Sx Go.RowKit Od Na Nb Nc Nx Nf Nl Nm Ga Gb Gc Gd Ge Gf Gg Ha Hb Hc Hd He Hf Hg Hh Hi
theorem jKK {τ:Type} {R:τ→τ→Prop} {nx:Nat→τ→τ} (h:∀ i s s',R s s'→R (nx i s) (nx i s')):∀ n p s s',R s s'→R (qYZ nx n p s) (qYZ nx n p s')
 | 0,_,_,_,hr=>hr
 | n + 1,p,s,s',hr=>jKK h n (p + 1) _ _ (h p s s' hr)
def AgS (t t':Nat × (Nat→Shp)):Prop:=t.1=t'.1∧∀ v,v < t.1→t.2 v=t'.2 v
theorem jKB {r:Nat} {g g':Nat→Shp} (s:Shp) (h:∀ v,v < r→g v=g' v):∀ v,v < r + 1→qKH g r s v=qKH g' r s v:=fun v hv=>by
 unfold qKH;by_cases e:v=r
 ·subst e; rw [show Nat.beq v v=true from Nat.beq_refl v]; rfl
 ·rw [qVD,vYY e]; exact h v (by omega)
theorem yHZ (l:Int) (hs:Nat→Shp) (n:Nat) {t t':Nat × (Nat→Shp)} (h:AgS t t'):AgS (addN l hs n t) (addN l hs n t'):=jKK (R:=AgS) (fun j s s' hr=>⟨congrArg (· + 1) hr.1,(by
 intro v hv;have h2:=jKB (lkS l (hs j)) hr.2 v hv;show qKH s.2 s.1 _ v=qKH s'.2 s'.1 _ v;rw [← hr.1]; exact h2)⟩) n 0 t t' h
theorem kKX (ws:Wsp) (q:Nat→Int) {t t':Nat × (Nat→Shp)} (h:AgS t t'):AgS (scS ws q t) (scS ws q t'):=jKK (R:=AgS) (fun i s s' hr=>by
 unfold scN;cases decide (0≤q i) with
 | true=>exact yHZ _ _ _ hr
 | false=>exact yHZ _ _ _ hr) ws.no 0 t t' h
theorem yUU {s:Shp} (h:shOk s=true):sftL (Z3.mk 0 0 0) s=s:=by
 have hp:qVL s=true:=by
  unfold shOk at h;rw [vQJ] at h;exact h.2
 have e:sft (Z3.mk 0 0 0) s.np s.pts=s.pts:=by
  funext v;by_cases hv:v < s.np
  ·have hz:=allN_iff.1 hp v (Nat.zero_le _) (by omega);unfold zOk at hz;simp only [vQJ,Bool.not_eq_true',decide_eq_false_iff_not] at hz;have hb:Nat.blt v s.np=true:=by rw [Nat.blt_eq]; exact hv
   unfold sft;simp only [hb,vYQ,Int.add_zero];rw [zU (by omega),zU (by omega),zU (by omega)]
  ·have hb:Nat.blt v s.np=false:=by rw [Bool.eq_false_iff,ne_eq,Nat.blt_eq]; exact hv
   unfold sft;simp only [hb,vYZ]
 unfold sftL sftS;rw [e]
def scR (ws:Wsp) (q:Nat→Int):Nat × (Nat→Shp):=scS ws q (ws.c,ws.sh)
def scE (ws:Wsp) (k:Nat) (q:Nat→Int):Int:=bif decide (wErr ws=0) then (bif vlB ws k q then 0 else 3403) else wErr ws
theorem jZX {ws:Wsp} (h:wErr ws=0) (q:Nat→Int):AgS (scS ws q (ws.c,fun v=>sftL (Z3.mk 0 0 0) (ws.sh v))) (scR ws q):=kKX ws q ⟨rfl,fun v hv=>yUU (qHC ((qZQ (qZY h).1).2.2 v hv)).2⟩
theorem jQQ (ws:Wsp) (k:Nat) (q:Nat→Int) (ho:okW ws):qH Tryz.prog 36 [.a (wP ws),.a [.lf k (fQ q)]] (.v (.t [.a [.lf (bif vlB ws k q then ws.n else 0) (fJ ws.js),.lf (bif vlB ws k q then ws.m else 0) (fM ws.ms),.lf (bif vlB ws k q then (scR ws q).1 else 0) (fS (scR ws q).2),.lf (bif vlB ws k q then ws.d else 0) (fK ws.sk)],.n .i64 (scE ws k q)])):=by
 have h1:=yKU ws k q ho;unfold scE;by_cases h0:wErr ws=0
 ·rw [vYJ h0] at h1 ⊢;cases hv:vlB ws k q with
  | true =>
   rw [hv] at h1;have hs:=jZX h0 q;exact qJV (Same.t (xs:=[_,_]) ⟨Same.a (xs:=[_,_,_,_]) ⟨Same.refl _,Same.refl _,hs.1 ▸ yZF fun j hj=>congrArg sP (hs.2 j hj),Same.refl _,trivial⟩,Same.refl _,trivial⟩) h1
  | false =>
   rw [hv] at h1;exact qJV (Same.t (xs:=[_,_]) ⟨Same.a (xs:=[_,_,_,_]) ⟨Same.lf rfl,Same.lf rfl,Same.lf rfl,Same.lf rfl,trivial⟩,Same.refl _,trivial⟩) h1
 ·have hv:vlB ws k q=false:=by unfold vlB; rw [vYY h0]; rfl
  rw [vYY h0] at h1 ⊢;rw [hv];exact qJV (Same.t (xs:=[_,_]) ⟨Same.a (xs:=[_,_,_,_]) ⟨Same.lf rfl,Same.lf rfl,Same.lf rfl,Same.lf rfl,trivial⟩,Same.refl _,trivial⟩) h1
end Go.Proofs.YtmeldddgjfocdaaGreat.Hj

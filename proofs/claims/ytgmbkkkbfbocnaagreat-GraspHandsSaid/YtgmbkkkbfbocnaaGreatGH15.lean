/- Part 15 of the texts behind the last one: rules and contracts. No condition. -/
import Derived.Test.YtgmbkkkbfbocnaaGreatGH14
open Bool renaming and_eq_true → vQJ, and_self → vZJ, true_and → vZH
open Go.IntKind renaming wrap → vJJ
namespace Go.Proofs.YtgmbkkkbfbocnaaGreat.He
open Go.Rx Rt Go.Sx Go.RowKit Od Na Nb Nc Nx Nf Nl Nm Ga Gb Gc Gd Ge Gf Gg Ha Hb Hc Hd
def hasQ (q:Nat→Int) (k:Nat) (x:Int):Bool:=!allN (fun i:Nat => !decide (q i=x)) k 0
def ixQ (q:Nat→Int) (k:Nat) (x:Int):Int:=bif hasQ q k x then ((Rx.firstK (fun i:Nat => !decide (q i=x)) k 0:Nat):Int) else -1
theorem deq (a b:Int):decide (a=b)=decide (b=a):=by by_cases h:a=b <;> simp [h] <;> omega
theorem yJW {g:Nat→Bool}:∀ {k p:Nat},allN g k p=false→p≤Rx.firstK g k p∧Rx.firstK g k p < p + k∧g (Rx.firstK g k p)=false
 | 0,_,h=>by cases h
 | k + 1,p,h=>by
  unfold allN at h;unfold Rx.firstK;cases hp:g p with
  | true =>
   rw [hp,vZH] at h;obtain ⟨a,b,c⟩:=yJW (k:=k) (p:=p + 1) h;rw [vYV];exact ⟨by omega,by omega,c⟩
  | false=>rw [vYG]; exact ⟨Nat.le_refl _,by omega,hp⟩
theorem qVX {q:Nat→Int} {k:Nat} {x:Int} (h:hasQ q k x=true):∃ i,i < k∧ixQ q k x=(i:Int)∧q i=x:=by
 have h':allN (fun i:Nat => !decide (q i=x)) k 0=false:=by unfold hasQ at h; simpa using h
 obtain ⟨_,h2,h3⟩:=yJW h';exact ⟨Rx.firstK (fun i:Nat => !decide (q i=x)) k 0,by omega,by unfold ixQ; rw [h]; rfl,by simpa using h3⟩
theorem uKX {q:Nat→Int} {k:Nat} {x:Int}:decide (ixQ q k x < 0) = !hasQ q k x:=by
 cases h:hasQ q k x with
 | true=>obtain ⟨i,_,h2,_⟩:=qVX h; rw [h2,vYH (by omega)]; rfl
 | false=>unfold ixQ; rw [h]; rfl
theorem uKU {q:Nat→Int} {k:Nat} {x:Int}:decide (0≤ixQ q k x)=hasQ q k x:=by
 cases h:hasQ q k x with
 | true=>obtain ⟨i,_,h2,_⟩:=qVX h; rw [h2,vJQ (by omega)]
 | false=>unfold ixQ; rw [h]; rfl
noncomputable def orIq (k:Nat) (_:Nat→Int) (x:Int):OrS:=orS [] []
noncomputable def hIq (k:Nat) (q:Nat→Int) (x:Int) (i:Int):St:=⟨[(0,.v (.lf k (fQ q))),(1,.v (.n .i64 x)),(7,.v (.n .i64 (k:Int))),(8,.v (.n .i64 i))],[]⟩
set_option maxRecDepth 100000 in
theorem rdIq (G:St→Option (Ret × Mem)) (K:Cont) (k:Nat) (q:Nat→Int) (x:Int) (i:Int):kQ 60 (cxS Tf (orIq k q x) 60 142 (ntmF Tf 142)) (evX Tf (orIq k q x) 60 142 (ntmF Tf 142)) (qZ []) (qQ Tf 142 [0,1,0,1]) [0,1,0,1] (Tf.hint 142 (qJ (qQ Tf 142 [0,1,0,1]))) K G (hIq k q x i) =
 (bif (decide (i < (k:Int))) then (bif (inB i k) then (bif (decide (x=(q (i).toNat))) then (K .ret ⟨[(4,.v (.n .i64 i))],[]⟩)
 else (G (hIq k q x (vJJ .i64 (i + 1)))))
 else none)
 else (K (.exit 0) ⟨[],[]⟩)):=by kernel_rfl
theorem lpIq (K:Cont) (k:Nat) (q:Nat→Int) (x:Int) (_:k≤50):LFX 60 (cxS Tf (orIq k q x) 60 142 (ntmF Tf 142)) (evX Tf (orIq k q x) 60 142 (ntmF Tf 142)) (qZ []) (qQ Tf 142 [0,1,0,1]) [0,1,0,1] (Tf.hint 142 (qJ (qQ Tf 142 [0,1,0,1]))) K 60 (hIq k q x 0)=bif (allN (fun i:Nat => !decide (q i=x)) k 0) then (K (.exit 0) ⟨[],[]⟩) else (K .ret ⟨[(4,.v (.n .i64 ((Rx.firstK (fun i:Nat => !decide (q i=x)) k 0:Nat):Int)))],[]⟩):=by
 refine (uH (L:=LFX 60 (cxS Tf (orIq k q x) 60 142 (ntmF Tf 142)) (evX Tf (orIq k q x) 60 142 (ntmF Tf 142)) (qZ []) (qQ Tf 142 [0,1,0,1]) [0,1,0,1] (Tf.hint 142 (qJ (qQ Tf 142 [0,1,0,1]))) K) (stp:=kQ 60 (cxS Tf (orIq k q x) 60 142 (ntmF Tf 142)) (evX Tf (orIq k q x) 60 142 (ntmF Tf 142)) (qZ []) (qQ Tf 142 [0,1,0,1]) [0,1,0,1] (Tf.hint 142 (qJ (qQ Tf 142 [0,1,0,1]))) K) (fun _ _=>rfl) (fun (i:Nat) (_:Unit)=>hIq k q x (i:Int)) (fun _ _=>True) (fun (i:Nat) _ => !decide (q i=x)) (fun _ _=>()) (c:=k) (fun _=>(K (.exit 0) ⟨[],[]⟩)) (fun i _=>(K .ret ⟨[(4,.v (.n .i64 (i:Int)))],[]⟩)) (fun G i f hi _ => ?_) (fun _ _ _ _ _=>trivial) (fun G f _ => ?_) k 0 60 () (by omega) (by omega) trivial).trans ((jV _ _ _ _ _).trans (qQL _ _ _ _ _))
 ·refine (rdIq G K k q x i).trans ?_;rw [vJQ (show (i:Int) < (k:Int) by omega),uJ (by omega),yV (show i < k by omega),toN,deq x (q i)];cases decide (q i=x) <;> rfl
 ·refine (rdIq G K k q x k).trans ?_;rw [vYH (show ¬ (k:Int) < (k:Int) by omega)];rfl
noncomputable def kUZ (k:Nat) (q:Nat→Int) (x:Int):List (List Nat × jG):=[([0,1,0,1],sumF (fun _:Unit=>(hIq k q x 0)) (fun _=>()) (fun _ K=>(bif (decide (k≤50)) then (bif (allN (fun i:Nat => !decide (q i=x)) k 0) then (K (.exit 0) ⟨[],[]⟩) else (K .ret ⟨[(4,.v (.n .i64 ((Rx.firstK (fun i:Nat => !decide (q i=x)) k 0:Nat):Int)))],[]⟩)) else none)))]
set_option maxRecDepth 100000 in
theorem xWK (k:Nat) (q:Nat→Int) (x:Int):qYU Tf (orIq k q x) (qZ (kUZ k q x)) 60 142 [.lf k (fQ q),.n .i64 x] =
 (bif (gSt (hIq k q x 0) (hIq k q x 0)) then (bif (decide (k≤50)) then (bif (allN (fun i:Nat => !decide (q i=x)) k 0) then some (.v (.n .i64 (-1)),[])
 else some (.v (.n .i64 ((Rx.firstK (fun i:Nat => !decide (q i=x)) k 0:Nat):Int)),[]))
 else none)
 else none):=by kernel_rfl
theorem uQC (k:Nat) (q:Nat→Int) (x:Int) (hk:k≤50):yK Tryz.prog 142 [.lf k (fQ q),.n .i64 x] (.v (.n .i64 (ixQ q k x))):=by
 refine yQ (N:=60) (LO:=qZ (kUZ k q x)) kX zW (uK (l:=[]) (m:=[]) trivial trivial) (fun p S hp => ?_) ?_
 ·refine zG (L:=qQ Tf 142) (l:=(kUZ k q x)) (show AllP _ (kUZ k q x) from ⟨?_,trivial⟩) p S hp
  ·dsimp only;refine kZ (T:=Tf) (o:=(orIq k q x)) (f:=142) (LO:=qZ []) (p:=[0,1,0,1]) kW ?_;intro t K r hr;obtain ⟨hg,hr⟩:=qY hr;have hk:=vJZ hg;exact (lpIq K k q x hk).trans hr
 ·refine (xWK k q x).trans ?_;unfold ixQ hasQ;rw [yU,vJQ hk];cases allN (fun i:Nat => !decide (q i=x)) k 0 <;> rfl
def ciq:Nat × (Nat→Int) × Int→Prop:=fun t=>match t with | (k,_,_)=>k≤50
def eiq:Nat × (Nat→Int) × Int→List PV:=fun t=>match t with | (k,q,x)=>[.lf k (fQ q),.n .i64 x]
noncomputable def riq:Nat × (Nat→Int) × Int→Ret:=fun t=>match t with | (k,q,x)=>.v (.n .i64 (ixQ q k x))
def diq:List PV→Nat × (Nat→Int) × Int:=fun ps=>match ps with
 | [.lf k f,.n _ x]=>(k,unFQ f,x)
 | _=>(0,fun _=>0,0)
noncomputable def o_iq:List PV→Option (Bool × Ret):=o_fm diq ciq eiq riq
theorem xQK:zJ Tryz.prog 142 o_iq:=qYX fun t h=>by
 obtain ⟨k,q,x⟩:=t;exact uQC k q x h
noncomputable def xVA (k:Nat) (_:Nat→Int) (x:Int):OrS:=orS [(142,o_iq)] []
noncomputable def kUV (k:Nat) (_:Nat→Int) (x:Int):List (List Nat × jG):=[]
set_option maxRecDepth 100000 in
theorem xWB (k:Nat) (q:Nat→Int) (x:Int):qYU Tf (xVA k q x) (qZ (kUV k q x)) 60 112 [.lf k (fQ q),.n .i64 x] =
 (bif (gF1 ciq eiq (k,q,x)) then (bif (decide (0≤(ixQ q k x))) then some (.v (.b true),[])
 else some (.v (.b false),[]))
 else none):=by kernel_rfl
theorem uZY (k:Nat) (q:Nat→Int) (x:Int) (hk:k≤50):yK Tryz.prog 112 [.lf k (fQ q),.n .i64 x] (.v (.b (hasQ q k x))):=by
 refine yQ (N:=60) (LO:=qZ (kUV k q x)) kX zW (uK (l:=[(142,o_iq)]) (m:=[]) ⟨xQK,trivial⟩ trivial) (fun p S hp => ?_) ?_
 ·refine zG (L:=qQ Tf 112) (l:=(kUV k q x)) (show AllP _ (kUV k q x) from trivial) p S hp
 ·refine (xWB k q x).trans ?_;rw [kV (C:=ciq) (t:=(k,q,x)) hk,uKU];cases hasQ q k x <;> rfl
def cct:Nat × (Nat→Int) × Int→Prop:=fun t=>match t with | (k,_,_)=>k≤50
def ect:Nat × (Nat→Int) × Int→List PV:=fun t=>match t with | (k,q,x)=>[.lf k (fQ q),.n .i64 x]
noncomputable def rct:Nat × (Nat→Int) × Int→Ret:=fun t=>match t with | (k,q,x)=>.v (.b (hasQ q k x))
def dct:List PV→Nat × (Nat→Int) × Int:=fun ps=>match ps with
 | [.lf k f,.n _ x]=>(k,unFQ f,x)
 | _=>(0,fun _=>0,0)
noncomputable def o_ct:List PV→Option (Bool × Ret):=o_fm dct cct ect rct
theorem xQH:zJ Tryz.prog 112 o_ct:=qYX fun t h=>by
 obtain ⟨k,q,x⟩:=t;exact uZY k q x h
noncomputable def uHY (n:Nat) (_:Nat→Int):OrS:=orS [] []
noncomputable def yGE (n:Nat) (_:Nat→Int):List (List Nat × jG):=[]
set_option maxRecDepth 100000 in
theorem uGC (n:Nat) (q:Nat→Int):qYU Tf (uHY n q) (qZ (yGE n q)) 60 143 [.lf (n + 1) (fQ q)] =
 (bif (decide (0 + (n + 1)≤1000000)) then some (.ow 3 1 (.fo (n + 1) (fQ q)),[])
 else none):=by kernel_rfl
theorem kQF (n:Nat) (q:Nat→Int) (_:n + 1≤50):yK Tryz.prog 143 [.lf (n + 1) (fQ q)] (.ow 3 1 (.fo (n + 1) (fQ q))):=by
 refine yQ (N:=60) (LO:=qZ (yGE n q)) kX zW (uK (l:=[]) (m:=[]) trivial trivial) (fun p S hp => ?_) ?_
 ·refine zG (L:=qQ Tf 143) (l:=(yGE n q)) (show AllP _ (yGE n q) from trivial) p S hp
 ·refine (uGC n q).trans ?_;simp only [vJQ (show n + 1≤1000000 by omega),vJQ (show n + 1≤8796093022208 by omega),vJQ (show 0 + (n + 1)≤1000000 by omega),vYV]
  all_goals rfl
theorem kQE (n:Nat) (q:Nat→Int) (hn:1≤n∧n≤50):yK Tryz.prog 143 [.lf n (fQ q)] (.ow 3 1 (.fo n (fQ q))):=by
 obtain ⟨h1,h2⟩:=hn;obtain ⟨m,rfl⟩:∃ m,n=m + 1:=⟨n - 1,by omega⟩
 exact kQF m q h2
def ccoi:Nat × (Nat→Int)→Prop:=fun t=>match t with | (n,_)=>1≤n∧n≤50
def ecoi:Nat × (Nat→Int)→List PV:=fun t=>match t with | (n,q)=>[.lf n (fQ q)]
noncomputable def rcoi:Nat × (Nat→Int)→Ret:=fun t=>match t with | (n,q)=>.ow 3 1 (.fo n (fQ q))
def dcoi:List PV→Nat × (Nat→Int):=fun ps=>match ps with
 | [.lf n f]=>(n,unFQ f)
 | _=>(0,fun _=>0)
noncomputable def uJL:List PV→Option (Bool × Ret):=o_fm dcoi ccoi ecoi rcoi
theorem xQA:zJ Tryz.prog 143 uJL:=qYX fun t h=>by
 obtain ⟨n,q⟩:=t;exact kQE n q h
def inM (ws:Wsp) (x:Int):Bool:=!decide (x < vJJ .i64 (0 - (ws.nh:Int))) && !decide ((ws.np:Int)≤x)
def mdG (ws:Wsp) (q:Nat→Int) (i:Nat):Bool:=inM ws (q i) && !hasQ q i (q i)
def vlB (ws:Wsp) (k:Nat) (q:Nat→Int):Bool:=decide (wErr ws=0) && (decide ((k:Int)=(ws.no:Int)) && allN (fun i:Nat=>mdG ws q i) k 0)
noncomputable def orVa (_:Wsp) (k:Nat) (_:Nat→Int):OrS:=orS [(16,o_gk),(112,o_ct)] []
noncomputable def hVa (ws:Wsp) (k:Nat) (q:Nat→Int) (i:Int):St:=⟨[(2,.p 2 0),(3,.p 3 0),(20,.v (.lf k (fQ q))),(21,.v (.n .i64 (k:Int))),(22,.v (.n .i64 i))],[(2,.blk [.v (.lf ws.n (fJ ws.js)),.v (.lf ws.m (fM ws.ms)),.v (.lf ws.c (fS ws.sh)),.v (.lf ws.d (fK ws.sk)),.v (.lf ws.no (fO ws.ob)),.v (.lf ws.np (fZ ws.pl)),.v (.lf ws.nh (fH ws.hd)),.v (.lf ws.ng (fG ws.gr)),.v (.n .i64 ws.slack)]),(3,.blk [.v (.lf k (fQ q))])]⟩
set_option maxRecDepth 100000 in
theorem rdVa (G:St→Option (Ret × Mem)) (K:Cont) (ws:Wsp) (k:Nat) (q:Nat→Int) (i:Int):kQ 60 (cxS Tf (orVa ws k q) 60 62 (ntmF Tf 62)) (evX Tf (orVa ws k q) 60 62 (ntmF Tf 62)) (qZ []) (qQ Tf 62 [0,1,0,1,1]) [0,1,0,1,1] (Tf.hint 62 (qJ (qQ Tf 62 [0,1,0,1,1]))) K G (hVa ws k q i) =
 (bif (decide (i < (k:Int))) then (bif (inB i k) then (bif (decide ((q (i).toNat) < (vJJ .i64 (0 - (ws.nh:Int))))) then (K .ret ⟨[(4,.v (.b false))],[]⟩)
 else (bif (decide ((ws.np:Int)≤(q (i).toNat))) then (K .ret ⟨[(4,.v (.b false))],[]⟩)
 else (bif (inS none (some i) k) then (bif (gF1 cct ect (((i).toNat - 0),(fun v=>(q (v + 0))),(q (i).toNat))) then (bif (hasQ (fun v=>(q (v + 0))) ((i).toNat - 0) (q (i).toNat)) then (K .ret ⟨[(4,.v (.b false))],[]⟩)
 else (G (hVa ws k q (vJJ .i64 (i + 1)))))
 else none)
 else none)))
 else none)
 else (K (.exit 0) ⟨[],[]⟩)):=by kernel_rfl
theorem lpVa (K:Cont) (ws:Wsp) (k:Nat) (q:Nat→Int) (_:k≤50):LFX 60 (cxS Tf (orVa ws k q) 60 62 (ntmF Tf 62)) (evX Tf (orVa ws k q) 60 62 (ntmF Tf 62)) (qZ []) (qQ Tf 62 [0,1,0,1,1]) [0,1,0,1,1] (Tf.hint 62 (qJ (qQ Tf 62 [0,1,0,1,1]))) K 60 (hVa ws k q 0)=bif (allN (fun i:Nat=>mdG ws q i) k 0) then (K (.exit 0) ⟨[],[]⟩) else (K .ret ⟨[(4,.v (.b false))],[]⟩):=by
 refine (uH (L:=LFX 60 (cxS Tf (orVa ws k q) 60 62 (ntmF Tf 62)) (evX Tf (orVa ws k q) 60 62 (ntmF Tf 62)) (qZ []) (qQ Tf 62 [0,1,0,1,1]) [0,1,0,1,1] (Tf.hint 62 (qJ (qQ Tf 62 [0,1,0,1,1]))) K) (stp:=kQ 60 (cxS Tf (orVa ws k q) 60 62 (ntmF Tf 62)) (evX Tf (orVa ws k q) 60 62 (ntmF Tf 62)) (qZ []) (qQ Tf 62 [0,1,0,1,1]) [0,1,0,1,1] (Tf.hint 62 (qJ (qQ Tf 62 [0,1,0,1,1]))) K) (fun _ _=>rfl) (fun (i:Nat) (_:Unit)=>hVa ws k q (i:Int)) (fun _ _=>True) (fun (i:Nat) _=>mdG ws q i) (fun _ _=>()) (c:=k) (fun _=>(K (.exit 0) ⟨[],[]⟩)) (fun i _=>(K .ret ⟨[(4,.v (.b false))],[]⟩)) (fun G i f hi _ => ?_) (fun _ _ _ _ _=>trivial) (fun G f _ => ?_) k 0 60 () (by omega) (by omega) trivial).trans ((jV _ _ _ _ _).trans (jK _ _ _ _ _))
 ·refine (rdVa G K ws k q i).trans ?_;rw [vJQ (show (i:Int) < (k:Int) by omega),uJ (by omega),yV (show i < k by omega),toN,jVB (show i < k by omega),kV (C:=cct) (t:=(i - 0,(fun v=>q (v + 0)),q i)) (show i - 0≤50 by omega)];unfold mdG inM;show _=bif (!decide (q i < vJJ .i64 (0 - (ws.nh:Int))) && !decide ((ws.np:Int)≤q i)) && !hasQ (fun v=>q (v + 0)) (i - 0) (q i) then _ else _
  cases decide (q i < vJJ .i64 (0 - (ws.nh:Int))) <;> cases decide ((ws.np:Int)≤q i) <;> cases hasQ (fun v=>q (v + 0)) (i - 0) (q i) <;> rfl
 ·refine (rdVa G K ws k q k).trans ?_;rw [vYH (show ¬ (k:Int) < (k:Int) by omega)];rfl
theorem jJJ {ws:Wsp} (h:wErr ws=0):sEW ws=0∧fiB ws=true∧obA ws=true∧cntF ws ws.no≤24:=by
 unfold wErr at h;by_cases h1:sEW ws=0
 ·rw [vJQ h1,vYV] at h;cases h2:fiB ws with
  | false=>rw [h2] at h; exact absurd (show (3401:Int)=0 from h) (by decide)
  | true =>
   rw [h2,vYV] at h;cases h3:obA ws with
   | false=>rw [h3] at h; exact absurd (show (3402:Int)=0 from h) (by decide)
   | true =>
    rw [h3,vYV] at h;by_cases h4:24 < cntF ws ws.no
    ·rw [vJQ h4] at h; exact absurd (show (3401:Int)=0 from h) (by decide)
    ·exact ⟨h1,rfl,rfl,by omega⟩
 ·rw [vYH h1,vYG] at h; exact absurd h h1
theorem uWH {ws:Wsp} (h:wErr ws=0):ws.no≤6:=(xYQ (jJJ h).2.1).1
noncomputable def kKY (ws:Wsp) (k:Nat) (q:Nat→Int):List (List Nat × jG):=[([0,1,0,1,1],sumF (fun _:Unit=>(hVa ws k q 0)) (fun _=>()) (fun _ K=>(bif (decide (k≤50)) then (bif (allN (fun i:Nat=>mdG ws q i) k 0) then (K (.exit 0) ⟨[],[]⟩) else (K .ret ⟨[(4,.v (.b false))],[]⟩)) else none)))]
set_option maxRecDepth 100000 in
theorem xXK (ws:Wsp) (k:Nat) (q:Nat→Int):qYU Tf (orVa ws k q) (qZ (kKY ws k q)) 60 62 [.a (wP ws),.a [.lf k (fQ q)]] =
 (bif (gF1 cgk egk ws) then (bif (!decide ((wErr ws)=0)) then some (.v (.b false),[])
 else (bif (!decide ((k:Int)=(ws.no:Int))) then some (.v (.b false),[])
 else (bif (gSt (hVa ws k q 0) (hVa ws k q 0)) then (bif (decide (k≤50)) then (bif (allN (fun i:Nat=>mdG ws q i) k 0) then some (.v (.b true),[])
 else some (.v (.b false),[]))
 else none)
 else none)))
 else none):=by kernel_rfl
theorem kHA (ws:Wsp) (k:Nat) (q:Nat→Int) (ho:okW ws):yK Tryz.prog 62 [.a (wP ws),.a [.lf k (fQ q)]] (.v (.b (vlB ws k q))):=by
 refine yQ (N:=60) (LO:=qZ (kKY ws k q)) kX zW (uK (l:=[(16,o_gk),(112,o_ct)]) (m:=[]) ⟨xQV,xQH,trivial⟩ trivial) (fun p S hp => ?_) ?_
 ·refine zG (L:=qQ Tf 62) (l:=(kKY ws k q)) (show AllP _ (kKY ws k q) from ⟨?_,trivial⟩) p S hp
  ·dsimp only;refine kZ (T:=Tf) (o:=(orVa ws k q)) (f:=62) (LO:=qZ []) (p:=[0,1,0,1,1]) kW ?_;intro t K r hr;obtain ⟨hg,hr⟩:=qY hr;have hk:=vJZ hg;exact (lpVa K ws k q hk).trans hr
 ·refine (xXK ws k q).trans ?_;unfold vlB;rw [kV (C:=cgk) (t:=ws) ho];by_cases h:wErr ws=0
  ·rw [vJQ h];by_cases hk:(k:Int)=(ws.no:Int)
   ·have h6:=uWH h;rw [vJQ hk,yU,vJQ (show k≤50 by omega)];cases allN (fun i:Nat=>mdG ws q i) k 0 <;> rfl
   ·rw [vYH hk]; rfl
  ·rw [vYH h]; rfl
def cvl:Wsp × Nat × (Nat→Int)→Prop:=fun t=>match t with | (ws,_,_)=>okW ws
def evl:Wsp × Nat × (Nat→Int)→List PV:=fun t=>match t with | (ws,k,q)=>[.a (wP ws),.a [.lf k (fQ q)]]
noncomputable def rvl:Wsp × Nat × (Nat→Int)→Ret:=fun t=>match t with | (ws,k,q)=>.v (.b (vlB ws k q))
def dvl:List PV→Wsp × Nat × (Nat→Int):=fun ps=>match ps with
 | [.a r,.a [.lf k f]]=>(unW r,k,unFQ f)
 | _=>(unW [],0,fun _=>0)
noncomputable def o_vl:List PV→Option (Bool × Ret):=o_fm dvl cvl evl rvl
theorem xVE:zJ Tryz.prog 62 o_vl:=qYX fun t h=>by
 obtain ⟨ws,k,q⟩:=t;exact kHA ws k q h
end Go.Proofs.YtgmbkkkbfbocnaaGreat.He
namespace Go.Proofs.YtgmbkkkbfbocnaaGreat.Hf
open Go.Rx Rt Go.Sx Go.RowKit Od Na Nb Nc Nx Nf Nl Nm Ga Gb Gc Gd Ge Gf Gg Ha Hb Hc Hd He
theorem bz {c:Bool} {x y:Int} (h:(bif c then x else y)=0) (hx:x ≠ 0):c=false∧y=0:=by
 cases c with
 | true=>exact absurd h hx
 | false=>exact ⟨rfl,h⟩
theorem xJZ {i:Int} {j:J} (h:cjT (fun e=>e) i j=0) : -4194304≤j.lo∧j.lo≤j.hi∧j.hi≤4194304:=by
 unfold cjT at h
 iterate 10 obtain ⟨_,h⟩:=bz h (by decide)
 by_cases k0:j.kind=0
 ·rw [vJQ k0,vYV] at h;obtain ⟨a,h⟩:=bz h (by decide);obtain ⟨b,h⟩:=bz h (by decide);obtain ⟨c,h⟩:=bz h (by decide);have a:=vJY a;have b:=vJY b;have c:=vJY c;omega
 rw [vYH k0,vYG] at h;by_cases k1:j.kind=1
 ·rw [vJQ k1,vYV] at h;obtain ⟨a,h⟩:=bz h (by decide);obtain ⟨b,h⟩:=bz h (by decide);obtain ⟨c,h⟩:=bz h (by decide);have a:=vJY a;have b:=vJY b;have c:=vJY c;omega
 rw [vYH k1,vYG] at h;by_cases k2:j.kind=2
 ·rw [vJQ k2,vYV] at h;obtain ⟨a,h⟩:=bz h (by decide);obtain ⟨b,h⟩:=bz h (by decide);obtain ⟨c,h⟩:=bz h (by decide);have a:=vJY a;have b:=vJY b;have c:=vJY c;omega
 rw [vYH k2,vYG] at h;by_cases k3:j.kind=3
 ·rw [vJQ k3,vYV] at h;obtain ⟨a,h⟩:=bz h (by decide);obtain ⟨b,h⟩:=bz h (by decide);obtain ⟨c,h⟩:=bz h (by decide);have a:=vJY a;have b:=vJY b;have c:=vJY c;omega
 rw [vYH k3,vYG] at h;obtain ⟨a,h⟩:=bz h (by decide);obtain ⟨b,h⟩:=bz h (by decide);obtain ⟨c,h⟩:=bz h (by decide);have a:=vJY a;have b:=vJY b;have c:=vJY c;omega
theorem kZW {js:Nat→J} {ms:Nat→Ms} {n m:Nat} (h:rErr js ms n m=0):∀ i,i < n → -4194304≤(js i).lo∧(js i).lo≤(js i).hi∧(js i).hi≤4194304:=fun i hi =>
 xJZ (jVG (jVH (jUW h) i (Nat.zero_le _) (by omega)))
theorem uZV {js:Nat→J} {ms:Nat→Ms} {q:Nat→Int} {n m k:Nat} (h:qIn js ms q n m k=true):rErr js ms n m=0∧n=k∧(1≤n∧n≤10)∧smQ q k=true∧isB (ptB q) n k=true:=by
 obtain ⟨h1,h2,h3⟩:=kZE h;have hn:=zKH h1;have hl:=kZW h1;subst h2;have hq:∀ i,i < n → -4194304≤q i∧q i≤4194304:=fun i hi=>by
  have a:=hl i hi;have b:=h3 i hi;omega
 refine ⟨h1,rfl,hn,allN_iff.2 fun j _ hj => ?_,?_⟩
 ·have:=hq j (by omega)
  rw [vYH (show ¬ q j < -2147483648 by omega),vYH (show ¬ 2147483648 < q j by omega)]; rfl
 ·unfold isB allV;rw [vJQ (show (n:Int)=(n:Int) from rfl),vZH];refine allN_iff.2 fun j _ hj => ?_
  have:=hq j (by omega)
  unfold Iv.valid ptB
  simp
  omega
def cbx:Nat × (Nat→Int)→Prop:=fun t=>match t with | (k,_)=>k≤50
def ebx:Nat × (Nat→Int)→List PV:=fun t=>match t with | (k,q)=>[.lf k (fQ q)]
noncomputable def rbx:Nat × (Nat→Int)→Ret:=fun t=>match t with | (k,q)=>.v (.lf (bif smQ q k then k else 0) (fB (ptB q)))
def dbx:List PV→Nat × (Nat→Int):=fun ps=>match ps with
 | [.lf k f]=>(k,unFQ f)
 | _=>(0,fun _=>0)
noncomputable def o_bx:List PV→Option (Bool × Ret):=o_fm dbx cbx ebx rbx
theorem xGE:zJ Tryz.prog 72 o_bx:=qYX fun t h=>by
 obtain ⟨k,q⟩:=t;exact uVU q k h
def cry:Nat × (Nat→Int)→Prop:=fun t=>match t with | (k,_)=>k≤50
def ery:Nat × (Nat→Int)→List PV:=fun t=>match t with | (k,q)=>[.lf k (fQ q)]
noncomputable def rry:Nat × (Nat→Int)→Ret:=fun t=>match t with | (k,q)=>.v (.lf (bif smQ q k then k else 0) (fB (ptB q)))
def dry:List PV→Nat × (Nat→Int):=fun ps=>match ps with
 | [.lf k f]=>(k,unFQ f)
 | _=>(0,fun _=>0)
noncomputable def o_ry:List PV→Option (Bool × Ret):=o_fm dry cry ery rry
theorem xVI:zJ Tryz.prog 23 o_ry:=qYX fun t h=>by
 obtain ⟨k,q⟩:=t;exact jJL q k h
def unFB (f:Nat→List PV):Nat→Iv:=fun v=>match f v with
 | [.n _ a,.n _ b]=>⟨a,b⟩
 | _=>⟨0,0⟩
def cka:(Nat→J) × (Nat→Ms) × (Nat→Iv) × Nat × Nat × Nat→Prop:=fun t=>match t with | (_,_,_,_,_,k)=>k≤9223372036854775807
def eka:(Nat→J) × (Nat→Ms) × (Nat→Iv) × Nat × Nat × Nat→List PV:=fun t=>match t with | (js,ms,bx,n,m,k)=>[.a [.lf n (fJ js),.lf m (fM ms)],.lf k (fB bx)]
noncomputable def rka:(Nat→J) × (Nat→Ms) × (Nat→Iv) × Nat × Nat × Nat→Ret:=fun t=>match t with | (js,ms,bx,n,m,k)=>.v (.lf (bif decide (rErr js ms n m=0) && isB bx n k then n else 0) (fP (LP js bx n)))
def dka:List PV→(Nat→J) × (Nat→Ms) × (Nat→Iv) × Nat × Nat × Nat:=fun ps=>match ps with
 | [.a [.lf n js,.lf m ms],.lf k f]=>(unFJ js,unFM ms,unFB f,n,m,k)
 | _=>(fun _=>⟨ByteArray.empty,0,0,⟨0,0,0⟩,0,0,0,0,0,0⟩,fun _=>⟨0,0,⟨0,0,0⟩⟩,fun _=>⟨0,0⟩,0,0,0)
noncomputable def o_ka:List PV→Option (Bool × Ret):=o_fm dka cka eka rka
theorem xGX:zJ Tryz.prog 38 o_ka:=qYX fun t h=>by
 obtain ⟨js,ms,bx,n,m,k⟩:=t;exact uQA js ms bx n m k h
def crl:(Nat→J) × (Nat→Ms) × (Nat→Iv) × Nat × Nat × Nat→Prop:=fun t=>match t with | (_,_,_,_,_,_)=>True
def erl:(Nat→J) × (Nat→Ms) × (Nat→Iv) × Nat × Nat × Nat→List PV:=fun t=>match t with | (js,ms,bx,n,m,k)=>[.a [.lf n (fJ js),.lf m (fM ms)],.lf k (fB bx)]
noncomputable def rrl:(Nat→J) × (Nat→Ms) × (Nat→Iv) × Nat × Nat × Nat→Ret:=fun t=>match t with | (js,ms,bx,n,m,k)=>.v (.lf (bif decide (rErr js ms n m=0) && isB bx n k then n else 0) (fP (LP js bx n)))
def drl:List PV→(Nat→J) × (Nat→Ms) × (Nat→Iv) × Nat × Nat × Nat:=fun ps=>match ps with
 | [.a [.lf n js,.lf m ms],.lf k f]=>(unFJ js,unFM ms,unFB f,n,m,k)
 | _=>(fun _=>⟨ByteArray.empty,0,0,⟨0,0,0⟩,0,0,0,0,0,0⟩,fun _=>⟨0,0,⟨0,0,0⟩⟩,fun _=>⟨0,0⟩,0,0,0)
noncomputable def o_rl:List PV→Option (Bool × Ret):=o_fm drl crl erl rrl
theorem xGQ:zJ Tryz.prog 22 o_rl:=qYX fun t h=>by
 obtain ⟨js,ms,bx,n,m,k⟩:=t;exact jJI js ms bx n m k
def atC (s:Int) (off to:Z3) (po:Po):Bool:=(!(decide (po.r.x.x.lo < (vJJ .i64 (65536 - s)))) && (!(decide (po.r.x.y.lo < (vJJ .i64 (0 - s)))) && (!(decide (s < po.r.x.y.hi)) && (!(decide (po.r.x.z.lo < (vJJ .i64 (0 - s)))) && (!(decide (s < po.r.x.z.hi)) && (!(decide (po.r.y.x.lo < (vJJ .i64 (0 - s)))) && (!(decide (s < po.r.y.x.hi)) && (!(decide (po.r.y.y.lo < (vJJ .i64 (65536 - s)))) && (!(decide (po.r.y.z.lo < (vJJ .i64 (0 - s)))) && (!(decide (s < po.r.y.z.hi)) && (!(decide (po.r.z.x.lo < (vJJ .i64 (0 - s)))) && (!(decide (s < po.r.z.x.hi)) && (!(decide (po.r.z.y.lo < (vJJ .i64 (0 - s)))) && (!(decide (s < po.r.z.y.hi)) && (!(decide (po.r.z.z.lo < (vJJ .i64 (65536 - s)))) && (!(decide ((Po.app po (V3.of off)).x.lo < (vJJ .i64 (to.x - s)))) && (!(decide ((vJJ .i64 (to.x + s)) < (Po.app po (V3.of off)).x.hi)) && (!(decide ((Po.app po (V3.of off)).y.lo < (vJJ .i64 (to.y - s)))) && (!(decide ((vJJ .i64 (to.y + s)) < (Po.app po (V3.of off)).y.hi)) && (!(decide ((Po.app po (V3.of off)).z.lo < (vJJ .i64 (to.z - s)))) && (!(decide ((vJJ .i64 (to.z + s)) < (Po.app po (V3.of off)).z.hi)) && true)))))))))))))))))))))
def atB (ws:Wsp) (a b:Int) (k:Nat) (q:Nat→Int):Bool:=decide (wErr ws=0) && (knB ws a b && (qIn ws.js ws.ms q ws.n ws.m k && atC ws.slack (ws.hd a.toNat).off (ws.pl b.toNat) (LP ws.js (ptB q) ws.n (ws.hd a.toNat).link.toNat)))
theorem bfT (c y:Bool):(bif c then some (Ret.v (.b false),([]:Mem)) else some (Ret.v (.b y),([]:Mem)))=some (Ret.v (.b (!c && y)),([]:Mem)):=by cases c <;> rfl
theorem zWI {i:Int} {n:Nat} (h:0≤i∧i < (n:Int)):inB i n=true:=by
 unfold inB;rw [vJQ h.1,vJQ (show i.toNat < n by omega)]; rfl
theorem kUI {ws:Wsp} {a b:Int} (h:knB ws a b=true):(0≤a∧a < (ws.nh:Int))∧(0≤b∧b < (ws.np:Int)):=by
 unfold knB at h;simp only [vQJ,decide_eq_true_eq] at h;omega
theorem jVD {ws:Wsp} (h:wErr ws=0) {i:Nat} (_:i < ws.nh):0≤(ws.hd i).link∧(ws.hd i).link < (ws.n:Int):=by
 have h2:=(jJJ h).2.1;unfold fiB at h2;simp only [vQJ] at h2;have h3:=allN_iff.1 h2.2.2.1 i (Nat.zero_le _) (by omega);unfold hdOk at h3;simp only [vQJ,Bool.not_eq_true',decide_eq_false_iff_not] at h3;omega
noncomputable def xVD (_:Wsp) (a b:Int) (k:Nat) (_:Nat→Int):OrS:=orS ((16,o_gk) :: (70,o_kn) :: (71,o_in) :: (72,o_bx) :: (38,o_ka) :: L9) []
noncomputable def kUB (_:Wsp) (a b:Int) (k:Nat) (_:Nat→Int):List (List Nat × jG):=[]
set_option maxRecDepth 100000 in
theorem xWF (ws:Wsp) (a b:Int) (k:Nat) (q:Nat→Int):qYU Tf (xVD ws a b k q) (qZ (kUB ws a b k q)) 60 24 [.a (wP ws),.n .i64 a,.n .i64 b,.lf k (fQ q)] =
 (bif (gF1 cgk egk ws) then (bif (!decide ((wErr ws)=0)) then some (.v (.b false),[])
 else (bif (gF1 ckn ekn (ws,a,b)) then (bif (knB ws a b) then (bif (gF1 cin ein (ws.js,ws.ms,ws.n,ws.m,k,q)) then (bif (qIn ws.js ws.ms q ws.n ws.m k) then (bif (inB a ws.nh) then (bif (gF1 cbx ebx (k,q)) then (bif (gF1 cka eka (ws.js,ws.ms,(ptB q),ws.n,ws.m,(bif smQ q k then k else 0))) then (bif (inB (ws.hd (a).toNat).link (bif decide (rErr ws.js ws.ms ws.n ws.m=0) && isB (ptB q) ws.n (bif smQ q k then k else 0) then ws.n else 0)) then (bif (decide ((LP ws.js (ptB q) ws.n ((ws.hd (a).toNat).link).toNat).r.x.x.lo < (vJJ .i64 (65536 - ws.slack)))) then some (.v (.b false),[])
 else (bif (decide ((LP ws.js (ptB q) ws.n ((ws.hd (a).toNat).link).toNat).r.x.y.lo < (vJJ .i64 (0 - ws.slack)))) then some (.v (.b false),[])
 else (bif (decide (ws.slack < (LP ws.js (ptB q) ws.n ((ws.hd (a).toNat).link).toNat).r.x.y.hi)) then some (.v (.b false),[])
 else (bif (decide ((LP ws.js (ptB q) ws.n ((ws.hd (a).toNat).link).toNat).r.x.z.lo < (vJJ .i64 (0 - ws.slack)))) then some (.v (.b false),[])
 else (bif (decide (ws.slack < (LP ws.js (ptB q) ws.n ((ws.hd (a).toNat).link).toNat).r.x.z.hi)) then some (.v (.b false),[])
 else (bif (decide ((LP ws.js (ptB q) ws.n ((ws.hd (a).toNat).link).toNat).r.y.x.lo < (vJJ .i64 (0 - ws.slack)))) then some (.v (.b false),[])
 else (bif (decide (ws.slack < (LP ws.js (ptB q) ws.n ((ws.hd (a).toNat).link).toNat).r.y.x.hi)) then some (.v (.b false),[])
 else (bif (decide ((LP ws.js (ptB q) ws.n ((ws.hd (a).toNat).link).toNat).r.y.y.lo < (vJJ .i64 (65536 - ws.slack)))) then some (.v (.b false),[])
 else (bif (decide ((LP ws.js (ptB q) ws.n ((ws.hd (a).toNat).link).toNat).r.y.z.lo < (vJJ .i64 (0 - ws.slack)))) then some (.v (.b false),[])
 else (bif (decide (ws.slack < (LP ws.js (ptB q) ws.n ((ws.hd (a).toNat).link).toNat).r.y.z.hi)) then some (.v (.b false),[])
 else (bif (decide ((LP ws.js (ptB q) ws.n ((ws.hd (a).toNat).link).toNat).r.z.x.lo < (vJJ .i64 (0 - ws.slack)))) then some (.v (.b false),[])
 else (bif (decide (ws.slack < (LP ws.js (ptB q) ws.n ((ws.hd (a).toNat).link).toNat).r.z.x.hi)) then some (.v (.b false),[])
 else (bif (decide ((LP ws.js (ptB q) ws.n ((ws.hd (a).toNat).link).toNat).r.z.y.lo < (vJJ .i64 (0 - ws.slack)))) then some (.v (.b false),[])
 else (bif (decide (ws.slack < (LP ws.js (ptB q) ws.n ((ws.hd (a).toNat).link).toNat).r.z.y.hi)) then some (.v (.b false),[])
 else (bif (decide ((LP ws.js (ptB q) ws.n ((ws.hd (a).toNat).link).toNat).r.z.z.lo < (vJJ .i64 (65536 - ws.slack)))) then some (.v (.b false),[])
 else (bif (inB b ws.np) then (bif (decide ((Po.app (LP ws.js (ptB q) ws.n ((ws.hd (a).toNat).link).toNat) (V3.of (ws.hd (a).toNat).off)).x.lo < (vJJ .i64 ((ws.pl (b).toNat).x - ws.slack)))) then some (.v (.b false),[])
 else (bif (decide ((vJJ .i64 ((ws.pl (b).toNat).x + ws.slack)) < (Po.app (LP ws.js (ptB q) ws.n ((ws.hd (a).toNat).link).toNat) (V3.of (ws.hd (a).toNat).off)).x.hi)) then some (.v (.b false),[])
 else (bif (decide ((Po.app (LP ws.js (ptB q) ws.n ((ws.hd (a).toNat).link).toNat) (V3.of (ws.hd (a).toNat).off)).y.lo < (vJJ .i64 ((ws.pl (b).toNat).y - ws.slack)))) then some (.v (.b false),[])
 else (bif (decide ((vJJ .i64 ((ws.pl (b).toNat).y + ws.slack)) < (Po.app (LP ws.js (ptB q) ws.n ((ws.hd (a).toNat).link).toNat) (V3.of (ws.hd (a).toNat).off)).y.hi)) then some (.v (.b false),[])
 else (bif (decide ((Po.app (LP ws.js (ptB q) ws.n ((ws.hd (a).toNat).link).toNat) (V3.of (ws.hd (a).toNat).off)).z.lo < (vJJ .i64 ((ws.pl (b).toNat).z - ws.slack)))) then some (.v (.b false),[])
 else (bif (decide ((vJJ .i64 ((ws.pl (b).toNat).z + ws.slack)) < (Po.app (LP ws.js (ptB q) ws.n ((ws.hd (a).toNat).link).toNat) (V3.of (ws.hd (a).toNat).off)).z.hi)) then some (.v (.b false),[])
 else some (.v (.b true),[])))))))
 else none))))))))))))))))
 else none)
 else none)
 else none)
 else none)
 else some (.v (.b false),[]))
 else none)
 else some (.v (.b false),[]))
 else none))
 else none):=by kernel_rfl
theorem zKZ (ws:Wsp) (a b:Int) (k:Nat) (q:Nat→Int) (ho:okW ws):yK Tryz.prog 24 [.a (wP ws),.n .i64 a,.n .i64 b,.lf k (fQ q)] (.v (.b (atB ws a b k q))):=by
 refine yQ (N:=60) (LO:=qZ (kUB ws a b k q)) kX zW (uK (l:=((16,o_gk) :: (70,o_kn) :: (71,o_in) :: (72,o_bx) :: (38,o_ka) :: L9)) (m:=[]) ⟨xQV,xQJ,xQU,xGE,xGX,xKL⟩ trivial) (fun p S hp => ?_) ?_
 ·refine zG (L:=qQ Tf 24) (l:=(kUB ws a b k q)) (show AllP _ (kUB ws a b k q) from trivial) p S hp
 ·refine (xWF ws a b k q).trans ?_;unfold atB;rw [kV (C:=cgk) (t:=ws) ho];by_cases h0:wErr ws=0
  ·rw [vJQ h0,kV (C:=ckn) (t:=(ws,a,b)) trivial];cases hk:knB ws a b with
   | false=>rfl
   | true =>
    obtain ⟨k1,k2⟩:=kUI hk;rw [kV (C:=cin) (t:=(ws.js,ws.ms,ws.n,ws.m,k,q)) trivial];cases hq:qIn ws.js ws.ms q ws.n ws.m k with
    | false=>rfl
    | true =>
     obtain ⟨h1,h2,h3,h4,h5⟩:=uZV hq;have hl:=zWI (jVD h0 (i:=a.toNat) (by omega));simp only [zWI k1,zWI k2,kV (C:=cbx) (t:=(k,q)) (show k≤50 by omega),h4,vYV,kV (C:=cka) (t:=(ws.js,ws.ms,ptB q,ws.n,ws.m,k)) (show k≤9223372036854775807 by omega),h5,vJQ h1,vZJ,hl,Bool.not_true,vYG,bfT];rfl
  ·rw [vYH h0]; rfl
theorem uKL (s:Int) (off to:Z3) (po:Po):(!(decide (po.r.x.x.lo < (vJJ .i64 (65536 - s)))) && (!(decide (po.r.x.y.lo < (vJJ .i64 (0 - s)))) && (!(decide (s < po.r.x.y.hi)) && (!(decide (po.r.x.z.lo < (vJJ .i64 (0 - s)))) && (!(decide (s < po.r.x.z.hi)) && (!(decide ((Po.app po (V3.of off)).x.lo < (vJJ .i64 (to.x - s)))) && (!(decide ((vJJ .i64 (to.x + s)) < (Po.app po (V3.of off)).x.hi)) && (!(decide (po.r.y.x.lo < (vJJ .i64 (0 - s)))) && (!(decide (s < po.r.y.x.hi)) && (!(decide (po.r.y.y.lo < (vJJ .i64 (65536 - s)))) && (!(decide (po.r.y.z.lo < (vJJ .i64 (0 - s)))) && (!(decide (s < po.r.y.z.hi)) && (!(decide ((Po.app po (V3.of off)).y.lo < (vJJ .i64 (to.y - s)))) && (!(decide ((vJJ .i64 (to.y + s)) < (Po.app po (V3.of off)).y.hi)) && (!(decide (po.r.z.x.lo < (vJJ .i64 (0 - s)))) && (!(decide (s < po.r.z.x.hi)) && (!(decide (po.r.z.y.lo < (vJJ .i64 (0 - s)))) && (!(decide (s < po.r.z.y.hi)) && (!(decide (po.r.z.z.lo < (vJJ .i64 (65536 - s)))) && (!(decide ((Po.app po (V3.of off)).z.lo < (vJJ .i64 (to.z - s)))) && (!(decide ((vJJ .i64 (to.z + s)) < (Po.app po (V3.of off)).z.hi)) && true)))))))))))))))))))))=atC s off to po:=by
 unfold atC;rw [Bool.eq_iff_iff];simp only [vQJ];constructor
 ·rintro ⟨h0,h1,h2,h3,h4,h15,h16,h5,h6,h7,h8,h9,h17,h18,h10,h11,h12,h13,h14,h19,h20,_⟩
  exact ⟨h0,h1,h2,h3,h4,h5,h6,h7,h8,h9,h10,h11,h12,h13,h14,h15,h16,h17,h18,h19,h20,trivial⟩
 ·rintro ⟨h0,h1,h2,h3,h4,h5,h6,h7,h8,h9,h10,h11,h12,h13,h14,h15,h16,h17,h18,h19,h20,_⟩
  exact ⟨h0,h1,h2,h3,h4,h15,h16,h5,h6,h7,h8,h9,h17,h18,h10,h11,h12,h13,h14,h19,h20,trivial⟩
noncomputable def xVG (_:Wsp) (a b:Int) (k:Nat) (_:Nat→Int):OrS:=orS ((17,o_rw) :: (58,o_ri) :: (23,o_ry) :: (22,o_rl) :: L9) []
noncomputable def kUK (_:Wsp) (a b:Int) (k:Nat) (_:Nat→Int):List (List Nat × jG):=[]
set_option maxRecDepth 100000 in
theorem xWV (ws:Wsp) (a b:Int) (k:Nat) (q:Nat→Int):qYU Tf (xVG ws a b k q) (qZ (kUK ws a b k q)) 60 25 [.a (wP ws),.n .i64 a,.n .i64 b,.lf k (fQ q)] =
 (bif (gF1 crw erw ws) then (bif (!decide ((wErr ws)=0)) then some (.v (.b false),[])
 else (bif (decide (a < 0)) then some (.v (.b false),[])
 else (bif (decide ((ws.nh:Int)≤a)) then some (.v (.b false),[])
 else (bif (decide (b < 0)) then some (.v (.b false),[])
 else (bif (decide ((ws.np:Int)≤b)) then some (.v (.b false),[])
 else (bif (gF1 cri eri (ws.js,ws.ms,ws.n,ws.m,k,q)) then (bif (qIn ws.js ws.ms q ws.n ws.m k) then (bif (inB a ws.nh) then (bif (gF1 cry ery (k,q)) then (bif (gF1 crl erl (ws.js,ws.ms,(ptB q),ws.n,ws.m,(bif smQ q k then k else 0))) then (bif (inB (ws.hd (a).toNat).link (bif decide (rErr ws.js ws.ms ws.n ws.m=0) && isB (ptB q) ws.n (bif smQ q k then k else 0) then ws.n else 0)) then (bif (decide ((LP ws.js (ptB q) ws.n ((ws.hd (a).toNat).link).toNat).r.x.x.lo < (vJJ .i64 (65536 - ws.slack)))) then some (.v (.b false),[])
 else (bif (decide ((LP ws.js (ptB q) ws.n ((ws.hd (a).toNat).link).toNat).r.x.y.lo < (vJJ .i64 (0 - ws.slack)))) then some (.v (.b false),[])
 else (bif (decide (ws.slack < (LP ws.js (ptB q) ws.n ((ws.hd (a).toNat).link).toNat).r.x.y.hi)) then some (.v (.b false),[])
 else (bif (decide ((LP ws.js (ptB q) ws.n ((ws.hd (a).toNat).link).toNat).r.x.z.lo < (vJJ .i64 (0 - ws.slack)))) then some (.v (.b false),[])
 else (bif (decide (ws.slack < (LP ws.js (ptB q) ws.n ((ws.hd (a).toNat).link).toNat).r.x.z.hi)) then some (.v (.b false),[])
 else (bif (inB b ws.np) then (bif (decide ((Po.app (LP ws.js (ptB q) ws.n ((ws.hd (a).toNat).link).toNat) (V3.of (ws.hd (a).toNat).off)).x.lo < (vJJ .i64 ((ws.pl (b).toNat).x - ws.slack)))) then some (.v (.b false),[])
 else (bif (inB b ws.np) then (bif (decide ((vJJ .i64 ((ws.pl (b).toNat).x + ws.slack)) < (Po.app (LP ws.js (ptB q) ws.n ((ws.hd (a).toNat).link).toNat) (V3.of (ws.hd (a).toNat).off)).x.hi)) then some (.v (.b false),[])
 else (bif (decide ((LP ws.js (ptB q) ws.n ((ws.hd (a).toNat).link).toNat).r.y.x.lo < (vJJ .i64 (0 - ws.slack)))) then some (.v (.b false),[])
 else (bif (decide (ws.slack < (LP ws.js (ptB q) ws.n ((ws.hd (a).toNat).link).toNat).r.y.x.hi)) then some (.v (.b false),[])
 else (bif (decide ((LP ws.js (ptB q) ws.n ((ws.hd (a).toNat).link).toNat).r.y.y.lo < (vJJ .i64 (65536 - ws.slack)))) then some (.v (.b false),[])
 else (bif (decide ((LP ws.js (ptB q) ws.n ((ws.hd (a).toNat).link).toNat).r.y.z.lo < (vJJ .i64 (0 - ws.slack)))) then some (.v (.b false),[])
 else (bif (decide (ws.slack < (LP ws.js (ptB q) ws.n ((ws.hd (a).toNat).link).toNat).r.y.z.hi)) then some (.v (.b false),[])
 else (bif (inB b ws.np) then (bif (decide ((Po.app (LP ws.js (ptB q) ws.n ((ws.hd (a).toNat).link).toNat) (V3.of (ws.hd (a).toNat).off)).y.lo < (vJJ .i64 ((ws.pl (b).toNat).y - ws.slack)))) then some (.v (.b false),[])
 else (bif (inB b ws.np) then (bif (decide ((vJJ .i64 ((ws.pl (b).toNat).y + ws.slack)) < (Po.app (LP ws.js (ptB q) ws.n ((ws.hd (a).toNat).link).toNat) (V3.of (ws.hd (a).toNat).off)).y.hi)) then some (.v (.b false),[])
 else (bif (decide ((LP ws.js (ptB q) ws.n ((ws.hd (a).toNat).link).toNat).r.z.x.lo < (vJJ .i64 (0 - ws.slack)))) then some (.v (.b false),[])
 else (bif (decide (ws.slack < (LP ws.js (ptB q) ws.n ((ws.hd (a).toNat).link).toNat).r.z.x.hi)) then some (.v (.b false),[])
 else (bif (decide ((LP ws.js (ptB q) ws.n ((ws.hd (a).toNat).link).toNat).r.z.y.lo < (vJJ .i64 (0 - ws.slack)))) then some (.v (.b false),[])
 else (bif (decide (ws.slack < (LP ws.js (ptB q) ws.n ((ws.hd (a).toNat).link).toNat).r.z.y.hi)) then some (.v (.b false),[])
 else (bif (decide ((LP ws.js (ptB q) ws.n ((ws.hd (a).toNat).link).toNat).r.z.z.lo < (vJJ .i64 (65536 - ws.slack)))) then some (.v (.b false),[])
 else (bif (inB b ws.np) then (bif (decide ((Po.app (LP ws.js (ptB q) ws.n ((ws.hd (a).toNat).link).toNat) (V3.of (ws.hd (a).toNat).off)).z.lo < (vJJ .i64 ((ws.pl (b).toNat).z - ws.slack)))) then some (.v (.b false),[])
 else (bif (inB b ws.np) then (bif (decide ((vJJ .i64 ((ws.pl (b).toNat).z + ws.slack)) < (Po.app (LP ws.js (ptB q) ws.n ((ws.hd (a).toNat).link).toNat) (V3.of (ws.hd (a).toNat).off)).z.hi)) then some (.v (.b false),[])
 else some (.v (.b true),[]))
 else none))
 else none)))))))
 else none))
 else none)))))))
 else none))
 else none))))))
 else none)
 else none)
 else none)
 else none)
 else some (.v (.b false),[]))
 else none))))))
 else none):=by kernel_rfl
theorem zVI (ws:Wsp) (a b:Int) (k:Nat) (q:Nat→Int) (ho:okW ws):yK Tryz.prog 25 [.a (wP ws),.n .i64 a,.n .i64 b,.lf k (fQ q)] (.v (.b (atB ws a b k q))):=by
 refine yQ (N:=60) (LO:=qZ (kUK ws a b k q)) kX zW (uK (l:=((17,o_rw) :: (58,o_ri) :: (23,o_ry) :: (22,o_rl) :: L9)) (m:=[]) ⟨xVL,uHG,xVI,xGQ,xKL⟩ trivial) (fun p S hp => ?_) ?_
 ·refine zG (L:=qQ Tf 25) (l:=(kUK ws a b k q)) (show AllP _ (kUK ws a b k q) from trivial) p S hp
 ·refine (xWV ws a b k q).trans ?_;unfold atB;rw [kV (C:=crw) (t:=ws) ho];by_cases h0:wErr ws=0
  ·rw [vJQ h0];unfold knB;rw [nle 0 a,nle 0 b,← nlt0 a (ws.nh:Int),← nlt0 b (ws.np:Int)];by_cases ka:a < 0
   ·rw [vJQ ka]; rfl
   by_cases kb:(ws.nh:Int)≤a
   ·rw [vYH ka,vJQ kb]; rfl
   by_cases kc:b < 0
   ·rw [vYH ka,vYH kb,vJQ kc]; rfl
   by_cases kd:(ws.np:Int)≤b
   ·rw [vYH ka,vYH kb,vYH kc,vJQ kd]; rfl
   have k1:0≤a∧a < (ws.nh:Int):=by omega
   have k2:0≤b∧b < (ws.np:Int):=by omega
   rw [vYH ka,vYH kb,vYH kc,vYH kd,kV (C:=cri) (t:=(ws.js,ws.ms,ws.n,ws.m,k,q)) trivial];cases hq:qIn ws.js ws.ms q ws.n ws.m k with
   | false=>rfl
   | true =>
    obtain ⟨h1,h2,h3,h4,h5⟩:=uZV hq;have hl:=zWI (jVD h0 (i:=a.toNat) (by omega));simp only [zWI k1,zWI k2,kV (C:=cry) (t:=(k,q)) (show k≤50 by omega),h4,vYV,kV (C:=crl) (t:=(ws.js,ws.ms,ptB q,ws.n,ws.m,k)) trivial,h5,vJQ h1,vZJ,hl,Bool.not_true,Bool.not_false,vYG,bfT];exact congrArg (fun y=>some (Ret.v (.b y),([]:Mem))) (uKL _ _ _ _)
  ·rw [vYH h0]; rfl
def cat:Wsp × Int × Int × Nat × (Nat→Int)→Prop:=fun t=>match t with | (ws,_,_,_,_)=>okW ws
def eat:Wsp × Int × Int × Nat × (Nat→Int)→List PV:=fun t=>match t with | (ws,a,b,k,q)=>[.a (wP ws),.n .i64 a,.n .i64 b,.lf k (fQ q)]
noncomputable def rat:Wsp × Int × Int × Nat × (Nat→Int)→Ret:=fun t=>match t with | (ws,a,b,k,q)=>.v (.b (atB ws a b k q))
def dat:List PV→Wsp × Int × Int × Nat × (Nat→Int):=fun ps=>match ps with
 | [.a r,.n _ a,.n _ b,.lf k f]=>(unW r,a,b,k,unFQ f)
 | _=>(unW [],0,0,0,fun _=>0)
noncomputable def o_at:List PV→Option (Bool × Ret):=o_fm dat cat eat rat
theorem xGL:zJ Tryz.prog 24 o_at:=qYX fun t h=>by
 obtain ⟨ws,a,b,k,q⟩:=t;exact zKZ ws a b k q h
end Go.Proofs.YtgmbkkkbfbocnaaGreat.Hf
namespace Go.Proofs.YtgmbkkkbfbocnaaGreat.Hg
open Go.Rx Rt Go.Sx Go.RowKit Od Na Nb Nc Nx Nf Nl Nm Ga Gb Gc Gd Ge Gf Gg Ha Hb Hc Hd He Hf
def mvC (q:Nat→Int) (k:Nat) (x y:Int):Bool:=hasQ q k x && !hasQ q k y
def mvQ (q:Nat→Int) (k:Nat) (x y:Int):Nat→Int:=fun v=>bif Nat.beq v (ixQ q k x).toNat then y else q v
theorem ixB {q:Nat→Int} {k:Nat} {x:Int} (h:hasQ q k x=true):inB (ixQ q k x) k=true:=by
 obtain ⟨i,h1,h2,_⟩:=qVX h;rw [h2]; exact yV h1
noncomputable def uHZ (k:Nat) (_:Nat→Int) (x y:Int):OrS:=orS [(142,o_iq),(112,o_ct),(143,uJL)] []
noncomputable def yGD (k:Nat) (_:Nat→Int) (x y:Int):List (List Nat × jG):=[]
set_option maxRecDepth 100000 in
theorem uGB (k:Nat) (q:Nat→Int) (x y:Int):qYU Tf (uHZ k q x y) (qZ (yGD k q x y)) 60 92 [.a [.lf k (fQ q)],.n .i64 x,.n .i64 y] =
 (bif (gF1 ciq eiq (k,q,x)) then (bif (decide ((ixQ q k x) < 0)) then some (.v (.t [.a [.l []],.b false]),[])
 else (bif (gF1 cct ect (k,q,y)) then (bif (hasQ q k y) then some (.v (.t [.a [.l []],.b false]),[])
 else (bif (gF1 ccoi ecoi (k,q)) then (bif (inB (ixQ q k x) k) then some (.v (.t [.a [.lf k (fQ (mvQ q k x y))],.b true]),[])
 else none)
 else none))
 else none))
 else none):=by kernel_rfl
theorem kQB (k:Nat) (q:Nat→Int) (x y:Int) (hk:k≤50):yK Tryz.prog 92 [.a [.lf k (fQ q)],.n .i64 x,.n .i64 y] (.v (bif mvC q k x y then .t [.a [.lf k (fQ (mvQ q k x y))],.b true] else .t [.a [.l []],.b false])):=by
 refine yQ (N:=60) (LO:=qZ (yGD k q x y)) kX zW (uK (l:=[(142,o_iq),(112,o_ct),(143,uJL)]) (m:=[]) ⟨xQK,xQH,xQA,trivial⟩ trivial) (fun p S hp => ?_) ?_
 ·refine zG (L:=qQ Tf 92) (l:=(yGD k q x y)) (show AllP _ (yGD k q x y) from trivial) p S hp
 ·refine (uGB k q x y).trans ?_;unfold mvC;rw [kV (C:=ciq) (t:=(k,q,x)) hk,uKX];cases hx:hasQ q k x with
  | false=>rfl
  | true =>
   rw [kV (C:=cct) (t:=(k,q,y)) hk];cases hy:hasQ q k y with
   | true=>rfl
   | false =>
    obtain ⟨i,h1,_,_⟩:=qVX hx;rw [kV (C:=ccoi) (t:=(k,q)) ⟨by omega,hk⟩,ixB hx];rfl
theorem uQX (k:Nat) (q:Nat→Int) (x y:Int) (hk:k≤50):yK Tryz.prog 92 [.a [.lf k (fQ q)],.n .i64 x,.n .i64 y] (.v (.t [.a [.lf (bif mvC q k x y then k else 0) (fQ (mvQ q k x y))],.b (mvC q k x y)])):=by
 have h0:=kQB k q x y hk;cases h:mvC q k x y with
 | true=>rw [h] at h0; exact h0
 | false=>rw [h] at h0; exact qJZ (Same.t (xs:=[_,_]) ⟨Same.a (xs:=[_]) ⟨Same.lf rfl,trivial⟩,fun _ _ _ h=>h,trivial⟩) h0
def cmv:Nat × (Nat→Int) × Int × Int→Prop:=fun t=>match t with | (k,_,_,_)=>k≤50
def emv:Nat × (Nat→Int) × Int × Int→List PV:=fun t=>match t with | (k,q,x,y)=>[.a [.lf k (fQ q)],.n .i64 x,.n .i64 y]
noncomputable def rmv:Nat × (Nat→Int) × Int × Int→Ret:=fun t=>match t with | (k,q,x,y)=>.v (.t [.a [.lf (bif mvC q k x y then k else 0) (fQ (mvQ q k x y))],.b (mvC q k x y)])
def dmv:List PV→Nat × (Nat→Int) × Int × Int:=fun ps=>match ps with
 | [.a [.lf k f],.n _ x,.n _ y]=>(k,unFQ f,x,y)
 | _=>(0,fun _=>0,0,0)
noncomputable def o_mv:List PV→Option (Bool × Ret):=o_fm dmv cmv emv rmv
theorem xGU:zJ Tryz.prog 92 o_mv:=qYX fun t h=>by
 obtain ⟨k,q,x,y⟩:=t;exact uQX k q x y h
def tkC (ws:Wsp) (k:Nat) (q:Nat→Int) (k2:Nat) (q2:Nat→Int) (a b x y:Int):Bool:=vlB ws k q && (atB ws a b k2 q2 && mvC q k x y)
theorem xUY {ws:Wsp} {k:Nat} {q:Nat→Int} (h:vlB ws k q=true):k≤6:=by
 unfold vlB at h;simp only [vQJ,decide_eq_true_eq] at h
 have:=uWH h.1
 omega
noncomputable def xVY (_:Wsp) (k:Nat) (_:Nat→Int) (_:Nat) (_:Nat→Int) (a b:Int):OrS:=orS [(62,o_vl),(24,o_at),(92,o_mv)] []
noncomputable def kKA (_:Wsp) (k:Nat) (_:Nat→Int) (_:Nat) (_:Nat→Int) (a b:Int):List (List Nat × jG):=[]
set_option maxRecDepth 100000 in
theorem xXD (ws:Wsp) (k:Nat) (q:Nat→Int) (k2:Nat) (q2:Nat→Int) (a b:Int):qYU Tf (xVY ws k q k2 q2 a b) (qZ (kKA ws k q k2 q2 a b)) 60 45 [.a (wP ws),.a [.lf k (fQ q)],.lf k2 (fQ q2),.n .i64 a,.n .i64 b] =
 (bif (gF1 cvl evl (ws,k,q)) then (bif (vlB ws k q) then (bif (gF1 cat eat (ws,a,b,k2,q2)) then (bif (atB ws a b k2 q2) then (bif (gF1 cmv emv (k,q,(vJJ .i64 ((-1) - a)),b)) then (bif (mvC q k (vJJ .i64 ((-1) - a)) b) then some (.v (.t [.a [.lf (bif mvC q k (vJJ .i64 ((-1) - a)) b then k else 0) (fun v=>[.n .i64 (mvQ q k (vJJ .i64 ((-1) - a)) b v)])],.b true]),[])
 else some (.v (.t [.a [.lf (bif mvC q k (vJJ .i64 ((-1) - a)) b then k else 0) (fun v=>[.n .i64 (mvQ q k (vJJ .i64 ((-1) - a)) b v)])],.b false]),[]))
 else none)
 else some (.v (.t [.a [.l []],.b false]),[]))
 else none)
 else some (.v (.t [.a [.l []],.b false]),[]))
 else none):=by kernel_rfl
theorem uQY (ws:Wsp) (k:Nat) (q:Nat→Int) (k2:Nat) (q2:Nat→Int) (a b:Int) (ho:okW ws):yK Tryz.prog 45 [.a (wP ws),.a [.lf k (fQ q)],.lf k2 (fQ q2),.n .i64 a,.n .i64 b] (.v (bif vlB ws k q && atB ws a b k2 q2 then .t [.a [.lf (bif mvC q k (vJJ .i64 ((-1) - a)) b then k else 0) (fQ (mvQ q k (vJJ .i64 ((-1) - a)) b))],.b (mvC q k (vJJ .i64 ((-1) - a)) b)] else .t [.a [.l []],.b false])):=by
 refine yQ (N:=60) (LO:=qZ (kKA ws k q k2 q2 a b)) kX zW (uK (l:=[(62,o_vl),(24,o_at),(92,o_mv)]) (m:=[]) ⟨xVE,xGL,xGU,trivial⟩ trivial) (fun p S hp => ?_) ?_
 ·refine zG (L:=qQ Tf 45) (l:=(kKA ws k q k2 q2 a b)) (show AllP _ (kKA ws k q k2 q2 a b) from trivial) p S hp
 ·refine (xXD ws k q k2 q2 a b).trans ?_;rw [kV (C:=cvl) (t:=(ws,k,q)) ho];cases hv:vlB ws k q with
  | false=>rfl
  | true =>
   rw [kV (C:=cat) (t:=(ws,a,b,k2,q2)) ho];cases ha:atB ws a b k2 q2 with
   | false=>rfl
   | true =>
    have:=xUY hv
    rw [kV (C:=cmv) (t:=(k,q,(vJJ .i64 ((-1) - a)),b)) (show k≤50 by omega)];cases mvC q k (vJJ .i64 ((-1) - a)) b <;> rfl
theorem uWF (ws:Wsp) (k:Nat) (q:Nat→Int) (k2:Nat) (q2:Nat→Int) (a b:Int) (ho:okW ws):yK Tryz.prog 45 [.a (wP ws),.a [.lf k (fQ q)],.lf k2 (fQ q2),.n .i64 a,.n .i64 b] (.v (.t [.a [.lf (bif tkC ws k q k2 q2 a b (vJJ .i64 ((-1) - a)) b then k else 0) (fQ (mvQ q k (vJJ .i64 ((-1) - a)) b))],.b (tkC ws k q k2 q2 a b (vJJ .i64 ((-1) - a)) b)])):=by
 have h0:=uQY ws k q k2 q2 a b ho;unfold tkC;cases hv:vlB ws k q with
 | false=>rw [hv] at h0; exact qJZ (Same.t (xs:=[_,_]) ⟨Same.a (xs:=[_]) ⟨Same.lf rfl,trivial⟩,fun _ _ _ h=>h,trivial⟩) h0
 | true =>
  cases ha:atB ws a b k2 q2 with
  | false=>rw [hv,ha] at h0; exact qJZ (Same.t (xs:=[_,_]) ⟨Same.a (xs:=[_]) ⟨Same.lf rfl,trivial⟩,fun _ _ _ h=>h,trivial⟩) h0
  | true=>rw [hv,ha] at h0; simpa using h0
def cpt:Wsp × Nat × (Nat→Int) × Nat × (Nat→Int) × Int × Int→Prop:=fun t=>match t with | (ws,_,_,_,_,_,_)=>okW ws
def ept:Wsp × Nat × (Nat→Int) × Nat × (Nat→Int) × Int × Int→List PV:=fun t=>match t with | (ws,k,q,k2,q2,a,b)=>[.a (wP ws),.a [.lf k (fQ q)],.lf k2 (fQ q2),.n .i64 a,.n .i64 b]
noncomputable def rpt:Wsp × Nat × (Nat→Int) × Nat × (Nat→Int) × Int × Int→Ret:=fun t=>match t with | (ws,k,q,k2,q2,a,b)=>.v (.t [.a [.lf (bif tkC ws k q k2 q2 a b (vJJ .i64 ((-1) - a)) b then k else 0) (fQ (mvQ q k (vJJ .i64 ((-1) - a)) b))],.b (tkC ws k q k2 q2 a b (vJJ .i64 ((-1) - a)) b)])
def dpt:List PV→Wsp × Nat × (Nat→Int) × Nat × (Nat→Int) × Int × Int:=fun ps=>match ps with
 | [.a r,.a [.lf k f],.lf k2 g,.n _ a,.n _ b]=>(unW r,k,unFQ f,k2,unFQ g,a,b)
 | _=>(unW [],0,fun _=>0,0,fun _=>0,0,0)
noncomputable def o_pt:List PV→Option (Bool × Ret):=o_fm dpt cpt ept rpt
theorem uHA:zJ Tryz.prog 45 o_pt:=qYX fun t h=>by
 obtain ⟨ws,k,q,k2,q2,a,b⟩:=t;exact uWF ws k q k2 q2 a b h
end Go.Proofs.YtgmbkkkbfbocnaaGreat.Hg
namespace Go.Proofs.YtgmbkkkbfbocnaaGreat.Hh
end Go.Proofs.YtgmbkkkbfbocnaaGreat.Hh
namespace Go.Proofs.YtgmbkkkbfbocnaaGreat.Hi
end Go.Proofs.YtgmbkkkbfbocnaaGreat.Hi
namespace Go.Proofs.YtgmbkkkbfbocnaaGreat.Hj
end Go.Proofs.YtgmbkkkbfbocnaaGreat.Hj
namespace Go.Proofs.YtgmbkkkbfbocnaaGreat.Hk
open Go.Rx Rt Go.Sx Go.RowKit Od Na Nb Nc Nx Nf Nl Nm Ga Gb Gc Gd Ge Gf Gg Ha Hb Hc Hd He Hf Hg Hh Hi Hj
theorem uKW {n:Nat} {l:Int} (h : -1≤l∧l < (n:Int)):isLk n l=true:=by
 unfold isLk;rw [vJQ h.1,vJQ h.2]; rfl
theorem uWV {k:Int} {p:Z3} (_:(-k≤p.x∧p.x≤k)∧(-k≤p.y∧p.y≤k)∧(-k≤p.z∧p.z≤k)):zOk k p=true:=by
 unfold zOk;rw [vYH (show ¬ p.x < -k by omega),vYH (show ¬ k < p.x by omega),vYH (show ¬ p.y < -k by omega),vYH (show ¬ k < p.y by omega),vYH (show ¬ p.z < -k by omega),vYH (show ¬ k < p.z by omega)]; rfl
end Go.Proofs.YtgmbkkkbfbocnaaGreat.Hk
namespace Go.Proofs.YtgmbkkkbfbocnaaGreat.Sn
open Go.Rx Rt Go.Sx Go.RowKit Od Nb
noncomputable def xVQ (x k:Int):OrS:=orS [] []
noncomputable def kKU (x k:Int):List (List Nat × jG):=[]
set_option maxRecDepth 100000 in
theorem xXV (x k:Int):qYU Tf (xVQ x k) (qZ (kKU x k)) 60 20 [.n .i64 x,.n .i64 k] =
 (bif (decide (k=0)) then none
 else (bif (decide ((x.tmod k) < 0)) then some (.v (.n .i64 (vJJ .i64 ((x.tmod k) + k))),[])
 else some (.v (.n .i64 (x.tmod k)),[]))):=by kernel_rfl
theorem jJF (x k:Int) (hk:0 < k∧k≤9223372036854775807):yK Tryz.prog 20 [.n .i64 x,.n .i64 k] (.v (.n .i64 (x % k))):=by
 refine yQ (N:=60) (LO:=qZ (kKU x k)) kX zW (uK (l:=[]) (m:=[]) trivial trivial) (fun p S hp => ?_) ?_
 ·refine zG (L:=qQ Tf 20) (l:=(kKU x k)) (show AllP _ (kKU x k) from trivial) p S hp
 ·refine (xXV x k).trans ?_;have hk0:k ≠ 0:=by omega
  have h1:=Int.emod_nonneg x hk0;have h2:=Int.emod_lt_of_pos x hk.1;rw [vYH (show ¬ k=0 by omega),Int.tmod_eq_emod];by_cases h:0≤x ∨ k ∣ x
  ·rw [if_pos h,show ((0:Nat):Int)=0 from rfl,Int.sub_zero,vYH (show ¬ x % k < 0 by omega)];rfl
  ·rw [if_neg h,show ((k.natAbs:Nat):Int)=k by omega,vJQ (show x % k - k < 0 by omega),show vJJ .i64 (x % k - k + k)=x % k from by rw [show x % k - k + k=x % k by omega]; exact qV (by omega)];rfl
def crn:Int × Int→Prop:=fun t=>match t with | (_,k)=>0 < k∧k≤9223372036854775807
def ern:Int × Int→List PV:=fun t=>match t with | (x,k)=>[.n .i64 x,.n .i64 k]
noncomputable def rrn:Int × Int→Ret:=fun t=>match t with | (x,k)=>.v (.n .i64 (x % k))
def drn:List PV→Int × Int:=fun ps=>match ps with
 | [.n _ x,.n _ k]=>(x,k)
 | _=>(0,0)
noncomputable def o_rn:List PV→Option (Bool × Ret):=o_fm drn crn ern rrn
theorem ok_rn:zJ Tryz.prog 20 o_rn:=qYX fun t h=>by
 obtain ⟨x,k⟩:=t;exact jJF x k h
noncomputable def ornx (w m:Nat) (e:Nat→Int) (k:Int):OrS:=orS [(20,o_rn)] []
noncomputable def lsnx (w m:Nat) (e:Nat→Int) (k:Int):List (List Nat × jG):=[]
set_option maxRecDepth 100000 in
theorem pxnx (w m:Nat) (e:Nat→Int) (k:Int):jZX Tf (ornx w m e k) (qZ (lsnx w m e k)) 60 30 [.p 1000000 0,.v (.n .i64 k)] [.lf w (fQ e),.n .i64 (m:Int)] =
 (bif (decide ((w:Int)≤(m:Int))) then some (.v (.t [.n .i64 0,.lf w (fQ e),.n .i64 (m:Int)]),[])
 else (bif (inB (vJJ .i64 ((vJJ .i64 ((m:Int) + 1)) - 1)) w) then (bif (gF1 crn ern ((e ((vJJ .i64 ((vJJ .i64 ((m:Int) + 1)) - 1))).toNat),k)) then some (.v (.t [.n .i64 ((e ((vJJ .i64 ((vJJ .i64 ((m:Int) + 1)) - 1))).toNat) % k),.lf w (fQ e),.n .i64 (vJJ .i64 ((m:Int) + 1))]),[])
 else none)
 else none)):=by kernel_rfl
theorem uWI (w m:Nat) (e:Nat→Int) (k:Int) (_:m≤w) (_:w≤9223372036854775807) (hk:0 < k∧k≤9223372036854775807):qWG Tryz.prog 30 [.p 1000000 0,.v (.n .i64 k)] [.lf w (fQ e),.n .i64 (m:Int)] (.n .i64 (nxV e w m k)) ([.lf w (fQ e),.n .i64 ((min (m + 1) w:Nat):Int)]):=by
 refine qXW (N:=60) (LO:=qZ (lsnx w m e k)) kX zW (uK (l:=[(20,o_rn)]) (m:=[]) ⟨ok_rn,trivial⟩ trivial) (fun p S hp => ?_) ?_
 ·refine zG (L:=qQ Tf 30) (l:=(lsnx w m e k)) (show AllP _ (lsnx w m e k) from trivial) p S hp
 ·refine (pxnx w m e k).trans ?_;unfold nxV eW;by_cases h:m < w
  ·have h1:vJJ .i64 ((m:Int) + 1)=(m:Int) + 1:=qV (by omega);have h2:vJJ .i64 ((m:Int) + 1 - 1)=((m:Nat):Int):=by rw [qV (by omega)]; omega
   rw [vYH (show ¬ (w:Int)≤(m:Int) by omega),h1,h2,yV h,toN,kV (C:=crn) (t:=(_,k)) hk,show Nat.blt m w=true from by rw [Nat.blt_eq]; exact h,show min (m + 1) w=m + 1 by omega];rfl
  ·rw [vJQ (show (w:Int)≤(m:Int) by omega),show Nat.blt m w=false from by rw [Bool.eq_false_iff,ne_eq,Nat.blt_eq]; exact h,show min (m + 1) w=m by omega]
   simp
def cnx:Nat × Nat × (Nat→Int) × Int→Prop:=fun t=>match t with | (w,m,_,k)=>m≤w∧w≤9223372036854775807∧0 < k∧k≤9223372036854775807
def hnx:Nat × Nat × (Nat→Int) × Int→List HV:=fun t=>match t with | (_,_,_,k)=>[.p pid 0,.v (.n .i64 k)]
def enx:Nat × Nat × (Nat→Int) × Int→List PV:=fun t=>match t with | (w,m,e,_)=>[.lf w (fQ e),.n .i64 (m:Int)]
noncomputable def xnx:Nat × Nat × (Nat→Int) × Int→PV:=fun t=>match t with | (w,m,e,k)=>.n .i64 (nxV e w m k)
noncomputable def qnx:Nat × Nat × (Nat→Int) × Int→List PV:=fun t=>match t with | (w,m,e,_)=>[.lf w (fQ e),.n .i64 ((min (m + 1) w:Nat):Int)]
def dnx:List HV→List PV→Nat × Nat × (Nat→Int) × Int:=fun hs ps=>match hs,ps with
 | [_,.v (.n _ k)],[.lf w f,.n _ c]=>(w,c.toNat,unFQ f,k)
 | _,_=>(0,0,fun _=>0,0)
noncomputable def o_nx:List HV→List PV→Option (Bool × (PV × List PV)):=o_fb dnx cnx hnx enx xnx qnx
theorem jZI:zVW Tryz.prog 30 o_nx:=kJG fun t h=>by
 obtain ⟨w,m,e,k⟩:=t;exact uWI w m e k h.1 h.2.1 h.2.2
def kdF (x:Int):Int:=(bif (decide (x=0)) then 3 else (bif (decide ((x - 1)=0)) then 3 else (bif (decide (((x - 1) - 1)=0)) then 1 else (bif (decide ((((x - 1) - 1) - 1)=0)) then 2 else (bif (decide (((((x - 1) - 1) - 1) - 1)=0)) then 4 else (bif (decide ((((((x - 1) - 1) - 1) - 1) - 1)=0)) then 5 else (bif (decide (((((((x - 1) - 1) - 1) - 1) - 1) - 1)=0)) then 3 else 0)))))))
def abcB:ByteArray:=ByteArray.mk #[97,98,99,100,101,102,103,104,105,106]
def ltrI (i:Int):ByteArray:=abcB.extract i.toNat (vJJ .i64 (i + 1)).toNat
theorem lY {x:Int} (_:0≤x∧x < 5) : -65536≤vJJ .i64 (vJJ .i64 (x - 2) * 32768)∧vJJ .i64 (vJJ .i64 (x - 2) * 32768)≤65536:=by
 rw [show vJJ .i64 (x - 2)=x - 2 from qV (by omega),qV (by omega)]; omega
theorem lZ {x:Int} (_:0≤x∧x < 3) : -32768≤vJJ .i64 (vJJ .i64 (x - 1) * 32768)∧vJJ .i64 (vJJ .i64 (x - 1) * 32768)≤32768:=by
 rw [show vJJ .i64 (x - 1)=x - 1 from qV (by omega),qV (by omega)]; omega
theorem lLo {x:Int} (_:0≤x∧x < 3) : -131072≤vJJ .i64 (vJJ .i64 (0 - x) * 65536)∧vJJ .i64 (vJJ .i64 (0 - x) * 65536)≤0:=by
 rw [show vJJ .i64 (0 - x)=0 - x from qV (by omega),qV (by omega)]; omega
theorem lHi {x:Int} (_:0≤x∧x < 4):0≤vJJ .i64 (x * 32768)∧vJJ .i64 (x * 32768)≤98304:=by
 rw [qV (by omega)]; omega
theorem lLt {x:Int} (_:0≤x∧x < 5) : -32768≤vJJ .i64 ((vJJ .i64 (vJJ .i64 (0 - x) * 65536)).tdiv 8)∧vJJ .i64 ((vJJ .i64 (vJJ .i64 (0 - x) * 65536)).tdiv 8)≤0:=by
 have e:((0 - x) * 65536).tdiv 8 = -(x * 8192):=by
  rw [show (0 - x) * 65536 = -(x * 8192) * 8 by omega];exact Int.mul_tdiv_cancel _ (by decide)
 rw [show vJJ .i64 (0 - x)=0 - x from qV (by omega),show vJJ .i64 ((0 - x) * 65536)=(0 - x) * 65536 from qV (by omega),e,qV (by omega)]; omega
theorem lHt {x y:Int} (_:0≤x∧x < 4) (g:0≤y∧y < 3):0≤vJJ .i64 (vJJ .i64 ((vJJ .i64 (vJJ .i64 (1 + x) * 65536)).tdiv 8) + y)∧vJJ .i64 (vJJ .i64 ((vJJ .i64 (vJJ .i64 (1 + x) * 65536)).tdiv 8) + y)≤40000:=by
 have e:((1 + x) * 65536).tdiv 8=(1 + x) * 8192:=by
  rw [show (1 + x) * 65536=((1 + x) * 8192) * 8 by omega];exact Int.mul_tdiv_cancel _ (by decide)
 rw [show vJJ .i64 (1 + x)=1 + x from qV (by omega),show vJJ .i64 ((1 + x) * 65536)=(1 + x) * 65536 from qV (by omega),e,show vJJ .i64 ((1 + x) * 8192)=(1 + x) * 8192 from qV (by omega),qV (by omega)]; omega
theorem lW {x:Int} (_:0≤x∧x < 4):1≤vJJ .i64 (1 + x)∧vJJ .i64 (1 + x)≤4:=by rw [qV (by omega)]; omega
theorem lA {x:Int} (_:0≤x∧x < 3):65536≤vJJ .i64 (65536 + x)∧vJJ .i64 (65536 + x)≤65538:=by rw [qV (by omega)]; omega
theorem fQI (x:Int):0≤kdF x∧kdF x≤6:=by
 unfold kdF;simp only [Bool.cond_eq_ite]
 repeat' split
 all_goals omega
theorem qJJ {k lo hi:Int} (_:0≤k∧k≤6) (h1:k=0→lo=0∧hi=0) (_: -524288≤lo∧hi≤524288) : -limK k≤lo∧hi≤limK k:=by
 unfold limK;split
 ·omega
 ·split
  ·omega
  ·have:=h1 (by omega)
   omega
def JM (i:Nat) (j:J):Prop:=j.name=ltrI i∧JF i j∧(-1000000≤j.lo∧j.hi≤1000000)
noncomputable def orjt:OrS:=orS [] [(30,o_nx)]
set_option maxRecDepth 100000 in
theorem pxjt (w m:Nat) (e:Nat→Int) (i:Int):jZX Tf orjt (qZ []) 60 77 [.p 1000000 0,.v (.n .i64 i)] [.lf w (fQ e),.n .i64 (m:Int)] =
 (bif (inS (some i) (some (vJJ .i64 (i + 1))) 10) then (bif (gB1 cnx hnx enx (w,m,e,4)) then (bif (gB1 cnx hnx enx (w,(mA w m 1),e,3)) then (bif (gB1 cnx hnx enx (w,(mA w m 2),e,8)) then (bif (inB (nxV e w (mA w m 2) 8) 8 && true) then (bif (gB1 cnx hnx enx (w,(mA w m 3),e,4)) then (bif (decide ((nxV e w (mA w m 3) 4)=1)) then (bif (decide (0 < i)) then (bif (gB1 cnx hnx enx (w,(mA w m 4),e,5)) then (bif (gB1 cnx hnx enx (w,(mA w m 5),e,3)) then (bif (decide ((kdF (nxV e w (mA w m 2) 8))=0)) then some (.v (.t [.a [.s (ltrI i),.n .i64 (kdF (nxV e w (mA w m 2) 8)),.n .i64 (-1),.n .i64 131072,.n .i64 (vJJ .i64 ((vJJ .i64 ((nxV e w (mA w m 4) 5) - 2)) * 32768)),.n .i64 (vJJ .i64 ((vJJ .i64 ((nxV e w (mA w m 5) 3) - 1)) * 32768)),.n .i64 0,.n .i64 0,.n .i64 (vJJ .i64 (1 + (nxV e w m 4))),.n .i64 65536,.n .i64 (vJJ .i64 (65536 + (nxV e w (mA w m 1) 3))),.n .i64 327680],.lf w (fQ e),.n .i64 ((mA w m 6:Nat):Int)]),[])
 else (bif (decide ((kdF (nxV e w (mA w m 2) 8))=4)) then (bif (gB1 cnx hnx enx (w,(mA w m 6),e,3)) then (bif (gB1 cnx hnx enx (w,(mA w m 7),e,4)) then some (.v (.t [.a [.s (ltrI i),.n .i64 (kdF (nxV e w (mA w m 2) 8)),.n .i64 (-1),.n .i64 131072,.n .i64 (vJJ .i64 ((vJJ .i64 ((nxV e w (mA w m 4) 5) - 2)) * 32768)),.n .i64 (vJJ .i64 ((vJJ .i64 ((nxV e w (mA w m 5) 3) - 1)) * 32768)),.n .i64 (vJJ .i64 ((vJJ .i64 (0 - (nxV e w (mA w m 6) 3))) * 65536)),.n .i64 (vJJ .i64 ((nxV e w (mA w m 7) 4) * 32768)),.n .i64 (vJJ .i64 (1 + (nxV e w m 4))),.n .i64 65536,.n .i64 (vJJ .i64 (65536 + (nxV e w (mA w m 1) 3))),.n .i64 327680],.lf w (fQ e),.n .i64 ((mA w m 8:Nat):Int)]),[])
 else none)
 else none)
 else (bif (decide ((kdF (nxV e w (mA w m 2) 8))=5)) then (bif (gB1 cnx hnx enx (w,(mA w m 6),e,3)) then (bif (gB1 cnx hnx enx (w,(mA w m 7),e,4)) then some (.v (.t [.a [.s (ltrI i),.n .i64 (kdF (nxV e w (mA w m 2) 8)),.n .i64 (-1),.n .i64 131072,.n .i64 (vJJ .i64 ((vJJ .i64 ((nxV e w (mA w m 4) 5) - 2)) * 32768)),.n .i64 (vJJ .i64 ((vJJ .i64 ((nxV e w (mA w m 5) 3) - 1)) * 32768)),.n .i64 (vJJ .i64 ((vJJ .i64 (0 - (nxV e w (mA w m 6) 3))) * 65536)),.n .i64 (vJJ .i64 ((nxV e w (mA w m 7) 4) * 32768)),.n .i64 (vJJ .i64 (1 + (nxV e w m 4))),.n .i64 65536,.n .i64 (vJJ .i64 (65536 + (nxV e w (mA w m 1) 3))),.n .i64 327680],.lf w (fQ e),.n .i64 ((mA w m 8:Nat):Int)]),[])
 else none)
 else none)
 else (bif (gB1 cnx hnx enx (w,(mA w m 6),e,5)) then (bif (gB1 cnx hnx enx (w,(mA w m 7),e,4)) then (bif (gB1 cnx hnx enx (w,(mA w m 8),e,3)) then some (.v (.t [.a [.s (ltrI i),.n .i64 (kdF (nxV e w (mA w m 2) 8)),.n .i64 (-1),.n .i64 131072,.n .i64 (vJJ .i64 ((vJJ .i64 ((nxV e w (mA w m 4) 5) - 2)) * 32768)),.n .i64 (vJJ .i64 ((vJJ .i64 ((nxV e w (mA w m 5) 3) - 1)) * 32768)),.n .i64 (vJJ .i64 ((vJJ .i64 ((vJJ .i64 (0 - (nxV e w (mA w m 6) 5))) * 65536)).tdiv 8)),.n .i64 (vJJ .i64 ((vJJ .i64 ((vJJ .i64 ((vJJ .i64 (1 + (nxV e w (mA w m 7) 4))) * 65536)).tdiv 8)) + (nxV e w (mA w m 8) 3))),.n .i64 (vJJ .i64 (1 + (nxV e w m 4))),.n .i64 65536,.n .i64 (vJJ .i64 (65536 + (nxV e w (mA w m 1) 3))),.n .i64 327680],.lf w (fQ e),.n .i64 ((mA w m 9:Nat):Int)]),[])
 else none)
 else none)
 else none))))
 else none)
 else none)
 else (bif (decide ((kdF (nxV e w (mA w m 2) 8))=0)) then some (.v (.t [.a [.s (ltrI i),.n .i64 (kdF (nxV e w (mA w m 2) 8)),.n .i64 (-1),.n .i64 0,.n .i64 0,.n .i64 0,.n .i64 0,.n .i64 0,.n .i64 (vJJ .i64 (1 + (nxV e w m 4))),.n .i64 65536,.n .i64 (vJJ .i64 (65536 + (nxV e w (mA w m 1) 3))),.n .i64 327680],.lf w (fQ e),.n .i64 ((mA w m 4:Nat):Int)]),[])
 else (bif (decide ((kdF (nxV e w (mA w m 2) 8))=4)) then (bif (gB1 cnx hnx enx (w,(mA w m 4),e,3)) then (bif (gB1 cnx hnx enx (w,(mA w m 5),e,4)) then some (.v (.t [.a [.s (ltrI i),.n .i64 (kdF (nxV e w (mA w m 2) 8)),.n .i64 (-1),.n .i64 0,.n .i64 0,.n .i64 0,.n .i64 (vJJ .i64 ((vJJ .i64 (0 - (nxV e w (mA w m 4) 3))) * 65536)),.n .i64 (vJJ .i64 ((nxV e w (mA w m 5) 4) * 32768)),.n .i64 (vJJ .i64 (1 + (nxV e w m 4))),.n .i64 65536,.n .i64 (vJJ .i64 (65536 + (nxV e w (mA w m 1) 3))),.n .i64 327680],.lf w (fQ e),.n .i64 ((mA w m 6:Nat):Int)]),[])
 else none)
 else none)
 else (bif (decide ((kdF (nxV e w (mA w m 2) 8))=5)) then (bif (gB1 cnx hnx enx (w,(mA w m 4),e,3)) then (bif (gB1 cnx hnx enx (w,(mA w m 5),e,4)) then some (.v (.t [.a [.s (ltrI i),.n .i64 (kdF (nxV e w (mA w m 2) 8)),.n .i64 (-1),.n .i64 0,.n .i64 0,.n .i64 0,.n .i64 (vJJ .i64 ((vJJ .i64 (0 - (nxV e w (mA w m 4) 3))) * 65536)),.n .i64 (vJJ .i64 ((nxV e w (mA w m 5) 4) * 32768)),.n .i64 (vJJ .i64 (1 + (nxV e w m 4))),.n .i64 65536,.n .i64 (vJJ .i64 (65536 + (nxV e w (mA w m 1) 3))),.n .i64 327680],.lf w (fQ e),.n .i64 ((mA w m 6:Nat):Int)]),[])
 else none)
 else none)
 else (bif (gB1 cnx hnx enx (w,(mA w m 4),e,5)) then (bif (gB1 cnx hnx enx (w,(mA w m 5),e,4)) then (bif (gB1 cnx hnx enx (w,(mA w m 6),e,3)) then some (.v (.t [.a [.s (ltrI i),.n .i64 (kdF (nxV e w (mA w m 2) 8)),.n .i64 (-1),.n .i64 0,.n .i64 0,.n .i64 0,.n .i64 (vJJ .i64 ((vJJ .i64 ((vJJ .i64 (0 - (nxV e w (mA w m 4) 5))) * 65536)).tdiv 8)),.n .i64 (vJJ .i64 ((vJJ .i64 ((vJJ .i64 ((vJJ .i64 (1 + (nxV e w (mA w m 5) 4))) * 65536)).tdiv 8)) + (nxV e w (mA w m 6) 3))),.n .i64 (vJJ .i64 (1 + (nxV e w m 4))),.n .i64 65536,.n .i64 (vJJ .i64 (65536 + (nxV e w (mA w m 1) 3))),.n .i64 327680],.lf w (fQ e),.n .i64 ((mA w m 7:Nat):Int)]),[])
 else none)
 else none)
 else none)))))
 else (bif (decide (0 < i)) then (bif (gB1 cnx hnx enx (w,(mA w m 4),e,5)) then (bif (gB1 cnx hnx enx (w,(mA w m 5),e,3)) then (bif (decide ((kdF (nxV e w (mA w m 2) 8))=0)) then some (.v (.t [.a [.s (ltrI i),.n .i64 (kdF (nxV e w (mA w m 2) 8)),.n .i64 (vJJ .i64 (i - 1)),.n .i64 131072,.n .i64 (vJJ .i64 ((vJJ .i64 ((nxV e w (mA w m 4) 5) - 2)) * 32768)),.n .i64 (vJJ .i64 ((vJJ .i64 ((nxV e w (mA w m 5) 3) - 1)) * 32768)),.n .i64 0,.n .i64 0,.n .i64 (vJJ .i64 (1 + (nxV e w m 4))),.n .i64 65536,.n .i64 (vJJ .i64 (65536 + (nxV e w (mA w m 1) 3))),.n .i64 327680],.lf w (fQ e),.n .i64 ((mA w m 6:Nat):Int)]),[])
 else (bif (decide ((kdF (nxV e w (mA w m 2) 8))=4)) then (bif (gB1 cnx hnx enx (w,(mA w m 6),e,3)) then (bif (gB1 cnx hnx enx (w,(mA w m 7),e,4)) then some (.v (.t [.a [.s (ltrI i),.n .i64 (kdF (nxV e w (mA w m 2) 8)),.n .i64 (vJJ .i64 (i - 1)),.n .i64 131072,.n .i64 (vJJ .i64 ((vJJ .i64 ((nxV e w (mA w m 4) 5) - 2)) * 32768)),.n .i64 (vJJ .i64 ((vJJ .i64 ((nxV e w (mA w m 5) 3) - 1)) * 32768)),.n .i64 (vJJ .i64 ((vJJ .i64 (0 - (nxV e w (mA w m 6) 3))) * 65536)),.n .i64 (vJJ .i64 ((nxV e w (mA w m 7) 4) * 32768)),.n .i64 (vJJ .i64 (1 + (nxV e w m 4))),.n .i64 65536,.n .i64 (vJJ .i64 (65536 + (nxV e w (mA w m 1) 3))),.n .i64 327680],.lf w (fQ e),.n .i64 ((mA w m 8:Nat):Int)]),[])
 else none)
 else none)
 else (bif (decide ((kdF (nxV e w (mA w m 2) 8))=5)) then (bif (gB1 cnx hnx enx (w,(mA w m 6),e,3)) then (bif (gB1 cnx hnx enx (w,(mA w m 7),e,4)) then some (.v (.t [.a [.s (ltrI i),.n .i64 (kdF (nxV e w (mA w m 2) 8)),.n .i64 (vJJ .i64 (i - 1)),.n .i64 131072,.n .i64 (vJJ .i64 ((vJJ .i64 ((nxV e w (mA w m 4) 5) - 2)) * 32768)),.n .i64 (vJJ .i64 ((vJJ .i64 ((nxV e w (mA w m 5) 3) - 1)) * 32768)),.n .i64 (vJJ .i64 ((vJJ .i64 (0 - (nxV e w (mA w m 6) 3))) * 65536)),.n .i64 (vJJ .i64 ((nxV e w (mA w m 7) 4) * 32768)),.n .i64 (vJJ .i64 (1 + (nxV e w m 4))),.n .i64 65536,.n .i64 (vJJ .i64 (65536 + (nxV e w (mA w m 1) 3))),.n .i64 327680],.lf w (fQ e),.n .i64 ((mA w m 8:Nat):Int)]),[])
 else none)
 else none)
 else (bif (gB1 cnx hnx enx (w,(mA w m 6),e,5)) then (bif (gB1 cnx hnx enx (w,(mA w m 7),e,4)) then (bif (gB1 cnx hnx enx (w,(mA w m 8),e,3)) then some (.v (.t [.a [.s (ltrI i),.n .i64 (kdF (nxV e w (mA w m 2) 8)),.n .i64 (vJJ .i64 (i - 1)),.n .i64 131072,.n .i64 (vJJ .i64 ((vJJ .i64 ((nxV e w (mA w m 4) 5) - 2)) * 32768)),.n .i64 (vJJ .i64 ((vJJ .i64 ((nxV e w (mA w m 5) 3) - 1)) * 32768)),.n .i64 (vJJ .i64 ((vJJ .i64 ((vJJ .i64 (0 - (nxV e w (mA w m 6) 5))) * 65536)).tdiv 8)),.n .i64 (vJJ .i64 ((vJJ .i64 ((vJJ .i64 ((vJJ .i64 (1 + (nxV e w (mA w m 7) 4))) * 65536)).tdiv 8)) + (nxV e w (mA w m 8) 3))),.n .i64 (vJJ .i64 (1 + (nxV e w m 4))),.n .i64 65536,.n .i64 (vJJ .i64 (65536 + (nxV e w (mA w m 1) 3))),.n .i64 327680],.lf w (fQ e),.n .i64 ((mA w m 9:Nat):Int)]),[])
 else none)
 else none)
 else none))))
 else none)
 else none)
 else (bif (decide ((kdF (nxV e w (mA w m 2) 8))=0)) then some (.v (.t [.a [.s (ltrI i),.n .i64 (kdF (nxV e w (mA w m 2) 8)),.n .i64 (vJJ .i64 (i - 1)),.n .i64 0,.n .i64 0,.n .i64 0,.n .i64 0,.n .i64 0,.n .i64 (vJJ .i64 (1 + (nxV e w m 4))),.n .i64 65536,.n .i64 (vJJ .i64 (65536 + (nxV e w (mA w m 1) 3))),.n .i64 327680],.lf w (fQ e),.n .i64 ((mA w m 4:Nat):Int)]),[])
 else (bif (decide ((kdF (nxV e w (mA w m 2) 8))=4)) then (bif (gB1 cnx hnx enx (w,(mA w m 4),e,3)) then (bif (gB1 cnx hnx enx (w,(mA w m 5),e,4)) then some (.v (.t [.a [.s (ltrI i),.n .i64 (kdF (nxV e w (mA w m 2) 8)),.n .i64 (vJJ .i64 (i - 1)),.n .i64 0,.n .i64 0,.n .i64 0,.n .i64 (vJJ .i64 ((vJJ .i64 (0 - (nxV e w (mA w m 4) 3))) * 65536)),.n .i64 (vJJ .i64 ((nxV e w (mA w m 5) 4) * 32768)),.n .i64 (vJJ .i64 (1 + (nxV e w m 4))),.n .i64 65536,.n .i64 (vJJ .i64 (65536 + (nxV e w (mA w m 1) 3))),.n .i64 327680],.lf w (fQ e),.n .i64 ((mA w m 6:Nat):Int)]),[])
 else none)
 else none)
 else (bif (decide ((kdF (nxV e w (mA w m 2) 8))=5)) then (bif (gB1 cnx hnx enx (w,(mA w m 4),e,3)) then (bif (gB1 cnx hnx enx (w,(mA w m 5),e,4)) then some (.v (.t [.a [.s (ltrI i),.n .i64 (kdF (nxV e w (mA w m 2) 8)),.n .i64 (vJJ .i64 (i - 1)),.n .i64 0,.n .i64 0,.n .i64 0,.n .i64 (vJJ .i64 ((vJJ .i64 (0 - (nxV e w (mA w m 4) 3))) * 65536)),.n .i64 (vJJ .i64 ((nxV e w (mA w m 5) 4) * 32768)),.n .i64 (vJJ .i64 (1 + (nxV e w m 4))),.n .i64 65536,.n .i64 (vJJ .i64 (65536 + (nxV e w (mA w m 1) 3))),.n .i64 327680],.lf w (fQ e),.n .i64 ((mA w m 6:Nat):Int)]),[])
 else none)
 else none)
 else (bif (gB1 cnx hnx enx (w,(mA w m 4),e,5)) then (bif (gB1 cnx hnx enx (w,(mA w m 5),e,4)) then (bif (gB1 cnx hnx enx (w,(mA w m 6),e,3)) then some (.v (.t [.a [.s (ltrI i),.n .i64 (kdF (nxV e w (mA w m 2) 8)),.n .i64 (vJJ .i64 (i - 1)),.n .i64 0,.n .i64 0,.n .i64 0,.n .i64 (vJJ .i64 ((vJJ .i64 ((vJJ .i64 (0 - (nxV e w (mA w m 4) 5))) * 65536)).tdiv 8)),.n .i64 (vJJ .i64 ((vJJ .i64 ((vJJ .i64 ((vJJ .i64 (1 + (nxV e w (mA w m 5) 4))) * 65536)).tdiv 8)) + (nxV e w (mA w m 6) 3))),.n .i64 (vJJ .i64 (1 + (nxV e w m 4))),.n .i64 65536,.n .i64 (vJJ .i64 (65536 + (nxV e w (mA w m 1) 3))),.n .i64 327680],.lf w (fQ e),.n .i64 ((mA w m 7:Nat):Int)]),[])
 else none)
 else none)
 else none))))))
 else none)
 else none)
 else none)
 else none)
 else none)
 else none):=by kernel_rfl
theorem kUL (w m:Nat) (e:Nat→Int) (i:Nat) (hm:m≤w) (hw:w≤9223372036854775807) (_:i < 10):∃ (j:J) (m':Nat),(m'≤w∧JM i j)∧qWG Tryz.prog 77 [.p pid 0,.v (.n .i64 (i:Int))] [.lf w (fQ e),.n .i64 (m:Int)] (.a (jp j)) [.lf w (fQ e),.n .i64 (m':Int)]:=by
 have key:∃ (j:J) (m':Nat),(m'≤w∧JM i j)∧jZX Tf orjt (qZ []) 60 77 [.p 1000000 0,.v (.n .i64 (i:Int))] [.lf w (fQ e),.n .i64 (m:Int)]=some (.v (.t [.a (jp j),.lf w (fQ e),.n .i64 (m':Int)]),[]):=by
  rw [pxjt w m e i];have hs:inS (some (i:Int)) (some (vJJ .i64 ((i:Int) + 1))) 10=true:=by
   rw [qV (by omega)];unfold inS loOf hiOf;simp only [vQJ,decide_eq_true_eq];omega
  have kb:=fQI (nxV e w (mA w m 2) 8);have k8:inB (nxV e w (mA w m 2) 8) 8=true:=by
   have:=qQV (e:=e) (w:=w) (m:=mA w m 2) (k:=8) (by decide)
   unfold inB;rw [vJQ this.1,vJQ (by omega)]; rfl
  simp only [hs,k8,vZJ,vYV,uZ (C:=cnx) (t:=(w,m,e,4)) ⟨hm,hw,by decide,by decide⟩,uZ (C:=cnx) (t:=(w,(mA w m 1),e,3)) ⟨yG hm 1,hw,by decide,by decide⟩,uZ (C:=cnx) (t:=(w,(mA w m 2),e,8)) ⟨yG hm 2,hw,by decide,by decide⟩,uZ (C:=cnx) (t:=(w,(mA w m 3),e,4)) ⟨yG hm 3,hw,by decide,by decide⟩,uZ (C:=cnx) (t:=(w,(mA w m 4),e,5)) ⟨yG hm 4,hw,by decide,by decide⟩,uZ (C:=cnx) (t:=(w,(mA w m 5),e,3)) ⟨yG hm 5,hw,by decide,by decide⟩,uZ (C:=cnx) (t:=(w,(mA w m 6),e,3)) ⟨yG hm 6,hw,by decide,by decide⟩,uZ (C:=cnx) (t:=(w,(mA w m 7),e,4)) ⟨yG hm 7,hw,by decide,by decide⟩,uZ (C:=cnx) (t:=(w,(mA w m 6),e,5)) ⟨yG hm 6,hw,by decide,by decide⟩,uZ (C:=cnx) (t:=(w,(mA w m 8),e,3)) ⟨yG hm 8,hw,by decide,by decide⟩,uZ (C:=cnx) (t:=(w,(mA w m 4),e,3)) ⟨yG hm 4,hw,by decide,by decide⟩,uZ (C:=cnx) (t:=(w,(mA w m 5),e,4)) ⟨yG hm 5,hw,by decide,by decide⟩];have b0:=qQV (e:=e) (w:=w) (m:=m) (k:=4) (by decide);have b1:=qQV (e:=e) (w:=w) (m:=mA w m 1) (k:=3) (by decide);have f0:=lW b0;have f1:=lA b1;have y4:=lY (qQV (e:=e) (w:=w) (m:=mA w m 4) (k:=5) (by decide));have z5:=lZ (qQV (e:=e) (w:=w) (m:=mA w m 5) (k:=3) (by decide));have lo6:=lLo (qQV (e:=e) (w:=w) (m:=mA w m 6) (k:=3) (by decide));have hi7:=lHi (qQV (e:=e) (w:=w) (m:=mA w m 7) (k:=4) (by decide));have lt6:=lLt (qQV (e:=e) (w:=w) (m:=mA w m 6) (k:=5) (by decide));have ht7:=lHt (qQV (e:=e) (w:=w) (m:=mA w m 7) (k:=4) (by decide)) (qQV (e:=e) (w:=w) (m:=mA w m 8) (k:=3) (by decide));have lo4:=lLo (qQV (e:=e) (w:=w) (m:=mA w m 4) (k:=3) (by decide));have hi5:=lHi (qQV (e:=e) (w:=w) (m:=mA w m 5) (k:=4) (by decide));have lt4:=lLt (qQV (e:=e) (w:=w) (m:=mA w m 4) (k:=5) (by decide));have ht5:=lHt (qQV (e:=e) (w:=w) (m:=mA w m 5) (k:=4) (by decide)) (qQV (e:=e) (w:=w) (m:=mA w m 6) (k:=3) (by decide));have hp:vJJ .i64 ((i:Int) - 1)=(i:Int) - 1:=qV (by omega);rw [hp];generalize kdF (nxV e w (mA w m 2) 8)=kd at kb ⊢;by_cases c1:(nxV e w (mA w m 3) 4)=1
  ·simp only [c1,decide_true,vYV];by_cases c2:(0:Int) < (i:Int)
   ·simp only [c2,decide_true,vYV];by_cases c3:kd=0
    ·simp only [c3,decide_true,vYV];exact ⟨⟨ltrI i,0,(-1),⟨131072,(vJJ .i64 ((vJJ .i64 ((nxV e w (mA w m 4) 5) - 2)) * 32768)),(vJJ .i64 ((vJJ .i64 ((nxV e w (mA w m 5) 3) - 1)) * 32768))⟩,0,0,(vJJ .i64 (1 + (nxV e w m 4))),65536,(vJJ .i64 (65536 + (nxV e w (mA w m 1) 3))),327680⟩,mA w m 6,⟨yG hm 6,rfl,⟨by dsimp only; omega,by dsimp only; omega,by dsimp only; omega,by dsimp only; omega,by dsimp only; omega,⟨by dsimp only; omega,qJJ (by dsimp only; omega) (fun _=>⟨rfl,rfl⟩) (by dsimp only; omega)⟩,by dsimp only; omega,by dsimp only; omega,by dsimp only; omega,by dsimp only; omega⟩,by dsimp only; omega⟩,rfl⟩
    ·simp only [c3,decide_false,vYG];by_cases c4:kd=4
     ·simp only [c4,decide_true,vYV];exact ⟨⟨ltrI i,4,(-1),⟨131072,(vJJ .i64 ((vJJ .i64 ((nxV e w (mA w m 4) 5) - 2)) * 32768)),(vJJ .i64 ((vJJ .i64 ((nxV e w (mA w m 5) 3) - 1)) * 32768))⟩,(vJJ .i64 ((vJJ .i64 (0 - (nxV e w (mA w m 6) 3))) * 65536)),(vJJ .i64 ((nxV e w (mA w m 7) 4) * 32768)),(vJJ .i64 (1 + (nxV e w m 4))),65536,(vJJ .i64 (65536 + (nxV e w (mA w m 1) 3))),327680⟩,mA w m 8,⟨yG hm 8,rfl,⟨by dsimp only; omega,by dsimp only; omega,by dsimp only; omega,by dsimp only; omega,by dsimp only; omega,⟨by dsimp only; omega,qJJ (by dsimp only; omega) (fun h=>absurd (show (4:Int)=0 from h) (by decide)) (by dsimp only; omega)⟩,by dsimp only; omega,by dsimp only; omega,by dsimp only; omega,by dsimp only; omega⟩,by dsimp only; omega⟩,rfl⟩
     ·simp only [c4,decide_false,vYG];by_cases c5:kd=5
      ·simp only [c5,decide_true,vYV];exact ⟨⟨ltrI i,5,(-1),⟨131072,(vJJ .i64 ((vJJ .i64 ((nxV e w (mA w m 4) 5) - 2)) * 32768)),(vJJ .i64 ((vJJ .i64 ((nxV e w (mA w m 5) 3) - 1)) * 32768))⟩,(vJJ .i64 ((vJJ .i64 (0 - (nxV e w (mA w m 6) 3))) * 65536)),(vJJ .i64 ((nxV e w (mA w m 7) 4) * 32768)),(vJJ .i64 (1 + (nxV e w m 4))),65536,(vJJ .i64 (65536 + (nxV e w (mA w m 1) 3))),327680⟩,mA w m 8,⟨yG hm 8,rfl,⟨by dsimp only; omega,by dsimp only; omega,by dsimp only; omega,by dsimp only; omega,by dsimp only; omega,⟨by dsimp only; omega,qJJ (by dsimp only; omega) (fun h=>absurd (show (5:Int)=0 from h) (by decide)) (by dsimp only; omega)⟩,by dsimp only; omega,by dsimp only; omega,by dsimp only; omega,by dsimp only; omega⟩,by dsimp only; omega⟩,rfl⟩
      ·simp only [c5,decide_false,vYG];exact ⟨⟨ltrI i,kd,(-1),⟨131072,(vJJ .i64 ((vJJ .i64 ((nxV e w (mA w m 4) 5) - 2)) * 32768)),(vJJ .i64 ((vJJ .i64 ((nxV e w (mA w m 5) 3) - 1)) * 32768))⟩,(vJJ .i64 ((vJJ .i64 ((vJJ .i64 (0 - (nxV e w (mA w m 6) 5))) * 65536)).tdiv 8)),(vJJ .i64 ((vJJ .i64 ((vJJ .i64 ((vJJ .i64 (1 + (nxV e w (mA w m 7) 4))) * 65536)).tdiv 8)) + (nxV e w (mA w m 8) 3))),(vJJ .i64 (1 + (nxV e w m 4))),65536,(vJJ .i64 (65536 + (nxV e w (mA w m 1) 3))),327680⟩,mA w m 9,⟨yG hm 9,rfl,⟨by dsimp only; omega,by dsimp only; omega,by dsimp only; omega,by dsimp only; omega,by dsimp only; omega,⟨by dsimp only; omega,qJJ (by dsimp only; omega) (fun h=>absurd h c3) (by dsimp only; omega)⟩,by dsimp only; omega,by dsimp only; omega,by dsimp only; omega,by dsimp only; omega⟩,by dsimp only; omega⟩,rfl⟩
   ·simp only [c2,decide_false,vYG];by_cases c6:kd=0
    ·simp only [c6,decide_true,vYV];exact ⟨⟨ltrI i,0,(-1),⟨0,0,0⟩,0,0,(vJJ .i64 (1 + (nxV e w m 4))),65536,(vJJ .i64 (65536 + (nxV e w (mA w m 1) 3))),327680⟩,mA w m 4,⟨yG hm 4,rfl,⟨by dsimp only; omega,by dsimp only; omega,by dsimp only; omega,by dsimp only; omega,by dsimp only; omega,⟨by dsimp only; omega,qJJ (by dsimp only; omega) (fun _=>⟨rfl,rfl⟩) (by dsimp only; omega)⟩,by dsimp only; omega,by dsimp only; omega,by dsimp only; omega,by dsimp only; omega⟩,by dsimp only; omega⟩,rfl⟩
    ·simp only [c6,decide_false,vYG];by_cases c7:kd=4
     ·simp only [c7,decide_true,vYV];exact ⟨⟨ltrI i,4,(-1),⟨0,0,0⟩,(vJJ .i64 ((vJJ .i64 (0 - (nxV e w (mA w m 4) 3))) * 65536)),(vJJ .i64 ((nxV e w (mA w m 5) 4) * 32768)),(vJJ .i64 (1 + (nxV e w m 4))),65536,(vJJ .i64 (65536 + (nxV e w (mA w m 1) 3))),327680⟩,mA w m 6,⟨yG hm 6,rfl,⟨by dsimp only; omega,by dsimp only; omega,by dsimp only; omega,by dsimp only; omega,by dsimp only; omega,⟨by dsimp only; omega,qJJ (by dsimp only; omega) (fun h=>absurd (show (4:Int)=0 from h) (by decide)) (by dsimp only; omega)⟩,by dsimp only; omega,by dsimp only; omega,by dsimp only; omega,by dsimp only; omega⟩,by dsimp only; omega⟩,rfl⟩
     ·simp only [c7,decide_false,vYG];by_cases c8:kd=5
      ·simp only [c8,decide_true,vYV];exact ⟨⟨ltrI i,5,(-1),⟨0,0,0⟩,(vJJ .i64 ((vJJ .i64 (0 - (nxV e w (mA w m 4) 3))) * 65536)),(vJJ .i64 ((nxV e w (mA w m 5) 4) * 32768)),(vJJ .i64 (1 + (nxV e w m 4))),65536,(vJJ .i64 (65536 + (nxV e w (mA w m 1) 3))),327680⟩,mA w m 6,⟨yG hm 6,rfl,⟨by dsimp only; omega,by dsimp only; omega,by dsimp only; omega,by dsimp only; omega,by dsimp only; omega,⟨by dsimp only; omega,qJJ (by dsimp only; omega) (fun h=>absurd (show (5:Int)=0 from h) (by decide)) (by dsimp only; omega)⟩,by dsimp only; omega,by dsimp only; omega,by dsimp only; omega,by dsimp only; omega⟩,by dsimp only; omega⟩,rfl⟩
      ·simp only [c8,decide_false,vYG];exact ⟨⟨ltrI i,kd,(-1),⟨0,0,0⟩,(vJJ .i64 ((vJJ .i64 ((vJJ .i64 (0 - (nxV e w (mA w m 4) 5))) * 65536)).tdiv 8)),(vJJ .i64 ((vJJ .i64 ((vJJ .i64 ((vJJ .i64 (1 + (nxV e w (mA w m 5) 4))) * 65536)).tdiv 8)) + (nxV e w (mA w m 6) 3))),(vJJ .i64 (1 + (nxV e w m 4))),65536,(vJJ .i64 (65536 + (nxV e w (mA w m 1) 3))),327680⟩,mA w m 7,⟨yG hm 7,rfl,⟨by dsimp only; omega,by dsimp only; omega,by dsimp only; omega,by dsimp only; omega,by dsimp only; omega,⟨by dsimp only; omega,qJJ (by dsimp only; omega) (fun h=>absurd h c6) (by dsimp only; omega)⟩,by dsimp only; omega,by dsimp only; omega,by dsimp only; omega,by dsimp only; omega⟩,by dsimp only; omega⟩,rfl⟩
  ·simp only [c1,decide_false,vYG];by_cases c9:(0:Int) < (i:Int)
   ·simp only [c9,decide_true,vYV];by_cases c10:kd=0
    ·simp only [c10,decide_true,vYV];exact ⟨⟨ltrI i,0,((i:Int) - 1),⟨131072,(vJJ .i64 ((vJJ .i64 ((nxV e w (mA w m 4) 5) - 2)) * 32768)),(vJJ .i64 ((vJJ .i64 ((nxV e w (mA w m 5) 3) - 1)) * 32768))⟩,0,0,(vJJ .i64 (1 + (nxV e w m 4))),65536,(vJJ .i64 (65536 + (nxV e w (mA w m 1) 3))),327680⟩,mA w m 6,⟨yG hm 6,rfl,⟨by dsimp only; omega,by dsimp only; omega,by dsimp only; omega,by dsimp only; omega,by dsimp only; omega,⟨by dsimp only; omega,qJJ (by dsimp only; omega) (fun _=>⟨rfl,rfl⟩) (by dsimp only; omega)⟩,by dsimp only; omega,by dsimp only; omega,by dsimp only; omega,by dsimp only; omega⟩,by dsimp only; omega⟩,rfl⟩
    ·simp only [c10,decide_false,vYG];by_cases c11:kd=4
     ·simp only [c11,decide_true,vYV];exact ⟨⟨ltrI i,4,((i:Int) - 1),⟨131072,(vJJ .i64 ((vJJ .i64 ((nxV e w (mA w m 4) 5) - 2)) * 32768)),(vJJ .i64 ((vJJ .i64 ((nxV e w (mA w m 5) 3) - 1)) * 32768))⟩,(vJJ .i64 ((vJJ .i64 (0 - (nxV e w (mA w m 6) 3))) * 65536)),(vJJ .i64 ((nxV e w (mA w m 7) 4) * 32768)),(vJJ .i64 (1 + (nxV e w m 4))),65536,(vJJ .i64 (65536 + (nxV e w (mA w m 1) 3))),327680⟩,mA w m 8,⟨yG hm 8,rfl,⟨by dsimp only; omega,by dsimp only; omega,by dsimp only; omega,by dsimp only; omega,by dsimp only; omega,⟨by dsimp only; omega,qJJ (by dsimp only; omega) (fun h=>absurd (show (4:Int)=0 from h) (by decide)) (by dsimp only; omega)⟩,by dsimp only; omega,by dsimp only; omega,by dsimp only; omega,by dsimp only; omega⟩,by dsimp only; omega⟩,rfl⟩
     ·simp only [c11,decide_false,vYG];by_cases c12:kd=5
      ·simp only [c12,decide_true,vYV];exact ⟨⟨ltrI i,5,((i:Int) - 1),⟨131072,(vJJ .i64 ((vJJ .i64 ((nxV e w (mA w m 4) 5) - 2)) * 32768)),(vJJ .i64 ((vJJ .i64 ((nxV e w (mA w m 5) 3) - 1)) * 32768))⟩,(vJJ .i64 ((vJJ .i64 (0 - (nxV e w (mA w m 6) 3))) * 65536)),(vJJ .i64 ((nxV e w (mA w m 7) 4) * 32768)),(vJJ .i64 (1 + (nxV e w m 4))),65536,(vJJ .i64 (65536 + (nxV e w (mA w m 1) 3))),327680⟩,mA w m 8,⟨yG hm 8,rfl,⟨by dsimp only; omega,by dsimp only; omega,by dsimp only; omega,by dsimp only; omega,by dsimp only; omega,⟨by dsimp only; omega,qJJ (by dsimp only; omega) (fun h=>absurd (show (5:Int)=0 from h) (by decide)) (by dsimp only; omega)⟩,by dsimp only; omega,by dsimp only; omega,by dsimp only; omega,by dsimp only; omega⟩,by dsimp only; omega⟩,rfl⟩
      ·simp only [c12,decide_false,vYG];exact ⟨⟨ltrI i,kd,((i:Int) - 1),⟨131072,(vJJ .i64 ((vJJ .i64 ((nxV e w (mA w m 4) 5) - 2)) * 32768)),(vJJ .i64 ((vJJ .i64 ((nxV e w (mA w m 5) 3) - 1)) * 32768))⟩,(vJJ .i64 ((vJJ .i64 ((vJJ .i64 (0 - (nxV e w (mA w m 6) 5))) * 65536)).tdiv 8)),(vJJ .i64 ((vJJ .i64 ((vJJ .i64 ((vJJ .i64 (1 + (nxV e w (mA w m 7) 4))) * 65536)).tdiv 8)) + (nxV e w (mA w m 8) 3))),(vJJ .i64 (1 + (nxV e w m 4))),65536,(vJJ .i64 (65536 + (nxV e w (mA w m 1) 3))),327680⟩,mA w m 9,⟨yG hm 9,rfl,⟨by dsimp only; omega,by dsimp only; omega,by dsimp only; omega,by dsimp only; omega,by dsimp only; omega,⟨by dsimp only; omega,qJJ (by dsimp only; omega) (fun h=>absurd h c10) (by dsimp only; omega)⟩,by dsimp only; omega,by dsimp only; omega,by dsimp only; omega,by dsimp only; omega⟩,by dsimp only; omega⟩,rfl⟩
   ·simp only [c9,decide_false,vYG];by_cases c13:kd=0
    ·simp only [c13,decide_true,vYV];exact ⟨⟨ltrI i,0,((i:Int) - 1),⟨0,0,0⟩,0,0,(vJJ .i64 (1 + (nxV e w m 4))),65536,(vJJ .i64 (65536 + (nxV e w (mA w m 1) 3))),327680⟩,mA w m 4,⟨yG hm 4,rfl,⟨by dsimp only; omega,by dsimp only; omega,by dsimp only; omega,by dsimp only; omega,by dsimp only; omega,⟨by dsimp only; omega,qJJ (by dsimp only; omega) (fun _=>⟨rfl,rfl⟩) (by dsimp only; omega)⟩,by dsimp only; omega,by dsimp only; omega,by dsimp only; omega,by dsimp only; omega⟩,by dsimp only; omega⟩,rfl⟩
    ·simp only [c13,decide_false,vYG];by_cases c14:kd=4
     ·simp only [c14,decide_true,vYV];exact ⟨⟨ltrI i,4,((i:Int) - 1),⟨0,0,0⟩,(vJJ .i64 ((vJJ .i64 (0 - (nxV e w (mA w m 4) 3))) * 65536)),(vJJ .i64 ((nxV e w (mA w m 5) 4) * 32768)),(vJJ .i64 (1 + (nxV e w m 4))),65536,(vJJ .i64 (65536 + (nxV e w (mA w m 1) 3))),327680⟩,mA w m 6,⟨yG hm 6,rfl,⟨by dsimp only; omega,by dsimp only; omega,by dsimp only; omega,by dsimp only; omega,by dsimp only; omega,⟨by dsimp only; omega,qJJ (by dsimp only; omega) (fun h=>absurd (show (4:Int)=0 from h) (by decide)) (by dsimp only; omega)⟩,by dsimp only; omega,by dsimp only; omega,by dsimp only; omega,by dsimp only; omega⟩,by dsimp only; omega⟩,rfl⟩
     ·simp only [c14,decide_false,vYG];by_cases c15:kd=5
      ·simp only [c15,decide_true,vYV];exact ⟨⟨ltrI i,5,((i:Int) - 1),⟨0,0,0⟩,(vJJ .i64 ((vJJ .i64 (0 - (nxV e w (mA w m 4) 3))) * 65536)),(vJJ .i64 ((nxV e w (mA w m 5) 4) * 32768)),(vJJ .i64 (1 + (nxV e w m 4))),65536,(vJJ .i64 (65536 + (nxV e w (mA w m 1) 3))),327680⟩,mA w m 6,⟨yG hm 6,rfl,⟨by dsimp only; omega,by dsimp only; omega,by dsimp only; omega,by dsimp only; omega,by dsimp only; omega,⟨by dsimp only; omega,qJJ (by dsimp only; omega) (fun h=>absurd (show (5:Int)=0 from h) (by decide)) (by dsimp only; omega)⟩,by dsimp only; omega,by dsimp only; omega,by dsimp only; omega,by dsimp only; omega⟩,by dsimp only; omega⟩,rfl⟩
      ·simp only [c15,decide_false,vYG];exact ⟨⟨ltrI i,kd,((i:Int) - 1),⟨0,0,0⟩,(vJJ .i64 ((vJJ .i64 ((vJJ .i64 (0 - (nxV e w (mA w m 4) 5))) * 65536)).tdiv 8)),(vJJ .i64 ((vJJ .i64 ((vJJ .i64 ((vJJ .i64 (1 + (nxV e w (mA w m 5) 4))) * 65536)).tdiv 8)) + (nxV e w (mA w m 6) 3))),(vJJ .i64 (1 + (nxV e w m 4))),65536,(vJJ .i64 (65536 + (nxV e w (mA w m 1) 3))),327680⟩,mA w m 7,⟨yG hm 7,rfl,⟨by dsimp only; omega,by dsimp only; omega,by dsimp only; omega,by dsimp only; omega,by dsimp only; omega,⟨by dsimp only; omega,qJJ (by dsimp only; omega) (fun h=>absurd h c13) (by dsimp only; omega)⟩,by dsimp only; omega,by dsimp only; omega,by dsimp only; omega,by dsimp only; omega⟩,by dsimp only; omega⟩,rfl⟩
 obtain ⟨j,m',h,hk⟩:=key;exact ⟨j,m',h,qXW kX zW (uK (l:=[]) (m:=[(30,o_nx)]) trivial ⟨jZI,trivial⟩) (fun p S hp=>by cases hp) hk⟩
end Go.Proofs.YtgmbkkkbfbocnaaGreat.Sn

/- Part 15 of the texts behind the last one: rules and contracts. No condition. -/
import Derived.Test.YtmeldddgjfocdaaGreatGR14
open Bool renaming and_eq_true → vQJ, and_self → vZJ, true_and → vZH
open Go.IntKind renaming wrap → vJJ
namespace Go.Proofs.YtmeldddgjfocdaaGreat.He
open Go.Rx Rt Go.Sx Go.RowKit Od Na Nb Nc Nx Nf Nl Nm Ga Gb Gc Gd Ge Gf Gg Ha Hb Hc Hd
def hasQ (q:Nat→Int) (k:Nat) (x:Int):Bool:=!allN (fun i:Nat => !decide (q i=x)) k 0
def ixQ (q:Nat→Int) (k:Nat) (x:Int):Int:=bif hasQ q k x then ((Rx.firstK (fun i:Nat => !decide (q i=x)) k 0:Nat):Int) else -1
theorem deq (a b:Int):decide (a=b)=decide (b=a):=by by_cases h:a=b <;> simp [h] <;> omega
theorem yYA {g:Nat→Bool}:∀ {k p:Nat},allN g k p=false→p≤Rx.firstK g k p∧Rx.firstK g k p < p + k∧g (Rx.firstK g k p)=false
 | 0,_,h=>by cases h
 | k + 1,p,h=>by
  unfold allN at h;unfold Rx.firstK;cases hp:g p with
  | true =>
   rw [hp,vZH] at h;obtain ⟨a,b,c⟩:=yYA (k:=k) (p:=p + 1) h;rw [vYV];exact ⟨by omega,by omega,c⟩
  | false=>rw [vYG]; exact ⟨Nat.le_refl _,by omega,hp⟩
theorem qKD {q:Nat→Int} {k:Nat} {x:Int} (h:hasQ q k x=true):∃ i,i < k∧ixQ q k x=(i:Int)∧q i=x:=by
 have h':allN (fun i:Nat => !decide (q i=x)) k 0=false:=by unfold hasQ at h; simpa using h
 obtain ⟨_,h2,h3⟩:=yYA h';exact ⟨Rx.firstK (fun i:Nat => !decide (q i=x)) k 0,by omega,by unfold ixQ; rw [h]; rfl,by simpa using h3⟩
theorem hasQ_iff {q:Nat→Int} {k:Nat} {x:Int}:hasQ q k x=true ↔ ∃ i,i < k∧q i=x:=by
 constructor
 ·intro h; obtain ⟨i,h1,_,h3⟩:=qKD h; exact ⟨i,h1,h3⟩
 ·rintro ⟨i,h1,h2⟩
  cases h:hasQ q k x with
  | true=>rfl
  | false =>
   have h':allN (fun i:Nat => !decide (q i=x)) k 0=true:=by unfold hasQ at h; simpa using h
   have:=allN_iff.1 h' i (Nat.zero_le _) (by omega)
   simp [h2] at this
theorem jWX {q:Nat→Int} {k:Nat} {x:Int}:decide (ixQ q k x < 0) = !hasQ q k x:=by
 cases h:hasQ q k x with
 | true=>obtain ⟨i,_,h2,_⟩:=qKD h; rw [h2,vYH (by omega)]; rfl
 | false=>unfold ixQ; rw [h]; rfl
theorem jWU {q:Nat→Int} {k:Nat} {x:Int}:decide (0≤ixQ q k x)=hasQ q k x:=by
 cases h:hasQ q k x with
 | true=>obtain ⟨i,_,h2,_⟩:=qKD h; rw [h2,vJQ (by omega)]
 | false=>unfold ixQ; rw [h]; rfl
noncomputable def orIq (k:Nat) (q:Nat→Int) (x:Int):OrS:=orS [] []
noncomputable def hIq (k:Nat) (q:Nat→Int) (x:Int) (i:Int):St:=⟨[(0,.v (.lf k (fQ q))),(1,.v (.n .i64 x)),(7,.v (.n .i64 (k:Int))),(8,.v (.n .i64 i))],[]⟩
set_option maxRecDepth 100000 in
theorem rdIq (G:St→Option (Ret × Mem)) (K:Cont) (k:Nat) (q:Nat→Int) (x:Int) (i:Int):kZ 60 (cxS Tf (orIq k q x) 60 132 (ntmF Tf 132)) (evX Tf (orIq k q x) 60 132 (ntmF Tf 132)) (qZ []) (qQ Tf 132 [0,1,0,1]) [0,1,0,1] (Tf.hint 132 (qJ (qQ Tf 132 [0,1,0,1]))) K G (hIq k q x i) =
 (bif (decide (i < (k:Int))) then (bif (inB i k) then (bif (decide (x=(q (i).toNat))) then (K .ret ⟨[(4,.v (.n .i64 i))],[]⟩)
 else (G (hIq k q x (vJJ .i64 (i + 1)))))
 else none)
 else (K (.exit 0) ⟨[],[]⟩)):=by kernel_rfl
theorem lpIq (K:Cont) (k:Nat) (q:Nat→Int) (x:Int) (_:k≤50):LFX 60 (cxS Tf (orIq k q x) 60 132 (ntmF Tf 132)) (evX Tf (orIq k q x) 60 132 (ntmF Tf 132)) (qZ []) (qQ Tf 132 [0,1,0,1]) [0,1,0,1] (Tf.hint 132 (qJ (qQ Tf 132 [0,1,0,1]))) K 60 (hIq k q x 0)=bif (allN (fun i:Nat => !decide (q i=x)) k 0) then (K (.exit 0) ⟨[],[]⟩) else (K .ret ⟨[(4,.v (.n .i64 ((Rx.firstK (fun i:Nat => !decide (q i=x)) k 0:Nat):Int)))],[]⟩):=by
 refine (uU (L:=LFX 60 (cxS Tf (orIq k q x) 60 132 (ntmF Tf 132)) (evX Tf (orIq k q x) 60 132 (ntmF Tf 132)) (qZ []) (qQ Tf 132 [0,1,0,1]) [0,1,0,1] (Tf.hint 132 (qJ (qQ Tf 132 [0,1,0,1]))) K) (stp:=kZ 60 (cxS Tf (orIq k q x) 60 132 (ntmF Tf 132)) (evX Tf (orIq k q x) 60 132 (ntmF Tf 132)) (qZ []) (qQ Tf 132 [0,1,0,1]) [0,1,0,1] (Tf.hint 132 (qJ (qQ Tf 132 [0,1,0,1]))) K) (fun _ _=>rfl) (fun (i:Nat) (_:Unit)=>hIq k q x (i:Int)) (fun _ _=>True) (fun (i:Nat) _ => !decide (q i=x)) (fun _ _=>()) (c:=k) (fun _=>(K (.exit 0) ⟨[],[]⟩)) (fun i _=>(K .ret ⟨[(4,.v (.n .i64 (i:Int)))],[]⟩)) (fun G i f hi _ => ?_) (fun _ _ _ _ _=>trivial) (fun G f _ => ?_) k 0 60 () (by omega) (by omega) trivial).trans ((jQ _ _ _ _ _).trans (uG _ _ _ _ _))
 ·refine (rdIq G K k q x i).trans ?_;rw [vJQ (show (i:Int) < (k:Int) by omega),kG (by omega),yX (show i < k by omega),toN,deq x (q i)];cases decide (q i=x) <;> rfl
 ·refine (rdIq G K k q x k).trans ?_;rw [vYH (show ¬ (k:Int) < (k:Int) by omega)];rfl
noncomputable def kKX (k:Nat) (q:Nat→Int) (x:Int):List (List Nat × jU):=[([0,1,0,1],sumF (fun _:Unit=>(hIq k q x 0)) (fun _=>()) (fun _ K=>(bif (decide (k≤50)) then (bif (allN (fun i:Nat => !decide (q i=x)) k 0) then (K (.exit 0) ⟨[],[]⟩) else (K .ret ⟨[(4,.v (.n .i64 ((Rx.firstK (fun i:Nat => !decide (q i=x)) k 0:Nat):Int)))],[]⟩)) else none)))]
set_option maxRecDepth 100000 in
theorem xWZ (k:Nat) (q:Nat→Int) (x:Int):qQA Tf (orIq k q x) (qZ (kKX k q x)) 60 132 [.lf k (fQ q),.n .i64 x] =
 (bif (gSt (hIq k q x 0) (hIq k q x 0)) then (bif (decide (k≤50)) then (bif (allN (fun i:Nat => !decide (q i=x)) k 0) then some (.v (.n .i64 (-1)),[])
 else some (.v (.n .i64 ((Rx.firstK (fun i:Nat => !decide (q i=x)) k 0:Nat):Int)),[]))
 else none)
 else none):=by kernel_rfl
theorem uQQ (k:Nat) (q:Nat→Int) (x:Int) (hk:k≤50):yK Tryz.prog 132 [.lf k (fQ q),.n .i64 x] (.v (.n .i64 (ixQ q k x))):=by
 refine zG (N:=60) (LO:=qZ (kKX k q x)) kQ zV (kU (l:=[]) (m:=[]) trivial trivial) (fun p S hp => ?_) ?_
 ·refine zW (L:=qQ Tf 132) (l:=(kKX k q x)) (show AllP _ (kKX k q x) from ⟨?_,trivial⟩) p S hp
  ·dsimp only;refine jG (T:=Tf) (o:=(orIq k q x)) (f:=132) (LO:=qZ []) (p:=[0,1,0,1]) kW ?_;intro t K r hr;obtain ⟨hg,hr⟩:=qY hr;have hk:=vJZ hg;exact (lpIq K k q x hk).trans hr
 ·refine (xWZ k q x).trans ?_;unfold ixQ hasQ;rw [yU,vJQ hk];cases allN (fun i:Nat => !decide (q i=x)) k 0 <;> rfl
noncomputable def orOq (k:Nat) (q:Nat→Int) (x:Int):OrS:=orS [] []
noncomputable def hOq (k:Nat) (q:Nat→Int) (x:Int) (i:Int):St:=⟨[(1,.v (.n .i64 x)),(2,.p 2 0),(5,.v (.n .i64 i))],[(2,.blk [.v (.lf k (fQ q))])]⟩
set_option maxRecDepth 100000 in
theorem rdOq (G:St→Option (Ret × Mem)) (K:Cont) (k:Nat) (q:Nat→Int) (x:Int) (i:Int):kZ 60 (cxS Tf (orOq k q x) 60 130 (ntmF Tf 130)) (evX Tf (orOq k q x) 60 130 (ntmF Tf 130)) (qZ []) (qQ Tf 130 [0,1,0,1]) [0,1,0,1] (Tf.hint 130 (qJ (qQ Tf 130 [0,1,0,1]))) K G (hOq k q x i) =
 (bif (decide (i < (k:Int))) then (bif (inB i k) then (bif (decide ((q (i).toNat)=x)) then (K .ret ⟨[(4,.v (.n .i64 i))],[]⟩)
 else (G (hOq k q x (vJJ .i64 (i + 1)))))
 else none)
 else (K (.exit 0) ⟨[],[]⟩)):=by kernel_rfl
theorem lpOq (K:Cont) (k:Nat) (q:Nat→Int) (x:Int) (_:k≤50):LFX 60 (cxS Tf (orOq k q x) 60 130 (ntmF Tf 130)) (evX Tf (orOq k q x) 60 130 (ntmF Tf 130)) (qZ []) (qQ Tf 130 [0,1,0,1]) [0,1,0,1] (Tf.hint 130 (qJ (qQ Tf 130 [0,1,0,1]))) K 60 (hOq k q x 0)=bif (allN (fun i:Nat => !decide (q i=x)) k 0) then (K (.exit 0) ⟨[],[]⟩) else (K .ret ⟨[(4,.v (.n .i64 ((Rx.firstK (fun i:Nat => !decide (q i=x)) k 0:Nat):Int)))],[]⟩):=by
 refine (uU (L:=LFX 60 (cxS Tf (orOq k q x) 60 130 (ntmF Tf 130)) (evX Tf (orOq k q x) 60 130 (ntmF Tf 130)) (qZ []) (qQ Tf 130 [0,1,0,1]) [0,1,0,1] (Tf.hint 130 (qJ (qQ Tf 130 [0,1,0,1]))) K) (stp:=kZ 60 (cxS Tf (orOq k q x) 60 130 (ntmF Tf 130)) (evX Tf (orOq k q x) 60 130 (ntmF Tf 130)) (qZ []) (qQ Tf 130 [0,1,0,1]) [0,1,0,1] (Tf.hint 130 (qJ (qQ Tf 130 [0,1,0,1]))) K) (fun _ _=>rfl) (fun (i:Nat) (_:Unit)=>hOq k q x (i:Int)) (fun _ _=>True) (fun (i:Nat) _ => !decide (q i=x)) (fun _ _=>()) (c:=k) (fun _=>(K (.exit 0) ⟨[],[]⟩)) (fun i _=>(K .ret ⟨[(4,.v (.n .i64 (i:Int)))],[]⟩)) (fun G i f hi _ => ?_) (fun _ _ _ _ _=>trivial) (fun G f _ => ?_) k 0 60 () (by omega) (by omega) trivial).trans ((jQ _ _ _ _ _).trans (uG _ _ _ _ _))
 ·refine (rdOq G K k q x i).trans ?_;rw [vJQ (show (i:Int) < (k:Int) by omega),kG (by omega),yX (show i < k by omega),toN];cases decide (q i=x) <;> rfl
 ·refine (rdOq G K k q x k).trans ?_;rw [vYH (show ¬ (k:Int) < (k:Int) by omega)];rfl
noncomputable def kJL (k:Nat) (q:Nat→Int) (x:Int):List (List Nat × jU):=[([0,1,0,1],sumF (fun _:Unit=>(hOq k q x 0)) (fun _=>()) (fun _ K=>(bif (decide (k≤50)) then (bif (allN (fun i:Nat => !decide (q i=x)) k 0) then (K (.exit 0) ⟨[],[]⟩) else (K .ret ⟨[(4,.v (.n .i64 ((Rx.firstK (fun i:Nat => !decide (q i=x)) k 0:Nat):Int)))],[]⟩)) else none)))]
set_option maxRecDepth 100000 in
theorem xXC (k:Nat) (q:Nat→Int) (x:Int):qQA Tf (orOq k q x) (qZ (kJL k q x)) 60 130 [.a [.lf k (fQ q)],.n .i64 x] =
 (bif (gSt (hOq k q x 0) (hOq k q x 0)) then (bif (decide (k≤50)) then (bif (allN (fun i:Nat => !decide (q i=x)) k 0) then some (.v (.n .i64 (-1)),[])
 else some (.v (.n .i64 ((Rx.firstK (fun i:Nat => !decide (q i=x)) k 0:Nat):Int)),[]))
 else none)
 else none):=by kernel_rfl
theorem kHH (k:Nat) (q:Nat→Int) (x:Int) (hk:k≤50):yK Tryz.prog 130 [.a [.lf k (fQ q)],.n .i64 x] (.v (.n .i64 (ixQ q k x))):=by
 refine zG (N:=60) (LO:=qZ (kJL k q x)) kQ zV (kU (l:=[]) (m:=[]) trivial trivial) (fun p S hp => ?_) ?_
 ·refine zW (L:=qQ Tf 130) (l:=(kJL k q x)) (show AllP _ (kJL k q x) from ⟨?_,trivial⟩) p S hp
  ·dsimp only;refine jG (T:=Tf) (o:=(orOq k q x)) (f:=130) (LO:=qZ []) (p:=[0,1,0,1]) kW ?_;intro t K r hr;obtain ⟨hg,hr⟩:=qY hr;have hk:=vJZ hg;exact (lpOq K k q x hk).trans hr
 ·refine (xXC k q x).trans ?_;unfold ixQ hasQ;rw [yU,vJQ hk];cases allN (fun i:Nat => !decide (q i=x)) k 0 <;> rfl
def ciq:Nat × (Nat→Int) × Int→Prop:=fun t=>match t with | (k,_,_)=>k≤50
def eiq:Nat × (Nat→Int) × Int→List PV:=fun t=>match t with | (k,q,x)=>[.lf k (fQ q),.n .i64 x]
noncomputable def riq:Nat × (Nat→Int) × Int→Ret:=fun t=>match t with | (k,q,x)=>.v (.n .i64 (ixQ q k x))
def diq:List PV→Nat × (Nat→Int) × Int:=fun ps=>match ps with
 | [.lf k f,.n _ x]=>(k,unFQ f,x)
 | _=>(0,fun _=>0,0)
noncomputable def o_iq:List PV→Option (Bool × Ret):=o_fm diq ciq eiq riq
theorem xQZ:zJ Tryz.prog 132 o_iq:=qQI fun t h=>by
 obtain ⟨k,q,x⟩:=t;exact uQQ k q x h
def coa:Nat × (Nat→Int) × Int→Prop:=fun t=>match t with | (k,_,_)=>k≤50
def eoa:Nat × (Nat→Int) × Int→List PV:=fun t=>match t with | (k,q,x)=>[.a [.lf k (fQ q)],.n .i64 x]
noncomputable def roa:Nat × (Nat→Int) × Int→Ret:=fun t=>match t with | (k,q,x)=>.v (.n .i64 (ixQ q k x))
def doa:List PV→Nat × (Nat→Int) × Int:=fun ps=>match ps with
 | [.a [.lf k f],.n _ x]=>(k,unFQ f,x)
 | _=>(0,fun _=>0,0)
noncomputable def o_oa:List PV→Option (Bool × Ret):=o_fm doa coa eoa roa
theorem xGK:zJ Tryz.prog 130 o_oa:=qQI fun t h=>by
 obtain ⟨k,q,x⟩:=t;exact kHH k q x h
noncomputable def xVG (k:Nat) (q:Nat→Int) (x:Int):OrS:=orS [(132,o_iq)] []
noncomputable def kKC (k:Nat) (q:Nat→Int) (x:Int):List (List Nat × jU):=[]
set_option maxRecDepth 100000 in
theorem xWG (k:Nat) (q:Nat→Int) (x:Int):qQA Tf (xVG k q x) (qZ (kKC k q x)) 60 83 [.lf k (fQ q),.n .i64 x] =
 (bif (gF1 ciq eiq (k,q,x)) then (bif (decide (0≤(ixQ q k x))) then some (.v (.b true),[])
 else some (.v (.b false),[]))
 else none):=by kernel_rfl
theorem uQG (k:Nat) (q:Nat→Int) (x:Int) (hk:k≤50):yK Tryz.prog 83 [.lf k (fQ q),.n .i64 x] (.v (.b (hasQ q k x))):=by
 refine zG (N:=60) (LO:=qZ (kKC k q x)) kQ zV (kU (l:=[(132,o_iq)]) (m:=[]) ⟨xQZ,trivial⟩ trivial) (fun p S hp => ?_) ?_
 ·refine zW (L:=qQ Tf 83) (l:=(kKC k q x)) (show AllP _ (kKC k q x) from trivial) p S hp
 ·refine (xWG k q x).trans ?_;rw [jH (C:=ciq) (t:=(k,q,x)) hk,jWU];cases hasQ q k x <;> rfl
def cct:Nat × (Nat→Int) × Int→Prop:=fun t=>match t with | (k,_,_)=>k≤50
def ect:Nat × (Nat→Int) × Int→List PV:=fun t=>match t with | (k,q,x)=>[.lf k (fQ q),.n .i64 x]
noncomputable def rct:Nat × (Nat→Int) × Int→Ret:=fun t=>match t with | (k,q,x)=>.v (.b (hasQ q k x))
def dct:List PV→Nat × (Nat→Int) × Int:=fun ps=>match ps with
 | [.lf k f,.n _ x]=>(k,unFQ f,x)
 | _=>(0,fun _=>0,0)
noncomputable def o_ct:List PV→Option (Bool × Ret):=o_fm dct cct ect rct
theorem xQW:zJ Tryz.prog 83 o_ct:=qQI fun t h=>by
 obtain ⟨k,q,x⟩:=t;exact uQG k q x h
noncomputable def uGD (n:Nat) (q:Nat→Int):OrS:=orS [] []
noncomputable def yGZ (n:Nat) (q:Nat→Int):List (List Nat × jU):=[]
set_option maxRecDepth 100000 in
theorem uGU (n:Nat) (q:Nat→Int):qQA Tf (uGD n q) (qZ (yGZ n q)) 60 133 [.lf (n + 1) (fQ q)] =
 (bif (decide (0 + (n + 1)≤1000000)) then some (.ow 3 1 (.fo (n + 1) (fQ q)),[])
 else none):=by kernel_rfl
theorem kQZ (n:Nat) (q:Nat→Int) (_:n + 1≤50):yK Tryz.prog 133 [.lf (n + 1) (fQ q)] (.ow 3 1 (.fo (n + 1) (fQ q))):=by
 refine zG (N:=60) (LO:=qZ (yGZ n q)) kQ zV (kU (l:=[]) (m:=[]) trivial trivial) (fun p S hp => ?_) ?_
 ·refine zW (L:=qQ Tf 133) (l:=(yGZ n q)) (show AllP _ (yGZ n q) from trivial) p S hp
 ·refine (uGU n q).trans ?_;simp only [vJQ (show n + 1≤1000000 by omega),vJQ (show n + 1≤8796093022208 by omega),vJQ (show 0 + (n + 1)≤1000000 by omega),vYV]
  all_goals rfl
theorem kQQ (n:Nat) (q:Nat→Int) (hn:1≤n∧n≤50):yK Tryz.prog 133 [.lf n (fQ q)] (.ow 3 1 (.fo n (fQ q))):=by
 obtain ⟨h1,h2⟩:=hn;obtain ⟨m,rfl⟩:∃ m,n=m + 1:=⟨n - 1,by omega⟩
 exact kQZ m q h2
def ccoi:Nat × (Nat→Int)→Prop:=fun t=>match t with | (n,_)=>1≤n∧n≤50
def ecoi:Nat × (Nat→Int)→List PV:=fun t=>match t with | (n,q)=>[.lf n (fQ q)]
noncomputable def rcoi:Nat × (Nat→Int)→Ret:=fun t=>match t with | (n,q)=>.ow 3 1 (.fo n (fQ q))
def dcoi:List PV→Nat × (Nat→Int):=fun ps=>match ps with
 | [.lf n f]=>(n,unFQ f)
 | _=>(0,fun _=>0)
noncomputable def uJA:List PV→Option (Bool × Ret):=o_fm dcoi ccoi ecoi rcoi
theorem xQV:zJ Tryz.prog 133 uJA:=qQI fun t h=>by
 obtain ⟨n,q⟩:=t;exact kQQ n q h
def inM (ws:Wsp) (x:Int):Bool:=!decide (x < vJJ .i64 (0 - (ws.nh:Int))) && !decide ((ws.np:Int)≤x)
def mdG (ws:Wsp) (q:Nat→Int) (i:Nat):Bool:=inM ws (q i) && !hasQ q i (q i)
def vlB (ws:Wsp) (k:Nat) (q:Nat→Int):Bool:=decide (wErr ws=0) && (decide ((k:Int)=(ws.no:Int)) && allN (fun i:Nat=>mdG ws q i) k 0)
noncomputable def orVa (_:Wsp) (k:Nat) (q:Nat→Int):OrS:=orS [(19,o_gk),(83,o_ct)] []
noncomputable def hVa (ws:Wsp) (k:Nat) (q:Nat→Int) (i:Int):St:=⟨[(2,.p 2 0),(3,.p 3 0),(20,.v (.lf k (fQ q))),(21,.v (.n .i64 (k:Int))),(22,.v (.n .i64 i))],[(2,.blk [.v (.lf ws.n (fJ ws.js)),.v (.lf ws.m (fM ws.ms)),.v (.lf ws.c (fS ws.sh)),.v (.lf ws.d (fK ws.sk)),.v (.lf ws.no (fO ws.ob)),.v (.lf ws.np (fZ ws.pl)),.v (.lf ws.nh (fH ws.hd)),.v (.lf ws.ng (fG ws.gr)),.v (.n .i64 ws.slack)]),(3,.blk [.v (.lf k (fQ q))])]⟩
set_option maxRecDepth 100000 in
theorem rdVa (G:St→Option (Ret × Mem)) (K:Cont) (ws:Wsp) (k:Nat) (q:Nat→Int) (i:Int):kZ 60 (cxS Tf (orVa ws k q) 60 34 (ntmF Tf 34)) (evX Tf (orVa ws k q) 60 34 (ntmF Tf 34)) (qZ []) (qQ Tf 34 [0,1,0,1,1]) [0,1,0,1,1] (Tf.hint 34 (qJ (qQ Tf 34 [0,1,0,1,1]))) K G (hVa ws k q i) =
 (bif (decide (i < (k:Int))) then (bif (inB i k) then (bif (decide ((q (i).toNat) < (vJJ .i64 (0 - (ws.nh:Int))))) then (K .ret ⟨[(4,.v (.b false))],[]⟩)
 else (bif (decide ((ws.np:Int)≤(q (i).toNat))) then (K .ret ⟨[(4,.v (.b false))],[]⟩)
 else (bif (inS none (some i) k) then (bif (gF1 cct ect (((i).toNat - 0),(fun v=>(q (v + 0))),(q (i).toNat))) then (bif (hasQ (fun v=>(q (v + 0))) ((i).toNat - 0) (q (i).toNat)) then (K .ret ⟨[(4,.v (.b false))],[]⟩)
 else (G (hVa ws k q (vJJ .i64 (i + 1)))))
 else none)
 else none)))
 else none)
 else (K (.exit 0) ⟨[],[]⟩)):=by kernel_rfl
theorem lpVa (K:Cont) (ws:Wsp) (k:Nat) (q:Nat→Int) (_:k≤50):LFX 60 (cxS Tf (orVa ws k q) 60 34 (ntmF Tf 34)) (evX Tf (orVa ws k q) 60 34 (ntmF Tf 34)) (qZ []) (qQ Tf 34 [0,1,0,1,1]) [0,1,0,1,1] (Tf.hint 34 (qJ (qQ Tf 34 [0,1,0,1,1]))) K 60 (hVa ws k q 0)=bif (allN (fun i:Nat=>mdG ws q i) k 0) then (K (.exit 0) ⟨[],[]⟩) else (K .ret ⟨[(4,.v (.b false))],[]⟩):=by
 refine (uU (L:=LFX 60 (cxS Tf (orVa ws k q) 60 34 (ntmF Tf 34)) (evX Tf (orVa ws k q) 60 34 (ntmF Tf 34)) (qZ []) (qQ Tf 34 [0,1,0,1,1]) [0,1,0,1,1] (Tf.hint 34 (qJ (qQ Tf 34 [0,1,0,1,1]))) K) (stp:=kZ 60 (cxS Tf (orVa ws k q) 60 34 (ntmF Tf 34)) (evX Tf (orVa ws k q) 60 34 (ntmF Tf 34)) (qZ []) (qQ Tf 34 [0,1,0,1,1]) [0,1,0,1,1] (Tf.hint 34 (qJ (qQ Tf 34 [0,1,0,1,1]))) K) (fun _ _=>rfl) (fun (i:Nat) (_:Unit)=>hVa ws k q (i:Int)) (fun _ _=>True) (fun (i:Nat) _=>mdG ws q i) (fun _ _=>()) (c:=k) (fun _=>(K (.exit 0) ⟨[],[]⟩)) (fun i _=>(K .ret ⟨[(4,.v (.b false))],[]⟩)) (fun G i f hi _ => ?_) (fun _ _ _ _ _=>trivial) (fun G f _ => ?_) k 0 60 () (by omega) (by omega) trivial).trans ((jQ _ _ _ _ _).trans (yH _ _ _ _ _))
 ·refine (rdVa G K ws k q i).trans ?_;rw [vJQ (show (i:Int) < (k:Int) by omega),kG (by omega),yX (show i < k by omega),toN,jWV (show i < k by omega),jH (C:=cct) (t:=(i - 0,(fun v=>q (v + 0)),q i)) (show i - 0≤50 by omega)];unfold mdG inM;show _=bif (!decide (q i < vJJ .i64 (0 - (ws.nh:Int))) && !decide ((ws.np:Int)≤q i)) && !hasQ (fun v=>q (v + 0)) (i - 0) (q i) then _ else _
  cases decide (q i < vJJ .i64 (0 - (ws.nh:Int))) <;> cases decide ((ws.np:Int)≤q i) <;> cases hasQ (fun v=>q (v + 0)) (i - 0) (q i) <;> rfl
 ·refine (rdVa G K ws k q k).trans ?_;rw [vYH (show ¬ (k:Int) < (k:Int) by omega)];rfl
theorem jYZ {ws:Wsp} (h:wErr ws=0):sEW ws=0∧fiB ws=true∧obA ws=true∧cntF ws ws.no≤24:=by
 unfold wErr at h;by_cases h1:sEW ws=0
 ·rw [vJQ h1,vYV] at h;cases h2:fiB ws with
  | false=>rw [h2] at h; exact absurd (show (3401:Int)=0 from h) (by decide)
  | true =>
   rw [h2,vYV] at h;cases h3:obA ws with
   | false=>rw [h3] at h; exact absurd (show (3402:Int)=0 from h) (by decide)
   | true =>
    rw [h3,vYV] at h;by_cases h4:24 < cntF ws ws.no
    ·rw [vJQ h4] at h; exact absurd (show (3401:Int)=0 from h) (by decide)
    ·exact ⟨h1,rfl,rfl,by omega⟩
 ·rw [vYH h1,vYG] at h; exact absurd h h1
theorem kGZ {ws:Wsp} (h:wErr ws=0):ws.no≤6:=(xYQ (jYZ h).2.1).1
noncomputable def kJJ (ws:Wsp) (k:Nat) (q:Nat→Int):List (List Nat × jU):=[([0,1,0,1,1],sumF (fun _:Unit=>(hVa ws k q 0)) (fun _=>()) (fun _ K=>(bif (decide (k≤50)) then (bif (allN (fun i:Nat=>mdG ws q i) k 0) then (K (.exit 0) ⟨[],[]⟩) else (K .ret ⟨[(4,.v (.b false))],[]⟩)) else none)))]
set_option maxRecDepth 100000 in
theorem xUF (ws:Wsp) (k:Nat) (q:Nat→Int):qQA Tf (orVa ws k q) (qZ (kJJ ws k q)) 60 34 [.a (wP ws),.a [.lf k (fQ q)]] =
 (bif (gF1 cgk egk ws) then (bif (!decide ((wErr ws)=0)) then some (.v (.b false),[])
 else (bif (!decide ((k:Int)=(ws.no:Int))) then some (.v (.b false),[])
 else (bif (gSt (hVa ws k q 0) (hVa ws k q 0)) then (bif (decide (k≤50)) then (bif (allN (fun i:Nat=>mdG ws q i) k 0) then some (.v (.b true),[])
 else some (.v (.b false),[]))
 else none)
 else none)))
 else none):=by kernel_rfl
theorem kGH (ws:Wsp) (k:Nat) (q:Nat→Int) (ho:okW ws):yK Tryz.prog 34 [.a (wP ws),.a [.lf k (fQ q)]] (.v (.b (vlB ws k q))):=by
 refine zG (N:=60) (LO:=qZ (kJJ ws k q)) kQ zV (kU (l:=[(19,o_gk),(83,o_ct)]) (m:=[]) ⟨xQU,xQW,trivial⟩ trivial) (fun p S hp => ?_) ?_
 ·refine zW (L:=qQ Tf 34) (l:=(kJJ ws k q)) (show AllP _ (kJJ ws k q) from ⟨?_,trivial⟩) p S hp
  ·dsimp only;refine jG (T:=Tf) (o:=(orVa ws k q)) (f:=34) (LO:=qZ []) (p:=[0,1,0,1,1]) kW ?_;intro t K r hr;obtain ⟨hg,hr⟩:=qY hr;have hk:=vJZ hg;exact (lpVa K ws k q hk).trans hr
 ·refine (xUF ws k q).trans ?_;unfold vlB;rw [jH (C:=cgk) (t:=ws) ho];by_cases h:wErr ws=0
  ·rw [vJQ h];by_cases hk:(k:Int)=(ws.no:Int)
   ·have h6:=kGZ h;rw [vJQ hk,yU,vJQ (show k≤50 by omega)];cases allN (fun i:Nat=>mdG ws q i) k 0 <;> rfl
   ·rw [vYH hk]; rfl
  ·rw [vYH h]; rfl
noncomputable def orRv (_:Wsp) (k:Nat) (q:Nat→Int):OrS:=orS [(20,o_rw)] []
noncomputable def hRx (ws:Wsp) (k:Nat) (q:Nat→Int) (i:Int) (j:Int):St:=⟨[(2,.p 2 0),(3,.p 3 0),(5,.v (.n .i64 i)),(6,.v (.n .i64 j))],[(2,.blk [.v (.lf ws.n (fJ ws.js)),.v (.lf ws.m (fM ws.ms)),.v (.lf ws.c (fS ws.sh)),.v (.lf ws.d (fK ws.sk)),.v (.lf ws.no (fO ws.ob)),.v (.lf ws.np (fZ ws.pl)),.v (.lf ws.nh (fH ws.hd)),.v (.lf ws.ng (fG ws.gr)),.v (.n .i64 ws.slack)]),(3,.blk [.v (.lf k (fQ q))])]⟩
set_option maxRecDepth 100000 in
theorem rdRx (G:St→Option (Ret × Mem)) (K:Cont) (ws:Wsp) (k:Nat) (q:Nat→Int) (i:Int) (j:Int):kZ 60 (cxS Tf (orRv ws k q) 60 68 (ntmF Tf 68)) (evX Tf (orRv ws k q) 60 68 (ntmF Tf 68)) (qZ []) (qQ Tf 68 [0,1,1,0,0,1,0,0,1,0,1,1]) [0,1,1,0,0,1,0,0,1,0,1,1] (Tf.hint 68 (qJ (qQ Tf 68 [0,1,1,0,0,1,0,0,1,0,1,1]))) K G (hRx ws k q i j) =
 (bif (decide (j < i)) then (bif (inB j k) then (bif (inB i k) then (bif (decide ((q (j).toNat)=(q (i).toNat))) then (K .ret ⟨[(2,.p 2 0),(3,.p 3 0),(4,.v (.b false)),(5,.v (.n .i64 i))],[(2,.blk [.v (.lf ws.n (fJ ws.js)),.v (.lf ws.m (fM ws.ms)),.v (.lf ws.c (fS ws.sh)),.v (.lf ws.d (fK ws.sk)),.v (.lf ws.no (fO ws.ob)),.v (.lf ws.np (fZ ws.pl)),.v (.lf ws.nh (fH ws.hd)),.v (.lf ws.ng (fG ws.gr)),.v (.n .i64 ws.slack)]),(3,.blk [.v (.lf k (fQ q))])]⟩)
 else (G (hRx ws k q i (vJJ .i64 (j + 1)))))
 else none)
 else none)
 else (K (.exit 2) ⟨[(2,.p 2 0),(3,.p 3 0),(5,.v (.n .i64 i))],[(2,.blk [.v (.lf ws.n (fJ ws.js)),.v (.lf ws.m (fM ws.ms)),.v (.lf ws.c (fS ws.sh)),.v (.lf ws.d (fK ws.sk)),.v (.lf ws.no (fO ws.ob)),.v (.lf ws.np (fZ ws.pl)),.v (.lf ws.nh (fH ws.hd)),.v (.lf ws.ng (fG ws.gr)),.v (.n .i64 ws.slack)]),(3,.blk [.v (.lf k (fQ q))])]⟩)):=by kernel_rfl
theorem lpRx (K:Cont) (ws:Wsp) (k:Nat) (q:Nat→Int) (i:Nat) (hI:i < k) (hN:k≤50):LFX 60 (cxS Tf (orRv ws k q) 60 68 (ntmF Tf 68)) (evX Tf (orRv ws k q) 60 68 (ntmF Tf 68)) (qZ []) (qQ Tf 68 [0,1,1,0,0,1,0,0,1,0,1,1]) [0,1,1,0,0,1,0,0,1,0,1,1] (Tf.hint 68 (qJ (qQ Tf 68 [0,1,1,0,0,1,0,0,1,0,1,1]))) K 60 (hRx ws k q i 0)=bif (allN (fun j:Nat => !decide (q j=q i)) i 0) then (K (.exit 2) ⟨[(2,.p 2 0),(3,.p 3 0),(5,.v (.n .i64 i))],[(2,.blk [.v (.lf ws.n (fJ ws.js)),.v (.lf ws.m (fM ws.ms)),.v (.lf ws.c (fS ws.sh)),.v (.lf ws.d (fK ws.sk)),.v (.lf ws.no (fO ws.ob)),.v (.lf ws.np (fZ ws.pl)),.v (.lf ws.nh (fH ws.hd)),.v (.lf ws.ng (fG ws.gr)),.v (.n .i64 ws.slack)]),(3,.blk [.v (.lf k (fQ q))])]⟩) else (K .ret ⟨[(2,.p 2 0),(3,.p 3 0),(4,.v (.b false)),(5,.v (.n .i64 i))],[(2,.blk [.v (.lf ws.n (fJ ws.js)),.v (.lf ws.m (fM ws.ms)),.v (.lf ws.c (fS ws.sh)),.v (.lf ws.d (fK ws.sk)),.v (.lf ws.no (fO ws.ob)),.v (.lf ws.np (fZ ws.pl)),.v (.lf ws.nh (fH ws.hd)),.v (.lf ws.ng (fG ws.gr)),.v (.n .i64 ws.slack)]),(3,.blk [.v (.lf k (fQ q))])]⟩):=by
 refine (uU (L:=LFX 60 (cxS Tf (orRv ws k q) 60 68 (ntmF Tf 68)) (evX Tf (orRv ws k q) 60 68 (ntmF Tf 68)) (qZ []) (qQ Tf 68 [0,1,1,0,0,1,0,0,1,0,1,1]) [0,1,1,0,0,1,0,0,1,0,1,1] (Tf.hint 68 (qJ (qQ Tf 68 [0,1,1,0,0,1,0,0,1,0,1,1]))) K) (stp:=kZ 60 (cxS Tf (orRv ws k q) 60 68 (ntmF Tf 68)) (evX Tf (orRv ws k q) 60 68 (ntmF Tf 68)) (qZ []) (qQ Tf 68 [0,1,1,0,0,1,0,0,1,0,1,1]) [0,1,1,0,0,1,0,0,1,0,1,1] (Tf.hint 68 (qJ (qQ Tf 68 [0,1,1,0,0,1,0,0,1,0,1,1]))) K) (fun _ _=>rfl) (fun (j:Nat) (_:Unit)=>hRx ws k q i (j:Int)) (fun _ _=>True) (fun (j:Nat) _ => !decide (q j=q i)) (fun _ _=>()) (c:=i) (fun _=>(K (.exit 2) ⟨[(2,.p 2 0),(3,.p 3 0),(5,.v (.n .i64 i))],[(2,.blk [.v (.lf ws.n (fJ ws.js)),.v (.lf ws.m (fM ws.ms)),.v (.lf ws.c (fS ws.sh)),.v (.lf ws.d (fK ws.sk)),.v (.lf ws.no (fO ws.ob)),.v (.lf ws.np (fZ ws.pl)),.v (.lf ws.nh (fH ws.hd)),.v (.lf ws.ng (fG ws.gr)),.v (.n .i64 ws.slack)]),(3,.blk [.v (.lf k (fQ q))])]⟩)) (fun j _=>(K .ret ⟨[(2,.p 2 0),(3,.p 3 0),(4,.v (.b false)),(5,.v (.n .i64 i))],[(2,.blk [.v (.lf ws.n (fJ ws.js)),.v (.lf ws.m (fM ws.ms)),.v (.lf ws.c (fS ws.sh)),.v (.lf ws.d (fK ws.sk)),.v (.lf ws.no (fO ws.ob)),.v (.lf ws.np (fZ ws.pl)),.v (.lf ws.nh (fH ws.hd)),.v (.lf ws.ng (fG ws.gr)),.v (.n .i64 ws.slack)]),(3,.blk [.v (.lf k (fQ q))])]⟩)) (fun G j f hi _ => ?_) (fun _ _ _ _ _=>trivial) (fun G f _ => ?_) (i) 0 60 () (by omega) (by omega) trivial).trans ((jQ _ _ _ _ _).trans (yH _ _ _ _ _))
 ·refine (rdRx G K ws k q i j).trans ?_;rw [vJQ (show (j:Int) < (i:Int) by omega),kG (by omega),yX (show j < k by omega),yX hI,toN,toN];cases decide (q j=q i) <;> rfl
 ·refine (rdRx G K ws k q i (i:Int)).trans ?_;rw [vYH (show ¬ (i:Int) < (i:Int) by omega)];rfl
theorem okRx (ws:Wsp) (k:Nat) (q:Nat→Int):∀ p S,qZ [([0,1,1,0,0,1,0,0,1,0,1,1],sumF (fun t:Nat=>(hRx ws k q ((t:Nat):Int) 0)) (fun σ=>((slI σ 5).toNat)) (fun t K=>(bif (decide (t < k∧k≤50)) then (bif (allN (fun j:Nat => !decide (q j=q t)) t 0) then (K (.exit 2) ⟨[(2,.p 2 0),(3,.p 3 0),(5,.v (.n .i64 t))],[(2,.blk [.v (.lf ws.n (fJ ws.js)),.v (.lf ws.m (fM ws.ms)),.v (.lf ws.c (fS ws.sh)),.v (.lf ws.d (fK ws.sk)),.v (.lf ws.no (fO ws.ob)),.v (.lf ws.np (fZ ws.pl)),.v (.lf ws.nh (fH ws.hd)),.v (.lf ws.ng (fG ws.gr)),.v (.n .i64 ws.slack)]),(3,.blk [.v (.lf k (fQ q))])]⟩) else (K .ret ⟨[(2,.p 2 0),(3,.p 3 0),(4,.v (.b false)),(5,.v (.n .i64 t))],[(2,.blk [.v (.lf ws.n (fJ ws.js)),.v (.lf ws.m (fM ws.ms)),.v (.lf ws.c (fS ws.sh)),.v (.lf ws.d (fK ws.sk)),.v (.lf ws.no (fO ws.ob)),.v (.lf ws.np (fZ ws.pl)),.v (.lf ws.nh (fH ws.hd)),.v (.lf ws.ng (fG ws.gr)),.v (.n .i64 ws.slack)]),(3,.blk [.v (.lf k (fQ q))])]⟩)) else none)))] p=some S→qQZ 60 (cxS Tf (orRv ws k q) 60 68 (ntmF Tf 68)) (qQ Tf 68 p) S:=fun p S hp=>by
 refine zW (L:=qQ Tf 68) (l:=[([0,1,1,0,0,1,0,0,1,0,1,1],sumF (fun t:Nat=>(hRx ws k q ((t:Nat):Int) 0)) (fun σ=>((slI σ 5).toNat)) (fun t K=>(bif (decide (t < k∧k≤50)) then (bif (allN (fun j:Nat => !decide (q j=q t)) t 0) then (K (.exit 2) ⟨[(2,.p 2 0),(3,.p 3 0),(5,.v (.n .i64 t))],[(2,.blk [.v (.lf ws.n (fJ ws.js)),.v (.lf ws.m (fM ws.ms)),.v (.lf ws.c (fS ws.sh)),.v (.lf ws.d (fK ws.sk)),.v (.lf ws.no (fO ws.ob)),.v (.lf ws.np (fZ ws.pl)),.v (.lf ws.nh (fH ws.hd)),.v (.lf ws.ng (fG ws.gr)),.v (.n .i64 ws.slack)]),(3,.blk [.v (.lf k (fQ q))])]⟩) else (K .ret ⟨[(2,.p 2 0),(3,.p 3 0),(4,.v (.b false)),(5,.v (.n .i64 t))],[(2,.blk [.v (.lf ws.n (fJ ws.js)),.v (.lf ws.m (fM ws.ms)),.v (.lf ws.c (fS ws.sh)),.v (.lf ws.d (fK ws.sk)),.v (.lf ws.no (fO ws.ob)),.v (.lf ws.np (fZ ws.pl)),.v (.lf ws.nh (fH ws.hd)),.v (.lf ws.ng (fG ws.gr)),.v (.n .i64 ws.slack)]),(3,.blk [.v (.lf k (fQ q))])]⟩)) else none)))]) ⟨?_,trivial⟩ p S hp;dsimp only;refine jG (T:=Tf) (o:=(orRv ws k q)) (f:=68) (LO:=qZ []) (p:=[0,1,1,0,0,1,0,0,1,0,1,1]) kW ?_;intro t K r hr;obtain ⟨hg,hr⟩:=qY hr
 skip
 exact (lpRx K ws k q t (vJZ hg).1 (vJZ hg).2).trans hr
noncomputable def hRv (ws:Wsp) (k:Nat) (q:Nat→Int) (i:Int):St:=⟨[(2,.p 2 0),(3,.p 3 0),(5,.v (.n .i64 i))],[(2,.blk [.v (.lf ws.n (fJ ws.js)),.v (.lf ws.m (fM ws.ms)),.v (.lf ws.c (fS ws.sh)),.v (.lf ws.d (fK ws.sk)),.v (.lf ws.no (fO ws.ob)),.v (.lf ws.np (fZ ws.pl)),.v (.lf ws.nh (fH ws.hd)),.v (.lf ws.ng (fG ws.gr)),.v (.n .i64 ws.slack)]),(3,.blk [.v (.lf k (fQ q))])]⟩
set_option maxRecDepth 100000 in
theorem rdRv (G:St→Option (Ret × Mem)) (K:Cont) (ws:Wsp) (k:Nat) (q:Nat→Int) (i:Int):kZ 60 (cxS Tf (orRv ws k q) 60 68 (ntmF Tf 68)) (evX Tf (orRv ws k q) 60 68 (ntmF Tf 68)) (qZ [([0,1,1,0,0,1,0,0,1,0,1,1],sumF (fun t:Nat=>(hRx ws k q ((t:Nat):Int) 0)) (fun σ=>((slI σ 5).toNat)) (fun t K=>(bif (decide (t < k∧k≤50)) then (bif (allN (fun j:Nat => !decide (q j=q t)) t 0) then (K (.exit 2) ⟨[(2,.p 2 0),(3,.p 3 0),(5,.v (.n .i64 t))],[(2,.blk [.v (.lf ws.n (fJ ws.js)),.v (.lf ws.m (fM ws.ms)),.v (.lf ws.c (fS ws.sh)),.v (.lf ws.d (fK ws.sk)),.v (.lf ws.no (fO ws.ob)),.v (.lf ws.np (fZ ws.pl)),.v (.lf ws.nh (fH ws.hd)),.v (.lf ws.ng (fG ws.gr)),.v (.n .i64 ws.slack)]),(3,.blk [.v (.lf k (fQ q))])]⟩) else (K .ret ⟨[(2,.p 2 0),(3,.p 3 0),(4,.v (.b false)),(5,.v (.n .i64 t))],[(2,.blk [.v (.lf ws.n (fJ ws.js)),.v (.lf ws.m (fM ws.ms)),.v (.lf ws.c (fS ws.sh)),.v (.lf ws.d (fK ws.sk)),.v (.lf ws.no (fO ws.ob)),.v (.lf ws.np (fZ ws.pl)),.v (.lf ws.nh (fH ws.hd)),.v (.lf ws.ng (fG ws.gr)),.v (.n .i64 ws.slack)]),(3,.blk [.v (.lf k (fQ q))])]⟩)) else none)))]) (qQ Tf 68 [0,1,0,1,1]) [0,1,0,1,1] (Tf.hint 68 (qJ (qQ Tf 68 [0,1,0,1,1]))) K G (hRv ws k q i) =
 (bif (decide (i < (k:Int))) then (bif (inB i k) then (bif (decide ((q (i).toNat) < (vJJ .i64 (0 - (ws.nh:Int))))) then (K .ret ⟨[(4,.v (.b false))],[]⟩)
 else (bif (inB i k) then (bif (decide ((ws.np:Int)≤(q (i).toNat))) then (K .ret ⟨[(4,.v (.b false))],[]⟩)
 else (bif (gSt (hRx ws k q i 0) (hRx ws k q (((i).toNat:Nat):Int) 0)) then (bif (decide ((i).toNat < k∧k≤50)) then (bif (allN (fun j:Nat => !decide (q j=q (i).toNat)) (i).toNat 0) then (G (hRv ws k q (vJJ .i64 ((((i).toNat:Nat):Int) + 1))))
 else (K .ret ⟨[(4,.v (.b false))],[]⟩))
 else none)
 else none))
 else none))
 else none)
 else (K (.exit 0) ⟨[],[]⟩)):=by kernel_rfl
theorem lpRv (K:Cont) (ws:Wsp) (k:Nat) (q:Nat→Int) (hk:k≤50):LFX 60 (cxS Tf (orRv ws k q) 60 68 (ntmF Tf 68)) (evX Tf (orRv ws k q) 60 68 (ntmF Tf 68)) (qZ [([0,1,1,0,0,1,0,0,1,0,1,1],sumF (fun t:Nat=>(hRx ws k q ((t:Nat):Int) 0)) (fun σ=>((slI σ 5).toNat)) (fun t K=>(bif (decide (t < k∧k≤50)) then (bif (allN (fun j:Nat => !decide (q j=q t)) t 0) then (K (.exit 2) ⟨[(2,.p 2 0),(3,.p 3 0),(5,.v (.n .i64 t))],[(2,.blk [.v (.lf ws.n (fJ ws.js)),.v (.lf ws.m (fM ws.ms)),.v (.lf ws.c (fS ws.sh)),.v (.lf ws.d (fK ws.sk)),.v (.lf ws.no (fO ws.ob)),.v (.lf ws.np (fZ ws.pl)),.v (.lf ws.nh (fH ws.hd)),.v (.lf ws.ng (fG ws.gr)),.v (.n .i64 ws.slack)]),(3,.blk [.v (.lf k (fQ q))])]⟩) else (K .ret ⟨[(2,.p 2 0),(3,.p 3 0),(4,.v (.b false)),(5,.v (.n .i64 t))],[(2,.blk [.v (.lf ws.n (fJ ws.js)),.v (.lf ws.m (fM ws.ms)),.v (.lf ws.c (fS ws.sh)),.v (.lf ws.d (fK ws.sk)),.v (.lf ws.no (fO ws.ob)),.v (.lf ws.np (fZ ws.pl)),.v (.lf ws.nh (fH ws.hd)),.v (.lf ws.ng (fG ws.gr)),.v (.n .i64 ws.slack)]),(3,.blk [.v (.lf k (fQ q))])]⟩)) else none)))]) (qQ Tf 68 [0,1,0,1,1]) [0,1,0,1,1] (Tf.hint 68 (qJ (qQ Tf 68 [0,1,0,1,1]))) K 60 (hRv ws k q 0)=bif (allN (fun i:Nat=>mdG ws q i) k 0) then (K (.exit 0) ⟨[],[]⟩) else (K .ret ⟨[(4,.v (.b false))],[]⟩):=by
 refine (uU (L:=LFX 60 (cxS Tf (orRv ws k q) 60 68 (ntmF Tf 68)) (evX Tf (orRv ws k q) 60 68 (ntmF Tf 68)) (qZ [([0,1,1,0,0,1,0,0,1,0,1,1],sumF (fun t:Nat=>(hRx ws k q ((t:Nat):Int) 0)) (fun σ=>((slI σ 5).toNat)) (fun t K=>(bif (decide (t < k∧k≤50)) then (bif (allN (fun j:Nat => !decide (q j=q t)) t 0) then (K (.exit 2) ⟨[(2,.p 2 0),(3,.p 3 0),(5,.v (.n .i64 t))],[(2,.blk [.v (.lf ws.n (fJ ws.js)),.v (.lf ws.m (fM ws.ms)),.v (.lf ws.c (fS ws.sh)),.v (.lf ws.d (fK ws.sk)),.v (.lf ws.no (fO ws.ob)),.v (.lf ws.np (fZ ws.pl)),.v (.lf ws.nh (fH ws.hd)),.v (.lf ws.ng (fG ws.gr)),.v (.n .i64 ws.slack)]),(3,.blk [.v (.lf k (fQ q))])]⟩) else (K .ret ⟨[(2,.p 2 0),(3,.p 3 0),(4,.v (.b false)),(5,.v (.n .i64 t))],[(2,.blk [.v (.lf ws.n (fJ ws.js)),.v (.lf ws.m (fM ws.ms)),.v (.lf ws.c (fS ws.sh)),.v (.lf ws.d (fK ws.sk)),.v (.lf ws.no (fO ws.ob)),.v (.lf ws.np (fZ ws.pl)),.v (.lf ws.nh (fH ws.hd)),.v (.lf ws.ng (fG ws.gr)),.v (.n .i64 ws.slack)]),(3,.blk [.v (.lf k (fQ q))])]⟩)) else none)))]) (qQ Tf 68 [0,1,0,1,1]) [0,1,0,1,1] (Tf.hint 68 (qJ (qQ Tf 68 [0,1,0,1,1]))) K) (stp:=kZ 60 (cxS Tf (orRv ws k q) 60 68 (ntmF Tf 68)) (evX Tf (orRv ws k q) 60 68 (ntmF Tf 68)) (qZ [([0,1,1,0,0,1,0,0,1,0,1,1],sumF (fun t:Nat=>(hRx ws k q ((t:Nat):Int) 0)) (fun σ=>((slI σ 5).toNat)) (fun t K=>(bif (decide (t < k∧k≤50)) then (bif (allN (fun j:Nat => !decide (q j=q t)) t 0) then (K (.exit 2) ⟨[(2,.p 2 0),(3,.p 3 0),(5,.v (.n .i64 t))],[(2,.blk [.v (.lf ws.n (fJ ws.js)),.v (.lf ws.m (fM ws.ms)),.v (.lf ws.c (fS ws.sh)),.v (.lf ws.d (fK ws.sk)),.v (.lf ws.no (fO ws.ob)),.v (.lf ws.np (fZ ws.pl)),.v (.lf ws.nh (fH ws.hd)),.v (.lf ws.ng (fG ws.gr)),.v (.n .i64 ws.slack)]),(3,.blk [.v (.lf k (fQ q))])]⟩) else (K .ret ⟨[(2,.p 2 0),(3,.p 3 0),(4,.v (.b false)),(5,.v (.n .i64 t))],[(2,.blk [.v (.lf ws.n (fJ ws.js)),.v (.lf ws.m (fM ws.ms)),.v (.lf ws.c (fS ws.sh)),.v (.lf ws.d (fK ws.sk)),.v (.lf ws.no (fO ws.ob)),.v (.lf ws.np (fZ ws.pl)),.v (.lf ws.nh (fH ws.hd)),.v (.lf ws.ng (fG ws.gr)),.v (.n .i64 ws.slack)]),(3,.blk [.v (.lf k (fQ q))])]⟩)) else none)))]) (qQ Tf 68 [0,1,0,1,1]) [0,1,0,1,1] (Tf.hint 68 (qJ (qQ Tf 68 [0,1,0,1,1]))) K) (fun _ _=>rfl) (fun (i:Nat) (_:Unit)=>hRv ws k q (i:Int)) (fun _ _=>True) (fun (i:Nat) _=>mdG ws q i) (fun _ _=>()) (c:=k) (fun _=>(K (.exit 0) ⟨[],[]⟩)) (fun i _=>(K .ret ⟨[(4,.v (.b false))],[]⟩)) (fun G i f hi _ => ?_) (fun _ _ _ _ _=>trivial) (fun G f _ => ?_) k 0 60 () (by omega) (by omega) trivial).trans ((jQ _ _ _ _ _).trans (yH _ _ _ _ _))
 ·refine (rdRv G K ws k q i).trans ?_;rw [vJQ (show (i:Int) < (k:Int) by omega),kG (by omega),yX (show i < k by omega),toN,yU,vJQ (show i < k∧k≤50 from ⟨hi,hk⟩)];unfold mdG inM;rw [show allN (fun j:Nat => !decide (q j=q i)) i 0 = !hasQ q i (q i) from by unfold hasQ; rw [Bool.not_not]];cases decide (q i < vJJ .i64 (0 - (ws.nh:Int))) <;> cases decide ((ws.np:Int)≤q i) <;> cases hasQ q i (q i) <;> rfl
 ·refine (rdRv G K ws k q k).trans ?_;rw [vYH (show ¬ (k:Int) < (k:Int) by omega)];rfl
noncomputable def kJG (ws:Wsp) (k:Nat) (q:Nat→Int):List (List Nat × jU):=[([0,1,0,1,1],sumF (fun _:Unit=>(hRv ws k q 0)) (fun _=>()) (fun _ K=>(bif (decide (k≤50)) then (bif (allN (fun i:Nat=>mdG ws q i) k 0) then (K (.exit 0) ⟨[],[]⟩) else (K .ret ⟨[(4,.v (.b false))],[]⟩)) else none)))]
set_option maxRecDepth 100000 in
theorem xXJ (ws:Wsp) (k:Nat) (q:Nat→Int):qQA Tf (orRv ws k q) (qZ (kJG ws k q)) 60 68 [.a (wP ws),.a [.lf k (fQ q)]] =
 (bif (gF1 crw erw ws) then (bif (!decide ((wErr ws)=0)) then some (.v (.b false),[])
 else (bif (!decide ((k:Int)=(ws.no:Int))) then some (.v (.b false),[])
 else (bif (gSt (hRv ws k q 0) (hRv ws k q 0)) then (bif (decide (k≤50)) then (bif (allN (fun i:Nat=>mdG ws q i) k 0) then some (.v (.b true),[])
 else some (.v (.b false),[]))
 else none)
 else none)))
 else none):=by kernel_rfl
theorem kGI (ws:Wsp) (k:Nat) (q:Nat→Int) (ho:okW ws):yK Tryz.prog 68 [.a (wP ws),.a [.lf k (fQ q)]] (.v (.b (vlB ws k q))):=by
 refine zG (N:=60) (LO:=qZ (kJG ws k q)) kQ zV (kU (l:=[(20,o_rw)]) (m:=[]) ⟨uHK,trivial⟩ trivial) (fun p S hp => ?_) ?_
 ·refine zW (L:=qQ Tf 68) (l:=(kJG ws k q)) (show AllP _ (kJG ws k q) from ⟨?_,trivial⟩) p S hp
  ·dsimp only;refine jG (T:=Tf) (o:=(orRv ws k q)) (f:=68) (LO:=(qZ [([0,1,1,0,0,1,0,0,1,0,1,1],sumF (fun t:Nat=>(hRx ws k q ((t:Nat):Int) 0)) (fun σ=>((slI σ 5).toNat)) (fun t K=>(bif (decide (t < k∧k≤50)) then (bif (allN (fun j:Nat => !decide (q j=q t)) t 0) then (K (.exit 2) ⟨[(2,.p 2 0),(3,.p 3 0),(5,.v (.n .i64 t))],[(2,.blk [.v (.lf ws.n (fJ ws.js)),.v (.lf ws.m (fM ws.ms)),.v (.lf ws.c (fS ws.sh)),.v (.lf ws.d (fK ws.sk)),.v (.lf ws.no (fO ws.ob)),.v (.lf ws.np (fZ ws.pl)),.v (.lf ws.nh (fH ws.hd)),.v (.lf ws.ng (fG ws.gr)),.v (.n .i64 ws.slack)]),(3,.blk [.v (.lf k (fQ q))])]⟩) else (K .ret ⟨[(2,.p 2 0),(3,.p 3 0),(4,.v (.b false)),(5,.v (.n .i64 t))],[(2,.blk [.v (.lf ws.n (fJ ws.js)),.v (.lf ws.m (fM ws.ms)),.v (.lf ws.c (fS ws.sh)),.v (.lf ws.d (fK ws.sk)),.v (.lf ws.no (fO ws.ob)),.v (.lf ws.np (fZ ws.pl)),.v (.lf ws.nh (fH ws.hd)),.v (.lf ws.ng (fG ws.gr)),.v (.n .i64 ws.slack)]),(3,.blk [.v (.lf k (fQ q))])]⟩)) else none)))])) (p:=[0,1,0,1,1]) (okRx ws k q) ?_;intro t K r hr;obtain ⟨hg,hr⟩:=qY hr;have hk:=vJZ hg;exact (lpRv K ws k q hk).trans hr
 ·refine (xXJ ws k q).trans ?_;unfold vlB;rw [jH (C:=crw) (t:=ws) ho];by_cases h:wErr ws=0
  ·rw [vJQ h];by_cases hk:(k:Int)=(ws.no:Int)
   ·have h6:=kGZ h;rw [vJQ hk,yU,vJQ (show k≤50 by omega)];cases allN (fun i:Nat=>mdG ws q i) k 0 <;> rfl
   ·rw [vYH hk]; rfl
  ·rw [vYH h]; rfl
def cvl:Wsp × Nat × (Nat→Int)→Prop:=fun t=>match t with | (ws,_,_)=>okW ws
def evl:Wsp × Nat × (Nat→Int)→List PV:=fun t=>match t with | (ws,k,q)=>[.a (wP ws),.a [.lf k (fQ q)]]
noncomputable def rvl:Wsp × Nat × (Nat→Int)→Ret:=fun t=>match t with | (ws,k,q)=>.v (.b (vlB ws k q))
def dvl:List PV→Wsp × Nat × (Nat→Int):=fun ps=>match ps with
 | [.a r,.a [.lf k f]]=>(unW r,k,unFQ f)
 | _=>(unW [],0,fun _=>0)
noncomputable def o_vl:List PV→Option (Bool × Ret):=o_fm dvl cvl evl rvl
theorem uYK:zJ Tryz.prog 34 o_vl:=qQI fun t h=>by
 obtain ⟨ws,k,q⟩:=t;exact kGH ws k q h
def crv:Wsp × Nat × (Nat→Int)→Prop:=fun t=>match t with | (ws,_,_)=>okW ws
def erv:Wsp × Nat × (Nat→Int)→List PV:=fun t=>match t with | (ws,k,q)=>[.a (wP ws),.a [.lf k (fQ q)]]
noncomputable def rrv:Wsp × Nat × (Nat→Int)→Ret:=fun t=>match t with | (ws,k,q)=>.v (.b (vlB ws k q))
def drv:List PV→Wsp × Nat × (Nat→Int):=fun ps=>match ps with
 | [.a r,.a [.lf k f]]=>(unW r,k,unFQ f)
 | _=>(unW [],0,fun _=>0)
noncomputable def o_rv:List PV→Option (Bool × Ret):=o_fm drv crv erv rrv
theorem xVF:zJ Tryz.prog 68 o_rv:=qQI fun t h=>by
 obtain ⟨ws,k,q⟩:=t;exact kGI ws k q h
end Go.Proofs.YtmeldddgjfocdaaGreat.He
namespace Go.Proofs.YtmeldddgjfocdaaGreat.Hf
open Go.Rx Rt Go.Sx Go.RowKit Od Na Nb Nc Nx Nf Nl Nm Ga Gb Gc Gd Ge Gf Gg Ha Hb Hc Hd He
theorem bz {c:Bool} {x y:Int} (h:(bif c then x else y)=0) (hx:x ≠ 0):c=false∧y=0:=by
 cases c with
 | true=>exact absurd h hx
 | false=>exact ⟨rfl,h⟩
theorem xJJ {i:Int} {j:J} (h:cjT (fun e=>e) i j=0) : -4194304≤j.lo∧j.lo≤j.hi∧j.hi≤4194304:=by
 unfold cjT at h
 iterate 10 obtain ⟨_,h⟩:=bz h (by decide)
 by_cases k0:j.kind=0
 ·rw [vJQ k0,vYV] at h;obtain ⟨a,h⟩:=bz h (by decide);obtain ⟨b,h⟩:=bz h (by decide);obtain ⟨c,h⟩:=bz h (by decide);have a:=vJY a;have b:=vJY b;have c:=vJY c;omega
 rw [vYH k0,vYG] at h;by_cases k1:j.kind=1
 ·rw [vJQ k1,vYV] at h;obtain ⟨a,h⟩:=bz h (by decide);obtain ⟨b,h⟩:=bz h (by decide);obtain ⟨c,h⟩:=bz h (by decide);have a:=vJY a;have b:=vJY b;have c:=vJY c;omega
 rw [vYH k1,vYG] at h;by_cases k2:j.kind=2
 ·rw [vJQ k2,vYV] at h;obtain ⟨a,h⟩:=bz h (by decide);obtain ⟨b,h⟩:=bz h (by decide);obtain ⟨c,h⟩:=bz h (by decide);have a:=vJY a;have b:=vJY b;have c:=vJY c;omega
 rw [vYH k2,vYG] at h;by_cases k3:j.kind=3
 ·rw [vJQ k3,vYV] at h;obtain ⟨a,h⟩:=bz h (by decide);obtain ⟨b,h⟩:=bz h (by decide);obtain ⟨c,h⟩:=bz h (by decide);have a:=vJY a;have b:=vJY b;have c:=vJY c;omega
 rw [vYH k3,vYG] at h;obtain ⟨a,h⟩:=bz h (by decide);obtain ⟨b,h⟩:=bz h (by decide);obtain ⟨c,h⟩:=bz h (by decide);have a:=vJY a;have b:=vJY b;have c:=vJY c;omega
theorem kQH {js:Nat→J} {ms:Nat→Ms} {n m:Nat} (h:rErr js ms n m=0):∀ i,i < n → -4194304≤(js i).lo∧(js i).lo≤(js i).hi∧(js i).hi≤4194304:=fun i hi =>
 xJJ (jWJ (jWK (jKJ h) i (Nat.zero_le _) (by omega)))
theorem uVZ {js:Nat→J} {ms:Nat→Ms} {q:Nat→Int} {n m k:Nat} (h:qIn js ms q n m k=true):rErr js ms n m=0∧n=k∧(1≤n∧n≤10)∧smQ q k=true∧isB (ptB q) n k=true:=by
 obtain ⟨h1,h2,h3⟩:=kQL h;have hn:=zJL h1;have hl:=kQH h1;subst h2;have hq:∀ i,i < n → -4194304≤q i∧q i≤4194304:=fun i hi=>by
  have a:=hl i hi;have b:=h3 i hi;omega
 refine ⟨h1,rfl,hn,allN_iff.2 fun j _ hj => ?_,?_⟩
 ·have:=hq j (by omega)
  rw [vYH (show ¬ q j < -2147483648 by omega),vYH (show ¬ 2147483648 < q j by omega)]; rfl
 ·unfold isB allV;rw [vJQ (show (n:Int)=(n:Int) from rfl),vZH];refine allN_iff.2 fun j _ hj => ?_
  have:=hq j (by omega)
  unfold Iv.valid ptB
  simp
  omega
def cbx:Nat × (Nat→Int)→Prop:=fun t=>match t with | (k,_)=>k≤50
def ebx:Nat × (Nat→Int)→List PV:=fun t=>match t with | (k,q)=>[.lf k (fQ q)]
noncomputable def rbx:Nat × (Nat→Int)→Ret:=fun t=>match t with | (k,q)=>.v (.lf (bif smQ q k then k else 0) (fB (ptB q)))
def dbx:List PV→Nat × (Nat→Int):=fun ps=>match ps with
 | [.lf k f]=>(k,unFQ f)
 | _=>(0,fun _=>0)
noncomputable def o_bx:List PV→Option (Bool × Ret):=o_fm dbx cbx ebx rbx
theorem xGE:zJ Tryz.prog 77 o_bx:=qQI fun t h=>by
 obtain ⟨k,q⟩:=t;exact uWE q k h
def cry:Nat × (Nat→Int)→Prop:=fun t=>match t with | (k,_)=>k≤50
def ery:Nat × (Nat→Int)→List PV:=fun t=>match t with | (k,q)=>[.lf k (fQ q)]
noncomputable def rry:Nat × (Nat→Int)→Ret:=fun t=>match t with | (k,q)=>.v (.lf (bif smQ q k then k else 0) (fB (ptB q)))
def dry:List PV→Nat × (Nat→Int):=fun ps=>match ps with
 | [.lf k f]=>(k,unFQ f)
 | _=>(0,fun _=>0)
noncomputable def o_ry:List PV→Option (Bool × Ret):=o_fm dry cry ery rry
theorem xVE:zJ Tryz.prog 26 o_ry:=qQI fun t h=>by
 obtain ⟨k,q⟩:=t;exact kHU q k h
def unFB (f:Nat→List PV):Nat→Iv:=fun v=>match f v with
 | [.n _ a,.n _ b]=>⟨a,b⟩
 | _=>⟨0,0⟩
def cka:(Nat→J) × (Nat→Ms) × (Nat→Iv) × Nat × Nat × Nat→Prop:=fun t=>match t with | (_,_,_,_,_,k)=>k≤9223372036854775807
def eka:(Nat→J) × (Nat→Ms) × (Nat→Iv) × Nat × Nat × Nat→List PV:=fun t=>match t with | (js,ms,bx,n,m,k)=>[.a [.lf n (fJ js),.lf m (fM ms)],.lf k (fB bx)]
noncomputable def rka:(Nat→J) × (Nat→Ms) × (Nat→Iv) × Nat × Nat × Nat→Ret:=fun t=>match t with | (js,ms,bx,n,m,k)=>.v (.lf (bif decide (rErr js ms n m=0) && isB bx n k then n else 0) (fP (LP js bx n)))
def dka:List PV→(Nat→J) × (Nat→Ms) × (Nat→Iv) × Nat × Nat × Nat:=fun ps=>match ps with
 | [.a [.lf n js,.lf m ms],.lf k f]=>(unFJ js,unFM ms,unFB f,n,m,k)
 | _=>(fun _=>⟨ByteArray.empty,0,0,⟨0,0,0⟩,0,0,0,0,0,0⟩,fun _=>⟨0,0,⟨0,0,0⟩⟩,fun _=>⟨0,0⟩,0,0,0)
noncomputable def o_ka:List PV→Option (Bool × Ret):=o_fm dka cka eka rka
theorem xGU:zJ Tryz.prog 51 o_ka:=qQI fun t h=>by
 obtain ⟨js,ms,bx,n,m,k⟩:=t;exact kHI js ms bx n m k h
def crl:(Nat→J) × (Nat→Ms) × (Nat→Iv) × Nat × Nat × Nat→Prop:=fun t=>match t with | (_,_,_,_,_,_)=>True
def erl:(Nat→J) × (Nat→Ms) × (Nat→Iv) × Nat × Nat × Nat→List PV:=fun t=>match t with | (js,ms,bx,n,m,k)=>[.a [.lf n (fJ js),.lf m (fM ms)],.lf k (fB bx)]
noncomputable def rrl:(Nat→J) × (Nat→Ms) × (Nat→Iv) × Nat × Nat × Nat→Ret:=fun t=>match t with | (js,ms,bx,n,m,k)=>.v (.lf (bif decide (rErr js ms n m=0) && isB bx n k then n else 0) (fP (LP js bx n)))
def drl:List PV→(Nat→J) × (Nat→Ms) × (Nat→Iv) × Nat × Nat × Nat:=fun ps=>match ps with
 | [.a [.lf n js,.lf m ms],.lf k f]=>(unFJ js,unFM ms,unFB f,n,m,k)
 | _=>(fun _=>⟨ByteArray.empty,0,0,⟨0,0,0⟩,0,0,0,0,0,0⟩,fun _=>⟨0,0,⟨0,0,0⟩⟩,fun _=>⟨0,0⟩,0,0,0)
noncomputable def o_rl:List PV→Option (Bool × Ret):=o_fm drl crl erl rrl
theorem xVL:zJ Tryz.prog 25 o_rl:=qQI fun t h=>by
 obtain ⟨js,ms,bx,n,m,k⟩:=t;exact kHZ js ms bx n m k
def atC (s:Int) (off to:Z3) (po:Po):Bool:=(!(decide (po.r.x.x.lo < (vJJ .i64 (65536 - s)))) && (!(decide (po.r.x.y.lo < (vJJ .i64 (0 - s)))) && (!(decide (s < po.r.x.y.hi)) && (!(decide (po.r.x.z.lo < (vJJ .i64 (0 - s)))) && (!(decide (s < po.r.x.z.hi)) && (!(decide (po.r.y.x.lo < (vJJ .i64 (0 - s)))) && (!(decide (s < po.r.y.x.hi)) && (!(decide (po.r.y.y.lo < (vJJ .i64 (65536 - s)))) && (!(decide (po.r.y.z.lo < (vJJ .i64 (0 - s)))) && (!(decide (s < po.r.y.z.hi)) && (!(decide (po.r.z.x.lo < (vJJ .i64 (0 - s)))) && (!(decide (s < po.r.z.x.hi)) && (!(decide (po.r.z.y.lo < (vJJ .i64 (0 - s)))) && (!(decide (s < po.r.z.y.hi)) && (!(decide (po.r.z.z.lo < (vJJ .i64 (65536 - s)))) && (!(decide ((Po.app po (V3.of off)).x.lo < (vJJ .i64 (to.x - s)))) && (!(decide ((vJJ .i64 (to.x + s)) < (Po.app po (V3.of off)).x.hi)) && (!(decide ((Po.app po (V3.of off)).y.lo < (vJJ .i64 (to.y - s)))) && (!(decide ((vJJ .i64 (to.y + s)) < (Po.app po (V3.of off)).y.hi)) && (!(decide ((Po.app po (V3.of off)).z.lo < (vJJ .i64 (to.z - s)))) && (!(decide ((vJJ .i64 (to.z + s)) < (Po.app po (V3.of off)).z.hi)) && true)))))))))))))))))))))
def atB (ws:Wsp) (a b:Int) (k:Nat) (q:Nat→Int):Bool:=decide (wErr ws=0) && (knB ws a b && (qIn ws.js ws.ms q ws.n ws.m k && atC ws.slack (ws.hd a.toNat).off (ws.pl b.toNat) (LP ws.js (ptB q) ws.n (ws.hd a.toNat).link.toNat)))
theorem bfT (c y:Bool):(bif c then some (Ret.v (.b false),([]:Mem)) else some (Ret.v (.b y),([]:Mem)))=some (Ret.v (.b (!c && y)),([]:Mem)):=by cases c <;> rfl
theorem zWY {i:Int} {n:Nat} (h:0≤i∧i < (n:Int)):inB i n=true:=by
 unfold inB;rw [vJQ h.1,vJQ (show i.toNat < n by omega)]; rfl
theorem kUJ {ws:Wsp} {a b:Int} (h:knB ws a b=true):(0≤a∧a < (ws.nh:Int))∧(0≤b∧b < (ws.np:Int)):=by
 unfold knB at h;simp only [vQJ,decide_eq_true_eq] at h;omega
theorem jWA {ws:Wsp} (h:wErr ws=0) {i:Nat} (_:i < ws.nh):0≤(ws.hd i).link∧(ws.hd i).link < (ws.n:Int):=by
 have h2:=(jYZ h).2.1;unfold fiB at h2;simp only [vQJ] at h2;have h3:=allN_iff.1 h2.2.2.1 i (Nat.zero_le _) (by omega);unfold hdOk at h3;simp only [vQJ,Bool.not_eq_true',decide_eq_false_iff_not] at h3;omega
noncomputable def xVB (_:Wsp) (a b:Int) (k:Nat) (q:Nat→Int):OrS:=orS ((19,o_gk) :: (75,o_kn) :: (76,o_in) :: (77,o_bx) :: (51,o_ka) :: L9) []
noncomputable def kKI (_:Wsp) (a b:Int) (k:Nat) (q:Nat→Int):List (List Nat × jU):=[]
set_option maxRecDepth 100000 in
theorem xWC (ws:Wsp) (a b:Int) (k:Nat) (q:Nat→Int):qQA Tf (xVB ws a b k q) (qZ (kKI ws a b k q)) 60 27 [.a (wP ws),.n .i64 a,.n .i64 b,.lf k (fQ q)] =
 (bif (gF1 cgk egk ws) then (bif (!decide ((wErr ws)=0)) then some (.v (.b false),[])
 else (bif (gF1 ckn ekn (ws,a,b)) then (bif (knB ws a b) then (bif (gF1 cin ein (ws.js,ws.ms,ws.n,ws.m,k,q)) then (bif (qIn ws.js ws.ms q ws.n ws.m k) then (bif (inB a ws.nh) then (bif (gF1 cbx ebx (k,q)) then (bif (gF1 cka eka (ws.js,ws.ms,(ptB q),ws.n,ws.m,(bif smQ q k then k else 0))) then (bif (inB (ws.hd (a).toNat).link (bif decide (rErr ws.js ws.ms ws.n ws.m=0) && isB (ptB q) ws.n (bif smQ q k then k else 0) then ws.n else 0)) then (bif (decide ((LP ws.js (ptB q) ws.n ((ws.hd (a).toNat).link).toNat).r.x.x.lo < (vJJ .i64 (65536 - ws.slack)))) then some (.v (.b false),[])
 else (bif (decide ((LP ws.js (ptB q) ws.n ((ws.hd (a).toNat).link).toNat).r.x.y.lo < (vJJ .i64 (0 - ws.slack)))) then some (.v (.b false),[])
 else (bif (decide (ws.slack < (LP ws.js (ptB q) ws.n ((ws.hd (a).toNat).link).toNat).r.x.y.hi)) then some (.v (.b false),[])
 else (bif (decide ((LP ws.js (ptB q) ws.n ((ws.hd (a).toNat).link).toNat).r.x.z.lo < (vJJ .i64 (0 - ws.slack)))) then some (.v (.b false),[])
 else (bif (decide (ws.slack < (LP ws.js (ptB q) ws.n ((ws.hd (a).toNat).link).toNat).r.x.z.hi)) then some (.v (.b false),[])
 else (bif (decide ((LP ws.js (ptB q) ws.n ((ws.hd (a).toNat).link).toNat).r.y.x.lo < (vJJ .i64 (0 - ws.slack)))) then some (.v (.b false),[])
 else (bif (decide (ws.slack < (LP ws.js (ptB q) ws.n ((ws.hd (a).toNat).link).toNat).r.y.x.hi)) then some (.v (.b false),[])
 else (bif (decide ((LP ws.js (ptB q) ws.n ((ws.hd (a).toNat).link).toNat).r.y.y.lo < (vJJ .i64 (65536 - ws.slack)))) then some (.v (.b false),[])
 else (bif (decide ((LP ws.js (ptB q) ws.n ((ws.hd (a).toNat).link).toNat).r.y.z.lo < (vJJ .i64 (0 - ws.slack)))) then some (.v (.b false),[])
 else (bif (decide (ws.slack < (LP ws.js (ptB q) ws.n ((ws.hd (a).toNat).link).toNat).r.y.z.hi)) then some (.v (.b false),[])
 else (bif (decide ((LP ws.js (ptB q) ws.n ((ws.hd (a).toNat).link).toNat).r.z.x.lo < (vJJ .i64 (0 - ws.slack)))) then some (.v (.b false),[])
 else (bif (decide (ws.slack < (LP ws.js (ptB q) ws.n ((ws.hd (a).toNat).link).toNat).r.z.x.hi)) then some (.v (.b false),[])
 else (bif (decide ((LP ws.js (ptB q) ws.n ((ws.hd (a).toNat).link).toNat).r.z.y.lo < (vJJ .i64 (0 - ws.slack)))) then some (.v (.b false),[])
 else (bif (decide (ws.slack < (LP ws.js (ptB q) ws.n ((ws.hd (a).toNat).link).toNat).r.z.y.hi)) then some (.v (.b false),[])
 else (bif (decide ((LP ws.js (ptB q) ws.n ((ws.hd (a).toNat).link).toNat).r.z.z.lo < (vJJ .i64 (65536 - ws.slack)))) then some (.v (.b false),[])
 else (bif (inB b ws.np) then (bif (decide ((Po.app (LP ws.js (ptB q) ws.n ((ws.hd (a).toNat).link).toNat) (V3.of (ws.hd (a).toNat).off)).x.lo < (vJJ .i64 ((ws.pl (b).toNat).x - ws.slack)))) then some (.v (.b false),[])
 else (bif (decide ((vJJ .i64 ((ws.pl (b).toNat).x + ws.slack)) < (Po.app (LP ws.js (ptB q) ws.n ((ws.hd (a).toNat).link).toNat) (V3.of (ws.hd (a).toNat).off)).x.hi)) then some (.v (.b false),[])
 else (bif (decide ((Po.app (LP ws.js (ptB q) ws.n ((ws.hd (a).toNat).link).toNat) (V3.of (ws.hd (a).toNat).off)).y.lo < (vJJ .i64 ((ws.pl (b).toNat).y - ws.slack)))) then some (.v (.b false),[])
 else (bif (decide ((vJJ .i64 ((ws.pl (b).toNat).y + ws.slack)) < (Po.app (LP ws.js (ptB q) ws.n ((ws.hd (a).toNat).link).toNat) (V3.of (ws.hd (a).toNat).off)).y.hi)) then some (.v (.b false),[])
 else (bif (decide ((Po.app (LP ws.js (ptB q) ws.n ((ws.hd (a).toNat).link).toNat) (V3.of (ws.hd (a).toNat).off)).z.lo < (vJJ .i64 ((ws.pl (b).toNat).z - ws.slack)))) then some (.v (.b false),[])
 else (bif (decide ((vJJ .i64 ((ws.pl (b).toNat).z + ws.slack)) < (Po.app (LP ws.js (ptB q) ws.n ((ws.hd (a).toNat).link).toNat) (V3.of (ws.hd (a).toNat).off)).z.hi)) then some (.v (.b false),[])
 else some (.v (.b true),[])))))))
 else none))))))))))))))))
 else none)
 else none)
 else none)
 else none)
 else some (.v (.b false),[]))
 else none)
 else some (.v (.b false),[]))
 else none))
 else none):=by kernel_rfl
theorem uQE (ws:Wsp) (a b:Int) (k:Nat) (q:Nat→Int) (ho:okW ws):yK Tryz.prog 27 [.a (wP ws),.n .i64 a,.n .i64 b,.lf k (fQ q)] (.v (.b (atB ws a b k q))):=by
 refine zG (N:=60) (LO:=qZ (kKI ws a b k q)) kQ zV (kU (l:=((19,o_gk) :: (75,o_kn) :: (76,o_in) :: (77,o_bx) :: (51,o_ka) :: L9)) (m:=[]) ⟨xQU,xQQ,xQY,xGE,xGU,xKL⟩ trivial) (fun p S hp => ?_) ?_
 ·refine zW (L:=qQ Tf 27) (l:=(kKI ws a b k q)) (show AllP _ (kKI ws a b k q) from trivial) p S hp
 ·refine (xWC ws a b k q).trans ?_;unfold atB;rw [jH (C:=cgk) (t:=ws) ho];by_cases h0:wErr ws=0
  ·rw [vJQ h0,jH (C:=ckn) (t:=(ws,a,b)) trivial];cases hk:knB ws a b with
   | false=>rfl
   | true =>
    obtain ⟨k1,k2⟩:=kUJ hk;rw [jH (C:=cin) (t:=(ws.js,ws.ms,ws.n,ws.m,k,q)) trivial];cases hq:qIn ws.js ws.ms q ws.n ws.m k with
    | false=>rfl
    | true =>
     obtain ⟨h1,h2,h3,h4,h5⟩:=uVZ hq;have hl:=zWY (jWA h0 (i:=a.toNat) (by omega));simp only [zWY k1,zWY k2,jH (C:=cbx) (t:=(k,q)) (show k≤50 by omega),h4,vYV,jH (C:=cka) (t:=(ws.js,ws.ms,ptB q,ws.n,ws.m,k)) (show k≤9223372036854775807 by omega),h5,vJQ h1,vZJ,hl,Bool.not_true,vYG,bfT];rfl
  ·rw [vYH h0]; rfl
theorem uKH (s:Int) (off to:Z3) (po:Po):(!(decide (po.r.x.x.lo < (vJJ .i64 (65536 - s)))) && (!(decide (po.r.x.y.lo < (vJJ .i64 (0 - s)))) && (!(decide (s < po.r.x.y.hi)) && (!(decide (po.r.x.z.lo < (vJJ .i64 (0 - s)))) && (!(decide (s < po.r.x.z.hi)) && (!(decide ((Po.app po (V3.of off)).x.lo < (vJJ .i64 (to.x - s)))) && (!(decide ((vJJ .i64 (to.x + s)) < (Po.app po (V3.of off)).x.hi)) && (!(decide (po.r.y.x.lo < (vJJ .i64 (0 - s)))) && (!(decide (s < po.r.y.x.hi)) && (!(decide (po.r.y.y.lo < (vJJ .i64 (65536 - s)))) && (!(decide (po.r.y.z.lo < (vJJ .i64 (0 - s)))) && (!(decide (s < po.r.y.z.hi)) && (!(decide ((Po.app po (V3.of off)).y.lo < (vJJ .i64 (to.y - s)))) && (!(decide ((vJJ .i64 (to.y + s)) < (Po.app po (V3.of off)).y.hi)) && (!(decide (po.r.z.x.lo < (vJJ .i64 (0 - s)))) && (!(decide (s < po.r.z.x.hi)) && (!(decide (po.r.z.y.lo < (vJJ .i64 (0 - s)))) && (!(decide (s < po.r.z.y.hi)) && (!(decide (po.r.z.z.lo < (vJJ .i64 (65536 - s)))) && (!(decide ((Po.app po (V3.of off)).z.lo < (vJJ .i64 (to.z - s)))) && (!(decide ((vJJ .i64 (to.z + s)) < (Po.app po (V3.of off)).z.hi)) && true)))))))))))))))))))))=atC s off to po:=by
 unfold atC;rw [Bool.eq_iff_iff];simp only [vQJ];constructor
 ·rintro ⟨h0,h1,h2,h3,h4,h15,h16,h5,h6,h7,h8,h9,h17,h18,h10,h11,h12,h13,h14,h19,h20,_⟩
  exact ⟨h0,h1,h2,h3,h4,h5,h6,h7,h8,h9,h10,h11,h12,h13,h14,h15,h16,h17,h18,h19,h20,trivial⟩
 ·rintro ⟨h0,h1,h2,h3,h4,h5,h6,h7,h8,h9,h10,h11,h12,h13,h14,h15,h16,h17,h18,h19,h20,_⟩
  exact ⟨h0,h1,h2,h3,h4,h15,h16,h5,h6,h7,h8,h9,h17,h18,h10,h11,h12,h13,h14,h19,h20,trivial⟩
noncomputable def xVW (_:Wsp) (a b:Int) (k:Nat) (q:Nat→Int):OrS:=orS ((20,o_rw) :: (65,o_ri) :: (26,o_ry) :: (25,o_rl) :: L9) []
noncomputable def kKG (_:Wsp) (a b:Int) (k:Nat) (q:Nat→Int):List (List Nat × jU):=[]
set_option maxRecDepth 100000 in
theorem xWU (ws:Wsp) (a b:Int) (k:Nat) (q:Nat→Int):qQA Tf (xVW ws a b k q) (qZ (kKG ws a b k q)) 60 28 [.a (wP ws),.n .i64 a,.n .i64 b,.lf k (fQ q)] =
 (bif (gF1 crw erw ws) then (bif (!decide ((wErr ws)=0)) then some (.v (.b false),[])
 else (bif (decide (a < 0)) then some (.v (.b false),[])
 else (bif (decide ((ws.nh:Int)≤a)) then some (.v (.b false),[])
 else (bif (decide (b < 0)) then some (.v (.b false),[])
 else (bif (decide ((ws.np:Int)≤b)) then some (.v (.b false),[])
 else (bif (gF1 cri eri (ws.js,ws.ms,ws.n,ws.m,k,q)) then (bif (qIn ws.js ws.ms q ws.n ws.m k) then (bif (inB a ws.nh) then (bif (gF1 cry ery (k,q)) then (bif (gF1 crl erl (ws.js,ws.ms,(ptB q),ws.n,ws.m,(bif smQ q k then k else 0))) then (bif (inB (ws.hd (a).toNat).link (bif decide (rErr ws.js ws.ms ws.n ws.m=0) && isB (ptB q) ws.n (bif smQ q k then k else 0) then ws.n else 0)) then (bif (decide ((LP ws.js (ptB q) ws.n ((ws.hd (a).toNat).link).toNat).r.x.x.lo < (vJJ .i64 (65536 - ws.slack)))) then some (.v (.b false),[])
 else (bif (decide ((LP ws.js (ptB q) ws.n ((ws.hd (a).toNat).link).toNat).r.x.y.lo < (vJJ .i64 (0 - ws.slack)))) then some (.v (.b false),[])
 else (bif (decide (ws.slack < (LP ws.js (ptB q) ws.n ((ws.hd (a).toNat).link).toNat).r.x.y.hi)) then some (.v (.b false),[])
 else (bif (decide ((LP ws.js (ptB q) ws.n ((ws.hd (a).toNat).link).toNat).r.x.z.lo < (vJJ .i64 (0 - ws.slack)))) then some (.v (.b false),[])
 else (bif (decide (ws.slack < (LP ws.js (ptB q) ws.n ((ws.hd (a).toNat).link).toNat).r.x.z.hi)) then some (.v (.b false),[])
 else (bif (inB b ws.np) then (bif (decide ((Po.app (LP ws.js (ptB q) ws.n ((ws.hd (a).toNat).link).toNat) (V3.of (ws.hd (a).toNat).off)).x.lo < (vJJ .i64 ((ws.pl (b).toNat).x - ws.slack)))) then some (.v (.b false),[])
 else (bif (inB b ws.np) then (bif (decide ((vJJ .i64 ((ws.pl (b).toNat).x + ws.slack)) < (Po.app (LP ws.js (ptB q) ws.n ((ws.hd (a).toNat).link).toNat) (V3.of (ws.hd (a).toNat).off)).x.hi)) then some (.v (.b false),[])
 else (bif (decide ((LP ws.js (ptB q) ws.n ((ws.hd (a).toNat).link).toNat).r.y.x.lo < (vJJ .i64 (0 - ws.slack)))) then some (.v (.b false),[])
 else (bif (decide (ws.slack < (LP ws.js (ptB q) ws.n ((ws.hd (a).toNat).link).toNat).r.y.x.hi)) then some (.v (.b false),[])
 else (bif (decide ((LP ws.js (ptB q) ws.n ((ws.hd (a).toNat).link).toNat).r.y.y.lo < (vJJ .i64 (65536 - ws.slack)))) then some (.v (.b false),[])
 else (bif (decide ((LP ws.js (ptB q) ws.n ((ws.hd (a).toNat).link).toNat).r.y.z.lo < (vJJ .i64 (0 - ws.slack)))) then some (.v (.b false),[])
 else (bif (decide (ws.slack < (LP ws.js (ptB q) ws.n ((ws.hd (a).toNat).link).toNat).r.y.z.hi)) then some (.v (.b false),[])
 else (bif (inB b ws.np) then (bif (decide ((Po.app (LP ws.js (ptB q) ws.n ((ws.hd (a).toNat).link).toNat) (V3.of (ws.hd (a).toNat).off)).y.lo < (vJJ .i64 ((ws.pl (b).toNat).y - ws.slack)))) then some (.v (.b false),[])
 else (bif (inB b ws.np) then (bif (decide ((vJJ .i64 ((ws.pl (b).toNat).y + ws.slack)) < (Po.app (LP ws.js (ptB q) ws.n ((ws.hd (a).toNat).link).toNat) (V3.of (ws.hd (a).toNat).off)).y.hi)) then some (.v (.b false),[])
 else (bif (decide ((LP ws.js (ptB q) ws.n ((ws.hd (a).toNat).link).toNat).r.z.x.lo < (vJJ .i64 (0 - ws.slack)))) then some (.v (.b false),[])
 else (bif (decide (ws.slack < (LP ws.js (ptB q) ws.n ((ws.hd (a).toNat).link).toNat).r.z.x.hi)) then some (.v (.b false),[])
 else (bif (decide ((LP ws.js (ptB q) ws.n ((ws.hd (a).toNat).link).toNat).r.z.y.lo < (vJJ .i64 (0 - ws.slack)))) then some (.v (.b false),[])
 else (bif (decide (ws.slack < (LP ws.js (ptB q) ws.n ((ws.hd (a).toNat).link).toNat).r.z.y.hi)) then some (.v (.b false),[])
 else (bif (decide ((LP ws.js (ptB q) ws.n ((ws.hd (a).toNat).link).toNat).r.z.z.lo < (vJJ .i64 (65536 - ws.slack)))) then some (.v (.b false),[])
 else (bif (inB b ws.np) then (bif (decide ((Po.app (LP ws.js (ptB q) ws.n ((ws.hd (a).toNat).link).toNat) (V3.of (ws.hd (a).toNat).off)).z.lo < (vJJ .i64 ((ws.pl (b).toNat).z - ws.slack)))) then some (.v (.b false),[])
 else (bif (inB b ws.np) then (bif (decide ((vJJ .i64 ((ws.pl (b).toNat).z + ws.slack)) < (Po.app (LP ws.js (ptB q) ws.n ((ws.hd (a).toNat).link).toNat) (V3.of (ws.hd (a).toNat).off)).z.hi)) then some (.v (.b false),[])
 else some (.v (.b true),[]))
 else none))
 else none)))))))
 else none))
 else none)))))))
 else none))
 else none))))))
 else none)
 else none)
 else none)
 else none)
 else some (.v (.b false),[]))
 else none))))))
 else none):=by kernel_rfl
theorem uQU (ws:Wsp) (a b:Int) (k:Nat) (q:Nat→Int) (ho:okW ws):yK Tryz.prog 28 [.a (wP ws),.n .i64 a,.n .i64 b,.lf k (fQ q)] (.v (.b (atB ws a b k q))):=by
 refine zG (N:=60) (LO:=qZ (kKG ws a b k q)) kQ zV (kU (l:=((20,o_rw) :: (65,o_ri) :: (26,o_ry) :: (25,o_rl) :: L9)) (m:=[]) ⟨uHK,uHX,xVE,xVL,xKL⟩ trivial) (fun p S hp => ?_) ?_
 ·refine zW (L:=qQ Tf 28) (l:=(kKG ws a b k q)) (show AllP _ (kKG ws a b k q) from trivial) p S hp
 ·refine (xWU ws a b k q).trans ?_;unfold atB;rw [jH (C:=crw) (t:=ws) ho];by_cases h0:wErr ws=0
  ·rw [vJQ h0];unfold knB;rw [nle 0 a,nle 0 b,← nlt0 a (ws.nh:Int),← nlt0 b (ws.np:Int)];by_cases ka:a < 0
   ·rw [vJQ ka]; rfl
   by_cases kb:(ws.nh:Int)≤a
   ·rw [vYH ka,vJQ kb]; rfl
   by_cases kc:b < 0
   ·rw [vYH ka,vYH kb,vJQ kc]; rfl
   by_cases kd:(ws.np:Int)≤b
   ·rw [vYH ka,vYH kb,vYH kc,vJQ kd]; rfl
   have k1:0≤a∧a < (ws.nh:Int):=by omega
   have k2:0≤b∧b < (ws.np:Int):=by omega
   rw [vYH ka,vYH kb,vYH kc,vYH kd,jH (C:=cri) (t:=(ws.js,ws.ms,ws.n,ws.m,k,q)) trivial];cases hq:qIn ws.js ws.ms q ws.n ws.m k with
   | false=>rfl
   | true =>
    obtain ⟨h1,h2,h3,h4,h5⟩:=uVZ hq;have hl:=zWY (jWA h0 (i:=a.toNat) (by omega));simp only [zWY k1,zWY k2,jH (C:=cry) (t:=(k,q)) (show k≤50 by omega),h4,vYV,jH (C:=crl) (t:=(ws.js,ws.ms,ptB q,ws.n,ws.m,k)) trivial,h5,vJQ h1,vZJ,hl,Bool.not_true,Bool.not_false,vYG,bfT];exact congrArg (fun y=>some (Ret.v (.b y),([]:Mem))) (uKH _ _ _ _)
  ·rw [vYH h0]; rfl
def cat:Wsp × Int × Int × Nat × (Nat→Int)→Prop:=fun t=>match t with | (ws,_,_,_,_)=>okW ws
def eat:Wsp × Int × Int × Nat × (Nat→Int)→List PV:=fun t=>match t with | (ws,a,b,k,q)=>[.a (wP ws),.n .i64 a,.n .i64 b,.lf k (fQ q)]
noncomputable def rat:Wsp × Int × Int × Nat × (Nat→Int)→Ret:=fun t=>match t with | (ws,a,b,k,q)=>.v (.b (atB ws a b k q))
def dat:List PV→Wsp × Int × Int × Nat × (Nat→Int):=fun ps=>match ps with
 | [.a r,.n _ a,.n _ b,.lf k f]=>(unW r,a,b,k,unFQ f)
 | _=>(unW [],0,0,0,fun _=>0)
noncomputable def o_at:List PV→Option (Bool × Ret):=o_fm dat cat eat rat
theorem xQD:zJ Tryz.prog 27 o_at:=qQI fun t h=>by
 obtain ⟨ws,a,b,k,q⟩:=t;exact uQE ws a b k q h
def cht:Wsp × Int × Int × Nat × (Nat→Int)→Prop:=fun t=>match t with | (ws,_,_,_,_)=>okW ws
def eht:Wsp × Int × Int × Nat × (Nat→Int)→List PV:=fun t=>match t with | (ws,a,b,k,q)=>[.a (wP ws),.n .i64 a,.n .i64 b,.lf k (fQ q)]
noncomputable def rht:Wsp × Int × Int × Nat × (Nat→Int)→Ret:=fun t=>match t with | (ws,a,b,k,q)=>.v (.b (atB ws a b k q))
def dht:List PV→Wsp × Int × Int × Nat × (Nat→Int):=fun ps=>match ps with
 | [.a r,.n _ a,.n _ b,.lf k f]=>(unW r,a,b,k,unFQ f)
 | _=>(unW [],0,0,0,fun _=>0)
noncomputable def o_ht:List PV→Option (Bool × Ret):=o_fm dht cht eht rht
theorem xGV:zJ Tryz.prog 28 o_ht:=qQI fun t h=>by
 obtain ⟨ws,a,b,k,q⟩:=t;exact uQU ws a b k q h
end Go.Proofs.YtmeldddgjfocdaaGreat.Hf
namespace Go.Proofs.YtmeldddgjfocdaaGreat.Hg
open Go.Rx Rt Go.Sx Go.RowKit Od Na Nb Nc Nx Nf Nl Nm Ga Gb Gc Gd Ge Gf Gg Ha Hb Hc Hd He Hf
def mvC (q:Nat→Int) (k:Nat) (x y:Int):Bool:=hasQ q k x && !hasQ q k y
def mvQ (q:Nat→Int) (k:Nat) (x y:Int):Nat→Int:=fun v=>bif Nat.beq v (ixQ q k x).toNat then y else q v
theorem ixB {q:Nat→Int} {k:Nat} {x:Int} (h:hasQ q k x=true):inB (ixQ q k x) k=true:=by
 obtain ⟨i,h1,h2,_⟩:=qKD h;rw [h2]; exact yX h1
noncomputable def uGC (k:Nat) (q:Nat→Int) (x y:Int):OrS:=orS [(132,o_iq),(83,o_ct),(133,uJA)] []
noncomputable def yVI (k:Nat) (q:Nat→Int) (x y:Int):List (List Nat × jU):=[]
set_option maxRecDepth 100000 in
theorem uGY (k:Nat) (q:Nat→Int) (x y:Int):qQA Tf (uGC k q x y) (qZ (yVI k q x y)) 60 82 [.a [.lf k (fQ q)],.n .i64 x,.n .i64 y] =
 (bif (gF1 ciq eiq (k,q,x)) then (bif (decide ((ixQ q k x) < 0)) then some (.v (.t [.a [.l []],.b false]),[])
 else (bif (gF1 cct ect (k,q,y)) then (bif (hasQ q k y) then some (.v (.t [.a [.l []],.b false]),[])
 else (bif (gF1 ccoi ecoi (k,q)) then (bif (inB (ixQ q k x) k) then some (.v (.t [.a [.lf k (fQ (mvQ q k x y))],.b true]),[])
 else none)
 else none))
 else none))
 else none):=by kernel_rfl
theorem jHD (k:Nat) (q:Nat→Int) (x y:Int) (hk:k≤50):yK Tryz.prog 82 [.a [.lf k (fQ q)],.n .i64 x,.n .i64 y] (.v (bif mvC q k x y then .t [.a [.lf k (fQ (mvQ q k x y))],.b true] else .t [.a [.l []],.b false])):=by
 refine zG (N:=60) (LO:=qZ (yVI k q x y)) kQ zV (kU (l:=[(132,o_iq),(83,o_ct),(133,uJA)]) (m:=[]) ⟨xQZ,xQW,xQV,trivial⟩ trivial) (fun p S hp => ?_) ?_
 ·refine zW (L:=qQ Tf 82) (l:=(yVI k q x y)) (show AllP _ (yVI k q x y) from trivial) p S hp
 ·refine (uGY k q x y).trans ?_;unfold mvC;rw [jH (C:=ciq) (t:=(k,q,x)) hk,jWX];cases hx:hasQ q k x with
  | false=>rfl
  | true =>
   rw [jH (C:=cct) (t:=(k,q,y)) hk];cases hy:hasQ q k y with
   | true=>rfl
   | false =>
    obtain ⟨i,h1,_,_⟩:=qKD hx;rw [jH (C:=ccoi) (t:=(k,q)) ⟨by omega,hk⟩,ixB hx];rfl
theorem kHB (k:Nat) (q:Nat→Int) (x y:Int) (hk:k≤50):yK Tryz.prog 82 [.a [.lf k (fQ q)],.n .i64 x,.n .i64 y] (.v (.t [.a [.lf (bif mvC q k x y then k else 0) (fQ (mvQ q k x y))],.b (mvC q k x y)])):=by
 have h0:=jHD k q x y hk;cases h:mvC q k x y with
 | true=>rw [h] at h0; exact h0
 | false=>rw [h] at h0; exact qYK (Same.t (xs:=[_,_]) ⟨Same.a (xs:=[_]) ⟨Same.lf rfl,trivial⟩,fun _ _ _ h=>h,trivial⟩) h0
def cmv:Nat × (Nat→Int) × Int × Int→Prop:=fun t=>match t with | (k,_,_,_)=>k≤50
def emv:Nat × (Nat→Int) × Int × Int→List PV:=fun t=>match t with | (k,q,x,y)=>[.a [.lf k (fQ q)],.n .i64 x,.n .i64 y]
noncomputable def rmv:Nat × (Nat→Int) × Int × Int→Ret:=fun t=>match t with | (k,q,x,y)=>.v (.t [.a [.lf (bif mvC q k x y then k else 0) (fQ (mvQ q k x y))],.b (mvC q k x y)])
def dmv:List PV→Nat × (Nat→Int) × Int × Int:=fun ps=>match ps with
 | [.a [.lf k f],.n _ x,.n _ y]=>(k,unFQ f,x,y)
 | _=>(0,fun _=>0,0,0)
noncomputable def o_mv:List PV→Option (Bool × Ret):=o_fm dmv cmv emv rmv
theorem uHD:zJ Tryz.prog 82 o_mv:=qQI fun t h=>by
 obtain ⟨k,q,x,y⟩:=t;exact kHB k q x y h
noncomputable def uGB (k:Nat) (q:Nat→Int) (x y:Int):OrS:=orS [] []
noncomputable def yVE (k:Nat) (q:Nat→Int) (x y:Int):List (List Nat × jU):=[]
set_option maxRecDepth 100000 in
theorem uGQ (k:Nat) (q:Nat→Int) (x y:Int):qQA Tf (uGB k q x y) (qZ (yVE k q x y)) 60 131 [.a [.lf k (fQ q)],.n .i64 x,.n .i64 y] =
 (bif (decide (k≤1000000)) then (bif (inB x k) then some (.v (.a [.lf k (fun v=>[.n .i64 (bif (Nat.beq v (x).toNat) then y else (q v))])]),[])
 else none)
 else none):=by kernel_rfl
theorem jHB (k:Nat) (q:Nat→Int) (x y:Int) (_:k≤50) (hx:inB x k=true):yK Tryz.prog 131 [.a [.lf k (fQ q)],.n .i64 x,.n .i64 y] (.v (.a [.lf k (fQ (fun v=>bif Nat.beq v x.toNat then y else q v))])):=by
 refine zG (N:=60) (LO:=qZ (yVE k q x y)) kQ zV (kU (l:=[]) (m:=[]) trivial trivial) (fun p S hp => ?_) ?_
 ·refine zW (L:=qQ Tf 131) (l:=(yVE k q x y)) (show AllP _ (yVE k q x y) from trivial) p S hp
 ·refine (uGQ k q x y).trans ?_;rw [vJQ (show k≤1000000 by omega),hx];rfl
def crm:Nat × (Nat→Int) × Int × Int→Prop:=fun t=>match t with | (k,_,x,_)=>k≤50∧inB x k=true
def erm:Nat × (Nat→Int) × Int × Int→List PV:=fun t=>match t with | (k,q,x,y)=>[.a [.lf k (fQ q)],.n .i64 x,.n .i64 y]
noncomputable def rrm:Nat × (Nat→Int) × Int × Int→Ret:=fun t=>match t with | (k,q,x,y)=>.v (.a [.lf k (fQ (fun v=>bif Nat.beq v x.toNat then y else q v))])
def drm:List PV→Nat × (Nat→Int) × Int × Int:=fun ps=>match ps with
 | [.a [.lf k f],.n _ x,.n _ y]=>(k,unFQ f,x,y)
 | _=>(0,fun _=>0,0,0)
noncomputable def o_rm:List PV→Option (Bool × Ret):=o_fm drm crm erm rrm
theorem xVI:zJ Tryz.prog 131 o_rm:=qQI fun t h=>by
 obtain ⟨k,q,x,y⟩:=t;exact jHB k q x y h.1 h.2
def tkC (ws:Wsp) (k:Nat) (q:Nat→Int) (k2:Nat) (q2:Nat→Int) (a b x y:Int):Bool:=vlB ws k q && (atB ws a b k2 q2 && mvC q k x y)
theorem kGY {ws:Wsp} {k:Nat} {q:Nat→Int} (h:vlB ws k q=true):k≤6:=by
 unfold vlB at h;simp only [vQJ,decide_eq_true_eq] at h
 have:=kGZ h.1
 omega
noncomputable def xWF (_:Wsp) (k:Nat) (q:Nat→Int) (_:Nat) (_:Nat→Int) (a b:Int):OrS:=orS [(34,o_vl),(27,o_at),(82,o_mv)] []
noncomputable def kJU (_:Wsp) (k:Nat) (q:Nat→Int) (_:Nat) (_:Nat→Int) (a b:Int):List (List Nat × jU):=[]
set_option maxRecDepth 100000 in
theorem xUL (ws:Wsp) (k:Nat) (q:Nat→Int) (k2:Nat) (q2:Nat→Int) (a b:Int):qQA Tf (xWF ws k q k2 q2 a b) (qZ (kJU ws k q k2 q2 a b)) 60 32 [.a (wP ws),.a [.lf k (fQ q)],.lf k2 (fQ q2),.n .i64 a,.n .i64 b] =
 (bif (gF1 cvl evl (ws,k,q)) then (bif (vlB ws k q) then (bif (gF1 cat eat (ws,a,b,k2,q2)) then (bif (atB ws a b k2 q2) then (bif (gF1 cmv emv (k,q,b,(vJJ .i64 ((-1) - a)))) then (bif (mvC q k b (vJJ .i64 ((-1) - a))) then some (.v (.t [.a [.lf (bif mvC q k b (vJJ .i64 ((-1) - a)) then k else 0) (fun v=>[.n .i64 (mvQ q k b (vJJ .i64 ((-1) - a)) v)])],.b true]),[])
 else some (.v (.t [.a [.lf (bif mvC q k b (vJJ .i64 ((-1) - a)) then k else 0) (fun v=>[.n .i64 (mvQ q k b (vJJ .i64 ((-1) - a)) v)])],.b false]),[]))
 else none)
 else some (.v (.t [.a [.l []],.b false]),[]))
 else none)
 else some (.v (.t [.a [.l []],.b false]),[]))
 else none):=by kernel_rfl
theorem kGB (ws:Wsp) (k:Nat) (q:Nat→Int) (k2:Nat) (q2:Nat→Int) (a b:Int) (ho:okW ws):yK Tryz.prog 32 [.a (wP ws),.a [.lf k (fQ q)],.lf k2 (fQ q2),.n .i64 a,.n .i64 b] (.v (bif vlB ws k q && atB ws a b k2 q2 then .t [.a [.lf (bif mvC q k b (vJJ .i64 ((-1) - a)) then k else 0) (fQ (mvQ q k b (vJJ .i64 ((-1) - a))))],.b (mvC q k b (vJJ .i64 ((-1) - a)))] else .t [.a [.l []],.b false])):=by
 refine zG (N:=60) (LO:=qZ (kJU ws k q k2 q2 a b)) kQ zV (kU (l:=[(34,o_vl),(27,o_at),(82,o_mv)]) (m:=[]) ⟨uYK,xQD,uHD,trivial⟩ trivial) (fun p S hp => ?_) ?_
 ·refine zW (L:=qQ Tf 32) (l:=(kJU ws k q k2 q2 a b)) (show AllP _ (kJU ws k q k2 q2 a b) from trivial) p S hp
 ·refine (xUL ws k q k2 q2 a b).trans ?_;rw [jH (C:=cvl) (t:=(ws,k,q)) ho];cases hv:vlB ws k q with
  | false=>rfl
  | true =>
   rw [jH (C:=cat) (t:=(ws,a,b,k2,q2)) ho];cases ha:atB ws a b k2 q2 with
   | false=>rfl
   | true =>
    have:=kGY hv
    rw [jH (C:=cmv) (t:=(k,q,b,(vJJ .i64 ((-1) - a)))) (show k≤50 by omega)];cases mvC q k b (vJJ .i64 ((-1) - a)) <;> rfl
theorem uWU (ws:Wsp) (k:Nat) (q:Nat→Int) (k2:Nat) (q2:Nat→Int) (a b:Int) (ho:okW ws):yK Tryz.prog 32 [.a (wP ws),.a [.lf k (fQ q)],.lf k2 (fQ q2),.n .i64 a,.n .i64 b] (.v (.t [.a [.lf (bif tkC ws k q k2 q2 a b b (vJJ .i64 ((-1) - a)) then k else 0) (fQ (mvQ q k b (vJJ .i64 ((-1) - a))))],.b (tkC ws k q k2 q2 a b b (vJJ .i64 ((-1) - a)))])):=by
 have h0:=kGB ws k q k2 q2 a b ho;unfold tkC;cases hv:vlB ws k q with
 | false=>rw [hv] at h0; exact qYK (Same.t (xs:=[_,_]) ⟨Same.a (xs:=[_]) ⟨Same.lf rfl,trivial⟩,fun _ _ _ h=>h,trivial⟩) h0
 | true =>
  cases ha:atB ws a b k2 q2 with
  | false=>rw [hv,ha] at h0; exact qYK (Same.t (xs:=[_,_]) ⟨Same.a (xs:=[_]) ⟨Same.lf rfl,trivial⟩,fun _ _ _ h=>h,trivial⟩) h0
  | true=>rw [hv,ha] at h0; simpa using h0
noncomputable def uGA (_:Wsp) (k:Nat) (q:Nat→Int) (_:Nat) (_:Nat→Int) (a b:Int):OrS:=orS [(68,o_rv),(28,o_ht),(130,o_oa),(131,o_rm)] []
noncomputable def yVD (_:Wsp) (k:Nat) (q:Nat→Int) (_:Nat) (_:Nat→Int) (a b:Int):List (List Nat × jU):=[]
set_option maxRecDepth 100000 in
theorem uVL (ws:Wsp) (k:Nat) (q:Nat→Int) (k2:Nat) (q2:Nat→Int) (a b:Int):qQA Tf (uGA ws k q k2 q2 a b) (qZ (yVD ws k q k2 q2 a b)) 60 80 [.a (wP ws),.a [.lf k (fQ q)],.lf k2 (fQ q2),.n .i64 a,.n .i64 b] =
 (bif (gF1 crv erv (ws,k,q)) then (bif (vlB ws k q) then (bif (gF1 cht eht (ws,a,b,k2,q2)) then (bif (atB ws a b k2 q2) then (bif (gF1 coa eoa (k,q,(vJJ .i64 ((-1) - a)))) then (bif (decide (0≤(ixQ q k (vJJ .i64 ((-1) - a))))) then some (.v (.t [.a [.l []],.b false]),[])
 else (bif (gF1 coa eoa (k,q,b)) then (bif (decide ((ixQ q k b) < 0)) then some (.v (.t [.a [.l []],.b false]),[])
 else (bif (gF1 coa eoa (k,q,b)) then (bif (gF1 crm erm (k,q,(ixQ q k b),(vJJ .i64 ((-1) - a)))) then some (.v (.t [.a [.lf k (fun v=>[.n .i64 (bif Nat.beq v (ixQ q k b).toNat then (vJJ .i64 ((-1) - a)) else (q v))])],.b true]),[])
 else none)
 else none))
 else none))
 else none)
 else some (.v (.t [.a [.l []],.b false]),[]))
 else none)
 else some (.v (.t [.a [.l []],.b false]),[]))
 else none):=by kernel_rfl
theorem jHH (ws:Wsp) (k:Nat) (q:Nat→Int) (k2:Nat) (q2:Nat→Int) (a b:Int) (ho:okW ws):yK Tryz.prog 80 [.a (wP ws),.a [.lf k (fQ q)],.lf k2 (fQ q2),.n .i64 a,.n .i64 b] (.v (bif tkC ws k q k2 q2 a b b (vJJ .i64 ((-1) - a)) then .t [.a [.lf k (fQ (mvQ q k b (vJJ .i64 ((-1) - a))))],.b true] else .t [.a [.l []],.b false])):=by
 refine zG (N:=60) (LO:=qZ (yVD ws k q k2 q2 a b)) kQ zV (kU (l:=[(68,o_rv),(28,o_ht),(130,o_oa),(131,o_rm)]) (m:=[]) ⟨xVF,xGV,xGK,xVI,trivial⟩ trivial) (fun p S hp => ?_) ?_
 ·refine zW (L:=qQ Tf 80) (l:=(yVD ws k q k2 q2 a b)) (show AllP _ (yVD ws k q k2 q2 a b) from trivial) p S hp
 ·refine (uVL ws k q k2 q2 a b).trans ?_;unfold tkC mvC;rw [jH (C:=crv) (t:=(ws,k,q)) ho];cases hv:vlB ws k q with
  | false=>rfl
  | true =>
   rw [jH (C:=cht) (t:=(ws,a,b,k2,q2)) ho];cases ha:atB ws a b k2 q2 with
   | false=>rfl
   | true =>
    have hk:=kGY hv;simp only [jH (C:=coa) (t:=(k,q,b)) (show k≤50 by omega),jH (C:=coa) (t:=(k,q,(vJJ .i64 ((-1) - a)))) (show k≤50 by omega),jWU,jWX,vYV];cases hx:hasQ q k b with
    | false=>cases hy:hasQ q k (vJJ .i64 ((-1) - a)) <;> rfl
    | true =>
     cases hy:hasQ q k (vJJ .i64 ((-1) - a)) with
     | true=>rfl
     | false =>
      rw [jH (C:=crm) (t:=(k,q,ixQ q k b,(vJJ .i64 ((-1) - a)))) (show k≤50∧inB (ixQ q k b) k=true from ⟨by omega,ixB hx⟩)];rfl
theorem kGL (ws:Wsp) (k:Nat) (q:Nat→Int) (k2:Nat) (q2:Nat→Int) (a b:Int) (ho:okW ws):yK Tryz.prog 80 [.a (wP ws),.a [.lf k (fQ q)],.lf k2 (fQ q2),.n .i64 a,.n .i64 b] (.v (.t [.a [.lf (bif tkC ws k q k2 q2 a b b (vJJ .i64 ((-1) - a)) then k else 0) (fQ (mvQ q k b (vJJ .i64 ((-1) - a))))],.b (tkC ws k q k2 q2 a b b (vJJ .i64 ((-1) - a)))])):=by
 have h0:=jHH ws k q k2 q2 a b ho;cases hv:tkC ws k q k2 q2 a b b (vJJ .i64 ((-1) - a)) with
 | false=>rw [hv] at h0; exact qYK (Same.t (xs:=[_,_]) ⟨Same.a (xs:=[_]) ⟨Same.lf rfl,trivial⟩,fun _ _ _ h=>h,trivial⟩) h0
 | true=>rw [hv] at h0; exact h0
def ctk:Wsp × Nat × (Nat→Int) × Nat × (Nat→Int) × Int × Int→Prop:=fun t=>match t with | (ws,_,_,_,_,_,_)=>okW ws
def etk:Wsp × Nat × (Nat→Int) × Nat × (Nat→Int) × Int × Int→List PV:=fun t=>match t with | (ws,k,q,k2,q2,a,b)=>[.a (wP ws),.a [.lf k (fQ q)],.lf k2 (fQ q2),.n .i64 a,.n .i64 b]
noncomputable def rtk:Wsp × Nat × (Nat→Int) × Nat × (Nat→Int) × Int × Int→Ret:=fun t=>match t with | (ws,k,q,k2,q2,a,b)=>.v (.t [.a [.lf (bif tkC ws k q k2 q2 a b b (vJJ .i64 ((-1) - a)) then k else 0) (fQ (mvQ q k b (vJJ .i64 ((-1) - a))))],.b (tkC ws k q k2 q2 a b b (vJJ .i64 ((-1) - a)))])
def dtk:List PV→Wsp × Nat × (Nat→Int) × Nat × (Nat→Int) × Int × Int:=fun ps=>match ps with
 | [.a r,.a [.lf k f],.lf k2 g,.n _ a,.n _ b]=>(unW r,k,unFQ f,k2,unFQ g,a,b)
 | _=>(unW [],0,fun _=>0,0,fun _=>0,0,0)
noncomputable def o_tk:List PV→Option (Bool × Ret):=o_fm dtk ctk etk rtk
theorem xVC:zJ Tryz.prog 32 o_tk:=qQI fun t h=>by
 obtain ⟨ws,k,q,k2,q2,a,b⟩:=t;exact uWU ws k q k2 q2 a b h
def crtk:Wsp × Nat × (Nat→Int) × Nat × (Nat→Int) × Int × Int→Prop:=fun t=>match t with | (ws,_,_,_,_,_,_)=>okW ws
def ertk:Wsp × Nat × (Nat→Int) × Nat × (Nat→Int) × Int × Int→List PV:=fun t=>match t with | (ws,k,q,k2,q2,a,b)=>[.a (wP ws),.a [.lf k (fQ q)],.lf k2 (fQ q2),.n .i64 a,.n .i64 b]
noncomputable def rrtk:Wsp × Nat × (Nat→Int) × Nat × (Nat→Int) × Int × Int→Ret:=fun t=>match t with | (ws,k,q,k2,q2,a,b)=>.v (.t [.a [.lf (bif tkC ws k q k2 q2 a b b (vJJ .i64 ((-1) - a)) then k else 0) (fQ (mvQ q k b (vJJ .i64 ((-1) - a))))],.b (tkC ws k q k2 q2 a b b (vJJ .i64 ((-1) - a)))])
def drtk:List PV→Wsp × Nat × (Nat→Int) × Nat × (Nat→Int) × Int × Int:=fun ps=>match ps with
 | [.a r,.a [.lf k f],.lf k2 g,.n _ a,.n _ b]=>(unW r,k,unFQ f,k2,unFQ g,a,b)
 | _=>(unW [],0,fun _=>0,0,fun _=>0,0,0)
noncomputable def uJG:List PV→Option (Bool × Ret):=o_fm drtk crtk ertk rrtk
theorem uHU:zJ Tryz.prog 80 uJG:=qQI fun t h=>by
 obtain ⟨ws,k,q,k2,q2,a,b⟩:=t;exact kGL ws k q k2 q2 a b h
noncomputable def xVQ (_:Wsp) (k:Nat) (q:Nat→Int) (_:Nat) (_:Nat→Int) (a b:Int):OrS:=orS [(34,o_vl),(27,o_at),(82,o_mv)] []
noncomputable def kJE (_:Wsp) (k:Nat) (q:Nat→Int) (_:Nat) (_:Nat→Int) (a b:Int):List (List Nat × jU):=[]
set_option maxRecDepth 100000 in
theorem xXH (ws:Wsp) (k:Nat) (q:Nat→Int) (k2:Nat) (q2:Nat→Int) (a b:Int):qQA Tf (xVQ ws k q k2 q2 a b) (qZ (kJE ws k q k2 q2 a b)) 60 33 [.a (wP ws),.a [.lf k (fQ q)],.lf k2 (fQ q2),.n .i64 a,.n .i64 b] =
 (bif (gF1 cvl evl (ws,k,q)) then (bif (vlB ws k q) then (bif (gF1 cat eat (ws,a,b,k2,q2)) then (bif (atB ws a b k2 q2) then (bif (gF1 cmv emv (k,q,(vJJ .i64 ((-1) - a)),b)) then (bif (mvC q k (vJJ .i64 ((-1) - a)) b) then some (.v (.t [.a [.lf (bif mvC q k (vJJ .i64 ((-1) - a)) b then k else 0) (fun v=>[.n .i64 (mvQ q k (vJJ .i64 ((-1) - a)) b v)])],.b true]),[])
 else some (.v (.t [.a [.lf (bif mvC q k (vJJ .i64 ((-1) - a)) b then k else 0) (fun v=>[.n .i64 (mvQ q k (vJJ .i64 ((-1) - a)) b v)])],.b false]),[]))
 else none)
 else some (.v (.t [.a [.l []],.b false]),[]))
 else none)
 else some (.v (.t [.a [.l []],.b false]),[]))
 else none):=by kernel_rfl
theorem kHW (ws:Wsp) (k:Nat) (q:Nat→Int) (k2:Nat) (q2:Nat→Int) (a b:Int) (ho:okW ws):yK Tryz.prog 33 [.a (wP ws),.a [.lf k (fQ q)],.lf k2 (fQ q2),.n .i64 a,.n .i64 b] (.v (bif vlB ws k q && atB ws a b k2 q2 then .t [.a [.lf (bif mvC q k (vJJ .i64 ((-1) - a)) b then k else 0) (fQ (mvQ q k (vJJ .i64 ((-1) - a)) b))],.b (mvC q k (vJJ .i64 ((-1) - a)) b)] else .t [.a [.l []],.b false])):=by
 refine zG (N:=60) (LO:=qZ (kJE ws k q k2 q2 a b)) kQ zV (kU (l:=[(34,o_vl),(27,o_at),(82,o_mv)]) (m:=[]) ⟨uYK,xQD,uHD,trivial⟩ trivial) (fun p S hp => ?_) ?_
 ·refine zW (L:=qQ Tf 33) (l:=(kJE ws k q k2 q2 a b)) (show AllP _ (kJE ws k q k2 q2 a b) from trivial) p S hp
 ·refine (xXH ws k q k2 q2 a b).trans ?_;rw [jH (C:=cvl) (t:=(ws,k,q)) ho];cases hv:vlB ws k q with
  | false=>rfl
  | true =>
   rw [jH (C:=cat) (t:=(ws,a,b,k2,q2)) ho];cases ha:atB ws a b k2 q2 with
   | false=>rfl
   | true =>
    have:=kGY hv
    rw [jH (C:=cmv) (t:=(k,q,(vJJ .i64 ((-1) - a)),b)) (show k≤50 by omega)];cases mvC q k (vJJ .i64 ((-1) - a)) b <;> rfl
theorem uWW (ws:Wsp) (k:Nat) (q:Nat→Int) (k2:Nat) (q2:Nat→Int) (a b:Int) (ho:okW ws):yK Tryz.prog 33 [.a (wP ws),.a [.lf k (fQ q)],.lf k2 (fQ q2),.n .i64 a,.n .i64 b] (.v (.t [.a [.lf (bif tkC ws k q k2 q2 a b (vJJ .i64 ((-1) - a)) b then k else 0) (fQ (mvQ q k (vJJ .i64 ((-1) - a)) b))],.b (tkC ws k q k2 q2 a b (vJJ .i64 ((-1) - a)) b)])):=by
 have h0:=kHW ws k q k2 q2 a b ho;unfold tkC;cases hv:vlB ws k q with
 | false=>rw [hv] at h0; exact qYK (Same.t (xs:=[_,_]) ⟨Same.a (xs:=[_]) ⟨Same.lf rfl,trivial⟩,fun _ _ _ h=>h,trivial⟩) h0
 | true =>
  cases ha:atB ws a b k2 q2 with
  | false=>rw [hv,ha] at h0; exact qYK (Same.t (xs:=[_,_]) ⟨Same.a (xs:=[_]) ⟨Same.lf rfl,trivial⟩,fun _ _ _ h=>h,trivial⟩) h0
  | true=>rw [hv,ha] at h0; simpa using h0
def cpt:Wsp × Nat × (Nat→Int) × Nat × (Nat→Int) × Int × Int→Prop:=fun t=>match t with | (ws,_,_,_,_,_,_)=>okW ws
def ept:Wsp × Nat × (Nat→Int) × Nat × (Nat→Int) × Int × Int→List PV:=fun t=>match t with | (ws,k,q,k2,q2,a,b)=>[.a (wP ws),.a [.lf k (fQ q)],.lf k2 (fQ q2),.n .i64 a,.n .i64 b]
noncomputable def rpt:Wsp × Nat × (Nat→Int) × Nat × (Nat→Int) × Int × Int→Ret:=fun t=>match t with | (ws,k,q,k2,q2,a,b)=>.v (.t [.a [.lf (bif tkC ws k q k2 q2 a b (vJJ .i64 ((-1) - a)) b then k else 0) (fQ (mvQ q k (vJJ .i64 ((-1) - a)) b))],.b (tkC ws k q k2 q2 a b (vJJ .i64 ((-1) - a)) b)])
def dpt:List PV→Wsp × Nat × (Nat→Int) × Nat × (Nat→Int) × Int × Int:=fun ps=>match ps with
 | [.a r,.a [.lf k f],.lf k2 g,.n _ a,.n _ b]=>(unW r,k,unFQ f,k2,unFQ g,a,b)
 | _=>(unW [],0,fun _=>0,0,fun _=>0,0,0)
noncomputable def o_pt:List PV→Option (Bool × Ret):=o_fm dpt cpt ept rpt
theorem xGZ:zJ Tryz.prog 33 o_pt:=qQI fun t h=>by
 obtain ⟨ws,k,q,k2,q2,a,b⟩:=t;exact uWW ws k q k2 q2 a b h
end Go.Proofs.YtmeldddgjfocdaaGreat.Hg
namespace Go.Proofs.YtmeldddgjfocdaaGreat.Hh
end Go.Proofs.YtmeldddgjfocdaaGreat.Hh
namespace Go.Proofs.YtmeldddgjfocdaaGreat.Hi
open Go.Rx Rt Go.Sx Go.RowKit Od Na Nb Nc Nx Nf Nl Nm Ga Gb Gc Gd Ge Gf Gg Ha Hb Hc Hd He Hf Hg Hh
def sumN (f:Nat→Nat):Nat→Nat
 | 0=>0
 | i + 1=>sumN f i + f i
theorem jYG (f:Nat→Nat) (b:Nat):∀ n,(∀ i,i < n→f i≤b)→sumN f n≤n * b
 | 0,_=>Nat.zero_le _
 | n + 1,h=>by
  have h1:=jYG f b n fun i hi=>h i (by omega)
  have h2:=h n (by omega);unfold sumN;rw [Nat.add_mul]; omega
theorem jVE {ws:Wsp} (ho:okW ws) (hc:ws.c≤24) (hn:ws.no≤6):∀ i,i≤ws.no→cntF ws i=((ws.c + sumN (fun j=>(ws.ob j).ns) i:Nat):Int)
 | 0,_=>rfl
 | i + 1,hi=>by
  have ih:=jVE ho hc hn i (by omega);have hb:=jYG (fun j=>(ws.ob j).ns) 8796093021952 i fun j hj=>ho j (by omega)
  have h1:=ho i (by omega);have hi2:i * 8796093021952≤6 * 8796093021952:=Nat.mul_le_mul_right _ (by omega);show vJJ .i64 (cntF ws i + ((ws.ob i).ns:Int))=_;rw [ih];show _=((ws.c + (sumN (fun j=>(ws.ob j).ns) i + (ws.ob i).ns):Nat):Int);have hb':sumN (fun j=>(ws.ob j).ns) i≤i * 8796093021952:=hb;rw [zQ (by omega)];omega
end Go.Proofs.YtmeldddgjfocdaaGreat.Hi
namespace Go.Proofs.YtmeldddgjfocdaaGreat.Hj
end Go.Proofs.YtmeldddgjfocdaaGreat.Hj
namespace Go.Proofs.YtmeldddgjfocdaaGreat.Hk
open Go.Rx Rt Go.Sx Go.RowKit Od Na Nb Nc Nx Nf Nl Nm Ga Gb Gc Gd Ge Gf Gg Ha Hb Hc Hd He Hf Hg Hh Hi Hj
theorem uJL {n:Nat} {l:Int} (h : -1≤l∧l < (n:Int)):isLk n l=true:=by
 unfold isLk;rw [vJQ h.1,vJQ h.2]; rfl
theorem zHF {k:Int} {p:Z3} (_:(-k≤p.x∧p.x≤k)∧(-k≤p.y∧p.y≤k)∧(-k≤p.z∧p.z≤k)):zOk k p=true:=by
 unfold zOk;rw [vYH (show ¬ p.x < -k by omega),vYH (show ¬ k < p.x by omega),vYH (show ¬ p.y < -k by omega),vYH (show ¬ k < p.y by omega),vYH (show ¬ p.z < -k by omega),vYH (show ¬ k < p.z by omega)]; rfl
end Go.Proofs.YtmeldddgjfocdaaGreat.Hk
namespace Go.Proofs.YtmeldddgjfocdaaGreat.Sn
open Go.Rx Rt Go.Sx Go.RowKit Od Nb
noncomputable def xWI (x k:Int):OrS:=orS [] []
noncomputable def kJH (x k:Int):List (List Nat × jU):=[]
set_option maxRecDepth 100000 in
theorem xXU (x k:Int):qQA Tf (xWI x k) (qZ (kJH x k)) 60 23 [.n .i64 x,.n .i64 k] =
 (bif (decide (k=0)) then none
 else (bif (decide ((x.tmod k) < 0)) then some (.v (.n .i64 (vJJ .i64 ((x.tmod k) + k))),[])
 else some (.v (.n .i64 (x.tmod k)),[]))):=by kernel_rfl
theorem jYI (x k:Int) (hk:0 < k∧k≤9223372036854775807):yK Tryz.prog 23 [.n .i64 x,.n .i64 k] (.v (.n .i64 (x % k))):=by
 refine zG (N:=60) (LO:=qZ (kJH x k)) kQ zV (kU (l:=[]) (m:=[]) trivial trivial) (fun p S hp => ?_) ?_
 ·refine zW (L:=qQ Tf 23) (l:=(kJH x k)) (show AllP _ (kJH x k) from trivial) p S hp
 ·refine (xXU x k).trans ?_;have hk0:k ≠ 0:=by omega
  have h1:=Int.emod_nonneg x hk0;have h2:=Int.emod_lt_of_pos x hk.1;rw [vYH (show ¬ k=0 by omega),Int.tmod_eq_emod];by_cases h:0≤x ∨ k ∣ x
  ·rw [if_pos h,show ((0:Nat):Int)=0 from rfl,Int.sub_zero,vYH (show ¬ x % k < 0 by omega)];rfl
  ·rw [if_neg h,show ((k.natAbs:Nat):Int)=k by omega,vJQ (show x % k - k < 0 by omega),show vJJ .i64 (x % k - k + k)=x % k from by rw [show x % k - k + k=x % k by omega]; exact zQ (by omega)];rfl
def crn:Int × Int→Prop:=fun t=>match t with | (_,k)=>0 < k∧k≤9223372036854775807
def ern:Int × Int→List PV:=fun t=>match t with | (x,k)=>[.n .i64 x,.n .i64 k]
noncomputable def rrn:Int × Int→Ret:=fun t=>match t with | (x,k)=>.v (.n .i64 (x % k))
def drn:List PV→Int × Int:=fun ps=>match ps with
 | [.n _ x,.n _ k]=>(x,k)
 | _=>(0,0)
noncomputable def o_rn:List PV→Option (Bool × Ret):=o_fm drn crn ern rrn
theorem ok_rn:zJ Tryz.prog 23 o_rn:=qQI fun t h=>by
 obtain ⟨x,k⟩:=t;exact jYI x k h
noncomputable def ornx (w m:Nat) (e:Nat→Int) (k:Int):OrS:=orS [(23,o_rn)] []
noncomputable def lsnx (w m:Nat) (e:Nat→Int) (k:Int):List (List Nat × jU):=[]
set_option maxRecDepth 100000 in
theorem pxnx (w m:Nat) (e:Nat→Int) (k:Int):uVK Tf (ornx w m e k) (qZ (lsnx w m e k)) 60 43 [.p 1000000 0,.v (.n .i64 k)] [.lf w (fQ e),.n .i64 (m:Int)] =
 (bif (decide ((w:Int)≤(m:Int))) then some (.v (.t [.n .i64 0,.lf w (fQ e),.n .i64 (m:Int)]),[])
 else (bif (inB (vJJ .i64 ((vJJ .i64 ((m:Int) + 1)) - 1)) w) then (bif (gF1 crn ern ((e ((vJJ .i64 ((vJJ .i64 ((m:Int) + 1)) - 1))).toNat),k)) then some (.v (.t [.n .i64 ((e ((vJJ .i64 ((vJJ .i64 ((m:Int) + 1)) - 1))).toNat) % k),.lf w (fQ e),.n .i64 (vJJ .i64 ((m:Int) + 1))]),[])
 else none)
 else none)):=by kernel_rfl
theorem uWV (w m:Nat) (e:Nat→Int) (k:Int) (_:m≤w) (_:w≤9223372036854775807) (hk:0 < k∧k≤9223372036854775807):yJG Tryz.prog 43 [.p 1000000 0,.v (.n .i64 k)] [.lf w (fQ e),.n .i64 (m:Int)] (.n .i64 (nxV e w m k)) ([.lf w (fQ e),.n .i64 ((min (m + 1) w:Nat):Int)]):=by
 refine yKH (N:=60) (LO:=qZ (lsnx w m e k)) kQ zV (kU (l:=[(23,o_rn)]) (m:=[]) ⟨ok_rn,trivial⟩ trivial) (fun p S hp => ?_) ?_
 ·refine zW (L:=qQ Tf 43) (l:=(lsnx w m e k)) (show AllP _ (lsnx w m e k) from trivial) p S hp
 ·refine (pxnx w m e k).trans ?_;unfold nxV eW;by_cases h:m < w
  ·have h1:vJJ .i64 ((m:Int) + 1)=(m:Int) + 1:=zQ (by omega);have h2:vJJ .i64 ((m:Int) + 1 - 1)=((m:Nat):Int):=by rw [zQ (by omega)]; omega
   rw [vYH (show ¬ (w:Int)≤(m:Int) by omega),h1,h2,yX h,toN,jH (C:=crn) (t:=(_,k)) hk,show Nat.blt m w=true from by rw [Nat.blt_eq]; exact h,show min (m + 1) w=m + 1 by omega];rfl
  ·rw [vJQ (show (w:Int)≤(m:Int) by omega),show Nat.blt m w=false from by rw [Bool.eq_false_iff,ne_eq,Nat.blt_eq]; exact h,show min (m + 1) w=m by omega]
   simp
def cnx:Nat × Nat × (Nat→Int) × Int→Prop:=fun t=>match t with | (w,m,_,k)=>m≤w∧w≤9223372036854775807∧0 < k∧k≤9223372036854775807
def hnx:Nat × Nat × (Nat→Int) × Int→List HV:=fun t=>match t with | (_,_,_,k)=>[.p pid 0,.v (.n .i64 k)]
def enx:Nat × Nat × (Nat→Int) × Int→List PV:=fun t=>match t with | (w,m,e,_)=>[.lf w (fQ e),.n .i64 (m:Int)]
noncomputable def xnx:Nat × Nat × (Nat→Int) × Int→PV:=fun t=>match t with | (w,m,e,k)=>.n .i64 (nxV e w m k)
noncomputable def qnx:Nat × Nat × (Nat→Int) × Int→List PV:=fun t=>match t with | (w,m,e,_)=>[.lf w (fQ e),.n .i64 ((min (m + 1) w:Nat):Int)]
def dnx:List HV→List PV→Nat × Nat × (Nat→Int) × Int:=fun hs ps=>match hs,ps with
 | [_,.v (.n _ k)],[.lf w f,.n _ c]=>(w,c.toNat,unFQ f,k)
 | _,_=>(0,0,fun _=>0,0)
noncomputable def o_nx:List HV→List PV→Option (Bool × (PV × List PV)):=o_fb dnx cnx hnx enx xnx qnx
theorem uYB:jGK Tryz.prog 43 o_nx:=xGH fun t h=>by
 obtain ⟨w,m,e,k⟩:=t;exact uWV w m e k h.1 h.2.1 h.2.2
def abcB:ByteArray:=ByteArray.mk #[97,98,99,100,101,102,103,104,105,106]
def ltrI (i:Int):ByteArray:=abcB.extract i.toNat (vJJ .i64 (i + 1)).toNat
end Go.Proofs.YtmeldddgjfocdaaGreat.Sn

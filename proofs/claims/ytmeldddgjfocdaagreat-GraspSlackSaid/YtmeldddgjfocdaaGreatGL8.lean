/- Part 8 of the texts behind the last one: rules and contracts. No condition. -/
import Derived.Test.YtmeldddgjfocdaaGreatGL7
open Option renaming bind_eq_some_iff → vQQ, bind_some → vYQ
open Option.some renaming injEq → vQZ
open Prod.mk renaming injEq → vQY
open Bool renaming and_eq_true → vQJ, and_self → vZJ
open List renaming getElem?_eq_getElem → vQK, length_cons → vQW, mem_of_getElem? → vQG, all_eq_true → vZZ, getElem?_map → vZY, getD_eq_getElem?_getD → vZG
open Nat renaming eq_of_beq_eq_true → vQX, le_of_ble_eq_true → vZX
open Classical renaming propDecidable → vYJ
open Go.IntKind renaming wrap → vJJ
namespace Go.Rx
open Go.RowKit Go.Sx
def yVC (L:List Int):PV:=.l (L.map fun x=>[.n .i64 x])
theorem jKX (L:List Int):qUQ 1 (L.map fun x=>[PV.n .i64 x])=true:=by
 unfold qUQ;rw [List.all_map,vZZ];intro x _;rfl
theorem jJK {F:Nat→Prop} {w:World} {L:List Int} {a:Option Addr} {c:Nat} (h:IntsAt w w.heap.size (.slice a L.length c) L) (hc:L.length≤c) (hF:∀ k,k < w.heap.size→F k):RP F w (yVC L) (.slice a L.length c):=by
 have e:(L.map fun x=>[PV.n .i64 x]).length=L.length:=by simp
 have key:qJA 1 a (qJX (L.map fun x=>[PV.n .i64 x])) w:=fun j r hj=>by
  obtain ⟨a',c',e',hh⟩:=h.slice;cases e';unfold qJX at hj;rw [vZY,vZY] at hj;cases hr:L[j]? with
  | none=>rw [hr] at hj; cases hj
  | some x =>
   rw [hr] at hj;cases hj;have hjl:=(List.getElem?_eq_some_iff.1 hr).1;obtain ⟨b,off,ha,hb,hq⟩:=hh j hjl;refine ⟨rfl,b,off,ha,hb,fun k hk => ?_⟩;have hk0:k=0:=by omega
   subst hk0;rw [Nat.mul_one,Nat.add_zero,hq,vZG,hr];rfl
 have:=yYG (F:=F) (c:=c) (jKX L) (by rw [e]; exact hc) key (fun b off ha hne=>by
  obtain ⟨a',c',e',hh⟩:=h.slice;cases e';have h0:0 < L.length:=by
   cases L with
   | nil=>exact absurd rfl hne
   | cons x xs=>simp
  obtain ⟨b',off',ha',hb,_⟩:=hh 0 h0;rw [ha] at ha';cases ha';exact hF b hb)
 rw [e] at this;exact this
theorem qVZ {P:Program} {f:Nat} {ps:List PV} {x:PV} {w:World} {vals:List Value} (h:zG P f ps (.v x)) (hx:x.flat2=true) (ha:Al (RP (fun k=>k < w.heap.size) w) ps vals):Calls P f vals.toArray w (Rets x.val w) :=
 Calls.mono (h.2 w _ vals (fun k hk=>hk) ha) fun e w' ⟨v,F',he,hg,_,_,hr⟩=>⟨by rw [he,jUY hx hr],hg⟩
theorem zJG {F:Nat→Prop} {w:World}:Al (RP F w) [] []:=⟨rfl,fun i p v h=>by simp at h⟩
theorem qKZ {F:Nat→Prop} {w:World} {p:PV} {v:Value} {ps:List PV} {vs:List Value} (h:RP F w p v) (t:Al (RP F w) ps vs):Al (RP F w) (p :: ps) (v :: vs) :=
 ⟨by rw [vQW,vQW,t.1],fun i q u hq hu=>by
  cases i with
  | zero=>cases hq; cases hu; exact h
  | succ i=>exact t.2 i q u hq hu⟩
theorem qKV {F:Nat→Prop} {w:World} {p:PV} {ps:List PV} {vals:List Value} (h:Al (RP F w) (p :: ps) vals):∃ v vs,vals=v :: vs∧RP F w p v∧Al (RP F w) ps vs:=by
 cases vals with
 | nil=>have:=h.1; simp at this
 | cons v vs=>exact ⟨v,vs,rfl,h.2 0 p v rfl rfl,by have:=h.1; simpa using this,fun i q u hq hu=>h.2 (i + 1) q u hq hu⟩
theorem zKH {F:Nat→Prop} {w:World} {vals:List Value} (h:Al (RP F w) [] vals):vals=[]:=by
 cases vals with
 | nil=>rfl
 | cons v vs=>have:=h.1; simp at this
theorem kKG {F:Nat→Prop} {w:World} {cs:List PV} {v:Value} (h:RP F w (.a cs) v):∃ vs:List Value,v=.agg vs.toArray∧Al (RP F w) cs vs:=by
 cases h with
 | a _ vs hl _ hh=>exact ⟨vs,rfl,hl,hh⟩
end Go.Rx
namespace Go.Rx
open Go.RowKit Go.Sx Go.ChangeShapes Go.WideShapes
inductive Sh where
 | i (k:IntKind)
 | b
 | s
 | l (row:List Sh)
inductive Fit:Sh→PV→Prop
 | i (k:IntKind) (x:Int) (h:(Lit.int k x).wf=true):Fit (.i k) (.n k x)
 | b (x:Bool):Fit .b (.b x)
 | s (x:ByteArray) (h:x.size≤maxLen):Fit .s (.s x)
 | l (row:List Sh) (n:Nat) (f:Nat→List PV) (hn:n≤maxLen) (hl:∀ j,j < n→(f j).length=row.length) (h:∀ j,j < n→∀ (i:Nat) sh p,row[i]? = some sh→(f j)[i]? = some p→Fit sh p):Fit (.l row) (.lf n f)
section
variable {P:Program} {w:World} {H:Type} {enc:TypeId × Value→H}
def Good (w:World) (shs:List Sh) (cs:List Value):Prop:=∃ ps:List PV,ps.length=shs.length∧(∀ (i:Nat) sh p,shs[i]? = some sh→ps[i]? = some p→Fit sh p)∧Al (RP (fun k=>k < w.heap.size) w) ps cs∧∀ v ∈ cs,v.oneCell'=true
theorem Good.one {sh:Sh} {p:PV} {v:Value} (h1:Fit sh p) (h2:RP (fun k=>k < w.heap.size) w p v) (h3:v.oneCell'=true):Good w [sh] [v] :=
 ⟨[p],rfl,(fun i s0 q hs hq=>by
  match i with
  | 0=>cases hs; cases hq; exact h1
  | i + 1=>cases hs),qKZ h2 zJG,(fun u hu=>by obtain rfl:=List.mem_singleton.1 hu; exact h3)⟩
theorem Good.cat {r s:List Sh} {cs ds:List Value} (h1:Good w r cs) (h2:Good w s ds):Good w (r ++ s) (cs ++ ds):=by
 obtain ⟨p,a1,a2,a3,a4⟩:=h1;obtain ⟨q,b1,b2,b3,b4⟩:=h2;refine ⟨p ++ q,by simp [a1,b1],fun i sh x hs hx => ?_,a3.append b3,fun v hv => ?_⟩
 ·rcases Nat.lt_or_ge i r.length with hi | hi
  ·rw [List.getElem?_append_left hi] at hs;rw [List.getElem?_append_left (by omega)] at hx;exact a2 i sh x hs hx
  ·rw [List.getElem?_append_right hi] at hs;rw [List.getElem?_append_right (by omega),a1] at hx;exact b2 _ sh x hs hx
 ·rcases List.mem_append.1 hv with h | h
  ·exact a4 v h
  ·exact b4 v h
def Pieces (w:World):List (List Sh)→List Value→Prop
 | [],cs=>cs=[]
 | r :: l,cs=>Good w r (cs.take r.length)∧Pieces w l (cs.drop r.length)
theorem Pieces.good:∀ {l:List (List Sh)} {cs:List Value},Pieces w l cs→Good w l.flatten cs
 | [],cs,h=>by
  have:cs=[]:=h
  subst this;exact ⟨[],rfl,fun i sh p hs=>by simp at hs,zJG,fun v hv=>by cases hv⟩
 | r :: l,cs,h=>by
  have:=Good.cat h.1 h.2.good
  rw [List.take_append_drop] at this;exact this
end
end Go.Rx
namespace Go.Rx
open Go.RowKit Go.Sx
abbrev Cont:=Ex→St→Option (Ret × Mem)
abbrev yG:=St→Cont→Option (Ret × Mem)
def qZU:Nat→Code→Code
 | 0,.seq x _=>x
 | _ + 1,.seq _ y=>y
 | 0,.cond _ x _=>x
 | _ + 1,.cond _ _ y=>y
 | _,.block _ x=>x
 | _,.scope x=>x
 | _,.loop x=>x
 | _,c=>c
def qQY (B:Code):List Nat→Code
 | []=>B
 | i :: p=>qZU i (qQY B p)
def zVA:List Nat→List Nat→Bool
 | [],[]=>true
 | x :: xs,y :: ys=>Nat.beq x y && zVA xs ys
 | _,_=>false
theorem zUE:∀ {p q:List Nat},zVA p q=true→p=q
 | [],[],_=>rfl
 | x :: xs,y :: ys,h=>by
  simp only [zVA,vQJ] at h;rw [vQX h.1,zUE h.2]
 | [],_ :: _,h=>by cases h
 | _ :: _,[],h=>by cases h
def LF (N:Nat) (C:Cx) (cK:qJJ) (x:Code) (h:Hint) (K:Cont):Nat→St→Option (Ret × Mem)
 | 0,_=>none
 | n + 1,σ=>qKF N C cK x (fun e τ=>match e with
   | .normal=>LF N C cK x h K n (qJW h τ)
   | e=>K e (qYB h τ)) σ
def yUV (N:Nat) (C:Cx) (cK:qJJ) (x:Code) (S:yG):Prop:=∀ K σ r,S σ K=some r→LF N C cK x (C.T.hint C.me (yZ x)) K N σ=some r
theorem jQF {N:Nat} {C:Cx} {cK:qJJ} {x:Code} {h:Hint} {K:Cont}:∀ (n:Nat) (σ:St),qGJ (fun again σ=>qKF N C cK x (fun e σ=>match e with
   | .normal=>again σ
   | e=>K e (qYB h σ)) (qJW h σ)) n σ=LF N C cK x h K n (qJW h σ)
 | 0,_=>rfl
 | n + 1,σ=>by
  simp only [qGJ,LF]
  congr 1
  funext e τ;cases e with
  | normal=>exact jQF n τ
  | _=>rfl
def qHW (N:Nat) (C:Cx) (cK:qJJ) (LO:List Nat→Option yG):Code→List Nat→Cont→St→Option (Ret × Mem)
 | .skip,_,K,σ=>K .normal σ
 | .label _,_,K,σ=>K .normal σ
 | .scope x,p,K,σ=>qHW N C cK LO x (0 :: p) K σ
 | .ret,_,K,σ=>K .ret σ
 | .exit id,_,K,σ=>K (.exit id) σ
 | .region _ ops d,_,K,σ=>bif d then qVB C cK ops 0 ops.toList [] (K .normal) σ else zUH C cK ops ops.toList (K .normal) σ
 | .seq x y,p,K,σ=>qHW N C cK LO x (0 :: p) (fun e σ=>match e with
   | .normal=>qHW N C cK LO y (1 :: p) K σ
   | e=>K e σ) σ
 | .cond c x y,p,K,σ=>(opv 1 σ c).bind fun v=>match v with
   | .v (.b t)=>bif t then qHW N C cK LO x (0 :: p) K σ else qHW N C cK LO y (1 :: p) K σ
   | _=>none
 | .block id x,p,K,σ=>qHW N C cK LO x (0 :: p) (fun e σ=>match e with
   | .exit id'=>bif Nat.beq id' id then K .normal σ else K (.exit id') σ
   | e=>K e σ) σ
 | .loop x,p,K,σ=>match LO p with
   | some S=>S (qJW (C.T.hint C.me (yZ x)) σ) K
   | none=>qGJ (fun again σ=>qKF N C cK x (fun e σ=>match e with
     | .normal=>again σ
     | e=>K e (qYB (C.T.hint C.me (yZ x)) σ)) (qJW (C.T.hint C.me (yZ x)) σ)) N σ
 | _,_,_,_=>none
section
variable {C:Cx} {cK:qJJ} {r:Ret × Mem} {K0:Ret × Mem→Option (Ret × Mem)}
theorem qJL {N:Nat} {LO:List Nat→Option yG} {B:Code} (hc:SndK C cK) (hL:∀ p S,LO p=some S→yUV N C cK (qZU 0 (qQY B p)) S):∀ (c:Code) (p:List Nat) {K K':Cont} (hp:qQY B p=c) (hK:∀ e σ,K e σ=some r→Gets K0 r (K' e σ)) (σ:St),qHW N C cK LO c p K σ=some r→Gets K0 r (runC N C c K' σ)
 | .skip,p,K,K',hp,hK,σ,h=>hK _ _ h
 | .label _,p,K,K',hp,hK,σ,h=>hK _ _ h
 | .scope x,p,K,K',hp,hK,σ,h=>qJL hc hL x (0 :: p) (by simp only [qQY,hp,qZU]) hK σ h
 | .ret,p,K,K',hp,hK,σ,h=>hK _ _ h
 | .exit id,p,K,K',hp,hK,σ,h=>hK _ _ h
 | .region id ops d,p,K,K',hp,hK,σ,h=>by
  cases d with
  | true=>exact qKE hc (hK .normal) _ _ _ _ h
  | false=>exact qUL hc (hK .normal) _ _ h
 | .seq x y,p,K,K',hp,hK,σ,h=>by
  refine qJL hc hL x (0 :: p) (by simp only [qQY,hp,qZU]) (fun e τ hk => ?_) σ h;cases e with
  | normal=>exact qJL hc hL y (1 :: p) (by simp only [qQY,hp,qZU]) hK τ hk
  | _=>exact hK _ _ hk
 | .cond c x y,p,K,K',hp,hK,σ,h=>by
  simp only [qHW,vQQ] at h;obtain ⟨v,hv,h⟩:=h;simp only [runC,hv,vYQ];split at h
  ·rename_i t;cases t with
   | true=>exact qJL hc hL x (0 :: p) (by simp only [qQY,hp,qZU]) hK σ h
   | false=>exact qJL hc hL y (1 :: p) (by simp only [qQY,hp,qZU]) hK σ h
  ·cases h
 | .block id x,p,K,K',hp,hK,σ,h=>by
  refine qJL hc hL x (0 :: p) (by simp only [qQY,hp,qZU]) (fun e τ hk => ?_) σ h;cases e with
  | exit id' =>
   simp only at hk ⊢;cases hb:Nat.beq id' id with
   | true=>rw [hb] at hk; exact hK _ _ hk
   | false=>rw [hb] at hk; exact hK _ _ hk
  | _=>exact hK _ _ hk
 | .loop x,p,K,K',hp,hK,σ,h=>by
  simp only [qHW] at h;simp only [runC];have h':qGJ (fun again σ=>qKF N C cK x (fun e σ=>match e with
     | .normal=>again σ
     | e=>K e (qYB (C.T.hint C.me (yZ x)) σ)) (qJW (C.T.hint C.me (yZ x)) σ)) N σ=some r:=by
   cases hS:LO p with
   | none=>rw [hS] at h; exact h
   | some S =>
    rw [hS] at h
    have:=hL p S hS
    rw [hp] at this;rw [jQF];exact this K _ r h
  refine qXV (fun a a' ha τ hs => ?_) N σ h';refine qYU hc x (fun e υ hk => ?_) _ hs;cases e with
  | normal=>exact ha _ hk
  | _=>exact hK _ _ hk
 | .rangeFunc ..,p,K,K',hp,hK,σ,h=>by cases h
 | .goto _,p,K,K',hp,hK,σ,h=>by cases h
 | .refuse _,p,K,K',hp,hK,σ,h=>by cases h
end
def cxF (T:Tab) (ok:OrK) (N f n:Nat):Cx:=⟨T,qUB ok.orc (runF T ok.orc N),qWE ok.orc (runF T ok.orc N),f,n⟩
def ckF (T:Tab) (ok:OrK) (N:Nat):qJJ:=zJV ok (jJZ T ok N)
def qVA (T:Tab) (f:Nat):Code:=match T.fn f with
 | some fi=>fi.body
 | none=>.skip
def ntmF (T:Tab) (f:Nat):Nat:=match T.fn f with
 | some fi=>fi.ntmps
 | none=>0
def qXD (T:Tab) (ok:OrK) (LO:List Nat→Option yG) (N f:Nat) (ps:List PV):Option (Ret × Mem):=match T.fn f with
 | none=>none
 | some fi=>bif Nat.ble (ps.map HV.v).length fi.ntmps then qHW N (cxF T ok N f (ntmF T f)) (ckF T ok N) LO (qVA T f) [] (fun e σ=>(endK T [] fi.results e σ).bind fun r=>some (r.1,[])) ⟨initS 0 (ps.map .v),[]⟩ else none
theorem yGK {T:Tab} {ok:OrK} {N f n:Nat}:SndK (cxF T ok N f n) (ckF T ok N):=fun g qs K' r' hk=>by
 unfold ckF zJV at hk;show ∃ x,qUB ok.orc (runF T ok.orc N) g qs=some x∧K' x=some r';unfold qUB;cases ho:ok g with
 | some o =>
  rw [ho] at hk;simp only [vQQ] at hk;obtain ⟨x,hx,hk⟩:=hk;obtain ⟨h1,hk⟩:=qQ hk;exact ⟨x.2,by simp only [OrK.orc,ho,hx,vYQ,h1,vYV],hk⟩
 | none =>
  rw [ho] at hk;obtain ⟨x,M,hx,hk⟩:=zZX N g qs K' r' hk;have e:ok.orc.a g=none:=by simp only [OrK.orc,ho,Option.bind_none]
  exact ⟨x,by simp only [e,hx,vYQ],hk⟩
def qY (T:Tab) (f:Nat) (p:List Nat):Code:=qZU 0 (qQY (qVA T f) p)
theorem uW {P:Program} {T:Tab} {ok:OrK} {LO:List Nat→Option yG} {N f:Nat} {ps:List PV} {r:Ret} (hT:TabOk P T) (hm:P.follows .mixedOrders=true) (hO:ok.Ok P)
  (hL:∀ p S,LO p=some S→yUV N (cxF T ok N f (ntmF T f)) (ckF T ok N) (qY T f p) S) (h:qXD T ok LO N f ps=some (r,[])):zG P f ps r:=by
 refine uH (N:=N + 1) hT hm hO.orc ?_;unfold qXD at h;split at h
 ·cases h
 ·rename_i fi hfi;obtain ⟨hb,h⟩:=qQ h;obtain ⟨q,h1,h2⟩:=qJL (K0:=fun q=>some (q.1,[])) (K':=endK T [] fi.results) (B:=qVA T f) yGK hL (qVA T f) [] rfl (fun e σ hk=>by
   simp only [vQQ] at hk;exact hk) _ h
  cases h2;have eb:qVA T f=fi.body:=by unfold qVA; rw [hfi]
  have en:ntmF T f=fi.ntmps:=by unfold ntmF; rw [hfi]
  rw [eb,en] at h1;unfold run;simp only [runF,hfi,hb,vYV];unfold cxF at h1;rw [h1];rfl
noncomputable def gSt (a b:St):Bool:=@decide (a=b) (vYJ _)
theorem yJ (a:St):gSt a a=true:=@vJQ _ (vYJ _) rfl
theorem jHC {a b:St} (h:gSt a b=true):a=b:=@vJZ _ (vYJ _) h
noncomputable def uU (s:St) (R:Cont→Option (Ret × Mem)):yG:=fun σ K=>bif gSt σ s then R K else none
theorem qYH {N:Nat} {C:Cx} {cK:qJJ} {x:Code} {s:St} {R:Cont→Option (Ret × Mem)} (h:∀ K r,R K=some r→LF N C cK x (C.T.hint C.me (yZ x)) K N s=some r):yUV N C cK x (uU s R):=fun K σ r hr=>by
 unfold uU at hr;obtain ⟨hg,hq⟩:=qQ hr;have e:=jHC hg;subst e;exact h K r hq
def qK (l:List (List Nat × yG)) (p:List Nat):Option yG:=match l with
 | []=>none
 | x :: xs=>bif zVA x.1 p then some x.2 else qK xs p
theorem qZQ {N:Nat} {C:Cx} {cK:qJJ} {L:List Nat→Code}:∀ {l:List (List Nat × yG)},AllP (fun x:List Nat × yG=>yUV N C cK (L x.1) x.2) l→∀ p S,qK l p=some S→yUV N C cK (L p) S
 | [],_,p,S,h=>by cases h
 | x :: xs,hl,p,S,h=>by
  simp only [qK] at h;cases hb:zVA x.1 p with
  | true =>
   rw [hb] at h;simp only [vYV,vQZ] at h;subst h
   have:=zUE hb
   subst this;exact hl.1
  | false =>
   rw [hb] at h;exact qZQ hl.2 p S h
end Go.Rx
namespace Go.Rx
open Go.RowKit Go.Sx
theorem uWJ {D:Nat→Prop} {G:World→Prop} {e sz cap k:Nat} {a:Option Addr} {ys:List Value} {w:World} (hd:qKC D G) (hG:G w) (hi:∀ w,G w→OwnF 0 e sz a cap k ys w):∀ ad,a=some ad→D ad.block:=by
 rintro ad rfl
 apply Classical.byContradiction;intro hn;obtain ⟨_,h1⟩:=hi w hG;rcases h1 with ⟨h1,_⟩ | ⟨g,cp,cur,hv,_,hb,_,_,hs,_⟩
 ·cases h1
 ·simp only [Value.slice.injEq,vQZ] at hv;obtain ⟨rfl,_,rfl⟩:=hv;have hlt:g < w.heap.size:=qZC hb;have hG':G { w with heap:=w.heap.setIfInBounds g (.cells (cur.push (.bool true)) e (0,0)) }:=hd w _ (fun k hk=>by
   have e:g ≠ k:=fun e=>hn (e ▸ hk)
   show (w.heap.setIfInBounds g _)[k]? = _;exact Array.getElem?_setIfInBounds_ne e) hG
  obtain ⟨_,h2⟩:=hi _ hG';rcases h2 with ⟨h2,_⟩ | ⟨g',cp',cur',hv',_,hb',_,_,hs',_⟩
  ·cases h2
  ·simp only [Value.slice.injEq,vQZ,Addr.mk.injEq] at hv';obtain ⟨⟨rfl,_⟩,_,rfl⟩:=hv';have hb2:(w.heap.setIfInBounds g (.cells (cur.push (.bool true)) e (0,0)))[g]? = some (.cells cur' e (0,0)):=hb';rw [Array.getElem?_setIfInBounds_self_of_lt hlt] at hb2;simp only [vQZ,Obj.cells.injEq] at hb2;rw [← hb2.1,Array.size_push,hs] at hs';omega
theorem uHK {F:Nat→Prop} {w:World} {sz:Nat} {rows:List (List PV)} (hs:qUQ sz rows=true):Al (Al (RP F w)) rows (qJX rows)∧(∀ v ∈ qJX rows,∀ u ∈ v,u.oneCell'=true):=by
 unfold qJX;refine ⟨⟨by simp,fun i r v hr hv => ?_⟩,fun v hv u hu => ?_⟩
 ·rw [vZY,hr] at hv;cases hv;refine ⟨by simp,fun j p u hp hu => ?_⟩;rw [vZY,hp] at hu;cases hu;exact (qGG ((qJG hs (vQG hr)).2 p (vQG hp))).1
 ·obtain ⟨r,hr,rfl⟩:=List.mem_map.1 hv;obtain ⟨p,hp,rfl⟩:=List.mem_map.1 hu;exact (qGG (F:=F) (w:=w) ((qJG hs hr).2 p hp)).2
theorem jYE {P:Program} {f:Nat} {ps:List PV} {e sz:Nat} {rows:List (List PV)} {Φ:Option Addr × Nat→Prop} (hent:uV P f) (hs:qUQ sz rows=true) (h0:0 < sz)
  (h:∀ (w:World) (F:Nat→Prop) (vals:List Value),(∀ k,F k→k < w.heap.size)→Al (RP F w) ps vals→Calls P f vals.toArray w (kHX Φ (fun x=>.slice x.1 rows.length x.2) (fun x=>OwnF 0 e sz x.1 x.2 rows.length (qJX rows).flatten) w)):zG P f ps (.ow e sz rows):=by
 refine ⟨hent,fun w F vals hF hal=>(h w F vals hF hal).mono ?_⟩
 rintro en w' ⟨x,hx,rfl,hg,D,h1,h2,h3⟩
 have hal:=uHK (F:=F) (w:=w') hs;refine ⟨_,F,rfl,hg,fun k hk=>hk,fun k hk=>.inl hk,x.1,x.2,qJX rows,rfl,h0,hal.1,fun r hr=>(qJG hs hr).1,hal.2,h3,fun b hb => ?_⟩;obtain ⟨ad,ha,rfl⟩:=Option.map_eq_some_iff.1 hb;have hD:=h2 _ (uWJ h1 h3 (fun _ h=>h) ad ha);exact ⟨fun hk=>by have:=hF _ hk; omega,hD.1,hD.2⟩
end Go.Rx
namespace Go.Rx
open Go.RowKit Go.Sx
def zJZ {β:Type} (good:Nat→Bool) (KX:β) (KR:Nat→β):Nat→Nat→β
 | 0,_=>KX
 | k + 1,p=>bif good p then zJZ good KX KR k (p + 1) else KR p
def allN (good:Nat→Bool):Nat→Nat→Bool
 | 0,_=>true
 | k + 1,p=>good p && allN good k (p + 1)
theorem jZ {β:Type} (good:Nat→Bool) (x y:β):∀ k p,zJZ good x (fun _=>y) k p=bif allN good k p then x else y
 | 0,_=>rfl
 | k + 1,p=>by
  simp only [zJZ,allN,jZ good x y k (p + 1)];cases good p <;> rfl
theorem allN_iff {good:Nat→Bool}:∀ {k p:Nat},allN good k p=true ↔ ∀ j,p≤j→j < p + k→good j=true
 | 0,p=>⟨fun _ j h1 h2=>by omega,fun _=>rfl⟩
 | k + 1,p=>by
  simp only [allN,vQJ,allN_iff (k:=k)];exact ⟨fun h j h1 h2=>by
   rcases Nat.eq_or_lt_of_le h1 with e | e
   ·exact e ▸ h.1
   ·exact h.2 j e (by omega),fun h=>⟨h p (Nat.le_refl _) (by omega),fun j h1 h2=>h j (by omega) (by omega)⟩⟩
def firstK (good:Nat→Bool):Nat→Nat→Nat
 | 0,p=>p
 | k + 1,p=>bif good p then firstK good k (p + 1) else p
theorem qQQ {β:Type} (good:Nat→Bool) (x:β) (y:Nat→β):∀ k p,zJZ good x y k p=bif allN good k p then x else y (firstK good k p)
 | 0,_=>rfl
 | k + 1,p=>by
  simp only [zJZ,allN,firstK,qQQ good x y k (p + 1)];cases good p <;> rfl
def zGI (N:Nat) (C:Cx) (cK:qJJ) (x:Code) (h:Hint) (K:Cont) (G:St→Option (Ret × Mem)) (σ:St):Option (Ret × Mem):=qKF N C cK x (fun e τ=>match e with
 | .normal=>G (qJW h τ)
 | e=>K e (qYB h τ)) σ
theorem kZH {N:Nat} {C:Cx} {cK:qJJ} {x:Code} {h:Hint} {K:Cont} {n:Nat} {σ:St}:LF N C cK x h K (n + 1) σ=zGI N C cK x h K (fun σ=>LF N C cK x h K n σ) σ:=rfl
theorem zXG {N:Nat} {C:Cx} {cK:qJJ} {x:Code} {h:Hint} {K:Cont} (hd:Int→St) (good:Nat→Bool) {c:Nat} (KX:Option (Ret × Mem)) (KR:Nat→Option (Ret × Mem))
  (r1:∀ G (i:Nat),i < c→zGI N C cK x h K G (hd (i:Int))=bif good i then G (hd ((i + 1:Nat):Int)) else KR i)
  (r2:∀ G,zGI N C cK x h K G (hd (c:Int))=KX):∀ (k p q:Nat),p + k=c→k < q→LF N C cK x h K q (hd (p:Int))=zJZ good KX KR k p
 | 0,p,q + 1,hp,_=>by
  rw [kZH,show p=c by omega];exact r2 _
 | k + 1,p,q + 1,hp,hq=>by
  rw [kZH,r1 _ p (by omega),zXG hd good KX KR r1 r2 k (p + 1) q (by omega) (by omega)];rfl
theorem jXV {α:Type} (d:α) (f:α→List PV) (l:List α):l.map f=(List.range l.length).map fun i=>f (l.getD i d):=by
 refine List.ext_getElem? fun i => ?_
 rw [vZY,vZY];by_cases h:i < l.length
 ·rw [List.getElem?_range h,vQK h];simp [vZG,h]
 ·rw [List.getElem?_eq_none (by omega),List.getElem?_eq_none (by simp; omega)];rfl
theorem yHQ {P:Program} {f:Nat} {ps ps':List PV} {r:Ret} (hs:∀ F w vals,Al (RP F w) ps' vals→Al (RP F w) ps vals) (h:zG P f ps r):zG P f ps' r :=
 ⟨h.1,fun w F vals hF hal=>h.2 w F vals hF (hs F w vals hal)⟩
theorem qQU {P:Program} {f:Nat} {ps:List PV} {x y:PV} (hs:∀ F w v,RP F w x v→RP F w y v) (h:zG P f ps (.v x)):zG P f ps (.v y) :=
 ⟨h.1,fun w F vals hF hal=>(h.2 w F vals hF hal).mono fun _ w' ⟨v,F',he,hg,f1,f2,hr⟩=>⟨v,F',he,hg,f1,f2,hs F' w' v hr⟩⟩
theorem jXW {F:Nat→Prop} {w:World} {n:Nat} {f:Nat→List PV} {rows:List (List PV)} {v:Value} (e:rows=(List.range n).map f) (h:RP F w (.l rows) v):RP F w (.lf n f) v:=.lf n f v (e ▸ h)
theorem zUA {F:Nat→Prop} {w:World} {n:Nat} {f:Nat→List PV} {rows:List (List PV)} {v:Value} (e:rows=(List.range n).map f) (h:RP F w (.lf n f) v):RP F w (.l rows) v:=by
 cases h with
 | lf _ _ _ h=>exact e ▸ h
def Same (x y:PV):Prop:=∀ F w v,RP F w x v→RP F w y v
theorem Same.refl (x:PV):Same x x:=fun _ _ _ h=>h
theorem Same.lf {n:Nat} {f:Nat→List PV} {rows:List (List PV)} (e:rows=(List.range n).map f):Same (.l rows) (.lf n f):=fun _ _ _=>jXW e
theorem Same.l {n:Nat} {f:Nat→List PV} {rows:List (List PV)} (e:rows=(List.range n).map f):Same (.lf n f) (.l rows):=fun _ _ _=>zUA e
def Sames:List PV→List PV→Prop
 | [],[]=>True
 | x :: xs,y :: ys=>Same x y∧Sames xs ys
 | _,_=>False
theorem Sames.al {F:Nat→Prop} {w:World}:∀ {xs ys:List PV} {vs:List Value},Sames xs ys→Al (RP F w) xs vs→Al (RP F w) ys vs
 | [],[],_,_,h=>h
 | x :: xs,y :: ys,vs,hs,h=>by
  obtain ⟨v,vs,rfl,h1,h2⟩:=qKV h;exact qKZ (hs.1 F w v h1) (Sames.al hs.2 h2)
 | [],_ :: _,_,h,_=>h.elim
 | _ :: _,[],_,h,_=>h.elim
theorem Same.a {xs ys:List PV} (h:Sames xs ys):Same (.a xs) (.a ys):=fun F w v hv=>by
 cases hv with
 | a _ vs hl h1 hh =>
  have:=Sames.al h (show Al (RP F w) xs vs from ⟨hl,hh⟩)
  exact .a ys vs this.1 h1 this.2
theorem Same.t {xs ys:List PV} (h:Sames xs ys):Same (.t xs) (.t ys):=fun F w v hv=>by
 cases hv with
 | t _ vs hl hh =>
  have:=Sames.al h (show Al (RP F w) xs vs from ⟨hl,hh⟩)
  exact .t ys vs this.1 this.2
theorem zHQ {P:Program} {f:Nat} {ps ps':List PV} {x y:PV} (ha:Sames ps' ps) (hr:Same x y) (h:zG P f ps (.v x)):zG P f ps' (.v y) :=
 qQU hr (yHQ (fun _ _ _=>ha.al) h)
theorem zZK {P:Program} {f e sz:Nat} {ps:List PV} {rows:List (List PV)} (h:zG P f ps (.ow e sz rows)):zG P f ps (.v (.l rows)):=by
 refine ⟨h.1,fun w F vals hF hal=>(h.2 w F vals hF hal).mono ?_⟩
 rintro en w' ⟨v,F',he,hg,f1,f2,hr⟩
 obtain ⟨F2,f3,f4,hx⟩:=hr.pv (x:=.l rows) rfl;refine ⟨v,F2,he,hg,fun k hk=>f3 k (f1 k hk),fun k hk => ?_,hx⟩;rcases f4 k hk with h | h
 ·exact f2 k h
 ·exact .inr h
end Go.Rx
namespace Go.Rx
open Go.RowKit Go.Sx Go.ChangeShapes Go.WideShapes
section
variable {P:Program} {W:World} {H:Type} {enc:TypeId × Value→H}
def Fits (row:List Sh) (ps:List PV):Prop:=ps.length=row.length∧∀ (i:Nat) sh p,row[i]? = some sh→ps[i]? = some p→Fit sh p
theorem Fits.cons {s0:Sh} {row:List Sh} {ps:List PV} (h:Fits (s0 :: row) ps):∃ p qs,ps=p :: qs∧Fit s0 p∧Fits row qs:=by
 cases ps with
 | nil=>have:=h.1; simp at this
 | cons p qs=>exact ⟨p,qs,rfl,h.2 0 s0 p rfl rfl,by have:=h.1; simpa using this,fun i sh q h1 h2=>h.2 (i + 1) sh q h1 h2⟩
theorem Fits.nil {ps:List PV} (h:Fits [] ps):ps=[]:=List.eq_nil_of_length_eq_zero h.1
theorem Fit.int {k:IntKind} {p:PV} (h:Fit (.i k) p):∃ x,p=.n k x∧(Lit.int k x).wf=true:=by cases h with | i k x h=>exact ⟨x,rfl,h⟩
theorem Fit.str {p:PV} (h:Fit .s p):∃ x,p=.s x:=by cases h with | s x h=>exact ⟨x,rfl⟩
theorem Fit.bool {p:PV} (h:Fit .b p):∃ x,p=.b x:=by cases h with | b x=>exact ⟨x,rfl⟩
theorem Fit.slc {row:List Sh} {p:PV} (h:Fit (.l row) p):∃ n f,p=.lf n f∧∀ j,j < n→Fits row (f j):=by
 cases h with
 | l row n f hn hl h=>exact ⟨n,f,rfl,fun j hj=>⟨hl j hj,h j hj⟩⟩
theorem zXB {n:Nat} {f g:Nat→List PV} (h:∀ j,j < n→f j=g j):Same (.lf n f) (.lf n g):=fun F w v hv =>
 jXW (List.map_congr_left fun j hj=>h j (List.mem_range.1 hj)) (zUA rfl hv)
end
end Go.Rx
namespace Go.Rx
open Go.RowKit Go.Sx
def uX (N:Nat) (C:Cx) (x:Code) (S:yG):Prop:=∀ (K K':Cont) (K0:Ret × Mem→Option (Ret × Mem)) (σ:St) (r:Ret × Mem),(∀ e τ,K e τ=some r→Gets K0 r (K' e τ))→S (qJW (C.T.hint C.me (yZ x)) σ) K=some r →
 Gets K0 r (qGJ (fun again σ=>runC N C x (fun e σ=>match e with
   | .normal=>again σ
   | e=>K' e (qYB (C.T.hint C.me (yZ x)) σ)) (qJW (C.T.hint C.me (yZ x)) σ)) N σ)
section
variable {C:Cx} {cK:qJJ} {r:Ret × Mem} {K0:Ret × Mem→Option (Ret × Mem)}
theorem qYD {N:Nat} {LO:List Nat→Option yG} {B:Code} (hc:SndK C cK) (hL:∀ p S,LO p=some S→uX N C (qZU 0 (qQY B p)) S):∀ (c:Code) (p:List Nat) {K K':Cont} (hp:qQY B p=c) (hK:∀ e σ,K e σ=some r→Gets K0 r (K' e σ)) (σ:St),qHW N C cK LO c p K σ=some r→Gets K0 r (runC N C c K' σ)
 | .skip,p,K,K',hp,hK,σ,h=>hK _ _ h
 | .label _,p,K,K',hp,hK,σ,h=>hK _ _ h
 | .scope x,p,K,K',hp,hK,σ,h=>qYD hc hL x (0 :: p) (by simp only [qQY,hp,qZU]) hK σ h
 | .ret,p,K,K',hp,hK,σ,h=>hK _ _ h
 | .exit id,p,K,K',hp,hK,σ,h=>hK _ _ h
 | .region id ops d,p,K,K',hp,hK,σ,h=>by
  cases d with
  | true=>exact qKE hc (hK .normal) _ _ _ _ h
  | false=>exact qUL hc (hK .normal) _ _ h
 | .seq x y,p,K,K',hp,hK,σ,h=>by
  refine qYD hc hL x (0 :: p) (by simp only [qQY,hp,qZU]) (fun e τ hk => ?_) σ h;cases e with
  | normal=>exact qYD hc hL y (1 :: p) (by simp only [qQY,hp,qZU]) hK τ hk
  | _=>exact hK _ _ hk
 | .cond c x y,p,K,K',hp,hK,σ,h=>by
  simp only [qHW,vQQ] at h;obtain ⟨v,hv,h⟩:=h;simp only [runC,hv,vYQ];split at h
  ·rename_i t;cases t with
   | true=>exact qYD hc hL x (0 :: p) (by simp only [qQY,hp,qZU]) hK σ h
   | false=>exact qYD hc hL y (1 :: p) (by simp only [qQY,hp,qZU]) hK σ h
  ·cases h
 | .block id x,p,K,K',hp,hK,σ,h=>by
  refine qYD hc hL x (0 :: p) (by simp only [qQY,hp,qZU]) (fun e τ hk => ?_) σ h;cases e with
  | exit id' =>
   simp only at hk ⊢;cases hb:Nat.beq id' id with
   | true=>rw [hb] at hk; exact hK _ _ hk
   | false=>rw [hb] at hk; exact hK _ _ hk
  | _=>exact hK _ _ hk
 | .loop x,p,K,K',hp,hK,σ,h=>by
  simp only [qHW] at h;simp only [runC];cases hS:LO p with
  | none =>
   rw [hS] at h;refine qXV (fun a a' ha τ hs => ?_) N σ h;refine qYU hc x (fun e υ hk => ?_) _ hs;cases e with
   | normal=>exact ha _ hk
   | _=>exact hK _ _ hk
  | some S =>
   rw [hS] at h
   have:=hL p S hS
   rw [hp] at this;exact this K K' K0 σ r hK h
 | .rangeFunc ..,p,K,K',hp,hK,σ,h=>by cases h
 | .goto _,p,K,K',hp,hK,σ,h=>by cases h
 | .refuse _,p,K,K',hp,hK,σ,h=>by cases h
end
def jYC (N:Nat) (C:Cx) (cK:qJJ) (LO:List Nat→Option yG) (x:Code) (p:List Nat) (h:Hint) (K:Cont) (G:St→Option (Ret × Mem)) (σ:St):Option (Ret × Mem):=qHW N C cK LO x (0 :: p) (fun e τ=>match e with
 | .normal=>G (qJW h τ)
 | e=>K e (qYB h τ)) σ
def LFL (N:Nat) (C:Cx) (cK:qJJ) (LO:List Nat→Option yG) (x:Code) (p:List Nat) (h:Hint) (K:Cont):Nat→St→Option (Ret × Mem)
 | 0,_=>none
 | n + 1,σ=>jYC N C cK LO x p h K (LFL N C cK LO x p h K n) σ
theorem kZB {N:Nat} {C:Cx} {cK:qJJ} {LO:List Nat→Option yG} {B x:Code} {p:List Nat} {K K':Cont} {K0:Ret × Mem→Option (Ret × Mem)} {r:Ret × Mem} (hc:SndK C cK) (hL:∀ p S,LO p=some S→uX N C (qZU 0 (qQY B p)) S) (hx:qQY B (0 :: p)=x)
  (hK:∀ e τ,K e τ=some r→Gets K0 r (K' e τ)):∀ (n:Nat) (σ:St),LFL N C cK LO x p (C.T.hint C.me (yZ x)) K n (qJW (C.T.hint C.me (yZ x)) σ)=some r→Gets K0 r (qGJ (fun again σ=>runC N C x (fun e σ=>match e with
   | .normal=>again σ
   | e=>K' e (qYB (C.T.hint C.me (yZ x)) σ)) (qJW (C.T.hint C.me (yZ x)) σ)) n σ)
 | 0,σ,h=>by cases h
 | n + 1,σ,h=>by
  simp only [LFL,jYC] at h;simp only [qGJ];refine qYD hc hL x (0 :: p) hx (fun e τ hk => ?_) _ h;cases e with
  | normal=>exact kZB hc hL hx hK n τ hk
  | _=>exact hK _ _ hk
theorem jKZ {N:Nat} {C:Cx} {cK:qJJ} {LO:List Nat→Option yG} {B x:Code} {p:List Nat} {S:yG} (hc:SndK C cK) (hL:∀ p S,LO p=some S→uX N C (qZU 0 (qQY B p)) S) (hx:qQY B (0 :: p)=x)
  (hS:∀ K σ r,S σ K=some r→LFL N C cK LO x p (C.T.hint C.me (yZ x)) K N σ=some r):uX N C x S:=fun K _ _ σ r hK h =>
 kZB hc hL hx hK N σ (hS K _ r h)
theorem zQ {N:Nat} {C:Cx} {L:List Nat→Code}:∀ {l:List (List Nat × yG)},AllP (fun x:List Nat × yG=>uX N C (L x.1) x.2) l→∀ p S,qK l p=some S→uX N C (L p) S
 | [],_,p,S,h=>by cases h
 | x :: xs,hl,p,S,h=>by
  simp only [qK] at h;cases hb:zVA x.1 p with
  | true =>
   rw [hb] at h;simp only [vYV,vQZ] at h;subst h
   have:=zUE hb
   subst this;exact hl.1
  | false =>
   rw [hb] at h;exact zQ hl.2 p S h
theorem zYL {P:Program} {T:Tab} {ok:OrK} {LO:List Nat→Option yG} {N f:Nat} {ps:List PV} {r:Ret} (hT:TabOk P T) (hm:P.follows .mixedOrders=true) (hO:ok.Ok P)
  (hL:∀ p S,LO p=some S→uX N (cxF T ok N f (ntmF T f)) (qY T f p) S) (h:qXD T ok LO N f ps=some (r,[])):zG P f ps r:=by
 refine uH (N:=N + 1) hT hm hO.orc ?_;unfold qXD at h;split at h
 ·cases h
 ·rename_i fi hfi;obtain ⟨hb,h⟩:=qQ h;obtain ⟨q,h1,h2⟩:=qYD (K0:=fun q=>some (q.1,[])) (K':=endK T [] fi.results) (B:=qVA T f) yGK hL (qVA T f) [] rfl (fun e σ hk=>by
   simp only [vQQ] at hk;exact hk) _ h
  cases h2;have eb:qVA T f=fi.body:=by unfold qVA; rw [hfi]
  have en:ntmF T f=fi.ntmps:=by unfold ntmF; rw [hfi]
  rw [eb,en] at h1;unfold run;simp only [runF,hfi,hb,vYV];unfold cxF at h1;rw [h1];rfl
noncomputable def sumF {τ:Type} (hd:τ→St) (ex:St→τ) (R:τ→Cont→Option (Ret × Mem)):yG:=fun σ K=>bif gSt σ (hd (ex σ)) then R (ex σ) K else none
theorem jUX {N:Nat} {T:Tab} {ok:OrK} {f:Nat} {LO:List Nat→Option yG} {p:List Nat} {τ:Type} {hd:τ→St} {ex:St→τ} {R:τ→Cont→Option (Ret × Mem)}
  (hL:∀ p S,LO p=some S→uX N (cxF T ok N f (ntmF T f)) (qY T f p) S)
  (h:∀ s K r,R s K=some r→LFL N (cxF T ok N f (ntmF T f)) (ckF T ok N) LO (qY T f p) p (T.hint f (yZ (qY T f p))) K N (hd s)=some r):uX N (cxF T ok N f (ntmF T f)) (qY T f p) (sumF hd ex R) :=
 jKZ (B:=qVA T f) (cK:=ckF T ok N) yGK hL rfl fun K σ r hr=>by
  unfold sumF at hr;obtain ⟨hg,hq⟩:=qQ hr;have e:=jHC hg
  have:=h (ex σ) K r hq
  rw [← e] at this;exact this
theorem kU {N:Nat} {C:Cx} {L:List Nat→Code}:∀ p S,qK [] p=some S→uX N C (L p) S:=fun p S h=>by cases h
def runS {τ β:Type} (good:Nat→τ→Bool) (nx:Nat→τ→τ) (KX:τ→β) (KR:Nat→τ→β):Nat→Nat→τ→β
 | 0,_,s=>KX s
 | k + 1,p,s=>bif good p s then runS good nx KX KR k (p + 1) (nx p s) else KR p s
theorem kV {τ β:Type} {L:Nat→St→Option β} {stp:(St→Option β)→St→Option β} (hs:∀ n s,L (n + 1) s=stp (L n) s) (hd:Nat→τ→St) (Inv:Nat→τ→Prop) (good:Nat→τ→Bool) (nx:Nat→τ→τ) {c:Nat} (KX:τ→Option β) (KR:Nat→τ→Option β)
  (r1:∀ G i s,i < c→Inv i s→stp G (hd i s)=bif good i s then G (hd (i + 1) (nx i s)) else KR i s) (hi:∀ i s,i < c→Inv i s→good i s=true→Inv (i + 1) (nx i s))
  (r2:∀ G s,Inv c s→stp G (hd c s)=KX s):∀ k p q s,p + k=c→k < q→Inv p s→L q (hd p s)=runS good nx KX KR k p s
 | 0,p,q + 1,s,hp,_,hv=>by
  have e:p=c:=by omega
  subst e;rw [hs,r2 _ s hv]; rfl
 | k + 1,p,q + 1,s,hp,hq,hv=>by
  rw [hs,r1 _ p s (by omega) hv];simp only [runS];cases hg:good p s with
  | true=>exact kV hs hd Inv good nx KX KR r1 hi r2 k (p + 1) q (nx p s) (by omega) (by omega) (hi p s (by omega) hv hg)
  | false=>rfl
def zQW (g:Nat→List PV):Nat→Nat→(Nat→List PV)→Nat→List PV
 | 0,_,f=>f
 | k + 1,p,f=>zQW g k (p + 1) fun v=>qZV (Nat.beq v p) (g p) (f v)
theorem zWY (g:Nat→List PV):∀ (k p:Nat) (f:Nat→List PV) (v:Nat),zQW g k p f v=if p≤v∧v < p + k then g v else f v
 | 0,p,f,v=>by rw [zQW,if_neg (by omega)]
 | k + 1,p,f,v=>by
  rw [zQW,zWY g k (p + 1),qQE,qXK];by_cases h:v=p
  ·subst h;rw [if_neg (by omega),if_pos (by omega),vJQ rfl]; rfl
  ·rw [vYH h,vYG];by_cases h2:p + 1≤v∧v < p + 1 + k
   ·rw [if_pos h2,if_pos (by omega)]
   ·rw [if_neg h2,if_neg (by omega)]
theorem zUG {β:Type} {g:Nat→List PV} {KX:(Nat→List PV)→β} {KR:Nat→(Nat→List PV)→β}:∀ k p f,runS (fun _ _=>true) (fun i f v=>qZV (Nat.beq v i) (g i) (f v)) KX KR k p f=KX (zQW g k p f)
 | 0,_,_=>rfl
 | k + 1,p,f=>by
  simp only [runS,vYV];exact zUG k (p + 1) _
theorem jXJ {n:Nat} {g f:Nat→List PV}:Same (.lf n (zQW g n 0 f)) (.lf n g):=zXB fun j hj=>by rw [zWY,if_pos (by omega)]
end Go.Rx
namespace Go.Rx
open Go.RowKit Go.Sx
abbrev Ev:=Nat→Op→List RV→(Eff→Option (Ret × Mem))→Option (Ret × Mem)
def EvOk (C:Cx) (ev:Ev):Prop:=∀ dst op vs K r,ev dst op vs K=some r→∃ e,zH C.T C.cA C.cB C.me dst op vs=some e∧K e=some r
def goE (C:Cx) (ev:Ev) (o:Oper) (σ:St) (K:Eff × List RV→Option (Ret × Mem)):Option (Ret × Mem) :=
 bif dstB C.n o.dst then
  (mapO (opv (mode o.op) σ) o.op.operands.toList).bind fun vs=>ev (o.dst.getD 0) o.op vs fun e =>
   bif e.nw.all (fun id=>(yK σ.M id).isNone) then K (e,vs) else none
 else none
def kYV (C:Cx) (ev:Ev) (ops:Array Oper) (o:Oper) (σ:St) (K:Eff × List RV→Option (Ret × Mem)):Option (Ret × Mem) :=
 match o.guard with
 | none=>goE C ev o σ K
 | some (j,b)=>match (ops[j]?).bind (·.dst) with
  | some d=>match qQB σ.S d with
   | some (.v (.b c))=>(match b with
    | true=>bif c then goE C ev o σ K else yYU C o K
    | false=>bif c then yYU C o K else goE C ev o σ K)
   | some (.v (.t []))=>yYU C o K
   | _=>none
  | none=>none
def zHX (C:Cx) (ev:Ev) (ops:Array Oper):List Oper→(St→Option (Ret × Mem))→St→Option (Ret × Mem)
 | [],K,σ=>K σ
 | o :: l,K,σ=>kYV C ev ops o σ fun r=>zHX C ev ops l K (σ.apply r.1 o.dst)
def qHX (C:Cx) (ev:Ev) (ops:Array Oper):Nat→List Oper→List Done→(St→Option (Ret × Mem))→St→Option (Ret × Mem)
 | _,[],acc,K,σ=>bif zJY ops acc.reverse && Sx.backB ops then K σ else none
 | i,o :: l,acc,K,σ=>kYV C ev ops o σ fun r=>qHX C ev ops (i + 1) l ((i,r) :: acc) K (σ.apply r.1 o.dst)
def zZW (N:Nat) (C:Cx) (ev:Ev) (LO:List Nat→Option yG):Code→List Nat→Cont→St→Option (Ret × Mem)
 | .skip,_,K,σ=>K .normal σ
 | .label _,_,K,σ=>K .normal σ
 | .scope x,p,K,σ=>zZW N C ev LO x (0 :: p) K σ
 | .ret,_,K,σ=>K .ret σ
 | .exit id,_,K,σ=>K (.exit id) σ
 | .region _ ops d,_,K,σ=>bif d then qHX C ev ops 0 ops.toList [] (K .normal) σ else zHX C ev ops ops.toList (K .normal) σ
 | .seq x y,p,K,σ=>zZW N C ev LO x (0 :: p) (fun e σ=>match e with
   | .normal=>zZW N C ev LO y (1 :: p) K σ
   | e=>K e σ) σ
 | .cond c x y,p,K,σ=>(opv 1 σ c).bind fun v=>match v with
   | .v (.b t)=>bif t then zZW N C ev LO x (0 :: p) K σ else zZW N C ev LO y (1 :: p) K σ
   | _=>none
 | .block id x,p,K,σ=>zZW N C ev LO x (0 :: p) (fun e σ=>match e with
   | .exit id'=>bif Nat.beq id' id then K .normal σ else K (.exit id') σ
   | e=>K e σ) σ
 | .loop x,p,K,σ=>match LO p with
   | some S=>S (qJW (C.T.hint C.me (yZ x)) σ) K
   | none=>qGJ (fun again σ=>zZW N C ev LO x (0 :: p) (fun e σ=>match e with
     | .normal=>again σ
     | e=>K e (qYB (C.T.hint C.me (yZ x)) σ)) (qJW (C.T.hint C.me (yZ x)) σ)) N σ
 | _,_,_,_=>none
section
variable {C:Cx} {ev:Ev} {ops:Array Oper} {r:Ret × Mem} {K0:Ret × Mem→Option (Ret × Mem)}
theorem yQF {o:Oper} {σ:St} {K:Eff × List RV→Option (Ret × Mem)} (hc:EvOk C ev) (hg:qQI ops σ o=some true) (h:goE C ev o σ K=some r):∃ x,qKJ C ops o σ=some x∧K x=some r:=by
 unfold goE at h;obtain ⟨hd,h⟩:=qQ h;rw [vQQ] at h;obtain ⟨vs,hvs,h⟩:=h;obtain ⟨e,he,h⟩:=hc _ _ _ _ _ h;obtain ⟨hn,h⟩:=qQ h;exact ⟨(e,vs),qHZ hd (.inr ⟨hg,hvs,he,fun i hi=>by simpa using List.all_eq_true.1 hn i hi⟩),h⟩
theorem zVZ {o:Oper} {σ:St} {K:Eff × List RV→Option (Ret × Mem)} (hc:EvOk C ev) (h:kYV C ev ops o σ K=some r):∃ x,qKJ C ops o σ=some x∧K x=some r:=by
 unfold kYV at h;cases hg:o.guard with
 | none=>rw [hg] at h; exact yQF hc (by unfold qQI; rw [hg]) h
 | some gb =>
  obtain ⟨j,b⟩:=gb;rw [hg] at h;simp only at h;split at h
  ·rename_i d hd;split at h
   ·rename_i c hlc;have gd:qQI ops σ o=some (c == b):=by
     unfold qQI;rw [hg];simp only [hd,hlc]
    cases b <;> cases c <;> simp only [vYV,vYG] at h
    ·exact yQF hc gd h
    ·exact qUY gd h
    ·exact qUY gd h
    ·exact yQF hc gd h
   ·rename_i hlc;exact qUY (by unfold qQI; rw [hg]; simp only [hd,hlc]) h
   ·cases h
  ·cases h
theorem zYF (hc:EvOk C ev) {K K':St→Option (Ret × Mem)} (hK:∀ σ,K σ=some r→Gets K0 r (K' σ)):∀ (l:List Oper) (σ:St),zHX C ev ops l K σ=some r→Gets K0 r (zYI C ops l K' σ)
 | [],σ,h=>hK σ h
 | o :: l,σ,h=>by
  simp only [zHX] at h;obtain ⟨x,hx,h⟩:=zVZ hc h;simp only [zYI,hx,vYQ];exact zYF hc hK l _ h
theorem qHU (hc:EvOk C ev) {K K':St→Option (Ret × Mem)} (hK:∀ σ,K σ=some r→Gets K0 r (K' σ)):∀ (l:List Oper) (i:Nat) (acc:List Done) (σ:St),qHX C ev ops i l acc K σ=some r→Gets K0 r (qKA C ops i l acc K' σ)
 | [],i,acc,σ,h=>by
  simp only [qHX] at h;obtain ⟨hp,h⟩:=qQ h;simp only [qKA,hp,vYV];exact hK σ h
 | o :: l,i,acc,σ,h=>by
  simp only [qHX] at h;obtain ⟨x,hx,h⟩:=zVZ hc h;simp only [qKA,hx,vYQ];exact qHU hc hK l _ _ _ h
theorem qYX {N:Nat} {LO:List Nat→Option yG} {B:Code} (hc:EvOk C ev) (hL:∀ p S,LO p=some S→uX N C (qZU 0 (qQY B p)) S):∀ (c:Code) (p:List Nat) {K K':Cont} (hp:qQY B p=c) (hK:∀ e σ,K e σ=some r→Gets K0 r (K' e σ)) (σ:St),zZW N C ev LO c p K σ=some r→Gets K0 r (runC N C c K' σ)
 | .skip,p,K,K',hp,hK,σ,h=>hK _ _ h
 | .label _,p,K,K',hp,hK,σ,h=>hK _ _ h
 | .scope x,p,K,K',hp,hK,σ,h=>qYX hc hL x (0 :: p) (by simp only [qQY,hp,qZU]) hK σ h
 | .ret,p,K,K',hp,hK,σ,h=>hK _ _ h
 | .exit id,p,K,K',hp,hK,σ,h=>hK _ _ h
 | .region id ops d,p,K,K',hp,hK,σ,h=>by
  cases d with
  | true=>exact qHU hc (hK .normal) _ _ _ _ h
  | false=>exact zYF hc (hK .normal) _ _ h
 | .seq x y,p,K,K',hp,hK,σ,h=>by
  refine qYX hc hL x (0 :: p) (by simp only [qQY,hp,qZU]) (fun e τ hk => ?_) σ h;cases e with
  | normal=>exact qYX hc hL y (1 :: p) (by simp only [qQY,hp,qZU]) hK τ hk
  | _=>exact hK _ _ hk
 | .cond c x y,p,K,K',hp,hK,σ,h=>by
  simp only [zZW,vQQ] at h;obtain ⟨v,hv,h⟩:=h;simp only [runC,hv,vYQ];split at h
  ·rename_i t;cases t with
   | true=>exact qYX hc hL x (0 :: p) (by simp only [qQY,hp,qZU]) hK σ h
   | false=>exact qYX hc hL y (1 :: p) (by simp only [qQY,hp,qZU]) hK σ h
  ·cases h
 | .block id x,p,K,K',hp,hK,σ,h=>by
  refine qYX hc hL x (0 :: p) (by simp only [qQY,hp,qZU]) (fun e τ hk => ?_) σ h;cases e with
  | exit id' =>
   simp only at hk ⊢;cases hb:Nat.beq id' id with
   | true=>rw [hb] at hk; exact hK _ _ hk
   | false=>rw [hb] at hk; exact hK _ _ hk
  | _=>exact hK _ _ hk
 | .loop x,p,K,K',hp,hK,σ,h=>by
  simp only [zZW] at h;simp only [runC];cases hS:LO p with
  | none =>
   rw [hS] at h;refine qXV (fun a a' ha τ hs => ?_) N σ h;refine qYX hc hL x (0 :: p) (by simp only [qQY,hp,qZU]) (fun e υ hk => ?_) _ hs;cases e with
   | normal=>exact ha _ hk
   | _=>exact hK _ _ hk
  | some S =>
   rw [hS] at h
   have:=hL p S hS
   rw [hp] at this;exact this K K' K0 σ r hK h
 | .rangeFunc ..,p,K,K',hp,hK,σ,h=>by cases h
 | .goto _,p,K,K',hp,hK,σ,h=>by cases h
 | .refuse _,p,K,K',hp,hK,σ,h=>by cases h
end
def uJQ (N:Nat) (C:Cx) (ev:Ev) (LO:List Nat→Option yG) (x:Code) (p:List Nat) (h:Hint) (K:Cont) (G:St→Option (Ret × Mem)) (σ:St):Option (Ret × Mem):=zZW N C ev LO x (0 :: p) (fun e τ=>match e with
 | .normal=>G (qJW h τ)
 | e=>K e (qYB h τ)) σ
def LFX (N:Nat) (C:Cx) (ev:Ev) (LO:List Nat→Option yG) (x:Code) (p:List Nat) (h:Hint) (K:Cont):Nat→St→Option (Ret × Mem)
 | 0,_=>none
 | n + 1,σ=>uJQ N C ev LO x p h K (LFX N C ev LO x p h K n) σ
theorem kZA {N:Nat} {C:Cx} {ev:Ev} {LO:List Nat→Option yG} {B x:Code} {p:List Nat} {K K':Cont} {K0:Ret × Mem→Option (Ret × Mem)} {r:Ret × Mem} (hc:EvOk C ev) (hL:∀ p S,LO p=some S→uX N C (qZU 0 (qQY B p)) S) (hx:qQY B (0 :: p)=x)
  (hK:∀ e τ,K e τ=some r→Gets K0 r (K' e τ)):∀ (n:Nat) (σ:St),LFX N C ev LO x p (C.T.hint C.me (yZ x)) K n (qJW (C.T.hint C.me (yZ x)) σ)=some r→Gets K0 r (qGJ (fun again σ=>runC N C x (fun e σ=>match e with
   | .normal=>again σ
   | e=>K' e (qYB (C.T.hint C.me (yZ x)) σ)) (qJW (C.T.hint C.me (yZ x)) σ)) n σ)
 | 0,σ,h=>by cases h
 | n + 1,σ,h=>by
  simp only [LFX,uJQ] at h;simp only [qGJ];refine qYX hc hL x (0 :: p) hx (fun e τ hk => ?_) _ h;cases e with
  | normal=>exact kZA hc hL hx hK n τ hk
  | _=>exact hK _ _ hk
theorem kGQ {N:Nat} {C:Cx} {ev:Ev} {LO:List Nat→Option yG} {B x:Code} {p:List Nat} {S:yG} (hc:EvOk C ev) (hL:∀ p S,LO p=some S→uX N C (qZU 0 (qQY B p)) S) (hx:qQY B (0 :: p)=x)
  (hS:∀ K σ r,S σ K=some r→LFX N C ev LO x p (C.T.hint C.me (yZ x)) K N σ=some r):uX N C x S:=fun K _ _ σ r hK h =>
 kZA hc hL hx hK N σ (hS K _ r h)
abbrev yUH:=Nat→List HV→List PV→(PV × List PV→Option (Ret × Mem))→Option (Ret × Mem)
def jUV (r:PV × List PV) (K:PV × List PV→Option (Ret × Mem)):Option (Ret × Mem):=match r with
 | (.b c,ps)=>bif c then K (.b true,ps) else K (.b false,ps)
 | r=>K r
theorem jUW (r:PV × List PV) (K:PV × List PV→Option (Ret × Mem)):jUV r K=K r:=by
 unfold jUV;split
 ·rename_i c ps; cases c <;> rfl
 ·rfl
def yUY (cBK:yUH) (f:Nat) (args:List RV) (K:Eff→Option (Ret × Mem)):Option (Ret × Mem) :=
 (kQY args).bind fun p=>(mapO CV.pv p.2).bind fun ps=>(mapO (RV.toB p.1) args).bind fun hs=>cBK f hs ps fun r=>jUV r fun r =>
  K (Eff.and (.set p.1 (.blk (r.2.map PV.toH)) (.v r.1)) (catR RV.regs args))
def xHI (C:Cx) (cBK:yUH):Prop:=∀ f hs ps K r,cBK f hs ps K=some r→∃ x,C.cB f hs ps=some x∧K x=some r
def selC:List PV→Int→PV
 | [],_=>.ni
 | [x],_=>x
 | x :: y :: l,i=>zJK (decide (i=0)) x (selC (y :: l) (i - 1))
theorem jXY:∀ (l:List PV) (i:Int),0≤i→i.toNat < l.length→l[i.toNat]? = some (selC l i)
 | [],i,_,h=>by simp at h
 | [x],i,h0,h=>by
  have:i.toNat=0:=by simp at h; omega
  rw [this]; rfl
 | x :: y :: l,i,h0,h=>by
  rw [selC];by_cases e:i=0
  ·subst e; rw [vJQ rfl,zKJ]; rfl
  ·rw [vYH e,zKK,show i.toNat=(i - 1).toNat + 1 by omega,List.getElem?_cons_succ];exact jXY (y :: l) (i - 1) (by omega) (by simp only [vQW] at h ⊢; omega)
def evS (C:Cx) (cK:qJJ) (cBK:yUH):Ev:=fun dst op vs K=>match op,vs with
 | .call ⟨.value fx,axs,ats⟩,.v (.f f first cap) :: vs=>bif C.T.rw f then yUY cBK f (first.map .v ++ vs ++ cap.map .v) K else jKV C cK dst (.call ⟨.value fx,axs,ats⟩) (.v (.f f first cap) :: vs) K
 | .index t a b,[.v (.a cs),.v (.n k i)]=>(C.T.ar t).bind fun q=>bif q.2.2 then jKV C cK dst (.index t a b) [.v (.a cs),.v (.n k i)] K else bif inB i q.1 && Nat.ble q.1 cs.length then K (.val (selC cs i).toH) else none
 | .slice t a lo hi none,.v (.s s) :: vs=>(zGH lo hi vs).bind fun b=>bif C.T.str t then (bif inS b.1 b.2 s.size then K (.val (.v (.s (s.extract (loOf b.1) (hiOf b.2 s.size))))) else none) else none
 | op,vs=>jKV C cK dst op vs K
theorem xGG {C:Cx} {cK:qJJ} {cBK:yUH} (hc:SndK C cK) (hb:xHI C cBK):EvOk C (evS C cK cBK):=fun dst op vs K r h=>by
 unfold evS at h;split at h
 ·rename_i fx axs ats f first cap vs
  cases hrw:C.T.rw f with
  | false =>
   rw [hrw,vYG] at h;exact qVL hc h
  | true =>
   rw [hrw,vYV] at h;simp only [yUY,vQQ] at h;obtain ⟨p,hp,ps,hps,hs,hhs,h⟩:=h;obtain ⟨x,hx,h⟩:=hb _ _ _ _ _ h;rw [jUW] at h;exact ⟨_,by simp only [zH,hrw,vYV,zKG,hp,hps,hhs,hx,vYQ],h⟩
 ·rename_i t a b cs k i;simp only [vQQ] at h;obtain ⟨q,hq,h⟩:=h;cases h2:q.2.2 with
  | true=>rw [h2,vYV] at h; exact qVL hc h
  | false =>
   rw [h2,vYG] at h;obtain ⟨hi,h⟩:=qQ h;rw [vQJ] at hi;obtain ⟨i0,i1⟩:=qXQ hi.1;have hl:=vZX hi.2;exact ⟨_,by simp only [zH,hq,vYQ,hi.1,h2,vYV,vYG,jXY cs i i0 (by omega)],h⟩
 ·rename_i t a lo hi s vs;simp only [vQQ] at h;obtain ⟨b,hbd,h⟩:=h;obtain ⟨h1,h⟩:=qQ h;obtain ⟨h2,h⟩:=qQ h;exact ⟨_,by simp only [zH,hbd,vYQ,h1,h2,vZJ,vYV],h⟩
 ·exact qVL hc h
abbrev OrB:=Nat→Option (List HV→List PV→Option (Bool × (PV × List PV)))
structure OrS where
 a:OrK
 b:OrB
def OrS.orc (o:OrS):Orc:=⟨o.a.orc.a,fun g=>(o.b g).bind fun f=>some fun hs ps=>(f hs ps).bind fun x=>bif x.1 then some x.2 else none⟩
structure OrS.Ok (P:Program) (o:OrS):Prop where
 a:o.a.Ok P
 b:∀ g f,o.b g=some f→∀ hs ps x ps',f hs ps=some (true,(x,ps'))→yUW P g hs ps x ps'
theorem OrS.Ok.orc {P:Program} {o:OrS} (h:o.Ok P):OrcOk P o.orc:=by
 refine ⟨h.a.orc.a,fun g f ho hs ps x ps' hr => ?_⟩;simp only [OrS.orc,vQQ,vQZ] at ho;obtain ⟨q,hq,rfl⟩:=ho;simp only [vQQ] at hr;obtain ⟨y,hy,hr⟩:=hr;obtain ⟨h1,hr⟩:=qQ hr;obtain ⟨y1,y2⟩:=y;cases hr;exact h.b g q hq hs ps x ps' (by rw [hy,← h1])
def cxS (T:Tab) (o:OrS) (N f n:Nat):Cx:=⟨T,qUB o.orc (runF T o.orc N),qWE o.orc (runF T o.orc N),f,n⟩
def jJQ (T:Tab) (o:OrS):Nat→Nat→List HV→Mem→(Ret × Mem→Option (Ret × Mem))→Option (Ret × Mem)
 | 0,_,_,_,_=>none
 | N + 1,f,hs,M,K=>match T.fn f with
  | none=>none
  | some fi=>bif Nat.ble hs.length fi.ntmps then zZW N (cxS T o N f fi.ntmps) (evS (cxS T o N f fi.ntmps)
    (zJV o.a fun g ps K=>jJQ T o N g (ps.map .v) [] fun r=>K r.1)
    (fun g hs ps K=>match o.b g with
     | some q=>(q hs ps).bind fun x=>bif x.1 then K x.2 else none
     | none=>jJQ T o N g hs [(pid,.blk (ps.map PV.toH))] fun r=>(qXX r.2).bind fun ps'=>(jJU r.1).bind fun x=>K (x,ps')))
    (fun _=>none) fi.body [] (fun e σ=>(endK T M fi.results e σ).bind K) ⟨initS 0 hs,M⟩ else none
def ckS (T:Tab) (o:OrS) (N:Nat):qJJ:=zJV o.a fun g ps K=>jJQ T o N g (ps.map .v) [] fun r=>K r.1
def cbS (T:Tab) (o:OrS) (N:Nat):yUH:=fun g hs ps K=>match o.b g with
 | some q=>(q hs ps).bind fun x=>bif x.1 then K x.2 else none
 | none=>jJQ T o N g hs [(pid,.blk (ps.map PV.toH))] fun r=>(qXX r.2).bind fun ps'=>(jJU r.1).bind fun x=>K (x,ps')
def evX (T:Tab) (o:OrS) (N f n:Nat):Ev:=evS (cxS T o N f n) (ckS T o N) (cbS T o N)
section
variable {T:Tab} {o:OrS}
def FSnd (T:Tab) (o:OrS) (N:Nat):Prop:=∀ (f:Nat) (hs:List HV) (M:Mem) (K:Ret × Mem→Option (Ret × Mem)) (r:Ret × Mem),jJQ T o N f hs M K=some r→∃ x,runF T o.orc N f hs M=some x∧K x=some r
theorem xHK {N f n:Nat} (h:FSnd T o N):SndK (cxS T o N f n) (ckS T o N):=fun g qs K' r' hk=>by
 unfold ckS zJV at hk;show ∃ x,qUB o.orc (runF T o.orc N) g qs=some x∧K' x=some r';unfold qUB;cases ho:o.a g with
 | some q =>
  rw [ho] at hk;simp only [vQQ] at hk;obtain ⟨x,hx,hk⟩:=hk;obtain ⟨h1,hk⟩:=qQ hk;exact ⟨x.2,by simp only [OrS.orc,OrK.orc,ho,hx,vYQ,h1,vYV],hk⟩
 | none =>
  rw [ho] at hk;obtain ⟨x,hx,hk⟩:=h g _ _ _ r' hk;have e:o.orc.a g=none:=by simp only [OrS.orc,OrK.orc,ho,Option.bind_none]
  exact ⟨x.1,by simp only [e,hx,vYQ],hk⟩
theorem xHV {N f n:Nat} (h:FSnd T o N):xHI (cxS T o N f n) (cbS T o N):=fun g hs ps K' r' hk=>by
 unfold cbS at hk;show ∃ x,qWE o.orc (runF T o.orc N) g hs ps=some x∧K' x=some r';unfold qWE;cases ho:o.b g with
 | some q =>
  rw [ho] at hk;simp only [vQQ] at hk;obtain ⟨x,hx,hk⟩:=hk;obtain ⟨h1,hk⟩:=qQ hk;exact ⟨x.2,by simp only [OrS.orc,ho,hx,vYQ,h1,vYV],hk⟩
 | none =>
  rw [ho] at hk;obtain ⟨x,hx,hk⟩:=h g _ _ _ r' hk;simp only [vQQ] at hk;obtain ⟨ps',h1,y,h2,hk⟩:=hk;have e:o.orc.b g=none:=by simp only [OrS.orc,ho,Option.bind_none]
  exact ⟨(y,ps'),by simp only [e,hx,vYQ,h1,h2],hk⟩
theorem kQV {N f n:Nat} (h:FSnd T o N):EvOk (cxS T o N f n) (evX T o N f n):=xGG (xHK h) (xHV h)
theorem zZU:∀ N,FSnd T o N
 | 0,f,hs,M,K,r,h=>by cases h
 | N + 1,f,hs,M,K,r,h=>by
  simp only [jJQ] at h;split at h
  ·cases h
  ·rename_i fi hfi;obtain ⟨hb,h⟩:=qQ h;have ih:FSnd T o N:=zZU N;obtain ⟨q,h1,h2⟩:=qYX (K0:=K) (K':=endK T M fi.results) (B:=fi.body) (LO:=fun _=>none) (kQV (f:=f) (n:=fi.ntmps) ih) (fun p S hp=>by cases hp) fi.body [] rfl (fun e σ hk=>by
    simp only [vQQ] at hk;exact hk) _ h
   refine ⟨q,?_,h2⟩;simp only [runF,hfi,hb,vYV];exact h1
def kKV (T:Tab) (o:OrS) (LO:List Nat→Option yG) (N f:Nat) (hs:List HV) (M:Mem) (K:Ret × Mem→Option (Ret × Mem)):Option (Ret × Mem):=match T.fn f with
 | none=>none
 | some fi=>bif Nat.ble hs.length fi.ntmps then zZW N (cxS T o N f (ntmF T f)) (evX T o N f (ntmF T f)) LO (qVA T f) [] (fun e σ=>(endK T M fi.results e σ).bind K) ⟨initS 0 hs,M⟩ else none
theorem zVU {LO:List Nat→Option yG} {N f:Nat} {hs:List HV} {M:Mem} {K:Ret × Mem→Option (Ret × Mem)} {r:Ret × Mem} (hL:∀ p S,LO p=some S→uX N (cxS T o N f (ntmF T f)) (qY T f p) S) (h:kKV T o LO N f hs M K=some r):∃ x,runF T o.orc (N + 1) f hs M=some x∧K x=some r:=by
 unfold kKV at h;split at h
 ·cases h
 ·rename_i fi hfi;obtain ⟨hb,h⟩:=qQ h;obtain ⟨q,h1,h2⟩:=qYX (K0:=K) (K':=endK T M fi.results) (B:=qVA T f) (kQV (zZU N)) hL (qVA T f) [] rfl (fun e σ hk=>by
   simp only [vQQ] at hk;exact hk) _ h
  have eb:qVA T f=fi.body:=by unfold qVA; rw [hfi]
  have en:ntmF T f=fi.ntmps:=by unfold ntmF; rw [hfi]
  rw [eb,en] at h1;refine ⟨q,?_,h2⟩;simp only [runF,hfi,hb,vYV];unfold cxS at h1;exact h1
def qQZ (T:Tab) (o:OrS) (LO:List Nat→Option yG) (N f:Nat) (ps:List PV):Option (Ret × Mem):=kKV T o LO N f (ps.map .v) [] fun r=>some (r.1,[])
def xJQ (T:Tab) (o:OrS) (LO:List Nat→Option yG) (N f:Nat) (hs:List HV) (ps:List PV):Option (Ret × Mem):=kKV T o LO N f hs [(pid,.blk (ps.map PV.toH))] fun r=>(qXX r.2).bind fun ps'=>(jJU r.1).bind fun x=>some (.v (.t (x :: ps')),[])
theorem zK {P:Program} {LO:List Nat→Option yG} {N f:Nat} {ps:List PV} {r:Ret} (hT:TabOk P T) (hm:P.follows .mixedOrders=true) (hO:o.Ok P) (hL:∀ p S,LO p=some S→uX N (cxS T o N f (ntmF T f)) (qY T f p) S) (h:qQZ T o LO N f ps=some (r,[])):zG P f ps r:=by
 obtain ⟨x,h1,h2⟩:=zVU hL h;cases h2;refine uH (N:=N + 1) hT hm hO.orc ?_;unfold run;rw [h1];rfl
theorem yXH {P:Program} {LO:List Nat→Option yG} {N f:Nat} {hs:List HV} {ps ps':List PV} {x:PV} (hT:TabOk P T) (hm:P.follows .mixedOrders=true) (hO:o.Ok P) (hL:∀ p S,LO p=some S→uX N (cxS T o N f (ntmF T f)) (qY T f p) S) (h:xJQ T o LO N f hs ps=some (.v (.t (x :: ps')),[])):yUW P f hs ps x ps':=by
 obtain ⟨y,h1,h2⟩:=zVU hL h;simp only [vQQ,vQZ,vQY,Ret.v.injEq,PV.t.injEq,List.cons.injEq,and_true] at h2;obtain ⟨qs,h3,z,h4,rfl,rfl⟩:=h2;refine jJJ (N:=N + 1) hT hm hO.orc ?_;unfold runB;rw [h1];simp only [vYQ,h3,h4]
end
theorem jK {N:Nat} {T:Tab} {o:OrS} {f:Nat} {LO:List Nat→Option yG} {p:List Nat} {τ:Type} {hd:τ→St} {ex:St→τ} {R:τ→Cont→Option (Ret × Mem)}
  (hL:∀ p S,LO p=some S→uX N (cxS T o N f (ntmF T f)) (qY T f p) S)
  (h:∀ s K r,R s K=some r→LFX N (cxS T o N f (ntmF T f)) (evX T o N f (ntmF T f)) LO (qY T f p) p (T.hint f (yZ (qY T f p))) K N (hd s)=some r):uX N (cxS T o N f (ntmF T f)) (qY T f p) (sumF hd ex R) :=
 kGQ (B:=qVA T f) (ev:=evX T o N f (ntmF T f)) (kQV (zZU N)) hL rfl fun K σ r hr=>by
  unfold sumF at hr;obtain ⟨hg,hq⟩:=qQ hr;have e:=jHC hg
  have:=h (ex σ) K r hq
  rw [← e] at this;exact this
abbrev OrBL:=List (Nat × (List HV→List PV→Option (Bool × (PV × List PV))))
def kZX (P:Program) (f:Nat) (o:List HV→List PV→Option (Bool × (PV × List PV))):Prop:=∀ hs ps x ps',o hs ps=some (true,(x,ps'))→yUW P f hs ps x ps'
def orS (l:OrL) (m:OrBL):OrS:=⟨OrL.k l,asc m⟩
theorem kQ {P:Program} {l:OrL} {m:OrBL} (h:AllP (fun x:Nat × (List PV→Option (Bool × Ret))=>zZ P x.1 x.2) l) (hb:AllP (fun x:Nat × (List HV→List PV→Option (Bool × (PV × List PV)))=>kZX P x.1 x.2) m):(orS l m).Ok P :=
 ⟨OrL.ok h,fun _ _ ho hs ps x ps' hr=>hb.of (qJZ ho) hs ps x ps' hr⟩
def LFT (T:Tab) (f:Nat) (o:OrS) (N:Nat) (l:List (List Nat × yG)) (p:List Nat) (K:Cont):Nat→St→Option (Ret × Mem):=LFX N (cxS T o N f (ntmF T f)) (evX T o N f (ntmF T f)) (qK l) (qY T f p) p (T.hint f (yZ (qY T f p))) K
def stpT (T:Tab) (f:Nat) (o:OrS) (N:Nat) (l:List (List Nat × yG)) (p:List Nat) (K:Cont) (G:St→Option (Ret × Mem)):St→Option (Ret × Mem):=uJQ N (cxS T o N f (ntmF T f)) (evX T o N f (ntmF T f)) (qK l) (qY T f p) p (T.hint f (yZ (qY T f p))) K G
end Go.Rx
namespace Go.Rx
open Go.RowKit Go.Sx
noncomputable def gEq (a b:PV):Bool:=@decide (a=b) (vYJ _)
theorem zQU (a:PV):gEq a a=true:=@vJQ _ (vYJ _) rfl
theorem zXL {a b:PV} (h:gEq a b=true):a=b:=@vJZ _ (vYJ _) h
noncomputable def g1 (l:List PV):Bool:=gEq (.t l) (.t l)
theorem g1_t (l:List PV):g1 l=true:=zQU _
noncomputable def o_lk (as_:List PV) (g:Bool) (r:Ret):List PV→Option (Bool × Ret):=fun ps=>some (gEq (.t ps) (.t as_) && g,r)
theorem zHE {P:Program} {f:Nat} {as_:List PV} {g:Bool} {r:Ret} (h:g=true→zG P f as_ r):zZ P f (o_lk as_ g r):=by
 intro ps q hh;unfold o_lk at hh;simp only [vQZ,vQY,vQJ] at hh;obtain ⟨⟨hg,hb⟩,rfl⟩:=hh
 have:=zXL hg
 simp only [PV.t.injEq] at this;rw [this];exact h hb
noncomputable def o_cr (as_:List PV) (r:Ret):List PV→Option (Bool × Ret):=fun ps=>some (gEq (.t ps) (.t as_),r)
theorem qVK {P:Program} {f:Nat} {as_:List PV} {r:Ret} (h:zG P f as_ r):zZ P f (o_cr as_ r):=by
 intro ps q hh;unfold o_cr at hh;simp only [vQZ,vQY] at hh;obtain ⟨hg,rfl⟩:=hh
 have:=zXL hg
 simp only [PV.t.injEq] at this;rw [this];exact h
noncomputable def gP (p:Prop):Bool:=@decide p (vYJ _)
theorem qXJ {p:Prop} (h:p):gP p=true:=@vJQ _ (vYJ _) h
theorem jH {p:Prop} (h:gP p=true):p:=@vJZ _ (vYJ _) h
noncomputable def gFam {τ:Type} (C:τ→Prop) (enc:τ→List PV) (t:τ) (ps:List PV):Bool:=gP (C t∧ps=enc t)
noncomputable def gF1 {τ:Type} (C:τ→Prop) (enc:τ→List PV) (t:τ):Bool:=gFam C enc t (enc t)
theorem jX {τ:Type} {C:τ→Prop} {enc:τ→List PV} {t:τ} (h:C t):gF1 C enc t=true:=qXJ ⟨h,rfl⟩
noncomputable def o_fm {τ:Type} (dec:List PV→τ) (C:τ→Prop) (enc:τ→List PV) (res:τ→Ret):List PV→Option (Bool × Ret):=fun ps=>some (gFam C enc (dec ps) ps,res (dec ps))
theorem qQV {P:Program} {f:Nat} {τ:Type} {dec:List PV→τ} {C:τ→Prop} {enc:τ→List PV} {res:τ→Ret} (h:∀ t,C t→zG P f (enc t) (res t)):zZ P f (o_fm dec C enc res):=by
 intro ps r hh;unfold o_fm at hh;simp only [vQZ,vQY] at hh;obtain ⟨hg,rfl⟩:=hh;obtain ⟨hc,e⟩:=jH hg
 have:=h _ hc
 rw [← e] at this;exact this
noncomputable def xGZ {τ:Type} (C:τ→Prop) (eh:τ→List HV) (ep:τ→List PV) (t:τ) (hs:List HV) (ps:List PV):Bool:=gP (C t∧hs=eh t∧ps=ep t)
noncomputable def gB1 {τ:Type} (C:τ→Prop) (eh:τ→List HV) (ep:τ→List PV) (t:τ):Bool:=xGZ C eh ep t (eh t) (ep t)
theorem qUE {τ:Type} {C:τ→Prop} {eh:τ→List HV} {ep:τ→List PV} {t:τ} (h:C t):gB1 C eh ep t=true:=qXJ ⟨h,rfl,rfl⟩
noncomputable def o_fb {τ:Type} (dec:List HV→List PV→τ) (C:τ→Prop) (eh:τ→List HV) (ep:τ→List PV) (x:τ→PV) (qs:τ→List PV):List HV→List PV→Option (Bool × (PV × List PV)):=fun hs ps=>some (xGZ C eh ep (dec hs ps) hs ps,(x (dec hs ps),qs (dec hs ps)))
theorem fUA {P:Program} {f:Nat} {τ:Type} {dec:List HV→List PV→τ} {C:τ→Prop} {eh:τ→List HV} {ep:τ→List PV} {x:τ→PV} {qs:τ→List PV} (h:∀ t,C t→yUW P f (eh t) (ep t) (x t) (qs t)):kZX P f (o_fb dec C eh ep x qs):=by
 intro hs ps y ps' hh;unfold o_fb at hh;simp only [vQZ,vQY] at hh;obtain ⟨hg,rfl,rfl⟩:=hh;obtain ⟨hc,e1,e2⟩:=jH hg
 have:=h _ hc
 rw [← e1,← e2] at this;exact this
def fQ (q:Nat→Int):Nat→List PV:=fun v=>[.n .i64 (q v)]
def unFQ (f:Nat→List PV):Nat→Int:=fun i=>match f i with
 | [.n _ x]=>x
 | _=>0
def iqOf (l:List Int):Nat→Int:=fun i=>l.getD i 0
theorem yKJ (l:List Int):Same (yVC l) (.lf l.length (fQ (iqOf l))):=Same.lf (jXV 0 (fun x=>[PV.n .i64 x]) l)
theorem toN (p:Nat):(p:Int).toNat=p:=by omega
theorem kK {p:Nat} (_:p < 1000000):vJJ .i64 ((p:Int) + 1)=((p + 1:Nat):Int):=by rw [qX (by omega)]; omega
theorem yU {p n:Nat} (_:p < n):inB (p:Int) n=true:=by unfold inB; rw [vJQ (show (0:Int)≤p by omega),vJQ (show (p:Int).toNat < n by omega)]; rfl
def qQX {τ:Type} (nx:Nat→τ→τ):Nat→Nat→τ→τ
 | 0,_,s=>s
 | m + 1,p,s=>qQX nx m (p + 1) (nx p s)
theorem qZH {τ β:Type} {nx:Nat→τ→τ} {KX:τ→β} {KR:Nat→τ→β}:∀ m p s,runS (fun _ _=>true) nx KX KR m p s=KX (qQX nx m p s)
 | 0,_,_=>rfl
 | m + 1,p,s=>by
  simp only [runS,vYV,qQX];exact qZH m (p + 1) _
theorem qQG {τ:Type} {nx:Nat→τ→τ} {Q:Nat→τ→Prop} {c:Nat} (h:∀ i s,i < c→Q i s→Q (i + 1) (nx i s)):∀ r p s,p + r=c→Q p s→Q c (qQX nx r p s)
 | 0,p,s,hp,hq=>by
  obtain rfl:p=c:=by omega
  exact hq
 | r + 1,p,s,hp,hq=>qQG h r (p + 1) (nx p s) (by omega) (h p s (by omega) hq)
def qUH (g:Nat→Int):Nat→Nat→(Nat→Int)→Nat→Int
 | 0,_,a=>a
 | k + 1,p,a=>qUH g k (p + 1) fun v=>bif Nat.beq v p then g p else a v
theorem yKC (g:Nat→Int):∀ (k p:Nat) (a:Nat→Int) (v:Nat),qUH g k p a v=if p≤v∧v < p + k then g v else a v
 | 0,p,a,v=>by rw [qUH,if_neg (by omega)]
 | k + 1,p,a,v=>by
  rw [qUH,yKC g k (p + 1),qXK];by_cases h:v=p
  ·subst h;rw [if_neg (by omega),if_pos (by omega),vJQ rfl]; rfl
  ·rw [vYH h,vYG];by_cases h2:p + 1≤v∧v < p + 1 + k
   ·rw [if_pos h2,if_pos (by omega)]
   ·rw [if_neg h2,if_neg (by omega)]
theorem kQX {g a:Nat→Int} {k j:Nat} (_:j < k):qUH g k 0 a j=g j:=by rw [yKC,if_pos (by omega)]
theorem qXB {P:Program} {f e sz n:Nat} {g:Nat→List PV} {ps:List PV} (h:zG P f ps (.ow e sz (.fo n g))):zG P f ps (.v (.lf n g)):=by
 refine ⟨h.1,fun w F vals hF hal=>(h.2 w F vals hF hal).mono ?_⟩
 rintro en w' ⟨v,F',he,hg,f1,f2,hr⟩
 obtain ⟨F2,f3,f4,hx⟩:=hr.pv (x:=.lf n g) rfl;refine ⟨v,F2,he,hg,fun k hk=>f3 k (f1 k hk),fun k hk => ?_,hx⟩;rcases f4 k hk with h | h
 ·exact f2 k h
 ·exact .inr h
theorem jY {β:Type} (good:Nat→Bool) (KX:β) (KR:Nat→β):∀ k p,runS (fun (i:Nat) (_:Unit)=>good i) (fun _ _=>()) (fun _=>KX) (fun i _=>KR i) k p ()=zJZ good KX KR k p
 | 0,_=>rfl
 | k + 1,p=>by simp only [runS,zJZ,jY good KX KR k (p + 1)]
def slI (σ:St) (k:Nat):Int:=match qQB σ.S k with
 | some (.v (.n _ x))=>x
 | _=>0
def lfN (σ:St) (k:Nat):Nat:=match qQB σ.S k with
 | some (.v (.lf n _))=>n
 | _=>0
def rgN (σ:St) (k:Nat):Nat:=match yK σ.M k with
 | some (.reg _ _ (.fo n _))=>n
 | _=>0
def rgF (σ:St) (k:Nat):Nat→List PV:=match yK σ.M k with
 | some (.reg _ _ (.fo _ f))=>f
 | _=>fun _=>[]
def bkC (σ:St) (k i:Nat):Int:=match yK σ.M k with
 | some (.blk cs)=>match cs[i]? with
  | some (.v (.n _ x))=>x
  | _=>0
 | _=>0
def mA (w m:Nat):Nat→Nat
 | 0=>m
 | i + 1=>min (mA w m i + 1) w
theorem qYV {w m:Nat} (h:m≤w):∀ i,mA w m i≤w
 | 0=>h
 | i + 1=>Nat.min_le_right _ _
def eW (e:Nat→Int) (w m:Nat):Int:=bif Nat.blt m w then e m else 0
def nxV (e:Nat→Int) (w m:Nat) (k:Int):Int:=eW e w m % k
theorem qUG {e:Nat→Int} {w m:Nat} {k:Int} (h:0 < k):0≤nxV e w m k∧nxV e w m k < k:=⟨Int.emod_nonneg _ (by omega),Int.emod_lt_of_pos _ h⟩
end Go.Rx
namespace Go.Sx
def dn (x:Int):Nat→Int
 | 0=>1073741824
 | 1=>x * 6746518852 / 65536
 | k + 2=>dn x (k + 1) * (x * 6746518852 / 65536) / 1073741824
def up (x:Int):Nat→Int
 | 0=>1073741824
 | 1=>zW (x * 6746518853) 65536
 | k + 2=>zW (up x (k + 1) * zW (x * 6746518853) 65536) 1073741824
theorem uYL {m t r:Int} (h:r=m * t / 1073741824) (hm:0≤m∧m≤1073741824) (ht:0≤t∧t≤1073741824):0≤r∧r≤1073741824:=by
 subst h;have h1:0≤m * t:=Int.mul_nonneg hm.1 ht.1;have h2:m * t≤1073741824 * 1073741824:=Int.mul_le_mul hm.2 ht.2 ht.1 (by decide);omega
theorem qVH {a b:Int} (hb:0 < b):a≤zW a b * b∧zW a b * b < a + b:=by
 unfold zW;have h1:=Int.ediv_mul_le (-a) (Int.ne_of_gt hb);have h2:=Int.lt_ediv_add_one_mul_self (-a) hb;rw [Int.add_mul] at h2;rw [Int.neg_mul];omega
theorem uYF {m t r:Int} (h:r=zW (m * t) 1073741824) (hm:0≤m∧m≤1073741824) (ht:0≤t∧t≤1073741824):0≤r∧r≤1073741824:=by
 subst h;have h1:0≤m * t:=Int.mul_nonneg hm.1 ht.1;have h2:m * t≤1073741824 * 1073741824:=Int.mul_le_mul hm.2 ht.2 ht.1 (by decide);have h3:=qVH (a:=m * t) (b:=1073741824) (by decide);omega
theorem yUI {x r:Int} (_:r=zW (x * 6746518853) 65536) (_:0≤x∧x≤8192):0≤r∧r≤1073741824:=by
 have h3:=qVH (a:=x * 6746518853) (b:=65536) (by decide);omega
theorem qJI {x:Int} (hx:0≤x∧x≤8192):∀ k,0≤dn x k∧dn x k≤1073741824
 | 0=>by simp [dn]
 | 1=>by simp only [dn]; omega
 | k + 2=>uYL rfl (qJI hx (k + 1)) (by omega)
theorem qYG {x:Int} (hx:0≤x∧x≤8192):∀ k,0≤up x k∧up x k≤1073741824
 | 0=>by simp [up]
 | 1=>yUI rfl hx
 | k + 2=>uYF rfl (qYG hx (k + 1)) (yUI rfl hx)
def encI (low high:Int):Iv:=⟨max 0 (low / 16384),min 65536 (zW high 16384)⟩
def sinL (x:Int):Int:=dn x 1 - zW (up x 3) 6 + dn x 5 / 120 - zW (up x 7) 5040
def sinU (x:Int):Int:=up x 1 - dn x 3 / 6 + zW (up x 5) 120 - dn x 7 / 5040 + zW (up x 9) 362880
def cosL (x:Int):Int:=1073741824 - zW (up x 2) 2 + dn x 4 / 24 - zW (up x 6) 720 + dn x 8 / 40320 - zW (up x 10) 3628800
def cosU (x:Int):Int:=1073741824 - dn x 2 / 2 + zW (up x 4) 24 - dn x 6 / 720 + zW (up x 8) 40320
def zHK (x:Int):Iv:=encI (sinL x) (sinU x)
def qWG (x:Int):Iv:=encI (cosL x) (cosU x)
def qYF (r:Int):Iv:=bif decide (r≤8192) then zHK r else qWG (16384 - r)
def sinM (m:Int):Iv:=bif decide (m / 16384=0) then qYF (m % 16384) else bif decide (m / 16384=1) then qYF (16384 - m % 16384)
 else bif decide (m / 16384=2) then Iv.neg (qYF (m % 16384)) else Iv.neg (qYF (16384 - m % 16384))
def sinI (a:Int):Iv:=sinM (a % 65536)
def cosI (a:Int):Iv:=sinI (a % 65536 + 16384)
def uZ (a:Iv) (c:Int):Bool:=decide (a.lo + (c - a.lo) % 65536≤a.hi)
def xKF (a:Iv) (low high:Iv) (top bottom:Int):Iv :=
 bif !a.valid then ⟨0,0⟩ else bif decide (65536≤a.hi - a.lo) then ⟨-65536,65536⟩ else
  let x:=Iv.hull low high
  let y:=bif uZ a top then Iv.hull x (Iv.of 65536) else x
  bif uZ a bottom then Iv.hull y (Iv.of (-65536)) else y
def kG (a:Iv):Iv:=xKF a (sinI a.lo) (sinI a.hi) 16384 49152
def kH (a:Iv):Iv:=xKF a (cosI a.lo) (cosI a.hi) 0 32768
theorem jKA {a b:Int} (_:0≤a) (hb:0 < b):(a + b - 1) / b=zW a b:=by
 refine (zQC hb ?_ ?_).symm
 ·have:=Int.lt_ediv_add_one_mul_self (a + b - 1) hb
  rw [Int.add_mul] at this;omega
 ·have:=Int.ediv_mul_le (a + b - 1) (Int.ne_of_gt hb)
  omega
theorem zWW {a b:Int} (ha:0≤a) (hb:0 < b):0≤zW a b∧zW a b≤a:=by
 have h:=qVH (a:=a) hb;constructor
 ·rcases Int.lt_or_le (zW a b) 0 with h1 | h1
  ·have:zW a b * b ≤ -1 * b:=Int.mul_le_mul_of_nonneg_right (by omega) (Int.le_of_lt hb)
   omega
  ·exact h1
 ·rcases Int.lt_or_le a (zW a b) with h1 | h1
  ·have:(a + 1) * b≤zW a b * b:=Int.mul_le_mul_of_nonneg_right (by omega) (Int.le_of_lt hb)
   rw [Int.add_mul] at this;have h3:a * 1≤a * b:=Int.mul_le_mul_of_nonneg_left (by omega) ha;omega
  ·exact h1
theorem yW {r a b:Int} (_:r=zW a b) (ha:0≤a∧a≤1073741824) (hb:0 < b):0≤r∧r≤1073741824:=by
 have:=zWW ha.1 hb
 omega
theorem kGC {a b:Int} (ha:0≤a∧a≤1073741824) (hb:0 < b∧b≤1073741824):vJJ .i64 ((a + b - 1).tdiv b)=zW a b:=by
 rw [yUL (by omega) (by omega),jKA ha.1 hb.1];exact qX (by have:=zWW ha.1 hb.1; omega)
theorem jXA {n k:Int} (hk:0 < k) (h:n.tmod k < 0):n.tmod k + k=n % k:=by
 have e:=Int.tdiv_mul_add_tmod n k;have f:=zWZ hk h;have g:=Int.mul_ediv_add_emod n k;rw [← f,Int.mul_comm,Int.sub_mul] at g;omega
theorem jXH {n k:Int} (hk:0 < k) (h:¬ n.tmod k < 0):n.tmod k=n % k:=by
 have e:=Int.tdiv_mul_add_tmod n k;have f:=yKV hk h;have g:=Int.mul_ediv_add_emod n k;rw [← f,Int.mul_comm] at g;omega
end Go.Sx
namespace Go.Sx
def cN (a b:Nat):Nat:=(a + (b - 1)) / b
def d1N (x:Nat):Nat:=x * 6746518852 / 65536
def u1N (x:Nat):Nat:=(x * 6746518853 + 65535) / 65536
def dN (x:Nat):Nat→Nat
 | 0=>1073741824
 | 1=>d1N x
 | k + 2=>dN x (k + 1) * d1N x / 1073741824
def uN (x:Nat):Nat→Nat
 | 0=>1073741824
 | 1=>u1N x
 | k + 2=>(uN x (k + 1) * u1N x + 1073741823) / 1073741824
def sLo (x:Nat):Nat:=((dN x 1 + dN x 5 / 120) - (cN (uN x 3) 6 + cN (uN x 7) 5040)) / 16384
def sHi (x:Nat):Nat:=min 65536 ((((uN x 1 + cN (uN x 5) 120 + cN (uN x 9) 362880) - (dN x 3 / 6 + dN x 7 / 5040)) + 16383) / 16384)
def cLo (x:Nat):Nat:=((1073741824 + dN x 4 / 24 + dN x 8 / 40320) - (cN (uN x 2) 2 + cN (uN x 6) 720 + cN (uN x 10) 3628800)) / 16384
def cHi (x:Nat):Nat:=min 65536 ((((1073741824 + cN (uN x 4) 24 + cN (uN x 8) 40320) - (dN x 2 / 2 + dN x 6 / 720)) + 16383) / 16384)
def fLo (r:Nat):Nat:=if r≤8192 then sLo r else cLo (16384 - r)
def fHi (r:Nat):Nat:=if r≤8192 then sHi r else cHi (16384 - r)
theorem zGX {r:Nat} (h:r≤8192):fLo r=sLo r∧fHi r=sHi r:=⟨if_pos h,if_pos h⟩
theorem jZV {r:Nat} (_:8192 < r):fLo r=cLo (16384 - r)∧fHi r=cHi (16384 - r):=⟨if_neg (by omega),if_neg (by omega)⟩
def frc (n:Nat) (k:Nat→Bool):Bool:=Nat.rec (motive:=fun _=>Bool) (k 0) (fun m _=>k (Nat.succ m)) n
theorem jHF (n:Nat) (k:Nat→Bool):frc n k=k n:=by cases n <;> rfl
def jUZ (x:Nat) (K:Nat→Nat→Nat→Nat→Bool):Bool :=
 frc x fun x=>frc (x * 6746518852 / 65536) fun d1=>frc ((x * 6746518853 + 65535) / 65536) fun u1 =>
 frc (d1 * d1 / 1073741824) fun d2=>frc ((u1 * u1 + 1073741823) / 1073741824) fun u2 =>
 frc (d2 * d1 / 1073741824) fun d3=>frc ((u2 * u1 + 1073741823) / 1073741824) fun u3 =>
 frc (d3 * d1 / 1073741824) fun d4=>frc ((u3 * u1 + 1073741823) / 1073741824) fun u4 =>
 frc (d4 * d1 / 1073741824) fun d5=>frc ((u4 * u1 + 1073741823) / 1073741824) fun u5 =>
 frc (d5 * d1 / 1073741824) fun d6=>frc ((u5 * u1 + 1073741823) / 1073741824) fun u6 =>
 frc (d6 * d1 / 1073741824) fun d7=>frc ((u6 * u1 + 1073741823) / 1073741824) fun u7 =>
 frc (d7 * d1 / 1073741824) fun d8=>frc ((u7 * u1 + 1073741823) / 1073741824) fun u8 =>
 frc ((u8 * u1 + 1073741823) / 1073741824) fun u9=>frc ((u9 * u1 + 1073741823) / 1073741824) fun u10 =>
 frc (((d1 + d5 / 120) - ((u3 + 5) / 6 + (u7 + 5039) / 5040)) / 16384) fun slo =>
 frc (min 65536 ((((u1 + (u5 + 119) / 120 + (u9 + 362879) / 362880) - (d3 / 6 + d7 / 5040)) + 16383) / 16384)) fun shi =>
 frc (((1073741824 + d4 / 24 + d8 / 40320) - ((u2 + 1) / 2 + (u6 + 719) / 720 + (u10 + 3628799) / 3628800)) / 16384) fun clo =>
 frc (min 65536 ((((1073741824 + (u4 + 23) / 24 + (u8 + 40319) / 40320) - (d2 / 2 + d6 / 720)) + 16383) / 16384)) fun chi=>K slo shi clo chi
theorem zGE (x:Nat) (K:Nat→Nat→Nat→Nat→Bool):jUZ x K=K (sLo x) (sHi x) (cLo x) (cHi x):=by
 unfold jUZ;simp only [jHF];rfl
def one (x a b c d:Nat):Bool :=
 Nat.ble a b && (Nat.ble b 65536 && (Nat.ble b (a + 2) && (Nat.ble c d && (Nat.ble d 65536 && (Nat.ble d (c + 2) &&
 (Nat.ble (4 * x) b && (Nat.ble (4 * x) (a + 2) && (Nat.ble a (x * 411775 / 65536 + 1) &&
 (Nat.ble (4 * (16384 - x)) d && (Nat.ble (4 * (16384 - x)) (c + 2) && (Nat.ble c ((16384 - x) * 411775 / 65536 + 1) &&
 (Nat.ble (a * a / 65536 + c * c / 65536) 65536 && Nat.ble 65536 ((b * b + 65535) / 65536 + (d * d + 65535) / 65536)))))))))))))
structure Fst (r:Nat):Prop where
 ord:fLo r≤fHi r
 top:fHi r≤65536
 wid:fHi r≤fLo r + 2
 ch1:4 * r≤fHi r
 ch2:4 * r≤fLo r + 2
 ch3:fLo r≤r * 411775 / 65536 + 1
end Go.Sx
namespace Go.Sx
theorem uZC {x y:Int} (_: -2147483648≤x∧x≤y∧y≤2147483648):Iv.neg ⟨x,y⟩=⟨-y,-x⟩:=by
 have:Iv.valid ⟨x,y⟩=true:=by simp [Iv.valid]; omega
 simp [Iv.neg,this]
theorem jGX {a:Iv} (h : -2147483648≤a.lo∧a.lo≤a.hi∧a.hi≤2147483648):Iv.neg a=⟨-a.hi,-a.lo⟩:=uZC (x:=a.lo) (y:=a.hi) h
theorem qZX {a:Iv} (_: -2147483648≤a.lo∧a.lo≤a.hi∧a.hi≤2147483648):a.valid=true:=by simp [Iv.valid]; omega
theorem neg_neg {a:Iv} (h : -2147483648≤a.lo∧a.lo≤a.hi∧a.hi≤2147483648):Iv.neg (Iv.neg a)=a:=by
 rw [jGX h,uZC (by omega),Int.neg_neg,Int.neg_neg]
end Go.Sx
namespace Go.Sx
def nn:Nat:=340282366920938463463374607431768211456
def uu:Nat:=5192296858534827628530496329220096
def uc:Nat:=340282365357037221779282487371359009126
def us:Nat:=32624163282081701561065576601652201
def w:Nat→Nat × Nat
 | 0=>(nn,0)
 | n + 1=>(((w n).1 * uc - (w n).2 * us) / nn,((w n).1 * us + (w n).2 * uc) / nn)
def bx (S C a b c d:Nat):Bool:=Nat.ble (a * 5192296858534827628530496329220096) S && (Nat.ble S (b * 5192296858534827628530496329220096) && (Nat.ble (c * 5192296858534827628530496329220096) C && Nat.ble C (d * 5192296858534827628530496329220096)))
def goU (C' T':Nat):Nat→Nat→Nat→Nat→Bool
 | 0,C,T,_=>Nat.beq C C' && Nat.beq T T'
 | k + 1,C,T,x=>(jUZ x fun a b c d=>bx T C a b c d) && (Nat.ble (T * 32624163282081701561065576601652201) (C * 340282365357037221779282487371359009126) && frc ((C * 340282365357037221779282487371359009126 - T * 32624163282081701561065576601652201) / 340282366920938463463374607431768211456) fun C2=>frc ((C * 32624163282081701561065576601652201 + T * 340282365357037221779282487371359009126) / 340282366920938463463374607431768211456) fun T2=>frc (x + 1) fun x2=>goU C' T' k C2 T2 x2)
def goD (C' T':Nat):Nat→Nat→Nat→Nat→Bool
 | 0,C,T,_=>Nat.beq C C' && Nat.beq T T'
 | k + 1,C,T,x=>(jUZ x fun a b c d=>bx C T a b c d) && (Nat.ble (T * 32624163282081701561065576601652201) (C * 340282365357037221779282487371359009126) && frc ((C * 340282365357037221779282487371359009126 - T * 32624163282081701561065576601652201) / 340282366920938463463374607431768211456) fun C2=>frc ((C * 32624163282081701561065576601652201 + T * 340282365357037221779282487371359009126) / 340282366920938463463374607431768211456) fun T2=>frc (x - 1) fun x2=>goD C' T' k C2 T2 x2)
structure BoxU (r:Nat):Prop where
 sl:sLo r * uu≤(w r).2
 sh:(w r).2≤sHi r * uu
 cl:cLo r * uu≤(w r).1
 ch:(w r).1≤cHi r * uu
 st:(w r).2 * us≤(w r).1 * uc
structure BoxD (r:Nat):Prop where
 sl:sLo (16384 - r) * uu≤(w r).1
 sh:(w r).1≤sHi (16384 - r) * uu
 cl:cLo (16384 - r) * uu≤(w r).2
 ch:(w r).2≤cHi (16384 - r) * uu
 st:(w r).2 * us≤(w r).1 * uc
theorem qZY {C' T':Nat}:∀ k C T x,goU C' T' k C T x=true→w x=(C,T)→w (x + k)=(C',T')∧∀ i,x≤i→i < x + k→BoxU i
 | 0,C,T,x,h,e=>by
  simp only [goU,vQJ] at h;refine ⟨?_,fun i a b=>absurd b (by omega)⟩;rw [Nat.add_zero,e,vQX h.1,vQX h.2]
 | k + 1,C,T,x,h,e=>by
  simp only [goU,jHF,zGE,bx,vQJ] at h;obtain ⟨⟨h1,h2,h3,h4⟩,h5,h6⟩:=h;obtain ⟨q1,q2⟩:=qZY k _ _ (x + 1) h6 (by rw [w,e]; rfl);refine ⟨by rw [← q1]; congr 1; omega,fun i a b => ?_⟩;by_cases hi:i=x
  ·subst hi;exact ⟨by rw [e]; exact vZX h1,by rw [e]; exact vZX h2,by rw [e]; exact vZX h3,by rw [e]; exact vZX h4,by rw [e]; exact vZX h5⟩
  ·exact q2 i (by omega) (by omega)
theorem qZG {C' T':Nat}:∀ k C T r,r≤16384→k≤16384 - r→goD C' T' k C T (16384 - r)=true→w r=(C,T)→w (r + k)=(C',T')∧∀ i,r≤i→i < r + k→BoxD i
 | 0,C,T,x,_,_,h,e=>by
  simp only [goD,vQJ] at h;refine ⟨?_,fun i a b=>absurd b (by omega)⟩;rw [Nat.add_zero,e,vQX h.1,vQX h.2]
 | k + 1,C,T,x,g1,g2,h,e=>by
  simp only [goD,jHF,zGE,bx,vQJ] at h;obtain ⟨⟨h1,h2,h3,h4⟩,h5,h6⟩:=h;rw [show 16384 - x - 1=16384 - (x + 1) by omega] at h6;obtain ⟨q1,q2⟩:=qZG k _ _ (x + 1) (by omega) (by omega) h6 (by rw [w,e]; rfl);refine ⟨by rw [← q1]; congr 1; omega,fun i a b => ?_⟩;by_cases hi:i=x
  ·subst hi;exact ⟨by rw [e]; exact vZX h1,by rw [e]; exact vZX h2,by rw [e]; exact vZX h3,by rw [e]; exact vZX h4,by rw [e]; exact vZX h5⟩
  ·exact q2 i (by omega) (by omega)
theorem wk0:goU 338643814315582355912937410983956791763 33353504510164655995148692933346502990 1024 340282366920938463463374607431768211456 0 0=true:=by decide +kernel
theorem wk1:goU 333743936656827580393945988194117882553 66385796539016198537004233666266150132 1024 338643814315582355912937410983956791763 33353504510164655995148692933346502990 1024=true:=by decide +kernel
theorem wk2:goU 325629922445073537381874007154866693371 98778757057029163154891549979681820108 1024 333743936656827580393945988194117882553 66385796539016198537004233666266150132 2048=true:=by decide +kernel
theorem wk3:goU 314379914072750776175968446003616356708 130220424146621615521356287373662035415 1024 325629922445073537381874007154866693371 98778757057029163154891549979681820108 3072=true:=by decide +kernel
theorem wk4:goU 300102255270364911803307903246760032214 160407997365957196655387116525924829546 1024 314379914072750776175968446003616356708 130220424146621615521356287373662035415 4096=true:=by decide +kernel
theorem wk5:goU 282934447697145148265594844368147524013 189050753882727566157415671255032869469 1024 300102255270364911803307903246760032214 160407997365957196655387116525924829546 5120=true:=by decide +kernel
theorem wk6:goU 263041826724899848421390153308517431640 215872848293952797667059038248426017122 1024 282934447697145148265594844368147524013 189050753882727566157415671255032869469 6144=true:=by decide +kernel
theorem wk7:goU 240615969168004511545033772483698474358 240615969168004511545033772471550468243 1024 263041826724899848421390153308517431640 215872848293952797667059038248426017122 7168=true:=by decide +kernel
theorem wk8:goD 215872848293952797667059038261706108609 263041826724899848421390153297618474197 1024 240615969168004511545033772483698474358 240615969168004511545033772471550468243 8192=true:=by decide +kernel
theorem wk9:goD 189050753882727566157415671269317183057 282934447697145148265594844358602552466 1024 215872848293952797667059038261706108609 263041826724899848421390153297618474197 7168=true:=by decide +kernel
theorem wk10:goD 160407997365957196655387116541075833093 300102255270364911803307903238660947340 1024 189050753882727566157415671269317183057 282934447697145148265594844358602552466 6144=true:=by decide +kernel
theorem wk11:goD 130220424146621615521356287389533852184 314379914072750776175968445997041138024 1024 160407997365957196655387116541075833093 300102255270364911803307903238660947340 5120=true:=by decide +kernel
theorem wk12:goD 98778757057029163154891549996121633199 325629922445073537381874007149878648288 1024 130220424146621615521356287389533852184 314379914072750776175968445997041138024 4096=true:=by decide +kernel
theorem wk13:goD 66385796539016198537004233683115673837 333743936656827580393945988190765036869 1024 98778757057029163154891549996121633199 325629922445073537381874007149878648288 3072=true:=by decide +kernel
theorem wk14:goD 33353504510164655995148692950443506845 338643814315582355912937410982271427247 1024 66385796539016198537004233683115673837 333743936656827580393945988190765036869 2048=true:=by decide +kernel
theorem wk15:goD 17179870747 340282366920938463463374607431766555032 1024 33353504510164655995148692950443506845 338643814315582355912937410982271427247 1024=true:=by decide +kernel
theorem ws0:w 0=(340282366920938463463374607431768211456,0):=rfl
theorem ws1:w 1024=(338643814315582355912937410983956791763,33353504510164655995148692933346502990):=(qZY 1024 _ _ 0 wk0 ws0).1
theorem ws2:w 2048=(333743936656827580393945988194117882553,66385796539016198537004233666266150132):=(qZY 1024 _ _ 1024 wk1 ws1).1
theorem ws3:w 3072=(325629922445073537381874007154866693371,98778757057029163154891549979681820108):=(qZY 1024 _ _ 2048 wk2 ws2).1
theorem ws4:w 4096=(314379914072750776175968446003616356708,130220424146621615521356287373662035415):=(qZY 1024 _ _ 3072 wk3 ws3).1
theorem ws5:w 5120=(300102255270364911803307903246760032214,160407997365957196655387116525924829546):=(qZY 1024 _ _ 4096 wk4 ws4).1
theorem ws6:w 6144=(282934447697145148265594844368147524013,189050753882727566157415671255032869469):=(qZY 1024 _ _ 5120 wk5 ws5).1
theorem ws7:w 7168=(263041826724899848421390153308517431640,215872848293952797667059038248426017122):=(qZY 1024 _ _ 6144 wk6 ws6).1
theorem ws8:w 8192=(240615969168004511545033772483698474358,240615969168004511545033772471550468243):=(qZY 1024 _ _ 7168 wk7 ws7).1
theorem ws9:w 9216=(215872848293952797667059038261706108609,263041826724899848421390153297618474197):=(qZG 1024 _ _ 8192 (by decide) (by decide) wk8 ws8).1
theorem ws10:w 10240=(189050753882727566157415671269317183057,282934447697145148265594844358602552466):=(qZG 1024 _ _ 9216 (by decide) (by decide) wk9 ws9).1
theorem ws11:w 11264=(160407997365957196655387116541075833093,300102255270364911803307903238660947340):=(qZG 1024 _ _ 10240 (by decide) (by decide) wk10 ws10).1
theorem ws12:w 12288=(130220424146621615521356287389533852184,314379914072750776175968445997041138024):=(qZG 1024 _ _ 11264 (by decide) (by decide) wk11 ws11).1
theorem ws13:w 13312=(98778757057029163154891549996121633199,325629922445073537381874007149878648288):=(qZG 1024 _ _ 12288 (by decide) (by decide) wk12 ws12).1
theorem ws14:w 14336=(66385796539016198537004233683115673837,333743936656827580393945988190765036869):=(qZG 1024 _ _ 13312 (by decide) (by decide) wk13 ws13).1
theorem ws15:w 15360=(33353504510164655995148692950443506845,338643814315582355912937410982271427247):=(qZG 1024 _ _ 14336 (by decide) (by decide) wk14 ws14).1
theorem boxU {r:Nat} (h:r < 8192):BoxU r:=by
 have hq:(0≤r∧r < 1024) ∨ (1024≤r∧r < 2048) ∨ (2048≤r∧r < 3072) ∨ (3072≤r∧r < 4096) ∨ (4096≤r∧r < 5120) ∨ (5120≤r∧r < 6144) ∨ (6144≤r∧r < 7168) ∨ (7168≤r∧r < 8192):=by omega
 rcases hq with h | h | h | h | h | h | h | h
 ·exact (qZY 1024 _ _ 0 wk0 ws0).2 r h.1 h.2
 ·exact (qZY 1024 _ _ 1024 wk1 ws1).2 r h.1 h.2
 ·exact (qZY 1024 _ _ 2048 wk2 ws2).2 r h.1 h.2
 ·exact (qZY 1024 _ _ 3072 wk3 ws3).2 r h.1 h.2
 ·exact (qZY 1024 _ _ 4096 wk4 ws4).2 r h.1 h.2
 ·exact (qZY 1024 _ _ 5120 wk5 ws5).2 r h.1 h.2
 ·exact (qZY 1024 _ _ 6144 wk6 ws6).2 r h.1 h.2
 ·exact (qZY 1024 _ _ 7168 wk7 ws7).2 r h.1 h.2
theorem boxD {r:Nat} (g:8192≤r) (h:r < 16384):BoxD r:=by
 have hq:(8192≤r∧r < 9216) ∨ (9216≤r∧r < 10240) ∨ (10240≤r∧r < 11264) ∨ (11264≤r∧r < 12288) ∨ (12288≤r∧r < 13312) ∨ (13312≤r∧r < 14336) ∨ (14336≤r∧r < 15360) ∨ (15360≤r∧r < 16384):=by omega
 rcases hq with h | h | h | h | h | h | h | h
 ·exact (qZG 1024 _ _ 8192 (by decide) (by decide) wk8 ws8).2 r h.1 h.2
 ·exact (qZG 1024 _ _ 9216 (by decide) (by decide) wk9 ws9).2 r h.1 h.2
 ·exact (qZG 1024 _ _ 10240 (by decide) (by decide) wk10 ws10).2 r h.1 h.2
 ·exact (qZG 1024 _ _ 11264 (by decide) (by decide) wk11 ws11).2 r h.1 h.2
 ·exact (qZG 1024 _ _ 12288 (by decide) (by decide) wk12 ws12).2 r h.1 h.2
 ·exact (qZG 1024 _ _ 13312 (by decide) (by decide) wk13 ws13).2 r h.1 h.2
 ·exact (qZG 1024 _ _ 14336 (by decide) (by decide) wk14 ws14).2 r h.1 h.2
 ·exact (qZG 1024 _ _ 15360 (by decide) (by decide) wk15 ws15).2 r h.1 h.2
theorem mid0:(jUZ 8192 fun a b c d=>bx 240615969168004511545033772471550468243 240615969168004511545033772483698474358 a b c d)=true:=by decide +kernel
theorem mid:sLo 8192 * uu≤(w 8192).2∧(w 8192).2≤sHi 8192 * uu:=by
 have:=mid0
 simp only [zGE,bx,vQJ] at this;rw [ws8];exact ⟨vZX this.1,vZX this.2.1⟩
theorem box {r:Nat} (h:r < 16384):fLo r * uu≤(w r).2∧(w r).2≤fHi r * uu∧fLo (16384 - r) * uu≤(w r).1∧(w r).1≤fHi (16384 - r) * uu:=by
 rcases Nat.lt_or_ge r 8192 with h1 | h1
 ·have b:=boxU h1;rw [(zGX (r:=r) (by omega)).1,(zGX (r:=r) (by omega)).2,(jZV (r:=16384 - r) (by omega)).1,(jZV (r:=16384 - r) (by omega)).2,show 16384 - (16384 - r)=r by omega];exact ⟨b.sl,b.sh,b.cl,b.ch⟩
 ·have b:=boxD h1 h;rw [(zGX (r:=16384 - r) (by omega)).1,(zGX (r:=16384 - r) (by omega)).2];rcases Nat.lt_or_ge 8192 r with h2 | h2
  ·rw [(jZV (r:=r) (by omega)).1,(jZV (r:=r) (by omega)).2];exact ⟨b.cl,b.ch,b.sl,b.sh⟩
  ·have e:r=8192:=by omega
   subst e;rw [(zGX (r:=8192) (by omega)).1,(zGX (r:=8192) (by omega)).2];have k:=mid;exact ⟨k.1,k.2,b.sl,b.sh⟩
end Go.Sx
namespace Go.Sx
def WC (r:Nat):Int:=((w r).1:Int)
def WT (r:Nat):Int:=((w r).2:Int)
theorem w0:WC 0=(340282366920938463463374607431768211456:Int)∧WT 0=0:=⟨rfl,rfl⟩
theorem zYC {x y A B:Int} (_: -A≤x∧x≤A) (_: -B≤y∧y≤B) : -(A * B)≤x * y∧x * y≤A * B:=by
 have h1:x.natAbs * y.natAbs≤A.toNat * B.toNat:=Nat.mul_le_mul (by omega) (by omega);have h2:(x * y).natAbs=x.natAbs * y.natAbs:=Int.natAbs_mul x y;rw [← h2] at h1;have h3:((A.toNat * B.toNat:Nat):Int)=A * B:=by rw [Int.natCast_mul,Int.toNat_of_nonneg (by omega),Int.toNat_of_nonneg (by omega)]
 omega
end Go.Sx
namespace Go.Sx
structure In (I:Iv) (m x:Int):Prop where
 lo:I.lo * m≤x
 hi:x≤I.hi * m
def Ok (a:Iv):Prop:=-2147483648≤a.lo∧a.lo≤a.hi∧a.hi≤2147483648
theorem bil {lo hi x:Int} (y:Int) (h1:lo≤x) (h2:x≤hi):(lo * y≤x * y ∨ hi * y≤x * y)∧(x * y≤lo * y ∨ x * y≤hi * y):=by
 rcases Int.le_total 0 y with h | h
 ·exact ⟨.inl (Int.mul_le_mul_of_nonneg_right h1 h),.inr (Int.mul_le_mul_of_nonneg_right h2 h)⟩
 ·exact ⟨.inr (Int.mul_le_mul_of_nonpos_right h2 h),.inl (Int.mul_le_mul_of_nonpos_right h1 h)⟩
theorem jZC {z M v:Int} (hM:0≤M) (h:z * M≤v) (hb : -2147483648 * M≤v):qQK z * M≤v:=by
 unfold qQK;rcases Int.le_total z (-2147483648) with h1 | h1
 ·rw [show min (max z (-2147483648)) 2147483648 = -2147483648 by omega]; exact hb
 ·refine Int.le_trans (Int.mul_le_mul_of_nonneg_right ?_ hM) h;omega
theorem jZD {z M v:Int} (hM:0≤M) (h:v≤z * M) (hb:v≤2147483648 * M):v≤qQK z * M:=by
 unfold qQK;rcases Int.le_total 2147483648 z with h1 | h1
 ·rw [show min (max z (-2147483648)) 2147483648=2147483648 by omega]; exact hb
 ·refine Int.le_trans h (Int.mul_le_mul_of_nonneg_right ?_ hM);omega
theorem qHI {a b:Iv} {m k x y:Int} (hm:0≤m) (hk:0≤k) (hx:In a m x) (hy:In b k y) :
  min4 (a.lo * b.lo) (a.lo * b.hi) (a.hi * b.lo) (a.hi * b.hi) * (m * k)≤x * y∧x * y≤max4 (a.lo * b.lo) (a.lo * b.hi) (a.hi * b.lo) (a.hi * b.hi) * (m * k):=by
 have hmk:0≤m * k:=Int.mul_nonneg hm hk;have b1:=bil y hx.lo hx.hi;have b2:=bil (a.lo * m) hy.lo hy.hi;have b3:=bil (a.hi * m) hy.lo hy.hi;rw [show b.lo * k * (a.lo * m)=a.lo * b.lo * (m * k) by grind,show b.hi * k * (a.lo * m)=a.lo * b.hi * (m * k) by grind,Int.mul_comm y] at b2;rw [show b.lo * k * (a.hi * m)=a.hi * b.lo * (m * k) by grind,show b.hi * k * (a.hi * m)=a.hi * b.hi * (m * k) by grind,Int.mul_comm y] at b3;have l1:min4 (a.lo * b.lo) (a.lo * b.hi) (a.hi * b.lo) (a.hi * b.hi) * (m * k)≤a.lo * b.lo * (m * k):=Int.mul_le_mul_of_nonneg_right (by unfold min4; omega) hmk;have l2:min4 (a.lo * b.lo) (a.lo * b.hi) (a.hi * b.lo) (a.hi * b.hi) * (m * k)≤a.lo * b.hi * (m * k):=Int.mul_le_mul_of_nonneg_right (by unfold min4; omega) hmk;have l3:min4 (a.lo * b.lo) (a.lo * b.hi) (a.hi * b.lo) (a.hi * b.hi) * (m * k)≤a.hi * b.lo * (m * k):=Int.mul_le_mul_of_nonneg_right (by unfold min4; omega) hmk;have l4:min4 (a.lo * b.lo) (a.lo * b.hi) (a.hi * b.lo) (a.hi * b.hi) * (m * k)≤a.hi * b.hi * (m * k):=Int.mul_le_mul_of_nonneg_right (by unfold min4; omega) hmk;have u1:a.lo * b.lo * (m * k)≤max4 (a.lo * b.lo) (a.lo * b.hi) (a.hi * b.lo) (a.hi * b.hi) * (m * k):=Int.mul_le_mul_of_nonneg_right (by unfold max4; omega) hmk;have u2:a.lo * b.hi * (m * k)≤max4 (a.lo * b.lo) (a.lo * b.hi) (a.hi * b.lo) (a.hi * b.hi) * (m * k):=Int.mul_le_mul_of_nonneg_right (by unfold max4; omega) hmk;have u3:a.hi * b.lo * (m * k)≤max4 (a.lo * b.lo) (a.lo * b.hi) (a.hi * b.lo) (a.hi * b.hi) * (m * k):=Int.mul_le_mul_of_nonneg_right (by unfold max4; omega) hmk;have u4:a.hi * b.hi * (m * k)≤max4 (a.lo * b.lo) (a.lo * b.hi) (a.hi * b.lo) (a.hi * b.hi) * (m * k):=Int.mul_le_mul_of_nonneg_right (by unfold max4; omega) hmk;omega
theorem jGH {a b:Iv} {m k x y:Int} (va:Ok a) (vb:Ok b) (hm:0≤m) (hk:0≤k) (hx:In a m x) (hy:In b k y) (h1 : -2147483648 * (65536 * (m * k))≤x * y) (h2:x * y≤2147483648 * (65536 * (m * k))):In (Iv.mul a b) (65536 * (m * k)) (x * y):=by
 obtain ⟨p1,p2⟩:=qHI hm hk hx hy;have hmk:0≤m * k:=Int.mul_nonneg hm hk;simp only [Iv.mul,qZX va,qZX vb,vZJ,vYV];generalize min4 (a.lo * b.lo) (a.lo * b.hi) (a.hi * b.lo) (a.hi * b.hi)=L at *;generalize max4 (a.lo * b.lo) (a.lo * b.hi) (a.hi * b.lo) (a.hi * b.hi)=M at *;have hc:=qVH (a:=M) (b:=65536) (by decide);refine ⟨jZC (by omega) ?_ h1,jZD (by omega) ?_ h2⟩
 ·rw [← Int.mul_assoc];exact Int.le_trans (Int.mul_le_mul_of_nonneg_right (by omega) hmk) p1
 ·rw [← Int.mul_assoc];exact Int.le_trans p2 (Int.mul_le_mul_of_nonneg_right (by omega) hmk)
theorem zQB (z:Int) : -2147483648≤qQK z∧qQK z≤2147483648:=by unfold qQK; omega
theorem zYB {x y:Int} (_:x≤y):qQK x≤qQK y:=by unfold qQK; omega
theorem zVI (a b:Iv):Ok (Iv.mul a b):=by
 unfold Iv.mul;cases a.valid && b.valid
 ·exact (show Ok ⟨0,0⟩ by unfold Ok; decide)
 ·refine ⟨(zQB _).1,zYB ?_,(zQB _).2⟩;have hc:=qVH (a:=max4 (a.lo * b.lo) (a.lo * b.hi) (a.hi * b.lo) (a.hi * b.hi)) (b:=65536) (by decide)
  have:min4 (a.lo * b.lo) (a.lo * b.hi) (a.hi * b.lo) (a.hi * b.hi)≤max4 (a.lo * b.lo) (a.lo * b.hi) (a.hi * b.lo) (a.hi * b.hi):=by unfold min4 max4; omega
  omega
theorem xHD (a b:Iv):Ok (Iv.add a b):=by
 unfold Iv.add;cases h:a.valid && b.valid
 ·exact (show Ok ⟨0,0⟩ by unfold Ok; decide)
 ·refine ⟨(zQB _).1,zYB ?_,(zQB _).2⟩;simp [Iv.valid] at h; omega
theorem yUU {a b:Iv} {m x y:Int} (va:Ok a) (vb:Ok b) (hm:0≤m) (hx:In a m x) (hy:In b m y) (h1 : -2147483648 * m≤x + y) (h2:x + y≤2147483648 * m):In (Iv.add a b) m (x + y):=by
 have q1:=hx.lo; have q2:=hx.hi; have q3:=hy.lo; have q4:=hy.hi;simp only [Iv.add,qZX va,qZX vb,vZJ,vYV];refine ⟨jZC hm ?_ h1,jZD hm ?_ h2⟩
 ·rw [Int.add_mul]; omega
 ·rw [Int.add_mul]; omega
end Go.Sx
namespace Go.Sx
structure V3 where
 x:Iv
 y:Iv
 z:Iv
structure M3 where
 x:V3
 y:V3
 z:V3
structure Po where
 r:M3
 t:V3
structure Z3 where
 x:Int
 y:Int
 z:Int
def v3 (v:V3):Value:=.agg #[.int .i64 v.x.lo,.int .i64 v.x.hi,.int .i64 v.y.lo,.int .i64 v.y.hi,.int .i64 v.z.lo,.int .i64 v.z.hi]
def m3 (v:M3):Value:=.agg #[.int .i64 v.x.x.lo,.int .i64 v.x.x.hi,.int .i64 v.x.y.lo,.int .i64 v.x.y.hi,.int .i64 v.x.z.lo,.int .i64 v.x.z.hi,
 .int .i64 v.y.x.lo,.int .i64 v.y.x.hi,.int .i64 v.y.y.lo,.int .i64 v.y.y.hi,.int .i64 v.y.z.lo,.int .i64 v.y.z.hi,
 .int .i64 v.z.x.lo,.int .i64 v.z.x.hi,.int .i64 v.z.y.lo,.int .i64 v.z.y.hi,.int .i64 v.z.z.lo,.int .i64 v.z.z.hi]
def po (p:Po):Value:=.agg #[.int .i64 p.r.x.x.lo,.int .i64 p.r.x.x.hi,.int .i64 p.r.x.y.lo,.int .i64 p.r.x.y.hi,.int .i64 p.r.x.z.lo,.int .i64 p.r.x.z.hi,
 .int .i64 p.r.y.x.lo,.int .i64 p.r.y.x.hi,.int .i64 p.r.y.y.lo,.int .i64 p.r.y.y.hi,.int .i64 p.r.y.z.lo,.int .i64 p.r.y.z.hi,
 .int .i64 p.r.z.x.lo,.int .i64 p.r.z.x.hi,.int .i64 p.r.z.y.lo,.int .i64 p.r.z.y.hi,.int .i64 p.r.z.z.lo,.int .i64 p.r.z.z.hi,
 .int .i64 p.t.x.lo,.int .i64 p.t.x.hi,.int .i64 p.t.y.lo,.int .i64 p.t.y.hi,.int .i64 p.t.z.lo,.int .i64 p.t.z.hi]
def V3.of (p:Z3):V3:=⟨Iv.of p.x,Iv.of p.y,Iv.of p.z⟩
def V3.add (a b:V3):V3:=⟨Iv.add a.x b.x,Iv.add a.y b.y,Iv.add a.z b.z⟩
def V3.sub (a b:V3):V3:=⟨Iv.sub a.x b.x,Iv.sub a.y b.y,Iv.sub a.z b.z⟩
def V3.neg (a:V3):V3:=⟨Iv.neg a.x,Iv.neg a.y,Iv.neg a.z⟩
def V3.dot (a b:V3):Iv:=Iv.add (Iv.add (Iv.mul a.x b.x) (Iv.mul a.y b.y)) (Iv.mul a.z b.z)
def M3.apply (m:M3) (v:V3):V3:=⟨V3.dot m.x v,V3.dot m.y v,V3.dot m.z v⟩
def limI (x:Int):Int:=min (max x (-65536)) 65536
def limV (a:Iv):Iv:=⟨limI a.lo,limI a.hi⟩
def M3.tr (m:M3):M3:=⟨⟨m.x.x,m.y.x,m.z.x⟩,⟨m.x.y,m.y.y,m.z.y⟩,⟨m.x.z,m.y.z,m.z.z⟩⟩
def M3.row (a:V3) (b:M3):V3:=⟨limV (V3.dot a b.tr.x),limV (V3.dot a b.tr.y),limV (V3.dot a b.tr.z)⟩
def M3.mul (a b:M3):M3:=⟨M3.row a.x b,M3.row a.y b,M3.row a.z b⟩
def iv0:Iv:=⟨0,0⟩
def iv1:Iv:=⟨65536,65536⟩
def M3.unit:M3:=⟨⟨iv1,iv0,iv0⟩,⟨iv0,iv1,iv0⟩,⟨iv0,iv0,iv1⟩⟩
def M3.zero:M3:=⟨⟨iv0,iv0,iv0⟩,⟨iv0,iv0,iv0⟩,⟨iv0,iv0,iv0⟩⟩
def M3.turn (axis:Int) (a:Iv):M3:=bif !a.valid then M3.zero else
 bif decide (axis=0) then ⟨⟨iv1,iv0,iv0⟩,⟨iv0,kH a,Iv.neg (kG a)⟩,⟨iv0,kG a,kH a⟩⟩ else
 bif decide (axis=1) then ⟨⟨kH a,iv0,kG a⟩,⟨iv0,iv1,iv0⟩,⟨Iv.neg (kG a),iv0,kH a⟩⟩ else
 bif decide (axis=2) then ⟨⟨kH a,Iv.neg (kG a),iv0⟩,⟨kG a,kH a,iv0⟩,⟨iv0,iv0,iv1⟩⟩ else M3.zero
theorem uZA:Iv.of 65536=iv1:=by kernel_rfl
theorem jVG:Iv.of 0=iv0:=by kernel_rfl
theorem zJH (a b:Iv):Iv.add ⟨0,0⟩ (Iv.mul a b)=Iv.mul a b:=by
 have h:=zVI a b;have hz:Iv.valid ⟨0,0⟩=true:=by decide
 simp only [Iv.add,hz,qZX h,vZJ,vYV,Int.zero_add];unfold Ok at h;rw [qZE (by omega),qZE (by omega)]
theorem uGW (x:Int):max (-65536) (min x 65536)=limI x:=by unfold limI; omega
end Go.Sx
namespace Go.Sx
def V3.zero:V3:=⟨iv0,iv0,iv0⟩
def Po.shift (v:V3):Po:=⟨M3.unit,v⟩
def Po.rest:Po:=⟨M3.unit,V3.zero⟩
def Po.turn (axis:Int) (a:Iv):Po:=⟨M3.turn axis a,V3.zero⟩
def Po.app (p:Po) (v:V3):V3:=V3.add p.t (M3.apply p.r v)
def Po.mul (p q:Po):Po:=⟨M3.mul p.r q.r,Po.app p q.t⟩
def Po.inv (p:Po):Po:=⟨M3.tr p.r,V3.neg (M3.apply (M3.tr p.r) p.t)⟩
end Go.Sx
namespace Go.Sx
structure J where
 name:ByteArray
 kind:Int
 parent:Int
 off:Z3
 lo:Int
 hi:Int
 weight:Int
 speed:Int
 accel:Int
 torque:Int
def jc (j:J):List Value:=[.string j.name,.int .i64 j.kind,.int .i64 j.parent,.int .i64 j.off.x,.int .i64 j.off.y,.int .i64 j.off.z,.int .i64 j.lo,.int .i64 j.hi,.int .i64 j.weight,.int .i64 j.speed,.int .i64 j.accel,.int .i64 j.torque]
structure Ms where
 link:Int
 mass:Int
 p:Z3
def mc (m:Ms):List Value:=[.int .i64 m.link,.int .i64 m.mass,.int .i64 m.p.x,.int .i64 m.p.y,.int .i64 m.p.z]
structure Sp where
 link:Int
 radius:Int
 pts:List Z3
end Go.Sx
namespace Go.Sx
def ivc (v:Iv):List Value:=[.int .i64 v.lo,.int .i64 v.hi]
def ivC (rows:List Iv):List Value:=(rows.map ivc).flatten
theorem fZC (l:List Iv):∀ r ∈ l.map ivc,r.length=2:=fun r hr=>by
 obtain ⟨v,_,rfl⟩:=List.mem_map.1 hr;rfl
end Go.Sx
namespace Go.Sx
section
variable {P:Program} {w0:Base} {S:yV} {H:Heap} {d:Option Tmp} {ty:TypeId} {pos:String} {af:Array Edge} {g:Option (Nat × Bool)}
end
def V3.put (k:Int) (a:Iv):V3:=if k=0 then ⟨a,iv0,iv0⟩ else if k=1 then ⟨iv0,a,iv0⟩ else ⟨iv0,iv0,a⟩
def jMot (k:Int) (a:Iv):Po:=if k=1 ∨ k=2 ∨ k=3 then Po.turn (k - 1) a else if k=4 ∨ k=5 ∨ k=6 then Po.shift (V3.put (k - 4) a) else Po.rest
theorem uZL {k:Int} {a:Iv} (h:k=4 ∨ k=5 ∨ k=6):jMot k a=Po.shift (V3.put (k - 4) a):=by
 have h2:¬ (k=1 ∨ k=2 ∨ k=3):=by omega
 unfold jMot; rw [if_neg h2,if_pos h]
def zJA (k:Int) (o:Z3) (a:Iv):Po:=Po.mul (Po.shift (V3.of o)) (jMot k a)
end Go.Sx
namespace Go.Sx
def pc (p:Po):List Value:=[.int .i64 p.r.x.x.lo,.int .i64 p.r.x.x.hi,.int .i64 p.r.x.y.lo,.int .i64 p.r.x.y.hi,.int .i64 p.r.x.z.lo,.int .i64 p.r.x.z.hi,.int .i64 p.r.y.x.lo,.int .i64 p.r.y.x.hi,.int .i64 p.r.y.y.lo,.int .i64 p.r.y.y.hi,.int .i64 p.r.y.z.lo,.int .i64 p.r.y.z.hi,.int .i64 p.r.z.x.lo,.int .i64 p.r.z.x.hi,.int .i64 p.r.z.y.lo,.int .i64 p.r.z.y.hi,.int .i64 p.r.z.z.lo,.int .i64 p.r.z.z.hi,.int .i64 p.t.x.lo,.int .i64 p.t.x.hi,.int .i64 p.t.y.lo,.int .i64 p.t.y.hi,.int .i64 p.t.z.lo,.int .i64 p.t.z.hi]
def zRow:List Value:=List.replicate 24 (.int .i64 0)
def lkP (ps:List Po) (j:J) (a:Iv):Po:=if j.parent = -1 then zJA j.kind j.off a else Po.mul (ps.getD j.parent.toNat Po.rest) (zJA j.kind j.off a)
def lks (js:List J) (bx:List Iv):Nat→List Po
 | 0=>[]
 | k + 1=>match js[k]?,bx[k]? with
  | some j,some a=>lks js bx k ++ [lkP (lks js bx k) j a]
  | _,_=>lks js bx k
theorem zKX {js:List J} {bx:List Iv} {k:Nat} {j:J} {a:Iv} (h1:js[k]? = some j) (h2:bx[k]? = some a):lks js bx (k + 1)=lks js bx k ++ [lkP (lks js bx k) j a]:=by
 simp only [lks,h1,h2]
def lkR (ps:List Po) (m:Nat):List (List Value):=ps.map pc ++ List.replicate m zRow
theorem uGX {ps:List Po} {m:Nat} (v:List Value):(lkR ps (m + 1)).set ps.length v=ps.map pc ++ v :: List.replicate m zRow:=by
 unfold lkR;rw [List.set_append_right _ _ (by simp)];simp [List.replicate_succ]
theorem kGY {ps:List Po} {m:Nat} (u v:List Value):(ps.map pc ++ u :: List.replicate m zRow).set ps.length v=ps.map pc ++ v :: List.replicate m zRow:=by
 rw [List.set_append_right _ _ (by simp)]
 simp
theorem jZQ {ps:List Po} {m:Nat} (p:Po):ps.map pc ++ pc p :: List.replicate m zRow=lkR (ps ++ [p]) m:=by
 unfold lkR
 simp
theorem uZI {ps:List Po} {m i:Nat} {u:List Value} (h:i < ps.length):(ps.map pc ++ u :: List.replicate m zRow)[i]? = some (pc (ps.getD i Po.rest)):=by
 rw [List.getElem?_append_left (by simpa using h),vZY];simp [vZG,h]
theorem jHQ {ps:List Po} {m:Nat} {u:List Value}:(ps.map pc ++ u :: List.replicate m zRow)[ps.length]? = some u:=by
 rw [List.getElem?_append_right (by simp)]
 simp
end Go.Sx

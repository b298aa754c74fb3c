/- Part 18 of the texts behind the last one: rules and contracts. No condition. -/
import Derived.Test.YtklmegnpfhiibaaGreatBU17
open Option renaming bind_eq_some_iff → vQQ, bind_some → vZV
open Option.some renaming injEq → vQZ
open Bool renaming and_eq_true → vQJ
open List renaming getElem?_eq_getElem → vQK, getElem?_map → vQH, getD_eq_getElem?_getD → vZX
open Nat renaming eq_of_beq_eq_true → vQU
open Classical renaming propDecidable → vYQ
namespace Go.Rx
open Go.RowKit Go.Sx
abbrev Cont:=Ex→St→Option (Ret × Mem)
abbrev yW:=St→Cont→Option (Ret × Mem)
def qQK:Nat→Code→Code
 | 0,.seq x _=>x
 | _ + 1,.seq _ y=>y
 | 0,.cond _ x _=>x
 | _ + 1,.cond _ _ y=>y
 | _,.block _ x=>x
 | _,.scope x=>x
 | _,.loop x=>x
 | _,c=>c
def kJ (B:Code):List Nat→Code
 | []=>B
 | i :: p=>qQK i (kJ B p)
def zJY:List Nat→List Nat→Bool
 | [],[]=>true
 | x :: xs,y :: ys=>Nat.beq x y && zJY xs ys
 | _,_=>false
theorem zZL:∀ {p q:List Nat},zJY p q=true→p=q
 | [],[],_=>rfl
 | x :: xs,y :: ys,h=>by
  simp only [zJY,vQJ] at h;rw [vQU h.1,zZL h.2]
 | [],_ :: _,h=>by cases h
 | _ :: _,[],h=>by cases h
def LF (N:Nat) (C:Cx) (cK:qYV) (x:Code) (h:Hint) (K:Cont):Nat→St→Option (Ret × Mem)
 | 0,_=>none
 | n + 1,σ=>qKQ N C cK x (fun e τ=>match e with
   | .normal=>LF N C cK x h K n (qYQ h τ)
   | e=>K e (qZJ h τ)) σ
def zXH (N:Nat) (C:Cx) (cK:qYV) (x:Code) (S:yW):Prop:=∀ K σ r,S σ K=some r→LF N C cK x (C.T.hint C.me (zJ x)) K N σ=some r
theorem loopN_LF {N:Nat} {C:Cx} {cK:qYV} {x:Code} {h:Hint} {K:Cont}:∀ (n:Nat) (σ:St),qVQ (fun again σ=>qKQ N C cK x (fun e σ=>match e with
   | .normal=>again σ
   | e=>K e (qZJ h σ)) (qYQ h σ)) n σ=LF N C cK x h K n (qYQ h σ)
 | 0,_=>rfl
 | n + 1,σ=>by
  simp only [qVQ,LF]
  congr 1
  funext e τ;cases e with
  | normal=>exact loopN_LF n τ
  | _=>rfl
def qGJ (N:Nat) (C:Cx) (cK:qYV) (LO:List Nat→Option yW):Code→List Nat→Cont→St→Option (Ret × Mem)
 | .skip,_,K,σ=>K .normal σ
 | .label _,_,K,σ=>K .normal σ
 | .scope x,p,K,σ=>qGJ N C cK LO x (0 :: p) K σ
 | .ret,_,K,σ=>K .ret σ
 | .exit id,_,K,σ=>K (.exit id) σ
 | .region id ops d,_,K,σ=>preK C id (fun σ=>bif d then qWB C cK ops 0 ops.toList [] (K .normal) σ else zZH C cK ops ops.toList (K .normal) σ) σ
 | .seq x y,p,K,σ=>qGJ N C cK LO x (0 :: p) (fun e σ=>match e with
   | .normal=>qGJ N C cK LO y (1 :: p) K σ
   | e=>K e σ) σ
 | .cond c x y,p,K,σ=>(opv 1 σ c).bind fun v=>match v with
   | .v (.b t)=>bif t then qGJ N C cK LO x (0 :: p) K σ else qGJ N C cK LO y (1 :: p) K σ
   | _=>none
 | .block id x,p,K,σ=>qGJ N C cK LO x (0 :: p) (fun e σ=>match e with
   | .exit id'=>bif Nat.beq id' id then K .normal σ else K (.exit id') σ
   | e=>K e σ) σ
 | .loop x,p,K,σ=>match LO p with
   | some S=>S (qYQ (C.T.hint C.me (zJ x)) σ) K
   | none=>qVQ (fun again σ=>qKQ N C cK x (fun e σ=>match e with
     | .normal=>again σ
     | e=>K e (qZJ (C.T.hint C.me (zJ x)) σ)) (qYQ (C.T.hint C.me (zJ x)) σ)) N σ
 | _,_,_,_=>none
section
variable {C:Cx} {cK:qYV} {r:Ret × Mem} {K0:Ret × Mem→Option (Ret × Mem)}
theorem qJJ {N:Nat} {LO:List Nat→Option yW} {B:Code} (hc:SndK C cK) (hL:∀ p S,LO p=some S→zXH N C cK (qQK 0 (kJ B p)) S):∀ (c:Code) (p:List Nat) {K K':Cont} (hp:kJ B p=c) (hK:∀ e σ,K e σ=some r→Gets K0 r (K' e σ)) (σ:St),qGJ N C cK LO c p K σ=some r→Gets K0 r (runC N C c K' σ)
 | .skip,p,K,K',hp,hK,σ,h=>hK _ _ h
 | .label _,p,K,K',hp,hK,σ,h=>hK _ _ h
 | .scope x,p,K,K',hp,hK,σ,h=>qJJ hc hL x (0 :: p) (by simp only [kJ,hp,qQK]) hK σ h
 | .ret,p,K,K',hp,hK,σ,h=>hK _ _ h
 | .exit id,p,K,K',hp,hK,σ,h=>hK _ _ h
 | .region id ops d,p,K,K',hp,hK,σ,h=>by
  have h:=preK_eq.symm.trans h;refine Eq.mpr (congrArg (Gets K0 r) (preK_eq (F:=fun σ=>bif d then qZL C ops 0 ops.toList [] (K' .normal) σ else qXI C ops ops.toList (K' .normal) σ))) ?_;cases d with
  | true=>exact qJL hc (hK .normal) _ _ _ _ h
  | false=>exact qUV hc (hK .normal) _ _ h
 | .seq x y,p,K,K',hp,hK,σ,h=>by
  refine qJJ hc hL x (0 :: p) (by simp only [kJ,hp,qQK]) (fun e τ hk => ?_) σ h;cases e with
  | normal=>exact qJJ hc hL y (1 :: p) (by simp only [kJ,hp,qQK]) hK τ hk
  | _=>exact hK _ _ hk
 | .cond c x y,p,K,K',hp,hK,σ,h=>by
  simp only [qGJ,vQQ] at h;obtain ⟨v,hv,h⟩:=h;simp only [runC,hv,vZV];split at h
  ·rename_i t;cases t with
   | true=>exact qJJ hc hL x (0 :: p) (by simp only [kJ,hp,qQK]) hK σ h
   | false=>exact qJJ hc hL y (1 :: p) (by simp only [kJ,hp,qQK]) hK σ h
  ·cases h
 | .block id x,p,K,K',hp,hK,σ,h=>by
  refine qJJ hc hL x (0 :: p) (by simp only [kJ,hp,qQK]) (fun e τ hk => ?_) σ h;cases e with
  | exit id' =>
   simp only at hk ⊢;cases hb:Nat.beq id' id with
   | true=>rw [hb] at hk; exact hK _ _ hk
   | false=>rw [hb] at hk; exact hK _ _ hk
  | _=>exact hK _ _ hk
 | .loop x,p,K,K',hp,hK,σ,h=>by
  simp only [qGJ] at h;simp only [runC];have h':qVQ (fun again σ=>qKQ N C cK x (fun e σ=>match e with
     | .normal=>again σ
     | e=>K e (qZJ (C.T.hint C.me (zJ x)) σ)) (qYQ (C.T.hint C.me (zJ x)) σ)) N σ=some r:=by
   cases hS:LO p with
   | none=>rw [hS] at h; exact h
   | some S =>
    rw [hS] at h
    have:=hL p S hS
    rw [hp] at this;rw [loopN_LF];exact this K _ r h
  refine qXZ (fun a a' ha τ hs => ?_) N σ h';refine qQI hc x (fun e υ hk => ?_) _ hs;cases e with
  | normal=>exact ha _ hk
  | _=>exact hK _ _ hk
 | .rangeFunc ..,p,K,K',hp,hK,σ,h=>by cases h
 | .goto _,p,K,K',hp,hK,σ,h=>by cases h
 | .refuse _,p,K,K',hp,hK,σ,h=>by cases h
end
def cxF (T:Tab) (ok:OrK) (N f n:Nat):Cx:=⟨T,qJD ok.orc (runF T ok.orc N),qJZ T ok.orc (runF T ok.orc N),f,n⟩
def ckF (T:Tab) (ok:OrK) (N:Nat):qYV:=zQW ok (zGZ T ok N)
def qWH (T:Tab) (f:Nat):Code:=match T.fn f with
 | some fi=>fi.body
 | none=>.skip
def ntmF (T:Tab) (f:Nat):Nat:=match T.fn f with
 | some fi=>fi.ntmps
 | none=>0
def qWK (T:Tab) (ok:OrK) (LO:List Nat→Option yW) (N f:Nat) (ps:List PV):Option (Ret × Mem):=match T.fn f with
 | none=>none
 | some fi=>bif Nat.ble (ps.map HV.v).length fi.ntmps then qGJ N (cxF T ok N f (ntmF T f)) (ckF T ok N) LO (qWH T f) [] (fun e σ=>(endK T [] fi.results e σ).bind fun r=>some (r.1,[])) ⟨initS 0 (ps.map .v),[]⟩ else none
theorem zVY {T:Tab} {ok:OrK} {N f n:Nat}:SndK (cxF T ok N f n) (ckF T ok N):=fun g qs K' r' hk=>by
 unfold ckF zQW at hk;show ∃ x,qJD ok.orc (runF T ok.orc N) g qs=some x∧K' x=some r';unfold qJD;cases ho:ok g with
 | some o =>
  rw [ho] at hk;simp only [vQQ] at hk;obtain ⟨x,hx,hk⟩:=hk;obtain ⟨h1,hk⟩:=qZ hk;exact ⟨x.2,by simp only [OrK.orc,ho,hx,vZV,h1,vYY],hk⟩
 | none =>
  rw [ho] at hk;obtain ⟨x,M,hx,hk⟩:=qHW N g qs K' r' hk;have e:ok.orc.a g=none:=by simp only [OrK.orc,ho,Option.bind_none]
  exact ⟨x,by simp only [e,hx,vZV],hk⟩
def qY (T:Tab) (f:Nat) (p:List Nat):Code:=qQK 0 (kJ (qWH T f) p)
theorem uW {P:Program} {T:Tab} {ok:OrK} {LO:List Nat→Option yW} {N f:Nat} {ps:List PV} {r:Ret} (hT:TabOk P T) (hm:P.follows .mixedOrders=true) (hO:ok.Ok P)
  (hL:∀ p S,LO p=some S→zXH N (cxF T ok N f (ntmF T f)) (ckF T ok N) (qY T f p) S) (h:qWK T ok LO N f ps=some (r,[])):zQ P f ps r:=by
 refine qYU (N:=N + 1) hT hm hO.orc ?_;unfold qWK at h;split at h
 ·cases h
 ·rename_i fi hfi;obtain ⟨hb,h⟩:=qZ h;obtain ⟨q,h1,h2⟩:=qJJ (K0:=fun q=>some (q.1,[])) (K':=endK T [] fi.results) (B:=qWH T f) zVY hL (qWH T f) [] rfl (fun e σ hk=>by
   simp only [vQQ] at hk;exact hk) _ h
  cases h2;have eb:qWH T f=fi.body:=by unfold qWH; rw [hfi]
  have en:ntmF T f=fi.ntmps:=by unfold ntmF; rw [hfi]
  rw [eb,en] at h1;unfold run;simp only [runF,hfi,hb,vYY];unfold cxF at h1;rw [h1];rfl
noncomputable def gSt (a b:St):Bool:=@decide (a=b) (vYQ _)
theorem zV (a:St):gSt a a=true:=@vYU _ (vYQ _) rfl
theorem zHI {a b:St} (h:gSt a b=true):a=b:=@vYX _ (vYQ _) h
noncomputable def uQ (s:St) (R:Cont→Option (Ret × Mem)):yW:=fun σ K=>bif gSt σ s then R K else none
theorem qYG {N:Nat} {C:Cx} {cK:qYV} {x:Code} {s:St} {R:Cont→Option (Ret × Mem)} (h:∀ K r,R K=some r→LF N C cK x (C.T.hint C.me (zJ x)) K N s=some r):zXH N C cK x (uQ s R):=fun K σ r hr=>by
 unfold uQ at hr;obtain ⟨hg,hq⟩:=qZ hr;have e:=zHI hg;subst e;exact h K r hq
def qJ (l:List (List Nat × yW)) (p:List Nat):Option yW:=match l with
 | []=>none
 | x :: xs=>bif zJY x.1 p then some x.2 else qJ xs p
theorem qQF {N:Nat} {C:Cx} {cK:qYV} {L:List Nat→Code}:∀ {l:List (List Nat × yW)},AllP (fun x:List Nat × yW=>zXH N C cK (L x.1) x.2) l→∀ p S,qJ l p=some S→zXH N C cK (L p) S
 | [],_,p,S,h=>by cases h
 | x :: xs,hl,p,S,h=>by
  simp only [qJ] at h;cases hb:zJY x.1 p with
  | true =>
   rw [hb] at h;simp only [vYY,vQZ] at h;subst h
   have:=zZL hb
   subst this;exact hl.1
  | false =>
   rw [hb] at h;exact qQF hl.2 p S h
end Go.Rx
namespace Go.Rx
open Go.RowKit Go.Sx
theorem qKL {D:Nat→Prop} {G:World→Prop} {e sz cap k:Nat} {a:Option Addr} {ys:List Value} {w:World} (hd:qWA D G) (hG:G w) (hi:∀ w,G w→OwnF 0 e sz a cap k ys w):∀ ad,a=some ad→D ad.block:=by
 rintro ad rfl
 apply Classical.byContradiction;intro hn;obtain ⟨_,h1⟩:=hi w hG;rcases h1 with ⟨h1,_⟩ | ⟨g,cp,cur,hv,_,hb,_,_,hs,_⟩
 ·cases h1
 ·simp only [Value.slice.injEq,vQZ] at hv;obtain ⟨rfl,_,rfl⟩:=hv;have hlt:g < w.heap.size:=qQC hb;have hG':G { w with heap:=w.heap.setIfInBounds g (.cells (cur.push (.bool true)) e (0,0)) }:=hd w _ (fun k hk=>by
   have e:g ≠ k:=fun e=>hn (e ▸ hk)
   show (w.heap.setIfInBounds g _)[k]? = _;exact Array.getElem?_setIfInBounds_ne e) hG
  obtain ⟨_,h2⟩:=hi _ hG';rcases h2 with ⟨h2,_⟩ | ⟨g',cp',cur',hv',_,hb',_,_,hs',_⟩
  ·cases h2
  ·simp only [Value.slice.injEq,vQZ,Addr.mk.injEq] at hv';obtain ⟨⟨rfl,_⟩,_,rfl⟩:=hv';have hb2:(w.heap.setIfInBounds g (.cells (cur.push (.bool true)) e (0,0)))[g]? = some (.cells cur' e (0,0)):=hb';rw [Array.getElem?_setIfInBounds_self_of_lt hlt] at hb2;simp only [vQZ,Obj.cells.injEq] at hb2;rw [← hb2.1,Array.size_push,hs] at hs';omega
end Go.Rx
namespace Go.Rx
open Go.RowKit Go.Sx
def zQZ {β:Type} (good:Nat→Bool) (KX:β) (KR:Nat→β):Nat→Nat→β
 | 0,_=>KX
 | k + 1,p=>bif good p then zQZ good KX KR k (p + 1) else KR p
def allN (good:Nat→Bool):Nat→Nat→Bool
 | 0,_=>true
 | k + 1,p=>good p && allN good k (p + 1)
theorem kW {β:Type} (good:Nat→Bool) (x y:β):∀ k p,zQZ good x (fun _=>y) k p=bif allN good k p then x else y
 | 0,_=>rfl
 | k + 1,p=>by
  simp only [zQZ,allN,kW good x y k (p + 1)];cases good p <;> rfl
theorem allN_iff {good:Nat→Bool}:∀ {k p:Nat},allN good k p=true ↔ ∀ j,p≤j→j < p + k→good j=true
 | 0,p=>⟨fun _ j h1 h2=>by omega,fun _=>rfl⟩
 | k + 1,p=>by
  simp only [allN,vQJ,allN_iff (k:=k)];exact ⟨fun h j h1 h2=>by
   rcases Nat.eq_or_lt_of_le h1 with e | e
   ·exact e ▸ h.1
   ·exact h.2 j e (by omega),fun h=>⟨h p (Nat.le_refl _) (by omega),fun j h1 h2=>h j (by omega) (by omega)⟩⟩
def firstK (good:Nat→Bool):Nat→Nat→Nat
 | 0,p=>p
 | k + 1,p=>bif good p then firstK good k (p + 1) else p
theorem runAll_first {β:Type} (good:Nat→Bool) (x:β) (y:Nat→β):∀ k p,zQZ good x y k p=bif allN good k p then x else y (firstK good k p)
 | 0,_=>rfl
 | k + 1,p=>by
  simp only [zQZ,allN,firstK,runAll_first good x y k (p + 1)];cases good p <;> rfl
def zXF (N:Nat) (C:Cx) (cK:qYV) (x:Code) (h:Hint) (K:Cont) (G:St→Option (Ret × Mem)) (σ:St):Option (Ret × Mem):=qKQ N C cK x (fun e τ=>match e with
 | .normal=>G (qYQ h τ)
 | e=>K e (qZJ h τ)) σ
theorem LF_succ {N:Nat} {C:Cx} {cK:qYV} {x:Code} {h:Hint} {K:Cont} {n:Nat} {σ:St}:LF N C cK x h K (n + 1) σ=zXF N C cK x h K (fun σ=>LF N C cK x h K n σ) σ:=rfl
theorem zXK {N:Nat} {C:Cx} {cK:qYV} {x:Code} {h:Hint} {K:Cont} (hd:Int→St) (good:Nat→Bool) {c:Nat} (KX:Option (Ret × Mem)) (KR:Nat→Option (Ret × Mem))
  (r1:∀ G (i:Nat),i < c→zXF N C cK x h K G (hd (i:Int))=bif good i then G (hd ((i + 1:Nat):Int)) else KR i)
  (r2:∀ G,zXF N C cK x h K G (hd (c:Int))=KX):∀ (k p q:Nat),p + k=c→k < q→LF N C cK x h K q (hd (p:Int))=zQZ good KX KR k p
 | 0,p,q + 1,hp,_=>by
  rw [LF_succ,show p=c by omega];exact r2 _
 | k + 1,p,q + 1,hp,hq=>by
  rw [LF_succ,r1 _ p (by omega),zXK hd good KX KR r1 r2 k (p + 1) q (by omega) (by omega)];rfl
theorem rows_fn {α:Type} (d:α) (f:α→List PV) (l:List α):l.map f=(List.range l.length).map fun i=>f (l.getD i d):=by
 refine List.ext_getElem? fun i => ?_
 rw [vQH,vQH];by_cases h:i < l.length
 ·rw [List.getElem?_range h,vQK h];simp [vZX,h]
 ·rw [List.getElem?_eq_none (by omega),List.getElem?_eq_none (by simp; omega)];rfl
theorem qZY {P:Program} {f:Nat} {ps ps':List PV} {r:Ret} (hs:∀ F w vals,Al (RP F w) ps' vals→Al (RP F w) ps vals) (h:zQ P f ps r):zQ P f ps' r :=
 ⟨h.1,fun w F vals hF hal=>h.2 w F vals hF (hs F w vals hal)⟩
theorem qUC {P:Program} {f:Nat} {ps:List PV} {x y:PV} (hs:∀ F w v,RP F w x v→RP F w y v) (h:zQ P f ps (.v x)):zQ P f ps (.v y) :=
 ⟨h.1,fun w F vals hF hal=>(h.2 w F vals hF hal).mono fun _ w' ⟨v,F',he,hg,f1,f2,hr⟩=>⟨v,F',he,hg,f1,f2,hs F' w' v hr⟩⟩
theorem rp_lf_l {F:Nat→Prop} {w:World} {n:Nat} {f:Nat→List PV} {rows:List (List PV)} {v:Value} (e:rows=(List.range n).map f) (h:RP F w (.l rows) v):RP F w (.lf n f) v:=.lf n f v (e ▸ h)
theorem rp_l_lf {F:Nat→Prop} {w:World} {n:Nat} {f:Nat→List PV} {rows:List (List PV)} {v:Value} (e:rows=(List.range n).map f) (h:RP F w (.lf n f) v):RP F w (.l rows) v:=by
 cases h with
 | lf _ _ _ h=>exact e ▸ h
def Same (x y:PV):Prop:=∀ F w v,RP F w x v→RP F w y v
theorem Same.refl (x:PV):Same x x:=fun _ _ _ h=>h
theorem Same.lf {n:Nat} {f:Nat→List PV} {rows:List (List PV)} (e:rows=(List.range n).map f):Same (.l rows) (.lf n f):=fun _ _ _=>rp_lf_l e
theorem Same.l {n:Nat} {f:Nat→List PV} {rows:List (List PV)} (e:rows=(List.range n).map f):Same (.lf n f) (.l rows):=fun _ _ _=>rp_l_lf e
def Sames:List PV→List PV→Prop
 | [],[]=>True
 | x :: xs,y :: ys=>Same x y∧Sames xs ys
 | _,_=>False
theorem Sames.al {F:Nat→Prop} {w:World}:∀ {xs ys:List PV} {vs:List Value},Sames xs ys→Al (RP F w) xs vs→Al (RP F w) ys vs
 | [],[],_,_,h=>h
 | x :: xs,y :: ys,vs,hs,h=>by
  obtain ⟨v,vs,rfl,h1,h2⟩:=uK h;exact qQJ (hs.1 F w v h1) (Sames.al hs.2 h2)
 | [],_ :: _,_,h,_=>h.elim
 | _ :: _,[],_,h,_=>h.elim
theorem Same.a {xs ys:List PV} (h:Sames xs ys):Same (.a xs) (.a ys):=fun F w v hv=>by
 cases hv with
 | a _ vs hl h1 hh =>
  have:=Sames.al h (show Al (RP F w) xs vs from ⟨hl,hh⟩)
  exact .a ys vs this.1 h1 this.2
theorem Same.t {xs ys:List PV} (h:Sames xs ys):Same (.t xs) (.t ys):=fun F w v hv=>by
 cases hv with
 | t _ vs hl hh =>
  have:=Sames.al h (show Al (RP F w) xs vs from ⟨hl,hh⟩)
  exact .t ys vs this.1 this.2
end Go.Rx
namespace Go.Rx
open Go.RowKit Go.Sx Go.ChangeShapes Go.WideShapes
section
variable {P:Program} {W:World} {H:Type} {enc:TypeId × Value→H}
def Fits (row:List Sh) (ps:List PV):Prop:=ps.length=row.length∧∀ (i:Nat) sh p,row[i]? = some sh→ps[i]? = some p→Fit sh p
theorem Fits.cons {s0:Sh} {row:List Sh} {ps:List PV} (h:Fits (s0 :: row) ps):∃ p qs,ps=p :: qs∧Fit s0 p∧Fits row qs:=by
 cases ps with
 | nil=>have:=h.1; simp at this
 | cons p qs=>exact ⟨p,qs,rfl,h.2 0 s0 p rfl rfl,by have:=h.1; simpa using this,fun i sh q h1 h2=>h.2 (i + 1) sh q h1 h2⟩
theorem Fits.nil {ps:List PV} (h:Fits [] ps):ps=[]:=List.eq_nil_of_length_eq_zero h.1
theorem Fit.int {k:IntKind} {p:PV} (h:Fit (.i k) p):∃ x,p=.n k x∧(Lit.int k x).wf=true:=by cases h with | i k x h=>exact ⟨x,rfl,h⟩
theorem Fit.str {p:PV} (h:Fit .s p):∃ x,p=.s x:=by cases h with | s x h=>exact ⟨x,rfl⟩
theorem Fit.bool {p:PV} (h:Fit .b p):∃ x,p=.b x:=by cases h with | b x=>exact ⟨x,rfl⟩
theorem Fit.slc {row:List Sh} {p:PV} (h:Fit (.l row) p):∃ n f,p=.lf n f∧∀ j,j < n→Fits row (f j):=by
 cases h with
 | l row n f hn hl h=>exact ⟨n,f,rfl,fun j hj=>⟨hl j hj,h j hj⟩⟩
theorem open_good {t:TypeId} {v:Value} {d:DataW H} {p:List MemPlace} {g:Nat} {shs:List Sh} (h:DataW.Trod enc P W 0 (fun _=>true) true t v d p) (hs:shT P g t=some shs):Good W shs v.cells.toList:=by
 obtain ⟨fuel,h⟩:=h;exact zJB fuel t _ _ g shs h hs
theorem open_str {t:TypeId} {fs:Array Field} {v:Value} {d:DataW H} {p:List MemPlace} {g:Nat} {row:List Sh} (ht:P.underlying t=some (.struct fs)) {r:Reach} {base:Nat} (hv:Value.okWide P W r base t v)
  (h:DataW.Trod enc P W 0 (fun _=>true) true t v d p) (hs:shT P g t=some row):∃ ps,RP (fun k=>k < W.heap.size) W (.a ps) v∧Fits row ps:=by
 have hcs:∃ cs,v=.agg cs:=by
  unfold Value.okWide at hv;cases v <;> simp [ht] at hv
  exact ⟨_,rfl⟩
 obtain ⟨cs,rfl⟩:=hcs;obtain ⟨ps,h1,h2,h3,h4⟩:=open_good h hs;exact ⟨ps,.a ps cs.toList h3.1 h4 h3.2,h1,h2⟩
theorem qYB {n:Nat} {f g:Nat→List PV} (h:∀ j,j < n→f j=g j):Same (.lf n f) (.lf n g):=fun F w v hv =>
 rp_lf_l (List.map_congr_left fun j hj=>h j (List.mem_range.1 hj)) (rp_l_lf rfl hv)
end
end Go.Rx
namespace Go.Rx
open Go.RowKit Go.Sx
def uV (N:Nat) (C:Cx) (x:Code) (S:yW):Prop:=∀ (K K':Cont) (K0:Ret × Mem→Option (Ret × Mem)) (σ:St) (r:Ret × Mem),(∀ e τ,K e τ=some r→Gets K0 r (K' e τ))→S (qYQ (C.T.hint C.me (zJ x)) σ) K=some r →
 Gets K0 r (qVQ (fun again σ=>runC N C x (fun e σ=>match e with
   | .normal=>again σ
   | e=>K' e (qZJ (C.T.hint C.me (zJ x)) σ)) (qYQ (C.T.hint C.me (zJ x)) σ)) N σ)
section
variable {C:Cx} {cK:qYV} {r:Ret × Mem} {K0:Ret × Mem→Option (Ret × Mem)}
theorem qZH {N:Nat} {LO:List Nat→Option yW} {B:Code} (hc:SndK C cK) (hL:∀ p S,LO p=some S→uV N C (qQK 0 (kJ B p)) S):∀ (c:Code) (p:List Nat) {K K':Cont} (hp:kJ B p=c) (hK:∀ e σ,K e σ=some r→Gets K0 r (K' e σ)) (σ:St),qGJ N C cK LO c p K σ=some r→Gets K0 r (runC N C c K' σ)
 | .skip,p,K,K',hp,hK,σ,h=>hK _ _ h
 | .label _,p,K,K',hp,hK,σ,h=>hK _ _ h
 | .scope x,p,K,K',hp,hK,σ,h=>qZH hc hL x (0 :: p) (by simp only [kJ,hp,qQK]) hK σ h
 | .ret,p,K,K',hp,hK,σ,h=>hK _ _ h
 | .exit id,p,K,K',hp,hK,σ,h=>hK _ _ h
 | .region id ops d,p,K,K',hp,hK,σ,h=>by
  have h:=preK_eq.symm.trans h;refine Eq.mpr (congrArg (Gets K0 r) (preK_eq (F:=fun σ=>bif d then qZL C ops 0 ops.toList [] (K' .normal) σ else qXI C ops ops.toList (K' .normal) σ))) ?_;cases d with
  | true=>exact qJL hc (hK .normal) _ _ _ _ h
  | false=>exact qUV hc (hK .normal) _ _ h
 | .seq x y,p,K,K',hp,hK,σ,h=>by
  refine qZH hc hL x (0 :: p) (by simp only [kJ,hp,qQK]) (fun e τ hk => ?_) σ h;cases e with
  | normal=>exact qZH hc hL y (1 :: p) (by simp only [kJ,hp,qQK]) hK τ hk
  | _=>exact hK _ _ hk
 | .cond c x y,p,K,K',hp,hK,σ,h=>by
  simp only [qGJ,vQQ] at h;obtain ⟨v,hv,h⟩:=h;simp only [runC,hv,vZV];split at h
  ·rename_i t;cases t with
   | true=>exact qZH hc hL x (0 :: p) (by simp only [kJ,hp,qQK]) hK σ h
   | false=>exact qZH hc hL y (1 :: p) (by simp only [kJ,hp,qQK]) hK σ h
  ·cases h
 | .block id x,p,K,K',hp,hK,σ,h=>by
  refine qZH hc hL x (0 :: p) (by simp only [kJ,hp,qQK]) (fun e τ hk => ?_) σ h;cases e with
  | exit id' =>
   simp only at hk ⊢;cases hb:Nat.beq id' id with
   | true=>rw [hb] at hk; exact hK _ _ hk
   | false=>rw [hb] at hk; exact hK _ _ hk
  | _=>exact hK _ _ hk
 | .loop x,p,K,K',hp,hK,σ,h=>by
  simp only [qGJ] at h;simp only [runC];cases hS:LO p with
  | none =>
   rw [hS] at h;refine qXZ (fun a a' ha τ hs => ?_) N σ h;refine qQI hc x (fun e υ hk => ?_) _ hs;cases e with
   | normal=>exact ha _ hk
   | _=>exact hK _ _ hk
  | some S =>
   rw [hS] at h
   have:=hL p S hS
   rw [hp] at this;exact this K K' K0 σ r hK h
 | .rangeFunc ..,p,K,K',hp,hK,σ,h=>by cases h
 | .goto _,p,K,K',hp,hK,σ,h=>by cases h
 | .refuse _,p,K,K',hp,hK,σ,h=>by cases h
end
def zVL (N:Nat) (C:Cx) (cK:qYV) (LO:List Nat→Option yW) (x:Code) (p:List Nat) (h:Hint) (K:Cont) (G:St→Option (Ret × Mem)) (σ:St):Option (Ret × Mem):=qGJ N C cK LO x (0 :: p) (fun e τ=>match e with
 | .normal=>G (qYQ h τ)
 | e=>K e (qZJ h τ)) σ
def LFL (N:Nat) (C:Cx) (cK:qYV) (LO:List Nat→Option yW) (x:Code) (p:List Nat) (h:Hint) (K:Cont):Nat→St→Option (Ret × Mem)
 | 0,_=>none
 | n + 1,σ=>zVL N C cK LO x p h K (LFL N C cK LO x p h K n) σ
theorem LFL_get {N:Nat} {C:Cx} {cK:qYV} {LO:List Nat→Option yW} {B x:Code} {p:List Nat} {K K':Cont} {K0:Ret × Mem→Option (Ret × Mem)} {r:Ret × Mem} (hc:SndK C cK) (hL:∀ p S,LO p=some S→uV N C (qQK 0 (kJ B p)) S) (hx:kJ B (0 :: p)=x)
  (hK:∀ e τ,K e τ=some r→Gets K0 r (K' e τ)):∀ (n:Nat) (σ:St),LFL N C cK LO x p (C.T.hint C.me (zJ x)) K n (qYQ (C.T.hint C.me (zJ x)) σ)=some r→Gets K0 r (qVQ (fun again σ=>runC N C x (fun e σ=>match e with
   | .normal=>again σ
   | e=>K' e (qZJ (C.T.hint C.me (zJ x)) σ)) (qYQ (C.T.hint C.me (zJ x)) σ)) n σ)
 | 0,σ,h=>by cases h
 | n + 1,σ,h=>by
  simp only [LFL,zVL] at h;simp only [qVQ];refine qZH hc hL x (0 :: p) hx (fun e τ hk => ?_) _ h;cases e with
  | normal=>exact LFL_get hc hL hx hK n τ hk
  | _=>exact hK _ _ hk
theorem loopOk2_of {N:Nat} {C:Cx} {cK:qYV} {LO:List Nat→Option yW} {B x:Code} {p:List Nat} {S:yW} (hc:SndK C cK) (hL:∀ p S,LO p=some S→uV N C (qQK 0 (kJ B p)) S) (hx:kJ B (0 :: p)=x)
  (hS:∀ K σ r,S σ K=some r→LFL N C cK LO x p (C.T.hint C.me (zJ x)) K N σ=some r):uV N C x S:=fun K _ _ σ r hK h =>
 LFL_get hc hL hx hK N σ (hS K _ r h)
theorem qW {N:Nat} {C:Cx} {L:List Nat→Code}:∀ {l:List (List Nat × yW)},AllP (fun x:List Nat × yW=>uV N C (L x.1) x.2) l→∀ p S,qJ l p=some S→uV N C (L p) S
 | [],_,p,S,h=>by cases h
 | x :: xs,hl,p,S,h=>by
  simp only [qJ] at h;cases hb:zJY x.1 p with
  | true =>
   rw [hb] at h;simp only [vYY,vQZ] at h;subst h
   have:=zZL hb
   subst this;exact hl.1
  | false =>
   rw [hb] at h;exact qW hl.2 p S h
theorem runKL_sound2 {P:Program} {T:Tab} {ok:OrK} {LO:List Nat→Option yW} {N f:Nat} {ps:List PV} {r:Ret} (hT:TabOk P T) (hm:P.follows .mixedOrders=true) (hO:ok.Ok P)
  (hL:∀ p S,LO p=some S→uV N (cxF T ok N f (ntmF T f)) (qY T f p) S) (h:qWK T ok LO N f ps=some (r,[])):zQ P f ps r:=by
 refine qYU (N:=N + 1) hT hm hO.orc ?_;unfold qWK at h;split at h
 ·cases h
 ·rename_i fi hfi;obtain ⟨hb,h⟩:=qZ h;obtain ⟨q,h1,h2⟩:=qZH (K0:=fun q=>some (q.1,[])) (K':=endK T [] fi.results) (B:=qWH T f) zVY hL (qWH T f) [] rfl (fun e σ hk=>by
   simp only [vQQ] at hk;exact hk) _ h
  cases h2;have eb:qWH T f=fi.body:=by unfold qWH; rw [hfi]
  have en:ntmF T f=fi.ntmps:=by unfold ntmF; rw [hfi]
  rw [eb,en] at h1;unfold run;simp only [runF,hfi,hb,vYY];unfold cxF at h1;rw [h1];rfl
noncomputable def sumF {τ:Type} (hd:τ→St) (ex:St→τ) (R:τ→Cont→Option (Ret × Mem)):yW:=fun σ K=>bif gSt σ (hd (ex σ)) then R (ex σ) K else none
theorem sumF_ok {N:Nat} {T:Tab} {ok:OrK} {f:Nat} {LO:List Nat→Option yW} {p:List Nat} {τ:Type} {hd:τ→St} {ex:St→τ} {R:τ→Cont→Option (Ret × Mem)}
  (hL:∀ p S,LO p=some S→uV N (cxF T ok N f (ntmF T f)) (qY T f p) S)
  (h:∀ s K r,R s K=some r→LFL N (cxF T ok N f (ntmF T f)) (ckF T ok N) LO (qY T f p) p (T.hint f (zJ (qY T f p))) K N (hd s)=some r):uV N (cxF T ok N f (ntmF T f)) (qY T f p) (sumF hd ex R) :=
 loopOk2_of (B:=qWH T f) (cK:=ckF T ok N) zVY hL rfl fun K σ r hr=>by
  unfold sumF at hr;obtain ⟨hg,hq⟩:=qZ hr;have e:=zHI hg
  have:=h (ex σ) K r hq
  rw [← e] at this;exact this
theorem jU {N:Nat} {C:Cx} {L:List Nat→Code}:∀ p S,qJ [] p=some S→uV N C (L p) S:=fun p S h=>by cases h
def zU {τ υ:Type} (dec:τ→τ ⊕ υ):Nat→τ→Option υ
 | 0,_=>none
 | n + 1,s=>match dec s with
  | .inl s'=>zU dec n s'
  | .inr y=>some y
theorem qJI {τ υ β:Type} {L:Nat→St→Option β} {stp:(St→Option β)→St→Option β} (hs:∀ n s,L (n + 1) s=stp (L n) s) (h0:∀ s,L 0 s=none) (hd:τ→St) (Inv:τ→Prop) (dec:τ→τ ⊕ υ) (KX:υ→Option β)
  (r1:∀ G s,Inv s→stp G (hd s)=match dec s with | .inl s'=>G (hd s') | .inr y=>KX y) (hi:∀ s s',Inv s→dec s=.inl s'→Inv s'):∀ n s,Inv s→L n (hd s)=(zU dec n s).bind KX
 | 0,s,_=>by rw [h0]; rfl
 | n + 1,s,h=>by
  rw [hs,r1 _ s h,zU];cases hd':dec s with
  | inl s'=>exact qJI hs h0 hd Inv dec KX r1 hi n s' (hi s s' h hd')
  | inr y=>rfl
def runS {τ β:Type} (good:Nat→τ→Bool) (nx:Nat→τ→τ) (KX:τ→β) (KR:Nat→τ→β):Nat→Nat→τ→β
 | 0,_,s=>KX s
 | k + 1,p,s=>bif good p s then runS good nx KX KR k (p + 1) (nx p s) else KR p s
theorem qYW {τ β:Type} {L:Nat→St→Option β} {stp:(St→Option β)→St→Option β} (hs:∀ n s,L (n + 1) s=stp (L n) s) (hd:Nat→τ→St) (Inv:Nat→τ→Prop) (good:Nat→τ→Bool) (nx:Nat→τ→τ) {c:Nat} (KX:τ→Option β) (KR:Nat→τ→Option β)
  (r1:∀ G i s,i < c→Inv i s→stp G (hd i s)=bif good i s then G (hd (i + 1) (nx i s)) else KR i s) (hi:∀ i s,i < c→Inv i s→good i s=true→Inv (i + 1) (nx i s))
  (r2:∀ G s,Inv c s→stp G (hd c s)=KX s):∀ k p q s,p + k=c→k < q→Inv p s→L q (hd p s)=runS good nx KX KR k p s
 | 0,p,q + 1,s,hp,_,hv=>by
  have e:p=c:=by omega
  subst e;rw [hs,r2 _ s hv]; rfl
 | k + 1,p,q + 1,s,hp,hq,hv=>by
  rw [hs,r1 _ p s (by omega) hv];simp only [runS];cases hg:good p s with
  | true=>exact qYW hs hd Inv good nx KX KR r1 hi r2 k (p + 1) q (nx p s) (by omega) (by omega) (hi p s (by omega) hv hg)
  | false=>rfl
end Go.Rx

/- Part 7 of the texts behind the last one: rules and contracts. No condition. -/
import Derived.Test.YtmeldddgjfocdaaGreatGN6
open Option renaming bind_eq_some_iff → vQQ, bind_some → vZV
open Option.some renaming injEq → vQZ
open Prod.mk renaming injEq → vQY
open Bool renaming and_eq_true → vQJ, and_self → vZQ
open List renaming getElem?_eq_getElem → vQK, length_cons → vQX, getElem?_map → vQH, getD_eq_getElem?_getD → vZX
open Nat renaming eq_of_beq_eq_true → vQU, le_of_ble_eq_true → vZJ
open Classical renaming propDecidable → vZH
open Go.IntKind renaming wrap → vYX
namespace Go.Rx
open Go.RowKit Go.Sx
abbrev Cont:=Ex→St→Option (Ret × Mem)
abbrev yU:=St→Cont→Option (Ret × Mem)
def qQC:Nat→Code→Code
 | 0,.seq x _=>x
 | _ + 1,.seq _ y=>y
 | 0,.cond _ x _=>x
 | _ + 1,.cond _ _ y=>y
 | _,.block _ x=>x
 | _,.scope x=>x
 | _,.loop x=>x
 | _,c=>c
def uV (B:Code):List Nat→Code
 | []=>B
 | i :: p=>qQC i (uV B p)
def qGB:List Nat→List Nat→Bool
 | [],[]=>true
 | x :: xs,y :: ys=>Nat.beq x y && qGB xs ys
 | _,_=>false
theorem qVZ:∀ {p q:List Nat},qGB p q=true→p=q
 | [],[],_=>rfl
 | x :: xs,y :: ys,h=>by
  simp only [qGB,vQJ] at h;rw [vQU h.1,qVZ h.2]
 | [],_ :: _,h=>by cases h
 | _ :: _,[],h=>by cases h
def LF (N:Nat) (C:Cx) (cK:qQE) (x:Code) (h:Hint) (K:Cont):Nat→St→Option (Ret × Mem)
 | 0,_=>none
 | n + 1,σ=>qZX N C cK x (fun e τ=>match e with
   | .normal=>LF N C cK x h K n (qQD h τ)
   | e=>K e (qQZ h τ)) σ
def zJI (N:Nat) (C:Cx) (cK:qQE) (x:Code) (S:yU):Prop:=∀ K σ r,S σ K=some r→LF N C cK x (C.T.hint C.me (qJ x)) K N σ=some r
theorem zWY {N:Nat} {C:Cx} {cK:qQE} {x:Code} {h:Hint} {K:Cont}:∀ (n:Nat) (σ:St),qKC (fun again σ=>qZX N C cK x (fun e σ=>match e with
   | .normal=>again σ
   | e=>K e (qQZ h σ)) (qQD h σ)) n σ=LF N C cK x h K n (qQD h σ)
 | 0,_=>rfl
 | n + 1,σ=>by
  simp only [qKC,LF]
  congr 1
  funext e τ;cases e with
  | normal=>exact zWY n τ
  | _=>rfl
def qVF (N:Nat) (C:Cx) (cK:qQE) (LO:List Nat→Option yU):Code→List Nat→Cont→St→Option (Ret × Mem)
 | .skip,_,K,σ=>K .normal σ
 | .label _,_,K,σ=>K .normal σ
 | .scope x,p,K,σ=>qVF N C cK LO x (0 :: p) K σ
 | .ret,_,K,σ=>K .ret σ
 | .exit id,_,K,σ=>K (.exit id) σ
 | .region _ ops d,_,K,σ=>bif d then qYL C cK ops 0 ops.toList [] (K .normal) σ else qWL C cK ops ops.toList (K .normal) σ
 | .seq x y,p,K,σ=>qVF N C cK LO x (0 :: p) (fun e σ=>match e with
   | .normal=>qVF N C cK LO y (1 :: p) K σ
   | e=>K e σ) σ
 | .cond c x y,p,K,σ=>(opv 1 σ c).bind fun v=>match v with
   | .v (.b t)=>bif t then qVF N C cK LO x (0 :: p) K σ else qVF N C cK LO y (1 :: p) K σ
   | _=>none
 | .block id x,p,K,σ=>qVF N C cK LO x (0 :: p) (fun e σ=>match e with
   | .exit id'=>bif Nat.beq id' id then K .normal σ else K (.exit id') σ
   | e=>K e σ) σ
 | .loop x,p,K,σ=>match LO p with
   | some S=>S (qQD (C.T.hint C.me (qJ x)) σ) K
   | none=>qKC (fun again σ=>qZX N C cK x (fun e σ=>match e with
     | .normal=>again σ
     | e=>K e (qQZ (C.T.hint C.me (qJ x)) σ)) (qQD (C.T.hint C.me (qJ x)) σ)) N σ
 | _,_,_,_=>none
section
variable {C:Cx} {cK:qQE} {r:Ret × Mem} {K0:Ret × Mem→Option (Ret × Mem)}
theorem qQF {N:Nat} {LO:List Nat→Option yU} {B:Code} (hc:SndK C cK) (hL:∀ p S,LO p=some S→zJI N C cK (qQC 0 (uV B p)) S):∀ (c:Code) (p:List Nat) {K K':Cont} (hp:uV B p=c) (hK:∀ e σ,K e σ=some r→Gets K0 r (K' e σ)) (σ:St),qVF N C cK LO c p K σ=some r→Gets K0 r (runC N C c K' σ)
 | .skip,p,K,K',hp,hK,σ,h=>hK _ _ h
 | .label _,p,K,K',hp,hK,σ,h=>hK _ _ h
 | .scope x,p,K,K',hp,hK,σ,h=>qQF hc hL x (0 :: p) (by simp only [uV,hp,qQC]) hK σ h
 | .ret,p,K,K',hp,hK,σ,h=>hK _ _ h
 | .exit id,p,K,K',hp,hK,σ,h=>hK _ _ h
 | .region id ops d,p,K,K',hp,hK,σ,h=>by
  cases d with
  | true=>exact qYX hc (hK .normal) _ _ _ _ h
  | false=>exact qYC hc (hK .normal) _ _ h
 | .seq x y,p,K,K',hp,hK,σ,h=>by
  refine qQF hc hL x (0 :: p) (by simp only [uV,hp,qQC]) (fun e τ hk => ?_) σ h;cases e with
  | normal=>exact qQF hc hL y (1 :: p) (by simp only [uV,hp,qQC]) hK τ hk
  | _=>exact hK _ _ hk
 | .cond c x y,p,K,K',hp,hK,σ,h=>by
  simp only [qVF,vQQ] at h;obtain ⟨v,hv,h⟩:=h;simp only [runC,hv,vZV];split at h
  ·rename_i t;cases t with
   | true=>exact qQF hc hL x (0 :: p) (by simp only [uV,hp,qQC]) hK σ h
   | false=>exact qQF hc hL y (1 :: p) (by simp only [uV,hp,qQC]) hK σ h
  ·cases h
 | .block id x,p,K,K',hp,hK,σ,h=>by
  refine qQF hc hL x (0 :: p) (by simp only [uV,hp,qQC]) (fun e τ hk => ?_) σ h;cases e with
  | exit id' =>
   simp only at hk ⊢;cases hb:Nat.beq id' id with
   | true=>rw [hb] at hk; exact hK _ _ hk
   | false=>rw [hb] at hk; exact hK _ _ hk
  | _=>exact hK _ _ hk
 | .loop x,p,K,K',hp,hK,σ,h=>by
  simp only [qVF] at h;simp only [runC];have h':qKC (fun again σ=>qZX N C cK x (fun e σ=>match e with
     | .normal=>again σ
     | e=>K e (qQZ (C.T.hint C.me (qJ x)) σ)) (qQD (C.T.hint C.me (qJ x)) σ)) N σ=some r:=by
   cases hS:LO p with
   | none=>rw [hS] at h; exact h
   | some S =>
    rw [hS] at h
    have:=hL p S hS
    rw [hp] at this;rw [zWY];exact this K _ r h
  refine qJZ (fun a a' ha τ hs => ?_) N σ h';refine uH hc x (fun e υ hk => ?_) _ hs;cases e with
  | normal=>exact ha _ hk
  | _=>exact hK _ _ hk
 | .rangeFunc ..,p,K,K',hp,hK,σ,h=>by cases h
 | .goto _,p,K,K',hp,hK,σ,h=>by cases h
 | .refuse _,p,K,K',hp,hK,σ,h=>by cases h
end
def cxF (T:Tab) (ok:OrK) (N f n:Nat):Cx:=⟨T,qZB ok.orc (runF T ok.orc N),qYA ok.orc (runF T ok.orc N),f,n⟩
def ckF (T:Tab) (ok:OrK) (N:Nat):qQE:=qXA ok (zVB T ok N)
def qXC (T:Tab) (f:Nat):Code:=match T.fn f with
 | some fi=>fi.body
 | none=>.skip
def ntmF (T:Tab) (f:Nat):Nat:=match T.fn f with
 | some fi=>fi.ntmps
 | none=>0
def qVE (T:Tab) (ok:OrK) (LO:List Nat→Option yU) (N f:Nat) (ps:List PV):Option (Ret × Mem):=match T.fn f with
 | none=>none
 | some fi=>bif Nat.ble (ps.map HV.v).length fi.ntmps then qVF N (cxF T ok N f (ntmF T f)) (ckF T ok N) LO (qXC T f) [] (fun e σ=>(endK T [] fi.results e σ).bind fun r=>some (r.1,[])) ⟨initS 0 (ps.map .v),[]⟩ else none
theorem jKG {T:Tab} {ok:OrK} {N f n:Nat}:SndK (cxF T ok N f n) (ckF T ok N):=fun g qs K' r' hk=>by
 unfold ckF qXA at hk;show ∃ x,qZB ok.orc (runF T ok.orc N) g qs=some x∧K' x=some r';unfold qZB;cases ho:ok g with
 | some o =>
  rw [ho] at hk;simp only [vQQ] at hk;obtain ⟨x,hx,hk⟩:=hk;obtain ⟨h1,hk⟩:=qY hk;exact ⟨x.2,by simp only [OrK.orc,ho,hx,vZV,h1,vYQ],hk⟩
 | none =>
  rw [ho] at hk;obtain ⟨x,M,hx,hk⟩:=qUG N g qs K' r' hk;have e:ok.orc.a g=none:=by simp only [OrK.orc,ho,Option.bind_none]
  exact ⟨x,by simp only [e,hx,vZV],hk⟩
def qQ (T:Tab) (f:Nat) (p:List Nat):Code:=qQC 0 (uV (qXC T f) p)
theorem uW {P:Program} {T:Tab} {ok:OrK} {LO:List Nat→Option yU} {N f:Nat} {ps:List PV} {r:Ret} (hT:TabOk P T) (hm:P.follows .mixedOrders=true) (hO:ok.Ok P)
  (hL:∀ p S,LO p=some S→zJI N (cxF T ok N f (ntmF T f)) (ckF T ok N) (qQ T f p) S) (h:qVE T ok LO N f ps=some (r,[])):qH P f ps r:=by
 refine jY (N:=N + 1) hT hm hO.orc ?_;unfold qVE at h;split at h
 ·cases h
 ·rename_i fi hfi;obtain ⟨hb,h⟩:=qY h;obtain ⟨q,h1,h2⟩:=qQF (K0:=fun q=>some (q.1,[])) (K':=endK T [] fi.results) (B:=qXC T f) jKG hL (qXC T f) [] rfl (fun e σ hk=>by
   simp only [vQQ] at hk;exact hk) _ h
  cases h2;have eb:qXC T f=fi.body:=by unfold qXC; rw [hfi]
  have en:ntmF T f=fi.ntmps:=by unfold ntmF; rw [hfi]
  rw [eb,en] at h1;unfold run;simp only [runF,hfi,hb,vYQ];unfold cxF at h1;rw [h1];rfl
noncomputable def gSt (a b:St):Bool:=@decide (a=b) (vZH _)
theorem zQ (a:St):gSt a a=true:=@vYJ _ (vZH _) rfl
theorem yGF {a b:St} (h:gSt a b=true):a=b:=@vYK _ (vZH _) h
noncomputable def kG (s:St) (R:Cont→Option (Ret × Mem)):yU:=fun σ K=>bif gSt σ s then R K else none
theorem qZU {N:Nat} {C:Cx} {cK:qQE} {x:Code} {s:St} {R:Cont→Option (Ret × Mem)} (h:∀ K r,R K=some r→LF N C cK x (C.T.hint C.me (qJ x)) K N s=some r):zJI N C cK x (kG s R):=fun K σ r hr=>by
 unfold kG at hr;obtain ⟨hg,hq⟩:=qY hr;have e:=yGF hg;subst e;exact h K r hq
def qZ (l:List (List Nat × yU)) (p:List Nat):Option yU:=match l with
 | []=>none
 | x :: xs=>bif qGB x.1 p then some x.2 else qZ xs p
theorem qQB {N:Nat} {C:Cx} {cK:qQE} {L:List Nat→Code}:∀ {l:List (List Nat × yU)},AllP (fun x:List Nat × yU=>zJI N C cK (L x.1) x.2) l→∀ p S,qZ l p=some S→zJI N C cK (L p) S
 | [],_,p,S,h=>by cases h
 | x :: xs,hl,p,S,h=>by
  simp only [qZ] at h;cases hb:qGB x.1 p with
  | true =>
   rw [hb] at h;simp only [vYQ,vQZ] at h;subst h
   have:=qVZ hb
   subst this;exact hl.1
  | false =>
   rw [hb] at h;exact qQB hl.2 p S h
end Go.Rx
namespace Go.Rx
open Go.RowKit Go.Sx
def qXK {β:Type} (good:Nat→Bool) (KX:β) (KR:Nat→β):Nat→Nat→β
 | 0,_=>KX
 | k + 1,p=>bif good p then qXK good KX KR k (p + 1) else KR p
def allN (good:Nat→Bool):Nat→Nat→Bool
 | 0,_=>true
 | k + 1,p=>good p && allN good k (p + 1)
theorem yZ {β:Type} (good:Nat→Bool) (x y:β):∀ k p,qXK good x (fun _=>y) k p=bif allN good k p then x else y
 | 0,_=>rfl
 | k + 1,p=>by
  simp only [qXK,allN,yZ good x y k (p + 1)];cases good p <;> rfl
theorem allN_iff {good:Nat→Bool}:∀ {k p:Nat},allN good k p=true ↔ ∀ j,p≤j→j < p + k→good j=true
 | 0,p=>⟨fun _ j h1 h2=>by omega,fun _=>rfl⟩
 | k + 1,p=>by
  simp only [allN,vQJ,allN_iff (k:=k)];exact ⟨fun h j h1 h2=>by
   rcases Nat.eq_or_lt_of_le h1 with e | e
   ·exact e ▸ h.1
   ·exact h.2 j e (by omega),fun h=>⟨h p (Nat.le_refl _) (by omega),fun j h1 h2=>h j (by omega) (by omega)⟩⟩
def firstK (good:Nat→Bool):Nat→Nat→Nat
 | 0,p=>p
 | k + 1,p=>bif good p then firstK good k (p + 1) else p
theorem kK {β:Type} (good:Nat→Bool) (x:β) (y:Nat→β):∀ k p,qXK good x y k p=bif allN good k p then x else y (firstK good k p)
 | 0,_=>rfl
 | k + 1,p=>by
  simp only [qXK,allN,firstK,kK good x y k (p + 1)];cases good p <;> rfl
def zVW (N:Nat) (C:Cx) (cK:qQE) (x:Code) (h:Hint) (K:Cont) (G:St→Option (Ret × Mem)) (σ:St):Option (Ret × Mem):=qZX N C cK x (fun e τ=>match e with
 | .normal=>G (qQD h τ)
 | e=>K e (qQZ h τ)) σ
theorem yJB {N:Nat} {C:Cx} {cK:qQE} {x:Code} {h:Hint} {K:Cont} {n:Nat} {σ:St}:LF N C cK x h K (n + 1) σ=zVW N C cK x h K (fun σ=>LF N C cK x h K n σ) σ:=rfl
theorem zWZ {N:Nat} {C:Cx} {cK:qQE} {x:Code} {h:Hint} {K:Cont} (hd:Int→St) (good:Nat→Bool) {c:Nat} (KX:Option (Ret × Mem)) (KR:Nat→Option (Ret × Mem))
  (r1:∀ G (i:Nat),i < c→zVW N C cK x h K G (hd (i:Int))=bif good i then G (hd ((i + 1:Nat):Int)) else KR i)
  (r2:∀ G,zVW N C cK x h K G (hd (c:Int))=KX):∀ (k p q:Nat),p + k=c→k < q→LF N C cK x h K q (hd (p:Int))=qXK good KX KR k p
 | 0,p,q + 1,hp,_=>by
  rw [yJB,show p=c by omega];exact r2 _
 | k + 1,p,q + 1,hp,hq=>by
  rw [yJB,r1 _ p (by omega),zWZ hd good KX KR r1 r2 k (p + 1) q (by omega) (by omega)];rfl
theorem jZG {α:Type} (d:α) (f:α→List PV) (l:List α):l.map f=(List.range l.length).map fun i=>f (l.getD i d):=by
 refine List.ext_getElem? fun i => ?_
 rw [vQH,vQH];by_cases h:i < l.length
 ·rw [List.getElem?_range h,vQK h];simp [vZX,h]
 ·rw [List.getElem?_eq_none (by omega),List.getElem?_eq_none (by simp; omega)];rfl
theorem qHA {P:Program} {f:Nat} {ps ps':List PV} {r:Ret} (hs:∀ F w vals,Al (RP F w) ps' vals→Al (RP F w) ps vals) (h:qH P f ps r):qH P f ps' r :=
 ⟨h.1,fun w F vals hF hal=>h.2 w F vals hF (hs F w vals hal)⟩
theorem qJV {P:Program} {f:Nat} {ps:List PV} {x y:PV} (hs:∀ F w v,RP F w x v→RP F w y v) (h:qH P f ps (.v x)):qH P f ps (.v y) :=
 ⟨h.1,fun w F vals hF hal=>(h.2 w F vals hF hal).mono fun _ w' ⟨v,F',he,hg,f1,f2,hr⟩=>⟨v,F',he,hg,f1,f2,hs F' w' v hr⟩⟩
theorem yQA {F:Nat→Prop} {w:World} {n:Nat} {f:Nat→List PV} {rows:List (List PV)} {v:Value} (e:rows=(List.range n).map f) (h:RP F w (.l rows) v):RP F w (.lf n f) v:=.lf n f v (e ▸ h)
theorem yQB {F:Nat→Prop} {w:World} {n:Nat} {f:Nat→List PV} {rows:List (List PV)} {v:Value} (e:rows=(List.range n).map f) (h:RP F w (.lf n f) v):RP F w (.l rows) v:=by
 cases h with
 | lf _ _ _ h=>exact e ▸ h
def Same (x y:PV):Prop:=∀ F w v,RP F w x v→RP F w y v
theorem Same.refl (x:PV):Same x x:=fun _ _ _ h=>h
theorem Same.lf {n:Nat} {f:Nat→List PV} {rows:List (List PV)} (e:rows=(List.range n).map f):Same (.l rows) (.lf n f):=fun _ _ _=>yQA e
theorem Same.l {n:Nat} {f:Nat→List PV} {rows:List (List PV)} (e:rows=(List.range n).map f):Same (.lf n f) (.l rows):=fun _ _ _=>yQB e
def Sames:List PV→List PV→Prop
 | [],[]=>True
 | x :: xs,y :: ys=>Same x y∧Sames xs ys
 | _,_=>False
theorem Sames.al {F:Nat→Prop} {w:World}:∀ {xs ys:List PV} {vs:List Value},Sames xs ys→Al (RP F w) xs vs→Al (RP F w) ys vs
 | [],[],_,_,h=>h
 | x :: xs,y :: ys,vs,hs,h=>by
  obtain ⟨v,vs,rfl,h1,h2⟩:=zJE h;exact qJF (hs.1 F w v h1) (Sames.al hs.2 h2)
 | [],_ :: _,_,h,_=>h.elim
 | _ :: _,[],_,h,_=>h.elim
theorem Same.a {xs ys:List PV} (h:Sames xs ys):Same (.a xs) (.a ys):=fun F w v hv=>by
 cases hv with
 | a _ vs hl h1 hh =>
  have:=Sames.al h (show Al (RP F w) xs vs from ⟨hl,hh⟩)
  exact .a ys vs this.1 h1 this.2
theorem Same.t {xs ys:List PV} (h:Sames xs ys):Same (.t xs) (.t ys):=fun F w v hv=>by
 cases hv with
 | t _ vs hl hh =>
  have:=Sames.al h (show Al (RP F w) xs vs from ⟨hl,hh⟩)
  exact .t ys vs this.1 this.2
theorem qHG {P:Program} {f:Nat} {ps ps':List PV} {x y:PV} (ha:Sames ps' ps) (hr:Same x y) (h:qH P f ps (.v x)):qH P f ps' (.v y) :=
 qJV hr (qHA (fun _ _ _=>ha.al) h)
theorem qWD {P:Program} {f e sz:Nat} {ps:List PV} {rows:List (List PV)} (h:qH P f ps (.ow e sz rows)):qH P f ps (.v (.l rows)):=by
 refine ⟨h.1,fun w F vals hF hal=>(h.2 w F vals hF hal).mono ?_⟩
 rintro en w' ⟨v,F',he,hg,f1,f2,hr⟩
 obtain ⟨F2,f3,f4,hx⟩:=hr.pv (x:=.l rows) rfl;refine ⟨v,F2,he,hg,fun k hk=>f3 k (f1 k hk),fun k hk => ?_,hx⟩;rcases f4 k hk with h | h
 ·exact f2 k h
 ·exact .inr h
end Go.Rx
namespace Go.Rx
open Go.RowKit Go.Sx Go.ChangeShapes Go.WideShapes
section
variable {P:Program} {W:World} {H:Type} {enc:TypeId × Value→H}
def Fits (row:List Sh) (ps:List PV):Prop:=ps.length=row.length∧∀ (i:Nat) sh p,row[i]? = some sh→ps[i]? = some p→Fit sh p
theorem Fits.cons {s0:Sh} {row:List Sh} {ps:List PV} (h:Fits (s0 :: row) ps):∃ p qs,ps=p :: qs∧Fit s0 p∧Fits row qs:=by
 cases ps with
 | nil=>have:=h.1; simp at this
 | cons p qs=>exact ⟨p,qs,rfl,h.2 0 s0 p rfl rfl,by have:=h.1; simpa using this,fun i sh q h1 h2=>h.2 (i + 1) sh q h1 h2⟩
theorem Fits.nil {ps:List PV} (h:Fits [] ps):ps=[]:=List.eq_nil_of_length_eq_zero h.1
theorem Fit.int {k:IntKind} {p:PV} (h:Fit (.i k) p):∃ x,p=.n k x∧(Lit.int k x).wf=true:=by cases h with | i k x h=>exact ⟨x,rfl,h⟩
theorem Fit.str {p:PV} (h:Fit .s p):∃ x,p=.s x:=by cases h with | s x h=>exact ⟨x,rfl⟩
theorem Fit.bool {p:PV} (h:Fit .b p):∃ x,p=.b x:=by cases h with | b x=>exact ⟨x,rfl⟩
theorem Fit.slc {row:List Sh} {p:PV} (h:Fit (.l row) p):∃ n f,p=.lf n f∧∀ j,j < n→Fits row (f j):=by
 cases h with
 | l row n f hn hl h=>exact ⟨n,f,rfl,fun j hj=>⟨hl j hj,h j hj⟩⟩
theorem yZF {n:Nat} {f g:Nat→List PV} (h:∀ j,j < n→f j=g j):Same (.lf n f) (.lf n g):=fun F w v hv =>
 yQA (List.map_congr_left fun j hj=>h j (List.mem_range.1 hj)) (yQB rfl hv)
end
end Go.Rx
namespace Go.Rx
open Go.RowKit Go.Sx
def uG (N:Nat) (C:Cx) (x:Code) (S:yU):Prop:=∀ (K K':Cont) (K0:Ret × Mem→Option (Ret × Mem)) (σ:St) (r:Ret × Mem),(∀ e τ,K e τ=some r→Gets K0 r (K' e τ))→S (qQD (C.T.hint C.me (qJ x)) σ) K=some r →
 Gets K0 r (qKC (fun again σ=>runC N C x (fun e σ=>match e with
   | .normal=>again σ
   | e=>K' e (qQZ (C.T.hint C.me (qJ x)) σ)) (qQD (C.T.hint C.me (qJ x)) σ)) N σ)
section
variable {C:Cx} {cK:qQE} {r:Ret × Mem} {K0:Ret × Mem→Option (Ret × Mem)}
end
theorem qK {N:Nat} {C:Cx} {L:List Nat→Code}:∀ {l:List (List Nat × yU)},AllP (fun x:List Nat × yU=>uG N C (L x.1) x.2) l→∀ p S,qZ l p=some S→uG N C (L p) S
 | [],_,p,S,h=>by cases h
 | x :: xs,hl,p,S,h=>by
  simp only [qZ] at h;cases hb:qGB x.1 p with
  | true =>
   rw [hb] at h;simp only [vYQ,vQZ] at h;subst h
   have:=qVZ hb
   subst this;exact hl.1
  | false =>
   rw [hb] at h;exact qK hl.2 p S h
noncomputable def sumF {τ:Type} (hd:τ→St) (ex:St→τ) (R:τ→Cont→Option (Ret × Mem)):yU:=fun σ K=>bif gSt σ (hd (ex σ)) then R (ex σ) K else none
theorem yV {N:Nat} {C:Cx} {L:List Nat→Code}:∀ p S,qZ [] p=some S→uG N C (L p) S:=fun p S h=>by cases h
def runS {τ β:Type} (good:Nat→τ→Bool) (nx:Nat→τ→τ) (KX:τ→β) (KR:Nat→τ→β):Nat→Nat→τ→β
 | 0,_,s=>KX s
 | k + 1,p,s=>bif good p s then runS good nx KX KR k (p + 1) (nx p s) else KR p s
theorem jJ {τ β:Type} {L:Nat→St→Option β} {stp:(St→Option β)→St→Option β} (hs:∀ n s,L (n + 1) s=stp (L n) s) (hd:Nat→τ→St) (Inv:Nat→τ→Prop) (good:Nat→τ→Bool) (nx:Nat→τ→τ) {c:Nat} (KX:τ→Option β) (KR:Nat→τ→Option β)
  (r1:∀ G i s,i < c→Inv i s→stp G (hd i s)=bif good i s then G (hd (i + 1) (nx i s)) else KR i s) (hi:∀ i s,i < c→Inv i s→good i s=true→Inv (i + 1) (nx i s))
  (r2:∀ G s,Inv c s→stp G (hd c s)=KX s):∀ k p q s,p + k=c→k < q→Inv p s→L q (hd p s)=runS good nx KX KR k p s
 | 0,p,q + 1,s,hp,_,hv=>by
  have e:p=c:=by omega
  subst e;rw [hs,r2 _ s hv]; rfl
 | k + 1,p,q + 1,s,hp,hq,hv=>by
  rw [hs,r1 _ p s (by omega) hv];simp only [runS];cases hg:good p s with
  | true=>exact jJ hs hd Inv good nx KX KR r1 hi r2 k (p + 1) q (nx p s) (by omega) (by omega) (hi p s (by omega) hv hg)
  | false=>rfl
def zQB (g:Nat→List PV):Nat→Nat→(Nat→List PV)→Nat→List PV
 | 0,_,f=>f
 | k + 1,p,f=>zQB g k (p + 1) fun v=>uU (Nat.beq v p) (g p) (f v)
theorem zJV (g:Nat→List PV):∀ (k p:Nat) (f:Nat→List PV) (v:Nat),zQB g k p f v=if p≤v∧v < p + k then g v else f v
 | 0,p,f,v=>by rw [zQB,if_neg (by omega)]
 | k + 1,p,f,v=>by
  rw [zQB,zJV g k (p + 1),jX,qVD];by_cases h:v=p
  ·subst h;rw [if_neg (by omega),if_pos (by omega),vYJ rfl]; rfl
  ·rw [vYY h,vYZ];by_cases h2:p + 1≤v∧v < p + 1 + k
   ·rw [if_pos h2,if_pos (by omega)]
   ·rw [if_neg h2,if_neg (by omega)]
theorem zZA {β:Type} {g:Nat→List PV} {KX:(Nat→List PV)→β} {KR:Nat→(Nat→List PV)→β}:∀ k p f,runS (fun _ _=>true) (fun i f v=>uU (Nat.beq v i) (g i) (f v)) KX KR k p f=KX (zQB g k p f)
 | 0,_,_=>rfl
 | k + 1,p,f=>by
  simp only [runS,vYQ];exact zZA k (p + 1) _
end Go.Rx
namespace Go.Rx
open Go.RowKit Go.Sx
abbrev Ev:=Nat→Op→List RV→(Eff→Option (Ret × Mem))→Option (Ret × Mem)
def EvOk (C:Cx) (ev:Ev):Prop:=∀ dst op vs K r,ev dst op vs K=some r→∃ e,qU C.T C.cA C.cB C.me dst op vs=some e∧K e=some r
def goE (C:Cx) (ev:Ev) (o:Oper) (σ:St) (K:Eff × List RV→Option (Ret × Mem)):Option (Ret × Mem) :=
 bif dstB C.n o.dst then
  (mapO (opv (mode o.op) σ) o.op.operands.toList).bind fun vs=>ev (o.dst.getD 0) o.op vs fun e =>
   bif e.nw.all (fun id=>(qW σ.M id).isNone) then K (e,vs) else none
 else none
def yKJ (C:Cx) (ev:Ev) (ops:Array Oper) (o:Oper) (σ:St) (K:Eff × List RV→Option (Ret × Mem)):Option (Ret × Mem) :=
 match o.guard with
 | none=>goE C ev o σ K
 | some (j,b)=>match (ops[j]?).bind (·.dst) with
  | some d=>match jU σ.S d with
   | some (.v (.b c))=>(match b with
    | true=>bif c then goE C ev o σ K else zZW C o K
    | false=>bif c then zZW C o K else goE C ev o σ K)
   | some (.v (.t []))=>zZW C o K
   | _=>none
  | none=>none
def qHF (C:Cx) (ev:Ev) (ops:Array Oper):List Oper→(St→Option (Ret × Mem))→St→Option (Ret × Mem)
 | [],K,σ=>K σ
 | o :: l,K,σ=>yKJ C ev ops o σ fun r=>qHF C ev ops l K (σ.apply r.1 o.dst)
def qKU (C:Cx) (ev:Ev) (ops:Array Oper):Nat→List Oper→List Done→(St→Option (Ret × Mem))→St→Option (Ret × Mem)
 | _,[],acc,K,σ=>bif qXU ops acc.reverse && Sx.backB ops then K σ else none
 | i,o :: l,acc,K,σ=>yKJ C ev ops o σ fun r=>qKU C ev ops (i + 1) l ((i,r) :: acc) K (σ.apply r.1 o.dst)
def qUH (N:Nat) (C:Cx) (ev:Ev) (LO:List Nat→Option yU):Code→List Nat→Cont→St→Option (Ret × Mem)
 | .skip,_,K,σ=>K .normal σ
 | .label _,_,K,σ=>K .normal σ
 | .scope x,p,K,σ=>qUH N C ev LO x (0 :: p) K σ
 | .ret,_,K,σ=>K .ret σ
 | .exit id,_,K,σ=>K (.exit id) σ
 | .region _ ops d,_,K,σ=>bif d then qKU C ev ops 0 ops.toList [] (K .normal) σ else qHF C ev ops ops.toList (K .normal) σ
 | .seq x y,p,K,σ=>qUH N C ev LO x (0 :: p) (fun e σ=>match e with
   | .normal=>qUH N C ev LO y (1 :: p) K σ
   | e=>K e σ) σ
 | .cond c x y,p,K,σ=>(opv 1 σ c).bind fun v=>match v with
   | .v (.b t)=>bif t then qUH N C ev LO x (0 :: p) K σ else qUH N C ev LO y (1 :: p) K σ
   | _=>none
 | .block id x,p,K,σ=>qUH N C ev LO x (0 :: p) (fun e σ=>match e with
   | .exit id'=>bif Nat.beq id' id then K .normal σ else K (.exit id') σ
   | e=>K e σ) σ
 | .loop x,p,K,σ=>match LO p with
   | some S=>S (qQD (C.T.hint C.me (qJ x)) σ) K
   | none=>qKC (fun again σ=>qUH N C ev LO x (0 :: p) (fun e σ=>match e with
     | .normal=>again σ
     | e=>K e (qQZ (C.T.hint C.me (qJ x)) σ)) (qQD (C.T.hint C.me (qJ x)) σ)) N σ
 | _,_,_,_=>none
section
variable {C:Cx} {ev:Ev} {ops:Array Oper} {r:Ret × Mem} {K0:Ret × Mem→Option (Ret × Mem)}
theorem zQW {o:Oper} {σ:St} {K:Eff × List RV→Option (Ret × Mem)} (hc:EvOk C ev) (hg:jW ops σ o=some true) (h:goE C ev o σ K=some r):∃ x,qQL C ops o σ=some x∧K x=some r:=by
 unfold goE at h;obtain ⟨hd,h⟩:=qY h;rw [vQQ] at h;obtain ⟨vs,hvs,h⟩:=h;obtain ⟨e,he,h⟩:=hc _ _ _ _ _ h;obtain ⟨hn,h⟩:=qY h;exact ⟨(e,vs),qKY hd (.inr ⟨hg,hvs,he,fun i hi=>by simpa using List.all_eq_true.1 hn i hi⟩),h⟩
theorem qGU {o:Oper} {σ:St} {K:Eff × List RV→Option (Ret × Mem)} (hc:EvOk C ev) (h:yKJ C ev ops o σ K=some r):∃ x,qQL C ops o σ=some x∧K x=some r:=by
 unfold yKJ at h;cases hg:o.guard with
 | none=>rw [hg] at h; exact zQW hc (by unfold jW; rw [hg]) h
 | some gb =>
  obtain ⟨j,b⟩:=gb;rw [hg] at h;simp only at h;split at h
  ·rename_i d hd;split at h
   ·rename_i c hlc;have gd:jW ops σ o=some (c == b):=by
     unfold jW;rw [hg];simp only [hd,hlc]
    cases b <;> cases c <;> simp only [vYQ,vYZ] at h
    ·exact zQW hc gd h
    ·exact qZV gd h
    ·exact qZV gd h
    ·exact zQW hc gd h
   ·rename_i hlc;exact qZV (by unfold jW; rw [hg]; simp only [hd,hlc]) h
   ·cases h
  ·cases h
theorem qXZ (hc:EvOk C ev) {K K':St→Option (Ret × Mem)} (hK:∀ σ,K σ=some r→Gets K0 r (K' σ)):∀ (l:List Oper) (σ:St),qHF C ev ops l K σ=some r→Gets K0 r (qXY C ops l K' σ)
 | [],σ,h=>hK σ h
 | o :: l,σ,h=>by
  simp only [qHF] at h;obtain ⟨x,hx,h⟩:=qGU hc h;simp only [qXY,hx,vZV];exact qXZ hc hK l _ h
theorem qKK (hc:EvOk C ev) {K K':St→Option (Ret × Mem)} (hK:∀ σ,K σ=some r→Gets K0 r (K' σ)):∀ (l:List Oper) (i:Nat) (acc:List Done) (σ:St),qKU C ev ops i l acc K σ=some r→Gets K0 r (qZK C ops i l acc K' σ)
 | [],i,acc,σ,h=>by
  simp only [qKU] at h;obtain ⟨hp,h⟩:=qY h;simp only [qZK,hp,vYQ];exact hK σ h
 | o :: l,i,acc,σ,h=>by
  simp only [qKU] at h;obtain ⟨x,hx,h⟩:=qGU hc h;simp only [qZK,hx,vZV];exact qKK hc hK l _ _ _ h
theorem uZ {N:Nat} {LO:List Nat→Option yU} {B:Code} (hc:EvOk C ev) (hL:∀ p S,LO p=some S→uG N C (qQC 0 (uV B p)) S):∀ (c:Code) (p:List Nat) {K K':Cont} (hp:uV B p=c) (hK:∀ e σ,K e σ=some r→Gets K0 r (K' e σ)) (σ:St),qUH N C ev LO c p K σ=some r→Gets K0 r (runC N C c K' σ)
 | .skip,p,K,K',hp,hK,σ,h=>hK _ _ h
 | .label _,p,K,K',hp,hK,σ,h=>hK _ _ h
 | .scope x,p,K,K',hp,hK,σ,h=>uZ hc hL x (0 :: p) (by simp only [uV,hp,qQC]) hK σ h
 | .ret,p,K,K',hp,hK,σ,h=>hK _ _ h
 | .exit id,p,K,K',hp,hK,σ,h=>hK _ _ h
 | .region id ops d,p,K,K',hp,hK,σ,h=>by
  cases d with
  | true=>exact qKK hc (hK .normal) _ _ _ _ h
  | false=>exact qXZ hc (hK .normal) _ _ h
 | .seq x y,p,K,K',hp,hK,σ,h=>by
  refine uZ hc hL x (0 :: p) (by simp only [uV,hp,qQC]) (fun e τ hk => ?_) σ h;cases e with
  | normal=>exact uZ hc hL y (1 :: p) (by simp only [uV,hp,qQC]) hK τ hk
  | _=>exact hK _ _ hk
 | .cond c x y,p,K,K',hp,hK,σ,h=>by
  simp only [qUH,vQQ] at h;obtain ⟨v,hv,h⟩:=h;simp only [runC,hv,vZV];split at h
  ·rename_i t;cases t with
   | true=>exact uZ hc hL x (0 :: p) (by simp only [uV,hp,qQC]) hK σ h
   | false=>exact uZ hc hL y (1 :: p) (by simp only [uV,hp,qQC]) hK σ h
  ·cases h
 | .block id x,p,K,K',hp,hK,σ,h=>by
  refine uZ hc hL x (0 :: p) (by simp only [uV,hp,qQC]) (fun e τ hk => ?_) σ h;cases e with
  | exit id' =>
   simp only at hk ⊢;cases hb:Nat.beq id' id with
   | true=>rw [hb] at hk; exact hK _ _ hk
   | false=>rw [hb] at hk; exact hK _ _ hk
  | _=>exact hK _ _ hk
 | .loop x,p,K,K',hp,hK,σ,h=>by
  simp only [qUH] at h;simp only [runC];cases hS:LO p with
  | none =>
   rw [hS] at h;refine qJZ (fun a a' ha τ hs => ?_) N σ h;refine uZ hc hL x (0 :: p) (by simp only [uV,hp,qQC]) (fun e υ hk => ?_) _ hs;cases e with
   | normal=>exact ha _ hk
   | _=>exact hK _ _ hk
  | some S =>
   rw [hS] at h
   have:=hL p S hS
   rw [hp] at this;exact this K K' K0 σ r hK h
 | .rangeFunc ..,p,K,K',hp,hK,σ,h=>by cases h
 | .goto _,p,K,K',hp,hK,σ,h=>by cases h
 | .refuse _,p,K,K',hp,hK,σ,h=>by cases h
end
def yJ (N:Nat) (C:Cx) (ev:Ev) (LO:List Nat→Option yU) (x:Code) (p:List Nat) (h:Hint) (K:Cont) (G:St→Option (Ret × Mem)) (σ:St):Option (Ret × Mem):=qUH N C ev LO x (0 :: p) (fun e τ=>match e with
 | .normal=>G (qQD h τ)
 | e=>K e (qQZ h τ)) σ
def LFX (N:Nat) (C:Cx) (ev:Ev) (LO:List Nat→Option yU) (x:Code) (p:List Nat) (h:Hint) (K:Cont):Nat→St→Option (Ret × Mem)
 | 0,_=>none
 | n + 1,σ=>yJ N C ev LO x p h K (LFX N C ev LO x p h K n) σ
theorem yJC {N:Nat} {C:Cx} {ev:Ev} {LO:List Nat→Option yU} {B x:Code} {p:List Nat} {K K':Cont} {K0:Ret × Mem→Option (Ret × Mem)} {r:Ret × Mem} (hc:EvOk C ev) (hL:∀ p S,LO p=some S→uG N C (qQC 0 (uV B p)) S) (hx:uV B (0 :: p)=x)
  (hK:∀ e τ,K e τ=some r→Gets K0 r (K' e τ)):∀ (n:Nat) (σ:St),LFX N C ev LO x p (C.T.hint C.me (qJ x)) K n (qQD (C.T.hint C.me (qJ x)) σ)=some r→Gets K0 r (qKC (fun again σ=>runC N C x (fun e σ=>match e with
   | .normal=>again σ
   | e=>K' e (qQZ (C.T.hint C.me (qJ x)) σ)) (qQD (C.T.hint C.me (qJ x)) σ)) n σ)
 | 0,σ,h=>by cases h
 | n + 1,σ,h=>by
  simp only [LFX,yJ] at h;simp only [qKC];refine uZ hc hL x (0 :: p) hx (fun e τ hk => ?_) _ h;cases e with
  | normal=>exact yJC hc hL hx hK n τ hk
  | _=>exact hK _ _ hk
theorem yVC {N:Nat} {C:Cx} {ev:Ev} {LO:List Nat→Option yU} {B x:Code} {p:List Nat} {S:yU} (hc:EvOk C ev) (hL:∀ p S,LO p=some S→uG N C (qQC 0 (uV B p)) S) (hx:uV B (0 :: p)=x)
  (hS:∀ K σ r,S σ K=some r→LFX N C ev LO x p (C.T.hint C.me (qJ x)) K N σ=some r):uG N C x S:=fun K _ _ σ r hK h =>
 yJC hc hL hx hK N σ (hS K _ r h)
abbrev zJL:=Nat→List HV→List PV→(PV × List PV→Option (Ret × Mem))→Option (Ret × Mem)
def zHE (r:PV × List PV) (K:PV × List PV→Option (Ret × Mem)):Option (Ret × Mem):=match r with
 | (.b c,ps)=>bif c then K (.b true,ps) else K (.b false,ps)
 | r=>K r
theorem zHD (r:PV × List PV) (K:PV × List PV→Option (Ret × Mem)):zHE r K=K r:=by
 unfold zHE;split
 ·rename_i c ps; cases c <;> rfl
 ·rfl
def zJB (cBK:zJL) (f:Nat) (args:List RV) (K:Eff→Option (Ret × Mem)):Option (Ret × Mem) :=
 (yYD args).bind fun p=>(mapO CV.pv p.2).bind fun ps=>(mapO (RV.toB p.1) args).bind fun hs=>cBK f hs ps fun r=>zHE r fun r =>
  K (Eff.and (.set p.1 (.blk (r.2.map PV.toH)) (.v r.1)) (catR RV.regs args))
def jGB (C:Cx) (cBK:zJL):Prop:=∀ f hs ps K r,cBK f hs ps K=some r→∃ x,C.cB f hs ps=some x∧K x=some r
def selC:List PV→Int→PV
 | [],_=>.ni
 | [x],_=>x
 | x :: y :: l,i=>qXW (decide (i=0)) x (selC (y :: l) (i - 1))
theorem yQX:∀ (l:List PV) (i:Int),0≤i→i.toNat < l.length→l[i.toNat]? = some (selC l i)
 | [],i,_,h=>by simp at h
 | [x],i,h0,h=>by
  have:i.toNat=0:=by simp at h; omega
  rw [this]; rfl
 | x :: y :: l,i,h0,h=>by
  rw [selC];by_cases e:i=0
  ·subst e; rw [vYJ rfl,qWJ]; rfl
  ·rw [vYY e,qWK,show i.toNat=(i - 1).toNat + 1 by omega,List.getElem?_cons_succ];exact yQX (y :: l) (i - 1) (by omega) (by simp only [vQX] at h ⊢; omega)
def evS (C:Cx) (cK:qQE) (cBK:zJL):Ev:=fun dst op vs K=>match op,vs with
 | .call ⟨.value fx,axs,ats⟩,.v (.f f first cap) :: vs=>bif C.T.rw f then zJB cBK f (first.map .v ++ vs ++ cap.map .v) K else zHJ C cK dst (.call ⟨.value fx,axs,ats⟩) (.v (.f f first cap) :: vs) K
 | .index t a b,[.v (.a cs),.v (.n k i)]=>(C.T.ar t).bind fun q=>bif q.2.2 then zHJ C cK dst (.index t a b) [.v (.a cs),.v (.n k i)] K else bif inB i q.1 && Nat.ble q.1 cs.length then K (.val (selC cs i).toH) else none
 | .slice t a lo hi none,.v (.s s) :: vs=>(qHZ lo hi vs).bind fun b=>bif C.T.str t then (bif inS b.1 b.2 s.size then K (.val (.v (.s (s.extract (loOf b.1) (hiOf b.2 s.size))))) else none) else none
 | op,vs=>zHJ C cK dst op vs K
theorem jVF {C:Cx} {cK:qQE} {cBK:zJL} (hc:SndK C cK) (hb:jGB C cBK):EvOk C (evS C cK cBK):=fun dst op vs K r h=>by
 unfold evS at h;split at h
 ·rename_i fx axs ats f first cap vs
  cases hrw:C.T.rw f with
  | false =>
   rw [hrw,vYZ] at h;exact qJJ hc h
  | true =>
   rw [hrw,vYQ] at h;simp only [zJB,vQQ] at h;obtain ⟨p,hp,ps,hps,hs,hhs,h⟩:=h;obtain ⟨x,hx,h⟩:=hb _ _ _ _ _ h;rw [zHD] at h;exact ⟨_,by simp only [qU,hrw,vYQ,qWG,hp,hps,hhs,hx,vZV],h⟩
 ·rename_i t a b cs k i;simp only [vQQ] at h;obtain ⟨q,hq,h⟩:=h;cases h2:q.2.2 with
  | true=>rw [h2,vYQ] at h; exact qJJ hc h
  | false =>
   rw [h2,vYZ] at h;obtain ⟨hi,h⟩:=qY h;rw [vQJ] at hi;obtain ⟨i0,i1⟩:=qZI hi.1;have hl:=vZJ hi.2;exact ⟨_,by simp only [qU,hq,vZV,hi.1,h2,vYQ,vYZ,yQX cs i i0 (by omega)],h⟩
 ·rename_i t a lo hi s vs;simp only [vQQ] at h;obtain ⟨b,hbd,h⟩:=h;obtain ⟨h1,h⟩:=qY h;obtain ⟨h2,h⟩:=qY h;exact ⟨_,by simp only [qU,hbd,vZV,h1,h2,vZQ,vYQ],h⟩
 ·exact qJJ hc h
abbrev OrB:=Nat→Option (List HV→List PV→Option (Bool × (PV × List PV)))
structure OrS where
 a:OrK
 b:OrB
def OrS.orc (o:OrS):Orc:=⟨o.a.orc.a,fun g=>(o.b g).bind fun f=>some fun hs ps=>(f hs ps).bind fun x=>bif x.1 then some x.2 else none⟩
structure OrS.Ok (P:Program) (o:OrS):Prop where
 a:o.a.Ok P
 b:∀ g f,o.b g=some f→∀ hs ps x ps',f hs ps=some (true,(x,ps'))→zJF P g hs ps x ps'
theorem OrS.Ok.orc {P:Program} {o:OrS} (h:o.Ok P):OrcOk P o.orc:=by
 refine ⟨h.a.orc.a,fun g f ho hs ps x ps' hr => ?_⟩;simp only [OrS.orc,vQQ,vQZ] at ho;obtain ⟨q,hq,rfl⟩:=ho;simp only [vQQ] at hr;obtain ⟨y,hy,hr⟩:=hr;obtain ⟨h1,hr⟩:=qY hr;obtain ⟨y1,y2⟩:=y;cases hr;exact h.b g q hq hs ps x ps' (by rw [hy,← h1])
def cxS (T:Tab) (o:OrS) (N f n:Nat):Cx:=⟨T,qZB o.orc (runF T o.orc N),qYA o.orc (runF T o.orc N),f,n⟩
def zVA (T:Tab) (o:OrS):Nat→Nat→List HV→Mem→(Ret × Mem→Option (Ret × Mem))→Option (Ret × Mem)
 | 0,_,_,_,_=>none
 | N + 1,f,hs,M,K=>match T.fn f with
  | none=>none
  | some fi=>bif Nat.ble hs.length fi.ntmps then qUH N (cxS T o N f fi.ntmps) (evS (cxS T o N f fi.ntmps)
    (qXA o.a fun g ps K=>zVA T o N g (ps.map .v) [] fun r=>K r.1)
    (fun g hs ps K=>match o.b g with
     | some q=>(q hs ps).bind fun x=>bif x.1 then K x.2 else none
     | none=>zVA T o N g hs [(pid,.blk (ps.map PV.toH))] fun r=>(qYJ r.2).bind fun ps'=>(zVF r.1).bind fun x=>K (x,ps')))
    (fun _=>none) fi.body [] (fun e σ=>(endK T M fi.results e σ).bind K) ⟨initS 0 hs,M⟩ else none
def ckS (T:Tab) (o:OrS) (N:Nat):qQE:=qXA o.a fun g ps K=>zVA T o N g (ps.map .v) [] fun r=>K r.1
def cbS (T:Tab) (o:OrS) (N:Nat):zJL:=fun g hs ps K=>match o.b g with
 | some q=>(q hs ps).bind fun x=>bif x.1 then K x.2 else none
 | none=>zVA T o N g hs [(pid,.blk (ps.map PV.toH))] fun r=>(qYJ r.2).bind fun ps'=>(zVF r.1).bind fun x=>K (x,ps')
def evX (T:Tab) (o:OrS) (N f n:Nat):Ev:=evS (cxS T o N f n) (ckS T o N) (cbS T o N)
section
variable {T:Tab} {o:OrS}
def FSnd (T:Tab) (o:OrS) (N:Nat):Prop:=∀ (f:Nat) (hs:List HV) (M:Mem) (K:Ret × Mem→Option (Ret × Mem)) (r:Ret × Mem),zVA T o N f hs M K=some r→∃ x,runF T o.orc N f hs M=some x∧K x=some r
theorem jGX {N f n:Nat} (h:FSnd T o N):SndK (cxS T o N f n) (ckS T o N):=fun g qs K' r' hk=>by
 unfold ckS qXA at hk;show ∃ x,qZB o.orc (runF T o.orc N) g qs=some x∧K' x=some r';unfold qZB;cases ho:o.a g with
 | some q =>
  rw [ho] at hk;simp only [vQQ] at hk;obtain ⟨x,hx,hk⟩:=hk;obtain ⟨h1,hk⟩:=qY hk;exact ⟨x.2,by simp only [OrS.orc,OrK.orc,ho,hx,vZV,h1,vYQ],hk⟩
 | none =>
  rw [ho] at hk;obtain ⟨x,hx,hk⟩:=h g _ _ _ r' hk;have e:o.orc.a g=none:=by simp only [OrS.orc,OrK.orc,ho,Option.bind_none]
  exact ⟨x.1,by simp only [e,hx,vZV],hk⟩
theorem jGV {N f n:Nat} (h:FSnd T o N):jGB (cxS T o N f n) (cbS T o N):=fun g hs ps K' r' hk=>by
 unfold cbS at hk;show ∃ x,qYA o.orc (runF T o.orc N) g hs ps=some x∧K' x=some r';unfold qYA;cases ho:o.b g with
 | some q =>
  rw [ho] at hk;simp only [vQQ] at hk;obtain ⟨x,hx,hk⟩:=hk;obtain ⟨h1,hk⟩:=qY hk;exact ⟨x.2,by simp only [OrS.orc,ho,hx,vZV,h1,vYQ],hk⟩
 | none =>
  rw [ho] at hk;obtain ⟨x,hx,hk⟩:=h g _ _ _ r' hk;simp only [vQQ] at hk;obtain ⟨ps',h1,y,h2,hk⟩:=hk;have e:o.orc.b g=none:=by simp only [OrS.orc,ho,Option.bind_none]
  exact ⟨(y,ps'),by simp only [e,hx,vZV,h1,h2],hk⟩
theorem yJZ {N f n:Nat} (h:FSnd T o N):EvOk (cxS T o N f n) (evX T o N f n):=jVF (jGX h) (jGV h)
theorem qUV:∀ N,FSnd T o N
 | 0,f,hs,M,K,r,h=>by cases h
 | N + 1,f,hs,M,K,r,h=>by
  simp only [zVA] at h;split at h
  ·cases h
  ·rename_i fi hfi;obtain ⟨hb,h⟩:=qY h;have ih:FSnd T o N:=qUV N;obtain ⟨q,h1,h2⟩:=uZ (K0:=K) (K':=endK T M fi.results) (B:=fi.body) (LO:=fun _=>none) (yJZ (f:=f) (n:=fi.ntmps) ih) (fun p S hp=>by cases hp) fi.body [] rfl (fun e σ hk=>by
    simp only [vQQ] at hk;exact hk) _ h
   refine ⟨q,?_,h2⟩;simp only [runF,hfi,hb,vYQ];exact h1
def yUX (T:Tab) (o:OrS) (LO:List Nat→Option yU) (N f:Nat) (hs:List HV) (M:Mem) (K:Ret × Mem→Option (Ret × Mem)):Option (Ret × Mem):=match T.fn f with
 | none=>none
 | some fi=>bif Nat.ble hs.length fi.ntmps then qUH N (cxS T o N f (ntmF T f)) (evX T o N f (ntmF T f)) LO (qXC T f) [] (fun e σ=>(endK T M fi.results e σ).bind K) ⟨initS 0 hs,M⟩ else none
theorem qGV {LO:List Nat→Option yU} {N f:Nat} {hs:List HV} {M:Mem} {K:Ret × Mem→Option (Ret × Mem)} {r:Ret × Mem} (hL:∀ p S,LO p=some S→uG N (cxS T o N f (ntmF T f)) (qQ T f p) S) (h:yUX T o LO N f hs M K=some r):∃ x,runF T o.orc (N + 1) f hs M=some x∧K x=some r:=by
 unfold yUX at h;split at h
 ·cases h
 ·rename_i fi hfi;obtain ⟨hb,h⟩:=qY h;obtain ⟨q,h1,h2⟩:=uZ (K0:=K) (K':=endK T M fi.results) (B:=qXC T f) (yJZ (qUV N)) hL (qXC T f) [] rfl (fun e σ hk=>by
   simp only [vQQ] at hk;exact hk) _ h
  have eb:qXC T f=fi.body:=by unfold qXC; rw [hfi]
  have en:ntmF T f=fi.ntmps:=by unfold ntmF; rw [hfi]
  rw [eb,en] at h1;refine ⟨q,?_,h2⟩;simp only [runF,hfi,hb,vYQ];unfold cxS at h1;exact h1
def kH (T:Tab) (o:OrS) (LO:List Nat→Option yU) (N f:Nat) (ps:List PV):Option (Ret × Mem):=yUX T o LO N f (ps.map .v) [] fun r=>some (r.1,[])
def jUA (T:Tab) (o:OrS) (LO:List Nat→Option yU) (N f:Nat) (hs:List HV) (ps:List PV):Option (Ret × Mem):=yUX T o LO N f hs [(pid,.blk (ps.map PV.toH))] fun r=>(qYJ r.2).bind fun ps'=>(zVF r.1).bind fun x=>some (.v (.t (x :: ps')),[])
theorem qX {P:Program} {LO:List Nat→Option yU} {N f:Nat} {ps:List PV} {r:Ret} (hT:TabOk P T) (hm:P.follows .mixedOrders=true) (hO:o.Ok P) (hL:∀ p S,LO p=some S→uG N (cxS T o N f (ntmF T f)) (qQ T f p) S) (h:kH T o LO N f ps=some (r,[])):qH P f ps r:=by
 obtain ⟨x,h1,h2⟩:=qGV hL h;cases h2;refine jY (N:=N + 1) hT hm hO.orc ?_;unfold run;rw [h1];rfl
theorem zKG {P:Program} {LO:List Nat→Option yU} {N f:Nat} {hs:List HV} {ps ps':List PV} {x:PV} (hT:TabOk P T) (hm:P.follows .mixedOrders=true) (hO:o.Ok P) (hL:∀ p S,LO p=some S→uG N (cxS T o N f (ntmF T f)) (qQ T f p) S) (h:jUA T o LO N f hs ps=some (.v (.t (x :: ps')),[])):zJF P f hs ps x ps':=by
 obtain ⟨y,h1,h2⟩:=qGV hL h;simp only [vQQ,vQZ,vQY,Ret.v.injEq,PV.t.injEq,List.cons.injEq,and_true] at h2;obtain ⟨qs,h3,z,h4,rfl,rfl⟩:=h2;refine zVD (N:=N + 1) hT hm hO.orc ?_;unfold runB;rw [h1];simp only [vZV,h3,h4]
end
theorem yQ {N:Nat} {T:Tab} {o:OrS} {f:Nat} {LO:List Nat→Option yU} {p:List Nat} {τ:Type} {hd:τ→St} {ex:St→τ} {R:τ→Cont→Option (Ret × Mem)}
  (hL:∀ p S,LO p=some S→uG N (cxS T o N f (ntmF T f)) (qQ T f p) S)
  (h:∀ s K r,R s K=some r→LFX N (cxS T o N f (ntmF T f)) (evX T o N f (ntmF T f)) LO (qQ T f p) p (T.hint f (qJ (qQ T f p))) K N (hd s)=some r):uG N (cxS T o N f (ntmF T f)) (qQ T f p) (sumF hd ex R) :=
 yVC (B:=qXC T f) (ev:=evX T o N f (ntmF T f)) (yJZ (qUV N)) hL rfl fun K σ r hr=>by
  unfold sumF at hr;obtain ⟨hg,hq⟩:=qY hr;have e:=yGF hg
  have:=h (ex σ) K r hq
  rw [← e] at this;exact this
abbrev OrBL:=List (Nat × (List HV→List PV→Option (Bool × (PV × List PV))))
def yJA (P:Program) (f:Nat) (o:List HV→List PV→Option (Bool × (PV × List PV))):Prop:=∀ hs ps x ps',o hs ps=some (true,(x,ps'))→zJF P f hs ps x ps'
def orS (l:OrL) (m:OrBL):OrS:=⟨OrL.k l,asc m⟩
theorem yH {P:Program} {l:OrL} {m:OrBL} (h:AllP (fun x:Nat × (List PV→Option (Bool × Ret))=>jG P x.1 x.2) l) (hb:AllP (fun x:Nat × (List HV→List PV→Option (Bool × (PV × List PV)))=>yJA P x.1 x.2) m):(orS l m).Ok P :=
 ⟨OrL.ok h,fun _ _ ho hs ps x ps' hr=>hb.of (qQJ ho) hs ps x ps' hr⟩
end Go.Rx
namespace Go.Rx
open Go.RowKit Go.Sx
noncomputable def gEq (a b:PV):Bool:=@decide (a=b) (vZH _)
theorem qKE (a:PV):gEq a a=true:=@vYJ _ (vZH _) rfl
theorem qVG {a b:PV} (h:gEq a b=true):a=b:=@vYK _ (vZH _) h
noncomputable def g1 (l:List PV):Bool:=gEq (.t l) (.t l)
theorem g1_t (l:List PV):g1 l=true:=qKE _
noncomputable def o_lk (as_:List PV) (g:Bool) (r:Ret):List PV→Option (Bool × Ret):=fun ps=>some (gEq (.t ps) (.t as_) && g,r)
theorem kZH {P:Program} {f:Nat} {as_:List PV} {g:Bool} {r:Ret} (h:g=true→qH P f as_ r):jG P f (o_lk as_ g r):=by
 intro ps q hh;unfold o_lk at hh;simp only [vQZ,vQY,vQJ] at hh;obtain ⟨⟨hg,hb⟩,rfl⟩:=hh
 have:=qVG hg
 simp only [PV.t.injEq] at this;rw [this];exact h hb
noncomputable def o_cr (as_:List PV) (r:Ret):List PV→Option (Bool × Ret):=fun ps=>some (gEq (.t ps) (.t as_),r)
theorem qVJ {P:Program} {f:Nat} {as_:List PV} {r:Ret} (h:qH P f as_ r):jG P f (o_cr as_ r):=by
 intro ps q hh;unfold o_cr at hh;simp only [vQZ,vQY] at hh;obtain ⟨hg,rfl⟩:=hh
 have:=qVG hg
 simp only [PV.t.injEq] at this;rw [this];exact h
noncomputable def gP (p:Prop):Bool:=@decide p (vZH _)
theorem qYH {p:Prop} (h:p):gP p=true:=@vYJ _ (vZH _) h
theorem zX {p:Prop} (h:gP p=true):p:=@vYK _ (vZH _) h
noncomputable def gFam {τ:Type} (C:τ→Prop) (enc:τ→List PV) (t:τ) (ps:List PV):Bool:=gP (C t∧ps=enc t)
noncomputable def gF1 {τ:Type} (C:τ→Prop) (enc:τ→List PV) (t:τ):Bool:=gFam C enc t (enc t)
theorem jH {τ:Type} {C:τ→Prop} {enc:τ→List PV} {t:τ} (h:C t):gF1 C enc t=true:=qYH ⟨h,rfl⟩
noncomputable def o_fm {τ:Type} (dec:List PV→τ) (C:τ→Prop) (enc:τ→List PV) (res:τ→Ret):List PV→Option (Bool × Ret):=fun ps=>some (gFam C enc (dec ps) ps,res (dec ps))
theorem qQU {P:Program} {f:Nat} {τ:Type} {dec:List PV→τ} {C:τ→Prop} {enc:τ→List PV} {res:τ→Ret} (h:∀ t,C t→qH P f (enc t) (res t)):jG P f (o_fm dec C enc res):=by
 intro ps r hh;unfold o_fm at hh;simp only [vQZ,vQY] at hh;obtain ⟨hg,rfl⟩:=hh;obtain ⟨hc,e⟩:=zX hg
 have:=h _ hc
 rw [← e] at this;exact this
noncomputable def jVH {τ:Type} (C:τ→Prop) (eh:τ→List HV) (ep:τ→List PV) (t:τ) (hs:List HV) (ps:List PV):Bool:=gP (C t∧hs=eh t∧ps=ep t)
noncomputable def gB1 {τ:Type} (C:τ→Prop) (eh:τ→List HV) (ep:τ→List PV) (t:τ):Bool:=jVH C eh ep t (eh t) (ep t)
theorem qZE {τ:Type} {C:τ→Prop} {eh:τ→List HV} {ep:τ→List PV} {t:τ} (h:C t):gB1 C eh ep t=true:=qYH ⟨h,rfl,rfl⟩
noncomputable def o_fb {τ:Type} (dec:List HV→List PV→τ) (C:τ→Prop) (eh:τ→List HV) (ep:τ→List PV) (x:τ→PV) (qs:τ→List PV):List HV→List PV→Option (Bool × (PV × List PV)):=fun hs ps=>some (jVH C eh ep (dec hs ps) hs ps,(x (dec hs ps),qs (dec hs ps)))
theorem kZI {P:Program} {f:Nat} {τ:Type} {dec:List HV→List PV→τ} {C:τ→Prop} {eh:τ→List HV} {ep:τ→List PV} {x:τ→PV} {qs:τ→List PV} (h:∀ t,C t→zJF P f (eh t) (ep t) (x t) (qs t)):yJA P f (o_fb dec C eh ep x qs):=by
 intro hs ps y ps' hh;unfold o_fb at hh;simp only [vQZ,vQY] at hh;obtain ⟨hg,rfl,rfl⟩:=hh;obtain ⟨hc,e1,e2⟩:=zX hg
 have:=h _ hc
 rw [← e1,← e2] at this;exact this
def fQ (q:Nat→Int):Nat→List PV:=fun v=>[.n .i64 (q v)]
def unFQ (f:Nat→List PV):Nat→Int:=fun i=>match f i with
 | [.n _ x]=>x
 | _=>0
def iqOf (l:List Int):Nat→Int:=fun i=>l.getD i 0
theorem zJQ (l:List Int):Same (zUZ l) (.lf l.length (fQ (iqOf l))):=Same.lf (jZG 0 (fun x=>[PV.n .i64 x]) l)
theorem toN (p:Nat):(p:Int).toNat=p:=by omega
theorem jZ {p:Nat} (_:p < 1000000):vYX .i64 ((p:Int) + 1)=((p + 1:Nat):Int):=by rw [zU (by omega)]; omega
theorem zJ {p n:Nat} (_:p < n):inB (p:Int) n=true:=by unfold inB; rw [vYJ (show (0:Int)≤p by omega),vYJ (show (p:Int).toNat < n by omega)]; rfl
def qYZ {τ:Type} (nx:Nat→τ→τ):Nat→Nat→τ→τ
 | 0,_,s=>s
 | m + 1,p,s=>qYZ nx m (p + 1) (nx p s)
theorem qQK {τ β:Type} {nx:Nat→τ→τ} {KX:τ→β} {KR:Nat→τ→β}:∀ m p s,runS (fun _ _=>true) nx KX KR m p s=KX (qYZ nx m p s)
 | 0,_,_=>rfl
 | m + 1,p,s=>by
  simp only [runS,vYQ,qYZ];exact qQK m (p + 1) _
theorem jK {τ:Type} {nx:Nat→τ→τ} {Q:Nat→τ→Prop} {c:Nat} (h:∀ i s,i < c→Q i s→Q (i + 1) (nx i s)):∀ r p s,p + r=c→Q p s→Q c (qYZ nx r p s)
 | 0,p,s,hp,hq=>by
  obtain rfl:p=c:=by omega
  exact hq
 | r + 1,p,s,hp,hq=>jK h r (p + 1) (nx p s) (by omega) (h p s (by omega) hq)
theorem qHH {P:Program} {f e sz n:Nat} {g:Nat→List PV} {ps:List PV} (h:qH P f ps (.ow e sz (.fo n g))):qH P f ps (.v (.lf n g)):=by
 refine ⟨h.1,fun w F vals hF hal=>(h.2 w F vals hF hal).mono ?_⟩
 rintro en w' ⟨v,F',he,hg,f1,f2,hr⟩
 obtain ⟨F2,f3,f4,hx⟩:=hr.pv (x:=.lf n g) rfl;refine ⟨v,F2,he,hg,fun k hk=>f3 k (f1 k hk),fun k hk => ?_,hx⟩;rcases f4 k hk with h | h
 ·exact f2 k h
 ·exact .inr h
theorem zG {β:Type} (good:Nat→Bool) (KX:β) (KR:Nat→β):∀ k p,runS (fun (i:Nat) (_:Unit)=>good i) (fun _ _=>()) (fun _=>KX) (fun i _=>KR i) k p ()=qXK good KX KR k p
 | 0,_=>rfl
 | k + 1,p=>by simp only [runS,qXK,zG good KX KR k (p + 1)]
def slI (σ:St) (k:Nat):Int:=match jU σ.S k with
 | some (.v (.n _ x))=>x
 | _=>0
def lfN (σ:St) (k:Nat):Nat:=match jU σ.S k with
 | some (.v (.lf n _))=>n
 | _=>0
def rgN (σ:St) (k:Nat):Nat:=match qW σ.M k with
 | some (.reg _ _ (.fo n _))=>n
 | _=>0
def rgF (σ:St) (k:Nat):Nat→List PV:=match qW σ.M k with
 | some (.reg _ _ (.fo _ f))=>f
 | _=>fun _=>[]
def bkC (σ:St) (k i:Nat):Int:=match qW σ.M k with
 | some (.blk cs)=>match cs[i]? with
  | some (.v (.n _ x))=>x
  | _=>0
 | _=>0
def mA (w m:Nat):Nat→Nat
 | 0=>m
 | i + 1=>min (mA w m i + 1) w
theorem uJ {w m:Nat} (h:m≤w):∀ i,mA w m i≤w
 | 0=>h
 | i + 1=>Nat.min_le_right _ _
def eW (e:Nat→Int) (w m:Nat):Int:=bif Nat.blt m w then e m else 0
def nxV (e:Nat→Int) (w m:Nat) (k:Int):Int:=eW e w m % k
theorem qZA {e:Nat→Int} {w m:Nat} {k:Int} (h:0 < k):0≤nxV e w m k∧nxV e w m k < k:=⟨Int.emod_nonneg _ (by omega),Int.emod_lt_of_pos _ h⟩
end Go.Rx
namespace Go.Sx
def up (x:Int):Nat→Int
 | 0=>1073741824
 | 1=>yGZ (x * 6746518853) 65536
 | k + 2=>yGZ (up x (k + 1) * yGZ (x * 6746518853) 65536) 1073741824
end Go.Sx
namespace Go.Sx
def cN (a b:Nat):Nat:=(a + (b - 1)) / b
def d1N (x:Nat):Nat:=x * 6746518852 / 65536
def u1N (x:Nat):Nat:=(x * 6746518853 + 65535) / 65536
def dN (x:Nat):Nat→Nat
 | 0=>1073741824
 | 1=>d1N x
 | k + 2=>dN x (k + 1) * d1N x / 1073741824
def uN (x:Nat):Nat→Nat
 | 0=>1073741824
 | 1=>u1N x
 | k + 2=>(uN x (k + 1) * u1N x + 1073741823) / 1073741824
def sLo (x:Nat):Nat:=((dN x 1 + dN x 5 / 120) - (cN (uN x 3) 6 + cN (uN x 7) 5040)) / 16384
def sHi (x:Nat):Nat:=min 65536 ((((uN x 1 + cN (uN x 5) 120 + cN (uN x 9) 362880) - (dN x 3 / 6 + dN x 7 / 5040)) + 16383) / 16384)
def cLo (x:Nat):Nat:=((1073741824 + dN x 4 / 24 + dN x 8 / 40320) - (cN (uN x 2) 2 + cN (uN x 6) 720 + cN (uN x 10) 3628800)) / 16384
def cHi (x:Nat):Nat:=min 65536 ((((1073741824 + cN (uN x 4) 24 + cN (uN x 8) 40320) - (dN x 2 / 2 + dN x 6 / 720)) + 16383) / 16384)
def fLo (r:Nat):Nat:=if r≤8192 then sLo r else cLo (16384 - r)
def fHi (r:Nat):Nat:=if r≤8192 then sHi r else cHi (16384 - r)
theorem qGL {r:Nat} (h:r≤8192):fLo r=sLo r∧fHi r=sHi r:=⟨if_pos h,if_pos h⟩
theorem zWA {r:Nat} (_:8192 < r):fLo r=cLo (16384 - r)∧fHi r=cHi (16384 - r):=⟨if_neg (by omega),if_neg (by omega)⟩
def frc (n:Nat) (k:Nat→Bool):Bool:=Nat.rec (motive:=fun _=>Bool) (k 0) (fun m _=>k (Nat.succ m)) n
theorem yYH (n:Nat) (k:Nat→Bool):frc n k=k n:=by cases n <;> rfl
def zHV (x:Nat) (K:Nat→Nat→Nat→Nat→Bool):Bool :=
 frc x fun x=>frc (x * 6746518852 / 65536) fun d1=>frc ((x * 6746518853 + 65535) / 65536) fun u1 =>
 frc (d1 * d1 / 1073741824) fun d2=>frc ((u1 * u1 + 1073741823) / 1073741824) fun u2 =>
 frc (d2 * d1 / 1073741824) fun d3=>frc ((u2 * u1 + 1073741823) / 1073741824) fun u3 =>
 frc (d3 * d1 / 1073741824) fun d4=>frc ((u3 * u1 + 1073741823) / 1073741824) fun u4 =>
 frc (d4 * d1 / 1073741824) fun d5=>frc ((u4 * u1 + 1073741823) / 1073741824) fun u5 =>
 frc (d5 * d1 / 1073741824) fun d6=>frc ((u5 * u1 + 1073741823) / 1073741824) fun u6 =>
 frc (d6 * d1 / 1073741824) fun d7=>frc ((u6 * u1 + 1073741823) / 1073741824) fun u7 =>
 frc (d7 * d1 / 1073741824) fun d8=>frc ((u7 * u1 + 1073741823) / 1073741824) fun u8 =>
 frc ((u8 * u1 + 1073741823) / 1073741824) fun u9=>frc ((u9 * u1 + 1073741823) / 1073741824) fun u10 =>
 frc (((d1 + d5 / 120) - ((u3 + 5) / 6 + (u7 + 5039) / 5040)) / 16384) fun slo =>
 frc (min 65536 ((((u1 + (u5 + 119) / 120 + (u9 + 362879) / 362880) - (d3 / 6 + d7 / 5040)) + 16383) / 16384)) fun shi =>
 frc (((1073741824 + d4 / 24 + d8 / 40320) - ((u2 + 1) / 2 + (u6 + 719) / 720 + (u10 + 3628799) / 3628800)) / 16384) fun clo =>
 frc (min 65536 ((((1073741824 + (u4 + 23) / 24 + (u8 + 40319) / 40320) - (d2 / 2 + d6 / 720)) + 16383) / 16384)) fun chi=>K slo shi clo chi
theorem qHW (x:Nat) (K:Nat→Nat→Nat→Nat→Bool):zHV x K=K (sLo x) (sHi x) (cLo x) (cHi x):=by
 unfold zHV;simp only [yYH];rfl
def one (x a b c d:Nat):Bool :=
 Nat.ble a b && (Nat.ble b 65536 && (Nat.ble b (a + 2) && (Nat.ble c d && (Nat.ble d 65536 && (Nat.ble d (c + 2) &&
 (Nat.ble (4 * x) b && (Nat.ble (4 * x) (a + 2) && (Nat.ble a (x * 411775 / 65536 + 1) &&
 (Nat.ble (4 * (16384 - x)) d && (Nat.ble (4 * (16384 - x)) (c + 2) && (Nat.ble c ((16384 - x) * 411775 / 65536 + 1) &&
 (Nat.ble (a * a / 65536 + c * c / 65536) 65536 && Nat.ble 65536 ((b * b + 65535) / 65536 + (d * d + 65535) / 65536)))))))))))))
structure Fst (r:Nat):Prop where
 ord:fLo r≤fHi r
 top:fHi r≤65536
 wid:fHi r≤fLo r + 2
 ch1:4 * r≤fHi r
 ch2:4 * r≤fLo r + 2
 ch3:fLo r≤r * 411775 / 65536 + 1
end Go.Sx
namespace Go.Sx
def nn:Nat:=340282366920938463463374607431768211456
def uu:Nat:=5192296858534827628530496329220096
def uc:Nat:=340282365357037221779282487371359009126
def us:Nat:=32624163282081701561065576601652201
def w:Nat→Nat × Nat
 | 0=>(nn,0)
 | n + 1=>(((w n).1 * uc - (w n).2 * us) / nn,((w n).1 * us + (w n).2 * uc) / nn)
def bx (S C a b c d:Nat):Bool:=Nat.ble (a * 5192296858534827628530496329220096) S && (Nat.ble S (b * 5192296858534827628530496329220096) && (Nat.ble (c * 5192296858534827628530496329220096) C && Nat.ble C (d * 5192296858534827628530496329220096)))
def goU (C' T':Nat):Nat→Nat→Nat→Nat→Bool
 | 0,C,T,_=>Nat.beq C C' && Nat.beq T T'
 | k + 1,C,T,x=>(zHV x fun a b c d=>bx T C a b c d) && (Nat.ble (T * 32624163282081701561065576601652201) (C * 340282365357037221779282487371359009126) && frc ((C * 340282365357037221779282487371359009126 - T * 32624163282081701561065576601652201) / 340282366920938463463374607431768211456) fun C2=>frc ((C * 32624163282081701561065576601652201 + T * 340282365357037221779282487371359009126) / 340282366920938463463374607431768211456) fun T2=>frc (x + 1) fun x2=>goU C' T' k C2 T2 x2)
def goD (C' T':Nat):Nat→Nat→Nat→Nat→Bool
 | 0,C,T,_=>Nat.beq C C' && Nat.beq T T'
 | k + 1,C,T,x=>(zHV x fun a b c d=>bx C T a b c d) && (Nat.ble (T * 32624163282081701561065576601652201) (C * 340282365357037221779282487371359009126) && frc ((C * 340282365357037221779282487371359009126 - T * 32624163282081701561065576601652201) / 340282366920938463463374607431768211456) fun C2=>frc ((C * 32624163282081701561065576601652201 + T * 340282365357037221779282487371359009126) / 340282366920938463463374607431768211456) fun T2=>frc (x - 1) fun x2=>goD C' T' k C2 T2 x2)
structure BoxU (r:Nat):Prop where
 sl:sLo r * uu≤(w r).2
 sh:(w r).2≤sHi r * uu
 cl:cLo r * uu≤(w r).1
 ch:(w r).1≤cHi r * uu
 st:(w r).2 * us≤(w r).1 * uc
structure BoxD (r:Nat):Prop where
 sl:sLo (16384 - r) * uu≤(w r).1
 sh:(w r).1≤sHi (16384 - r) * uu
 cl:cLo (16384 - r) * uu≤(w r).2
 ch:(w r).2≤cHi (16384 - r) * uu
 st:(w r).2 * us≤(w r).1 * uc
theorem jV {C' T':Nat}:∀ k C T x,goU C' T' k C T x=true→w x=(C,T)→w (x + k)=(C',T')∧∀ i,x≤i→i < x + k→BoxU i
 | 0,C,T,x,h,e=>by
  simp only [goU,vQJ] at h;refine ⟨?_,fun i a b=>absurd b (by omega)⟩;rw [Nat.add_zero,e,vQU h.1,vQU h.2]
 | k + 1,C,T,x,h,e=>by
  simp only [goU,yYH,qHW,bx,vQJ] at h;obtain ⟨⟨h1,h2,h3,h4⟩,h5,h6⟩:=h;obtain ⟨q1,q2⟩:=jV k _ _ (x + 1) h6 (by rw [w,e]; rfl);refine ⟨by rw [← q1]; congr 1; omega,fun i a b => ?_⟩;by_cases hi:i=x
  ·subst hi;exact ⟨by rw [e]; exact vZJ h1,by rw [e]; exact vZJ h2,by rw [e]; exact vZJ h3,by rw [e]; exact vZJ h4,by rw [e]; exact vZJ h5⟩
  ·exact q2 i (by omega) (by omega)
theorem kQ {C' T':Nat}:∀ k C T r,r≤16384→k≤16384 - r→goD C' T' k C T (16384 - r)=true→w r=(C,T)→w (r + k)=(C',T')∧∀ i,r≤i→i < r + k→BoxD i
 | 0,C,T,x,_,_,h,e=>by
  simp only [goD,vQJ] at h;refine ⟨?_,fun i a b=>absurd b (by omega)⟩;rw [Nat.add_zero,e,vQU h.1,vQU h.2]
 | k + 1,C,T,x,g1,g2,h,e=>by
  simp only [goD,yYH,qHW,bx,vQJ] at h;obtain ⟨⟨h1,h2,h3,h4⟩,h5,h6⟩:=h;rw [show 16384 - x - 1=16384 - (x + 1) by omega] at h6;obtain ⟨q1,q2⟩:=kQ k _ _ (x + 1) (by omega) (by omega) h6 (by rw [w,e]; rfl);refine ⟨by rw [← q1]; congr 1; omega,fun i a b => ?_⟩;by_cases hi:i=x
  ·subst hi;exact ⟨by rw [e]; exact vZJ h1,by rw [e]; exact vZJ h2,by rw [e]; exact vZJ h3,by rw [e]; exact vZJ h4,by rw [e]; exact vZJ h5⟩
  ·exact q2 i (by omega) (by omega)
theorem wk0:goU 338643814315582355912937410983956791763 33353504510164655995148692933346502990 1024 340282366920938463463374607431768211456 0 0=true:=by decide +kernel
theorem wk1:goU 333743936656827580393945988194117882553 66385796539016198537004233666266150132 1024 338643814315582355912937410983956791763 33353504510164655995148692933346502990 1024=true:=by decide +kernel
theorem wk2:goU 325629922445073537381874007154866693371 98778757057029163154891549979681820108 1024 333743936656827580393945988194117882553 66385796539016198537004233666266150132 2048=true:=by decide +kernel
theorem wk3:goU 314379914072750776175968446003616356708 130220424146621615521356287373662035415 1024 325629922445073537381874007154866693371 98778757057029163154891549979681820108 3072=true:=by decide +kernel
theorem wk4:goU 300102255270364911803307903246760032214 160407997365957196655387116525924829546 1024 314379914072750776175968446003616356708 130220424146621615521356287373662035415 4096=true:=by decide +kernel
theorem wk5:goU 282934447697145148265594844368147524013 189050753882727566157415671255032869469 1024 300102255270364911803307903246760032214 160407997365957196655387116525924829546 5120=true:=by decide +kernel
theorem wk6:goU 263041826724899848421390153308517431640 215872848293952797667059038248426017122 1024 282934447697145148265594844368147524013 189050753882727566157415671255032869469 6144=true:=by decide +kernel
theorem wk7:goU 240615969168004511545033772483698474358 240615969168004511545033772471550468243 1024 263041826724899848421390153308517431640 215872848293952797667059038248426017122 7168=true:=by decide +kernel
theorem wk8:goD 215872848293952797667059038261706108609 263041826724899848421390153297618474197 1024 240615969168004511545033772483698474358 240615969168004511545033772471550468243 8192=true:=by decide +kernel
theorem wk9:goD 189050753882727566157415671269317183057 282934447697145148265594844358602552466 1024 215872848293952797667059038261706108609 263041826724899848421390153297618474197 7168=true:=by decide +kernel
theorem wk10:goD 160407997365957196655387116541075833093 300102255270364911803307903238660947340 1024 189050753882727566157415671269317183057 282934447697145148265594844358602552466 6144=true:=by decide +kernel
theorem wk11:goD 130220424146621615521356287389533852184 314379914072750776175968445997041138024 1024 160407997365957196655387116541075833093 300102255270364911803307903238660947340 5120=true:=by decide +kernel
theorem wk12:goD 98778757057029163154891549996121633199 325629922445073537381874007149878648288 1024 130220424146621615521356287389533852184 314379914072750776175968445997041138024 4096=true:=by decide +kernel
theorem wk13:goD 66385796539016198537004233683115673837 333743936656827580393945988190765036869 1024 98778757057029163154891549996121633199 325629922445073537381874007149878648288 3072=true:=by decide +kernel
theorem wk14:goD 33353504510164655995148692950443506845 338643814315582355912937410982271427247 1024 66385796539016198537004233683115673837 333743936656827580393945988190765036869 2048=true:=by decide +kernel
theorem wk15:goD 17179870747 340282366920938463463374607431766555032 1024 33353504510164655995148692950443506845 338643814315582355912937410982271427247 1024=true:=by decide +kernel
theorem ws0:w 0=(340282366920938463463374607431768211456,0):=rfl
theorem ws1:w 1024=(338643814315582355912937410983956791763,33353504510164655995148692933346502990):=(jV 1024 _ _ 0 wk0 ws0).1
theorem ws2:w 2048=(333743936656827580393945988194117882553,66385796539016198537004233666266150132):=(jV 1024 _ _ 1024 wk1 ws1).1
theorem ws3:w 3072=(325629922445073537381874007154866693371,98778757057029163154891549979681820108):=(jV 1024 _ _ 2048 wk2 ws2).1
theorem ws4:w 4096=(314379914072750776175968446003616356708,130220424146621615521356287373662035415):=(jV 1024 _ _ 3072 wk3 ws3).1
theorem ws5:w 5120=(300102255270364911803307903246760032214,160407997365957196655387116525924829546):=(jV 1024 _ _ 4096 wk4 ws4).1
theorem ws6:w 6144=(282934447697145148265594844368147524013,189050753882727566157415671255032869469):=(jV 1024 _ _ 5120 wk5 ws5).1
theorem ws7:w 7168=(263041826724899848421390153308517431640,215872848293952797667059038248426017122):=(jV 1024 _ _ 6144 wk6 ws6).1
theorem ws8:w 8192=(240615969168004511545033772483698474358,240615969168004511545033772471550468243):=(jV 1024 _ _ 7168 wk7 ws7).1
theorem ws9:w 9216=(215872848293952797667059038261706108609,263041826724899848421390153297618474197):=(kQ 1024 _ _ 8192 (by decide) (by decide) wk8 ws8).1
theorem ws10:w 10240=(189050753882727566157415671269317183057,282934447697145148265594844358602552466):=(kQ 1024 _ _ 9216 (by decide) (by decide) wk9 ws9).1
theorem ws11:w 11264=(160407997365957196655387116541075833093,300102255270364911803307903238660947340):=(kQ 1024 _ _ 10240 (by decide) (by decide) wk10 ws10).1
theorem ws12:w 12288=(130220424146621615521356287389533852184,314379914072750776175968445997041138024):=(kQ 1024 _ _ 11264 (by decide) (by decide) wk11 ws11).1
theorem ws13:w 13312=(98778757057029163154891549996121633199,325629922445073537381874007149878648288):=(kQ 1024 _ _ 12288 (by decide) (by decide) wk12 ws12).1
theorem ws14:w 14336=(66385796539016198537004233683115673837,333743936656827580393945988190765036869):=(kQ 1024 _ _ 13312 (by decide) (by decide) wk13 ws13).1
theorem ws15:w 15360=(33353504510164655995148692950443506845,338643814315582355912937410982271427247):=(kQ 1024 _ _ 14336 (by decide) (by decide) wk14 ws14).1
theorem boxU {r:Nat} (h:r < 8192):BoxU r:=by
 have hq:(0≤r∧r < 1024) ∨ (1024≤r∧r < 2048) ∨ (2048≤r∧r < 3072) ∨ (3072≤r∧r < 4096) ∨ (4096≤r∧r < 5120) ∨ (5120≤r∧r < 6144) ∨ (6144≤r∧r < 7168) ∨ (7168≤r∧r < 8192):=by omega
 rcases hq with h | h | h | h | h | h | h | h
 ·exact (jV 1024 _ _ 0 wk0 ws0).2 r h.1 h.2
 ·exact (jV 1024 _ _ 1024 wk1 ws1).2 r h.1 h.2
 ·exact (jV 1024 _ _ 2048 wk2 ws2).2 r h.1 h.2
 ·exact (jV 1024 _ _ 3072 wk3 ws3).2 r h.1 h.2
 ·exact (jV 1024 _ _ 4096 wk4 ws4).2 r h.1 h.2
 ·exact (jV 1024 _ _ 5120 wk5 ws5).2 r h.1 h.2
 ·exact (jV 1024 _ _ 6144 wk6 ws6).2 r h.1 h.2
 ·exact (jV 1024 _ _ 7168 wk7 ws7).2 r h.1 h.2
theorem boxD {r:Nat} (g:8192≤r) (h:r < 16384):BoxD r:=by
 have hq:(8192≤r∧r < 9216) ∨ (9216≤r∧r < 10240) ∨ (10240≤r∧r < 11264) ∨ (11264≤r∧r < 12288) ∨ (12288≤r∧r < 13312) ∨ (13312≤r∧r < 14336) ∨ (14336≤r∧r < 15360) ∨ (15360≤r∧r < 16384):=by omega
 rcases hq with h | h | h | h | h | h | h | h
 ·exact (kQ 1024 _ _ 8192 (by decide) (by decide) wk8 ws8).2 r h.1 h.2
 ·exact (kQ 1024 _ _ 9216 (by decide) (by decide) wk9 ws9).2 r h.1 h.2
 ·exact (kQ 1024 _ _ 10240 (by decide) (by decide) wk10 ws10).2 r h.1 h.2
 ·exact (kQ 1024 _ _ 11264 (by decide) (by decide) wk11 ws11).2 r h.1 h.2
 ·exact (kQ 1024 _ _ 12288 (by decide) (by decide) wk12 ws12).2 r h.1 h.2
 ·exact (kQ 1024 _ _ 13312 (by decide) (by decide) wk13 ws13).2 r h.1 h.2
 ·exact (kQ 1024 _ _ 14336 (by decide) (by decide) wk14 ws14).2 r h.1 h.2
 ·exact (kQ 1024 _ _ 15360 (by decide) (by decide) wk15 ws15).2 r h.1 h.2
theorem mid0:(zHV 8192 fun a b c d=>bx 240615969168004511545033772471550468243 240615969168004511545033772483698474358 a b c d)=true:=by decide +kernel
theorem mid:sLo 8192 * uu≤(w 8192).2∧(w 8192).2≤sHi 8192 * uu:=by
 have:=mid0
 simp only [qHW,bx,vQJ] at this;rw [ws8];exact ⟨vZJ this.1,vZJ this.2.1⟩
theorem box {r:Nat} (h:r < 16384):fLo r * uu≤(w r).2∧(w r).2≤fHi r * uu∧fLo (16384 - r) * uu≤(w r).1∧(w r).1≤fHi (16384 - r) * uu:=by
 rcases Nat.lt_or_ge r 8192 with h1 | h1
 ·have b:=boxU h1;rw [(qGL (r:=r) (by omega)).1,(qGL (r:=r) (by omega)).2,(zWA (r:=16384 - r) (by omega)).1,(zWA (r:=16384 - r) (by omega)).2,show 16384 - (16384 - r)=r by omega];exact ⟨b.sl,b.sh,b.cl,b.ch⟩
 ·have b:=boxD h1 h;rw [(qGL (r:=16384 - r) (by omega)).1,(qGL (r:=16384 - r) (by omega)).2];rcases Nat.lt_or_ge 8192 r with h2 | h2
  ·rw [(zWA (r:=r) (by omega)).1,(zWA (r:=r) (by omega)).2];exact ⟨b.cl,b.ch,b.sl,b.sh⟩
  ·have e:r=8192:=by omega
   subst e;rw [(qGL (r:=8192) (by omega)).1,(qGL (r:=8192) (by omega)).2];have k:=mid;exact ⟨k.1,k.2,b.sl,b.sh⟩
end Go.Sx
namespace Go.Sx
def WC (r:Nat):Int:=((w r).1:Int)
def WT (r:Nat):Int:=((w r).2:Int)
theorem w0:WC 0=(340282366920938463463374607431768211456:Int)∧WT 0=0:=⟨rfl,rfl⟩
end Go.Sx
namespace Go.Sx
structure In (I:Iv) (m x:Int):Prop where
 lo:I.lo * m≤x
 hi:x≤I.hi * m
def Ok (a:Iv):Prop:=-2147483648≤a.lo∧a.lo≤a.hi∧a.hi≤2147483648
end Go.Sx
namespace Go.Sx
structure V3 where
 x:Iv
 y:Iv
 z:Iv
structure M3 where
 x:V3
 y:V3
 z:V3
structure Po where
 r:M3
 t:V3
structure Z3 where
 x:Int
 y:Int
 z:Int
def v3 (v:V3):Value:=.agg #[.int .i64 v.x.lo,.int .i64 v.x.hi,.int .i64 v.y.lo,.int .i64 v.y.hi,.int .i64 v.z.lo,.int .i64 v.z.hi]
def m3 (v:M3):Value:=.agg #[.int .i64 v.x.x.lo,.int .i64 v.x.x.hi,.int .i64 v.x.y.lo,.int .i64 v.x.y.hi,.int .i64 v.x.z.lo,.int .i64 v.x.z.hi,
 .int .i64 v.y.x.lo,.int .i64 v.y.x.hi,.int .i64 v.y.y.lo,.int .i64 v.y.y.hi,.int .i64 v.y.z.lo,.int .i64 v.y.z.hi,
 .int .i64 v.z.x.lo,.int .i64 v.z.x.hi,.int .i64 v.z.y.lo,.int .i64 v.z.y.hi,.int .i64 v.z.z.lo,.int .i64 v.z.z.hi]
def V3.of (p:Z3):V3:=⟨Iv.of p.x,Iv.of p.y,Iv.of p.z⟩
def V3.add (a b:V3):V3:=⟨Iv.add a.x b.x,Iv.add a.y b.y,Iv.add a.z b.z⟩
def V3.sub (a b:V3):V3:=⟨Iv.sub a.x b.x,Iv.sub a.y b.y,Iv.sub a.z b.z⟩
def V3.neg (a:V3):V3:=⟨Iv.neg a.x,Iv.neg a.y,Iv.neg a.z⟩
def V3.dot (a b:V3):Iv:=Iv.add (Iv.add (Iv.mul a.x b.x) (Iv.mul a.y b.y)) (Iv.mul a.z b.z)
def M3.apply (m:M3) (v:V3):V3:=⟨V3.dot m.x v,V3.dot m.y v,V3.dot m.z v⟩
def limI (x:Int):Int:=min (max x (-65536)) 65536
def limV (a:Iv):Iv:=⟨limI a.lo,limI a.hi⟩
def M3.tr (m:M3):M3:=⟨⟨m.x.x,m.y.x,m.z.x⟩,⟨m.x.y,m.y.y,m.z.y⟩,⟨m.x.z,m.y.z,m.z.z⟩⟩
def M3.row (a:V3) (b:M3):V3:=⟨limV (V3.dot a b.tr.x),limV (V3.dot a b.tr.y),limV (V3.dot a b.tr.z)⟩
def M3.mul (a b:M3):M3:=⟨M3.row a.x b,M3.row a.y b,M3.row a.z b⟩
def iv0:Iv:=⟨0,0⟩
def iv1:Iv:=⟨65536,65536⟩
def M3.unit:M3:=⟨⟨iv1,iv0,iv0⟩,⟨iv0,iv1,iv0⟩,⟨iv0,iv0,iv1⟩⟩
def M3.zero:M3:=⟨⟨iv0,iv0,iv0⟩,⟨iv0,iv0,iv0⟩,⟨iv0,iv0,iv0⟩⟩
end Go.Sx
namespace Go.Sx
def V3.zero:V3:=⟨iv0,iv0,iv0⟩
def Po.shift (v:V3):Po:=⟨M3.unit,v⟩
def Po.rest:Po:=⟨M3.unit,V3.zero⟩
def Po.app (p:Po) (v:V3):V3:=V3.add p.t (M3.apply p.r v)
def Po.mul (p q:Po):Po:=⟨M3.mul p.r q.r,Po.app p q.t⟩
def Po.inv (p:Po):Po:=⟨M3.tr p.r,V3.neg (M3.apply (M3.tr p.r) p.t)⟩
end Go.Sx
namespace Go.Sx
structure J where
 name:ByteArray
 kind:Int
 parent:Int
 off:Z3
 lo:Int
 hi:Int
 weight:Int
 speed:Int
 accel:Int
 torque:Int
def ptOf (L:List Int) (q:Nat) (c:Z3):Z3:=⟨c.x + srcS L q 3 * 32768,c.y + srcS L (q + 1) 2 * 32768,c.z + srcS L (q + 2) 2 * 32768⟩
def ptsN (L:List Int) (p:Nat):Nat:=(srcR L p 4).toNat
def jYZ (L:List Int) (p:Nat) (c:Z3):Nat→List Z3
 | 0=>[c]
 | k + 1=>jYZ L p c k ++ [ptOf L (p + 1 + 3 * k) c]
def abc:ByteArray:=⟨#[97,98,99,100,101,102,103,104,105,106]⟩
def jKZ (k:Int):ByteArray:=abc.extract k.toNat (k + 1).toNat
def zWU (k:Int):Int:=if k=0 then 3 else if k=1 then 3 else if k=2 then 1 else if k=3 then 2 else if k=4 then 4 else if k=5 then 5 else if k=6 then 3 else 0
def jKY (L:List Int) (p:Nat) (k:Int):J:=⟨jKZ k,zWU (srcR L (p + 2) 8),if srcR L (p + 3) 4=1 then -1 else k - 1,if 0 < k then ⟨131072,srcS L (p + 4) 2 * 32768,srcS L (p + 5) 1 * 32768⟩ else ⟨0,0,0⟩,0,0,1 + srcR L p 4,65536,65536 + srcR L (p + 1) 3,327680⟩
def jQ (p:Nat) (k:Int):Nat:=if 0 < k then p + 6 else p + 4
def yYZ (L:List Int) (p:Nat) (k:Int):J × Nat :=
 if zWU (srcR L (p + 2) 8)=0 then (jKY L p k,jQ p k)
 else if zWU (srcR L (p + 2) 8)=4 ∨ zWU (srcR L (p + 2) 8)=5 then ({ jKY L p k with lo:=-srcR L (jQ p k) 3 * 65536,hi:=srcR L (jQ p k + 1) 4 * 32768 },jQ p k + 2)
 else ({ jKY L p k with lo:=(-srcR L (jQ p k) 5 * 65536).tdiv 8,hi:=((1 + srcR L (jQ p k + 1) 4) * 65536).tdiv 8 + srcR L (jQ p k + 2) 3 },jQ p k + 3)
def nJ (L:List Int) (i:Nat):Nat:=(1 + srcR L i 3).toNat
def jsOf (L:List Int) (i:Nat):Nat→List J × Nat
 | 0=>([],i + 1)
 | k + 1=>((jsOf L i k).1 ++ [(yYZ L (jsOf L i k).2 (k:Int)).1],(yYZ L (jsOf L i k).2 (k:Int)).2)
structure Ms where
 link:Int
 mass:Int
 p:Z3
def mQ (L:List Int) (i:Nat):Nat:=(jsOf L i (nJ L i)).2
def nM (L:List Int) (i:Nat):Nat:=(srcR L (mQ L i) 3).toNat
def robQ (L:List Int) (i:Nat):Nat:=mQ L i + 1 + 4 * nM L i
structure Sp where
 link:Int
 radius:Int
 pts:List Z3
abbrev Ad:=Option Addr × Nat
def jVX (l:List Int) (q k:Nat):Sp:=⟨(k:Int),((1 + srcR l (q + 1) 3) * 65536).tdiv 8,jYZ l (q + 3) ⟨srcR l (q + 2) 4 * 32768,0,0⟩ (ptsN l (q + 3))⟩
def shA (l:List Int):Nat→List Sp × Nat
 | 0=>([],robQ l 0)
 | k + 1=>if srcR l (shA l k).2 5 < 4 then ((shA l k).1 ++ [jVX l (shA l k).2 k],(shA l k).2 + 3 + 1 + 3 * ptsN l ((shA l k).2 + 3)) else ((shA l k).1,(shA l k).2 + 1)
def obN (l:List Int):Nat:=(1 + srcR l (shA l (nJ l 0)).2 3).toNat
def obSp (l:List Int) (q:Nat):Sp:=⟨-1,((1 + srcR l (q + 3) 4) * 65536).tdiv 8,jYZ l (q + 4) ⟨srcS l q 9 * 32768,srcS l (q + 1) 9 * 32768,srcS l (q + 2) 2 * 32768⟩ (ptsN l (q + 4))⟩
def shB (l:List Int):Nat→List Sp × Nat
 | 0=>((shA l (nJ l 0)).1,(shA l (nJ l 0)).2 + 1)
 | k + 1=>((shB l k).1 ++ [obSp l (shB l k).2],(shB l k).2 + 4 + 1 + 3 * ptsN l ((shB l k).2 + 4))
abbrev ScX:=Ad × Ad × Ad × Ad × List Ad
def scP (l:List Int) (x:ScX):Prop:=x.2.2.2.2.length=(shB l (obN l)).1.length
end Go.Sx
namespace Go.Sx
def ivc (v:Iv):List Value:=[.int .i64 v.lo,.int .i64 v.hi]
def ivC (rows:List Iv):List Value:=(rows.map ivc).flatten
theorem jHQ (l:List Iv):∀ r ∈ l.map ivc,r.length=2:=fun r hr=>by
 obtain ⟨v,_,rfl⟩:=List.mem_map.1 hr;rfl
end Go.Sx
namespace Go.Sx
section
variable {P:Program} {w0:Base} {S:zW} {H:Heap} {d:Option Tmp} {ty:TypeId} {pos:String} {af:Array Edge} {g:Option (Nat × Bool)}
end
def V3.put (k:Int) (a:Iv):V3:=if k=0 then ⟨a,iv0,iv0⟩ else if k=1 then ⟨iv0,a,iv0⟩ else ⟨iv0,iv0,a⟩
end Go.Sx
namespace Go.Rx
open Go.RowKit Go.Sx
def PV.i64:PV→Option Int
 | .n .i64 x=>some x
 | _=>none
def ints (cs:List PV):Option (List Int):=mapO PV.i64 cs
def ivC (p:Iv):List PV:=[.n .i64 p.lo,.n .i64 p.hi]
def ivD (cs:List PV):Option Iv:=(ints cs).bind fun l=>bif Nat.beq l.length 2 then some ⟨(l.getD 0 0),(l.getD 1 0)⟩ else none
def z3D (cs:List PV):Option Z3:=(ints cs).bind fun l=>bif Nat.beq l.length 3 then some ⟨(l.getD 0 0),(l.getD 1 0),(l.getD 2 0)⟩ else none
def v3C (p:V3):List PV:=[.n .i64 p.x.lo,.n .i64 p.x.hi,.n .i64 p.y.lo,.n .i64 p.y.hi,.n .i64 p.z.lo,.n .i64 p.z.hi]
def v3D (cs:List PV):Option V3:=(ints cs).bind fun l=>bif Nat.beq l.length 6 then some ⟨⟨(l.getD 0 0),(l.getD 1 0)⟩,⟨(l.getD 2 0),(l.getD 3 0)⟩,⟨(l.getD 4 0),(l.getD 5 0)⟩⟩ else none
def m3D (cs:List PV):Option M3:=(ints cs).bind fun l=>bif Nat.beq l.length 18 then some ⟨⟨⟨(l.getD 0 0),(l.getD 1 0)⟩,⟨(l.getD 2 0),(l.getD 3 0)⟩,⟨(l.getD 4 0),(l.getD 5 0)⟩⟩,⟨⟨(l.getD 6 0),(l.getD 7 0)⟩,⟨(l.getD 8 0),(l.getD 9 0)⟩,⟨(l.getD 10 0),(l.getD 11 0)⟩⟩,⟨⟨(l.getD 12 0),(l.getD 13 0)⟩,⟨(l.getD 14 0),(l.getD 15 0)⟩,⟨(l.getD 16 0),(l.getD 17 0)⟩⟩⟩ else none
def poC (p:Po):List PV:=[.n .i64 p.r.x.x.lo,.n .i64 p.r.x.x.hi,.n .i64 p.r.x.y.lo,.n .i64 p.r.x.y.hi,.n .i64 p.r.x.z.lo,.n .i64 p.r.x.z.hi,.n .i64 p.r.y.x.lo,.n .i64 p.r.y.x.hi,.n .i64 p.r.y.y.lo,.n .i64 p.r.y.y.hi,.n .i64 p.r.y.z.lo,.n .i64 p.r.y.z.hi,.n .i64 p.r.z.x.lo,.n .i64 p.r.z.x.hi,.n .i64 p.r.z.y.lo,.n .i64 p.r.z.y.hi,.n .i64 p.r.z.z.lo,.n .i64 p.r.z.z.hi,.n .i64 p.t.x.lo,.n .i64 p.t.x.hi,.n .i64 p.t.y.lo,.n .i64 p.t.y.hi,.n .i64 p.t.z.lo,.n .i64 p.t.z.hi]
def poD (cs:List PV):Option Po:=(ints cs).bind fun l=>bif Nat.beq l.length 24 then some ⟨⟨⟨⟨(l.getD 0 0),(l.getD 1 0)⟩,⟨(l.getD 2 0),(l.getD 3 0)⟩,⟨(l.getD 4 0),(l.getD 5 0)⟩⟩,⟨⟨(l.getD 6 0),(l.getD 7 0)⟩,⟨(l.getD 8 0),(l.getD 9 0)⟩,⟨(l.getD 10 0),(l.getD 11 0)⟩⟩,⟨⟨(l.getD 12 0),(l.getD 13 0)⟩,⟨(l.getD 14 0),(l.getD 15 0)⟩,⟨(l.getD 16 0),(l.getD 17 0)⟩⟩⟩,⟨⟨(l.getD 18 0),(l.getD 19 0)⟩,⟨(l.getD 20 0),(l.getD 21 0)⟩,⟨(l.getD 22 0),(l.getD 23 0)⟩⟩⟩ else none
end Go.Rx
namespace Go.Proofs.YtmeldddgjfocdaaGreat
open Go.Sx Go.Rx Rt Go.RowKit
namespace Tn
end Tn
open Tn
theorem ty2:tyB Tryz.prog 2 false 1=true:=by kernel_rfl
namespace Tn
noncomputable def zXG:List PV→Option (Bool × Ret):=fun ps=>match ps with
 | [.a a']=>(ivD a').bind fun a=>some (true,.v (.b (Iv.valid a)))
 | _=>none
noncomputable def zXU:List PV→Option (Bool × Ret):=fun ps=>match ps with
 | [.a a']=>(ivD a').bind fun a=>some (true,.v (.b (Iv.valid a)))
 | _=>none
end Tn
namespace Tn
end Tn
namespace Tn
end Tn
namespace Tn
end Tn
end Go.Proofs.YtmeldddgjfocdaaGreat
namespace Go.Proofs.YtmeldddgjfocdaaGreat
open Go.Sx Go.Rx Rt Go.RowKit
namespace Ta
end Ta
open Ta
namespace Ta
end Ta
namespace Ta
end Ta
namespace Ta
end Ta
namespace Ta
end Ta
namespace Ta
end Ta
namespace Ta
end Ta
namespace Ta
end Ta
namespace Ta
noncomputable def jVZ:List PV→Option (Bool × Ret):=fun ps=>match ps with
 | [.n .i64 x]=>some (true,.v (.a (ivC (Iv.of x))))
 | _=>none
end Ta
end Go.Proofs.YtmeldddgjfocdaaGreat
namespace Go.Proofs.YtmeldddgjfocdaaGreat
end Go.Proofs.YtmeldddgjfocdaaGreat
namespace Go.Proofs.YtmeldddgjfocdaaGreat
end Go.Proofs.YtmeldddgjfocdaaGreat
namespace Go.Proofs.YtmeldddgjfocdaaGreat
open Go.Sx Go.Rx Rt Go.RowKit
namespace Tp
end Tp
open Tp
namespace Tp
noncomputable def zXV:List PV→Option (Bool × Ret):=fun ps=>match ps with
 | [.a m',.a v']=>(m3D m').bind fun m=>(v3D v').bind fun v=>some (true,.v (.a (v3C (M3.apply m v))))
 | _=>none
end Tp
end Go.Proofs.YtmeldddgjfocdaaGreat
namespace Go.Proofs.YtmeldddgjfocdaaGreat
end Go.Proofs.YtmeldddgjfocdaaGreat
namespace Go.Proofs.YtmeldddgjfocdaaGreat
end Go.Proofs.YtmeldddgjfocdaaGreat
namespace Go.Proofs.YtmeldddgjfocdaaGreat.Od
open Go.Rx Rt Go.Sx Go.RowKit
def F_b:Bool→Option (Ret × Mem):=fun v=>some (.v (.b v),[])
def jp (j:J):List PV:=[.s j.name,.n .i64 j.kind,.n .i64 j.parent,.n .i64 j.off.x,.n .i64 j.off.y,.n .i64 j.off.z,.n .i64 j.lo,.n .i64 j.hi,.n .i64 j.weight,.n .i64 j.speed,.n .i64 j.accel,.n .i64 j.torque]
def mp (m:Ms):List PV:=[.n .i64 m.link,.n .i64 m.mass,.n .i64 m.p.x,.n .i64 m.p.y,.n .i64 m.p.z]
def F_n:Int→Option (Ret × Mem):=fun v=>some (.v (.n .i64 v),[])
def cjT {α:Type} (f:Int→α) (i:Int) (j:J):α:=(bif (decide (j.kind < 0)) then (f 803) else (bif (decide (6 < j.kind)) then (f 803) else (bif (decide (j.parent < (-1))) then (f 804) else (bif (decide (i≤j.parent)) then (f 804) else (bif (decide (j.off.x < (-4194304))) then (f 805) else (bif (decide (4194304 < j.off.x)) then (f 805) else (bif (decide (j.off.y < (-4194304))) then (f 805) else (bif (decide (4194304 < j.off.y)) then (f 805) else (bif (decide (j.off.z < (-4194304))) then (f 805) else (bif (decide (4194304 < j.off.z)) then (f 805) else (bif (decide (j.kind=0)) then (bif (decide (j.hi < j.lo)) then (f 806) else (bif (decide (j.lo < 0)) then (f 806) else (bif (decide (0 < j.hi)) then (f 806) else (bif (decide (1≤j.weight)) then (bif (decide (j.weight≤1024)) then (bif (decide (1≤j.speed)) then (bif (decide (j.speed≤1048576)) then (bif (decide (1≤j.accel)) then (bif (decide (j.accel≤1048576)) then (bif (decide (1≤j.torque)) then (bif (decide (j.torque≤1099511627776)) then (f 0) else (f 807)) else (f 807)) else (f 807)) else (f 807)) else (f 807)) else (f 807)) else (f 807)) else (f 807))))) else (bif (decide (j.kind=1)) then (bif (decide (j.hi < j.lo)) then (f 806) else (bif (decide (j.lo < (-524288))) then (f 806) else (bif (decide (524288 < j.hi)) then (f 806) else (bif (decide (1≤j.weight)) then (bif (decide (j.weight≤1024)) then (bif (decide (1≤j.speed)) then (bif (decide (j.speed≤1048576)) then (bif (decide (1≤j.accel)) then (bif (decide (j.accel≤1048576)) then (bif (decide (1≤j.torque)) then (bif (decide (j.torque≤1099511627776)) then (f 0) else (f 807)) else (f 807)) else (f 807)) else (f 807)) else (f 807)) else (f 807)) else (f 807)) else (f 807))))) else (bif (decide (j.kind=2)) then (bif (decide (j.hi < j.lo)) then (f 806) else (bif (decide (j.lo < (-524288))) then (f 806) else (bif (decide (524288 < j.hi)) then (f 806) else (bif (decide (1≤j.weight)) then (bif (decide (j.weight≤1024)) then (bif (decide (1≤j.speed)) then (bif (decide (j.speed≤1048576)) then (bif (decide (1≤j.accel)) then (bif (decide (j.accel≤1048576)) then (bif (decide (1≤j.torque)) then (bif (decide (j.torque≤1099511627776)) then (f 0) else (f 807)) else (f 807)) else (f 807)) else (f 807)) else (f 807)) else (f 807)) else (f 807)) else (f 807))))) else (bif (decide (j.kind=3)) then (bif (decide (j.hi < j.lo)) then (f 806) else (bif (decide (j.lo < (-524288))) then (f 806) else (bif (decide (524288 < j.hi)) then (f 806) else (bif (decide (1≤j.weight)) then (bif (decide (j.weight≤1024)) then (bif (decide (1≤j.speed)) then (bif (decide (j.speed≤1048576)) then (bif (decide (1≤j.accel)) then (bif (decide (j.accel≤1048576)) then (bif (decide (1≤j.torque)) then (bif (decide (j.torque≤1099511627776)) then (f 0) else (f 807)) else (f 807)) else (f 807)) else (f 807)) else (f 807)) else (f 807)) else (f 807)) else (f 807))))) else (bif (decide (j.hi < j.lo)) then (f 806) else (bif (decide (j.lo < (-4194304))) then (f 806) else (bif (decide (4194304 < j.hi)) then (f 806) else (bif (decide (1≤j.weight)) then (bif (decide (j.weight≤1024)) then (bif (decide (1≤j.speed)) then (bif (decide (j.speed≤1048576)) then (bif (decide (1≤j.accel)) then (bif (decide (j.accel≤1048576)) then (bif (decide (1≤j.torque)) then (bif (decide (j.torque≤1099511627776)) then (f 0) else (f 807)) else (f 807)) else (f 807)) else (f 807)) else (f 807)) else (f 807)) else (f 807)) else (f 807)))))))))))))))))))
noncomputable def yWZ:List PV→Option (Bool × Ret):=fun ps=>match ps with
 | [.n .i64 n,.n .i64 k]=>some (decide (0 < k∧k≤9223372036854775807),.v (.n .i64 (n % k)))
 | _=>none
noncomputable def L1:OrL:=(23,yWZ) :: ([]:OrL)
noncomputable def jVZ:List PV→Option (Bool × Ret):=fun ps=>match ps with
 | [.n .i64 x]=>some (true,.v (.a (ivC (Iv.of x))))
 | _=>none
noncomputable def L2:OrL:=(128,jVZ) :: L1
noncomputable def yWQ:List PV→Option (Bool × Ret):=fun ps=>match ps with
 | [.a p',.a v']=>(poD p').bind fun p=>(v3D v').bind fun v=>some (true,.v (.a (v3C (Po.app p v))))
 | _=>none
noncomputable def L3:OrL:=(78,yWQ) :: L2
noncomputable def zXV:List PV→Option (Bool × Ret):=fun ps=>match ps with
 | [.a m',.a v']=>(m3D m').bind fun m=>(v3D v').bind fun v=>some (true,.v (.a (v3C (M3.apply m v))))
 | _=>none
noncomputable def L4:OrL:=(159,zXV) :: L3
noncomputable def zXW:List PV→Option (Bool × Ret):=fun ps=>match ps with
 | [.a z']=>(z3D z').bind fun z=>some (true,.v (.a (v3C (V3.of z))))
 | _=>none
noncomputable def L5:OrL:=(79,zXW) :: L4
end Go.Proofs.YtmeldddgjfocdaaGreat.Od
namespace Go.Proofs.YtmeldddgjfocdaaGreat.Na
open Go.Rx Rt Go.Sx Go.RowKit Od
def okC (first:Bool) (c:Int):Bool:=(decide (97≤c) && decide (c≤122)) || (!first && ((decide (48≤c) && decide (c≤57)) || decide (c=95)))
def allC (s:ByteArray):Nat→Nat→Bool
 | 0,_=>true
 | k + 1,p=>okC (decide ((p:Int)=0)) (qUY s p) && allC s k (p + 1)
def wrld:ByteArray:=ByteArray.mk #[119,111,114,108,100]
def nmB (s:ByteArray):Bool:=!(decide ((s.size:Int)=0)) && (!(decide (16 < (s.size:Int))) && (!(s.toList == wrld.toList) && allC s s.size 0))
theorem zXK {f:Bool} {c:Int} (_:128≤c):okC f c=false:=by
 unfold okC;rw [vYY (show ¬ c≤122 by omega),vYY (show ¬ c≤57 by omega),vYY (show ¬ c=95 by omega)]
 simp
theorem zHU {s:ByteArray} {p:Nat} (h:p < s.size):qUY s p=((s[p]'h).toNat:Int):=by
 unfold qUY;rw [getElem?_pos s p h];rfl
def hTn (s:ByteArray) (pos:Nat):St:=⟨[(18,.p 18 0)],[(18,.itr s pos)]⟩
def jZF {α:Type} (first:Bool) (c:Int) (g k:α):α:=(bif (decide (97≤c)) then (bif (decide (c≤122)) then g else (bif first then k else (bif (decide (48≤c)) then (bif (decide (c≤57)) then g else (bif (!decide (c=95)) then k else g)) else (bif (!decide (c=95)) then k else g)))) else (bif first then k else (bif (decide (48≤c)) then (bif (decide (c≤57)) then g else (bif (!decide (c=95)) then k else g)) else (bif (!decide (c=95)) then k else g))))
theorem yUG {α:Type} (first:Bool) (c:Int) (g k:α):jZF first c g k=bif okC first c then g else k:=by
 unfold jZF okC;cases first <;> cases hA:decide (97≤c) <;> cases hB:decide (c≤122) <;> cases hC:decide (48≤c) <;> cases hD:decide (c≤57) <;> cases hE:decide (c=95) <;> first | rfl | (exfalso; simp only [decide_eq_true_eq,decide_eq_false_iff_not] at *; omega)
set_option maxRecDepth 100000 in
theorem rdTn (G:St→Option (Ret × Mem)) (K:Cont) (s:ByteArray) (pos:Nat):qZX 60 (cxF T (OrL.k ([]:OrL)) 60 61 (ntmF T 61)) (ckF T (OrL.k ([]:OrL)) 60) (qQ T 61 [0,1,0,1,1]) (fun e τ=>match e with
 | .normal=>G (qQD ((cxF T (OrL.k ([]:OrL)) 60 61 (ntmF T 61)).T.hint (cxF T (OrL.k ([]:OrL)) 60 61 (ntmF T 61)).me (qJ (qQ T 61 [0,1,0,1,1]))) τ)
 | e=>K e (qQZ ((cxF T (OrL.k ([]:OrL)) 60 61 (ntmF T 61)).T.hint (cxF T (OrL.k ([]:OrL)) 60 61 (ntmF T 61)).me (qJ (qQ T 61 [0,1,0,1,1]))) τ)) (hTn s pos) =
 bif (decide (pos < s.size)) then jZF (decide ((pos:Int)=0)) ((Utf8.decode s pos).1:Int) (G (hTn s (pos + (Utf8.decode s pos).2))) (K .ret ⟨[(2,.v (.b false))],[]⟩) else (K (.exit 0) ⟨[],[]⟩):=by kernel_rfl
theorem lpTn (K:Cont) (s:ByteArray):∀ (k p m:Nat),p + k=s.size→k < m→LF 60 (cxF T (OrL.k ([]:OrL)) 60 61 (ntmF T 61)) (ckF T (OrL.k ([]:OrL)) 60) (qQ T 61 [0,1,0,1,1]) ((cxF T (OrL.k ([]:OrL)) 60 61 (ntmF T 61)).T.hint (cxF T (OrL.k ([]:OrL)) 60 61 (ntmF T 61)).me (qJ (qQ T 61 [0,1,0,1,1]))) K m (hTn s p)=bif allC s k p then (K (.exit 0) ⟨[],[]⟩) else (K .ret ⟨[(2,.v (.b false))],[]⟩)
 | 0,p,m + 1,hp,hm=>by
  refine (rdTn (fun σ=>LF 60 (cxF T (OrL.k ([]:OrL)) 60 61 (ntmF T 61)) (ckF T (OrL.k ([]:OrL)) 60) (qQ T 61 [0,1,0,1,1]) ((cxF T (OrL.k ([]:OrL)) 60 61 (ntmF T 61)).T.hint (cxF T (OrL.k ([]:OrL)) 60 61 (ntmF T 61)).me (qJ (qQ T 61 [0,1,0,1,1]))) K m σ) K s p).trans ?_;rw [vYY (show ¬ p < s.size by omega)];rfl
 | k + 1,p,m + 1,hp,hm=>by
  refine (rdTn (fun σ=>LF 60 (cxF T (OrL.k ([]:OrL)) 60 61 (ntmF T 61)) (ckF T (OrL.k ([]:OrL)) 60) (qQ T 61 [0,1,0,1,1]) ((cxF T (OrL.k ([]:OrL)) 60 61 (ntmF T 61)).T.hint (cxF T (OrL.k ([]:OrL)) 60 61 (ntmF T 61)).me (qJ (qQ T 61 [0,1,0,1,1]))) K m σ) K s p).trans ?_;have hlt:p < s.size:=by omega
  rw [vYJ hlt,vYQ,yUG];simp only [allC];have hb:=zHU hlt;by_cases h128:(s[p]'hlt).toNat < 128
  ·rw [Go.decode_ascii s p hlt h128,hb];rw [lpTn K s k (p + 1) m (by omega) (by omega)];cases okC (decide ((p:Int)=0)) ((s[p]'hlt).toNat:Int) <;> rfl
  ·have hd:=(Go.decode_high s p hlt (by omega)).1;rw [zXK (c:=((Utf8.decode s p).1:Int)) (by omega),zXK (c:=qUY s p) (by omega)];rfl
set_option maxRecDepth 100000 in
theorem pxTn (s:ByteArray):qVE T (OrL.k ([]:OrL)) (qZ [([0,1,0,1,1],kG (hTn s 0) (fun K=>bif decide (16 < (s.size:Int)) then none else (bif allC s s.size 0 then (K (.exit 0) ⟨[],[]⟩) else (K .ret ⟨[(2,.v (.b false))],[]⟩))))]) 60 61 [.s s] =
 (bif (decide ((s.size:Int)=0)) then some (.v (.b false),[]) else (bif (decide (16 < (s.size:Int))) then some (.v (.b false),[]) else (bif (s.toList == (ByteArray.mk #[119,111,114,108,100]).toList) then some (.v (.b false),[]) else (bif gSt (hTn s 0) (hTn s 0) then (bif decide (16 < (s.size:Int)) then none else (bif allC s s.size 0 then some (.v (.b true),[]) else some (.v (.b false),[]))) else none)))):=by kernel_rfl
theorem jUX (s:ByteArray):qH Tryz.prog 61 [.s s] (.v (.b (nmB s))):=by
 refine uW (N:=60) (LO:=qZ [([0,1,0,1,1],kG (hTn s 0) (fun K=>bif decide (16 < (s.size:Int)) then none else (bif allC s s.size 0 then (K (.exit 0) ⟨[],[]⟩) else (K .ret ⟨[(2,.v (.b false))],[]⟩))))]) zV qG (OrL.ok (l:=[]) trivial) (fun p S hp => ?_) ?_
 ·refine qQB (L:=qQ T 61) (l:=[([0,1,0,1,1],kG (hTn s 0) (fun K=>bif decide (16 < (s.size:Int)) then none else (bif allC s s.size 0 then (K (.exit 0) ⟨[],[]⟩) else (K .ret ⟨[(2,.v (.b false))],[]⟩))))]) (show AllP _ [([0,1,0,1,1],kG (hTn s 0) (fun K=>bif decide (16 < (s.size:Int)) then none else (bif allC s s.size 0 then (K (.exit 0) ⟨[],[]⟩) else (K .ret ⟨[(2,.v (.b false))],[]⟩))))] from ⟨qZU fun K r hr => ?_,trivial⟩) p S hp;cases hq:decide (16 < (s.size:Int)) with
  | true=>rw [hq] at hr; cases hr
  | false =>
   rw [hq] at hr;have h16:=vYU hq;exact (lpTn K s s.size 0 60 (by omega) (by omega)).trans hr
 ·refine (pxTn s).trans ?_;rw [zQ,vYQ];show _=some (Ret.v (.b (!(decide ((s.size:Int)=0)) && (!(decide (16 < (s.size:Int))) && (!(s.toList == (ByteArray.mk #[119,111,114,108,100]).toList) && allC s s.size 0)))),[]);cases decide ((s.size:Int)=0) <;> cases decide (16 < (s.size:Int)) <;> cases (s.toList == (ByteArray.mk #[119,111,114,108,100]).toList) <;> cases allC s s.size 0 <;> rfl
def hRn (s:ByteArray) (i:Int):St:=⟨[(0,.v (.s s)),(3,.v (.n .i64 i))],[]⟩
def jZI {α:Type} (b:Bool) (first:Bool) (c:Int) (g k:Option α):Option α:=(bif b then (bif (decide (97≤c)) then (bif b then (bif (decide (c≤122)) then g else (bif first then k else (bif b then (bif (!decide (c=95)) then (bif b then (bif (decide (c < 48)) then k else (bif b then (bif (decide (57 < c)) then k else g) else none)) else none) else g) else none))) else none) else (bif first then k else (bif b then (bif (!decide (c=95)) then (bif b then (bif (decide (c < 48)) then k else (bif b then (bif (decide (57 < c)) then k else g) else none)) else none) else g) else none))) else none)
theorem yUH {α:Type} (first:Bool) (c:Int) (g k:Option α):jZI true first c g k=bif okC first c then g else k:=by
 unfold jZI okC;rw [show decide (c < 48) = !decide (48≤c) by rw [← decide_not]; exact decide_eq_decide.2 (by omega),show decide (57 < c) = !decide (c≤57) by rw [← decide_not]; exact decide_eq_decide.2 (by omega)];cases first <;> cases hA:decide (97≤c) <;> cases hB:decide (c≤122) <;> cases hC:decide (48≤c) <;> cases hD:decide (c≤57) <;> cases hE:decide (c=95) <;> first | rfl | (exfalso; simp only [decide_eq_true_eq,decide_eq_false_iff_not] at *; omega)
set_option maxRecDepth 100000 in
theorem rdRn (G:St→Option (Ret × Mem)) (K:Cont) (s:ByteArray) (i:Int):qZX 60 (cxF T (OrL.k ([]:OrL)) 60 116 (ntmF T 116)) (ckF T (OrL.k ([]:OrL)) 60) (qQ T 116 [0,1,0,1,1]) (fun e τ=>match e with
 | .normal=>G (qQD ((cxF T (OrL.k ([]:OrL)) 60 116 (ntmF T 116)).T.hint (cxF T (OrL.k ([]:OrL)) 60 116 (ntmF T 116)).me (qJ (qQ T 116 [0,1,0,1,1]))) τ)
 | e=>K e (qQZ ((cxF T (OrL.k ([]:OrL)) 60 116 (ntmF T 116)).T.hint (cxF T (OrL.k ([]:OrL)) 60 116 (ntmF T 116)).me (qJ (qQ T 116 [0,1,0,1,1]))) τ)) (hRn s i) =
 bif (decide (i < (s.size:Int))) then jZI (inB i s.size) (decide (i=0)) (qUY s i.toNat) (G (hRn s (vYX .i64 (i + 1)))) (K .ret ⟨[(2,.v (.b false))],[]⟩) else (K (.exit 0) ⟨[],[]⟩):=by kernel_rfl
theorem lpRn (K:Cont) (s:ByteArray) (hs:s.size≤1000):∀ (k p m:Nat),p + k=s.size→k < m→LF 60 (cxF T (OrL.k ([]:OrL)) 60 116 (ntmF T 116)) (ckF T (OrL.k ([]:OrL)) 60) (qQ T 116 [0,1,0,1,1]) ((cxF T (OrL.k ([]:OrL)) 60 116 (ntmF T 116)).T.hint (cxF T (OrL.k ([]:OrL)) 60 116 (ntmF T 116)).me (qJ (qQ T 116 [0,1,0,1,1]))) K m (hRn s p)=bif allC s k p then (K (.exit 0) ⟨[],[]⟩) else (K .ret ⟨[(2,.v (.b false))],[]⟩)
 | 0,p,m + 1,hp,hm=>by
  refine (rdRn (fun σ=>LF 60 (cxF T (OrL.k ([]:OrL)) 60 116 (ntmF T 116)) (ckF T (OrL.k ([]:OrL)) 60) (qQ T 116 [0,1,0,1,1]) ((cxF T (OrL.k ([]:OrL)) 60 116 (ntmF T 116)).T.hint (cxF T (OrL.k ([]:OrL)) 60 116 (ntmF T 116)).me (qJ (qQ T 116 [0,1,0,1,1]))) K m σ) K s p).trans ?_;rw [vYY (show ¬ (p:Int) < (s.size:Int) by omega)];rfl
 | k + 1,p,m + 1,hp,hm=>by
  refine (rdRn (fun σ=>LF 60 (cxF T (OrL.k ([]:OrL)) 60 116 (ntmF T 116)) (ckF T (OrL.k ([]:OrL)) 60) (qQ T 116 [0,1,0,1,1]) ((cxF T (OrL.k ([]:OrL)) 60 116 (ntmF T 116)).T.hint (cxF T (OrL.k ([]:OrL)) 60 116 (ntmF T 116)).me (qJ (qQ T 116 [0,1,0,1,1]))) K m σ) K s p).trans ?_;have hB:inB (p:Int) s.size=true:=by unfold inB; rw [vYJ (show (0:Int)≤p by omega),vYJ (show (p:Int).toNat < s.size by omega)]; rfl
  rw [vYJ (show (p:Int) < (s.size:Int) by omega),vYQ,hB,yUH];simp only [allC];rw [show vYX .i64 ((p:Int) + 1)=((p + 1:Nat):Int) by rw [zU (by omega)]; omega,lpRn K s hs k (p + 1) m (by omega) (by omega)];show (bif okC (decide ((p:Int)=0)) (qUY s (p:Int).toNat) then _ else _)=_;rw [show (p:Int).toNat=p by omega];cases okC (decide ((p:Int)=0)) (qUY s p) <;> rfl
set_option maxRecDepth 100000 in
theorem pxRn (s:ByteArray):qVE T (OrL.k ([]:OrL)) (qZ [([0,1,0,1,1],kG (hRn s 0) (fun K=>bif decide (16 < (s.size:Int)) then none else (bif allC s s.size 0 then (K (.exit 0) ⟨[],[]⟩) else (K .ret ⟨[(2,.v (.b false))],[]⟩))))]) 60 116 [.s s] =
 (bif (decide ((s.size:Int) < 1)) then some (.v (.b false),[]) else (bif (decide (16 < (s.size:Int))) then some (.v (.b false),[]) else (bif (s.toList == (ByteArray.mk #[119,111,114,108,100]).toList) then some (.v (.b false),[]) else (bif gSt (hRn s 0) (hRn s 0) then (bif decide (16 < (s.size:Int)) then none else (bif allC s s.size 0 then some (.v (.b true),[]) else some (.v (.b false),[]))) else none)))):=by kernel_rfl
theorem jUW (s:ByteArray):qH Tryz.prog 116 [.s s] (.v (.b (nmB s))):=by
 refine uW (N:=60) (LO:=qZ [([0,1,0,1,1],kG (hRn s 0) (fun K=>bif decide (16 < (s.size:Int)) then none else (bif allC s s.size 0 then (K (.exit 0) ⟨[],[]⟩) else (K .ret ⟨[(2,.v (.b false))],[]⟩))))]) zV qG (OrL.ok (l:=[]) trivial) (fun p S hp => ?_) ?_
 ·refine qQB (L:=qQ T 116) (l:=[([0,1,0,1,1],kG (hRn s 0) (fun K=>bif decide (16 < (s.size:Int)) then none else (bif allC s s.size 0 then (K (.exit 0) ⟨[],[]⟩) else (K .ret ⟨[(2,.v (.b false))],[]⟩))))]) (show AllP _ [([0,1,0,1,1],kG (hRn s 0) (fun K=>bif decide (16 < (s.size:Int)) then none else (bif allC s s.size 0 then (K (.exit 0) ⟨[],[]⟩) else (K .ret ⟨[(2,.v (.b false))],[]⟩))))] from ⟨qZU fun K r hr => ?_,trivial⟩) p S hp;cases hq:decide (16 < (s.size:Int)) with
  | true=>rw [hq] at hr; cases hr
  | false =>
   rw [hq] at hr;have h16:=vYU hq;exact (lpRn K s (by omega) s.size 0 60 (by omega) (by omega)).trans hr
 ·refine (pxRn s).trans ?_;rw [zQ,vYQ];rw [show decide ((s.size:Int) < 1)=decide ((s.size:Int)=0) from decide_eq_decide.2 (by omega)];show _=some (Ret.v (.b (!(decide ((s.size:Int)=0)) && (!(decide (16 < (s.size:Int))) && (!(s.toList == (ByteArray.mk #[119,111,114,108,100]).toList) && allC s s.size 0)))),[]);cases decide ((s.size:Int)=0) <;> cases decide (16 < (s.size:Int)) <;> cases (s.toList == (ByteArray.mk #[119,111,114,108,100]).toList) <;> cases allC s s.size 0 <;> rfl
end Go.Proofs.YtmeldddgjfocdaaGreat.Na

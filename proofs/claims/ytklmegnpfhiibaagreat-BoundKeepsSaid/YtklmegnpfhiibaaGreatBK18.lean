/- Part 18 of the texts behind the last one: rules and contracts. No condition. -/
import Derived.Test.YtklmegnpfhiibaaGreatBK17
open Option renaming bind_eq_some_iff → vQQ, bind_some → vZV
open Option.some renaming injEq → vQZ
open Prod.mk renaming injEq → vQY
open Bool renaming and_eq_true → vQJ, and_self → vZQ, true_and → vZW
open List renaming getElem?_eq_getElem → vQK, length_cons → vQX, getElem?_map → vQH, getD_eq_getElem?_getD → vZX
open Nat renaming le_of_ble_eq_true → vZJ
open Classical renaming propDecidable → vYQ
open Go.IntKind renaming wrap → vYW
namespace Go.Rx
open Go.RowKit Go.Sx
def zQQ {β:Type} (good:Nat→Bool) (KX:β) (KR:Nat→β):Nat→Nat→β
 | 0,_=>KX
 | k + 1,p=>bif good p then zQQ good KX KR k (p + 1) else KR p
def allN (good:Nat→Bool):Nat→Nat→Bool
 | 0,_=>true
 | k + 1,p=>good p && allN good k (p + 1)
theorem qQA {β:Type} (good:Nat→Bool) (x y:β):∀ k p,zQQ good x (fun _=>y) k p=bif allN good k p then x else y
 | 0,_=>rfl
 | k + 1,p=>by
  simp only [zQQ,allN,qQA good x y k (p + 1)];cases good p <;> rfl
theorem allN_iff {good:Nat→Bool}:∀ {k p:Nat},allN good k p=true ↔ ∀ j,p≤j→j < p + k→good j=true
 | 0,p=>⟨fun _ j h1 h2=>by omega,fun _=>rfl⟩
 | k + 1,p=>by
  simp only [allN,vQJ,allN_iff (k:=k)];exact ⟨fun h j h1 h2=>by
   rcases Nat.eq_or_lt_of_le h1 with e | e
   ·exact e ▸ h.1
   ·exact h.2 j e (by omega),fun h=>⟨h p (Nat.le_refl _) (by omega),fun j h1 h2=>h j (by omega) (by omega)⟩⟩
def firstK (good:Nat→Bool):Nat→Nat→Nat
 | 0,p=>p
 | k + 1,p=>bif good p then firstK good k (p + 1) else p
theorem runAll_first {β:Type} (good:Nat→Bool) (x:β) (y:Nat→β):∀ k p,zQQ good x y k p=bif allN good k p then x else y (firstK good k p)
 | 0,_=>rfl
 | k + 1,p=>by
  simp only [zQQ,allN,firstK,runAll_first good x y k (p + 1)];cases good p <;> rfl
def zWJ (N:Nat) (C:Cx) (cK:qYQ) (x:Code) (h:Hint) (K:Cont) (G:St→Option (Ret × Mem)) (σ:St):Option (Ret × Mem):=qJD N C cK x (fun e τ=>match e with
 | .normal=>G (qZB h τ)
 | e=>K e (qQE h τ)) σ
theorem LF_succ {N:Nat} {C:Cx} {cK:qYQ} {x:Code} {h:Hint} {K:Cont} {n:Nat} {σ:St}:LF N C cK x h K (n + 1) σ=zWJ N C cK x h K (fun σ=>LF N C cK x h K n σ) σ:=rfl
theorem zXG {N:Nat} {C:Cx} {cK:qYQ} {x:Code} {h:Hint} {K:Cont} (hd:Int→St) (good:Nat→Bool) {c:Nat} (KX:Option (Ret × Mem)) (KR:Nat→Option (Ret × Mem))
  (r1:∀ G (i:Nat),i < c→zWJ N C cK x h K G (hd (i:Int))=bif good i then G (hd ((i + 1:Nat):Int)) else KR i)
  (r2:∀ G,zWJ N C cK x h K G (hd (c:Int))=KX):∀ (k p q:Nat),p + k=c→k < q→LF N C cK x h K q (hd (p:Int))=zQQ good KX KR k p
 | 0,p,q + 1,hp,_=>by
  rw [LF_succ,show p=c by omega];exact r2 _
 | k + 1,p,q + 1,hp,hq=>by
  rw [LF_succ,r1 _ p (by omega),zXG hd good KX KR r1 r2 k (p + 1) q (by omega) (by omega)];rfl
theorem rows_fn {α:Type} (d:α) (f:α→List PV) (l:List α):l.map f=(List.range l.length).map fun i=>f (l.getD i d):=by
 refine List.ext_getElem? fun i => ?_
 rw [vQH,vQH];by_cases h:i < l.length
 ·rw [List.getElem?_range h,vQK h];simp [vZX,h]
 ·rw [List.getElem?_eq_none (by omega),List.getElem?_eq_none (by simp; omega)];rfl
theorem qYY {P:Program} {f:Nat} {ps ps':List PV} {r:Ret} (hs:∀ F w vals,Al (RP F w) ps' vals→Al (RP F w) ps vals) (h:zY P f ps r):zY P f ps' r :=
 ⟨h.1,fun w F vals hF hal=>h.2 w F vals hF (hs F w vals hal)⟩
theorem qKV {P:Program} {f:Nat} {ps:List PV} {x y:PV} (hs:∀ F w v,RP F w x v→RP F w y v) (h:zY P f ps (.v x)):zY P f ps (.v y) :=
 ⟨h.1,fun w F vals hF hal=>(h.2 w F vals hF hal).mono fun _ w' ⟨v,F',he,hg,f1,f2,hr⟩=>⟨v,F',he,hg,f1,f2,hs F' w' v hr⟩⟩
theorem rp_lf_l {F:Nat→Prop} {w:World} {n:Nat} {f:Nat→List PV} {rows:List (List PV)} {v:Value} (e:rows=(List.range n).map f) (h:RP F w (.l rows) v):RP F w (.lf n f) v:=.lf n f v (e ▸ h)
theorem rp_l_lf {F:Nat→Prop} {w:World} {n:Nat} {f:Nat→List PV} {rows:List (List PV)} {v:Value} (e:rows=(List.range n).map f) (h:RP F w (.lf n f) v):RP F w (.l rows) v:=by
 cases h with
 | lf _ _ _ h=>exact e ▸ h
def Same (x y:PV):Prop:=∀ F w v,RP F w x v→RP F w y v
theorem Same.refl (x:PV):Same x x:=fun _ _ _ h=>h
theorem Same.lf {n:Nat} {f:Nat→List PV} {rows:List (List PV)} (e:rows=(List.range n).map f):Same (.l rows) (.lf n f):=fun _ _ _=>rp_lf_l e
theorem Same.l {n:Nat} {f:Nat→List PV} {rows:List (List PV)} (e:rows=(List.range n).map f):Same (.lf n f) (.l rows):=fun _ _ _=>rp_l_lf e
def Sames:List PV→List PV→Prop
 | [],[]=>True
 | x :: xs,y :: ys=>Same x y∧Sames xs ys
 | _,_=>False
theorem Sames.al {F:Nat→Prop} {w:World}:∀ {xs ys:List PV} {vs:List Value},Sames xs ys→Al (RP F w) xs vs→Al (RP F w) ys vs
 | [],[],_,_,h=>h
 | x :: xs,y :: ys,vs,hs,h=>by
  obtain ⟨v,vs,rfl,h1,h2⟩:=uJ h;exact qUF (hs.1 F w v h1) (Sames.al hs.2 h2)
 | [],_ :: _,_,h,_=>h.elim
 | _ :: _,[],_,h,_=>h.elim
theorem Same.a {xs ys:List PV} (h:Sames xs ys):Same (.a xs) (.a ys):=fun F w v hv=>by
 cases hv with
 | a _ vs hl h1 hh =>
  have:=Sames.al h (show Al (RP F w) xs vs from ⟨hl,hh⟩)
  exact .a ys vs this.1 h1 this.2
theorem Same.t {xs ys:List PV} (h:Sames xs ys):Same (.t xs) (.t ys):=fun F w v hv=>by
 cases hv with
 | t _ vs hl hh =>
  have:=Sames.al h (show Al (RP F w) xs vs from ⟨hl,hh⟩)
  exact .t ys vs this.1 this.2
end Go.Rx
namespace Go.Rx
open Go.RowKit Go.Sx Go.ChangeShapes Go.WideShapes
section
variable {P:Program} {W:World} {H:Type} {enc:TypeId × Value→H}
def Fits (row:List Sh) (ps:List PV):Prop:=ps.length=row.length∧∀ (i:Nat) sh p,row[i]? = some sh→ps[i]? = some p→Fit sh p
theorem Fits.cons {s0:Sh} {row:List Sh} {ps:List PV} (h:Fits (s0 :: row) ps):∃ p qs,ps=p :: qs∧Fit s0 p∧Fits row qs:=by
 cases ps with
 | nil=>have:=h.1; simp at this
 | cons p qs=>exact ⟨p,qs,rfl,h.2 0 s0 p rfl rfl,by have:=h.1; simpa using this,fun i sh q h1 h2=>h.2 (i + 1) sh q h1 h2⟩
theorem Fits.nil {ps:List PV} (h:Fits [] ps):ps=[]:=List.eq_nil_of_length_eq_zero h.1
theorem Fit.int {k:IntKind} {p:PV} (h:Fit (.i k) p):∃ x,p=.n k x∧(Lit.int k x).wf=true:=by cases h with | i k x h=>exact ⟨x,rfl,h⟩
theorem Fit.str {p:PV} (h:Fit .s p):∃ x,p=.s x:=by cases h with | s x h=>exact ⟨x,rfl⟩
theorem Fit.bool {p:PV} (h:Fit .b p):∃ x,p=.b x:=by cases h with | b x=>exact ⟨x,rfl⟩
theorem Fit.slc {row:List Sh} {p:PV} (h:Fit (.l row) p):∃ n f,p=.lf n f∧∀ j,j < n→Fits row (f j):=by
 cases h with
 | l row n f hn hl h=>exact ⟨n,f,rfl,fun j hj=>⟨hl j hj,h j hj⟩⟩
theorem qXV {n:Nat} {f g:Nat→List PV} (h:∀ j,j < n→f j=g j):Same (.lf n f) (.lf n g):=fun F w v hv =>
 rp_lf_l (List.map_congr_left fun j hj=>h j (List.mem_range.1 hj)) (rp_l_lf rfl hv)
end
end Go.Rx
namespace Go.Rx
open Go.RowKit Go.Sx
def kX (N:Nat) (C:Cx) (x:Code) (S:yV):Prop:=∀ (K K':Cont) (K0:Ret × Mem→Option (Ret × Mem)) (σ:St) (r:Ret × Mem),(∀ e τ,K e τ=some r→Gets K0 r (K' e τ))→S (qZB (C.T.hint C.me (zZ x)) σ) K=some r →
 Gets K0 r (qWL (fun again σ=>runC N C x (fun e σ=>match e with
   | .normal=>again σ
   | e=>K' e (qQE (C.T.hint C.me (zZ x)) σ)) (qZB (C.T.hint C.me (zZ x)) σ)) N σ)
section
variable {C:Cx} {cK:qYQ} {r:Ret × Mem} {K0:Ret × Mem→Option (Ret × Mem)}
theorem qZJ {N:Nat} {LO:List Nat→Option yV} {B:Code} (hc:SndK C cK) (hL:∀ p S,LO p=some S→kX N C (uG 0 (kZ B p)) S):∀ (c:Code) (p:List Nat) {K K':Cont} (hp:kZ B p=c) (hK:∀ e σ,K e σ=some r→Gets K0 r (K' e σ)) (σ:St),qVL N C cK LO c p K σ=some r→Gets K0 r (runC N C c K' σ)
 | .skip,p,K,K',hp,hK,σ,h=>hK _ _ h
 | .label _,p,K,K',hp,hK,σ,h=>hK _ _ h
 | .scope x,p,K,K',hp,hK,σ,h=>qZJ hc hL x (0 :: p) (by simp only [kZ,hp,uG]) hK σ h
 | .ret,p,K,K',hp,hK,σ,h=>hK _ _ h
 | .exit id,p,K,K',hp,hK,σ,h=>hK _ _ h
 | .region id ops d,p,K,K',hp,hK,σ,h=>by
  have h:=preK_eq.symm.trans h;refine Eq.mpr (congrArg (Gets K0 r) (preK_eq (F:=fun σ=>bif d then qZA C ops 0 ops.toList [] (K' .normal) σ else qXF C ops ops.toList (K' .normal) σ))) ?_;cases d with
  | true=>exact qJC hc (hK .normal) _ _ _ _ h
  | false=>exact qUX hc (hK .normal) _ _ h
 | .seq x y,p,K,K',hp,hK,σ,h=>by
  refine qZJ hc hL x (0 :: p) (by simp only [kZ,hp,uG]) (fun e τ hk => ?_) σ h;cases e with
  | normal=>exact qZJ hc hL y (1 :: p) (by simp only [kZ,hp,uG]) hK τ hk
  | _=>exact hK _ _ hk
 | .cond c x y,p,K,K',hp,hK,σ,h=>by
  simp only [qVL,vQQ] at h;obtain ⟨v,hv,h⟩:=h;simp only [runC,hv,vZV];split at h
  ·rename_i t;cases t with
   | true=>exact qZJ hc hL x (0 :: p) (by simp only [kZ,hp,uG]) hK σ h
   | false=>exact qZJ hc hL y (1 :: p) (by simp only [kZ,hp,uG]) hK σ h
  ·cases h
 | .block id x,p,K,K',hp,hK,σ,h=>by
  refine qZJ hc hL x (0 :: p) (by simp only [kZ,hp,uG]) (fun e τ hk => ?_) σ h;cases e with
  | exit id' =>
   simp only at hk ⊢;cases hb:Nat.beq id' id with
   | true=>rw [hb] at hk; exact hK _ _ hk
   | false=>rw [hb] at hk; exact hK _ _ hk
  | _=>exact hK _ _ hk
 | .loop x,p,K,K',hp,hK,σ,h=>by
  simp only [qVL] at h;simp only [runC];cases hS:LO p with
  | none =>
   rw [hS] at h;refine qXQ (fun a a' ha τ hs => ?_) N σ h;refine qQG hc x (fun e υ hk => ?_) _ hs;cases e with
   | normal=>exact ha _ hk
   | _=>exact hK _ _ hk
  | some S =>
   rw [hS] at h
   have:=hL p S hS
   rw [hp] at this;exact this K K' K0 σ r hK h
 | .rangeFunc ..,p,K,K',hp,hK,σ,h=>by cases h
 | .goto _,p,K,K',hp,hK,σ,h=>by cases h
 | .refuse _,p,K,K',hp,hK,σ,h=>by cases h
end
def zGA (N:Nat) (C:Cx) (cK:qYQ) (LO:List Nat→Option yV) (x:Code) (p:List Nat) (h:Hint) (K:Cont) (G:St→Option (Ret × Mem)) (σ:St):Option (Ret × Mem):=qVL N C cK LO x (0 :: p) (fun e τ=>match e with
 | .normal=>G (qZB h τ)
 | e=>K e (qQE h τ)) σ
def LFL (N:Nat) (C:Cx) (cK:qYQ) (LO:List Nat→Option yV) (x:Code) (p:List Nat) (h:Hint) (K:Cont):Nat→St→Option (Ret × Mem)
 | 0,_=>none
 | n + 1,σ=>zGA N C cK LO x p h K (LFL N C cK LO x p h K n) σ
theorem LFL_get {N:Nat} {C:Cx} {cK:qYQ} {LO:List Nat→Option yV} {B x:Code} {p:List Nat} {K K':Cont} {K0:Ret × Mem→Option (Ret × Mem)} {r:Ret × Mem} (hc:SndK C cK) (hL:∀ p S,LO p=some S→kX N C (uG 0 (kZ B p)) S) (hx:kZ B (0 :: p)=x)
  (hK:∀ e τ,K e τ=some r→Gets K0 r (K' e τ)):∀ (n:Nat) (σ:St),LFL N C cK LO x p (C.T.hint C.me (zZ x)) K n (qZB (C.T.hint C.me (zZ x)) σ)=some r→Gets K0 r (qWL (fun again σ=>runC N C x (fun e σ=>match e with
   | .normal=>again σ
   | e=>K' e (qQE (C.T.hint C.me (zZ x)) σ)) (qZB (C.T.hint C.me (zZ x)) σ)) n σ)
 | 0,σ,h=>by cases h
 | n + 1,σ,h=>by
  simp only [LFL,zGA] at h;simp only [qWL];refine qZJ hc hL x (0 :: p) hx (fun e τ hk => ?_) _ h;cases e with
  | normal=>exact LFL_get hc hL hx hK n τ hk
  | _=>exact hK _ _ hk
theorem loopOk2_of {N:Nat} {C:Cx} {cK:qYQ} {LO:List Nat→Option yV} {B x:Code} {p:List Nat} {S:yV} (hc:SndK C cK) (hL:∀ p S,LO p=some S→kX N C (uG 0 (kZ B p)) S) (hx:kZ B (0 :: p)=x)
  (hS:∀ K σ r,S σ K=some r→LFL N C cK LO x p (C.T.hint C.me (zZ x)) K N σ=some r):kX N C x S:=fun K _ _ σ r hK h =>
 LFL_get hc hL hx hK N σ (hS K _ r h)
theorem qX {N:Nat} {C:Cx} {L:List Nat→Code}:∀ {l:List (List Nat × yV)},AllP (fun x:List Nat × yV=>kX N C (L x.1) x.2) l→∀ p S,qY l p=some S→kX N C (L p) S
 | [],_,p,S,h=>by cases h
 | x :: xs,hl,p,S,h=>by
  simp only [qY] at h;cases hb:zJZ x.1 p with
  | true =>
   rw [hb] at h;simp only [vYZ,vQZ] at h;subst h
   have:=zZD hb
   subst this;exact hl.1
  | false =>
   rw [hb] at h;exact qX hl.2 p S h
theorem runKL_sound2 {P:Program} {T:Tab} {ok:OrK} {LO:List Nat→Option yV} {N f:Nat} {ps:List PV} {r:Ret} (hT:TabOk P T) (hm:P.follows .mixedOrders=true) (hO:ok.Ok P)
  (hL:∀ p S,LO p=some S→kX N (cxF T ok N f (ntmF T f)) (qZ T f p) S) (h:qWK T ok LO N f ps=some (r,[])):zY P f ps r:=by
 refine qZI (N:=N + 1) hT hm hO.orc ?_;unfold qWK at h;split at h
 ·cases h
 ·rename_i fi hfi;obtain ⟨hb,h⟩:=qQ h;obtain ⟨q,h1,h2⟩:=qZJ (K0:=fun q=>some (q.1,[])) (K':=endK T [] fi.results) (B:=qWH T f) zVG hL (qWH T f) [] rfl (fun e σ hk=>by
   simp only [vQQ] at hk;exact hk) _ h
  cases h2;have eb:qWH T f=fi.body:=by unfold qWH; rw [hfi]
  have en:ntmF T f=fi.ntmps:=by unfold ntmF; rw [hfi]
  rw [eb,en] at h1;unfold run;simp only [runF,hfi,hb,vYZ];unfold cxF at h1;rw [h1];rfl
noncomputable def sumF {τ:Type} (hd:τ→St) (ex:St→τ) (R:τ→Cont→Option (Ret × Mem)):yV:=fun σ K=>bif gSt σ (hd (ex σ)) then R (ex σ) K else none
theorem sumF_ok {N:Nat} {T:Tab} {ok:OrK} {f:Nat} {LO:List Nat→Option yV} {p:List Nat} {τ:Type} {hd:τ→St} {ex:St→τ} {R:τ→Cont→Option (Ret × Mem)}
  (hL:∀ p S,LO p=some S→kX N (cxF T ok N f (ntmF T f)) (qZ T f p) S)
  (h:∀ s K r,R s K=some r→LFL N (cxF T ok N f (ntmF T f)) (ckF T ok N) LO (qZ T f p) p (T.hint f (zZ (qZ T f p))) K N (hd s)=some r):kX N (cxF T ok N f (ntmF T f)) (qZ T f p) (sumF hd ex R) :=
 loopOk2_of (B:=qWH T f) (cK:=ckF T ok N) zVG hL rfl fun K σ r hr=>by
  unfold sumF at hr;obtain ⟨hg,hq⟩:=qQ hr;have e:=yQB hg
  have:=h (ex σ) K r hq
  rw [← e] at this;exact this
theorem jU {N:Nat} {C:Cx} {L:List Nat→Code}:∀ p S,qY [] p=some S→kX N C (L p) S:=fun p S h=>by cases h
def qG {τ υ:Type} (dec:τ→τ ⊕ υ):Nat→τ→Option υ
 | 0,_=>none
 | n + 1,s=>match dec s with
  | .inl s'=>qG dec n s'
  | .inr y=>some y
theorem qYG {τ υ β:Type} {L:Nat→St→Option β} {stp:(St→Option β)→St→Option β} (hs:∀ n s,L (n + 1) s=stp (L n) s) (h0:∀ s,L 0 s=none) (hd:τ→St) (Inv:τ→Prop) (dec:τ→τ ⊕ υ) (KX:υ→Option β)
  (r1:∀ G s,Inv s→stp G (hd s)=match dec s with | .inl s'=>G (hd s') | .inr y=>KX y) (hi:∀ s s',Inv s→dec s=.inl s'→Inv s'):∀ n s,Inv s→L n (hd s)=(qG dec n s).bind KX
 | 0,s,_=>by rw [h0]; rfl
 | n + 1,s,h=>by
  rw [hs,r1 _ s h,qG];cases hd':dec s with
  | inl s'=>exact qYG hs h0 hd Inv dec KX r1 hi n s' (hi s s' h hd')
  | inr y=>rfl
def runS {τ β:Type} (good:Nat→τ→Bool) (nx:Nat→τ→τ) (KX:τ→β) (KR:Nat→τ→β):Nat→Nat→τ→β
 | 0,_,s=>KX s
 | k + 1,p,s=>bif good p s then runS good nx KX KR k (p + 1) (nx p s) else KR p s
theorem qKL {τ β:Type} {L:Nat→St→Option β} {stp:(St→Option β)→St→Option β} (hs:∀ n s,L (n + 1) s=stp (L n) s) (hd:Nat→τ→St) (Inv:Nat→τ→Prop) (good:Nat→τ→Bool) (nx:Nat→τ→τ) {c:Nat} (KX:τ→Option β) (KR:Nat→τ→Option β)
  (r1:∀ G i s,i < c→Inv i s→stp G (hd i s)=bif good i s then G (hd (i + 1) (nx i s)) else KR i s) (hi:∀ i s,i < c→Inv i s→good i s=true→Inv (i + 1) (nx i s))
  (r2:∀ G s,Inv c s→stp G (hd c s)=KX s):∀ k p q s,p + k=c→k < q→Inv p s→L q (hd p s)=runS good nx KX KR k p s
 | 0,p,q + 1,s,hp,_,hv=>by
  have e:p=c:=by omega
  subst e;rw [hs,r2 _ s hv]; rfl
 | k + 1,p,q + 1,s,hp,hq,hv=>by
  rw [hs,r1 _ p s (by omega) hv];simp only [runS];cases hg:good p s with
  | true=>exact qKL hs hd Inv good nx KX KR r1 hi r2 k (p + 1) q (nx p s) (by omega) (by omega) (hi p s (by omega) hv hg)
  | false=>rfl
end Go.Rx
namespace Go.Rx
open Go.RowKit Go.Sx
abbrev Ev:=Nat→Op→List RV→(Eff→Option (Ret × Mem))→Option (Ret × Mem)
def EvOk (C:Cx) (ev:Ev):Prop:=∀ dst op vs K r,ev dst op vs K=some r→∃ e,qU C.T C.cA C.cB C.me dst op vs=some e∧K e=some r
def goE (C:Cx) (ev:Ev) (o:Oper) (σ:St) (K:Eff × List RV→Option (Ret × Mem)):Option (Ret × Mem) :=
 bif dstB C.n o.dst then
  (mapO (opv (mode o.op) σ) o.op.operands.toList).bind fun vs=>ev (o.dst.getD 0) o.op vs fun e =>
   bif e.nw.all (fun id=>(qV σ.M id).isNone && Nat.blt id 2000000) then K (e,vs) else none
 else none
def yZJ (C:Cx) (ev:Ev) (ops:Array Oper) (o:Oper) (σ:St) (K:Eff × List RV→Option (Ret × Mem)):Option (Ret × Mem) :=
 match o.guard with
 | none=>goE C ev o σ K
 | some (j,b)=>match (ops[j]?).bind (·.dst) with
  | some d=>match kH σ.S d with
   | some (.v (.b c))=>(match b with
    | true=>bif c then goE C ev o σ K else zUB C o K
    | false=>bif c then zUB C o K else goE C ev o σ K)
   | some (.v (.t []))=>zUB C o K
   | _=>none
  | none=>none
def zJF (C:Cx) (ev:Ev) (ops:Array Oper):List Oper→(St→Option (Ret × Mem))→St→Option (Ret × Mem)
 | [],K,σ=>K σ
 | o :: l,K,σ=>yZJ C ev ops o σ fun r=>zJF C ev ops l K (σ.apply r.1 o.dst)
def qVI (C:Cx) (ev:Ev) (ops:Array Oper):Nat→List Oper→List Done→(St→Option (Ret × Mem))→St→Option (Ret × Mem)
 | _,[],acc,K,σ=>bif zQZ ops acc.reverse && Sx.backB ops then K σ else none
 | i,o :: l,acc,K,σ=>yZJ C ev ops o σ fun r=>qVI C ev ops (i + 1) l ((i,r) :: acc) K (σ.apply r.1 o.dst)
def qHX (N:Nat) (C:Cx) (ev:Ev) (LO:List Nat→Option yV):Code→List Nat→Cont→St→Option (Ret × Mem)
 | .skip,_,K,σ=>K .normal σ
 | .label _,_,K,σ=>K .normal σ
 | .scope x,p,K,σ=>qHX N C ev LO x (0 :: p) K σ
 | .ret,_,K,σ=>K .ret σ
 | .exit id,_,K,σ=>K (.exit id) σ
 | .region id ops d,_,K,σ=>preK C id (fun σ=>bif d then qVI C ev ops 0 ops.toList [] (K .normal) σ else zJF C ev ops ops.toList (K .normal) σ) σ
 | .seq x y,p,K,σ=>qHX N C ev LO x (0 :: p) (fun e σ=>match e with
   | .normal=>qHX N C ev LO y (1 :: p) K σ
   | e=>K e σ) σ
 | .cond c x y,p,K,σ=>(opv 1 σ c).bind fun v=>match v with
   | .v (.b t)=>bif t then qHX N C ev LO x (0 :: p) K σ else qHX N C ev LO y (1 :: p) K σ
   | _=>none
 | .block id x,p,K,σ=>qHX N C ev LO x (0 :: p) (fun e σ=>match e with
   | .exit id'=>bif Nat.beq id' id then K .normal σ else K (.exit id') σ
   | e=>K e σ) σ
 | .loop x,p,K,σ=>match LO p with
   | some S=>S (qZB (C.T.hint C.me (zZ x)) σ) K
   | none=>qWL (fun again σ=>qHX N C ev LO x (0 :: p) (fun e σ=>match e with
     | .normal=>again σ
     | e=>K e (qQE (C.T.hint C.me (zZ x)) σ)) (qZB (C.T.hint C.me (zZ x)) σ)) N σ
 | _,_,_,_=>none
section
variable {C:Cx} {ev:Ev} {ops:Array Oper} {r:Ret × Mem} {K0:Ret × Mem→Option (Ret × Mem)}
theorem zKL {o:Oper} {σ:St} {K:Eff × List RV→Option (Ret × Mem)} (hc:EvOk C ev) (hg:uK ops σ o=some true) (h:goE C ev o σ K=some r):∃ x,qJK C ops o σ=some x∧K x=some r:=by
 unfold goE at h;obtain ⟨hd,h⟩:=qQ h;rw [vQQ] at h;obtain ⟨vs,hvs,h⟩:=h;obtain ⟨e,he,h⟩:=hc _ _ _ _ _ h;obtain ⟨hn,h⟩:=qQ h;exact ⟨(e,vs),qVB hd (.inr ⟨hg,hvs,he,fun i hi=>zZZ (List.all_eq_true.1 hn i hi)⟩),h⟩
theorem stepE_some {o:Oper} {σ:St} {K:Eff × List RV→Option (Ret × Mem)} (hc:EvOk C ev) (h:yZJ C ev ops o σ K=some r):∃ x,qJK C ops o σ=some x∧K x=some r:=by
 unfold yZJ at h;cases hg:o.guard with
 | none=>rw [hg] at h; exact zKL hc (by unfold uK; rw [hg]) h
 | some gb =>
  obtain ⟨j,b⟩:=gb;rw [hg] at h;simp only at h;split at h
  ·rename_i d hd;split at h
   ·rename_i c hlc;have gd:uK ops σ o=some (c == b):=by
     unfold uK;rw [hg];simp only [hd,hlc]
    cases b <;> cases c <;> simp only [vYZ,vYY] at h
    ·exact zKL hc gd h
    ·exact qKZ gd h
    ·exact qKZ gd h
    ·exact zKL hc gd h
   ·rename_i hlc;exact qKZ (by unfold uK; rw [hg]; simp only [hd,hlc]) h
   ·cases h
  ·cases h
theorem runOpsE_some (hc:EvOk C ev) {K K':St→Option (Ret × Mem)} (hK:∀ σ,K σ=some r→Gets K0 r (K' σ)):∀ (l:List Oper) (σ:St),zJF C ev ops l K σ=some r→Gets K0 r (qXF C ops l K' σ)
 | [],σ,h=>hK σ h
 | o :: l,σ,h=>by
  simp only [zJF] at h;obtain ⟨x,hx,h⟩:=stepE_some hc h;simp only [qXF,hx,vZV];exact runOpsE_some hc hK l _ h
theorem runDrawE_some (hc:EvOk C ev) {K K':St→Option (Ret × Mem)} (hK:∀ σ,K σ=some r→Gets K0 r (K' σ)):∀ (l:List Oper) (i:Nat) (acc:List Done) (σ:St),qVI C ev ops i l acc K σ=some r→Gets K0 r (qZA C ops i l acc K' σ)
 | [],i,acc,σ,h=>by
  simp only [qVI] at h;obtain ⟨hp,h⟩:=qQ h;simp only [qZA,hp,vYZ];exact hK σ h
 | o :: l,i,acc,σ,h=>by
  simp only [qVI] at h;obtain ⟨x,hx,h⟩:=stepE_some hc h;simp only [qZA,hx,vZV];exact runDrawE_some hc hK l _ _ _ h
theorem qQH {N:Nat} {LO:List Nat→Option yV} {B:Code} (hc:EvOk C ev) (hL:∀ p S,LO p=some S→kX N C (uG 0 (kZ B p)) S):∀ (c:Code) (p:List Nat) {K K':Cont} (hp:kZ B p=c) (hK:∀ e σ,K e σ=some r→Gets K0 r (K' e σ)) (σ:St),qHX N C ev LO c p K σ=some r→Gets K0 r (runC N C c K' σ)
 | .skip,p,K,K',hp,hK,σ,h=>hK _ _ h
 | .label _,p,K,K',hp,hK,σ,h=>hK _ _ h
 | .scope x,p,K,K',hp,hK,σ,h=>qQH hc hL x (0 :: p) (by simp only [kZ,hp,uG]) hK σ h
 | .ret,p,K,K',hp,hK,σ,h=>hK _ _ h
 | .exit id,p,K,K',hp,hK,σ,h=>hK _ _ h
 | .region id ops d,p,K,K',hp,hK,σ,h=>by
  have h:=preK_eq.symm.trans h;refine Eq.mpr (congrArg (Gets K0 r) (preK_eq (F:=fun σ=>bif d then qZA C ops 0 ops.toList [] (K' .normal) σ else qXF C ops ops.toList (K' .normal) σ))) ?_;cases d with
  | true=>exact runDrawE_some hc (hK .normal) _ _ _ _ h
  | false=>exact runOpsE_some hc (hK .normal) _ _ h
 | .seq x y,p,K,K',hp,hK,σ,h=>by
  refine qQH hc hL x (0 :: p) (by simp only [kZ,hp,uG]) (fun e τ hk => ?_) σ h;cases e with
  | normal=>exact qQH hc hL y (1 :: p) (by simp only [kZ,hp,uG]) hK τ hk
  | _=>exact hK _ _ hk
 | .cond c x y,p,K,K',hp,hK,σ,h=>by
  simp only [qHX,vQQ] at h;obtain ⟨v,hv,h⟩:=h;simp only [runC,hv,vZV];split at h
  ·rename_i t;cases t with
   | true=>exact qQH hc hL x (0 :: p) (by simp only [kZ,hp,uG]) hK σ h
   | false=>exact qQH hc hL y (1 :: p) (by simp only [kZ,hp,uG]) hK σ h
  ·cases h
 | .block id x,p,K,K',hp,hK,σ,h=>by
  refine qQH hc hL x (0 :: p) (by simp only [kZ,hp,uG]) (fun e τ hk => ?_) σ h;cases e with
  | exit id' =>
   simp only at hk ⊢;cases hb:Nat.beq id' id with
   | true=>rw [hb] at hk; exact hK _ _ hk
   | false=>rw [hb] at hk; exact hK _ _ hk
  | _=>exact hK _ _ hk
 | .loop x,p,K,K',hp,hK,σ,h=>by
  simp only [qHX] at h;simp only [runC];cases hS:LO p with
  | none =>
   rw [hS] at h;refine qXQ (fun a a' ha τ hs => ?_) N σ h;refine qQH hc hL x (0 :: p) (by simp only [kZ,hp,uG]) (fun e υ hk => ?_) _ hs;cases e with
   | normal=>exact ha _ hk
   | _=>exact hK _ _ hk
  | some S =>
   rw [hS] at h
   have:=hL p S hS
   rw [hp] at this;exact this K K' K0 σ r hK h
 | .rangeFunc ..,p,K,K',hp,hK,σ,h=>by cases h
 | .goto _,p,K,K',hp,hK,σ,h=>by cases h
 | .refuse _,p,K,K',hp,hK,σ,h=>by cases h
end
def yJQ (N:Nat) (C:Cx) (ev:Ev) (LO:List Nat→Option yV) (x:Code) (p:List Nat) (h:Hint) (K:Cont) (G:St→Option (Ret × Mem)) (σ:St):Option (Ret × Mem):=qHX N C ev LO x (0 :: p) (fun e τ=>match e with
 | .normal=>G (qZB h τ)
 | e=>K e (qQE h τ)) σ
def LFX (N:Nat) (C:Cx) (ev:Ev) (LO:List Nat→Option yV) (x:Code) (p:List Nat) (h:Hint) (K:Cont):Nat→St→Option (Ret × Mem)
 | 0,_=>none
 | n + 1,σ=>yJQ N C ev LO x p h K (LFX N C ev LO x p h K n) σ
theorem LFX_get {N:Nat} {C:Cx} {ev:Ev} {LO:List Nat→Option yV} {B x:Code} {p:List Nat} {K K':Cont} {K0:Ret × Mem→Option (Ret × Mem)} {r:Ret × Mem} (hc:EvOk C ev) (hL:∀ p S,LO p=some S→kX N C (uG 0 (kZ B p)) S) (hx:kZ B (0 :: p)=x)
  (hK:∀ e τ,K e τ=some r→Gets K0 r (K' e τ)):∀ (n:Nat) (σ:St),LFX N C ev LO x p (C.T.hint C.me (zZ x)) K n (qZB (C.T.hint C.me (zZ x)) σ)=some r→Gets K0 r (qWL (fun again σ=>runC N C x (fun e σ=>match e with
   | .normal=>again σ
   | e=>K' e (qQE (C.T.hint C.me (zZ x)) σ)) (qZB (C.T.hint C.me (zZ x)) σ)) n σ)
 | 0,σ,h=>by cases h
 | n + 1,σ,h=>by
  simp only [LFX,yJQ] at h;simp only [qWL];refine qQH hc hL x (0 :: p) hx (fun e τ hk => ?_) _ h;cases e with
  | normal=>exact LFX_get hc hL hx hK n τ hk
  | _=>exact hK _ _ hk
theorem loopX_of {N:Nat} {C:Cx} {ev:Ev} {LO:List Nat→Option yV} {B x:Code} {p:List Nat} {S:yV} (hc:EvOk C ev) (hL:∀ p S,LO p=some S→kX N C (uG 0 (kZ B p)) S) (hx:kZ B (0 :: p)=x)
  (hS:∀ K σ r,S σ K=some r→LFX N C ev LO x p (C.T.hint C.me (zZ x)) K N σ=some r):kX N C x S:=fun K _ _ σ r hK h =>
 LFX_get hc hL hx hK N σ (hS K _ r h)
abbrev zQW:=Nat→List HV→List PV→(PV × List PV→Option (Ret × Mem))→Option (Ret × Mem)
def zUA (r:PV × List PV) (K:PV × List PV→Option (Ret × Mem)):Option (Ret × Mem):=match r with
 | (.b c,ps)=>bif c then K (.b true,ps) else K (.b false,ps)
 | r=>K r
theorem qVD (r:PV × List PV) (K:PV × List PV→Option (Ret × Mem)):zUA r K=K r:=by
 unfold zUA;split
 ·rename_i c ps; cases c <;> rfl
 ·rfl
def callEffBK (cBK:zQW) (f:Nat) (args:List RV) (K:Eff→Option (Ret × Mem)):Option (Ret × Mem) :=
 (zUY args).bind fun p=>(mapO CV.pv p.2).bind fun ps=>(mapO (RV.toB p.1) args).bind fun hs=>cBK f hs ps fun r=>zUA r fun r =>
  bif Nat.beq p.1 pid2 then none else K (Eff.and (.set p.1 (.blk (r.2.map PV.toH)) (.v r.1)) (catR RV.regs args))
def qGF (cBK:zQW) (f:Nat) (args:List RV) (K:Eff→Option (Ret × Mem)):Option (Ret × Mem) :=
 (zUY args).bind fun p=>match p.2 with
  | [.o m e sz rows]=>(mapO (RV.toB p.1) args).bind fun hs=>cBK f hs [.gs e sz rows.pv] fun r=>zUA r fun r=>match r.2 with
   | [.gs e2 sz2 y]=>y.rowsO.bind fun zQV=>bif Nat.beq sz2 sz && (catR RV.regs args).isEmpty && !(Nat.beq p.1 m) && r.1.flat then K ⟨[(m,some (.reg e2 sz2 zQV))],[],.v r.1,[]⟩ else none
   | _=>none
  | _=>none
def qGI (cBK:zQW) (dst f:Nat) (args:List RV) (K:Eff→Option (Ret × Mem)):Option (Ret × Mem) :=
 (zUY args).bind fun p=>(mapO CV.pvq p.2).bind fun ps=>(mapO (RV.toB p.1) args).bind fun hs=>cBK f hs ps fun r=>zUA r fun r =>
  (gEnt (qWQ r.2)).bind fun ent=>bif oneG ps && oneG r.2 && (catR RV.regs args).isEmpty && !(Nat.beq p.1 ((qXL p.2).getD (100000 + dst))) && r.1.flat && !(Nat.beq p.1 pid2) then
   K ⟨[(p.1,some (.blk (r.2.map (PV.toQ ((qXL p.2).getD (100000 + dst)))))),((qXL p.2).getD (100000 + dst),ent)],[((qXL p.2).getD (100000 + dst),none)],.v r.1,match qXL p.2 with | some _=>[] | none=>[100000 + dst]⟩ else none
def yJI (C:Cx) (cBK:zQW):Prop:=∀ f hs ps K r,cBK f hs ps K=some r→∃ x,C.cB f hs ps=some x∧K x=some r
def selC:List PV→Int→PV
 | [],_=>.ni
 | [x],_=>x
 | x :: y :: l,i=>zQJ (decide (i=0)) x (selC (y :: l) (i - 1))
theorem selC_eq:∀ (l:List PV) (i:Int),0≤i→i.toNat < l.length→l[i.toNat]? = some (selC l i)
 | [],i,_,h=>by simp at h
 | [x],i,h0,h=>by
  have:i.toNat=0:=by simp at h; omega
  rw [this]; rfl
 | x :: y :: l,i,h0,h=>by
  rw [selC];by_cases e:i=0
  ·subst e; rw [vYK rfl,zQI]; rfl
  ·rw [vYJ e,zQL,show i.toNat=(i - 1).toNat + 1 by omega,List.getElem?_cons_succ];exact selC_eq (y :: l) (i - 1) (by omega) (by simp only [vQX] at h ⊢; omega)
def evS (C:Cx) (cK:qYQ) (cBK:zQW):Ev:=fun dst op vs K=>match op,vs with
 | .call ⟨.value fx,axs,ats⟩,.v (.f f first cap) :: vs=>bif C.T.rw f then (bif C.T.gk f then qGF cBK f (first.map .v ++ vs ++ cap.map .v) K else bif C.T.gq f then qGI cBK dst f (first.map .v ++ vs ++ cap.map .v) K else callEffBK cBK f (first.map .v ++ vs ++ cap.map .v) K) else zVX C cK dst (.call ⟨.value fx,axs,ats⟩) (.v (.f f first cap) :: vs) K
 | .call ⟨.value fx,axs,ats⟩,.g f first cap :: vs=>bif C.T.rw f && C.T.gk f then qGF cBK f (first.map .v ++ vs ++ cap.map fun c=>match c with | .v x=>.v x | .p id off cells=>.p id off cells) K else bif C.T.rw f && C.T.gq f then qGI cBK dst f (first.map .v ++ vs ++ cap.map fun c=>match c with | .v x=>.v x | .p id off cells=>.p id off cells) K else zVX C cK dst (.call ⟨.value fx,axs,ats⟩) (.g f first cap :: vs) K
 | .index t a b,[.v (.a cs),.v (.n k i)]=>(C.T.ar t).bind fun q=>bif q.2.2 then zVX C cK dst (.index t a b) [.v (.a cs),.v (.n k i)] K else bif inB i q.1 && Nat.ble q.1 cs.length then K (.val (selC cs i).toH) else none
 | .slice t a lo hi none,.v (.s s) :: vs=>(zJX lo hi vs).bind fun b=>bif C.T.str t then (bif inS b.1 b.2 s.size then K (.val (.v (.s (s.extract (loOf b.1) (hiOf b.2 s.size))))) else none) else none
 | op,vs=>zVX C cK dst op vs K
theorem callEffWK_ok {C:Cx} {cBK:zQW} (hb:yJI C cBK) {f:Nat} {args:List RV} {K:Eff→Option (Ret × Mem)} {r:Ret × Mem} (h:qGF cBK f args K=some r):∃ e,qUV C.cB f args=some e∧K e=some r:=by
 unfold qGF at h;simp only [vQQ] at h;obtain ⟨p,hp,h⟩:=h;split at h
 ·rename_i m e sz rows hcs;simp only [vQQ] at h;obtain ⟨hs,hhs,h⟩:=h;obtain ⟨x,hx,h⟩:=hb _ _ _ _ _ h;rw [qVD] at h;split at h
  ·rename_i e2 sz2 y hps;simp only [vQQ] at h;obtain ⟨zQV,hr2,h⟩:=h;obtain ⟨h1,h⟩:=qQ h;refine ⟨_,?_,h⟩;unfold qUV;simp only [hp,hcs,hhs,hx,hps,hr2,vZV,h1,vYZ]
  ·cases h
 ·cases h
theorem evS_ok {C:Cx} {cK:qYQ} {cBK:zQW} (hc:SndK C cK) (hb:yJI C cBK):EvOk C (evS C cK cBK):=fun dst op vs K r h=>by
 unfold evS at h;split at h
 ·rename_i fx axs ats f first cap vs
  cases hrw:C.T.rw f with
  | false =>
   rw [hrw,vYY] at h;exact qXK hc h
  | true =>
   rw [hrw,vYZ] at h;cases hgk:C.T.gk f with
   | true =>
    rw [hgk,vYZ] at h;obtain ⟨e,h1,h2⟩:=callEffWK_ok hb h;exact ⟨e,by simp only [qU,hrw,hgk,vYZ]; exact h1,h2⟩
   | false =>
   rw [hgk,vYY] at h;cases hgq:C.T.gq f with
   | false =>
    rw [hgq,vYY] at h;simp only [callEffBK,vQQ] at h;obtain ⟨p,hp,ps,hps,hs,hhs,h⟩:=h;obtain ⟨x,hx,h⟩:=hb _ _ _ _ _ h;rw [qVD] at h;cases hp2:Nat.beq p.1 pid2 with
    | true=>rw [hp2] at h; cases h
    | false =>
    rw [hp2,vYY] at h;exact ⟨_,by simp only [qU,hrw,hgk,hgq,vYZ,vYY,zZY,hp,hps,hhs,hx,hp2,vZV],h⟩
   | true =>
    rw [hgq,vYZ] at h;simp only [qGI,vQQ] at h;obtain ⟨p,hp,ps,hps,hs,hhs,h⟩:=h;obtain ⟨x,hx,h⟩:=hb _ _ _ _ _ h;rw [qVD] at h;simp only [vQQ] at h;obtain ⟨ent,hent,h⟩:=h;obtain ⟨h1,h⟩:=qQ h;refine ⟨_,?_,h⟩;simp only [qU,hrw,hgk,hgq,vYZ,vYY];unfold qXE;simp only [hp,hps,hhs,hx,hent,vZV];rw [h1];rfl
 ·rename_i fx axs ats f first cap vs
  cases hrk:C.T.rw f && C.T.gk f with
  | true =>
   rw [hrk,vYZ] at h;rw [vQJ] at hrk;obtain ⟨e,h1,h2⟩:=callEffWK_ok hb h;refine ⟨e,?_,h2⟩;show (bif C.T.rw f then (bif C.T.gk f then qUV C.cB f (first.map .v ++ vs ++ cap.map fun c=>match c with | .v x=>.v x | .p id off cells=>.p id off cells) else _) else _)=some _;rw [hrk.1,hrk.2,vYZ,vYZ];exact h1
  | false =>
  rw [hrk,vYY] at h;cases hrw:C.T.rw f && C.T.gq f with
  | false =>
   rw [hrw,vYY] at h;exact qXK hc h
  | true =>
   rw [hrw,vYZ] at h;rw [vQJ] at hrw;rw [hrw.1,vZW] at hrk;simp only [qGI,vQQ] at h;obtain ⟨p,hp,ps,hps,hs,hhs,h⟩:=h;obtain ⟨x,hx,h⟩:=hb _ _ _ _ _ h;rw [qVD] at h;simp only [vQQ] at h;obtain ⟨ent,hent,h⟩:=h;obtain ⟨h1,h⟩:=qQ h;refine ⟨_,?_,h⟩;show (bif C.T.rw f then (bif C.T.gk f then qUV C.cB f (first.map .v ++ vs ++ cap.map fun c=>match c with | .v x=>.v x | .p id off cells=>.p id off cells) else bif C.T.gq f then qXE C.cB dst f (first.map .v ++ vs ++ cap.map fun c=>match c with | .v x=>.v x | .p id off cells=>.p id off cells) else none) else qHI C.T C.cA C.me dst f (first.map .v ++ vs ++ cap.map fun c=>match c with | .v x=>.v x | .p id off cells=>.p id off cells))=some _;rw [hrw.1,hrk,hrw.2,vYZ,vYY,vYZ];unfold qXE;simp only [hp,hps,hhs,hx,hent,vZV];rw [h1];rfl
 ·rename_i t a b cs k i;simp only [vQQ] at h;obtain ⟨q,hq,h⟩:=h;cases h2:q.2.2 with
  | true=>rw [h2,vYZ] at h; exact qXK hc h
  | false =>
   rw [h2,vYY] at h;obtain ⟨hi,h⟩:=qQ h;rw [vQJ] at hi;obtain ⟨i0,i1⟩:=qJL hi.1;have hl:=vZJ hi.2;exact ⟨_,by simp only [qU,hq,vZV,hi.1,h2,vYZ,vYY,selC_eq cs i i0 (by omega)],h⟩
 ·rename_i t a lo hi s vs;simp only [vQQ] at h;obtain ⟨b,hbd,h⟩:=h;obtain ⟨h1,h⟩:=qQ h;obtain ⟨h2,h⟩:=qQ h;exact ⟨_,by simp only [qU,hbd,vZV,h1,h2,vZQ,vYZ],h⟩
 ·exact qXK hc h
abbrev OrB:=Nat→Option (List HV→List PV→Option (Bool × (PV × List PV)))
structure OrS where
 a:OrK
 b:OrB
def OrS.orc (o:OrS):Orc:=⟨o.a.orc.a,fun g=>(o.b g).bind fun f=>some fun hs ps=>(f hs ps).bind fun x=>bif x.1 then some x.2 else none⟩
structure OrS.Ok (P:Program) (T:Tab) (o:OrS):Prop where
 a:o.a.Ok P
 b:∀ g f,o.b g=some f→∀ hs ps x ps',f hs ps=some (true,(x,ps'))→yYE P g hs ps x ps' (T.gq g) (T.gk g)
theorem OrS.Ok.orc {P:Program} {T:Tab} {o:OrS} (h:o.Ok P T):OrcOk P T o.orc:=by
 refine ⟨(h.a.orc (T:=T)).a,fun g f ho hs ps x ps' hr => ?_⟩;simp only [OrS.orc,vQQ,vQZ] at ho;obtain ⟨q,hq,rfl⟩:=ho;simp only [vQQ] at hr;obtain ⟨y,hy,hr⟩:=hr;obtain ⟨h1,hr⟩:=qQ hr;obtain ⟨y1,y2⟩:=y;cases hr;exact h.b g q hq hs ps x ps' (by rw [hy,← h1])
def cxS (T:Tab) (o:OrS) (N f n:Nat):Cx:=⟨T,qJG o.orc (runF T o.orc N),qYI T o.orc (runF T o.orc N),f,n⟩
def zGB (T:Tab) (o:OrS):Nat→Nat→List HV→Mem→(Ret × Mem→Option (Ret × Mem))→Option (Ret × Mem)
 | 0,_,_,_,_=>none
 | N + 1,f,hs,M,K=>match T.fn f with
  | none=>none
  | some fi=>bif Nat.ble hs.length fi.ntmps then qHX N (cxS T o N f fi.ntmps) (evS (cxS T o N f fi.ntmps)
    (zQX o.a fun g ps K=>zGB T o N g (ps.map .v) [] fun r=>K r.1)
    (fun g hs ps K=>match o.b g with
     | some q=>(q hs ps).bind fun x=>bif x.1 then K x.2 else none
     | none=>bif T.gk g then none else zGB T o N g hs (memB (T.gq g) ps) fun r=>(qKD (T.gq g) r.2).bind fun ps'=>(zGF r.1).bind fun x=>(zVU (T.gq g) x).bind fun x=>K (x,ps')))
    (fun _=>none) fi.body [] (fun e σ=>(endK T M fi.results e σ).bind K) ⟨initS 0 hs,M⟩ else none
def ckS (T:Tab) (o:OrS) (N:Nat):qYQ:=zQX o.a fun g ps K=>zGB T o N g (ps.map .v) [] fun r=>K r.1
def cbS (T:Tab) (o:OrS) (N:Nat):zQW:=fun g hs ps K=>match o.b g with
 | some q=>(q hs ps).bind fun x=>bif x.1 then K x.2 else none
 | none=>bif T.gk g then none else zGB T o N g hs (memB (T.gq g) ps) fun r=>(qKD (T.gq g) r.2).bind fun ps'=>(zGF r.1).bind fun x=>(zVU (T.gq g) x).bind fun x=>K (x,ps')
def evX (T:Tab) (o:OrS) (N f n:Nat):Ev:=evS (cxS T o N f n) (ckS T o N) (cbS T o N)
section
variable {T:Tab} {o:OrS}
def FSnd (T:Tab) (o:OrS) (N:Nat):Prop:=∀ (f:Nat) (hs:List HV) (M:Mem) (K:Ret × Mem→Option (Ret × Mem)) (r:Ret × Mem),zGB T o N f hs M K=some r→∃ x,runF T o.orc N f hs M=some x∧K x=some r
theorem ckS_ok {N f n:Nat} (h:FSnd T o N):SndK (cxS T o N f n) (ckS T o N):=fun g qs K' r' hk=>by
 unfold ckS zQX at hk;show ∃ x,qJG o.orc (runF T o.orc N) g qs=some x∧K' x=some r';unfold qJG;cases ho:o.a g with
 | some q =>
  rw [ho] at hk;simp only [vQQ] at hk;obtain ⟨x,hx,hk⟩:=hk;obtain ⟨h1,hk⟩:=qQ hk;exact ⟨x.2,by simp only [OrS.orc,OrK.orc,ho,hx,vZV,h1,vYZ],hk⟩
 | none =>
  rw [ho] at hk;obtain ⟨x,hx,hk⟩:=h g _ _ _ r' hk;have e:o.orc.a g=none:=by simp only [OrS.orc,OrK.orc,ho,Option.bind_none]
  exact ⟨x.1,by simp only [e,hx,vZV],hk⟩
theorem cbS_ok {N f n:Nat} (h:FSnd T o N):yJI (cxS T o N f n) (cbS T o N):=fun g hs ps K' r' hk=>by
 unfold cbS at hk;show ∃ x,qYI T o.orc (runF T o.orc N) g hs ps=some x∧K' x=some r';unfold qYI;cases ho:o.b g with
 | some q =>
  rw [ho] at hk;simp only [vQQ] at hk;obtain ⟨x,hx,hk⟩:=hk;obtain ⟨h1,hk⟩:=qQ hk;exact ⟨x.2,by simp only [OrS.orc,ho,hx,vZV,h1,vYZ],hk⟩
 | none =>
  rw [ho] at hk;cases hgk:T.gk g with
  | true=>rw [hgk] at hk; cases hk
  | false =>
  simp only [hgk,vYY] at hk;obtain ⟨x,hx,hk⟩:=h g _ _ _ r' hk;simp only [vQQ] at hk;obtain ⟨ps',h1,y,h2,z,h3,hk⟩:=hk;have e:o.orc.b g=none:=by simp only [OrS.orc,ho,Option.bind_none]
  exact ⟨(z,ps'),by simp only [e,hgk,vYY,hx,vZV,h1,h2,h3],hk⟩
theorem yQF {N f n:Nat} (h:FSnd T o N):EvOk (cxS T o N f n) (evX T o N f n):=evS_ok (ckS_ok h) (cbS_ok h)
theorem qHK:∀ N,FSnd T o N
 | 0,f,hs,M,K,r,h=>by cases h
 | N + 1,f,hs,M,K,r,h=>by
  simp only [zGB] at h;split at h
  ·cases h
  ·rename_i fi hfi;obtain ⟨hb,h⟩:=qQ h;have ih:FSnd T o N:=qHK N;obtain ⟨q,h1,h2⟩:=qQH (K0:=K) (K':=endK T M fi.results) (B:=fi.body) (LO:=fun _=>none) (yQF (f:=f) (n:=fi.ntmps) ih) (fun p S hp=>by cases hp) fi.body [] rfl (fun e σ hk=>by
    simp only [vQQ] at hk;exact hk) _ h
   refine ⟨q,?_,h2⟩;simp only [runF,hfi,hb,vYZ];exact h1
def yZK (T:Tab) (o:OrS) (LO:List Nat→Option yV) (N f:Nat) (hs:List HV) (M:Mem) (K:Ret × Mem→Option (Ret × Mem)):Option (Ret × Mem):=match T.fn f with
 | none=>none
 | some fi=>bif Nat.ble hs.length fi.ntmps then qHX N (cxS T o N f (ntmF T f)) (evX T o N f (ntmF T f)) LO (qWH T f) [] (fun e σ=>(endK T M fi.results e σ).bind K) ⟨initS 0 hs,M⟩ else none
theorem runXL_some {LO:List Nat→Option yV} {N f:Nat} {hs:List HV} {M:Mem} {K:Ret × Mem→Option (Ret × Mem)} {r:Ret × Mem} (hL:∀ p S,LO p=some S→kX N (cxS T o N f (ntmF T f)) (qZ T f p) S) (h:yZK T o LO N f hs M K=some r):∃ x,runF T o.orc (N + 1) f hs M=some x∧K x=some r:=by
 unfold yZK at h;split at h
 ·cases h
 ·rename_i fi hfi;obtain ⟨hb,h⟩:=qQ h;obtain ⟨q,h1,h2⟩:=qQH (K0:=K) (K':=endK T M fi.results) (B:=qWH T f) (yQF (qHK N)) hL (qWH T f) [] rfl (fun e σ hk=>by
   simp only [vQQ] at hk;exact hk) _ h
  have eb:qWH T f=fi.body:=by unfold qWH; rw [hfi]
  have en:ntmF T f=fi.ntmps:=by unfold ntmF; rw [hfi]
  rw [eb,en] at h1;refine ⟨q,?_,h2⟩;simp only [runF,hfi,hb,vYZ];unfold cxS at h1;exact h1
def qQI (T:Tab) (o:OrS) (LO:List Nat→Option yV) (N f:Nat) (ps:List PV):Option (Ret × Mem):=yZK T o LO N f (ps.map .v) [] fun r=>some (r.1,[])
def zGD (T:Tab) (o:OrS) (LO:List Nat→Option yV) (N f:Nat) (hs:List HV) (ps:List PV):Option (Ret × Mem):=yZK T o LO N f hs (memB (T.gq f) ps) fun r=>(qKD (T.gq f) r.2).bind fun ps'=>(zGF r.1).bind fun x=>(zVU (T.gq f) x).bind fun x=>some (.v (.t (x :: ps')),[])
theorem qH {P:Program} {LO:List Nat→Option yV} {N f:Nat} {ps:List PV} {r:Ret} (hT:TabOk P T) (hm:P.follows .mixedOrders=true) (hO:o.Ok P T) (hL:∀ p S,LO p=some S→kX N (cxS T o N f (ntmF T f)) (qZ T f p) S) (h:qQI T o LO N f ps=some (r,[])):zY P f ps r:=by
 obtain ⟨x,h1,h2⟩:=runXL_some hL h;cases h2;refine qZI (N:=N + 1) hT hm hO.orc ?_;unfold run;rw [h1];rfl
theorem runBX_soundq {P:Program} {LO:List Nat→Option yV} {N f:Nat} {hs:List HV} {ps ps':List PV} {x:PV} (hT:TabOk P T) (hm:P.follows .mixedOrders=true) (hO:o.Ok P T) (hL:∀ p S,LO p=some S→kX N (cxS T o N f (ntmF T f)) (qZ T f p) S) (h:zGD T o LO N f hs ps=some (.v (.t (x :: ps')),[])):yQI P f hs ps x ps' (T.gq f):=by
 obtain ⟨y,h1,h2⟩:=runXL_some hL h;simp only [vQQ,vQZ,vQY,Ret.v.injEq,PV.t.injEq,List.cons.injEq,and_true] at h2;obtain ⟨qs,h3,z,h4,z2,h5,rfl,rfl⟩:=h2;refine runB_sound (N:=N + 1) hT hm hO.orc ?_;unfold runB;rw [h1];simp only [vZV,h3,h4,h5]
theorem qVU {P:Program} {LO:List Nat→Option yV} {N f:Nat} {hs:List HV} {ps ps':List PV} {x:PV} (hT:TabOk P T) (hm:P.follows .mixedOrders=true) (hO:o.Ok P T) (hL:∀ p S,LO p=some S→kX N (cxS T o N f (ntmF T f)) (qZ T f p) S) (h:zGD T o LO N f hs ps=some (.v (.t (x :: ps')),[])) (hq:T.gq f=false:=by rfl):qVA P f hs ps x ps':=by
 have:=runBX_soundq hT hm hO hL h
 rw [hq] at this;exact this
end
theorem jQ {N:Nat} {T:Tab} {o:OrS} {f:Nat} {LO:List Nat→Option yV} {p:List Nat} {τ:Type} {hd:τ→St} {ex:St→τ} {R:τ→Cont→Option (Ret × Mem)}
  (hL:∀ p S,LO p=some S→kX N (cxS T o N f (ntmF T f)) (qZ T f p) S)
  (h:∀ s K r,R s K=some r→LFX N (cxS T o N f (ntmF T f)) (evX T o N f (ntmF T f)) LO (qZ T f p) p (T.hint f (zZ (qZ T f p))) K N (hd s)=some r):kX N (cxS T o N f (ntmF T f)) (qZ T f p) (sumF hd ex R) :=
 loopX_of (B:=qWH T f) (ev:=evX T o N f (ntmF T f)) (yQF (qHK N)) hL rfl fun K σ r hr=>by
  unfold sumF at hr;obtain ⟨hg,hq⟩:=qQ hr;have e:=yQB hg
  have:=h (ex σ) K r hq
  rw [← e] at this;exact this
abbrev OrBL:=List (Nat × (List HV→List PV→Option (Bool × (PV × List PV))))
def zXE (P:Program) (f:Nat) (o:List HV→List PV→Option (Bool × (PV × List PV))):Prop:=∀ hs ps x ps',o hs ps=some (true,(x,ps'))→qVA P f hs ps x ps'
def orS (l:OrL) (m:OrBL):OrS:=⟨OrL.k l,asc m⟩
def OneOkQ (P:Program) (f:Nat) (o:List HV→List PV→Option (Bool × (PV × List PV))):Prop:=∀ hs ps x ps',o hs ps=some (true,(x,ps'))→yJF P f hs ps x ps'
def OneOkBq (P:Program) (f:Nat) (o:List HV→List PV→Option (Bool × (PV × List PV))):Bool→Prop
 | false=>zXE P f o
 | true=>OneOkQ P f o
theorem OneOkBq.at {P:Program} {f:Nat} {o:List HV→List PV→Option (Bool × (PV × List PV))} {q:Bool} (h:OneOkBq P f o q) {hs:List HV} {ps ps':List PV} {x:PV} (ho:o hs ps=some (true,(x,ps'))):yQI P f hs ps x ps' q:=by
 cases q with
 | false=>exact h hs ps x ps' ho
 | true=>exact h hs ps x ps' ho
def OneOkK (P:Program) (f:Nat) (o:List HV→List PV→Option (Bool × (PV × List PV))):Prop:=∀ hs ps x ps',o hs ps=some (true,(x,ps'))→SndK1 P f hs ps x ps'
def OneOkBk (P:Program) (f:Nat) (o:List HV→List PV→Option (Bool × (PV × List PV))) (q:Bool):Bool→Prop
 | false=>OneOkBq P f o q
 | true=>OneOkK P f o
theorem OneOkBk.at {P:Program} {f:Nat} {o:List HV→List PV→Option (Bool × (PV × List PV))} {q k:Bool} (h:OneOkBk P f o q k) {hs:List HV} {ps ps':List PV} {x:PV} (ho:o hs ps=some (true,(x,ps'))):yYE P f hs ps x ps' q k:=by
 cases k with
 | false=>exact OneOkBq.at h ho
 | true=>exact h hs ps x ps' ho
theorem jK {P:Program} {T:Tab} {l:OrL} {m:OrBL} (h:AllP (fun x:Nat × (List PV→Option (Bool × Ret))=>jH P x.1 x.2) l) (hb:AllP (fun x:Nat × (List HV→List PV→Option (Bool × (PV × List PV)))=>OneOkBk P x.1 x.2 (T.gq x.1) (T.gk x.1)) m):(orS l m).Ok P T :=
 ⟨OrL.ok h,fun _ _ ho hs ps x ps' hr=>(hb.of (qZE ho)).at hr⟩
def LFT (T:Tab) (f:Nat) (o:OrS) (N:Nat) (l:List (List Nat × yV)) (p:List Nat) (K:Cont):Nat→St→Option (Ret × Mem):=LFX N (cxS T o N f (ntmF T f)) (evX T o N f (ntmF T f)) (qY l) (qZ T f p) p (T.hint f (zZ (qZ T f p))) K
def stpT (T:Tab) (f:Nat) (o:OrS) (N:Nat) (l:List (List Nat × yV)) (p:List Nat) (K:Cont) (G:St→Option (Ret × Mem)):St→Option (Ret × Mem):=yJQ N (cxS T o N f (ntmF T f)) (evX T o N f (ntmF T f)) (qY l) (qZ T f p) p (T.hint f (zZ (qZ T f p))) K G
end Go.Rx
namespace Go.Rx
open Go.RowKit Go.Sx
noncomputable def gEq (a b:PV):Bool:=@decide (a=b) (vYQ _)
theorem qGA (a:PV):gEq a a=true:=@vYK _ (vYQ _) rfl
theorem zYU {a b:PV} (h:gEq a b=true):a=b:=@vYU _ (vYQ _) h
noncomputable def g1 (l:List PV):Bool:=gEq (.t l) (.t l)
theorem g1_t (l:List PV):g1 l=true:=qGA _
noncomputable def o_lk (as_:List PV) (g:Bool) (r:Ret):List PV→Option (Bool × Ret):=fun ps=>some (gEq (.t ps) (.t as_) && g,r)
theorem zHH {P:Program} {f:Nat} {as_:List PV} {g:Bool} {r:Ret} (h:g=true→zY P f as_ r):jH P f (o_lk as_ g r):=by
 intro ps q hh;unfold o_lk at hh;simp only [vQZ,vQY,vQJ] at hh;obtain ⟨⟨hg,hb⟩,rfl⟩:=hh
 have:=zYU hg
 simp only [PV.t.injEq] at this;rw [this];exact h hb
noncomputable def o_cr (as_:List PV) (r:Ret):List PV→Option (Bool × Ret):=fun ps=>some (gEq (.t ps) (.t as_),r)
theorem qWW {P:Program} {f:Nat} {as_:List PV} {r:Ret} (h:zY P f as_ r):jH P f (o_cr as_ r):=by
 intro ps q hh;unfold o_cr at hh;simp only [vQZ,vQY] at hh;obtain ⟨hg,rfl⟩:=hh
 have:=zYU hg
 simp only [PV.t.injEq] at this;rw [this];exact h
noncomputable def gP (p:Prop):Bool:=@decide p (vYQ _)
theorem gP_of {p:Prop} (h:p):gP p=true:=@vYK _ (vYQ _) h
theorem gP_spec {p:Prop} (h:gP p=true):p:=@vYU _ (vYQ _) h
noncomputable def gFam {τ:Type} (C:τ→Prop) (enc:τ→List PV) (t:τ) (ps:List PV):Bool:=gP (C t∧ps=enc t)
noncomputable def gF1 {τ:Type} (C:τ→Prop) (enc:τ→List PV) (t:τ):Bool:=gFam C enc t (enc t)
theorem jV {τ:Type} {C:τ→Prop} {enc:τ→List PV} {t:τ} (h:C t):gF1 C enc t=true:=gP_of ⟨h,rfl⟩
noncomputable def o_fm {τ:Type} (dec:List PV→τ) (C:τ→Prop) (enc:τ→List PV) (res:τ→Ret):List PV→Option (Bool × Ret):=fun ps=>some (gFam C enc (dec ps) ps,res (dec ps))
theorem qQD {P:Program} {f:Nat} {τ:Type} {dec:List PV→τ} {C:τ→Prop} {enc:τ→List PV} {res:τ→Ret} (h:∀ t,C t→zY P f (enc t) (res t)):jH P f (o_fm dec C enc res):=by
 intro ps r hh;unfold o_fm at hh;simp only [vQZ,vQY] at hh;obtain ⟨hg,rfl⟩:=hh;obtain ⟨hc,e⟩:=gP_spec hg
 have:=h _ hc
 rw [← e] at this;exact this
noncomputable def gFamB {τ:Type} (C:τ→Prop) (eh:τ→List HV) (ep:τ→List PV) (t:τ) (hs:List HV) (ps:List PV):Bool:=gP (C t∧hs=eh t∧ps=ep t)
noncomputable def gB1 {τ:Type} (C:τ→Prop) (eh:τ→List HV) (ep:τ→List PV) (t:τ):Bool:=gFamB C eh ep t (eh t) (ep t)
theorem qYW {τ:Type} {C:τ→Prop} {eh:τ→List HV} {ep:τ→List PV} {t:τ} (h:C t):gB1 C eh ep t=true:=gP_of ⟨h,rfl,rfl⟩
noncomputable def o_fb {τ:Type} (dec:List HV→List PV→τ) (C:τ→Prop) (eh:τ→List HV) (ep:τ→List PV) (x:τ→PV) (qs:τ→List PV):List HV→List PV→Option (Bool × (PV × List PV)):=fun hs ps=>some (gFamB C eh ep (dec hs ps) hs ps,(x (dec hs ps),qs (dec hs ps)))
theorem yJX {P:Program} {f:Nat} {τ:Type} {dec:List HV→List PV→τ} {C:τ→Prop} {eh:τ→List HV} {ep:τ→List PV} {x:τ→PV} {qs:τ→List PV} (h:∀ t,C t→qVA P f (eh t) (ep t) (x t) (qs t)):zXE P f (o_fb dec C eh ep x qs):=by
 intro hs ps y ps' hh;unfold o_fb at hh;simp only [vQZ,vQY] at hh;obtain ⟨hg,rfl,rfl⟩:=hh;obtain ⟨hc,e1,e2⟩:=gP_spec hg
 have:=h _ hc
 rw [← e1,← e2] at this;exact this
def fQ (q:Nat→Int):Nat→List PV:=fun v=>[.n .i64 (q v)]
def unFQ (f:Nat→List PV):Nat→Int:=fun i=>match f i with
 | [.n _ x]=>x
 | _=>0
noncomputable def gFQ (f:Nat→List PV):Bool:=@decide (f=fQ (unFQ f)) (vYQ _)
theorem zGJ {f:Nat→List PV} {q:Nat→Int} (h:f=fQ q):gFQ f=true∧unFQ f=q:=by
 subst h;exact ⟨@vYK _ (vYQ _) rfl,rfl⟩
theorem gFQ_eq {f:Nat→List PV} (h:gFQ f=true):f=fQ (unFQ f):=@vYU _ (vYQ _) h
def iqOf (l:List Int):Nat→Int:=fun i=>l.getD i 0
theorem ints_same (l:List Int):Same (zVQ l) (.lf l.length (fQ (iqOf l))):=Same.lf (rows_fn 0 (fun x=>[PV.n .i64 x]) l)
theorem toN (p:Nat):(p:Int).toNat=p:=by omega
theorem jG {p:Nat} (_:p < 1000000):vYW .i64 ((p:Int) + 1)=((p + 1:Nat):Int):=by rw [zV (by omega)]; omega
theorem zU {p n:Nat} (_:p < n):inB (p:Int) n=true:=by unfold inB; rw [vYK (show (0:Int)≤p by omega),vYK (show (p:Int).toNat < n by omega)]; rfl
def qQL {τ:Type} (nx:Nat→τ→τ):Nat→Nat→τ→τ
 | 0,_,s=>s
 | m + 1,p,s=>qQL nx m (p + 1) (nx p s)
theorem qYB {τ β:Type} {nx:Nat→τ→τ} {KX:τ→β} {KR:Nat→τ→β}:∀ m p s,runS (fun _ _=>true) nx KX KR m p s=KX (qQL nx m p s)
 | 0,_,_=>rfl
 | m + 1,p,s=>by
  simp only [runS,vYZ,qQL];exact qYB m (p + 1) _
theorem qZX {τ:Type} {nx:Nat→τ→τ} {Q:Nat→τ→Prop} {c:Nat} (h:∀ i s,i < c→Q i s→Q (i + 1) (nx i s)):∀ r p s,p + r=c→Q p s→Q c (qQL nx r p s)
 | 0,p,s,hp,hq=>by
  obtain rfl:p=c:=by omega
  exact hq
 | r + 1,p,s,hp,hq=>qZX h r (p + 1) (nx p s) (by omega) (h p s (by omega) hq)
theorem qVE {P:Program} {f e sz n:Nat} {g:Nat→List PV} {ps:List PV} (h:zY P f ps (.ow e sz (.fo n g))):zY P f ps (.v (.lf n g)):=by
 refine ⟨h.1,fun w F vals hF hal=>(h.2 w F vals hF hal).mono ?_⟩
 rintro en w' ⟨v,F',he,hg,f1,f2,hr⟩
 obtain ⟨F2,f3,f4,hx⟩:=hr.pv (x:=.lf n g) rfl;refine ⟨v,F2,he,hg,fun k hk=>f3 k (f1 k hk),fun k hk => ?_,hx⟩;rcases f4 k hk with h | h
 ·exact f2 k h
 ·exact .inr h
theorem qKC {β:Type} (good:Nat→Bool) (KX:β) (KR:Nat→β):∀ k p,runS (fun (i:Nat) (_:Unit)=>good i) (fun _ _=>()) (fun _=>KX) (fun i _=>KR i) k p ()=zQQ good KX KR k p
 | 0,_=>rfl
 | k + 1,p=>by simp only [runS,zQQ,qKC good KX KR k (p + 1)]
def slI (σ:St) (k:Nat):Int:=match kH σ.S k with
 | some (.v (.n _ x))=>x
 | _=>0
def lfI (σ:St) (k:Nat):Nat→Int:=match kH σ.S k with
 | some (.v (.lf _ f))=>unFQ f
 | _=>fun _=>0
def lfN (σ:St) (k:Nat):Nat:=match kH σ.S k with
 | some (.v (.lf n _))=>n
 | _=>0
def rgN (σ:St) (k:Nat):Nat:=match qV σ.M k with
 | some (.reg _ _ (.fo n _))=>n
 | _=>0
def rgF (σ:St) (k:Nat):Nat→List PV:=match qV σ.M k with
 | some (.reg _ _ (.fo _ f))=>f
 | _=>fun _=>[]
def bkC (σ:St) (k i:Nat):Int:=match qV σ.M k with
 | some (.blk cs)=>match cs[i]? with
  | some (.v (.n _ x))=>x
  | _=>0
 | _=>0
def mA (w m:Nat):Nat→Nat
 | 0=>m
 | i + 1=>min (mA w m i + 1) w
theorem kG {w m:Nat} (h:m≤w):∀ i,mA w m i≤w
 | 0=>h
 | i + 1=>Nat.min_le_right _ _
def eW (e:Nat→Int) (w m:Nat):Int:=bif Nat.blt m w then e m else 0
def nxV (e:Nat→Int) (w m:Nat) (k:Int):Int:=eW e w m % k
theorem qJX {e:Nat→Int} {w m:Nat} {k:Int} (h:0 < k):0≤nxV e w m k∧nxV e w m k < k:=⟨Int.emod_nonneg _ (by omega),Int.emod_lt_of_pos _ h⟩
end Go.Rx
namespace Go.Sx
def dn (x:Int):Nat→Int
 | 0=>1073741824
 | 1=>x * 6746518852 / 65536
 | k + 2=>dn x (k + 1) * (x * 6746518852 / 65536) / 1073741824
def up (x:Int):Nat→Int
 | 0=>1073741824
 | 1=>yYC (x * 6746518853) 65536
 | k + 2=>yYC (up x (k + 1) * yYC (x * 6746518853) 65536) 1073741824
end Go.Sx

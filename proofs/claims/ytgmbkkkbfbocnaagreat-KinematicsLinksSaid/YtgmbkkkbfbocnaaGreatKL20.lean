/- Part 20 of the texts behind the last one: rules and contracts. No condition. -/
import Derived.Test.YtgmbkkkbfbocnaaGreatKL19
open Option renaming bind_eq_some_iff → vQQ, bind_some → vYQ
open Option.some renaming injEq → vQZ
open Prod.mk renaming injEq → vQY
open Bool renaming and_eq_true → vQJ, and_self → vZJ
open List renaming length_cons → vQW
open Nat renaming le_of_ble_eq_true → vZX
open Classical renaming propDecidable → vYJ
open Go.IntKind renaming wrap → vJJ
namespace Go.Rx
open Go.RowKit Go.Sx
abbrev Ev:=Nat→Op→List RV→(Eff→Option (Ret × Mem))→Option (Ret × Mem)
def EvOk (C:Cx) (ev:Ev):Prop:=∀ dst op vs K r,ev dst op vs K=some r→∃ e,zV C.T C.cA C.cB C.me dst op vs=some e∧K e=some r
def goE (C:Cx) (ev:Ev) (o:Oper) (σ:St) (K:Eff × List RV→Option (Ret × Mem)):Option (Ret × Mem) :=
 bif dstB C.n o.dst then
  (mapO (opv (mode o.op) σ) o.op.operands.toList).bind fun vs=>ev (o.dst.getD 0) o.op vs fun e =>
   bif e.nw.all (fun id=>(zH σ.M id).isNone) then K (e,vs) else none
 else none
def kQJ (C:Cx) (ev:Ev) (ops:Array Oper) (o:Oper) (σ:St) (K:Eff × List RV→Option (Ret × Mem)):Option (Ret × Mem) :=
 match o.guard with
 | none=>goE C ev o σ K
 | some (j,b)=>match (ops[j]?).bind (·.dst) with
  | some d=>match uG σ.S d with
   | some (.v (.b c))=>(match b with
    | true=>bif c then goE C ev o σ K else yGX C o K
    | false=>bif c then yGX C o K else goE C ev o σ K)
   | some (.v (.t []))=>yGX C o K
   | _=>none
  | none=>none
def yUY (C:Cx) (ev:Ev) (ops:Array Oper):List Oper→(St→Option (Ret × Mem))→St→Option (Ret × Mem)
 | [],K,σ=>K σ
 | o :: l,K,σ=>kQJ C ev ops o σ fun r=>yUY C ev ops l K (σ.apply r.1 o.dst)
def zUZ (C:Cx) (ev:Ev) (ops:Array Oper):Nat→List Oper→List Done→(St→Option (Ret × Mem))→St→Option (Ret × Mem)
 | _,[],acc,K,σ=>bif zGK ops acc.reverse && Sx.backB ops then K σ else none
 | i,o :: l,acc,K,σ=>kQJ C ev ops o σ fun r=>zUZ C ev ops (i + 1) l ((i,r) :: acc) K (σ.apply r.1 o.dst)
def zWY (N:Nat) (C:Cx) (ev:Ev) (LO:List Nat→Option kV):Code→List Nat→Cont→St→Option (Ret × Mem)
 | .skip,_,K,σ=>K .normal σ
 | .label _,_,K,σ=>K .normal σ
 | .scope x,p,K,σ=>zWY N C ev LO x (0 :: p) K σ
 | .ret,_,K,σ=>K .ret σ
 | .exit id,_,K,σ=>K (.exit id) σ
 | .region _ ops d,_,K,σ=>bif d then zUZ C ev ops 0 ops.toList [] (K .normal) σ else yUY C ev ops ops.toList (K .normal) σ
 | .seq x y,p,K,σ=>zWY N C ev LO x (0 :: p) (fun e σ=>match e with
   | .normal=>zWY N C ev LO y (1 :: p) K σ
   | e=>K e σ) σ
 | .cond c x y,p,K,σ=>(opv 1 σ c).bind fun v=>match v with
   | .v (.b t)=>bif t then zWY N C ev LO x (0 :: p) K σ else zWY N C ev LO y (1 :: p) K σ
   | _=>none
 | .block id x,p,K,σ=>zWY N C ev LO x (0 :: p) (fun e σ=>match e with
   | .exit id'=>bif Nat.beq id' id then K .normal σ else K (.exit id') σ
   | e=>K e σ) σ
 | .loop x,p,K,σ=>match LO p with
   | some S=>S (qXZ (C.T.hint C.me (qG x)) σ) K
   | none=>zUX (fun again σ=>zWY N C ev LO x (0 :: p) (fun e σ=>match e with
     | .normal=>again σ
     | e=>K e (qJK (C.T.hint C.me (qG x)) σ)) (qXZ (C.T.hint C.me (qG x)) σ)) N σ
 | _,_,_,_=>none
section
variable {C:Cx} {ev:Ev} {ops:Array Oper} {r:Ret × Mem} {K0:Ret × Mem→Option (Ret × Mem)}
theorem yWH {o:Oper} {σ:St} {K:Eff × List RV→Option (Ret × Mem)} (hc:EvOk C ev) (hg:uH ops σ o=some true) (h:goE C ev o σ K=some r):∃ x,qXG C ops o σ=some x∧K x=some r:=by
 unfold goE at h;obtain ⟨hd,h⟩:=qY h;rw [vQQ] at h;obtain ⟨vs,hvs,h⟩:=h;obtain ⟨e,he,h⟩:=hc _ _ _ _ _ h;obtain ⟨hn,h⟩:=qY h;exact ⟨(e,vs),zKG hd (.inr ⟨hg,hvs,he,fun i hi=>by simpa using List.all_eq_true.1 hn i hi⟩),h⟩
theorem stepE_some {o:Oper} {σ:St} {K:Eff × List RV→Option (Ret × Mem)} (hc:EvOk C ev) (h:kQJ C ev ops o σ K=some r):∃ x,qXG C ops o σ=some x∧K x=some r:=by
 unfold kQJ at h;cases hg:o.guard with
 | none=>rw [hg] at h; exact yWH hc (by unfold uH; rw [hg]) h
 | some gb =>
  obtain ⟨j,b⟩:=gb;rw [hg] at h;simp only at h;split at h
  ·rename_i d hd;split at h
   ·rename_i c hlc;have gd:uH ops σ o=some (c == b):=by
     unfold uH;rw [hg];simp only [hd,hlc]
    cases b <;> cases c <;> simp only [vYV,vYG] at h
    ·exact yWH hc gd h
    ·exact qVZ gd h
    ·exact qVZ gd h
    ·exact yWH hc gd h
   ·rename_i hlc;exact qVZ (by unfold uH; rw [hg]; simp only [hd,hlc]) h
   ·cases h
  ·cases h
theorem runOpsE_some (hc:EvOk C ev) {K K':St→Option (Ret × Mem)} (hK:∀ σ,K σ=some r→Gets K0 r (K' σ)):∀ (l:List Oper) (σ:St),yUY C ev ops l K σ=some r→Gets K0 r (zGZ C ops l K' σ)
 | [],σ,h=>hK σ h
 | o :: l,σ,h=>by
  simp only [yUY] at h;obtain ⟨x,hx,h⟩:=stepE_some hc h;simp only [zGZ,hx,vYQ];exact runOpsE_some hc hK l _ h
theorem runDrawE_some (hc:EvOk C ev) {K K':St→Option (Ret × Mem)} (hK:∀ σ,K σ=some r→Gets K0 r (K' σ)):∀ (l:List Oper) (i:Nat) (acc:List Done) (σ:St),zUZ C ev ops i l acc K σ=some r→Gets K0 r (qWK C ops i l acc K' σ)
 | [],i,acc,σ,h=>by
  simp only [zUZ] at h;obtain ⟨hp,h⟩:=qY h;simp only [qWK,hp,vYV];exact hK σ h
 | o :: l,i,acc,σ,h=>by
  simp only [zUZ] at h;obtain ⟨x,hx,h⟩:=stepE_some hc h;simp only [qWK,hx,vYQ];exact runDrawE_some hc hK l _ _ _ h
theorem qYY {N:Nat} {LO:List Nat→Option kV} {B:Code} (hc:EvOk C ev) (hL:∀ p S,LO p=some S→qXX N C (qXQ 0 (qJQ B p)) S):∀ (c:Code) (p:List Nat) {K K':Cont} (hp:qJQ B p=c) (hK:∀ e σ,K e σ=some r→Gets K0 r (K' e σ)) (σ:St),zWY N C ev LO c p K σ=some r→Gets K0 r (runC N C c K' σ)
 | .skip,p,K,K',hp,hK,σ,h=>hK _ _ h
 | .label _,p,K,K',hp,hK,σ,h=>hK _ _ h
 | .scope x,p,K,K',hp,hK,σ,h=>qYY hc hL x (0 :: p) (by simp only [qJQ,hp,qXQ]) hK σ h
 | .ret,p,K,K',hp,hK,σ,h=>hK _ _ h
 | .exit id,p,K,K',hp,hK,σ,h=>hK _ _ h
 | .region id ops d,p,K,K',hp,hK,σ,h=>by
  cases d with
  | true=>exact runDrawE_some hc (hK .normal) _ _ _ _ h
  | false=>exact runOpsE_some hc (hK .normal) _ _ h
 | .seq x y,p,K,K',hp,hK,σ,h=>by
  refine qYY hc hL x (0 :: p) (by simp only [qJQ,hp,qXQ]) (fun e τ hk => ?_) σ h;cases e with
  | normal=>exact qYY hc hL y (1 :: p) (by simp only [qJQ,hp,qXQ]) hK τ hk
  | _=>exact hK _ _ hk
 | .cond c x y,p,K,K',hp,hK,σ,h=>by
  simp only [zWY,vQQ] at h;obtain ⟨v,hv,h⟩:=h;simp only [runC,hv,vYQ];split at h
  ·rename_i t;cases t with
   | true=>exact qYY hc hL x (0 :: p) (by simp only [qJQ,hp,qXQ]) hK σ h
   | false=>exact qYY hc hL y (1 :: p) (by simp only [qJQ,hp,qXQ]) hK σ h
  ·cases h
 | .block id x,p,K,K',hp,hK,σ,h=>by
  refine qYY hc hL x (0 :: p) (by simp only [qJQ,hp,qXQ]) (fun e τ hk => ?_) σ h;cases e with
  | exit id' =>
   simp only at hk ⊢;cases hb:Nat.beq id' id with
   | true=>rw [hb] at hk; exact hK _ _ hk
   | false=>rw [hb] at hk; exact hK _ _ hk
  | _=>exact hK _ _ hk
 | .loop x,p,K,K',hp,hK,σ,h=>by
  simp only [zWY] at h;simp only [runC];cases hS:LO p with
  | none =>
   rw [hS] at h;refine zYV (fun a a' ha τ hs => ?_) N σ h;refine qYY hc hL x (0 :: p) (by simp only [qJQ,hp,qXQ]) (fun e υ hk => ?_) _ hs;cases e with
   | normal=>exact ha _ hk
   | _=>exact hK _ _ hk
  | some S =>
   rw [hS] at h
   have:=hL p S hS
   rw [hp] at this;exact this K K' K0 σ r hK h
 | .rangeFunc ..,p,K,K',hp,hK,σ,h=>by cases h
 | .goto _,p,K,K',hp,hK,σ,h=>by cases h
 | .refuse _,p,K,K',hp,hK,σ,h=>by cases h
end
def uX (N:Nat) (C:Cx) (ev:Ev) (LO:List Nat→Option kV) (x:Code) (p:List Nat) (h:Hint) (K:Cont) (G:St→Option (Ret × Mem)) (σ:St):Option (Ret × Mem):=zWY N C ev LO x (0 :: p) (fun e τ=>match e with
 | .normal=>G (qXZ h τ)
 | e=>K e (qJK h τ)) σ
def LFX (N:Nat) (C:Cx) (ev:Ev) (LO:List Nat→Option kV) (x:Code) (p:List Nat) (h:Hint) (K:Cont):Nat→St→Option (Ret × Mem)
 | 0,_=>none
 | n + 1,σ=>uX N C ev LO x p h K (LFX N C ev LO x p h K n) σ
theorem LFX_get {N:Nat} {C:Cx} {ev:Ev} {LO:List Nat→Option kV} {B x:Code} {p:List Nat} {K K':Cont} {K0:Ret × Mem→Option (Ret × Mem)} {r:Ret × Mem} (hc:EvOk C ev) (hL:∀ p S,LO p=some S→qXX N C (qXQ 0 (qJQ B p)) S) (hx:qJQ B (0 :: p)=x)
  (hK:∀ e τ,K e τ=some r→Gets K0 r (K' e τ)):∀ (n:Nat) (σ:St),LFX N C ev LO x p (C.T.hint C.me (qG x)) K n (qXZ (C.T.hint C.me (qG x)) σ)=some r→Gets K0 r (zUX (fun again σ=>runC N C x (fun e σ=>match e with
   | .normal=>again σ
   | e=>K' e (qJK (C.T.hint C.me (qG x)) σ)) (qXZ (C.T.hint C.me (qG x)) σ)) n σ)
 | 0,σ,h=>by cases h
 | n + 1,σ,h=>by
  simp only [LFX,uX] at h;simp only [zUX];refine qYY hc hL x (0 :: p) hx (fun e τ hk => ?_) _ h;cases e with
  | normal=>exact LFX_get hc hL hx hK n τ hk
  | _=>exact hK _ _ hk
theorem loopX_of {N:Nat} {C:Cx} {ev:Ev} {LO:List Nat→Option kV} {B x:Code} {p:List Nat} {S:kV} (hc:EvOk C ev) (hL:∀ p S,LO p=some S→qXX N C (qXQ 0 (qJQ B p)) S) (hx:qJQ B (0 :: p)=x)
  (hS:∀ K σ r,S σ K=some r→LFX N C ev LO x p (C.T.hint C.me (qG x)) K N σ=some r):qXX N C x S:=fun K _ _ σ r hK h =>
 LFX_get hc hL hx hK N σ (hS K _ r h)
abbrev jQZ:=Nat→List HV→List PV→(PV × List PV→Option (Ret × Mem))→Option (Ret × Mem)
def jWX (r:PV × List PV) (K:PV × List PV→Option (Ret × Mem)):Option (Ret × Mem):=match r with
 | (.b c,ps)=>bif c then K (.b true,ps) else K (.b false,ps)
 | r=>K r
theorem splitB_eq (r:PV × List PV) (K:PV × List PV→Option (Ret × Mem)):jWX r K=K r:=by
 unfold jWX;split
 ·rename_i c ps; cases c <;> rfl
 ·rfl
def callEffBK (cBK:jQZ) (f:Nat) (args:List RV) (K:Eff→Option (Ret × Mem)):Option (Ret × Mem) :=
 (jHZ args).bind fun p=>(mapO CV.pv p.2).bind fun ps=>(mapO (RV.toB p.1) args).bind fun hs=>cBK f hs ps fun r=>jWX r fun r =>
  K (Eff.and (.set p.1 (.blk (r.2.map PV.toH)) (.v r.1)) (catR RV.regs args))
def SndBK (C:Cx) (cBK:jQZ):Prop:=∀ f hs ps K r,cBK f hs ps K=some r→∃ x,C.cB f hs ps=some x∧K x=some r
def selC:List PV→Int→PV
 | [],_=>.ni
 | [x],_=>x
 | x :: y :: l,i=>yYQ (decide (i=0)) x (selC (y :: l) (i - 1))
theorem selC_eq:∀ (l:List PV) (i:Int),0≤i→i.toNat < l.length→l[i.toNat]? = some (selC l i)
 | [],i,_,h=>by simp at h
 | [x],i,h0,h=>by
  have:i.toNat=0:=by simp at h; omega
  rw [this]; rfl
 | x :: y :: l,i,h0,h=>by
  rw [selC];by_cases e:i=0
  ·subst e; rw [vJQ rfl,yWJ]; rfl
  ·rw [vYH e,yWK,show i.toNat=(i - 1).toNat + 1 by omega,List.getElem?_cons_succ];exact selC_eq (y :: l) (i - 1) (by omega) (by simp only [vQW] at h ⊢; omega)
def evS (C:Cx) (cK:qXY) (cBK:jQZ):Ev:=fun dst op vs K=>match op,vs with
 | .call ⟨.value fx,axs,ats⟩,.v (.f f first cap) :: vs=>bif C.T.rw f then callEffBK cBK f (first.map .v ++ vs ++ cap.map .v) K else jXH C cK dst (.call ⟨.value fx,axs,ats⟩) (.v (.f f first cap) :: vs) K
 | .index t a b,[.v (.a cs),.v (.n k i)]=>(C.T.ar t).bind fun q=>bif q.2.2 then jXH C cK dst (.index t a b) [.v (.a cs),.v (.n k i)] K else bif inB i q.1 && Nat.ble q.1 cs.length then K (.val (selC cs i).toH) else none
 | .slice t a lo hi none,.v (.s s) :: vs=>(yKX lo hi vs).bind fun b=>bif C.T.str t then (bif inS b.1 b.2 s.size then K (.val (.v (.s (s.extract (loOf b.1) (hiOf b.2 s.size))))) else none) else none
 | op,vs=>jXH C cK dst op vs K
theorem evS_ok {C:Cx} {cK:qXY} {cBK:jQZ} (hc:SndK C cK) (hb:SndBK C cBK):EvOk C (evS C cK cBK):=fun dst op vs K r h=>by
 unfold evS at h;split at h
 ·rename_i fx axs ats f first cap vs
  cases hrw:C.T.rw f with
  | false =>
   rw [hrw,vYG] at h;exact zJZ hc h
  | true =>
   rw [hrw,vYV] at h;simp only [callEffBK,vQQ] at h;obtain ⟨p,hp,ps,hps,hs,hhs,h⟩:=h;obtain ⟨x,hx,h⟩:=hb _ _ _ _ _ h;rw [splitB_eq] at h;exact ⟨_,by simp only [zV,hrw,vYV,zHG,hp,hps,hhs,hx,vYQ],h⟩
 ·rename_i t a b cs k i;simp only [vQQ] at h;obtain ⟨q,hq,h⟩:=h;cases h2:q.2.2 with
  | true=>rw [h2,vYV] at h; exact zJZ hc h
  | false =>
   rw [h2,vYG] at h;obtain ⟨hi,h⟩:=qY h;rw [vQJ] at hi;obtain ⟨i0,i1⟩:=qGK hi.1;have hl:=vZX hi.2;exact ⟨_,by simp only [zV,hq,vYQ,hi.1,h2,vYV,vYG,selC_eq cs i i0 (by omega)],h⟩
 ·rename_i t a lo hi s vs;simp only [vQQ] at h;obtain ⟨b,hbd,h⟩:=h;obtain ⟨h1,h⟩:=qY h;obtain ⟨h2,h⟩:=qY h;exact ⟨_,by simp only [zV,hbd,vYQ,h1,h2,vZJ,vYV],h⟩
 ·exact zJZ hc h
abbrev OrB:=Nat→Option (List HV→List PV→Option (Bool × (PV × List PV)))
structure OrS where
 a:OrK
 b:OrB
def OrS.orc (o:OrS):Orc:=⟨o.a.orc.a,fun g=>(o.b g).bind fun f=>some fun hs ps=>(f hs ps).bind fun x=>bif x.1 then some x.2 else none⟩
structure OrS.Ok (P:Program) (o:OrS):Prop where
 a:o.a.Ok P
 b:∀ g f,o.b g=some f→∀ hs ps x ps',f hs ps=some (true,(x,ps'))→zZJ P g hs ps x ps'
theorem OrS.Ok.orc {P:Program} {o:OrS} (h:o.Ok P):OrcOk P o.orc:=by
 refine ⟨h.a.orc.a,fun g f ho hs ps x ps' hr => ?_⟩;simp only [OrS.orc,vQQ,vQZ] at ho;obtain ⟨q,hq,rfl⟩:=ho;simp only [vQQ] at hr;obtain ⟨y,hy,hr⟩:=hr;obtain ⟨h1,hr⟩:=qY hr;obtain ⟨y1,y2⟩:=y;cases hr;exact h.b g q hq hs ps x ps' (by rw [hy,← h1])
def cxS (T:Tab) (o:OrS) (N f n:Nat):Cx:=⟨T,qVW o.orc (runF T o.orc N),zZY o.orc (runF T o.orc N),f,n⟩
def jXZ (T:Tab) (o:OrS):Nat→Nat→List HV→Mem→(Ret × Mem→Option (Ret × Mem))→Option (Ret × Mem)
 | 0,_,_,_,_=>none
 | N + 1,f,hs,M,K=>match T.fn f with
  | none=>none
  | some fi=>bif Nat.ble hs.length fi.ntmps then zWY N (cxS T o N f fi.ntmps) (evS (cxS T o N f fi.ntmps)
    (zGX o.a fun g ps K=>jXZ T o N g (ps.map .v) [] fun r=>K r.1)
    (fun g hs ps K=>match o.b g with
     | some q=>(q hs ps).bind fun x=>bif x.1 then K x.2 else none
     | none=>jXZ T o N g hs [(pid,.blk (ps.map PV.toH))] fun r=>(qGV r.2).bind fun ps'=>(jXU r.1).bind fun x=>K (x,ps')))
    (fun _=>none) fi.body [] (fun e σ=>(endK T M fi.results e σ).bind K) ⟨initS 0 hs,M⟩ else none
def ckS (T:Tab) (o:OrS) (N:Nat):qXY:=zGX o.a fun g ps K=>jXZ T o N g (ps.map .v) [] fun r=>K r.1
def cbS (T:Tab) (o:OrS) (N:Nat):jQZ:=fun g hs ps K=>match o.b g with
 | some q=>(q hs ps).bind fun x=>bif x.1 then K x.2 else none
 | none=>jXZ T o N g hs [(pid,.blk (ps.map PV.toH))] fun r=>(qGV r.2).bind fun ps'=>(jXU r.1).bind fun x=>K (x,ps')
def evX (T:Tab) (o:OrS) (N f n:Nat):Ev:=evS (cxS T o N f n) (ckS T o N) (cbS T o N)
section
variable {T:Tab} {o:OrS}
def FSnd (T:Tab) (o:OrS) (N:Nat):Prop:=∀ (f:Nat) (hs:List HV) (M:Mem) (K:Ret × Mem→Option (Ret × Mem)) (r:Ret × Mem),jXZ T o N f hs M K=some r→∃ x,runF T o.orc N f hs M=some x∧K x=some r
theorem ckS_ok {N f n:Nat} (h:FSnd T o N):SndK (cxS T o N f n) (ckS T o N):=fun g qs K' r' hk=>by
 unfold ckS zGX at hk;show ∃ x,qVW o.orc (runF T o.orc N) g qs=some x∧K' x=some r';unfold qVW;cases ho:o.a g with
 | some q =>
  rw [ho] at hk;simp only [vQQ] at hk;obtain ⟨x,hx,hk⟩:=hk;obtain ⟨h1,hk⟩:=qY hk;exact ⟨x.2,by simp only [OrS.orc,OrK.orc,ho,hx,vYQ,h1,vYV],hk⟩
 | none =>
  rw [ho] at hk;obtain ⟨x,hx,hk⟩:=h g _ _ _ r' hk;have e:o.orc.a g=none:=by simp only [OrS.orc,OrK.orc,ho,Option.bind_none]
  exact ⟨x.1,by simp only [e,hx,vYQ],hk⟩
theorem cbS_ok {N f n:Nat} (h:FSnd T o N):SndBK (cxS T o N f n) (cbS T o N):=fun g hs ps K' r' hk=>by
 unfold cbS at hk;show ∃ x,zZY o.orc (runF T o.orc N) g hs ps=some x∧K' x=some r';unfold zZY;cases ho:o.b g with
 | some q =>
  rw [ho] at hk;simp only [vQQ] at hk;obtain ⟨x,hx,hk⟩:=hk;obtain ⟨h1,hk⟩:=qY hk;exact ⟨x.2,by simp only [OrS.orc,ho,hx,vYQ,h1,vYV],hk⟩
 | none =>
  rw [ho] at hk;obtain ⟨x,hx,hk⟩:=h g _ _ _ r' hk;simp only [vQQ] at hk;obtain ⟨ps',h1,y,h2,hk⟩:=hk;have e:o.orc.b g=none:=by simp only [OrS.orc,ho,Option.bind_none]
  exact ⟨(y,ps'),by simp only [e,hx,vYQ,h1,h2],hk⟩
theorem jHJ {N f n:Nat} (h:FSnd T o N):EvOk (cxS T o N f n) (evX T o N f n):=evS_ok (ckS_ok h) (cbS_ok h)
theorem zWQ:∀ N,FSnd T o N
 | 0,f,hs,M,K,r,h=>by cases h
 | N + 1,f,hs,M,K,r,h=>by
  simp only [jXZ] at h;split at h
  ·cases h
  ·rename_i fi hfi;obtain ⟨hb,h⟩:=qY h;have ih:FSnd T o N:=zWQ N;obtain ⟨q,h1,h2⟩:=qYY (K0:=K) (K':=endK T M fi.results) (B:=fi.body) (LO:=fun _=>none) (jHJ (f:=f) (n:=fi.ntmps) ih) (fun p S hp=>by cases hp) fi.body [] rfl (fun e σ hk=>by
    simp only [vQQ] at hk;exact hk) _ h
   refine ⟨q,?_,h2⟩;simp only [runF,hfi,hb,vYV];exact h1
def kQK (T:Tab) (o:OrS) (LO:List Nat→Option kV) (N f:Nat) (hs:List HV) (M:Mem) (K:Ret × Mem→Option (Ret × Mem)):Option (Ret × Mem):=match T.fn f with
 | none=>none
 | some fi=>bif Nat.ble hs.length fi.ntmps then zWY N (cxS T o N f (ntmF T f)) (evX T o N f (ntmF T f)) LO (zGV T f) [] (fun e σ=>(endK T M fi.results e σ).bind K) ⟨initS 0 hs,M⟩ else none
theorem runXL_some {LO:List Nat→Option kV} {N f:Nat} {hs:List HV} {M:Mem} {K:Ret × Mem→Option (Ret × Mem)} {r:Ret × Mem} (hL:∀ p S,LO p=some S→qXX N (cxS T o N f (ntmF T f)) (qQ T f p) S) (h:kQK T o LO N f hs M K=some r):∃ x,runF T o.orc (N + 1) f hs M=some x∧K x=some r:=by
 unfold kQK at h;split at h
 ·cases h
 ·rename_i fi hfi;obtain ⟨hb,h⟩:=qY h;obtain ⟨q,h1,h2⟩:=qYY (K0:=K) (K':=endK T M fi.results) (B:=zGV T f) (jHJ (zWQ N)) hL (zGV T f) [] rfl (fun e σ hk=>by
   simp only [vQQ] at hk;exact hk) _ h
  have eb:zGV T f=fi.body:=by unfold zGV; rw [hfi]
  have en:ntmF T f=fi.ntmps:=by unfold ntmF; rw [hfi]
  rw [eb,en] at h1;refine ⟨q,?_,h2⟩;simp only [runF,hfi,hb,vYV];unfold cxS at h1;exact h1
def qWH (T:Tab) (o:OrS) (LO:List Nat→Option kV) (N f:Nat) (ps:List PV):Option (Ret × Mem):=kQK T o LO N f (ps.map .v) [] fun r=>some (r.1,[])
def jXJ (T:Tab) (o:OrS) (LO:List Nat→Option kV) (N f:Nat) (hs:List HV) (ps:List PV):Option (Ret × Mem):=kQK T o LO N f hs [(pid,.blk (ps.map PV.toH))] fun r=>(qGV r.2).bind fun ps'=>(jXU r.1).bind fun x=>some (.v (.t (x :: ps')),[])
theorem yU {P:Program} {LO:List Nat→Option kV} {N f:Nat} {ps:List PV} {r:Ret} (hT:TabOk P T) (hm:P.follows .mixedOrders=true) (hO:o.Ok P) (hL:∀ p S,LO p=some S→qXX N (cxS T o N f (ntmF T f)) (qQ T f p) S) (h:qWH T o LO N f ps=some (r,[])):yH P f ps r:=by
 obtain ⟨x,h1,h2⟩:=runXL_some hL h;cases h2;refine zUQ (N:=N + 1) hT hm hO.orc ?_;unfold run;rw [h1];rfl
theorem qHJ {P:Program} {LO:List Nat→Option kV} {N f:Nat} {hs:List HV} {ps ps':List PV} {x:PV} (hT:TabOk P T) (hm:P.follows .mixedOrders=true) (hO:o.Ok P) (hL:∀ p S,LO p=some S→qXX N (cxS T o N f (ntmF T f)) (qQ T f p) S) (h:jXJ T o LO N f hs ps=some (.v (.t (x :: ps')),[])):zZJ P f hs ps x ps':=by
 obtain ⟨y,h1,h2⟩:=runXL_some hL h;simp only [vQQ,vQZ,vQY,Ret.v.injEq,PV.t.injEq,List.cons.injEq,and_true] at h2;obtain ⟨qs,h3,z,h4,rfl,rfl⟩:=h2;refine runB_sound (N:=N + 1) hT hm hO.orc ?_;unfold runB;rw [h1];simp only [vYQ,h3,h4]
end
theorem qQU {N:Nat} {T:Tab} {o:OrS} {f:Nat} {LO:List Nat→Option kV} {p:List Nat} {τ:Type} {hd:τ→St} {ex:St→τ} {R:τ→Cont→Option (Ret × Mem)}
  (hL:∀ p S,LO p=some S→qXX N (cxS T o N f (ntmF T f)) (qQ T f p) S)
  (h:∀ s K r,R s K=some r→LFX N (cxS T o N f (ntmF T f)) (evX T o N f (ntmF T f)) LO (qQ T f p) p (T.hint f (qG (qQ T f p))) K N (hd s)=some r):qXX N (cxS T o N f (ntmF T f)) (qQ T f p) (sumF hd ex R) :=
 loopX_of (B:=zGV T f) (ev:=evX T o N f (ntmF T f)) (jHJ (zWQ N)) hL rfl fun K σ r hr=>by
  unfold sumF at hr;obtain ⟨hg,hq⟩:=qY hr;have e:=gSt_eq hg
  have:=h (ex σ) K r hq
  rw [← e] at this;exact this
abbrev OrBL:=List (Nat × (List HV→List PV→Option (Bool × (PV × List PV))))
def yKW (P:Program) (f:Nat) (o:List HV→List PV→Option (Bool × (PV × List PV))):Prop:=∀ hs ps x ps',o hs ps=some (true,(x,ps'))→zZJ P f hs ps x ps'
def orS (l:OrL) (m:OrBL):OrS:=⟨OrL.k l,asc m⟩
theorem qQH {P:Program} {l:OrL} {m:OrBL} (h:AllP (fun x:Nat × (List PV→Option (Bool × Ret))=>zX P x.1 x.2) l) (hb:AllP (fun x:Nat × (List HV→List PV→Option (Bool × (PV × List PV)))=>yKW P x.1 x.2) m):(orS l m).Ok P :=
 ⟨OrL.ok h,fun _ _ ho hs ps x ps' hr=>hb.of (qKQ ho) hs ps x ps' hr⟩
end Go.Rx
namespace Go.Rx
open Go.RowKit Go.Sx
noncomputable def gEq (a b:PV):Bool:=@decide (a=b) (vYJ _)
theorem zUG (a:PV):gEq a a=true:=@vJQ _ (vYJ _) rfl
theorem yYX {a b:PV} (h:gEq a b=true):a=b:=@vJZ _ (vYJ _) h
noncomputable def g1 (l:List PV):Bool:=gEq (.t l) (.t l)
theorem g1_t (l:List PV):g1 l=true:=zUG _
noncomputable def o_lk (as_:List PV) (g:Bool) (r:Ret):List PV→Option (Bool × Ret):=fun ps=>some (gEq (.t ps) (.t as_) && g,r)
theorem yJV {P:Program} {f:Nat} {as_:List PV} {g:Bool} {r:Ret} (h:g=true→yH P f as_ r):zX P f (o_lk as_ g r):=by
 intro ps q hh;unfold o_lk at hh;simp only [vQZ,vQY,vQJ] at hh;obtain ⟨⟨hg,hb⟩,rfl⟩:=hh
 have:=yYX hg
 simp only [PV.t.injEq] at this;rw [this];exact h hb
noncomputable def o_cr (as_:List PV) (r:Ret):List PV→Option (Bool × Ret):=fun ps=>some (gEq (.t ps) (.t as_),r)
theorem zKK {P:Program} {f:Nat} {as_:List PV} {r:Ret} (h:yH P f as_ r):zX P f (o_cr as_ r):=by
 intro ps q hh;unfold o_cr at hh;simp only [vQZ,vQY] at hh;obtain ⟨hg,rfl⟩:=hh
 have:=yYX hg
 simp only [PV.t.injEq] at this;rw [this];exact h
noncomputable def gP (p:Prop):Bool:=@decide p (vYJ _)
theorem yHK {p:Prop} (h:p):gP p=true:=@vJQ _ (vYJ _) h
theorem qKV {p:Prop} (h:gP p=true):p:=@vJZ _ (vYJ _) h
noncomputable def gFam {τ:Type} (C:τ→Prop) (enc:τ→List PV) (t:τ) (ps:List PV):Bool:=gP (C t∧ps=enc t)
noncomputable def gF1 {τ:Type} (C:τ→Prop) (enc:τ→List PV) (t:τ):Bool:=gFam C enc t (enc t)
theorem qGQ {τ:Type} {C:τ→Prop} {enc:τ→List PV} {t:τ} (h:C t):gF1 C enc t=true:=yHK ⟨h,rfl⟩
noncomputable def o_fm {τ:Type} (dec:List PV→τ) (C:τ→Prop) (enc:τ→List PV) (res:τ→Ret):List PV→Option (Bool × Ret):=fun ps=>some (gFam C enc (dec ps) ps,res (dec ps))
theorem zGW {P:Program} {f:Nat} {τ:Type} {dec:List PV→τ} {C:τ→Prop} {enc:τ→List PV} {res:τ→Ret} (h:∀ t,C t→yH P f (enc t) (res t)):zX P f (o_fm dec C enc res):=by
 intro ps r hh;unfold o_fm at hh;simp only [vQZ,vQY] at hh;obtain ⟨hg,rfl⟩:=hh;obtain ⟨hc,e⟩:=qKV hg
 have:=h _ hc
 rw [← e] at this;exact this
noncomputable def gFamB {τ:Type} (C:τ→Prop) (eh:τ→List HV) (ep:τ→List PV) (t:τ) (hs:List HV) (ps:List PV):Bool:=gP (C t∧hs=eh t∧ps=ep t)
noncomputable def gB1 {τ:Type} (C:τ→Prop) (eh:τ→List HV) (ep:τ→List PV) (t:τ):Bool:=gFamB C eh ep t (eh t) (ep t)
theorem qQQ {τ:Type} {C:τ→Prop} {eh:τ→List HV} {ep:τ→List PV} {t:τ} (h:C t):gB1 C eh ep t=true:=yHK ⟨h,rfl,rfl⟩
noncomputable def o_fb {τ:Type} (dec:List HV→List PV→τ) (C:τ→Prop) (eh:τ→List HV) (ep:τ→List PV) (x:τ→PV) (qs:τ→List PV):List HV→List PV→Option (Bool × (PV × List PV)):=fun hs ps=>some (gFamB C eh ep (dec hs ps) hs ps,(x (dec hs ps),qs (dec hs ps)))
theorem kQW {P:Program} {f:Nat} {τ:Type} {dec:List HV→List PV→τ} {C:τ→Prop} {eh:τ→List HV} {ep:τ→List PV} {x:τ→PV} {qs:τ→List PV} (h:∀ t,C t→zZJ P f (eh t) (ep t) (x t) (qs t)):yKW P f (o_fb dec C eh ep x qs):=by
 intro hs ps y ps' hh;unfold o_fb at hh;simp only [vQZ,vQY] at hh;obtain ⟨hg,rfl,rfl⟩:=hh;obtain ⟨hc,e1,e2⟩:=qKV hg
 have:=h _ hc
 rw [← e1,← e2] at this;exact this
def fQ (q:Nat→Int):Nat→List PV:=fun v=>[.n .i64 (q v)]
def unFQ (f:Nat→List PV):Nat→Int:=fun i=>match f i with
 | [.n _ x]=>x
 | _=>0
def iqOf (l:List Int):Nat→Int:=fun i=>l.getD i 0
theorem ints_same (l:List Int):Same (jJQ l) (.lf l.length (fQ (iqOf l))):=Same.lf (rows_fn 0 (fun x=>[PV.n .i64 x]) l)
theorem toN (p:Nat):(p:Int).toNat=p:=by omega
theorem qZH {p:Nat} (h:p < 1000000):vJJ .i64 ((p:Int) + 1)=((p + 1:Nat):Int):=by rw [zZ (by omega)]; omega
theorem kX {p n:Nat} (h:p < n):inB (p:Int) n=true:=by unfold inB; rw [vJQ (show (0:Int)≤p by omega),vJQ (show (p:Int).toNat < n by omega)]; rfl
def jZ {τ:Type} (nx:Nat→τ→τ):Nat→Nat→τ→τ
 | 0,_,s=>s
 | m + 1,p,s=>jZ nx m (p + 1) (nx p s)
theorem qYQ {τ β:Type} {nx:Nat→τ→τ} {KX:τ→β} {KR:Nat→τ→β}:∀ m p s,runS (fun _ _=>true) nx KX KR m p s=KX (jZ nx m p s)
 | 0,_,_=>rfl
 | m + 1,p,s=>by
  simp only [runS,vYV,jZ];exact qYQ m (p + 1) _
theorem qKJ {τ:Type} {nx:Nat→τ→τ} {Q:Nat→τ→Prop} {c:Nat} (h:∀ i s,i < c→Q i s→Q (i + 1) (nx i s)):∀ r p s,p + r=c→Q p s→Q c (jZ nx r p s)
 | 0,p,s,hp,hq=>by
  obtain rfl:p=c:=by omega
  exact hq
 | r + 1,p,s,hp,hq=>qKJ h r (p + 1) (nx p s) (by omega) (h p s (by omega) hq)
theorem zGH {P:Program} {f e sz n:Nat} {g:Nat→List PV} {ps:List PV} (h:yH P f ps (.ow e sz (.fo n g))):yH P f ps (.v (.lf n g)):=by
 refine ⟨h.1,fun w F vals hF hal=>(h.2 w F vals hF hal).mono ?_⟩
 rintro en w' ⟨v,F',he,hg,f1,f2,hr⟩
 obtain ⟨F2,f3,f4,hx⟩:=hr.pv (x:=.lf n g) rfl;refine ⟨v,F2,he,hg,fun k hk=>f3 k (f1 k hk),fun k hk => ?_,hx⟩;rcases f4 k hk with h | h
 ·exact f2 k h
 ·exact .inr h
theorem qYV {β:Type} (good:Nat→Bool) (KX:β) (KR:Nat→β):∀ k p,runS (fun (i:Nat) (_:Unit)=>good i) (fun _ _=>()) (fun _=>KX) (fun i _=>KR i) k p ()=zGY good KX KR k p
 | 0,_=>rfl
 | k + 1,p=>by simp only [runS,zGY,qYV good KX KR k (p + 1)]
def slI (σ:St) (k:Nat):Int:=match uG σ.S k with
 | some (.v (.n _ x))=>x
 | _=>0
def rgN (σ:St) (k:Nat):Nat:=match zH σ.M k with
 | some (.reg _ _ (.fo n _))=>n
 | _=>0
def rgF (σ:St) (k:Nat):Nat→List PV:=match zH σ.M k with
 | some (.reg _ _ (.fo _ f))=>f
 | _=>fun _=>[]
def bkC (σ:St) (k i:Nat):Int:=match zH σ.M k with
 | some (.blk cs)=>match cs[i]? with
  | some (.v (.n _ x))=>x
  | _=>0
 | _=>0
def mA (w m:Nat):Nat→Nat
 | 0=>m
 | i + 1=>min (mA w m i + 1) w
theorem kQ {w m:Nat} (h:m≤w):∀ i,mA w m i≤w
 | 0=>h
 | i + 1=>Nat.min_le_right _ _
def eW (e:Nat→Int) (w m:Nat):Int:=bif Nat.blt m w then e m else 0
def nxV (e:Nat→Int) (w m:Nat) (k:Int):Int:=eW e w m % k
theorem qWQ {e:Nat→Int} {w m:Nat} {k:Int} (h:0 < k):0≤nxV e w m k∧nxV e w m k < k:=⟨Int.emod_nonneg _ (by omega),Int.emod_lt_of_pos _ h⟩
end Go.Rx
namespace Go.Sx
def dn (x:Int):Nat→Int
 | 0=>1073741824
 | 1=>x * 6746518852 / 65536
 | k + 2=>dn x (k + 1) * (x * 6746518852 / 65536) / 1073741824
def up (x:Int):Nat→Int
 | 0=>1073741824
 | 1=>zU (x * 6746518853) 65536
 | k + 2=>zU (up x (k + 1) * zU (x * 6746518853) 65536) 1073741824
theorem step_dn {m t r:Int} (h:r=m * t / 1073741824) (hm:0≤m∧m≤1073741824) (ht:0≤t∧t≤1073741824):0≤r∧r≤1073741824:=by
 subst h;have h1:0≤m * t:=Int.mul_nonneg hm.1 ht.1;have h2:m * t≤1073741824 * 1073741824:=Int.mul_le_mul hm.2 ht.2 ht.1 (by decide);omega
theorem zXJ {a b:Int} (hb:0 < b):a≤zU a b * b∧zU a b * b < a + b:=by
 unfold zU;have h1:=Int.ediv_mul_le (-a) (Int.ne_of_gt hb);have h2:=Int.lt_ediv_add_one_mul_self (-a) hb;rw [Int.add_mul] at h2;rw [Int.neg_mul];omega
theorem step_up {m t r:Int} (h:r=zU (m * t) 1073741824) (hm:0≤m∧m≤1073741824) (ht:0≤t∧t≤1073741824):0≤r∧r≤1073741824:=by
 subst h;have h1:0≤m * t:=Int.mul_nonneg hm.1 ht.1;have h2:m * t≤1073741824 * 1073741824:=Int.mul_le_mul hm.2 ht.2 ht.1 (by decide);have h3:=zXJ (a:=m * t) (b:=1073741824) (by decide);omega
theorem jQX {x r:Int} (h:r=zU (x * 6746518853) 65536) (hx:0≤x∧x≤8192):0≤r∧r≤1073741824:=by
 have h3:=zXJ (a:=x * 6746518853) (b:=65536) (by decide);omega
theorem qUH {x:Int} (hx:0≤x∧x≤8192):∀ k,0≤dn x k∧dn x k≤1073741824
 | 0=>by simp [dn]
 | 1=>by simp only [dn]; omega
 | k + 2=>step_dn rfl (qUH hx (k + 1)) (by omega)
theorem qYW {x:Int} (hx:0≤x∧x≤8192):∀ k,0≤up x k∧up x k≤1073741824
 | 0=>by simp [up]
 | 1=>jQX rfl hx
 | k + 2=>step_up rfl (qYW hx (k + 1)) (jQX rfl hx)
def encI (low high:Int):Iv:=⟨max 0 (low / 16384),min 65536 (zU high 16384)⟩
def sinL (x:Int):Int:=dn x 1 - zU (up x 3) 6 + dn x 5 / 120 - zU (up x 7) 5040
def sinU (x:Int):Int:=up x 1 - dn x 3 / 6 + zU (up x 5) 120 - dn x 7 / 5040 + zU (up x 9) 362880
def cosL (x:Int):Int:=1073741824 - zU (up x 2) 2 + dn x 4 / 24 - zU (up x 6) 720 + dn x 8 / 40320 - zU (up x 10) 3628800
def cosU (x:Int):Int:=1073741824 - dn x 2 / 2 + zU (up x 4) 24 - dn x 6 / 720 + zU (up x 8) 40320
def yUZ (x:Int):Iv:=encI (sinL x) (sinU x)
def zQX (x:Int):Iv:=encI (cosL x) (cosU x)
def qJX (r:Int):Iv:=bif decide (r≤8192) then yUZ r else zQX (16384 - r)
def sinM (m:Int):Iv:=bif decide (m / 16384=0) then qJX (m % 16384) else bif decide (m / 16384=1) then qJX (16384 - m % 16384)
 else bif decide (m / 16384=2) then Iv.neg (qJX (m % 16384)) else Iv.neg (qJX (16384 - m % 16384))
def sinI (a:Int):Iv:=sinM (a % 65536)
def cosI (a:Int):Iv:=sinI (a % 65536 + 16384)
def kY (a:Iv) (c:Int):Bool:=decide (a.lo + (c - a.lo) % 65536≤a.hi)
def overI (a:Iv) (low high:Iv) (top bottom:Int):Iv :=
 bif !a.valid then ⟨0,0⟩ else bif decide (65536≤a.hi - a.lo) then ⟨-65536,65536⟩ else
  let x:=Iv.hull low high
  let y:=bif kY a top then Iv.hull x (Iv.of 65536) else x
  bif kY a bottom then Iv.hull y (Iv.of (-65536)) else y
def jG (a:Iv):Iv:=overI a (sinI a.lo) (sinI a.hi) 16384 49152
def jH (a:Iv):Iv:=overI a (cosI a.lo) (cosI a.hi) 0 32768
theorem ceiling_eq {a b:Int} (ha:0≤a) (hb:0 < b):(a + b - 1) / b=zU a b:=by
 refine (zXK hb ?_ ?_).symm
 ·have:=Int.lt_ediv_add_one_mul_self (a + b - 1) hb
  rw [Int.add_mul] at this;omega
 ·have:=Int.ediv_mul_le (a + b - 1) (Int.ne_of_gt hb)
  omega
theorem ceil_nonneg {a b:Int} (ha:0≤a) (hb:0 < b):0≤zU a b∧zU a b≤a:=by
 have h:=zXJ (a:=a) hb;constructor
 ·rcases Int.lt_or_le (zU a b) 0 with h1 | h1
  ·have:zU a b * b ≤ -1 * b:=Int.mul_le_mul_of_nonneg_right (by omega) (Int.le_of_lt hb)
   omega
  ·exact h1
 ·rcases Int.lt_or_le a (zU a b) with h1 | h1
  ·have:(a + 1) * b≤zU a b * b:=Int.mul_le_mul_of_nonneg_right (by omega) (Int.le_of_lt hb)
   rw [Int.add_mul] at this;have h3:a * 1≤a * b:=Int.mul_le_mul_of_nonneg_left (by omega) ha;omega
  ·exact h1
theorem yQ {r a b:Int} (h:r=zU a b) (ha:0≤a∧a≤1073741824) (hb:0 < b):0≤r∧r≤1073741824:=by
 have:=ceil_nonneg ha.1 hb
 omega
theorem ceil_quo {a b:Int} (ha:0≤a∧a≤1073741824) (hb:0 < b∧b≤1073741824):vJJ .i64 ((a + b - 1).tdiv b)=zU a b:=by
 rw [tdiv_nonneg (by omega) (by omega),ceiling_eq ha.1 hb.1];exact zZ (by have:=ceil_nonneg ha.1 hb.1; omega)
theorem round_neg {n k:Int} (hk:0 < k) (h:n.tmod k < 0):n.tmod k + k=n % k:=by
 have e:=Int.tdiv_mul_add_tmod n k;have f:=yYW hk h;have g:=Int.mul_ediv_add_emod n k;rw [← f,Int.mul_comm,Int.sub_mul] at g;omega
theorem round_pos {n k:Int} (hk:0 < k) (h:¬ n.tmod k < 0):n.tmod k=n % k:=by
 have e:=Int.tdiv_mul_add_tmod n k;have f:=floor_pos hk h;have g:=Int.mul_ediv_add_emod n k;rw [← f,Int.mul_comm] at g;omega
end Go.Sx
namespace Go.Sx
def cN (a b:Nat):Nat:=(a + (b - 1)) / b
def d1N (x:Nat):Nat:=x * 6746518852 / 65536
def u1N (x:Nat):Nat:=(x * 6746518853 + 65535) / 65536
def dN (x:Nat):Nat→Nat
 | 0=>1073741824
 | 1=>d1N x
 | k + 2=>dN x (k + 1) * d1N x / 1073741824
def uN (x:Nat):Nat→Nat
 | 0=>1073741824
 | 1=>u1N x
 | k + 2=>(uN x (k + 1) * u1N x + 1073741823) / 1073741824
def sLo (x:Nat):Nat:=((dN x 1 + dN x 5 / 120) - (cN (uN x 3) 6 + cN (uN x 7) 5040)) / 16384
def sHi (x:Nat):Nat:=min 65536 ((((uN x 1 + cN (uN x 5) 120 + cN (uN x 9) 362880) - (dN x 3 / 6 + dN x 7 / 5040)) + 16383) / 16384)
def cLo (x:Nat):Nat:=((1073741824 + dN x 4 / 24 + dN x 8 / 40320) - (cN (uN x 2) 2 + cN (uN x 6) 720 + cN (uN x 10) 3628800)) / 16384
def cHi (x:Nat):Nat:=min 65536 ((((1073741824 + cN (uN x 4) 24 + cN (uN x 8) 40320) - (dN x 2 / 2 + dN x 6 / 720)) + 16383) / 16384)
def fLo (r:Nat):Nat:=if r≤8192 then sLo r else cLo (16384 - r)
def fHi (r:Nat):Nat:=if r≤8192 then sHi r else cHi (16384 - r)
theorem yKU {r:Nat} (h:r≤8192):fLo r=sLo r∧fHi r=sHi r:=⟨if_pos h,if_pos h⟩
theorem jUK {r:Nat} (h:8192 < r):fLo r=cLo (16384 - r)∧fHi r=cHi (16384 - r):=⟨if_neg (by omega),if_neg (by omega)⟩
def frc (n:Nat) (k:Nat→Bool):Bool:=Nat.rec (motive:=fun _=>Bool) (k 0) (fun m _=>k (Nat.succ m)) n
theorem jGH (n:Nat) (k:Nat→Bool):frc n k=k n:=by cases n <;> rfl
def jWJ (x:Nat) (K:Nat→Nat→Nat→Nat→Bool):Bool :=
 frc x fun x=>frc (x * 6746518852 / 65536) fun d1=>frc ((x * 6746518853 + 65535) / 65536) fun u1 =>
 frc (d1 * d1 / 1073741824) fun d2=>frc ((u1 * u1 + 1073741823) / 1073741824) fun u2 =>
 frc (d2 * d1 / 1073741824) fun d3=>frc ((u2 * u1 + 1073741823) / 1073741824) fun u3 =>
 frc (d3 * d1 / 1073741824) fun d4=>frc ((u3 * u1 + 1073741823) / 1073741824) fun u4 =>
 frc (d4 * d1 / 1073741824) fun d5=>frc ((u4 * u1 + 1073741823) / 1073741824) fun u5 =>
 frc (d5 * d1 / 1073741824) fun d6=>frc ((u5 * u1 + 1073741823) / 1073741824) fun u6 =>
 frc (d6 * d1 / 1073741824) fun d7=>frc ((u6 * u1 + 1073741823) / 1073741824) fun u7 =>
 frc (d7 * d1 / 1073741824) fun d8=>frc ((u7 * u1 + 1073741823) / 1073741824) fun u8 =>
 frc ((u8 * u1 + 1073741823) / 1073741824) fun u9=>frc ((u9 * u1 + 1073741823) / 1073741824) fun u10 =>
 frc (((d1 + d5 / 120) - ((u3 + 5) / 6 + (u7 + 5039) / 5040)) / 16384) fun slo =>
 frc (min 65536 ((((u1 + (u5 + 119) / 120 + (u9 + 362879) / 362880) - (d3 / 6 + d7 / 5040)) + 16383) / 16384)) fun shi =>
 frc (((1073741824 + d4 / 24 + d8 / 40320) - ((u2 + 1) / 2 + (u6 + 719) / 720 + (u10 + 3628799) / 3628800)) / 16384) fun clo =>
 frc (min 65536 ((((1073741824 + (u4 + 23) / 24 + (u8 + 40319) / 40320) - (d2 / 2 + d6 / 720)) + 16383) / 16384)) fun chi=>K slo shi clo chi
theorem yKV (x:Nat) (K:Nat→Nat→Nat→Nat→Bool):jWJ x K=K (sLo x) (sHi x) (cLo x) (cHi x):=by
 unfold jWJ;simp only [jGH];rfl
def one (x a b c d:Nat):Bool :=
 Nat.ble a b && (Nat.ble b 65536 && (Nat.ble b (a + 2) && (Nat.ble c d && (Nat.ble d 65536 && (Nat.ble d (c + 2) &&
 (Nat.ble (4 * x) b && (Nat.ble (4 * x) (a + 2) && (Nat.ble a (x * 411775 / 65536 + 1) &&
 (Nat.ble (4 * (16384 - x)) d && (Nat.ble (4 * (16384 - x)) (c + 2) && (Nat.ble c ((16384 - x) * 411775 / 65536 + 1) &&
 (Nat.ble (a * a / 65536 + c * c / 65536) 65536 && Nat.ble 65536 ((b * b + 65535) / 65536 + (d * d + 65535) / 65536)))))))))))))
structure Fst (r:Nat):Prop where
 ord:fLo r≤fHi r
 top:fHi r≤65536
 wid:fHi r≤fLo r + 2
 ch1:4 * r≤fHi r
 ch2:4 * r≤fLo r + 2
 ch3:fLo r≤r * 411775 / 65536 + 1
end Go.Sx
namespace Go.Sx
theorem neg_mk {x y:Int} (h : -2147483648≤x∧x≤y∧y≤2147483648):Iv.neg ⟨x,y⟩=⟨-y,-x⟩:=by
 have:Iv.valid ⟨x,y⟩=true:=by simp [Iv.valid]; omega
 simp [Iv.neg,this]
theorem neg_of {a:Iv} (h : -2147483648≤a.lo∧a.lo≤a.hi∧a.hi≤2147483648):Iv.neg a=⟨-a.hi,-a.lo⟩:=neg_mk (x:=a.lo) (y:=a.hi) h
theorem valid_of {a:Iv} (h : -2147483648≤a.lo∧a.lo≤a.hi∧a.hi≤2147483648):a.valid=true:=by simp [Iv.valid]; omega
theorem neg_neg {a:Iv} (h : -2147483648≤a.lo∧a.lo≤a.hi∧a.hi≤2147483648):Iv.neg (Iv.neg a)=a:=by
 rw [neg_of h,neg_mk (by omega),Int.neg_neg,Int.neg_neg]
end Go.Sx

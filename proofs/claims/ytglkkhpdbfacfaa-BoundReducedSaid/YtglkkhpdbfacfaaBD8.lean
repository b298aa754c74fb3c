/- Part 8 of the texts behind the last one: rules and contracts. No condition. -/
import Derived.Test.YtglkkhpdbfacfaaBD7
open Option renaming bind_eq_some_iff → vQQ, bind_some → vZX
open Option.some renaming injEq → vQZ
open Prod.mk renaming injEq → vQY
open Bool renaming and_eq_true → vQJ, and_self → vZQ
open List renaming length_cons → vQX, mem_cons → vZW
open Nat renaming le_of_ble_eq_true → vZJ
open Classical renaming propDecidable → vZV
open Go.IntKind renaming wrap → vYK
namespace Go.Rx
open Go.RowKit Go.Sx
abbrev Ev:=Nat→Op→List RV→(Eff→Option (Ret × Mem))→Option (Ret × Mem)
def EvOk (C:Cx) (ev:Ev):Prop:=∀ dst op vs K r,ev dst op vs K=some r→∃ e,qZ C.T C.cA C.cB C.me dst op vs=some e∧K e=some r
def goE (C:Cx) (ev:Ev) (o:Oper) (σ:St) (K:Eff × List RV→Option (Ret × Mem)):Option (Ret × Mem) :=
 bif dstB C.n o.dst then
  (mapO (opv (mode o.op) σ) o.op.operands.toList).bind fun vs=>ev (o.dst.getD 0) o.op vs fun e =>
   bif e.nw.all (fun id=>(qY σ.M id).isNone && Nat.blt id 2000000) then K (e,vs) else none
 else none
def zGH (C:Cx) (ev:Ev) (ops:Array Oper) (o:Oper) (σ:St) (K:Eff × List RV→Option (Ret × Mem)):Option (Ret × Mem) :=
 match o.guard with
 | none=>goE C ev o σ K
 | some (j,b)=>match (ops[j]?).bind (·.dst) with
  | some d=>match zW σ.S d with
   | some (.v (.b c))=>(match b with
    | true=>bif c then goE C ev o σ K else zXQ C o K
    | false=>bif c then zXQ C o K else goE C ev o σ K)
   | some (.v (.t []))=>zXQ C o K
   | _=>none
  | none=>none
def qWG (C:Cx) (ev:Ev) (ops:Array Oper):List Oper→(St→Option (Ret × Mem))→St→Option (Ret × Mem)
 | [],K,σ=>K σ
 | o :: l,K,σ=>zGH C ev ops o σ fun r=>qWG C ev ops l K (σ.apply r.1 o.dst)
def qYQ (C:Cx) (ev:Ev) (ops:Array Oper):Nat→List Oper→List Done→(St→Option (Ret × Mem))→St→Option (Ret × Mem)
 | _,[],acc,K,σ=>bif qUV ops acc.reverse && Sx.backB ops then K σ else none
 | i,o :: l,acc,K,σ=>zGH C ev ops o σ fun r=>qYQ C ev ops (i + 1) l ((i,r) :: acc) K (σ.apply r.1 o.dst)
def qJK (N:Nat) (C:Cx) (ev:Ev) (LO:List Nat→Option uY):Code→List Nat→Cont→St→Option (Ret × Mem)
 | .skip,_,K,σ=>K .normal σ
 | .label _,_,K,σ=>K .normal σ
 | .scope x,p,K,σ=>qJK N C ev LO x (0 :: p) K σ
 | .ret,_,K,σ=>K .ret σ
 | .exit id,_,K,σ=>K (.exit id) σ
 | .region id ops d,_,K,σ=>preK C id (fun σ=>bif d then qYQ C ev ops 0 ops.toList [] (K .normal) σ else qWG C ev ops ops.toList (K .normal) σ) σ
 | .seq x y,p,K,σ=>qJK N C ev LO x (0 :: p) (fun e σ=>match e with
   | .normal=>qJK N C ev LO y (1 :: p) K σ
   | e=>K e σ) σ
 | .cond c x y,p,K,σ=>(opv 1 σ c).bind fun v=>match v with
   | .v (.b t)=>bif t then qJK N C ev LO x (0 :: p) K σ else qJK N C ev LO y (1 :: p) K σ
   | _=>none
 | .block id x,p,K,σ=>qJK N C ev LO x (0 :: p) (fun e σ=>match e with
   | .exit id'=>bif Nat.beq id' id then K .normal σ else K (.exit id') σ
   | e=>K e σ) σ
 | .loop x,p,K,σ=>match LO p with
   | some S=>S (qYK (C.T.hint C.me (zU x)) σ) K
   | none=>qVZ (fun again σ=>qJK N C ev LO x (0 :: p) (fun e σ=>match e with
     | .normal=>again σ
     | e=>K e (qJF (C.T.hint C.me (zU x)) σ)) (qYK (C.T.hint C.me (zU x)) σ)) N σ
 | _,_,_,_=>none
section
variable {C:Cx} {ev:Ev} {ops:Array Oper} {r:Ret × Mem} {K0:Ret × Mem→Option (Ret × Mem)}
theorem qVU {o:Oper} {σ:St} {K:Eff × List RV→Option (Ret × Mem)} (hc:EvOk C ev) (hg:yH ops σ o=some true) (h:goE C ev o σ K=some r):∃ x,kK C ops o σ=some x∧K x=some r:=by
 unfold goE at h;obtain ⟨hd,h⟩:=qQ h;rw [vQQ] at h;obtain ⟨vs,hvs,h⟩:=h;obtain ⟨e,he,h⟩:=hc _ _ _ _ _ h;obtain ⟨hn,h⟩:=qQ h;exact ⟨(e,vs),qKL hd (.inr ⟨hg,hvs,he,fun i hi=>qVV (List.all_eq_true.1 hn i hi)⟩),h⟩
theorem qXU {o:Oper} {σ:St} {K:Eff × List RV→Option (Ret × Mem)} (hc:EvOk C ev) (h:zGH C ev ops o σ K=some r):∃ x,kK C ops o σ=some x∧K x=some r:=by
 unfold zGH at h;cases hg:o.guard with
 | none=>rw [hg] at h; exact qVU hc (by unfold yH; rw [hg]) h
 | some gb =>
  obtain ⟨j,b⟩:=gb;rw [hg] at h;simp only at h;split at h
  ·rename_i d hd;split at h
   ·rename_i c hlc;have gd:yH ops σ o=some (c == b):=by
     unfold yH;rw [hg];simp only [hd,hlc]
    cases b <;> cases c <;> simp only [vZG,vZH] at h
    ·exact qVU hc gd h
    ·exact qJY gd h
    ·exact qJY gd h
    ·exact qVU hc gd h
   ·rename_i hlc;exact qJY (by unfold yH; rw [hg]; simp only [hd,hlc]) h
   ·cases h
  ·cases h
theorem qJD (hc:EvOk C ev) {K K':St→Option (Ret × Mem)} (hK:∀ σ,K σ=some r→Gets K0 r (K' σ)):∀ (l:List Oper) (σ:St),qWG C ev ops l K σ=some r→Gets K0 r (qUJ C ops l K' σ)
 | [],σ,h=>hK σ h
 | o :: l,σ,h=>by
  simp only [qWG] at h;obtain ⟨x,hx,h⟩:=qXU hc h;simp only [qUJ,hx,vZX];exact qJD hc hK l _ h
theorem qZL (hc:EvOk C ev) {K K':St→Option (Ret × Mem)} (hK:∀ σ,K σ=some r→Gets K0 r (K' σ)):∀ (l:List Oper) (i:Nat) (acc:List Done) (σ:St),qYQ C ev ops i l acc K σ=some r→Gets K0 r (uU C ops i l acc K' σ)
 | [],i,acc,σ,h=>by
  simp only [qYQ] at h;obtain ⟨hp,h⟩:=qQ h;simp only [uU,hp,vZG];exact hK σ h
 | o :: l,i,acc,σ,h=>by
  simp only [qYQ] at h;obtain ⟨x,hx,h⟩:=qXU hc h;simp only [uU,hx,vZX];exact qZL hc hK l _ _ _ h
theorem yU {N:Nat} {LO:List Nat→Option uY} {B:Code} (hc:EvOk C ev) (hL:∀ p S,LO p=some S→uZ N C (qQH 0 (uQ B p)) S):∀ (c:Code) (p:List Nat) {K K':Cont} (hp:uQ B p=c) (hK:∀ e σ,K e σ=some r→Gets K0 r (K' e σ)) (σ:St),qJK N C ev LO c p K σ=some r→Gets K0 r (runC N C c K' σ)
 | .skip,p,K,K',hp,hK,σ,h=>hK _ _ h
 | .label _,p,K,K',hp,hK,σ,h=>hK _ _ h
 | .scope x,p,K,K',hp,hK,σ,h=>yU hc hL x (0 :: p) (by simp only [uQ,hp,qQH]) hK σ h
 | .ret,p,K,K',hp,hK,σ,h=>hK _ _ h
 | .exit id,p,K,K',hp,hK,σ,h=>hK _ _ h
 | .region id ops d,p,K,K',hp,hK,σ,h=>by
  have h:=preK_eq.symm.trans h;refine Eq.mpr (congrArg (Gets K0 r) (preK_eq (F:=fun σ=>bif d then uU C ops 0 ops.toList [] (K' .normal) σ else qUJ C ops ops.toList (K' .normal) σ))) ?_;cases d with
  | true=>exact qZL hc (hK .normal) _ _ _ _ h
  | false=>exact qJD hc (hK .normal) _ _ h
 | .seq x y,p,K,K',hp,hK,σ,h=>by
  refine yU hc hL x (0 :: p) (by simp only [uQ,hp,qQH]) (fun e τ hk => ?_) σ h;cases e with
  | normal=>exact yU hc hL y (1 :: p) (by simp only [uQ,hp,qQH]) hK τ hk
  | _=>exact hK _ _ hk
 | .cond c x y,p,K,K',hp,hK,σ,h=>by
  simp only [qJK,vQQ] at h;obtain ⟨v,hv,h⟩:=h;simp only [runC,hv,vZX];split at h
  ·rename_i t;cases t with
   | true=>exact yU hc hL x (0 :: p) (by simp only [uQ,hp,qQH]) hK σ h
   | false=>exact yU hc hL y (1 :: p) (by simp only [uQ,hp,qQH]) hK σ h
  ·cases h
 | .block id x,p,K,K',hp,hK,σ,h=>by
  refine yU hc hL x (0 :: p) (by simp only [uQ,hp,qQH]) (fun e τ hk => ?_) σ h;cases e with
  | exit id' =>
   simp only at hk ⊢;cases hb:Nat.beq id' id with
   | true=>rw [hb] at hk; exact hK _ _ hk
   | false=>rw [hb] at hk; exact hK _ _ hk
  | _=>exact hK _ _ hk
 | .loop x,p,K,K',hp,hK,σ,h=>by
  simp only [qJK] at h;simp only [runC];cases hS:LO p with
  | none =>
   rw [hS] at h;refine qXC (fun a a' ha τ hs => ?_) N σ h;refine yU hc hL x (0 :: p) (by simp only [uQ,hp,qQH]) (fun e υ hk => ?_) _ hs;cases e with
   | normal=>exact ha _ hk
   | _=>exact hK _ _ hk
  | some S =>
   rw [hS] at h
   have:=hL p S hS
   rw [hp] at this;exact this K K' K0 σ r hK h
 | .rangeFunc ..,p,K,K',hp,hK,σ,h=>by cases h
 | .goto _,p,K,K',hp,hK,σ,h=>by cases h
 | .refuse _,p,K,K',hp,hK,σ,h=>by cases h
end
def zKZ (N:Nat) (C:Cx) (ev:Ev) (LO:List Nat→Option uY) (x:Code) (p:List Nat) (h:Hint) (K:Cont) (G:St→Option (Ret × Mem)) (σ:St):Option (Ret × Mem):=qJK N C ev LO x (0 :: p) (fun e τ=>match e with
 | .normal=>G (qYK h τ)
 | e=>K e (qJF h τ)) σ
def LFX (N:Nat) (C:Cx) (ev:Ev) (LO:List Nat→Option uY) (x:Code) (p:List Nat) (h:Hint) (K:Cont):Nat→St→Option (Ret × Mem)
 | 0,_=>none
 | n + 1,σ=>zKZ N C ev LO x p h K (LFX N C ev LO x p h K n) σ
theorem zGJ {N:Nat} {C:Cx} {ev:Ev} {LO:List Nat→Option uY} {B x:Code} {p:List Nat} {K K':Cont} {K0:Ret × Mem→Option (Ret × Mem)} {r:Ret × Mem} (hc:EvOk C ev) (hL:∀ p S,LO p=some S→uZ N C (qQH 0 (uQ B p)) S) (hx:uQ B (0 :: p)=x)
  (hK:∀ e τ,K e τ=some r→Gets K0 r (K' e τ)):∀ (n:Nat) (σ:St),LFX N C ev LO x p (C.T.hint C.me (zU x)) K n (qYK (C.T.hint C.me (zU x)) σ)=some r→Gets K0 r (qVZ (fun again σ=>runC N C x (fun e σ=>match e with
   | .normal=>again σ
   | e=>K' e (qJF (C.T.hint C.me (zU x)) σ)) (qYK (C.T.hint C.me (zU x)) σ)) n σ)
 | 0,σ,h=>by cases h
 | n + 1,σ,h=>by
  simp only [LFX,zKZ] at h;simp only [qVZ];refine yU hc hL x (0 :: p) hx (fun e τ hk => ?_) _ h;cases e with
  | normal=>exact zGJ hc hL hx hK n τ hk
  | _=>exact hK _ _ hk
theorem yQY {N:Nat} {C:Cx} {ev:Ev} {LO:List Nat→Option uY} {B x:Code} {p:List Nat} {S:uY} (hc:EvOk C ev) (hL:∀ p S,LO p=some S→uZ N C (qQH 0 (uQ B p)) S) (hx:uQ B (0 :: p)=x)
  (hS:∀ K σ r,S σ K=some r→LFX N C ev LO x p (C.T.hint C.me (zU x)) K N σ=some r):uZ N C x S:=fun K _ _ σ r hK h =>
 zGJ hc hL hx hK N σ (hS K _ r h)
abbrev qWJ:=Nat→List HV→List PV→(PV × List PV→Option (Ret × Mem))→Option (Ret × Mem)
def zYG (r:PV × List PV) (K:PV × List PV→Option (Ret × Mem)):Option (Ret × Mem):=match r with
 | (.b c,ps)=>bif c then K (.b true,ps) else K (.b false,ps)
 | r=>K r
theorem qGZ (r:PV × List PV) (K:PV × List PV→Option (Ret × Mem)):zYG r K=K r:=by
 unfold zYG;split
 ·rename_i c ps; cases c <;> rfl
 ·rfl
def zQG (cBK:qWJ) (f:Nat) (args:List RV) (K:Eff→Option (Ret × Mem)):Option (Ret × Mem) :=
 (zZI args).bind fun p=>(mapO CV.pv p.2).bind fun ps=>(mapO (RV.toB p.1) args).bind fun hs=>cBK f hs ps fun r=>zYG r fun r =>
  K (Eff.and (.set p.1 (.blk (r.2.map PV.toH)) (.v r.1)) (catR RV.regs args))
def zQV (cBK:qWJ) (dst f:Nat) (args:List RV) (K:Eff→Option (Ret × Mem)):Option (Ret × Mem) :=
 (zZI args).bind fun p=>(mapO CV.pvq p.2).bind fun ps=>(mapO (RV.toB p.1) args).bind fun hs=>cBK f hs ps fun r=>zYG r fun r =>
  (gEnt (qQC r.2)).bind fun ent=>bif oneG ps && oneG r.2 && (catR RV.regs args).isEmpty && !(Nat.beq p.1 ((qQA p.2).getD (100000 + dst))) && r.1.flat then
   K ⟨[(p.1,some (.blk (r.2.map (PV.toQ ((qQA p.2).getD (100000 + dst)))))),((qQA p.2).getD (100000 + dst),ent)],[((qQA p.2).getD (100000 + dst),none)],.v r.1,match qQA p.2 with | some _=>[] | none=>[100000 + dst]⟩ else none
def yXL (C:Cx) (cBK:qWJ):Prop:=∀ f hs ps K r,cBK f hs ps K=some r→∃ x,C.cB f hs ps=some x∧K x=some r
def selC:List PV→Int→PV
 | [],_=>.ni
 | [x],_=>x
 | x :: y :: l,i=>qJL (decide (i=0)) x (selC (y :: l) (i - 1))
theorem zXU:∀ (l:List PV) (i:Int),0≤i→i.toNat < l.length→l[i.toNat]? = some (selC l i)
 | [],i,_,h=>by simp at h
 | [x],i,h0,h=>by
  have:i.toNat=0:=by simp at h; omega
  rw [this]; rfl
 | x :: y :: l,i,h0,h=>by
  rw [selC];by_cases e:i=0
  ·subst e; rw [vYZ rfl,qKB]; rfl
  ·rw [vYQ e,qKC,show i.toNat=(i - 1).toNat + 1 by omega,List.getElem?_cons_succ];exact zXU (y :: l) (i - 1) (by omega) (by simp only [vQX] at h ⊢; omega)
def evS (C:Cx) (cK:qKK) (cBK:qWJ):Ev:=fun dst op vs K=>match op,vs with
 | .call ⟨.value fx,axs,ats⟩,.v (.f f first cap) :: vs=>bif C.T.rw f then (bif C.T.gq f then zQV cBK dst f (first.map .v ++ vs ++ cap.map .v) K else zQG cBK f (first.map .v ++ vs ++ cap.map .v) K) else zVV C cK dst (.call ⟨.value fx,axs,ats⟩) (.v (.f f first cap) :: vs) K
 | .index t a b,[.v (.a cs),.v (.n k i)]=>(C.T.ar t).bind fun q=>bif q.2.2 then zVV C cK dst (.index t a b) [.v (.a cs),.v (.n k i)] K else bif inB i q.1 && Nat.ble q.1 cs.length then K (.val (selC cs i).toH) else none
 | .slice t a lo hi none,.v (.s s) :: vs=>(qWY lo hi vs).bind fun b=>bif C.T.str t then (bif inS b.1 b.2 s.size then K (.val (.v (.s (s.extract (loOf b.1) (hiOf b.2 s.size))))) else none) else none
 | op,vs=>zVV C cK dst op vs K
theorem yXW {C:Cx} {cK:qKK} {cBK:qWJ} (hc:SndK C cK) (hb:yXL C cBK):EvOk C (evS C cK cBK):=fun dst op vs K r h=>by
 unfold evS at h;split at h
 ·rename_i fx axs ats f first cap vs
  cases hrw:C.T.rw f with
  | false =>
   rw [hrw,vZH] at h;exact qJV hc h
  | true =>
   rw [hrw,vZG] at h;cases hgq:C.T.gq f with
   | false =>
    rw [hgq,vZH] at h;simp only [zQG,vQQ] at h;obtain ⟨p,hp,ps,hps,hs,hhs,h⟩:=h;obtain ⟨x,hx,h⟩:=hb _ _ _ _ _ h;rw [qGZ] at h;exact ⟨_,by simp only [qZ,hrw,hgq,vZG,vZH,qKF,hp,hps,hhs,hx,vZX],h⟩
   | true =>
    rw [hgq,vZG] at h;simp only [zQV,vQQ] at h;obtain ⟨p,hp,ps,hps,hs,hhs,h⟩:=h;obtain ⟨x,hx,h⟩:=hb _ _ _ _ _ h;rw [qGZ] at h;simp only [vQQ] at h;obtain ⟨ent,hent,h⟩:=h;obtain ⟨h1,h⟩:=qQ h;refine ⟨_,?_,h⟩;simp only [qZ,hrw,hgq,vZG];unfold qKE;simp only [hp,hps,hhs,hx,hent,vZX];rw [h1];rfl
 ·rename_i t a b cs k i;simp only [vQQ] at h;obtain ⟨q,hq,h⟩:=h;cases h2:q.2.2 with
  | true=>rw [h2,vZG] at h; exact qJV hc h
  | false =>
   rw [h2,vZH] at h;obtain ⟨hi,h⟩:=qQ h;rw [vQJ] at hi;obtain ⟨i0,i1⟩:=qQG hi.1;have hl:=vZJ hi.2;exact ⟨_,by simp only [qZ,hq,vZX,hi.1,h2,vZG,vZH,zXU cs i i0 (by omega)],h⟩
 ·rename_i t a lo hi s vs;simp only [vQQ] at h;obtain ⟨b,hbd,h⟩:=h;obtain ⟨h1,h⟩:=qQ h;obtain ⟨h2,h⟩:=qQ h;exact ⟨_,by simp only [qZ,hbd,vZX,h1,h2,vZQ,vZG],h⟩
 ·exact qJV hc h
abbrev OrB:=Nat→Option (List HV→List PV→Option (Bool × (PV × List PV)))
structure OrS where
 a:OrK
 b:OrB
def OrS.orc (o:OrS):Orc:=⟨o.a.orc.a,fun g=>(o.b g).bind fun f=>some fun hs ps=>(f hs ps).bind fun x=>bif x.1 then some x.2 else none⟩
structure OrS.Ok (P:Program) (T:Tab) (o:OrS):Prop where
 a:o.a.Ok P
 b:∀ g f,o.b g=some f→∀ hs ps x ps',f hs ps=some (true,(x,ps'))→zGY P g hs ps x ps' (T.gq g)
theorem OrS.Ok.orc {P:Program} {T:Tab} {o:OrS} (h:o.Ok P T):OrcOk P T o.orc:=by
 refine ⟨(h.a.orc (T:=T)).a,fun g f ho hs ps x ps' hr => ?_⟩;simp only [OrS.orc,vQQ,vQZ] at ho;obtain ⟨q,hq,rfl⟩:=ho;simp only [vQQ] at hr;obtain ⟨y,hy,hr⟩:=hr;obtain ⟨h1,hr⟩:=qQ hr;obtain ⟨y1,y2⟩:=y;cases hr;exact h.b g q hq hs ps x ps' (by rw [hy,← h1])
def cxS (T:Tab) (o:OrS) (N f n:Nat):Cx:=⟨T,qQD o.orc (runF T o.orc N),qQZ T o.orc (runF T o.orc N),f,n⟩
def zKU (T:Tab) (o:OrS):Nat→Nat→List HV→Mem→(Ret × Mem→Option (Ret × Mem))→Option (Ret × Mem)
 | 0,_,_,_,_=>none
 | N + 1,f,hs,M,K=>match T.fn f with
  | none=>none
  | some fi=>bif Nat.ble hs.length fi.ntmps then qJK N (cxS T o N f fi.ntmps) (evS (cxS T o N f fi.ntmps)
    (zVE o.a fun g ps K=>zKU T o N g (ps.map .v) [] fun r=>K r.1)
    (fun g hs ps K=>match o.b g with
     | some q=>(q hs ps).bind fun x=>bif x.1 then K x.2 else none
     | none=>zKU T o N g hs (memB (T.gq g) ps) fun r=>(uV (T.gq g) r.2).bind fun ps'=>(zXA r.1).bind fun x=>(zUV (T.gq g) x).bind fun x=>K (x,ps')))
    (fun _=>none) fi.body [] (fun e σ=>(endK T M fi.results e σ).bind K) ⟨initS 0 hs,M⟩ else none
def ckS (T:Tab) (o:OrS) (N:Nat):qKK:=zVE o.a fun g ps K=>zKU T o N g (ps.map .v) [] fun r=>K r.1
def cbS (T:Tab) (o:OrS) (N:Nat):qWJ:=fun g hs ps K=>match o.b g with
 | some q=>(q hs ps).bind fun x=>bif x.1 then K x.2 else none
 | none=>zKU T o N g hs (memB (T.gq g) ps) fun r=>(uV (T.gq g) r.2).bind fun ps'=>(zXA r.1).bind fun x=>(zUV (T.gq g) x).bind fun x=>K (x,ps')
def evX (T:Tab) (o:OrS) (N f n:Nat):Ev:=evS (cxS T o N f n) (ckS T o N) (cbS T o N)
section
variable {T:Tab} {o:OrS}
def FSnd (T:Tab) (o:OrS) (N:Nat):Prop:=∀ (f:Nat) (hs:List HV) (M:Mem) (K:Ret × Mem→Option (Ret × Mem)) (r:Ret × Mem),zKU T o N f hs M K=some r→∃ x,runF T o.orc N f hs M=some x∧K x=some r
theorem yXB {N f n:Nat} (h:FSnd T o N):SndK (cxS T o N f n) (ckS T o N):=fun g qs K' r' hk=>by
 unfold ckS zVE at hk;show ∃ x,qQD o.orc (runF T o.orc N) g qs=some x∧K' x=some r';unfold qQD;cases ho:o.a g with
 | some q =>
  rw [ho] at hk;simp only [vQQ] at hk;obtain ⟨x,hx,hk⟩:=hk;obtain ⟨h1,hk⟩:=qQ hk;exact ⟨x.2,by simp only [OrS.orc,OrK.orc,ho,hx,vZX,h1,vZG],hk⟩
 | none =>
  rw [ho] at hk;obtain ⟨x,hx,hk⟩:=h g _ _ _ r' hk;have e:o.orc.a g=none:=by simp only [OrS.orc,OrK.orc,ho,Option.bind_none]
  exact ⟨x.1,by simp only [e,hx,vZX],hk⟩
theorem yXD {N f n:Nat} (h:FSnd T o N):yXL (cxS T o N f n) (cbS T o N):=fun g hs ps K' r' hk=>by
 unfold cbS at hk;show ∃ x,qQZ T o.orc (runF T o.orc N) g hs ps=some x∧K' x=some r';unfold qQZ;cases ho:o.b g with
 | some q =>
  rw [ho] at hk;simp only [vQQ] at hk;obtain ⟨x,hx,hk⟩:=hk;obtain ⟨h1,hk⟩:=qQ hk;exact ⟨x.2,by simp only [OrS.orc,ho,hx,vZX,h1,vZG],hk⟩
 | none =>
  rw [ho] at hk;obtain ⟨x,hx,hk⟩:=h g _ _ _ r' hk;simp only [vQQ] at hk;obtain ⟨ps',h1,y,h2,z,h3,hk⟩:=hk;have e:o.orc.b g=none:=by simp only [OrS.orc,ho,Option.bind_none]
  exact ⟨(z,ps'),by simp only [e,hx,vZX,h1,h2,h3],hk⟩
theorem zVG {N f n:Nat} (h:FSnd T o N):EvOk (cxS T o N f n) (evX T o N f n):=yXW (yXB h) (yXD h)
theorem qJJ:∀ N,FSnd T o N
 | 0,f,hs,M,K,r,h=>by cases h
 | N + 1,f,hs,M,K,r,h=>by
  simp only [zKU] at h;split at h
  ·cases h
  ·rename_i fi hfi;obtain ⟨hb,h⟩:=qQ h;have ih:FSnd T o N:=qJJ N;obtain ⟨q,h1,h2⟩:=yU (K0:=K) (K':=endK T M fi.results) (B:=fi.body) (LO:=fun _=>none) (zVG (f:=f) (n:=fi.ntmps) ih) (fun p S hp=>by cases hp) fi.body [] rfl (fun e σ hk=>by
    simp only [vQQ] at hk;exact hk) _ h
   refine ⟨q,?_,h2⟩;simp only [runF,hfi,hb,vZG];exact h1
def yZB (T:Tab) (o:OrS) (LO:List Nat→Option uY) (N f:Nat) (hs:List HV) (M:Mem) (K:Ret × Mem→Option (Ret × Mem)):Option (Ret × Mem):=match T.fn f with
 | none=>none
 | some fi=>bif Nat.ble hs.length fi.ntmps then qJK N (cxS T o N f (ntmF T f)) (evX T o N f (ntmF T f)) LO (zYJ T f) [] (fun e σ=>(endK T M fi.results e σ).bind K) ⟨initS 0 hs,M⟩ else none
theorem zKK {LO:List Nat→Option uY} {N f:Nat} {hs:List HV} {M:Mem} {K:Ret × Mem→Option (Ret × Mem)} {r:Ret × Mem} (hL:∀ p S,LO p=some S→uZ N (cxS T o N f (ntmF T f)) (zK T f p) S) (h:yZB T o LO N f hs M K=some r):∃ x,runF T o.orc (N + 1) f hs M=some x∧K x=some r:=by
 unfold yZB at h;split at h
 ·cases h
 ·rename_i fi hfi;obtain ⟨hb,h⟩:=qQ h;obtain ⟨q,h1,h2⟩:=yU (K0:=K) (K':=endK T M fi.results) (B:=zYJ T f) (zVG (qJJ N)) hL (zYJ T f) [] rfl (fun e σ hk=>by
   simp only [vQQ] at hk;exact hk) _ h
  have eb:zYJ T f=fi.body:=by unfold zYJ; rw [hfi]
  have en:ntmF T f=fi.ntmps:=by unfold ntmF; rw [hfi]
  rw [eb,en] at h1;refine ⟨q,?_,h2⟩;simp only [runF,hfi,hb,vZG];unfold cxS at h1;exact h1
def zXX (T:Tab) (o:OrS) (LO:List Nat→Option uY) (N f:Nat) (ps:List PV):Option (Ret × Mem):=yZB T o LO N f (ps.map .v) [] fun r=>some (r.1,[])
theorem qQX {P:Program} {LO:List Nat→Option uY} {N f:Nat} {ps:List PV} {r:Ret} (hT:TabOk P T) (hm:P.follows .mixedOrders=true) (hO:o.Ok P T) (hL:∀ p S,LO p=some S→uZ N (cxS T o N f (ntmF T f)) (zK T f p) S) (h:zXX T o LO N f ps=some (r,[])):qZA P f ps r:=by
 obtain ⟨x,h1,h2⟩:=zKK hL h;cases h2;refine qUZ (N:=N + 1) hT hm hO.orc ?_;unfold run;rw [h1];rfl
end
theorem zUE {N:Nat} {T:Tab} {o:OrS} {f:Nat} {LO:List Nat→Option uY} {p:List Nat} {τ:Type} {hd:τ→St} {ex:St→τ} {R:τ→Cont→Option (Ret × Mem)}
  (hL:∀ p S,LO p=some S→uZ N (cxS T o N f (ntmF T f)) (zK T f p) S)
  (h:∀ s K r,R s K=some r→LFX N (cxS T o N f (ntmF T f)) (evX T o N f (ntmF T f)) LO (zK T f p) p (T.hint f (zU (zK T f p))) K N (hd s)=some r):uZ N (cxS T o N f (ntmF T f)) (zK T f p) (sumF hd ex R) :=
 yQY (B:=zYJ T f) (ev:=evX T o N f (ntmF T f)) (zVG (qJJ N)) hL rfl fun K σ r hr=>by
  unfold sumF at hr;obtain ⟨hg,hq⟩:=qQ hr;have e:=yXQ hg
  have:=h (ex σ) K r hq
  rw [← e] at this;exact this
abbrev OrBL:=List (Nat × (List HV→List PV→Option (Bool × (PV × List PV))))
def yWJ (P:Program) (f:Nat) (o:List HV→List PV→Option (Bool × (PV × List PV))):Prop:=∀ hs ps x ps',o hs ps=some (true,(x,ps'))→yKX P f hs ps x ps'
def orS (l:OrL) (m:OrBL):OrS:=⟨OrL.k l,asc m⟩
def yWY (P:Program) (f:Nat) (o:List HV→List PV→Option (Bool × (PV × List PV))):Prop:=∀ hs ps x ps',o hs ps=some (true,(x,ps'))→yKU P f hs ps x ps'
def OneOkBq (P:Program) (f:Nat) (o:List HV→List PV→Option (Bool × (PV × List PV))):Bool→Prop
 | false=>yWJ P f o
 | true=>yWY P f o
theorem OneOkBq.at {P:Program} {f:Nat} {o:List HV→List PV→Option (Bool × (PV × List PV))} {q:Bool} (h:OneOkBq P f o q) {hs:List HV} {ps ps':List PV} {x:PV} (ho:o hs ps=some (true,(x,ps'))):zGY P f hs ps x ps' q:=by
 cases q with
 | false=>exact h hs ps x ps' ho
 | true=>exact h hs ps x ps' ho
theorem zYE {P:Program} {T:Tab} {l:OrL} {m:OrBL} (h:AllP (fun x:Nat × (List PV→Option (Bool × Ret))=>zQA P x.1 x.2) l) (hb:AllP (fun x:Nat × (List HV→List PV→Option (Bool × (PV × List PV)))=>OneOkBq P x.1 x.2 (T.gq x.1)) m):(orS l m).Ok P T :=
 ⟨OrL.ok h,fun _ _ ho hs ps x ps' hr=>(hb.of (jZ ho)).at hr⟩
end Go.Rx
namespace Go.Rx
open Go.RowKit Go.Sx
noncomputable def gEq (a b:PV):Bool:=@decide (a=b) (vZV _)
theorem yQX (a:PV):gEq a a=true:=@vYZ _ (vZV _) rfl
theorem yXZ {a b:PV} (h:gEq a b=true):a=b:=@vYY _ (vZV _) h
noncomputable def g1 (l:List PV):Bool:=gEq (.t l) (.t l)
theorem g1_t (l:List PV):g1 l=true:=yQX _
noncomputable def o_cr (as_:List PV) (r:Ret):List PV→Option (Bool × Ret):=fun ps=>some (gEq (.t ps) (.t as_),r)
theorem yWC {P:Program} {f:Nat} {as_:List PV} {r:Ret} (h:qZA P f as_ r):zQA P f (o_cr as_ r):=by
 intro ps q hh;unfold o_cr at hh;simp only [vQZ,vQY] at hh;obtain ⟨hg,rfl⟩:=hh
 have:=yXZ hg
 simp only [PV.t.injEq] at this;rw [this];exact h
noncomputable def gP (p:Prop):Bool:=@decide p (vZV _)
theorem yWL {p:Prop} (h:p):gP p=true:=@vYZ _ (vZV _) h
theorem yJE {p:Prop} (h:gP p=true):p:=@vYY _ (vZV _) h
noncomputable def gFam {τ:Type} (C:τ→Prop) (enc:τ→List PV) (t:τ) (ps:List PV):Bool:=gP (C t∧ps=enc t)
noncomputable def gF1 {τ:Type} (C:τ→Prop) (enc:τ→List PV) (t:τ):Bool:=gFam C enc t (enc t)
theorem yQU {τ:Type} {C:τ→Prop} {enc:τ→List PV} {t:τ} (h:C t):gF1 C enc t=true:=yWL ⟨h,rfl⟩
noncomputable def o_fm {τ:Type} (dec:List PV→τ) (C:τ→Prop) (enc:τ→List PV) (res:τ→Ret):List PV→Option (Bool × Ret):=fun ps=>some (gFam C enc (dec ps) ps,res (dec ps))
theorem yJV {P:Program} {f:Nat} {τ:Type} {dec:List PV→τ} {C:τ→Prop} {enc:τ→List PV} {res:τ→Ret} (h:∀ t,C t→qZA P f (enc t) (res t)):zQA P f (o_fm dec C enc res):=by
 intro ps r hh;unfold o_fm at hh;simp only [vQZ,vQY] at hh;obtain ⟨hg,rfl⟩:=hh;obtain ⟨hc,e⟩:=yJE hg
 have:=h _ hc
 rw [← e] at this;exact this
def slI (σ:St) (k:Nat):Int:=match zW σ.S k with
 | some (.v (.n _ x))=>x
 | _=>0
end Go.Rx
namespace Go.Rx
open Go.RowKit Go.Sx Go.ChangeShapes Go.WideShapes
inductive FitB:Sh→PV→Prop
 | i (k:IntKind) (x:Int) (h:(Lit.int k x).wf=true):FitB (.i k) (.n k x)
 | b (x:Bool):FitB .b (.b x)
 | s (x:ByteArray) (h:x.size≤maxLen):FitB .s (.s x)
 | l (row:List Sh) (n:Nat) (f:Nat→List PV) (hn:n≤maxLen) (hB:n * (8 * row.length)≤reachBytes) (hl:∀ j,j < n→(f j).length=row.length) (h:∀ j,j < n→∀ (i:Nat) sh p,row[i]? = some sh→(f j)[i]? = some p→FitB sh p):FitB (.l row) (.lf n f)
section
variable {P:Program} {w:World} {H:Type} {enc:TypeId × Value→H}
def GoodB (w:World) (shs:List Sh) (cs:List Value):Prop:=∃ ps:List PV,ps.length=shs.length∧(∀ (i:Nat) sh p,shs[i]? = some sh→ps[i]? = some p→FitB sh p)∧Al (RP (fun k=>k < w.heap.size) w) ps cs∧∀ v ∈ cs,v.oneCell'=true
theorem GoodB.one {sh:Sh} {p:PV} {v:Value} (h1:FitB sh p) (h2:RP (fun k=>k < w.heap.size) w p v) (h3:v.oneCell'=true):GoodB w [sh] [v] :=
 ⟨[p],rfl,(fun i s0 q hs hq=>by
  match i with
  | 0=>cases hs; cases hq; exact h1
  | i + 1=>cases hs),qUI h2 zGZ,(fun u hu=>by obtain rfl:=List.mem_singleton.1 hu; exact h3)⟩
end
section
variable {P:Program} {W:World} {H:Type} {enc:TypeId × Value→H}
def FitsB (row:List Sh) (ps:List PV):Prop:=ps.length=row.length∧∀ (i:Nat) sh p,row[i]? = some sh→ps[i]? = some p→FitB sh p
theorem FitsB.cons {s0:Sh} {row:List Sh} {ps:List PV} (h:FitsB (s0 :: row) ps):∃ p qs,ps=p :: qs∧FitB s0 p∧FitsB row qs:=by
 cases ps with
 | nil=>have:=h.1; simp at this
 | cons p qs=>exact ⟨p,qs,rfl,h.2 0 s0 p rfl rfl,by have:=h.1; simpa using this,fun i sh q h1 h2=>h.2 (i + 1) sh q h1 h2⟩
theorem FitsB.nil {ps:List PV} (h:FitsB [] ps):ps=[]:=List.eq_nil_of_length_eq_zero h.1
theorem FitB.int {k:IntKind} {p:PV} (h:FitB (.i k) p):∃ x,p=.n k x∧(Lit.int k x).wf=true:=by cases h with | i k x h=>exact ⟨x,rfl,h⟩
theorem FitB.str {p:PV} (h:FitB .s p):∃ x,p=.s x:=by cases h with | s x h=>exact ⟨x,rfl⟩
theorem FitB.slc {row:List Sh} {p:PV} (h:FitB (.l row) p):∃ n f,p=.lf n f∧n * (8 * row.length)≤reachBytes∧∀ j,j < n→FitsB row (f j):=by
 cases h with
 | l row n f hn hB hl h=>exact ⟨n,f,rfl,hB,fun j hj=>⟨hl j hj,h j hj⟩⟩
end
end Go.Rx
namespace Go.Rx
open Go.Sx
variable {P:Program}
theorem yJA {t:TypeId} {ms:Array (String × TypeId)} {w:World} (hu:P.underlying t=some (.interface ms)):(binOp .neq t .nilIface .nilIface).run P w=.ok (.bool false) w:=by
 have h:(Op.equal t .nilIface .nilIface).run P w=.ok true w:=by
  unfold Op.equal;rw [show Op.maxDepth=9999 + 1 from rfl,Op.equalIn];simp [run_underlying hu]
 simp [binOp,go_sem,h]
theorem zZL {f:FuncId} {fn:Func} {x:Code} {i j:Nat} {t t':TypeId} {p p':String} {ed:Array Edge} (hf:P.funcs[f]? = some fn)
  (hb:fn.body=some (.seq (.region 0 #[⟨some i,.call ⟨.builtin .recover,#[],#[]⟩,t,p,#[],none⟩,⟨some j,.binOp .neq t (.tmp i) (.const .nilIface) t,t',p',ed,none⟩] false) (.cond (.tmp j) x .skip)))
  (hr:fn.results=#[]) (hi:i < fn.ntmps) (hj:j < fn.ntmps) (hij:i ≠ j) {ms:Array (String × TypeId)} (hT:P.underlying t=some (.interface ms)) (args:Array Value) (w:World) :
  CallsD P f args .returning w fun e u w'=>(∃ v,e=.returned v)∧u=.returning∧w'=w:=by
 refine callsD_of_wpS hf hb fun c₀ cs hu => ?_
 have hs:(args ++ Array.replicate (fn.ntmps - args.size) undef).size ≥ fn.ntmps:=by simp; omega
 generalize args ++ Array.replicate (fn.ntmps - args.size) undef=T at hs;apply wpS_seq;apply wpS_region;have hi':i < T.size:=by omega
 have hj':j < T.size:=by omega
 simp [wpOpsS,go_sem,recoverD,hu,Exit.thenS,hi',yJA hT];refine wpS_cond (t:=false) (by simp [Act.eval,hj',hij]) ?_;refine wpS_of_wp (wp_skip ?_);obtain ⟨⟩:=c₀;subst hu;simp [bodyPostS,results,hr,go_sem]
end Go.Rx
namespace Go.Proofs.Ytglkkhpdbfacfaa.Rt
open Go.Rx Go.Sx
noncomputable def tabs:Tabs where
 sz:=[(1,false,1),
  (2,false,1),
  (3,false,1),
  (4,false,1),
  (5,false,1),
  (6,false,1),
  (7,true,4),
  (8,true,4),
  (9,false,1),
  (10,false,1),
  (11,false,1),
  (12,false,1),
  (13,true,2),
  (14,true,2),
  (15,false,1),
  (16,false,1),
  (17,false,1),
  (18,true,1),
  (19,true,1),
  (20,false,1),
  (21,false,1),
  (22,false,1),
  (23,false,1),
  (24,true,2),
  (25,true,2),
  (26,false,1),
  (27,false,1),
  (28,false,1),
  (29,false,1),
  (30,false,1),
  (32,false,1),
  (34,false,1),
  (35,false,1),
  (36,false,1),
  (37,false,1),
  (38,false,1),
  (39,false,1),
  (40,false,1),
  (41,false,1),
  (42,false,1),
  (44,false,1),
  (45,false,1),
  (46,false,1),
  (47,false,1),
  (49,false,1),
  (50,false,1),
  (51,false,1),
  (52,true,2),
  (53,true,2),
  (55,false,1),
  (56,false,1),
  (57,false,1),
  (58,false,1),
  (59,true,3),
  (60,true,3),
  (61,true,3),
  (62,true,3),
  (63,true,8),
  (64,true,8),
  (65,true,12),
  (66,true,12),
  (67,false,1),
  (68,false,1),
  (69,false,1),
  (70,false,1),
  (71,true,8),
  (72,false,1),
  (73,false,1),
  (74,false,1),
  (75,true,2),
  (76,true,2),
  (77,false,1),
  (78,false,1),
  (79,false,1),
  (80,false,1),
  (81,false,1),
  (82,true,2),
  (83,true,2),
  (84,true,2),
  (85,false,1),
  (86,false,1),
  (87,false,1),
  (88,false,1),
  (89,false,1),
  (90,false,1),
  (91,false,1),
  (92,false,1),
  (93,false,1),
  (94,false,1),
  (95,true,2),
  (96,true,2),
  (97,true,3),
  (98,true,3),
  (99,false,1),
  (100,false,1),
  (101,false,1),
  (102,false,1),
  (103,true,2),
  (104,true,2),
  (105,false,1),
  (106,false,1),
  (107,false,1),
  (108,false,1),
  (109,false,1),
  (110,false,1),
  (111,false,1),
  (112,false,1),
  (113,true,4),
  (114,true,4),
  (118,false,1),
  (119,false,1),
  (120,false,1),
  (121,false,1),
  (122,false,1),
  (123,false,1),
  (124,false,1),
  (125,false,1),
  (126,true,11),
  (127,true,11),
  (128,true,3),
  (129,true,3)]
 zr:=[(1,.nilFunc),
  (2,.int .i64 0),
  (3,.int .i64 0),
  (4,.bool false),
  (5,.int .u8 0),
  (6,.int .u8 0),
  (7,.agg #[.int .i64 0,.int .i64 0,.bool false,.int .u8 0]),
  (8,.agg #[.int .i64 0,.int .i64 0,.bool false,.int .u8 0]),
  (9,.string ByteArray.empty),
  (10,.string ByteArray.empty),
  (11,.string ByteArray.empty),
  (12,.int .u64 0),
  (13,.agg #[.string ByteArray.empty,.int .u64 0]),
  (14,.agg #[.string ByteArray.empty,.int .u64 0]),
  (15,.pointer none),
  (16,.pointer none),
  (17,.pointer none),
  (18,.agg #[.pointer none]),
  (19,.agg #[.pointer none]),
  (20,.nilIface),
  (21,.int .i32 0),
  (22,.slice none 0 0),
  (23,.slice none 0 0),
  (24,.agg #[.slice none 0 0,.slice none 0 0]),
  (25,.agg #[.slice none 0 0,.slice none 0 0]),
  (26,.slice none 0 0),
  (27,.slice none 0 0),
  (28,.nilFunc),
  (29,.nilFunc),
  (30,.nilFunc),
  (32,.nilFunc),
  (34,.nilFunc),
  (35,.nilFunc),
  (36,.nilFunc),
  (37,.nilFunc),
  (38,.nilFunc),
  (39,.nilFunc),
  (40,.nilFunc),
  (41,.nilFunc),
  (42,.nilFunc),
  (44,.nilFunc),
  (45,.nilFunc),
  (46,.nilFunc),
  (47,.slice none 0 0),
  (49,.nilFunc),
  (50,.nilFunc),
  (51,.nilFunc),
  (52,.agg #[.slice none 0 0,.int .i64 0]),
  (53,.agg #[.slice none 0 0,.int .i64 0]),
  (55,.nilFunc),
  (56,.nilFunc),
  (57,.slice none 0 0),
  (58,.slice none 0 0),
  (59,.agg #[.int .i64 0,.int .i64 0,.slice none 0 0]),
  (60,.agg #[.int .i64 0,.int .i64 0,.slice none 0 0]),
  (61,.agg #[.int .i64 0,.slice none 0 0,.slice none 0 0]),
  (62,.agg #[.int .i64 0,.slice none 0 0,.slice none 0 0]),
  (63,.agg #[.int .i64 0,.slice none 0 0,.int .i64 0,.int .i64 0,.slice none 0 0,.int .i64 0,.slice none 0 0,.slice none 0 0]),
  (64,.agg #[.int .i64 0,.slice none 0 0,.int .i64 0,.int .i64 0,.slice none 0 0,.int .i64 0,.slice none 0 0,.slice none 0 0]),
  (65,.agg #[.int .i64 0,.int .i64 0,.int .i64 0,.int .i64 0,.int .i64 0,.slice none 0 0,.int .i64 0,.int .i64 0,.slice none 0 0,.int .i64 0,.slice none 0 0,.slice none 0 0]),
  (66,.agg #[.int .i64 0,.int .i64 0,.int .i64 0,.int .i64 0,.int .i64 0,.slice none 0 0,.int .i64 0,.int .i64 0,.slice none 0 0,.int .i64 0,.slice none 0 0,.slice none 0 0]),
  (67,.nilFunc),
  (68,.pointer none),
  (69,.nilFunc),
  (70,.nilFunc),
  (71,.agg #[.int .i64 0,.int .i64 0,.int .i64 0,.int .i64 0,.int .i64 0,.int .i64 0,.int .i64 0,.int .i64 0]),
  (72,.nilFunc),
  (73,.slice none 0 0),
  (74,.nilFunc),
  (75,.agg #[.int .i64 0,.int .i64 0]),
  (76,.agg #[.int .i64 0,.int .i64 0]),
  (77,.nilFunc),
  (78,.nilFunc),
  (79,.nilFunc),
  (80,.nilFunc),
  (81,.nilFunc),
  (82,.agg #[.slice none 0 0,.int .i64 0]),
  (83,.agg #[.slice none 0 0,.int .i64 0]),
  (84,.agg #[.int .i64 0,.int .i64 0]),
  (85,.slice none 0 0),
  (86,.nilFunc),
  (87,.nilFunc),
  (88,.nilFunc),
  (89,.slice none 0 0),
  (90,.nilFunc),
  (91,.pointer none),
  (92,.nilFunc),
  (93,.nilFunc),
  (94,.slice none 0 0),
  (95,.agg #[.int .i64 0,.int .i64 0]),
  (96,.agg #[.int .i64 0,.int .i64 0]),
  (97,.agg #[.int .i64 0,.int .i64 0,.int .i64 0]),
  (98,.agg #[.int .i64 0,.int .i64 0,.int .i64 0]),
  (99,.slice none 0 0),
  (100,.slice none 0 0),
  (101,.nilFunc),
  (102,.slice none 0 0),
  (103,.agg #[.int .i64 0,.int .i64 0]),
  (104,.agg #[.int .i64 0,.int .i64 0]),
  (105,.nilFunc),
  (106,.nilFunc),
  (107,.nilFunc),
  (108,.nilFunc),
  (109,.nilFunc),
  (110,.pointer none),
  (111,.nilFunc),
  (112,.nilFunc),
  (113,.agg #[.pointer none,.pointer none,.pointer none,.string ByteArray.empty]),
  (114,.agg #[.pointer none,.pointer none,.pointer none,.string ByteArray.empty]),
  (115,.agg #[]),
  (116,.agg #[]),
  (117,.agg #[]),
  (118,.nilFunc),
  (119,.int .u32 0),
  (120,.int .u8 0),
  (121,.int .u8 0),
  (122,.nilFunc),
  (123,.pointer none),
  (124,.int .i32 0),
  (125,.int .i32 0),
  (126,.agg #[.int .u64 0,.int .u64 0,.int .u32 0,.int .u8 0,.int .u8 0,.int .u8 0,.int .u8 0,.nilFunc,.pointer none,.int .i32 0,.int .i32 0]),
  (127,.agg #[.int .u64 0,.int .u64 0,.int .u32 0,.int .u8 0,.int .u8 0,.int .u8 0,.int .u8 0,.nilFunc,.pointer none,.int .i32 0,.int .i32 0]),
  (128,.agg #[.int .i64 0,.int .i64 0,.int .i64 0]),
  (129,.agg #[.int .i64 0,.int .i64 0,.int .i64 0])]
 fd:=[(7,[0,1,2,3]),
  (8,[0,1,2,3]),
  (13,[0,1]),
  (14,[0,1]),
  (18,[0]),
  (19,[0]),
  (24,[0,1]),
  (25,[0,1]),
  (52,[0,1]),
  (53,[0,1]),
  (59,[0,1,2]),
  (60,[0,1,2]),
  (61,[0,1,2]),
  (62,[0,1,2]),
  (63,[0,1,2,5]),
  (64,[0,1,2,5]),
  (65,[0,1,2,3,4]),
  (66,[0,1,2,3,4]),
  (75,[0,1]),
  (76,[0,1]),
  (82,[0,1]),
  (83,[0,1]),
  (95,[0,1]),
  (96,[0,1]),
  (97,[0,2]),
  (98,[0,2]),
  (103,[0,1]),
  (104,[0,1]),
  (113,[0,1,2,3]),
  (114,[0,1,2,3]),
  (126,[0,1,2,3,4,5,6,7,8,9,10]),
  (127,[0,1,2,3,4,5,6,7,8,9,10])]
 fx:=[(7,[(0,false,1),(1,false,1),(2,false,1),(3,false,1)]),
  (8,[(0,false,1),(1,false,1),(2,false,1),(3,false,1)]),
  (13,[(0,false,1),(1,false,1)]),
  (14,[(0,false,1),(1,false,1)]),
  (18,[(0,false,1)]),
  (19,[(0,false,1)]),
  (24,[(0,false,1),(1,false,1)]),
  (25,[(0,false,1),(1,false,1)]),
  (52,[(0,false,1),(1,false,1)]),
  (53,[(0,false,1),(1,false,1)]),
  (59,[(0,false,1),(1,false,1),(2,false,1)]),
  (60,[(0,false,1),(1,false,1),(2,false,1)]),
  (61,[(0,false,1),(1,false,1),(2,false,1)]),
  (62,[(0,false,1),(1,false,1),(2,false,1)]),
  (63,[(0,false,1),(1,false,1),(2,true,3),(5,true,3)]),
  (64,[(0,false,1),(1,false,1),(2,true,3),(5,true,3)]),
  (65,[(0,false,1),(1,false,1),(2,false,1),(3,false,1),(4,true,8)]),
  (66,[(0,false,1),(1,false,1),(2,false,1),(3,false,1),(4,true,8)]),
  (75,[(0,false,1),(1,false,1)]),
  (76,[(0,false,1),(1,false,1)]),
  (82,[(0,false,1),(1,false,1)]),
  (83,[(0,false,1),(1,false,1)]),
  (95,[(0,false,1),(1,false,1)]),
  (96,[(0,false,1),(1,false,1)]),
  (97,[(0,true,2),(2,false,1)]),
  (98,[(0,true,2),(2,false,1)]),
  (103,[(0,false,1),(1,false,1)]),
  (104,[(0,false,1),(1,false,1)]),
  (113,[(0,false,1),(1,false,1),(2,false,1),(3,false,1)]),
  (114,[(0,false,1),(1,false,1),(2,false,1),(3,false,1)]),
  (126,[(0,false,1),(1,false,1),(2,false,1),(3,false,1),(4,false,1),(5,false,1),(6,false,1),(7,false,1),(8,false,1),(9,false,1),(10,false,1)]),
  (127,[(0,false,1),(1,false,1),(2,false,1),(3,false,1),(4,false,1),(5,false,1),(6,false,1),(7,false,1),(8,false,1),(9,false,1),(10,false,1)])]
 ar:=[(71,8,1,false),
  (84,2,1,false),
  (115,0,1,false),
  (128,3,1,false),
  (129,3,1,false)]
 sl:=[(22,26,1,24),
  (23,66,12,160),
  (26,2,1,8),
  (27,3,1,8),
  (47,4,1,1),
  (57,60,3,40),
  (58,129,3,24),
  (73,76,2,16),
  (85,84,2,16),
  (89,102,1,24),
  (94,96,2,16),
  (99,98,3,24),
  (100,98,3,24),
  (102,104,2,16)]
 ly:=[(7,[(0,1),(1,1),(2,1),(3,1)]),
  (8,[(0,1),(1,1),(2,1),(3,1)]),
  (13,[(0,1),(1,1)]),
  (14,[(0,1),(1,1)]),
  (18,[(0,1)]),
  (19,[(0,1)]),
  (24,[(0,1),(1,1)]),
  (25,[(0,1),(1,1)]),
  (52,[(0,1),(1,1)]),
  (53,[(0,1),(1,1)]),
  (59,[(0,1),(1,1),(2,1)]),
  (60,[(0,1),(1,1),(2,1)]),
  (61,[(0,1),(1,1),(2,1)]),
  (62,[(0,1),(1,1),(2,1)]),
  (63,[(0,1),(1,1),(2,3),(5,3)]),
  (64,[(0,1),(1,1),(2,3),(5,3)]),
  (65,[(0,1),(1,1),(2,1),(3,1),(4,8)]),
  (66,[(0,1),(1,1),(2,1),(3,1),(4,8)]),
  (71,[(0,1),(1,1),(2,1),(3,1),(4,1),(5,1),(6,1),(7,1)]),
  (75,[(0,1),(1,1)]),
  (76,[(0,1),(1,1)]),
  (82,[(0,1),(1,1)]),
  (83,[(0,1),(1,1)]),
  (84,[(0,1),(1,1)]),
  (95,[(0,1),(1,1)]),
  (96,[(0,1),(1,1)]),
  (97,[(0,2),(2,1)]),
  (98,[(0,2),(2,1)]),
  (103,[(0,1),(1,1)]),
  (104,[(0,1),(1,1)]),
  (113,[(0,1),(1,1),(2,1),(3,1)]),
  (114,[(0,1),(1,1),(2,1),(3,1)]),
  (115,[]),
  (126,[(0,1),(1,1),(2,1),(3,1),(4,1),(5,1),(6,1),(7,1),(8,1),(9,1),(10,1)]),
  (127,[(0,1),(1,1),(2,1),(3,1),(4,1),(5,1),(6,1),(7,1),(8,1),(9,1),(10,1)]),
  (128,[(0,1),(1,1),(2,1)]),
  (129,[(0,1),(1,1),(2,1)])]
 ik:=[(2,.i64),
  (3,.i64),
  (5,.u8),
  (6,.u8),
  (12,.u64),
  (21,.i32),
  (119,.u32),
  (120,.u8),
  (121,.u8),
  (124,.i32),
  (125,.i32)]
 str:=[9,
  10,
  11]
 bo:=[4]
 eq:=[(96,[.i .i64,.i .i64])]
 fn:=[(3,Try.f3),
  (4,Try.f4),
  (5,Try.f5),
  (6,Try.f6),
  (7,Try.f7),
  (8,Try.f8),
  (9,Try.f9),
  (10,Try.f10),
  (11,Try.f11),
  (12,Try.f12),
  (13,Try.f13),
  (14,Try.f14),
  (15,Try.f15),
  (16,Try.f16),
  (17,Try.f17),
  (18,Try.f18),
  (19,Try.f19),
  (20,Try.f20),
  (21,Try.f21),
  (22,Try.f22),
  (23,Try.f23),
  (24,Try.f24),
  (25,Try.f25),
  (26,Try.f26),
  (27,Try.f27),
  (28,Try.f28),
  (29,Try.f29),
  (30,Try.f30),
  (31,Try.f31),
  (32,Try.f32),
  (33,Try.f33),
  (34,Try.f34),
  (35,Try.f35),
  (36,Try.f36),
  (37,Try.f37),
  (38,Try.f38),
  (39,Try.f39),
  (40,Try.f40),
  (41,Try.f41),
  (42,Try.f42),
  (43,Try.f43),
  (44,Try.f44),
  (45,Try.f45),
  (46,Try.f46),
  (47,Try.f47),
  (48,Try.f48),
  (49,Try.f49),
  (50,Try.f50),
  (51,Try.f51),
  (52,Try.f52),
  (53,Try.f53),
  (54,Try.f54),
  (55,Try.f55),
  (56,Try.f56),
  (57,Try.f57),
  (58,Try.f58),
  (59,Try.f59),
  (60,Try.f60),
  (61,Try.f61),
  (62,Try.f62),
  (63,Try.f63),
  (64,Try.f64),
  (65,Try.f65),
  (66,Try.f66),
  (67,Try.f67),
  (68,Try.f68),
  (69,Try.f69),
  (70,Try.f70),
  (71,Try.f71),
  (72,Try.f72)]
 hint:=[(5,[(11,{ keep:=[1,15,16,17,18,19,20,21,22],ids:=[15,26,47,55,69,78],out:=some ([1,15,16,17,18,19,20,21,22],[15,26,47,55,69,78]) }),(15,{ keep:=[1,15,16,17,18,19,20,87,88,89],ids:=[15,26,47,87],out:=some ([14,15,16,17,18,19,20],[15,26,47,124]) })]),
  (11,[(5,{ keep:=[2,3,4,5,6],ids:=[2,4,11,25,59],out:=some ([2,3,4,5],[2,4,11,25,59]) }),(9,{ keep:=[2,3,4,5,7],ids:=[2,4,11,25,59],out:=some ([2,4],[2,4,25,59]) }),(12,{ keep:=[2,3,4,5,7,8],ids:=[2,4,11,25,59],out:=some ([2,3,4,5,7],[2,4,11,25,59]) })]),
  (13,[(9,{ keep:=[9,10,11,12],ids:=[21,56],out:=some ([10,11],[56]) })]),
  (18,[(7,{ keep:=[6,7,8,9,26,27],ids:=[6,7,8,9,24,39],out:=some ([6,7,8,9],[6,7,8,9,24,39]) })]),
  (19,[(5,{ keep:=[1,2,3,4,5,10,30,31,32],ids:=[5,10],out:=some ([1,2,3,4,5,10],[5,10]) }),(13,{ keep:=[4,10,57,58,59],ids:=[10],out:=some ([10],[10]) })]),
  (20,[(3,{ keep:=[1,3,4,5,11,12,13],ids:=[5],out:=some ([10],[]) })]),
  (21,[(7,{ keep:=[0,1,4,5,6,7],ids:=[4,5],out:=some ([0,1,4,5,6],[4,5]) })]),
  (22,[(1,{ keep:=[0,1],ids:=[],out:=some ([0],[]) })]),
  (23,[(8,{ keep:=[8,9,10],ids:=[18,39],out:=some ([9],[39]) })]),
  (25,[(9,{ keep:=[1,6,7,8,31,32],ids:=[6,7,17,29],out:=some ([6,7],[6,7,29]) })]),
  (26,[(8,{ keep:=[2,3,4,8,10,11,12],ids:=[4,8,11,34,140],out:=some ([8,11],[8,11,140]) }),(11,{ keep:=[2,3,4,8,10,11,12,13,14],ids:=[4,8,11,34,140],out:=some ([2,3,4,8,10,11,13],[4,8,11,34,140]) })]),
  (27,[(5,{ keep:=[3,8,39,40,41],ids:=[8],out:=some ([8],[8]) })]),
  (28,[(4,{ keep:=[0,1,5],ids:=[],out:=some ([4],[]) })]),
  (33,[(3,{ keep:=[1,2,3,7,8],ids:=[3,18],out:=some ([1,2,3,7],[3,18]) }),(8,{ keep:=[2,3,7,9],ids:=[3,18],out:=some ([7],[18]) }),(11,{ keep:=[2,3,7,9,10],ids:=[3,18],out:=some ([2,3,7,9],[3,18]) }),(16,{ keep:=[2,3,7,9,10,11,60,61,62],ids:=[3,11,18,60],out:=some ([2,3,7,9,10],[3,18]) })]),
  (34,[(4,{ keep:=[4,5,11],ids:=[5],out:=some ([4,5,10],[5]) }),(9,{ keep:=[4,5,12],ids:=[5],out:=some ([10],[]) })]),
  (38,[(3,{ keep:=[1,2,5,17,18],ids:=[2,15,64,85],out:=some ([1,2,5],[2,15,64,85]) }),(9,{ keep:=[2,5,7],ids:=[2,15,64,85],out:=some ([5],[15,64,85]) }),(12,{ keep:=[2,5,7,31,32],ids:=[2,15,64,85],out:=some ([2,5,7],[2,15,64,85]) })]),
  (39,[(2,{ keep:=[0,7,8,9],ids:=[],out:=some ([0],[]) })]),
  (41,[(2,{ keep:=[3,13,14,15],ids:=[3,13],out:=some ([6],[]) })]),
  (42,[(3,{ keep:=[1,2,5,6],ids:=[2,38],out:=some ([5],[38]) })]),
  (44,[(4,{ keep:=[0,1,5],ids:=[],out:=some ([4],[]) })]),
  (45,[(4,{ keep:=[3,4,9],ids:=[4],out:=some ([8],[]) })]),
  (47,[(4,{ keep:=[1,2,4,18,19],ids:=[2,4,16,70],out:=some ([1,2,4],[2,4,16,70]) }),(10,{ keep:=[1,2,4,6,29,30,31],ids:=[2,4,16,70],out:=some ([4,6],[4,16,70]) }),(17,{ keep:=[4,6,62,63],ids:=[4,16,70],out:=some ([4],[4,16,70]) })]),
  (50,[(2,{ keep:=[1,3],ids:=[1],out:=some ([1,2],[1,28]) })]),
  (53,[(4,{ keep:=[1,17,18],ids:=[1],out:=some ([2],[]) })]),
  (55,[(4,{ keep:=[0,1,2,6,8,9],ids:=[6,8,9,19,30,96,125],out:=some ([0,1,2,6,8],[6,8,19,96,125]) }),(9,{ keep:=[0,1,2,6,8,9,10,53,54,55],ids:=[6,8,9,10,19,30,34,96,125],out:=some ([0,1,2,6,8,9],[6,8,9,19,30,96,125]) }),(20,{ keep:=[0,2,6,8,14,15],ids:=[6,8,14,15,19,96,125],out:=some ([6,14],[6,14,96,125]) })]),
  (56,[(3,{ keep:=[1,2,5,14,15],ids:=[2,11,50,74],out:=some ([5],[11,50,74]),unn:=[11] })]),
  (59,[(1,{ keep:=[0,1],ids:=[],out:=some ([0],[]) })]),
  (62,[(2,{ keep:=[1,3],ids:=[1],out:=some ([1,2],[1]) })]),
  (64,[(6,{ keep:=[0,2,3,4,5,6],ids:=[2,4,1000001],out:=some ([0,2,3,4],[2,4,1000001]) })]),
  (66,[(3,{ keep:=[0,4,5],ids:=[12,1000001],out:=some ([0,4],[12,1000001]) })]),
  (67,[(2,{ keep:=[0,1,7,8],ids:=[],out:=some ([4],[]) })]),
  (70,[(3,{ keep:=[3,6,7,8],ids:=[],out:=some ([2,3],[]) })])]
 rw:=[30,
  64,
  66]
 ow:=[(18,[24])]
 dd:=[36,40,43,46,49,52,58]
 nf:=[56]
 gq:=[64,
  66]
 dr:=[(55,[(25,{ keep:=[0,2,6,8,14,127],ids:=[6,8,14,19,96,125] })])]
 ag:=[55]
theorem eq96:aggB Try.prog 96=true∧∀ vs,KV [.i .i64,.i .i64] vs→jJ Try.prog 12 96 vs=true:=by
 refine ⟨by kernel_rfl,fun vs h => ?_⟩;obtain ⟨v0,u0,rfl,⟨x0,rfl⟩,h0⟩:=h;obtain ⟨v1,u1,rfl,⟨x1,rfl⟩,h1⟩:=h0;obtain rfl:u1=[]:=h1
 kernel_rfl
theorem fns:AllP (fun x:Nat × Func=>Try.prog.funcs[x.1]? = some x.2) tabs.fn:=⟨Try.func3,Try.func4,Try.func5,Try.func6,Try.func7,Try.func8,Try.func9,Try.func10,Try.func11,Try.func12,Try.func13,Try.func14,Try.func15,Try.func16,Try.func17,Try.func18,Try.func19,Try.func20,Try.func21,Try.func22,Try.func23,Try.func24,Try.func25,Try.func26,Try.func27,Try.func28,Try.func29,Try.func30,Try.func31,Try.func32,Try.func33,Try.func34,Try.func35,Try.func36,Try.func37,Try.func38,Try.func39,Try.func40,Try.func41,Try.func42,Try.func43,Try.func44,Try.func45,Try.func46,Try.func47,Try.func48,Try.func49,Try.func50,Try.func51,Try.func52,Try.func53,Try.func54,Try.func55,Try.func56,Try.func57,Try.func58,Try.func59,Try.func60,Try.func61,Try.func62,Try.func63,Try.func64,Try.func65,Try.func66,Try.func67,Try.func68,Try.func69,Try.func70,Try.func71,Try.func72,trivial⟩
theorem yKF:tabs.sz.all (fun x=>tyB Try.prog x.1 x.2.1 x.2.2 && (x.2.1 || Nat.beq x.2.2 1))=true:=by kernel_rfl
theorem yKE:tabs.zr.map (fun x=>(Try.prog.info? x.1).bind (·.zero))=tabs.zr.map (fun x=>some x.2):=by kernel_rfl
theorem yUV:tabs.fd.all (fun x=>allI (fun f o=>zQU Try.prog x.1 f o) 0 x.2)=true:=by kernel_rfl
theorem yUW:tabs.fx.all (fun x=>allI (fxB Try.prog x.1) 0 x.2)=true:=by kernel_rfl
theorem yUC:tabs.ar.all (fun x=>arX Try.prog x.1 x.2)=true:=by kernel_rfl
theorem yKI:tabs.sl.all (fun x=>slcB Try.prog x.1 x.2.1 x.2.2.1 && Nat.blt 0 x.2.2.1 && Nat.ble x.2.2.1 1000 && appB Try.prog x.1 x.2.1 x.2.2.1 x.2.2.2 && Nat.ble x.2.2.2 100000 && (Nat.ble x.2.2.2 16 || !inL tabs.big x.2.1))=true:=by kernel_rfl
theorem yUK:tabs.ly.map (fun x=>(qQW Try.prog x.1).map (·.2))=tabs.ly.map (fun x=>some x.2):=by kernel_rfl
theorem yUX:tabs.ik.map (fun x=>Try.prog.underlying x.1)=tabs.ik.map (fun x=>some (.int x.2)):=by kernel_rfl
theorem yQI:tabs.str.map (fun x=>Try.prog.underlying x)=tabs.str.map (fun _=>some .string):=by kernel_rfl
theorem yUA:tabs.bo.map (fun x=>Try.prog.underlying x)=tabs.bo.map (fun _=>some .bool):=by kernel_rfl
theorem yQL:tabs.fn.all (fun x => !(x.2.name == "runtime.NumGoroutine") && !x.2.body.isNone)=true:=by kernel_rfl
theorem dd36:jQ Try.prog 36∧∀ (args:Array Value) (w:World),CallsD Try.prog 36 args .returning w fun e u w'=>(∃ v,e=.returned v)∧u=.returning∧w'=w :=
 ⟨kZ Try.func36 (by kernel_rfl) (by kernel_rfl),fun args w=>zZL (ms:=#[]) Try.func36 rfl rfl (by decide) (by decide) (by decide) (by kernel_rfl) args w⟩
theorem dd40:jQ Try.prog 40∧∀ (args:Array Value) (w:World),CallsD Try.prog 40 args .returning w fun e u w'=>(∃ v,e=.returned v)∧u=.returning∧w'=w :=
 ⟨kZ Try.func40 (by kernel_rfl) (by kernel_rfl),fun args w=>zZL (ms:=#[]) Try.func40 rfl rfl (by decide) (by decide) (by decide) (by kernel_rfl) args w⟩
theorem dd43:jQ Try.prog 43∧∀ (args:Array Value) (w:World),CallsD Try.prog 43 args .returning w fun e u w'=>(∃ v,e=.returned v)∧u=.returning∧w'=w :=
 ⟨kZ Try.func43 (by kernel_rfl) (by kernel_rfl),fun args w=>zZL (ms:=#[]) Try.func43 rfl rfl (by decide) (by decide) (by decide) (by kernel_rfl) args w⟩
theorem dd46:jQ Try.prog 46∧∀ (args:Array Value) (w:World),CallsD Try.prog 46 args .returning w fun e u w'=>(∃ v,e=.returned v)∧u=.returning∧w'=w :=
 ⟨kZ Try.func46 (by kernel_rfl) (by kernel_rfl),fun args w=>zZL (ms:=#[]) Try.func46 rfl rfl (by decide) (by decide) (by decide) (by kernel_rfl) args w⟩
theorem dd49:jQ Try.prog 49∧∀ (args:Array Value) (w:World),CallsD Try.prog 49 args .returning w fun e u w'=>(∃ v,e=.returned v)∧u=.returning∧w'=w :=
 ⟨kZ Try.func49 (by kernel_rfl) (by kernel_rfl),fun args w=>zZL (ms:=#[]) Try.func49 rfl rfl (by decide) (by decide) (by decide) (by kernel_rfl) args w⟩
theorem dd52:jQ Try.prog 52∧∀ (args:Array Value) (w:World),CallsD Try.prog 52 args .returning w fun e u w'=>(∃ v,e=.returned v)∧u=.returning∧w'=w :=
 ⟨kZ Try.func52 (by kernel_rfl) (by kernel_rfl),fun args w=>zZL (ms:=#[]) Try.func52 rfl rfl (by decide) (by decide) (by decide) (by kernel_rfl) args w⟩
theorem dd58:jQ Try.prog 58∧∀ (args:Array Value) (w:World),CallsD Try.prog 58 args .returning w fun e u w'=>(∃ v,e=.returned v)∧u=.returning∧w'=w :=
 ⟨kZ Try.func58 (by kernel_rfl) (by kernel_rfl),fun args w=>zZL (ms:=#[]) Try.func58 rfl rfl (by decide) (by decide) (by decide) (by kernel_rfl) args w⟩
theorem yUG:∀ f ∈ tabs.dd,jQ Try.prog f∧∀ (args:Array Value) (w:World),CallsD Try.prog f args .returning w fun e u w'=>(∃ v,e=.returned v)∧u=.returning∧w'=w:=by
 intro f hf;simp only [tabs,vZW,List.not_mem_nil,or_false] at hf;rcases hf with rfl | rfl | rfl | rfl | rfl | rfl | rfl
 ·exact dd36
 ·exact dd40
 ·exact dd43
 ·exact dd46
 ·exact dd49
 ·exact dd52
 ·exact dd58
theorem ok:tabs.Ok Try.prog:=⟨yKF,yKE,yUV,yUW,yUC,yKI,yUK,yUX,yQI,yUA,⟨eq96,trivial⟩,fns,yQL,yUG⟩
noncomputable def T:Tab:=tabs.tab
theorem qZE:TabOk Try.prog T:=Tabs.ok ok
theorem qQB:Try.prog.follows .mixedOrders=true:=by kernel_rfl
noncomputable def tabsF:Tabs:={ tabs with
 hint:=[(5,[(11,{ keep:=[1,15,16,17,18,19,20,21,22],ids:=[15,26,47,55,69,78],out:=some ([1,15,16,17,18,19,20,21,22],[15,26,47,55,69,78]),fun_:=[(47,[.n .i64 0]),(55,[.n .i64 0]),(69,[.n .i64 0]),(78,[.n .i64 0])] }),(15,{ keep:=[1,15,16,17,18,19,20,87,88,89],ids:=[15,26,47,87],out:=some ([14,15,16,17,18,19,20],[15,26,47,124]),fun_:=[(47,[.n .i64 0]),(87,[.zs])] })]),
  (11,[(5,{ keep:=[2,3,4,5,6],ids:=[2,4,11,25,59],out:=some ([2,3,4,5],[2,4,11,25,59]),fun_:=[(25,[.zs]),(59,[.n .i64 0,.n .i64 0,.n .i64 0,.n .i64 0,.n .i64 0,.zs,.n .i64 0,.n .i64 0,.zs,.n .i64 0,.zs,.zs])] }),(9,{ keep:=[2,3,4,5,7],ids:=[2,4,11,25,59],out:=some ([2,4],[2,4,25,59]),fun_:=[(25,[.zs]),(59,[.n .i64 0,.n .i64 0,.n .i64 0,.n .i64 0,.n .i64 0,.zs,.n .i64 0,.n .i64 0,.zs,.n .i64 0,.zs,.zs])] }),(12,{ keep:=[2,3,4,5,7,8],ids:=[2,4,11,25,59],out:=some ([2,3,4,5,7],[2,4,11,25,59]),fun_:=[(25,[.zs]),(59,[.n .i64 0,.n .i64 0,.n .i64 0,.n .i64 0,.n .i64 0,.zs,.n .i64 0,.n .i64 0,.zs,.n .i64 0,.zs,.zs])] })]),
  (13,[(9,{ keep:=[9,10,11,12],ids:=[21,56],out:=some ([10,11],[56]),fun_:=[(56,[.n .i64 0])] })]),
  (18,[(7,{ keep:=[6,7,8,9,26,27],ids:=[6,7,8,9,24,39],out:=some ([6,7,8,9],[6,7,8,9,24,39]),fun_:=[(24,[.n .i64 0])] })]),
  (19,[(5,{ keep:=[1,2,3,4,5,10,30,31,32],ids:=[5,10],out:=some ([1,2,3,4,5,10],[5,10]) }),(13,{ keep:=[4,10,57,58,59],ids:=[10],out:=some ([10],[10]) })]),
  (20,[(3,{ keep:=[1,3,4,5,11,12,13],ids:=[5],out:=some ([10],[]) })]),
  (21,[(7,{ keep:=[0,1,4,5,6,7],ids:=[4,5],out:=some ([0,1,4,5,6],[4,5]) })]),
  (22,[(1,{ keep:=[0,1],ids:=[],out:=some ([0],[]) })]),
  (23,[(8,{ keep:=[8,9,10],ids:=[18,39],out:=some ([9],[39]),fun_:=[(39,[.b false])] })]),
  (25,[(9,{ keep:=[1,6,7,8,31,32],ids:=[6,7,17,29],out:=some ([6,7],[6,7,29]),fun_:=[(29,[.b false])] })]),
  (26,[(8,{ keep:=[2,3,4,8,10,11,12],ids:=[4,8,11,34,140],out:=some ([8,11],[8,11,140]),fun_:=[(140,[.n .i64 0])] }),(11,{ keep:=[2,3,4,8,10,11,12,13,14],ids:=[4,8,11,34,140],out:=some ([2,3,4,8,10,11,13],[4,8,11,34,140]),fun_:=[(140,[.n .i64 0])] })]),
  (27,[(5,{ keep:=[3,8,39,40,41],ids:=[8],out:=some ([8],[8]) })]),
  (28,[(4,{ keep:=[0,1,5],ids:=[],out:=some ([4],[]) })]),
  (33,[(3,{ keep:=[1,2,3,7,8],ids:=[3,18],out:=some ([1,2,3,7],[3,18]),fun_:=[(18,[.n .i64 0,.n .i64 0])] }),(8,{ keep:=[2,3,7,9],ids:=[3,18],out:=some ([7],[18]),fun_:=[(18,[.n .i64 0,.n .i64 0])] }),(11,{ keep:=[2,3,7,9,10],ids:=[3,18],out:=some ([2,3,7,9],[3,18]),fun_:=[(18,[.n .i64 0,.n .i64 0])] }),(16,{ keep:=[2,3,7,9,10,11,60,61,62],ids:=[3,11,18,60],out:=some ([2,3,7,9,10],[3,18]),fun_:=[(18,[.n .i64 0,.n .i64 0]),(60,[.n .i64 0,.n .i64 0])] })]),
  (34,[(4,{ keep:=[4,5,11],ids:=[5],out:=some ([4,5,10],[5]) }),(9,{ keep:=[4,5,12],ids:=[5],out:=some ([10],[]) })]),
  (38,[(3,{ keep:=[1,2,5,17,18],ids:=[2,15,64,85],out:=some ([1,2,5],[2,15,64,85]),fun_:=[(15,[.n .i64 0])] }),(9,{ keep:=[2,5,7],ids:=[2,15,64,85],out:=some ([5],[15,64,85]),fun_:=[(15,[.n .i64 0])] }),(12,{ keep:=[2,5,7,31,32],ids:=[2,15,64,85],out:=some ([2,5,7],[2,15,64,85]),fun_:=[(15,[.n .i64 0])] })]),
  (39,[(2,{ keep:=[0,7,8,9],ids:=[],out:=some ([0],[]) })]),
  (41,[(2,{ keep:=[3,13,14,15],ids:=[3,13],out:=some ([6],[]),fun_:=[(13,[.n .i64 0])] })]),
  (42,[(3,{ keep:=[1,2,5,6],ids:=[2,38],out:=some ([5],[38]),fun_:=[(38,[.n .i64 0])] })]),
  (44,[(4,{ keep:=[0,1,5],ids:=[],out:=some ([4],[]) })]),
  (45,[(4,{ keep:=[3,4,9],ids:=[4],out:=some ([8],[]) })]),
  (47,[(4,{ keep:=[1,2,4,18,19],ids:=[2,4,16,70],out:=some ([1,2,4],[2,4,16,70]),fun_:=[(16,[.n .i64 0])] }),(10,{ keep:=[1,2,4,6,29,30,31],ids:=[2,4,16,70],out:=some ([4,6],[4,16,70]),fun_:=[(16,[.n .i64 0])] }),(17,{ keep:=[4,6,62,63],ids:=[4,16,70],out:=some ([4],[4,16,70]),fun_:=[(16,[.n .i64 0])] })]),
  (50,[(2,{ keep:=[1,3],ids:=[1],out:=some ([1,2],[1,28]) })]),
  (53,[(4,{ keep:=[1,17,18],ids:=[1],out:=some ([2],[]) })]),
  (55,[(4,{ keep:=[0,1,2,6,8,9],ids:=[6,8,9,19,30,96,125],out:=some ([0,1,2,6,8],[6,8,19,96,125]),fun_:=[(19,[.n .i64 0,.n .i64 0]),(30,[.n .i64 0,.n .i64 0,.n .i64 0]),(96,[.n .i64 0]),(125,[.n .i64 0])] }),(9,{ keep:=[0,1,2,6,8,9,10,53,54,55],ids:=[6,8,9,10,19,30,34,96,125],out:=some ([0,1,2,6,8,9],[6,8,9,19,30,96,125]),fun_:=[(19,[.n .i64 0,.n .i64 0]),(30,[.n .i64 0,.n .i64 0,.n .i64 0]),(96,[.n .i64 0]),(125,[.n .i64 0])] }),(20,{ keep:=[0,2,6,8,14,15],ids:=[6,8,14,15,19,96,125],out:=some ([6,14],[6,14,96,125]),fun_:=[(19,[.n .i64 0,.n .i64 0]),(96,[.n .i64 0]),(125,[.n .i64 0])] })]),
  (56,[(3,{ keep:=[1,2,5,14,15],ids:=[2,11,50,74],out:=some ([5],[11,50,74]),unn:=[11],fun_:=[(11,[.zs]),(50,[.n .i64 0,.n .i64 0]),(74,[.n .i64 0,.n .i64 0])] })]),
  (59,[(1,{ keep:=[0,1],ids:=[],out:=some ([0],[]) })]),
  (62,[(2,{ keep:=[1,3],ids:=[1],out:=some ([1,2],[1]) })]),
  (64,[(6,{ keep:=[0,2,3,4,5,6],ids:=[2,4,1000001],out:=some ([0,2,3,4],[2,4,1000001]) })]),
  (66,[(3,{ keep:=[0,4,5],ids:=[12,1000001],out:=some ([0,4],[12,1000001]),fun_:=[(12,[.n .i64 0,.n .i64 0,.n .i64 0])] })]),
  (67,[(2,{ keep:=[0,1,7,8],ids:=[],out:=some ([4],[]) })]),
  (70,[(3,{ keep:=[3,6,7,8],ids:=[],out:=some ([2,3],[]) })])]
 ff:=[3,
  5,
  7,
  8,
  11,
  13,
  18,
  19,
  20,
  23,
  25,
  26,
  27,
  33,
  34,
  37,
  38,
  39,
  41,
  42,
  45,
  47,
  50,
  53,
  55,
  56,
  62,
  64,
  66]
}
theorem okF:tabsF.Ok Try.prog:=⟨yKF,yKE,yUV,yUW,yUC,yKI,yUK,yUX,yQI,yUA,⟨eq96,trivial⟩,fns,yQL,yUG⟩
noncomputable def Tf:Tab:=tabsF.tab
theorem zYV:TabOk Try.prog Tf:=Tabs.ok okF
end Go.Proofs.Ytglkkhpdbfacfaa.Rt
namespace Go.Proofs.Ytglkkhpdbfacfaa.Ag
open Go.Rx Rt
noncomputable def k54:List (List PV × Ret):=[([.a [.l [[.l [[.n .i64 0]]],[.l [[.n .i64 1]]],[.l [[.n .i64 2]]]],.l [[.n .i64 0,.n .i64 1,.n .i64 1,.n .i64 0,.n .i64 0,.zs,.n .i64 0,.n .i64 0,.zs,.n .i64 0,.zs,.zs],[.n .i64 0,.n .i64 2,.n .i64 3,.n .i64 0,.n .i64 0,.zs,.n .i64 0,.n .i64 0,.zs,.n .i64 0,.zs,.zs],[.n .i64 1,.n .i64 2,.n .i64 1,.n .i64 0,.n .i64 0,.zs,.n .i64 0,.n .i64 0,.zs,.n .i64 0,.zs,.zs]]],.n .i64 0],.v (.b true)),
 ([.a [.l [[.l [[.n .i64 0]]],[.l [[.n .i64 1]]],[.l [[.n .i64 2]]]],.l [[.n .i64 0,.n .i64 1,.n .i64 1,.n .i64 0,.n .i64 0,.zs,.n .i64 0,.n .i64 0,.zs,.n .i64 0,.zs,.zs],[.n .i64 0,.n .i64 2,.n .i64 3,.n .i64 0,.n .i64 0,.zs,.n .i64 0,.n .i64 0,.zs,.n .i64 0,.zs,.zs],[.n .i64 1,.n .i64 2,.n .i64 1,.n .i64 0,.n .i64 0,.zs,.n .i64 0,.n .i64 0,.zs,.n .i64 0,.zs,.zs]]],.n .i64 1],.v (.b true)),
 ([.a [.l [[.l [[.n .i64 0]]],[.l [[.n .i64 1]]],[.l [[.n .i64 2]]]],.l [[.n .i64 0,.n .i64 1,.n .i64 1,.n .i64 0,.n .i64 0,.zs,.n .i64 0,.n .i64 0,.zs,.n .i64 0,.zs,.zs],[.n .i64 0,.n .i64 2,.n .i64 3,.n .i64 0,.n .i64 0,.zs,.n .i64 0,.n .i64 0,.zs,.n .i64 0,.zs,.zs],[.n .i64 1,.n .i64 2,.n .i64 1,.n .i64 0,.n .i64 0,.zs,.n .i64 0,.n .i64 0,.zs,.n .i64 0,.zs,.zs]]],.n .i64 2],.v (.b true))]
noncomputable def t54:Known:=(54,k54) :: ([]:Known)
theorem ok54:Known.Ok Try.prog t54:=Known.add qZE qQB (Known.nil _) (N:=60) (by kernel_rfl)
noncomputable def k71:List (List PV × Ret):=[([.n .i64 0,.n .i64 0],.v (.n .i64 0)),
 ([.n .i64 1,.n .i64 2],.v (.n .i64 (-1))),
 ([.n .i64 0,.n .i64 1],.v (.n .i64 (-1))),
 ([.n .i64 2,.n .i64 2],.v (.n .i64 0))]
noncomputable def t71:Known:=(71,k71) :: t54
theorem ok71:Known.Ok Try.prog t71:=Known.add qZE qQB (ok54) (N:=60) (by kernel_rfl)
noncomputable def k63:List (List PV × Ret):=[([.a [.n .i64 0,.n .i64 1,.n .i64 1,.n .i64 0,.n .i64 0,.zs,.n .i64 0,.n .i64 0,.zs,.n .i64 0,.zs,.zs],.a [.n .i64 0,.n .i64 2]],.v (.n .i64 (-1))),
 ([.a [.n .i64 0,.n .i64 2,.n .i64 3,.n .i64 0,.n .i64 0,.zs,.n .i64 0,.n .i64 0,.zs,.n .i64 0,.zs,.zs],.a [.n .i64 1,.n .i64 2]],.v (.n .i64 (-1)))]
noncomputable def t63:Known:=(63,k63) :: t71
theorem ok63:Known.Ok Try.prog t63:=Known.add qZE qQB (ok71) (N:=60) (by kernel_rfl)
noncomputable def k53:List (List PV × Ret):=[([.a [.l [[.l [[.n .i64 0]]],[.l [[.n .i64 1]]],[.l [[.n .i64 2]]]],.l [[.n .i64 0,.n .i64 1,.n .i64 1,.n .i64 0,.n .i64 0,.zs,.n .i64 0,.n .i64 0,.zs,.n .i64 0,.zs,.zs],[.n .i64 0,.n .i64 2,.n .i64 3,.n .i64 0,.n .i64 0,.zs,.n .i64 0,.n .i64 0,.zs,.n .i64 0,.zs,.zs],[.n .i64 1,.n .i64 2,.n .i64 1,.n .i64 0,.n .i64 0,.zs,.n .i64 0,.n .i64 0,.zs,.n .i64 0,.zs,.zs]]]],.v (.b true))]
noncomputable def t53:Known:=(53,k53) :: t63
theorem ok53:Known.Ok Try.prog t53:=Known.add qZE qQB (ok63) (N:=60) (by kernel_rfl)
noncomputable def k56:List (List PV × Ret):=[([.a [.l [[.l [[.n .i64 0]]],[.l [[.n .i64 1]]],[.l [[.n .i64 2]]]],.l [[.n .i64 0,.n .i64 1,.n .i64 1,.n .i64 0,.n .i64 0,.zs,.n .i64 0,.n .i64 0,.zs,.n .i64 0,.zs,.zs],[.n .i64 0,.n .i64 2,.n .i64 3,.n .i64 0,.n .i64 0,.zs,.n .i64 0,.n .i64 0,.zs,.n .i64 0,.zs,.zs],[.n .i64 1,.n .i64 2,.n .i64 1,.n .i64 0,.n .i64 0,.zs,.n .i64 0,.n .i64 0,.zs,.n .i64 0,.zs,.zs]]],.n .i64 2],.ow 102 1 (.l [[.l [[.n .i64 1,.n .i64 1],[.n .i64 2,.n .i64 3]]],[.l [[.n .i64 0,.n .i64 1],[.n .i64 2,.n .i64 1]]],[.l [[.n .i64 0,.n .i64 3],[.n .i64 1,.n .i64 1]]]]))]
noncomputable def t56:Known:=(56,k56) :: t53
theorem ok56:Known.Ok Try.prog t56:=Known.add qZE qQB (ok53) (N:=60) (by kernel_rfl)
noncomputable def k65:List (List PV × Ret):=[([.a [.n .i64 3,.n .i64 2],.a [.n .i64 0,.n .i64 0]],.v (.b true)),
 ([.a [.n .i64 1,.n .i64 2],.a [.n .i64 0,.n .i64 0]],.v (.b true)),
 ([.a [.n .i64 1,.n .i64 2],.a [.n .i64 3,.n .i64 2]],.v (.b true)),
 ([.a [.n .i64 2,.n .i64 3],.a [.n .i64 3,.n .i64 2]],.v (.b true)),
 ([.a [.n .i64 2,.n .i64 3],.a [.n .i64 0,.n .i64 1]],.v (.b false))]
noncomputable def t65:Known:=(65,k65) :: t56
theorem ok65:Known.Ok Try.prog t65:=Known.add qZE qQB (ok56) (N:=60) (by kernel_rfl)
noncomputable def k55:List (List PV × Ret):=[([.l [[.l [[.n .i64 1,.n .i64 1],[.n .i64 2,.n .i64 3]]],[.l [[.n .i64 0,.n .i64 1],[.n .i64 2,.n .i64 1]]],[.l [[.n .i64 0,.n .i64 3],[.n .i64 1,.n .i64 1]]]],.n .i64 0,.n .i64 2],.v (.t [.a [.l [[.n .i64 0],[.n .i64 1],[.n .i64 2]],.n .i64 2],.b true])),
 ([.l [[.l [[.n .i64 1,.n .i64 1],[.n .i64 2,.n .i64 3]]],[.l [[.n .i64 0,.n .i64 1],[.n .i64 2,.n .i64 1]]],[.l [[.n .i64 0,.n .i64 3],[.n .i64 1,.n .i64 1]]]],.n .i64 0,.n .i64 0],.v (.t [.a [.l [[.n .i64 0]],.n .i64 0],.b true])),
 ([.l [[.l [[.n .i64 1,.n .i64 1],[.n .i64 2,.n .i64 3]]],[.l [[.n .i64 0,.n .i64 1],[.n .i64 2,.n .i64 1]]],[.l [[.n .i64 0,.n .i64 3],[.n .i64 1,.n .i64 1]]]],.n .i64 2,.n .i64 2],.v (.t [.a [.l [[.n .i64 2]],.n .i64 0],.b true]))]
noncomputable def t55:Known:=(55,k55) :: t65
theorem ok55:Known.Ok Try.prog t55:=Known.add qZE qQB (ok65) (N:=60) (by kernel_rfl)
noncomputable def k37:List (List PV × Ret):=[([.a [.l [[.l [[.n .i64 0]]],[.l [[.n .i64 1]]],[.l [[.n .i64 2]]]],.l [[.n .i64 0,.n .i64 1,.n .i64 1,.n .i64 0,.n .i64 0,.zs,.n .i64 0,.n .i64 0,.zs,.n .i64 0,.zs,.zs],[.n .i64 0,.n .i64 2,.n .i64 3,.n .i64 0,.n .i64 0,.zs,.n .i64 0,.n .i64 0,.zs,.n .i64 0,.zs,.zs],[.n .i64 1,.n .i64 2,.n .i64 1,.n .i64 0,.n .i64 0,.zs,.n .i64 0,.n .i64 0,.zs,.n .i64 0,.zs,.zs]]],.n .i64 0,.n .i64 2,.n .i64 2],.v (.t [.a [.l [[.n .i64 0],[.n .i64 1],[.n .i64 2]],.n .i64 2],.b true])),
 ([.a [.l [[.l [[.n .i64 0]]],[.l [[.n .i64 1]]],[.l [[.n .i64 2]]]],.l [[.n .i64 0,.n .i64 1,.n .i64 1,.n .i64 0,.n .i64 0,.zs,.n .i64 0,.n .i64 0,.zs,.n .i64 0,.zs,.zs],[.n .i64 0,.n .i64 2,.n .i64 3,.n .i64 0,.n .i64 0,.zs,.n .i64 0,.n .i64 0,.zs,.n .i64 0,.zs,.zs],[.n .i64 1,.n .i64 2,.n .i64 1,.n .i64 0,.n .i64 0,.zs,.n .i64 0,.n .i64 0,.zs,.n .i64 0,.zs,.zs]]],.n .i64 0,.n .i64 0,.n .i64 2],.v (.t [.a [.l [[.n .i64 0]],.n .i64 0],.b true])),
 ([.a [.l [[.l [[.n .i64 0]]],[.l [[.n .i64 1]]],[.l [[.n .i64 2]]]],.l [[.n .i64 0,.n .i64 1,.n .i64 1,.n .i64 0,.n .i64 0,.zs,.n .i64 0,.n .i64 0,.zs,.n .i64 0,.zs,.zs],[.n .i64 0,.n .i64 2,.n .i64 3,.n .i64 0,.n .i64 0,.zs,.n .i64 0,.n .i64 0,.zs,.n .i64 0,.zs,.zs],[.n .i64 1,.n .i64 2,.n .i64 1,.n .i64 0,.n .i64 0,.zs,.n .i64 0,.n .i64 0,.zs,.n .i64 0,.zs,.zs]]],.n .i64 2,.n .i64 2,.n .i64 2],.v (.t [.a [.l [[.n .i64 2]],.n .i64 0],.b true]))]
noncomputable def t37:Known:=(37,k37) :: t55
theorem ok37:Known.Ok Try.prog t37:=Known.add qZE qQB (ok55) (N:=60) (by kernel_rfl)
noncomputable def k39:List (List PV × Ret):=[([.n .i64 0,.l [[.n .i64 1152921504606846977]]],.v (.n .i64 0)),
 ([.n .i64 1152921504606846976,.l [[.n .i64 1]]],.v (.n .i64 1)),
 ([.n .i64 0,.l [[.n .i64 1152921504606846979]]],.v (.n .i64 0)),
 ([.n .i64 1152921504606846976,.l [[.n .i64 3]]],.v (.n .i64 3)),
 ([.n .i64 1,.l [[.n .i64 4]]],.v (.n .i64 1)),
 ([.n .i64 3,.l [[.n .i64 2]]],.v (.n .i64 2)),
 ([.n .i64 0,.l [[.n .i64 2]]],.v (.n .i64 0)),
 ([.n .i64 1,.l [[.n .i64 1]]],.v (.n .i64 1)),
 ([.n .i64 0,.l [[.n .i64 5]]],.v (.n .i64 0)),
 ([.n .i64 2,.l [[.n .i64 3]]],.v (.n .i64 2)),
 ([.n .i64 1,.l [[.n .i64 3]]],.v (.n .i64 1)),
 ([.n .i64 2,.l [[.n .i64 2]]],.v (.n .i64 2)),
 ([.n .i64 1,.l [[.n .i64 2]]],.v (.n .i64 1))]
noncomputable def t39:Known:=(39,k39) :: t37
theorem ok39:Known.Ok Try.prog t39:=Known.add qZE qQB (ok37) (N:=60) (by kernel_rfl)
noncomputable def k38:List (List PV × Ret):=[([.a [.l [[.l [[.n .i64 0]]],[.l [[.n .i64 1]]],[.l [[.n .i64 2]]]],.l [[.n .i64 0,.n .i64 1,.n .i64 1,.n .i64 0,.n .i64 0,.zs,.n .i64 0,.n .i64 0,.zs,.n .i64 0,.zs,.zs],[.n .i64 0,.n .i64 2,.n .i64 3,.n .i64 0,.n .i64 0,.zs,.n .i64 0,.n .i64 0,.zs,.n .i64 0,.zs,.zs],[.n .i64 1,.n .i64 2,.n .i64 1,.n .i64 0,.n .i64 0,.zs,.n .i64 0,.n .i64 0,.zs,.n .i64 0,.zs,.zs]]],.n .i64 0],.ow 2 1 (.l [[.n .i64 0],[.n .i64 1],[.n .i64 2]]))]
noncomputable def t38:Known:=(38,k38) :: t39
theorem ok38:Known.Ok Try.prog t38:=Known.add qZE qQB (ok39) (N:=60) (by kernel_rfl)
noncomputable def k18:List (List PV × Ret):=[([.a [.l [[.l [[.n .i64 0]]],[.l [[.n .i64 1]]],[.l [[.n .i64 2]]]],.l [[.n .i64 0,.n .i64 1,.n .i64 1,.n .i64 0,.n .i64 0,.zs,.n .i64 0,.n .i64 0,.zs,.n .i64 0,.zs,.zs],[.n .i64 0,.n .i64 2,.n .i64 3,.n .i64 0,.n .i64 0,.zs,.n .i64 0,.n .i64 0,.zs,.n .i64 0,.zs,.zs],[.n .i64 1,.n .i64 2,.n .i64 1,.n .i64 0,.n .i64 0,.zs,.n .i64 0,.n .i64 0,.zs,.n .i64 0,.zs,.zs]]],.n .i64 0,.n .i64 2],.v (.t [.l [[.n .i64 0],[.n .i64 1],[.n .i64 2]],.n .i64 2,.b true]))]
noncomputable def t18:Known:=(18,k18) :: t38
theorem ok18:Known.Ok Try.prog t18:=Known.add qZE qQB (ok38) (N:=60) (by kernel_rfl)
noncomputable def k41:List (List PV × Ret):=[([.a [.l [[.l [[.n .i64 0]]],[.l [[.n .i64 1]]],[.l [[.n .i64 2]]]],.l [[.n .i64 0,.n .i64 1,.n .i64 1,.n .i64 0,.n .i64 0,.zs,.n .i64 0,.n .i64 0,.zs,.n .i64 0,.zs,.zs],[.n .i64 0,.n .i64 2,.n .i64 3,.n .i64 0,.n .i64 0,.zs,.n .i64 0,.n .i64 0,.zs,.n .i64 0,.zs,.zs],[.n .i64 1,.n .i64 2,.n .i64 1,.n .i64 0,.n .i64 0,.zs,.n .i64 0,.n .i64 0,.zs,.n .i64 0,.zs,.zs]]],.n .i64 0,.n .i64 2],.v (.b true))]
noncomputable def t41:Known:=(41,k41) :: t18
theorem ok41:Known.Ok Try.prog t41:=Known.add qZE qQB (ok18) (N:=60) (by kernel_rfl)
noncomputable def k19:List (List PV × Ret):=[([.a [.l [[.l [[.n .i64 0]]],[.l [[.n .i64 1]]],[.l [[.n .i64 2]]]],.l [[.n .i64 0,.n .i64 1,.n .i64 1,.n .i64 0,.n .i64 0,.zs,.n .i64 0,.n .i64 0,.zs,.n .i64 0,.zs,.zs],[.n .i64 0,.n .i64 2,.n .i64 3,.n .i64 0,.n .i64 0,.zs,.n .i64 0,.n .i64 0,.zs,.n .i64 0,.zs,.zs],[.n .i64 1,.n .i64 2,.n .i64 1,.n .i64 0,.n .i64 0,.zs,.n .i64 0,.n .i64 0,.zs,.n .i64 0,.zs,.zs]]],.n .i64 0,.n .i64 2,.n .i64 2,.l [[.n .i64 0],[.n .i64 1],[.n .i64 2]]],.v (.b true))]
noncomputable def t19:Known:=(19,k19) :: t41
theorem ok19:Known.Ok Try.prog t19:=Known.add qZE qQB (ok41) (N:=60) (by kernel_rfl)
theorem call:qZA Try.prog 10 [] (.v (.b true)):=qUZ (N:=60) qZE qQB (Known.ok (ok19)) (by kernel_rfl:run T (Known.orc t19) 60 10 []=some (.v (.b true)))
end Go.Proofs.Ytglkkhpdbfacfaa.Ag
namespace Go.Proofs.Ytglkkhpdbfacfaa.Ba
open Go.Rx Rt Go.Sx Go.RowKit
noncomputable def orDv (N:Nat) (a b:Int):OrS:=orS [] []
noncomputable def hDv (N:Nat) (a b:Int) (x:Int) (y:Int):St:=⟨[(0,.v (.n .i64 x)),(1,.v (.n .i64 y))],[]⟩
set_option maxRecDepth 100000 in
theorem rdDv (G:St→Option (Ret × Mem)) (K:Cont) (N:Nat) (a b:Int) (x:Int) (y:Int):zKZ N (cxS Tf (orDv N a b) N 22 (ntmF Tf 22)) (evX Tf (orDv N a b) N 22 (ntmF Tf 22)) (yW []) (zK Tf 22 [0,0,1]) [0,0,1] (Tf.hint 22 (zU (zK Tf 22 [0,0,1]))) K G (hDv N a b x y) =
 (bif (decide (0 < y)) then (bif (decide (y=0)) then none
 else (G (hDv N a b y (x.tmod y))))
 else (K (.exit 0) ⟨[(0,.v (.n .i64 x))],[]⟩)):=by kernel_rfl
def dcDv  : (Int × Int)→(Int × Int) ⊕ (Nat × Int × Int):=fun t=>match t with | (x,y)=>(bif (decide (0 < y)) then (bif (decide (y=0)) then (.inr (1,(x,y))) else (.inl (y,(x.tmod y)))) else (.inr (0,(x,y))))
noncomputable def kxDv (N:Nat) (a b:Int) (K:Cont) (w9:Nat × Int × Int):Option (Ret × Mem):=bif Nat.beq w9.1 0 then (K (.exit 0) ⟨[(0,.v (.n .i64 w9.2.1))],[]⟩) else none
theorem wlDv (K:Cont) (N:Nat) (a b:Int):∀ n (t:(Int × Int)),LFX N (cxS Tf (orDv N a b) N 22 (ntmF Tf 22)) (evX Tf (orDv N a b) N 22 (ntmF Tf 22)) (yW []) (zK Tf 22 [0,0,1]) [0,0,1] (Tf.hint 22 (zU (zK Tf 22 [0,0,1]))) K n (hDv N a b t.1 t.2)=(qQV dcDv n t).bind (kxDv N a b K):=fun n t=>by
 refine zWX (L:=LFX N (cxS Tf (orDv N a b) N 22 (ntmF Tf 22)) (evX Tf (orDv N a b) N 22 (ntmF Tf 22)) (yW []) (zK Tf 22 [0,0,1]) [0,0,1] (Tf.hint 22 (zU (zK Tf 22 [0,0,1]))) K) (stp:=zKZ N (cxS Tf (orDv N a b) N 22 (ntmF Tf 22)) (evX Tf (orDv N a b) N 22 (ntmF Tf 22)) (yW []) (zK Tf 22 [0,0,1]) [0,0,1] (Tf.hint 22 (zU (zK Tf 22 [0,0,1]))) K) (fun _ _=>rfl) (fun _=>rfl) (fun t=>hDv N a b t.1 t.2) (fun _=>True) dcDv (kxDv N a b K) (fun G t _ => ?_) (fun _ _ _ _=>trivial) n t trivial;obtain ⟨x,y⟩:=t;refine (rdDv G K N a b x y).trans ?_;dsimp only [dcDv];cases (decide (0 < y))
 ·rfl
 ·cases (decide (y=0))
  ·rfl
  ·rfl
def zKD (N:Nat)  (t:(Int × Int)):Bool:=(qQV dcDv N t).isSome
def zZU (N:Nat)  (t:(Int × Int)):Nat × Int × Int:=(qQV dcDv N t).getD (99,t)
theorem lwDv (K:Cont) (N:Nat) (a b:Int) (t:(Int × Int)) (hg:zKD N t=true):LFX N (cxS Tf (orDv N a b) N 22 (ntmF Tf 22)) (evX Tf (orDv N a b) N 22 (ntmF Tf 22)) (yW []) (zK Tf 22 [0,0,1]) [0,0,1] (Tf.hint 22 (zU (zK Tf 22 [0,0,1]))) K N (hDv N a b t.1 t.2)=kxDv N a b K (zZU N t):=by
 refine (wlDv K N a b N t).trans ?_;unfold zKD at hg;unfold zZU;cases h:qQV dcDv N t with
 | none=>rw [h] at hg; cases hg
 | some y=>rfl
def gcI (a b:Int):Int:=((Nat.gcd a.toNat b.toNat:Nat):Int)
theorem yUI:∀ (n a b:Nat),b < n→qQV dcDv n ((a:Int),(b:Int))=some (0,((Nat.gcd a b:Nat):Int),0)
 | 0,_,_,h=>by omega
 | n + 1,a,b,h=>by
  by_cases e:b=0
  ·subst e;simp only [qQV,dcDv];rw [vYQ (by omega)]
   simp
  ·simp only [qQV,dcDv];rw [vYZ (show (0:Int) < (b:Int) by omega),vYQ (show ¬ (b:Int)=0 by omega)];simp only [vZG,vZH];have hm:(a:Int).tmod (b:Int)=((a % b:Nat):Int):=(Int.ofNat_tmod a b).symm;rw [hm,yUI n b (a % b) (by have:=Nat.mod_lt a (show 0 < b by omega); omega)];rw [show Nat.gcd b (a % b)=Nat.gcd a b by rw [Nat.gcd_comm a b,Nat.gcd_rec b a,Nat.gcd_comm]]
noncomputable def lsdv (N:Nat) (a b:Int):List (List Nat × uY):=[([0,0,1],sumF (fun t:(Int × Int)=>(hDv N a b t.1 t.2)) (fun σ=>(slI σ 0,slI σ 1)) (fun t K=>(bif zKD N t then kxDv N a b K (zZU N t) else none)))]
set_option maxRecDepth 100000 in
theorem pxdv (N:Nat) (a b:Int):zXX Tf (orDv N a b) (yW (lsdv N a b)) N 22 [.n .i64 a,.n .i64 b] =
 (bif (gSt (hDv N a b a b) (hDv N a b a b)) then (bif (zKD N (a,b)) then (bif (Nat.beq (zZU N (a,b)).1 0) then some (.v (.n .i64 (zZU N (a,b)).2.1),[])
 else none)
 else none)
 else none):=by kernel_rfl
theorem yKH (N:Nat) (a b:Int) (h:qQV dcDv N (a,b)=some (0,gcI a b,0)):qZA Try.prog 22 [.n .i64 a,.n .i64 b] (.v (.n .i64 (gcI a b))):=by
 refine qQX (N:=N) (LO:=yW (lsdv N a b)) zYV qQB (zYE (l:=[]) (m:=[]) trivial trivial) (fun p S hp => ?_) ?_
 ·refine uH (L:=zK Tf 22) (l:=(lsdv N a b)) (show AllP _ (lsdv N a b) from ⟨?_,trivial⟩) p S hp
  ·dsimp only;refine zUE (T:=Tf) (o:=(orDv N a b)) (f:=22) (LO:=yW []) (p:=[0,0,1]) zWY ?_;intro t K r hr;obtain ⟨hg,hr⟩:=qQ hr
   skip
   exact (lwDv K N a b t hg).trans hr
 ·refine (pxdv N a b).trans ?_;have ho:zKD N (a,b)=true:=by unfold zKD; rw [h]; rfl
  have hu:zZU N (a,b)=(0,gcI a b,0):=by unfold zZU; rw [h]; rfl
  simp only [zJZ,ho,hu,vZG];rfl
def cdv:Int × Int→Prop:=fun t=>match t with | (a,b)=>0≤a∧0≤b
def edv:Int × Int→List PV:=fun t=>match t with | (a,b)=>[.n .i64 a,.n .i64 b]
noncomputable def rdv:Int × Int→Ret:=fun t=>match t with | (a,b)=>.v (.n .i64 (gcI a b))
def ddv:List PV→Int × Int:=fun ps=>match ps with
 | [.n _ a,.n _ b]=>(a,b)
 | _=>(0,0)
noncomputable def o_dv:List PV→Option (Bool × Ret):=o_fm ddv cdv edv rdv
theorem yWB:zQA Try.prog 22 o_dv:=yJV fun t h=>by
 obtain ⟨a,b⟩:=t;exact yKH (b.toNat + 1) a b (by have h:0≤a∧0≤b:=h; have:=yUI (b.toNat + 1) a.toNat b.toNat (by omega); rwa [show ((a.toNat:Nat):Int)=a by omega,show ((b.toNat:Nat):Int)=b by omega] at this)
noncomputable def orRa (N:Nat) (a b:Int):OrS:=orS [] []
noncomputable def hRa (N:Nat) (a b:Int) (x:Int) (y:Int):St:=⟨[(0,.v (.n .i64 a)),(1,.v (.n .i64 b)),(4,.p 4 0),(5,.p 5 0),(6,.v (.n .i64 x)),(7,.v (.n .i64 y))],[(4,.blk [.v (.n .i64 0)]),(5,.blk [.v (.n .i64 0)])]⟩
set_option maxRecDepth 100000 in
theorem rdRa (G:St→Option (Ret × Mem)) (K:Cont) (N:Nat) (a b:Int) (x:Int) (y:Int):zKZ N (cxS Tf (orRa N a b) N 21 (ntmF Tf 21)) (evX Tf (orRa N a b) N 21 (ntmF Tf 21)) (yW []) (zK Tf 21 [0,0,1,1,1,1,1]) [0,0,1,1,1,1,1] (Tf.hint 21 (zU (zK Tf 21 [0,0,1,1,1,1,1]))) K G (hRa N a b x y) =
 (bif (!decide (y=0)) then (bif (decide (y=0)) then none
 else (G (hRa N a b y (x.tmod y))))
 else (K (.exit 0) ⟨[(0,.v (.n .i64 a)),(1,.v (.n .i64 b)),(4,.p 4 0),(5,.p 5 0),(6,.v (.n .i64 x))],[(4,.blk [.v (.n .i64 0)]),(5,.blk [.v (.n .i64 0)])]⟩)):=by kernel_rfl
def dcRa  : (Int × Int)→(Int × Int) ⊕ (Nat × Int × Int):=fun t=>match t with | (x,y)=>(bif (!decide (y=0)) then (bif (decide (y=0)) then (.inr (1,(x,y))) else (.inl (y,(x.tmod y)))) else (.inr (0,(x,y))))
noncomputable def kxRa (N:Nat) (a b:Int) (K:Cont) (w9:Nat × Int × Int):Option (Ret × Mem):=bif Nat.beq w9.1 0 then (K (.exit 0) ⟨[(0,.v (.n .i64 a)),(1,.v (.n .i64 b)),(4,.p 4 0),(5,.p 5 0),(6,.v (.n .i64 w9.2.1))],[(4,.blk [.v (.n .i64 0)]),(5,.blk [.v (.n .i64 0)])]⟩) else none
theorem wlRa (K:Cont) (N:Nat) (a b:Int):∀ n (t:(Int × Int)),LFX N (cxS Tf (orRa N a b) N 21 (ntmF Tf 21)) (evX Tf (orRa N a b) N 21 (ntmF Tf 21)) (yW []) (zK Tf 21 [0,0,1,1,1,1,1]) [0,0,1,1,1,1,1] (Tf.hint 21 (zU (zK Tf 21 [0,0,1,1,1,1,1]))) K n (hRa N a b t.1 t.2)=(qQV dcRa n t).bind (kxRa N a b K):=fun n t=>by
 refine zWX (L:=LFX N (cxS Tf (orRa N a b) N 21 (ntmF Tf 21)) (evX Tf (orRa N a b) N 21 (ntmF Tf 21)) (yW []) (zK Tf 21 [0,0,1,1,1,1,1]) [0,0,1,1,1,1,1] (Tf.hint 21 (zU (zK Tf 21 [0,0,1,1,1,1,1]))) K) (stp:=zKZ N (cxS Tf (orRa N a b) N 21 (ntmF Tf 21)) (evX Tf (orRa N a b) N 21 (ntmF Tf 21)) (yW []) (zK Tf 21 [0,0,1,1,1,1,1]) [0,0,1,1,1,1,1] (Tf.hint 21 (zU (zK Tf 21 [0,0,1,1,1,1,1]))) K) (fun _ _=>rfl) (fun _=>rfl) (fun t=>hRa N a b t.1 t.2) (fun _=>True) dcRa (kxRa N a b K) (fun G t _ => ?_) (fun _ _ _ _=>trivial) n t trivial;obtain ⟨x,y⟩:=t;refine (rdRa G K N a b x y).trans ?_;dsimp only [dcRa];cases (!decide (y=0))
 ·rfl
 ·cases (decide (y=0))
  ·rfl
  ·rfl
def zKC (N:Nat)  (t:(Int × Int)):Bool:=(qQV dcRa N t).isSome
def qXZ (N:Nat)  (t:(Int × Int)):Nat × Int × Int:=(qQV dcRa N t).getD (99,t)
theorem lwRa (K:Cont) (N:Nat) (a b:Int) (t:(Int × Int)) (hg:zKC N t=true):LFX N (cxS Tf (orRa N a b) N 21 (ntmF Tf 21)) (evX Tf (orRa N a b) N 21 (ntmF Tf 21)) (yW []) (zK Tf 21 [0,0,1,1,1,1,1]) [0,0,1,1,1,1,1] (Tf.hint 21 (zU (zK Tf 21 [0,0,1,1,1,1,1]))) K N (hRa N a b t.1 t.2)=kxRa N a b K (qXZ N t):=by
 refine (wlRa K N a b N t).trans ?_;unfold zKC at hg;unfold qXZ;cases h:qQV dcRa N t with
 | none=>rw [h] at hg; cases hg
 | some y=>rfl
theorem yUF:∀ (n a b:Nat),b < n→qQV dcRa n ((a:Int),(b:Int))=some (0,((Nat.gcd a b:Nat):Int),0)
 | 0,_,_,h=>by omega
 | n + 1,a,b,h=>by
  by_cases e:b=0
  ·subst e;simp only [qQV,dcRa]
   simp
  ·simp only [qQV,dcRa];simp only [vYQ (show ¬ (b:Int)=0 by omega),vZH,Bool.not_false,vZG];have hm:(a:Int).tmod (b:Int)=((a % b:Nat):Int):=(Int.ofNat_tmod a b).symm;rw [hm,yUF n b (a % b) (by have:=Nat.mod_lt a (show 0 < b by omega); omega)];rw [show Nat.gcd b (a % b)=Nat.gcd a b by rw [Nat.gcd_comm a b,Nat.gcd_rec b a,Nat.gcd_comm]]
def raN (a b:Int):Int:=bif decide (a < b) || decide (b < 0) then 0 else bif decide (a=0) then 1 else vYK .i64 (a.tdiv (gcI a b))
def raD (a b:Int):Int:=bif decide (a < b) || decide (b < 0) then 0 else bif decide (a=0) then 1 else vYK .i64 (b.tdiv (gcI a b))
theorem yUL {a b:Int} (_:0 < a) (_:0≤b):gcI a b ≠ 0:=by
 unfold gcI
 have:=Nat.gcd_pos_of_pos_left b.toNat (show 0 < a.toNat by omega)
 omega
noncomputable def lsra (N:Nat) (a b:Int):List (List Nat × uY):=[([0,0,1,1,1,1,1],sumF (fun t:(Int × Int)=>(hRa N a b t.1 t.2)) (fun σ=>(slI σ 6,slI σ 7)) (fun t K=>(bif zKC N t then kxRa N a b K (qXZ N t) else none)))]
set_option maxRecDepth 100000 in
theorem pxra (N:Nat) (a b:Int):zXX Tf (orRa N a b) (yW (lsra N a b)) N 21 [.n .i64 a,.n .i64 b] =
 (bif (decide (a < b)) then some (.v (.t [.n .i64 0,.n .i64 0]),[])
 else (bif (decide (b < 0)) then some (.v (.t [.n .i64 0,.n .i64 0]),[])
 else (bif (decide (a=0)) then some (.v (.t [.n .i64 1,.n .i64 1]),[])
 else (bif (gSt (hRa N a b a b) (hRa N a b a b)) then (bif (zKC N (a,b)) then (bif (Nat.beq (qXZ N (a,b)).1 0) then (bif (decide ((qXZ N (a,b)).2.1=0)) then none
 else (bif (decide ((qXZ N (a,b)).2.1=0)) then none
 else some (.v (.t [.n .i64 (vYK .i64 (a.tdiv (qXZ N (a,b)).2.1)),.n .i64 (vYK .i64 (b.tdiv (qXZ N (a,b)).2.1))]),[])))
 else none)
 else none)
 else none)))):=by kernel_rfl
theorem yKG (N:Nat) (a b:Int) (h:0≤a→0≤b→qQV dcRa N (a,b)=some (0,gcI a b,0)):qZA Try.prog 21 [.n .i64 a,.n .i64 b] (.v (.t [.n .i64 (raN a b),.n .i64 (raD a b)])):=by
 refine qQX (N:=N) (LO:=yW (lsra N a b)) zYV qQB (zYE (l:=[]) (m:=[]) trivial trivial) (fun p S hp => ?_) ?_
 ·refine uH (L:=zK Tf 21) (l:=(lsra N a b)) (show AllP _ (lsra N a b) from ⟨?_,trivial⟩) p S hp
  ·dsimp only;refine zUE (T:=Tf) (o:=(orRa N a b)) (f:=21) (LO:=yW []) (p:=[0,0,1,1,1,1,1]) zWY ?_;intro t K r hr;obtain ⟨hg,hr⟩:=qQ hr
   skip
   exact (lwRa K N a b t hg).trans hr
 ·refine (pxra N a b).trans ?_;unfold raN raD;cases h1:decide (a < b) <;> cases h2:decide (b < 0) <;> cases h3:decide (a=0) <;> simp only [Bool.or_true,Bool.or_false,vZG,vZH] <;> try rfl
  have h1:=vYJ h1;have h2:=vYJ h2;have h3:=vYJ h3;have hg:gcI a b ≠ 0:=yUL (by omega) (by omega);have hh:=h (by omega) (by omega);have ho:zKC N (a,b)=true:=by unfold zKC; rw [hh]; rfl
  have hu:qXZ N (a,b)=(0,gcI a b,0):=by unfold qXZ; rw [hh]; rfl
  simp only [zJZ,ho,hu,vZG,vYQ hg,vZH,Nat.beq_refl]
def cra:Int × Int→Prop:=fun t=>match t with | (_,_)=>True
def era:Int × Int→List PV:=fun t=>match t with | (a,b)=>[.n .i64 a,.n .i64 b]
noncomputable def rra:Int × Int→Ret:=fun t=>match t with | (a,b)=>.v (.t [.n .i64 (raN a b),.n .i64 (raD a b)])
def dra:List PV→Int × Int:=fun ps=>match ps with
 | [.n _ a,.n _ b]=>(a,b)
 | _=>(0,0)
noncomputable def o_ra:List PV→Option (Bool × Ret):=o_fm dra cra era rra
theorem yWA:zQA Try.prog 21 o_ra:=yJV fun t h=>by
 obtain ⟨a,b⟩:=t;exact yKG (b.toNat + 1) a b (fun h1 h2=>by have:=yUF (b.toNat + 1) a.toNat b.toNat (by omega); rwa [show ((a.toNat:Nat):Int)=a by omega,show ((b.toNat:Nat):Int)=b by omega] at this)
def rdI (n k:Int):Int:=bif decide (n.tmod k < 0) then vYK .i64 (n.tmod k + k) else n.tmod k
theorem yQE {n k:Int} (h0:0 < k) (_:k < 4611686018427387904):0≤rdI n k∧rdI n k < k:=by
 unfold rdI;have h1:=Int.tmod_lt_of_pos n h0;have h2 : -k < n.tmod k:=by
  have:=Int.lt_tmod_of_pos n h0
  omega
 by_cases h:n.tmod k < 0
 ·rw [vYZ h,vZG,zJQ (by omega)]; omega
 ·rw [vYQ h,vZH]; omega
noncomputable def orrd (n k:Int):OrS:=orS [] []
noncomputable def lsrd (n k:Int):List (List Nat × uY):=[]
set_option maxRecDepth 100000 in
theorem pxrd (n k:Int):zXX Tf (orrd n k) (yW (lsrd n k)) 60 14 [.n .i64 n,.n .i64 k] =
 (bif (decide (k=0)) then none
 else (bif (decide ((n.tmod k) < 0)) then some (.v (.n .i64 (vYK .i64 ((n.tmod k) + k))),[])
 else some (.v (.n .i64 (n.tmod k)),[]))):=by kernel_rfl
theorem yKV (n k:Int) (h:k ≠ 0):qZA Try.prog 14 [.n .i64 n,.n .i64 k] (.v (.n .i64 (rdI n k))):=by
 refine qQX (N:=60) (LO:=yW (lsrd n k)) zYV qQB (zYE (l:=[]) (m:=[]) trivial trivial) (fun p S hp => ?_) ?_
 ·refine uH (L:=zK Tf 14) (l:=(lsrd n k)) (show AllP _ (lsrd n k) from trivial) p S hp
 ·refine (pxrd n k).trans ?_;unfold rdI;simp only [vYQ h,vZH];cases decide (n.tmod k < 0) <;> rfl
def crd:Int × Int→Prop:=fun t=>match t with | (_,k)=>k ≠ 0
def erd:Int × Int→List PV:=fun t=>match t with | (n,k)=>[.n .i64 n,.n .i64 k]
noncomputable def rrd:Int × Int→Ret:=fun t=>match t with | (n,k)=>.v (.n .i64 (rdI n k))
def drd:List PV→Int × Int:=fun ps=>match ps with
 | [.n _ a,.n _ b]=>(a,b)
 | _=>(0,0)
noncomputable def o_rd:List PV→Option (Bool × Ret):=o_fm drd crd erd rrd
theorem yWH:zQA Try.prog 14 o_rd:=yJV fun t h=>by
 obtain ⟨n,k⟩:=t;exact yKV n k h
theorem yWD:zQA Try.prog 10 (o_cr [] (.v (.b true))):=yWC Ag.call
theorem yKD {c l:Int} (_:0 < c) (_:c≤40000) (_:0≤l) (_:l≤c):vYK .i64 (raN c l * l)=vYK .i64 (raD c l * c)∧0 < raN c l∧0≤raD c l∧gcI (raN c l) (raD c l)=1:=by
 obtain ⟨m,rfl⟩:∃ m:Nat,c=(m:Int):=⟨c.toNat,by omega⟩
 obtain ⟨n,rfl⟩:∃ n:Nat,l=(n:Int):=⟨l.toNat,by omega⟩
 have hg:0 < Nat.gcd m n:=Nat.gcd_pos_of_pos_left n (by omega);have e1:raN (m:Int) (n:Int)=((m / Nat.gcd m n:Nat):Int):=by
  unfold raN gcI;rw [vYQ (show ¬ (m:Int) < (n:Int) by omega),vYQ (show ¬ (n:Int) < 0 by omega),vYQ (show ¬ (m:Int)=0 by omega)];simp only [Bool.or_false,vZH,Int.toNat_natCast];rw [← Int.ofNat_tdiv,zJQ]
  have:=Nat.div_le_self m (Nat.gcd m n)
  generalize m / Nat.gcd m n=q at this ⊢;omega
 have e2:raD (m:Int) (n:Int)=((n / Nat.gcd m n:Nat):Int):=by
  unfold raD gcI;rw [vYQ (show ¬ (m:Int) < (n:Int) by omega),vYQ (show ¬ (n:Int) < 0 by omega),vYQ (show ¬ (m:Int)=0 by omega)];simp only [Bool.or_false,vZH,Int.toNat_natCast];rw [← Int.ofNat_tdiv,zJQ]
  have:=Nat.div_le_self n (Nat.gcd m n)
  generalize n / Nat.gcd m n=q at this ⊢;omega
 rw [e1,e2];refine ⟨?_,?_,Int.natCast_nonneg _,?_⟩
 ·have:m / Nat.gcd m n * n=n / Nat.gcd m n * m:=by
   obtain ⟨a,ha⟩:=Nat.gcd_dvd_left m n;obtain ⟨b,hb⟩:=Nat.gcd_dvd_right m n;generalize Nat.gcd m n=g at *;subst ha hb;rw [Nat.mul_div_cancel_left a hg,Nat.mul_div_cancel_left b hg,Nat.mul_comm a (g * b),Nat.mul_comm b (g * a),Nat.mul_assoc,Nat.mul_assoc,Nat.mul_comm a b]
  rw [← Int.natCast_mul,← Int.natCast_mul,this]
 ·have:=Nat.div_pos (Nat.le_of_dvd (by omega) (Nat.gcd_dvd_left m n)) hg
  generalize m / Nat.gcd m n=q at this ⊢;omega
 ·unfold gcI;rw [Int.toNat_natCast,Int.toNat_natCast,Nat.gcd_div (Nat.gcd_dvd_left m n) (Nat.gcd_dvd_right m n),Nat.div_self hg];rfl
noncomputable def yWG (a b:Int):OrS:=orS [(10,o_cr [] (.v (.b true))),(14,o_rd),(21,o_ra),(22,o_dv)] []
noncomputable def yQZ (a b:Int):List (List Nat × uY):=[]
set_option maxRecDepth 100000 in
theorem yWV (a b:Int):zXX Tf (yWG a b) (yW (yQZ a b)) 60 6 [.n .i64 a,.n .i64 b] =
 (bif (gF1 crd erd (a,20000)) then (bif (gF1 crd erd (b,20000)) then (bif (gF1 cra era ((vYK .i64 ((rdI a 20000) + (rdI b 20000))),(rdI a 20000))) then (bif (decide ((vYK .i64 ((rdI a 20000) + (rdI b 20000)))=0)) then (bif (g1 []) then (bif (decide ((raN (vYK .i64 ((rdI a 20000) + (rdI b 20000))) (rdI a 20000))=1)) then (bif (decide ((raD (vYK .i64 ((rdI a 20000) + (rdI b 20000))) (rdI a 20000))=1)) then some (.v (.b true),[])
 else some (.v (.b false),[]))
 else some (.v (.b false),[]))
 else none)
 else (bif (g1 []) then (bif (decide ((vYK .i64 ((raN (vYK .i64 ((rdI a 20000) + (rdI b 20000))) (rdI a 20000)) * (rdI a 20000)))=(vYK .i64 ((raD (vYK .i64 ((rdI a 20000) + (rdI b 20000))) (rdI a 20000)) * (vYK .i64 ((rdI a 20000) + (rdI b 20000))))))) then (bif (decide (0 < (raN (vYK .i64 ((rdI a 20000) + (rdI b 20000))) (rdI a 20000)))) then (bif (gF1 cdv edv ((raN (vYK .i64 ((rdI a 20000) + (rdI b 20000))) (rdI a 20000)),(raD (vYK .i64 ((rdI a 20000) + (rdI b 20000))) (rdI a 20000)))) then (bif (decide ((gcI (raN (vYK .i64 ((rdI a 20000) + (rdI b 20000))) (rdI a 20000)) (raD (vYK .i64 ((rdI a 20000) + (rdI b 20000))) (rdI a 20000)))=1)) then some (.v (.b true),[])
 else some (.v (.b false),[]))
 else none)
 else some (.v (.b false),[]))
 else some (.v (.b false),[]))
 else none))
 else none)
 else none)
 else none):=by kernel_rfl
theorem snd_lrd (a b:Int):qZA Try.prog 6 [.n .i64 a,.n .i64 b] (.v (.b true)):=by
 refine qQX (N:=60) (LO:=yW (yQZ a b)) zYV qQB (zYE (l:=[(10,o_cr [] (.v (.b true))),(14,o_rd),(21,o_ra),(22,o_dv)]) (m:=[]) ⟨yWD,yWH,yWA,yWB,trivial⟩ trivial) (fun p S hp => ?_) ?_
 ·refine uH (L:=zK Tf 6) (l:=(yQZ a b)) (show AllP _ (yQZ a b) from trivial) p S hp
 ·refine (yWV a b).trans ?_;simp only [g1_t,yQU (C:=crd) (t:=(a,20000)) (show (20000:Int) ≠ 0 by decide),yQU (C:=crd) (t:=(b,20000)) (show (20000:Int) ≠ 0 by decide),yQU (C:=cra) (t:=_) trivial,vZG];have ha:=yQE (n:=a) (k:=20000) (by decide) (by decide);have hb:=yQE (n:=b) (k:=20000) (by decide) (by decide);generalize rdI a 20000=x at *;generalize rdI b 20000=y at *;rw [zJQ (show -9223372036854775808≤x + y∧x + y≤9223372036854775807 by omega)];by_cases h0:x + y=0
  ·obtain rfl:x=0:=by omega
   obtain rfl:y=0:=by omega
   rfl
  ·obtain ⟨q1,q2,q3,q4⟩:=yKD (c:=x + y) (l:=x) (by omega) (by omega) ha.1 (by omega);simp only [vYQ h0,vYZ q1,vYZ q2,vYZ q4,yQU (C:=cdv) (t:=(raN (x + y) x,raD (x + y) x)) ⟨by omega,q3⟩,vZG,vZH]
end Go.Proofs.Ytglkkhpdbfacfaa.Ba
namespace Go.Proofs.Ytglkkhpdbfacfaa
open Go.Rx Go.Sx Go.RowKit
theorem qWK (a0:Int) (a1:Int) (W:World)  : Calls Try.prog 6 #[.int .i64 a0,.int .i64 a1] W (Rets (.bool true) W) :=
 qGA (Ba.snd_lrd a0 a1) rfl (qUI (.n _ _) (qUI (.n _ _) zGZ))
end Go.Proofs.Ytglkkhpdbfacfaa

/- Part 19 of the texts behind the last one: rules and contracts. No condition. -/
import Derived.Test.YtklmegnpfhiibaaGreatBU18
open Option renaming bind_eq_some_iff → vQQ, bind_some → vZV
open Option.some renaming injEq → vQZ
open Prod.mk renaming injEq → vQY
open Bool renaming and_eq_true → vQJ, and_self → vZQ, true_and → vZW
open List renaming length_cons → vQX
open Nat renaming eq_of_beq_eq_true → vQU, le_of_ble_eq_true → vZJ
open Classical renaming propDecidable → vYQ
open Go.IntKind renaming wrap → vYV
namespace Go.Rx
open Go.RowKit Go.Sx
abbrev Ev:=Nat→Op→List RV→(Eff→Option (Ret × Mem))→Option (Ret × Mem)
def EvOk (C:Cx) (ev:Ev):Prop:=∀ dst op vs K r,ev dst op vs K=some r→∃ e,qG C.T C.cA C.cB C.me dst op vs=some e∧K e=some r
def goE (C:Cx) (ev:Ev) (o:Oper) (σ:St) (K:Eff × List RV→Option (Ret × Mem)):Option (Ret × Mem) :=
 bif dstB C.n o.dst then
  (mapO (opv (mode o.op) σ) o.op.operands.toList).bind fun vs=>ev (o.dst.getD 0) o.op vs fun e =>
   bif e.nw.all (fun id=>(zZ σ.M id).isNone && Nat.blt id 2000000) then K (e,vs) else none
 else none
def yQW (C:Cx) (ev:Ev) (ops:Array Oper) (o:Oper) (σ:St) (K:Eff × List RV→Option (Ret × Mem)):Option (Ret × Mem) :=
 match o.guard with
 | none=>goE C ev o σ K
 | some (j,b)=>match (ops[j]?).bind (·.dst) with
  | some d=>match uJ σ.S d with
   | some (.v (.b c))=>(match b with
    | true=>bif c then goE C ev o σ K else zUG C o K
    | false=>bif c then zUG C o K else goE C ev o σ K)
   | some (.v (.t []))=>zUG C o K
   | _=>none
  | none=>none
def zJL (C:Cx) (ev:Ev) (ops:Array Oper):List Oper→(St→Option (Ret × Mem))→St→Option (Ret × Mem)
 | [],K,σ=>K σ
 | o :: l,K,σ=>yQW C ev ops o σ fun r=>zJL C ev ops l K (σ.apply r.1 o.dst)
def qGY (C:Cx) (ev:Ev) (ops:Array Oper):Nat→List Oper→List Done→(St→Option (Ret × Mem))→St→Option (Ret × Mem)
 | _,[],acc,K,σ=>bif zQY ops acc.reverse && Sx.backB ops then K σ else none
 | i,o :: l,acc,K,σ=>yQW C ev ops o σ fun r=>qGY C ev ops (i + 1) l ((i,r) :: acc) K (σ.apply r.1 o.dst)
def qHV (N:Nat) (C:Cx) (ev:Ev) (LO:List Nat→Option yW):Code→List Nat→Cont→St→Option (Ret × Mem)
 | .skip,_,K,σ=>K .normal σ
 | .label _,_,K,σ=>K .normal σ
 | .scope x,p,K,σ=>qHV N C ev LO x (0 :: p) K σ
 | .ret,_,K,σ=>K .ret σ
 | .exit id,_,K,σ=>K (.exit id) σ
 | .region id ops d,_,K,σ=>preK C id (fun σ=>bif d then qGY C ev ops 0 ops.toList [] (K .normal) σ else zJL C ev ops ops.toList (K .normal) σ) σ
 | .seq x y,p,K,σ=>qHV N C ev LO x (0 :: p) (fun e σ=>match e with
   | .normal=>qHV N C ev LO y (1 :: p) K σ
   | e=>K e σ) σ
 | .cond c x y,p,K,σ=>(opv 1 σ c).bind fun v=>match v with
   | .v (.b t)=>bif t then qHV N C ev LO x (0 :: p) K σ else qHV N C ev LO y (1 :: p) K σ
   | _=>none
 | .block id x,p,K,σ=>qHV N C ev LO x (0 :: p) (fun e σ=>match e with
   | .exit id'=>bif Nat.beq id' id then K .normal σ else K (.exit id') σ
   | e=>K e σ) σ
 | .loop x,p,K,σ=>match LO p with
   | some S=>S (qYQ (C.T.hint C.me (zJ x)) σ) K
   | none=>qVQ (fun again σ=>qHV N C ev LO x (0 :: p) (fun e σ=>match e with
     | .normal=>again σ
     | e=>K e (qZJ (C.T.hint C.me (zJ x)) σ)) (qYQ (C.T.hint C.me (zJ x)) σ)) N σ
 | _,_,_,_=>none
section
variable {C:Cx} {ev:Ev} {ops:Array Oper} {r:Ret × Mem} {K0:Ret × Mem→Option (Ret × Mem)}
theorem zKE {o:Oper} {σ:St} {K:Eff × List RV→Option (Ret × Mem)} (hc:EvOk C ev) (hg:uG ops σ o=some true) (h:goE C ev o σ K=some r):∃ x,qJV C ops o σ=some x∧K x=some r:=by
 unfold goE at h;obtain ⟨hd,h⟩:=qZ h;rw [vQQ] at h;obtain ⟨vs,hvs,h⟩:=h;obtain ⟨e,he,h⟩:=hc _ _ _ _ _ h;obtain ⟨hn,h⟩:=qZ h;exact ⟨(e,vs),qVF hd (.inr ⟨hg,hvs,he,fun i hi=>zZX (List.all_eq_true.1 hn i hi)⟩),h⟩
theorem stepE_some {o:Oper} {σ:St} {K:Eff × List RV→Option (Ret × Mem)} (hc:EvOk C ev) (h:yQW C ev ops o σ K=some r):∃ x,qJV C ops o σ=some x∧K x=some r:=by
 unfold yQW at h;cases hg:o.guard with
 | none=>rw [hg] at h; exact zKE hc (by unfold uG; rw [hg]) h
 | some gb =>
  obtain ⟨j,b⟩:=gb;rw [hg] at h;simp only at h;split at h
  ·rename_i d hd;split at h
   ·rename_i c hlc;have gd:uG ops σ o=some (c == b):=by
     unfold uG;rw [hg];simp only [hd,hlc]
    cases b <;> cases c <;> simp only [vYY,vYJ] at h
    ·exact zKE hc gd h
    ·exact qKX gd h
    ·exact qKX gd h
    ·exact zKE hc gd h
   ·rename_i hlc;exact qKX (by unfold uG; rw [hg]; simp only [hd,hlc]) h
   ·cases h
  ·cases h
theorem runOpsE_some (hc:EvOk C ev) {K K':St→Option (Ret × Mem)} (hK:∀ σ,K σ=some r→Gets K0 r (K' σ)):∀ (l:List Oper) (σ:St),zJL C ev ops l K σ=some r→Gets K0 r (qXI C ops l K' σ)
 | [],σ,h=>hK σ h
 | o :: l,σ,h=>by
  simp only [zJL] at h;obtain ⟨x,hx,h⟩:=stepE_some hc h;simp only [qXI,hx,vZV];exact runOpsE_some hc hK l _ h
theorem runDrawE_some (hc:EvOk C ev) {K K':St→Option (Ret × Mem)} (hK:∀ σ,K σ=some r→Gets K0 r (K' σ)):∀ (l:List Oper) (i:Nat) (acc:List Done) (σ:St),qGY C ev ops i l acc K σ=some r→Gets K0 r (qZL C ops i l acc K' σ)
 | [],i,acc,σ,h=>by
  simp only [qGY] at h;obtain ⟨hp,h⟩:=qZ h;simp only [qZL,hp,vYY];exact hK σ h
 | o :: l,i,acc,σ,h=>by
  simp only [qGY] at h;obtain ⟨x,hx,h⟩:=stepE_some hc h;simp only [qZL,hx,vZV];exact runDrawE_some hc hK l _ _ _ h
theorem qQL {N:Nat} {LO:List Nat→Option yW} {B:Code} (hc:EvOk C ev) (hL:∀ p S,LO p=some S→uV N C (qQK 0 (kJ B p)) S):∀ (c:Code) (p:List Nat) {K K':Cont} (hp:kJ B p=c) (hK:∀ e σ,K e σ=some r→Gets K0 r (K' e σ)) (σ:St),qHV N C ev LO c p K σ=some r→Gets K0 r (runC N C c K' σ)
 | .skip,p,K,K',hp,hK,σ,h=>hK _ _ h
 | .label _,p,K,K',hp,hK,σ,h=>hK _ _ h
 | .scope x,p,K,K',hp,hK,σ,h=>qQL hc hL x (0 :: p) (by simp only [kJ,hp,qQK]) hK σ h
 | .ret,p,K,K',hp,hK,σ,h=>hK _ _ h
 | .exit id,p,K,K',hp,hK,σ,h=>hK _ _ h
 | .region id ops d,p,K,K',hp,hK,σ,h=>by
  have h:=preK_eq.symm.trans h;refine Eq.mpr (congrArg (Gets K0 r) (preK_eq (F:=fun σ=>bif d then qZL C ops 0 ops.toList [] (K' .normal) σ else qXI C ops ops.toList (K' .normal) σ))) ?_;cases d with
  | true=>exact runDrawE_some hc (hK .normal) _ _ _ _ h
  | false=>exact runOpsE_some hc (hK .normal) _ _ h
 | .seq x y,p,K,K',hp,hK,σ,h=>by
  refine qQL hc hL x (0 :: p) (by simp only [kJ,hp,qQK]) (fun e τ hk => ?_) σ h;cases e with
  | normal=>exact qQL hc hL y (1 :: p) (by simp only [kJ,hp,qQK]) hK τ hk
  | _=>exact hK _ _ hk
 | .cond c x y,p,K,K',hp,hK,σ,h=>by
  simp only [qHV,vQQ] at h;obtain ⟨v,hv,h⟩:=h;simp only [runC,hv,vZV];split at h
  ·rename_i t;cases t with
   | true=>exact qQL hc hL x (0 :: p) (by simp only [kJ,hp,qQK]) hK σ h
   | false=>exact qQL hc hL y (1 :: p) (by simp only [kJ,hp,qQK]) hK σ h
  ·cases h
 | .block id x,p,K,K',hp,hK,σ,h=>by
  refine qQL hc hL x (0 :: p) (by simp only [kJ,hp,qQK]) (fun e τ hk => ?_) σ h;cases e with
  | exit id' =>
   simp only at hk ⊢;cases hb:Nat.beq id' id with
   | true=>rw [hb] at hk; exact hK _ _ hk
   | false=>rw [hb] at hk; exact hK _ _ hk
  | _=>exact hK _ _ hk
 | .loop x,p,K,K',hp,hK,σ,h=>by
  simp only [qHV] at h;simp only [runC];cases hS:LO p with
  | none =>
   rw [hS] at h;refine qXZ (fun a a' ha τ hs => ?_) N σ h;refine qQL hc hL x (0 :: p) (by simp only [kJ,hp,qQK]) (fun e υ hk => ?_) _ hs;cases e with
   | normal=>exact ha _ hk
   | _=>exact hK _ _ hk
  | some S =>
   rw [hS] at h
   have:=hL p S hS
   rw [hp] at this;exact this K K' K0 σ r hK h
 | .rangeFunc ..,p,K,K',hp,hK,σ,h=>by cases h
 | .goto _,p,K,K',hp,hK,σ,h=>by cases h
 | .refuse _,p,K,K',hp,hK,σ,h=>by cases h
end
def yYG (N:Nat) (C:Cx) (ev:Ev) (LO:List Nat→Option yW) (x:Code) (p:List Nat) (h:Hint) (K:Cont) (G:St→Option (Ret × Mem)) (σ:St):Option (Ret × Mem):=qHV N C ev LO x (0 :: p) (fun e τ=>match e with
 | .normal=>G (qYQ h τ)
 | e=>K e (qZJ h τ)) σ
def LFX (N:Nat) (C:Cx) (ev:Ev) (LO:List Nat→Option yW) (x:Code) (p:List Nat) (h:Hint) (K:Cont):Nat→St→Option (Ret × Mem)
 | 0,_=>none
 | n + 1,σ=>yYG N C ev LO x p h K (LFX N C ev LO x p h K n) σ
theorem LFX_get {N:Nat} {C:Cx} {ev:Ev} {LO:List Nat→Option yW} {B x:Code} {p:List Nat} {K K':Cont} {K0:Ret × Mem→Option (Ret × Mem)} {r:Ret × Mem} (hc:EvOk C ev) (hL:∀ p S,LO p=some S→uV N C (qQK 0 (kJ B p)) S) (hx:kJ B (0 :: p)=x)
  (hK:∀ e τ,K e τ=some r→Gets K0 r (K' e τ)):∀ (n:Nat) (σ:St),LFX N C ev LO x p (C.T.hint C.me (zJ x)) K n (qYQ (C.T.hint C.me (zJ x)) σ)=some r→Gets K0 r (qVQ (fun again σ=>runC N C x (fun e σ=>match e with
   | .normal=>again σ
   | e=>K' e (qZJ (C.T.hint C.me (zJ x)) σ)) (qYQ (C.T.hint C.me (zJ x)) σ)) n σ)
 | 0,σ,h=>by cases h
 | n + 1,σ,h=>by
  simp only [LFX,yYG] at h;simp only [qVQ];refine qQL hc hL x (0 :: p) hx (fun e τ hk => ?_) _ h;cases e with
  | normal=>exact LFX_get hc hL hx hK n τ hk
  | _=>exact hK _ _ hk
theorem loopX_of {N:Nat} {C:Cx} {ev:Ev} {LO:List Nat→Option yW} {B x:Code} {p:List Nat} {S:yW} (hc:EvOk C ev) (hL:∀ p S,LO p=some S→uV N C (qQK 0 (kJ B p)) S) (hx:kJ B (0 :: p)=x)
  (hS:∀ K σ r,S σ K=some r→LFX N C ev LO x p (C.T.hint C.me (zJ x)) K N σ=some r):uV N C x S:=fun K _ _ σ r hK h =>
 LFX_get hc hL hx hK N σ (hS K _ r h)
abbrev zQV:=Nat→List HV→List PV→(PV × List PV→Option (Ret × Mem))→Option (Ret × Mem)
def zUV (r:PV × List PV) (K:PV × List PV→Option (Ret × Mem)):Option (Ret × Mem):=match r with
 | (.b c,ps)=>bif c then K (.b true,ps) else K (.b false,ps)
 | r=>K r
theorem qVL (r:PV × List PV) (K:PV × List PV→Option (Ret × Mem)):zUV r K=K r:=by
 unfold zUV;split
 ·rename_i c ps; cases c <;> rfl
 ·rfl
def callEffBK (cBK:zQV) (f:Nat) (args:List RV) (K:Eff→Option (Ret × Mem)):Option (Ret × Mem) :=
 (zKL args).bind fun p=>(mapO CV.pv p.2).bind fun ps=>(mapO (RV.toB p.1) args).bind fun hs=>cBK f hs ps fun r=>zUV r fun r =>
  bif Nat.beq p.1 pid2 then none else K (Eff.and (.set p.1 (.blk (r.2.map PV.toH)) (.v r.1)) (catR RV.regs args))
def qGL (cBK:zQV) (f:Nat) (args:List RV) (K:Eff→Option (Ret × Mem)):Option (Ret × Mem) :=
 (zKL args).bind fun p=>match p.2 with
  | [.o m e sz rows]=>(mapO (RV.toB p.1) args).bind fun hs=>cBK f hs [.gs e sz rows.pv] fun r=>zUV r fun r=>match r.2 with
   | [.gs e2 sz2 y]=>y.rowsO.bind fun zQG=>bif Nat.beq sz2 sz && (catR RV.regs args).isEmpty && !(Nat.beq p.1 m) && r.1.flat then K ⟨[(m,some (.reg e2 sz2 zQG))],[],.v r.1,[]⟩ else none
   | _=>none
  | _=>none
def qHQ (cBK:zQV) (dst f:Nat) (args:List RV) (K:Eff→Option (Ret × Mem)):Option (Ret × Mem) :=
 (zKL args).bind fun p=>(mapO CV.pvq p.2).bind fun ps=>(mapO (RV.toB p.1) args).bind fun hs=>cBK f hs ps fun r=>zUV r fun r =>
  (gEnt (qWZ r.2)).bind fun ent=>bif oneG ps && oneG r.2 && (catR RV.regs args).isEmpty && !(Nat.beq p.1 ((qWQ p.2).getD (100000 + dst))) && r.1.flat && !(Nat.beq p.1 pid2) then
   K ⟨[(p.1,some (.blk (r.2.map (PV.toQ ((qWQ p.2).getD (100000 + dst)))))),((qWQ p.2).getD (100000 + dst),ent)],[((qWQ p.2).getD (100000 + dst),none)],.v r.1,match qWQ p.2 with | some _=>[] | none=>[100000 + dst]⟩ else none
def yJC (C:Cx) (cBK:zQV):Prop:=∀ f hs ps K r,cBK f hs ps K=some r→∃ x,C.cB f hs ps=some x∧K x=some r
def selC:List PV→Int→PV
 | [],_=>.ni
 | [x],_=>x
 | x :: y :: l,i=>zQK (decide (i=0)) x (selC (y :: l) (i - 1))
theorem selC_eq:∀ (l:List PV) (i:Int),0≤i→i.toNat < l.length→l[i.toNat]? = some (selC l i)
 | [],i,_,h=>by simp at h
 | [x],i,h0,h=>by
  have:i.toNat=0:=by simp at h; omega
  rw [this]; rfl
 | x :: y :: l,i,h0,h=>by
  rw [selC];by_cases e:i=0
  ·subst e; rw [vYU rfl,zZJ]; rfl
  ·rw [vYK e,zZK,show i.toNat=(i - 1).toNat + 1 by omega,List.getElem?_cons_succ];exact selC_eq (y :: l) (i - 1) (by omega) (by simp only [vQX] at h ⊢; omega)
def evS (C:Cx) (cK:qYV) (cBK:zQV):Ev:=fun dst op vs K=>match op,vs with
 | .call ⟨.value fx,axs,ats⟩,.v (.f f first cap) :: vs=>bif C.T.rw f then (bif C.T.gk f then qGL cBK f (first.map .v ++ vs ++ cap.map .v) K else bif C.T.gq f then qHQ cBK dst f (first.map .v ++ vs ++ cap.map .v) K else callEffBK cBK f (first.map .v ++ vs ++ cap.map .v) K) else zWL C cK dst (.call ⟨.value fx,axs,ats⟩) (.v (.f f first cap) :: vs) K
 | .call ⟨.value fx,axs,ats⟩,.g f first cap :: vs=>bif C.T.rw f && C.T.gk f then qGL cBK f (first.map .v ++ vs ++ cap.map fun c=>match c with | .v x=>.v x | .p id off cells=>.p id off cells) K else bif C.T.rw f && C.T.gq f then qHQ cBK dst f (first.map .v ++ vs ++ cap.map fun c=>match c with | .v x=>.v x | .p id off cells=>.p id off cells) K else zWL C cK dst (.call ⟨.value fx,axs,ats⟩) (.g f first cap :: vs) K
 | .index t a b,[.v (.a cs),.v (.n k i)]=>(C.T.ar t).bind fun q=>bif q.2.2 then zWL C cK dst (.index t a b) [.v (.a cs),.v (.n k i)] K else bif inB i q.1 && Nat.ble q.1 cs.length then K (.val (selC cs i).toH) else none
 | .slice t a lo hi none,.v (.s s) :: vs=>(zJX lo hi vs).bind fun b=>bif C.T.str t then (bif inS b.1 b.2 s.size then K (.val (.v (.s (s.extract (loOf b.1) (hiOf b.2 s.size))))) else none) else none
 | op,vs=>zWL C cK dst op vs K
theorem callEffWK_ok {C:Cx} {cBK:zQV} (hb:yJC C cBK) {f:Nat} {args:List RV} {K:Eff→Option (Ret × Mem)} {r:Ret × Mem} (h:qGL cBK f args K=some r):∃ e,qUH C.cB f args=some e∧K e=some r:=by
 unfold qGL at h;simp only [vQQ] at h;obtain ⟨p,hp,h⟩:=h;split at h
 ·rename_i m e sz rows hcs;simp only [vQQ] at h;obtain ⟨hs,hhs,h⟩:=h;obtain ⟨x,hx,h⟩:=hb _ _ _ _ _ h;rw [qVL] at h;split at h
  ·rename_i e2 sz2 y hps;simp only [vQQ] at h;obtain ⟨zQG,hr2,h⟩:=h;obtain ⟨h1,h⟩:=qZ h;refine ⟨_,?_,h⟩;unfold qUH;simp only [hp,hcs,hhs,hx,hps,hr2,vZV,h1,vYY]
  ·cases h
 ·cases h
theorem evS_ok {C:Cx} {cK:qYV} {cBK:zQV} (hc:SndK C cK) (hb:yJC C cBK):EvOk C (evS C cK cBK):=fun dst op vs K r h=>by
 unfold evS at h;split at h
 ·rename_i fx axs ats f first cap vs
  cases hrw:C.T.rw f with
  | false =>
   rw [hrw,vYJ] at h;exact qXX hc h
  | true =>
   rw [hrw,vYY] at h;cases hgk:C.T.gk f with
   | true =>
    rw [hgk,vYY] at h;obtain ⟨e,h1,h2⟩:=callEffWK_ok hb h;exact ⟨e,by simp only [qG,hrw,hgk,vYY]; exact h1,h2⟩
   | false =>
   rw [hgk,vYJ] at h;cases hgq:C.T.gq f with
   | false =>
    rw [hgq,vYJ] at h;simp only [callEffBK,vQQ] at h;obtain ⟨p,hp,ps,hps,hs,hhs,h⟩:=h;obtain ⟨x,hx,h⟩:=hb _ _ _ _ _ h;rw [qVL] at h;cases hp2:Nat.beq p.1 pid2 with
    | true=>rw [hp2] at h; cases h
    | false =>
    rw [hp2,vYJ] at h;exact ⟨_,by simp only [qG,hrw,hgk,hgq,vYY,vYJ,zZW,hp,hps,hhs,hx,hp2,vZV],h⟩
   | true =>
    rw [hgq,vYY] at h;simp only [qHQ,vQQ] at h;obtain ⟨p,hp,ps,hps,hs,hhs,h⟩:=h;obtain ⟨x,hx,h⟩:=hb _ _ _ _ _ h;rw [qVL] at h;simp only [vQQ] at h;obtain ⟨ent,hent,h⟩:=h;obtain ⟨h1,h⟩:=qZ h;refine ⟨_,?_,h⟩;simp only [qG,hrw,hgk,hgq,vYY,vYJ];unfold qXE;simp only [hp,hps,hhs,hx,hent,vZV];rw [h1];rfl
 ·rename_i fx axs ats f first cap vs
  cases hrk:C.T.rw f && C.T.gk f with
  | true =>
   rw [hrk,vYY] at h;rw [vQJ] at hrk;obtain ⟨e,h1,h2⟩:=callEffWK_ok hb h;refine ⟨e,?_,h2⟩;show (bif C.T.rw f then (bif C.T.gk f then qUH C.cB f (first.map .v ++ vs ++ cap.map fun c=>match c with | .v x=>.v x | .p id off cells=>.p id off cells) else _) else _)=some _;rw [hrk.1,hrk.2,vYY,vYY];exact h1
  | false =>
  rw [hrk,vYJ] at h;cases hrw:C.T.rw f && C.T.gq f with
  | false =>
   rw [hrw,vYJ] at h;exact qXX hc h
  | true =>
   rw [hrw,vYY] at h;rw [vQJ] at hrw;rw [hrw.1,vZW] at hrk;simp only [qHQ,vQQ] at h;obtain ⟨p,hp,ps,hps,hs,hhs,h⟩:=h;obtain ⟨x,hx,h⟩:=hb _ _ _ _ _ h;rw [qVL] at h;simp only [vQQ] at h;obtain ⟨ent,hent,h⟩:=h;obtain ⟨h1,h⟩:=qZ h;refine ⟨_,?_,h⟩;show (bif C.T.rw f then (bif C.T.gk f then qUH C.cB f (first.map .v ++ vs ++ cap.map fun c=>match c with | .v x=>.v x | .p id off cells=>.p id off cells) else bif C.T.gq f then qXE C.cB dst f (first.map .v ++ vs ++ cap.map fun c=>match c with | .v x=>.v x | .p id off cells=>.p id off cells) else none) else qHL C.T C.cA C.me dst f (first.map .v ++ vs ++ cap.map fun c=>match c with | .v x=>.v x | .p id off cells=>.p id off cells))=some _;rw [hrw.1,hrk,hrw.2,vYY,vYJ,vYY];unfold qXE;simp only [hp,hps,hhs,hx,hent,vZV];rw [h1];rfl
 ·rename_i t a b cs k i;simp only [vQQ] at h;obtain ⟨q,hq,h⟩:=h;cases h2:q.2.2 with
  | true=>rw [h2,vYY] at h; exact qXX hc h
  | false =>
   rw [h2,vYJ] at h;obtain ⟨hi,h⟩:=qZ h;rw [vQJ] at hi;obtain ⟨i0,i1⟩:=qKK hi.1;have hl:=vZJ hi.2;exact ⟨_,by simp only [qG,hq,vZV,hi.1,h2,vYY,vYJ,selC_eq cs i i0 (by omega)],h⟩
 ·rename_i t a lo hi s vs;simp only [vQQ] at h;obtain ⟨b,hbd,h⟩:=h;obtain ⟨h1,h⟩:=qZ h;obtain ⟨h2,h⟩:=qZ h;exact ⟨_,by simp only [qG,hbd,vZV,h1,h2,vZQ,vYY],h⟩
 ·exact qXX hc h
abbrev OrB:=Nat→Option (List HV→List PV→Option (Bool × (PV × List PV)))
structure OrS where
 a:OrK
 b:OrB
def OrS.orc (o:OrS):Orc:=⟨o.a.orc.a,fun g=>(o.b g).bind fun f=>some fun hs ps=>(f hs ps).bind fun x=>bif x.1 then some x.2 else none⟩
structure OrS.Ok (P:Program) (T:Tab) (o:OrS):Prop where
 a:o.a.Ok P
 b:∀ g f,o.b g=some f→∀ hs ps x ps',f hs ps=some (true,(x,ps'))→yYU P g hs ps x ps' (T.gq g) (T.gk g)
theorem OrS.Ok.orc {P:Program} {T:Tab} {o:OrS} (h:o.Ok P T):OrcOk P T o.orc:=by
 refine ⟨(h.a.orc (T:=T)).a,fun g f ho hs ps x ps' hr => ?_⟩;simp only [OrS.orc,vQQ,vQZ] at ho;obtain ⟨q,hq,rfl⟩:=ho;simp only [vQQ] at hr;obtain ⟨y,hy,hr⟩:=hr;obtain ⟨h1,hr⟩:=qZ hr;obtain ⟨y1,y2⟩:=y;cases hr;exact h.b g q hq hs ps x ps' (by rw [hy,← h1])
def cxS (T:Tab) (o:OrS) (N f n:Nat):Cx:=⟨T,qJD o.orc (runF T o.orc N),qJZ T o.orc (runF T o.orc N),f,n⟩
def zGQ (T:Tab) (o:OrS):Nat→Nat→List HV→Mem→(Ret × Mem→Option (Ret × Mem))→Option (Ret × Mem)
 | 0,_,_,_,_=>none
 | N + 1,f,hs,M,K=>match T.fn f with
  | none=>none
  | some fi=>bif Nat.ble hs.length fi.ntmps then qHV N (cxS T o N f fi.ntmps) (evS (cxS T o N f fi.ntmps)
    (zQW o.a fun g ps K=>zGQ T o N g (ps.map .v) [] fun r=>K r.1)
    (fun g hs ps K=>match o.b g with
     | some q=>(q hs ps).bind fun x=>bif x.1 then K x.2 else none
     | none=>bif T.gk g then none else zGQ T o N g hs (memB (T.gq g) ps) fun r=>(qKI (T.gq g) r.2).bind fun ps'=>(zGK r.1).bind fun x=>(zWI (T.gq g) x).bind fun x=>K (x,ps')))
    (fun _=>none) fi.body [] (fun e σ=>(endK T M fi.results e σ).bind K) ⟨initS 0 hs,M⟩ else none
def ckS (T:Tab) (o:OrS) (N:Nat):qYV:=zQW o.a fun g ps K=>zGQ T o N g (ps.map .v) [] fun r=>K r.1
def cbS (T:Tab) (o:OrS) (N:Nat):zQV:=fun g hs ps K=>match o.b g with
 | some q=>(q hs ps).bind fun x=>bif x.1 then K x.2 else none
 | none=>bif T.gk g then none else zGQ T o N g hs (memB (T.gq g) ps) fun r=>(qKI (T.gq g) r.2).bind fun ps'=>(zGK r.1).bind fun x=>(zWI (T.gq g) x).bind fun x=>K (x,ps')
def evX (T:Tab) (o:OrS) (N f n:Nat):Ev:=evS (cxS T o N f n) (ckS T o N) (cbS T o N)
section
variable {T:Tab} {o:OrS}
def FSnd (T:Tab) (o:OrS) (N:Nat):Prop:=∀ (f:Nat) (hs:List HV) (M:Mem) (K:Ret × Mem→Option (Ret × Mem)) (r:Ret × Mem),zGQ T o N f hs M K=some r→∃ x,runF T o.orc N f hs M=some x∧K x=some r
theorem ckS_ok {N f n:Nat} (h:FSnd T o N):SndK (cxS T o N f n) (ckS T o N):=fun g qs K' r' hk=>by
 unfold ckS zQW at hk;show ∃ x,qJD o.orc (runF T o.orc N) g qs=some x∧K' x=some r';unfold qJD;cases ho:o.a g with
 | some q =>
  rw [ho] at hk;simp only [vQQ] at hk;obtain ⟨x,hx,hk⟩:=hk;obtain ⟨h1,hk⟩:=qZ hk;exact ⟨x.2,by simp only [OrS.orc,OrK.orc,ho,hx,vZV,h1,vYY],hk⟩
 | none =>
  rw [ho] at hk;obtain ⟨x,hx,hk⟩:=h g _ _ _ r' hk;have e:o.orc.a g=none:=by simp only [OrS.orc,OrK.orc,ho,Option.bind_none]
  exact ⟨x.1,by simp only [e,hx,vZV],hk⟩
theorem cbS_ok {N f n:Nat} (h:FSnd T o N):yJC (cxS T o N f n) (cbS T o N):=fun g hs ps K' r' hk=>by
 unfold cbS at hk;show ∃ x,qJZ T o.orc (runF T o.orc N) g hs ps=some x∧K' x=some r';unfold qJZ;cases ho:o.b g with
 | some q =>
  rw [ho] at hk;simp only [vQQ] at hk;obtain ⟨x,hx,hk⟩:=hk;obtain ⟨h1,hk⟩:=qZ hk;exact ⟨x.2,by simp only [OrS.orc,ho,hx,vZV,h1,vYY],hk⟩
 | none =>
  rw [ho] at hk;cases hgk:T.gk g with
  | true=>rw [hgk] at hk; cases hk
  | false =>
  simp only [hgk,vYJ] at hk;obtain ⟨x,hx,hk⟩:=h g _ _ _ r' hk;simp only [vQQ] at hk;obtain ⟨ps',h1,y,h2,z,h3,hk⟩:=hk;have e:o.orc.b g=none:=by simp only [OrS.orc,ho,Option.bind_none]
  exact ⟨(z,ps'),by simp only [e,hgk,vYJ,hx,vZV,h1,h2,h3],hk⟩
theorem yQY {N f n:Nat} (h:FSnd T o N):EvOk (cxS T o N f n) (evX T o N f n):=evS_ok (ckS_ok h) (cbS_ok h)
theorem qHX:∀ N,FSnd T o N
 | 0,f,hs,M,K,r,h=>by cases h
 | N + 1,f,hs,M,K,r,h=>by
  simp only [zGQ] at h;split at h
  ·cases h
  ·rename_i fi hfi;obtain ⟨hb,h⟩:=qZ h;have ih:FSnd T o N:=qHX N;obtain ⟨q,h1,h2⟩:=qQL (K0:=K) (K':=endK T M fi.results) (B:=fi.body) (LO:=fun _=>none) (yQY (f:=f) (n:=fi.ntmps) ih) (fun p S hp=>by cases hp) fi.body [] rfl (fun e σ hk=>by
    simp only [vQQ] at hk;exact hk) _ h
   refine ⟨q,?_,h2⟩;simp only [runF,hfi,hb,vYY];exact h1
def yQV (T:Tab) (o:OrS) (LO:List Nat→Option yW) (N f:Nat) (hs:List HV) (M:Mem) (K:Ret × Mem→Option (Ret × Mem)):Option (Ret × Mem):=match T.fn f with
 | none=>none
 | some fi=>bif Nat.ble hs.length fi.ntmps then qHV N (cxS T o N f (ntmF T f)) (evX T o N f (ntmF T f)) LO (qWH T f) [] (fun e σ=>(endK T M fi.results e σ).bind K) ⟨initS 0 hs,M⟩ else none
theorem runXL_some {LO:List Nat→Option yW} {N f:Nat} {hs:List HV} {M:Mem} {K:Ret × Mem→Option (Ret × Mem)} {r:Ret × Mem} (hL:∀ p S,LO p=some S→uV N (cxS T o N f (ntmF T f)) (qY T f p) S) (h:yQV T o LO N f hs M K=some r):∃ x,runF T o.orc (N + 1) f hs M=some x∧K x=some r:=by
 unfold yQV at h;split at h
 ·cases h
 ·rename_i fi hfi;obtain ⟨hb,h⟩:=qZ h;obtain ⟨q,h1,h2⟩:=qQL (K0:=K) (K':=endK T M fi.results) (B:=qWH T f) (yQY (qHX N)) hL (qWH T f) [] rfl (fun e σ hk=>by
   simp only [vQQ] at hk;exact hk) _ h
  have eb:qWH T f=fi.body:=by unfold qWH; rw [hfi]
  have en:ntmF T f=fi.ntmps:=by unfold ntmF; rw [hfi]
  rw [eb,en] at h1;refine ⟨q,?_,h2⟩;simp only [runF,hfi,hb,vYY];unfold cxS at h1;exact h1
def qQU (T:Tab) (o:OrS) (LO:List Nat→Option yW) (N f:Nat) (ps:List PV):Option (Ret × Mem):=yQV T o LO N f (ps.map .v) [] fun r=>some (r.1,[])
def zGY (T:Tab) (o:OrS) (LO:List Nat→Option yW) (N f:Nat) (hs:List HV) (ps:List PV):Option (Ret × Mem):=yQV T o LO N f hs (memB (T.gq f) ps) fun r=>(qKI (T.gq f) r.2).bind fun ps'=>(zGK r.1).bind fun x=>(zWI (T.gq f) x).bind fun x=>some (.v (.t (x :: ps')),[])
theorem qV {P:Program} {LO:List Nat→Option yW} {N f:Nat} {ps:List PV} {r:Ret} (hT:TabOk P T) (hm:P.follows .mixedOrders=true) (hO:o.Ok P T) (hL:∀ p S,LO p=some S→uV N (cxS T o N f (ntmF T f)) (qY T f p) S) (h:qQU T o LO N f ps=some (r,[])):zQ P f ps r:=by
 obtain ⟨x,h1,h2⟩:=runXL_some hL h;cases h2;refine qYU (N:=N + 1) hT hm hO.orc ?_;unfold run;rw [h1];rfl
theorem runBX_soundq {P:Program} {LO:List Nat→Option yW} {N f:Nat} {hs:List HV} {ps ps':List PV} {x:PV} (hT:TabOk P T) (hm:P.follows .mixedOrders=true) (hO:o.Ok P T) (hL:∀ p S,LO p=some S→uV N (cxS T o N f (ntmF T f)) (qY T f p) S) (h:zGY T o LO N f hs ps=some (.v (.t (x :: ps')),[])):yQJ P f hs ps x ps' (T.gq f):=by
 obtain ⟨y,h1,h2⟩:=runXL_some hL h;simp only [vQQ,vQZ,vQY,Ret.v.injEq,PV.t.injEq,List.cons.injEq,and_true] at h2;obtain ⟨qs,h3,z,h4,z2,h5,rfl,rfl⟩:=h2;refine runB_sound (N:=N + 1) hT hm hO.orc ?_;unfold runB;rw [h1];simp only [vZV,h3,h4,h5]
theorem qVW {P:Program} {LO:List Nat→Option yW} {N f:Nat} {hs:List HV} {ps ps':List PV} {x:PV} (hT:TabOk P T) (hm:P.follows .mixedOrders=true) (hO:o.Ok P T) (hL:∀ p S,LO p=some S→uV N (cxS T o N f (ntmF T f)) (qY T f p) S) (h:zGY T o LO N f hs ps=some (.v (.t (x :: ps')),[])) (hq:T.gq f=false:=by rfl):qVC P f hs ps x ps':=by
 have:=runBX_soundq hT hm hO hL h
 rw [hq] at this;exact this
end
theorem jJ {N:Nat} {T:Tab} {o:OrS} {f:Nat} {LO:List Nat→Option yW} {p:List Nat} {τ:Type} {hd:τ→St} {ex:St→τ} {R:τ→Cont→Option (Ret × Mem)}
  (hL:∀ p S,LO p=some S→uV N (cxS T o N f (ntmF T f)) (qY T f p) S)
  (h:∀ s K r,R s K=some r→LFX N (cxS T o N f (ntmF T f)) (evX T o N f (ntmF T f)) LO (qY T f p) p (T.hint f (zJ (qY T f p))) K N (hd s)=some r):uV N (cxS T o N f (ntmF T f)) (qY T f p) (sumF hd ex R) :=
 loopX_of (B:=qWH T f) (ev:=evX T o N f (ntmF T f)) (yQY (qHX N)) hL rfl fun K σ r hr=>by
  unfold sumF at hr;obtain ⟨hg,hq⟩:=qZ hr;have e:=zHI hg
  have:=h (ex σ) K r hq
  rw [← e] at this;exact this
abbrev OrBL:=List (Nat × (List HV→List PV→Option (Bool × (PV × List PV))))
def zXG (P:Program) (f:Nat) (o:List HV→List PV→Option (Bool × (PV × List PV))):Prop:=∀ hs ps x ps',o hs ps=some (true,(x,ps'))→qVC P f hs ps x ps'
def orS (l:OrL) (m:OrBL):OrS:=⟨OrL.k l,asc m⟩
def OneOkQ (P:Program) (f:Nat) (o:List HV→List PV→Option (Bool × (PV × List PV))):Prop:=∀ hs ps x ps',o hs ps=some (true,(x,ps'))→yJB P f hs ps x ps'
def OneOkBq (P:Program) (f:Nat) (o:List HV→List PV→Option (Bool × (PV × List PV))):Bool→Prop
 | false=>zXG P f o
 | true=>OneOkQ P f o
theorem OneOkBq.at {P:Program} {f:Nat} {o:List HV→List PV→Option (Bool × (PV × List PV))} {q:Bool} (h:OneOkBq P f o q) {hs:List HV} {ps ps':List PV} {x:PV} (ho:o hs ps=some (true,(x,ps'))):yQJ P f hs ps x ps' q:=by
 cases q with
 | false=>exact h hs ps x ps' ho
 | true=>exact h hs ps x ps' ho
def OneOkK (P:Program) (f:Nat) (o:List HV→List PV→Option (Bool × (PV × List PV))):Prop:=∀ hs ps x ps',o hs ps=some (true,(x,ps'))→SndK1 P f hs ps x ps'
def OneOkBk (P:Program) (f:Nat) (o:List HV→List PV→Option (Bool × (PV × List PV))) (q:Bool):Bool→Prop
 | false=>OneOkBq P f o q
 | true=>OneOkK P f o
theorem OneOkBk.at {P:Program} {f:Nat} {o:List HV→List PV→Option (Bool × (PV × List PV))} {q k:Bool} (h:OneOkBk P f o q k) {hs:List HV} {ps ps':List PV} {x:PV} (ho:o hs ps=some (true,(x,ps'))):yYU P f hs ps x ps' q k:=by
 cases k with
 | false=>exact OneOkBq.at h ho
 | true=>exact h hs ps x ps' ho
theorem jK {P:Program} {T:Tab} {l:OrL} {m:OrBL} (h:AllP (fun x:Nat × (List PV→Option (Bool × Ret))=>kU P x.1 x.2) l) (hb:AllP (fun x:Nat × (List HV→List PV→Option (Bool × (PV × List PV)))=>OneOkBk P x.1 x.2 (T.gq x.1) (T.gk x.1)) m):(orS l m).Ok P T :=
 ⟨OrL.ok h,fun _ _ ho hs ps x ps' hr=>(hb.of (qYJ ho)).at hr⟩
def LFT (T:Tab) (f:Nat) (o:OrS) (N:Nat) (l:List (List Nat × yW)) (p:List Nat) (K:Cont):Nat→St→Option (Ret × Mem):=LFX N (cxS T o N f (ntmF T f)) (evX T o N f (ntmF T f)) (qJ l) (qY T f p) p (T.hint f (zJ (qY T f p))) K
def stpT (T:Tab) (f:Nat) (o:OrS) (N:Nat) (l:List (List Nat × yW)) (p:List Nat) (K:Cont) (G:St→Option (Ret × Mem)):St→Option (Ret × Mem):=yYG N (cxS T o N f (ntmF T f)) (evX T o N f (ntmF T f)) (qJ l) (qY T f p) p (T.hint f (zJ (qY T f p))) K G
end Go.Rx
namespace Go.Rx
open Go.RowKit Go.Sx
noncomputable def gEq (a b:PV):Bool:=@decide (a=b) (vYQ _)
theorem qGD (a:PV):gEq a a=true:=@vYU _ (vYQ _) rfl
theorem zYV {a b:PV} (h:gEq a b=true):a=b:=@vYX _ (vYQ _) h
noncomputable def g1 (l:List PV):Bool:=gEq (.t l) (.t l)
theorem g1_t (l:List PV):g1 l=true:=qGD _
noncomputable def o_lk (as_:List PV) (g:Bool) (r:Ret):List PV→Option (Bool × Ret):=fun ps=>some (gEq (.t ps) (.t as_) && g,r)
theorem qWI {P:Program} {f:Nat} {as_:List PV} {g:Bool} {r:Ret} (h:g=true→zQ P f as_ r):kU P f (o_lk as_ g r):=by
 intro ps q hh;unfold o_lk at hh;simp only [vQZ,vQY,vQJ] at hh;obtain ⟨⟨hg,hb⟩,rfl⟩:=hh
 have:=zYV hg
 simp only [PV.t.injEq] at this;rw [this];exact h hb
noncomputable def o_cr (as_:List PV) (r:Ret):List PV→Option (Bool × Ret):=fun ps=>some (gEq (.t ps) (.t as_),r)
theorem qXG {P:Program} {f:Nat} {as_:List PV} {r:Ret} (h:zQ P f as_ r):kU P f (o_cr as_ r):=by
 intro ps q hh;unfold o_cr at hh;simp only [vQZ,vQY] at hh;obtain ⟨hg,rfl⟩:=hh
 have:=zYV hg
 simp only [PV.t.injEq] at this;rw [this];exact h
noncomputable def gP (p:Prop):Bool:=@decide p (vYQ _)
theorem gP_of {p:Prop} (h:p):gP p=true:=@vYU _ (vYQ _) h
theorem gP_spec {p:Prop} (h:gP p=true):p:=@vYX _ (vYQ _) h
noncomputable def gFam {τ:Type} (C:τ→Prop) (enc:τ→List PV) (t:τ) (ps:List PV):Bool:=gP (C t∧ps=enc t)
noncomputable def gF1 {τ:Type} (C:τ→Prop) (enc:τ→List PV) (t:τ):Bool:=gFam C enc t (enc t)
theorem jW {τ:Type} {C:τ→Prop} {enc:τ→List PV} {t:τ} (h:C t):gF1 C enc t=true:=gP_of ⟨h,rfl⟩
noncomputable def o_fm {τ:Type} (dec:List PV→τ) (C:τ→Prop) (enc:τ→List PV) (res:τ→Ret):List PV→Option (Bool × Ret):=fun ps=>some (gFam C enc (dec ps) ps,res (dec ps))
theorem qZB {P:Program} {f:Nat} {τ:Type} {dec:List PV→τ} {C:τ→Prop} {enc:τ→List PV} {res:τ→Ret} (h:∀ t,C t→zQ P f (enc t) (res t)):kU P f (o_fm dec C enc res):=by
 intro ps r hh;unfold o_fm at hh;simp only [vQZ,vQY] at hh;obtain ⟨hg,rfl⟩:=hh;obtain ⟨hc,e⟩:=gP_spec hg
 have:=h _ hc
 rw [← e] at this;exact this
noncomputable def gFamB {τ:Type} (C:τ→Prop) (eh:τ→List HV) (ep:τ→List PV) (t:τ) (hs:List HV) (ps:List PV):Bool:=gP (C t∧hs=eh t∧ps=ep t)
noncomputable def gB1 {τ:Type} (C:τ→Prop) (eh:τ→List HV) (ep:τ→List PV) (t:τ):Bool:=gFamB C eh ep t (eh t) (ep t)
theorem qYC {τ:Type} {C:τ→Prop} {eh:τ→List HV} {ep:τ→List PV} {t:τ} (h:C t):gB1 C eh ep t=true:=gP_of ⟨h,rfl,rfl⟩
noncomputable def o_fb {τ:Type} (dec:List HV→List PV→τ) (C:τ→Prop) (eh:τ→List HV) (ep:τ→List PV) (x:τ→PV) (qs:τ→List PV):List HV→List PV→Option (Bool × (PV × List PV)):=fun hs ps=>some (gFamB C eh ep (dec hs ps) hs ps,(x (dec hs ps),qs (dec hs ps)))
theorem yYF {P:Program} {f:Nat} {τ:Type} {dec:List HV→List PV→τ} {C:τ→Prop} {eh:τ→List HV} {ep:τ→List PV} {x:τ→PV} {qs:τ→List PV} (h:∀ t,C t→qVC P f (eh t) (ep t) (x t) (qs t)):zXG P f (o_fb dec C eh ep x qs):=by
 intro hs ps y ps' hh;unfold o_fb at hh;simp only [vQZ,vQY] at hh;obtain ⟨hg,rfl,rfl⟩:=hh;obtain ⟨hc,e1,e2⟩:=gP_spec hg
 have:=h _ hc
 rw [← e1,← e2] at this;exact this
def fQ (q:Nat→Int):Nat→List PV:=fun v=>[.n .i64 (q v)]
def unFQ (f:Nat→List PV):Nat→Int:=fun i=>match f i with
 | [.n _ x]=>x
 | _=>0
noncomputable def gFQ (f:Nat→List PV):Bool:=@decide (f=fQ (unFQ f)) (vYQ _)
theorem zVA {f:Nat→List PV} {q:Nat→Int} (h:f=fQ q):gFQ f=true∧unFQ f=q:=by
 subst h;exact ⟨@vYU _ (vYQ _) rfl,rfl⟩
theorem gFQ_eq {f:Nat→List PV} (h:gFQ f=true):f=fQ (unFQ f):=@vYX _ (vYQ _) h
def iqOf (l:List Int):Nat→Int:=fun i=>l.getD i 0
theorem qXJ (l:List Int):Same (qVH l) (.lf l.length (fQ (iqOf l))):=Same.lf (rows_fn 0 (fun x=>[PV.n .i64 x]) l)
theorem toN (p:Nat):(p:Int).toNat=p:=by omega
theorem kZ {p:Nat} (_:p < 1000000):vYV .i64 ((p:Int) + 1)=((p + 1:Nat):Int):=by rw [jZ (by omega)]; omega
theorem zX {p n:Nat} (_:p < n):inB (p:Int) n=true:=by unfold inB; rw [vYU (show (0:Int)≤p by omega),vYU (show (p:Int).toNat < n by omega)]; rfl
def qJA {τ:Type} (nx:Nat→τ→τ):Nat→Nat→τ→τ
 | 0,_,s=>s
 | m + 1,p,s=>qJA nx m (p + 1) (nx p s)
theorem qZG {τ β:Type} {nx:Nat→τ→τ} {KX:τ→β} {KR:Nat→τ→β}:∀ m p s,runS (fun _ _=>true) nx KX KR m p s=KX (qJA nx m p s)
 | 0,_,_=>rfl
 | m + 1,p,s=>by
  simp only [runS,vYY,qJA];exact qZG m (p + 1) _
theorem qUJ {τ:Type} {nx:Nat→τ→τ} {Q:Nat→τ→Prop} {c:Nat} (h:∀ i s,i < c→Q i s→Q (i + 1) (nx i s)):∀ r p s,p + r=c→Q p s→Q c (qJA nx r p s)
 | 0,p,s,hp,hq=>by
  obtain rfl:p=c:=by omega
  exact hq
 | r + 1,p,s,hp,hq=>qUJ h r (p + 1) (nx p s) (by omega) (h p s (by omega) hq)
theorem qGQ {P:Program} {f e sz n:Nat} {g:Nat→List PV} {ps:List PV} (h:zQ P f ps (.ow e sz (.fo n g))):zQ P f ps (.v (.lf n g)):=by
 refine ⟨h.1,fun w F vals hF hal=>(h.2 w F vals hF hal).mono ?_⟩
 rintro en w' ⟨v,F',he,hg,f1,f2,hr⟩
 obtain ⟨F2,f3,f4,hx⟩:=hr.pv (x:=.lf n g) rfl;refine ⟨v,F2,he,hg,fun k hk=>f3 k (f1 k hk),fun k hk => ?_,hx⟩;rcases f4 k hk with h | h
 ·exact f2 k h
 ·exact .inr h
theorem qZV {β:Type} (good:Nat→Bool) (KX:β) (KR:Nat→β):∀ k p,runS (fun (i:Nat) (_:Unit)=>good i) (fun _ _=>()) (fun _=>KX) (fun i _=>KR i) k p ()=zQZ good KX KR k p
 | 0,_=>rfl
 | k + 1,p=>by simp only [runS,zQZ,qZV good KX KR k (p + 1)]
def slI (σ:St) (k:Nat):Int:=match uJ σ.S k with
 | some (.v (.n _ x))=>x
 | _=>0
def lfI (σ:St) (k:Nat):Nat→Int:=match uJ σ.S k with
 | some (.v (.lf _ f))=>unFQ f
 | _=>fun _=>0
def lfN (σ:St) (k:Nat):Nat:=match uJ σ.S k with
 | some (.v (.lf n _))=>n
 | _=>0
def rgN (σ:St) (k:Nat):Nat:=match zZ σ.M k with
 | some (.reg _ _ (.fo n _))=>n
 | _=>0
def rgF (σ:St) (k:Nat):Nat→List PV:=match zZ σ.M k with
 | some (.reg _ _ (.fo _ f))=>f
 | _=>fun _=>[]
def bkC (σ:St) (k i:Nat):Int:=match zZ σ.M k with
 | some (.blk cs)=>match cs[i]? with
  | some (.v (.n _ x))=>x
  | _=>0
 | _=>0
def mA (w m:Nat):Nat→Nat
 | 0=>m
 | i + 1=>min (mA w m i + 1) w
theorem uY {w m:Nat} (h:m≤w):∀ i,mA w m i≤w
 | 0=>h
 | i + 1=>Nat.min_le_right _ _
def eW (e:Nat→Int) (w m:Nat):Int:=bif Nat.blt m w then e m else 0
def nxV (e:Nat→Int) (w m:Nat) (k:Int):Int:=eW e w m % k
theorem qJH {e:Nat→Int} {w m:Nat} {k:Int} (h:0 < k):0≤nxV e w m k∧nxV e w m k < k:=⟨Int.emod_nonneg _ (by omega),Int.emod_lt_of_pos _ h⟩
end Go.Rx
namespace Go.Sx
def dn (x:Int):Nat→Int
 | 0=>1073741824
 | 1=>x * 6746518852 / 65536
 | k + 2=>dn x (k + 1) * (x * 6746518852 / 65536) / 1073741824
def up (x:Int):Nat→Int
 | 0=>1073741824
 | 1=>yYJ (x * 6746518853) 65536
 | k + 2=>yYJ (up x (k + 1) * yYJ (x * 6746518853) 65536) 1073741824
end Go.Sx
namespace Go.Sx
def cN (a b:Nat):Nat:=(a + (b - 1)) / b
def d1N (x:Nat):Nat:=x * 6746518852 / 65536
def u1N (x:Nat):Nat:=(x * 6746518853 + 65535) / 65536
def dN (x:Nat):Nat→Nat
 | 0=>1073741824
 | 1=>d1N x
 | k + 2=>dN x (k + 1) * d1N x / 1073741824
def uN (x:Nat):Nat→Nat
 | 0=>1073741824
 | 1=>u1N x
 | k + 2=>(uN x (k + 1) * u1N x + 1073741823) / 1073741824
def sLo (x:Nat):Nat:=((dN x 1 + dN x 5 / 120) - (cN (uN x 3) 6 + cN (uN x 7) 5040)) / 16384
def sHi (x:Nat):Nat:=min 65536 ((((uN x 1 + cN (uN x 5) 120 + cN (uN x 9) 362880) - (dN x 3 / 6 + dN x 7 / 5040)) + 16383) / 16384)
def cLo (x:Nat):Nat:=((1073741824 + dN x 4 / 24 + dN x 8 / 40320) - (cN (uN x 2) 2 + cN (uN x 6) 720 + cN (uN x 10) 3628800)) / 16384
def cHi (x:Nat):Nat:=min 65536 ((((1073741824 + cN (uN x 4) 24 + cN (uN x 8) 40320) - (dN x 2 / 2 + dN x 6 / 720)) + 16383) / 16384)
def fLo (r:Nat):Nat:=if r≤8192 then sLo r else cLo (16384 - r)
def fHi (r:Nat):Nat:=if r≤8192 then sHi r else cHi (16384 - r)
theorem zJU {r:Nat} (h:r≤8192):fLo r=sLo r∧fHi r=sHi r:=⟨if_pos h,if_pos h⟩
theorem zVB {r:Nat} (_:8192 < r):fLo r=cLo (16384 - r)∧fHi r=cHi (16384 - r):=⟨if_neg (by omega),if_neg (by omega)⟩
def frc (n:Nat) (k:Nat→Bool):Bool:=Nat.rec (motive:=fun _=>Bool) (k 0) (fun m _=>k (Nat.succ m)) n
theorem zHL (n:Nat) (k:Nat→Bool):frc n k=k n:=by cases n <;> rfl
def zHJ (x:Nat) (K:Nat→Nat→Nat→Nat→Bool):Bool :=
 frc x fun x=>frc (x * 6746518852 / 65536) fun d1=>frc ((x * 6746518853 + 65535) / 65536) fun u1 =>
 frc (d1 * d1 / 1073741824) fun d2=>frc ((u1 * u1 + 1073741823) / 1073741824) fun u2 =>
 frc (d2 * d1 / 1073741824) fun d3=>frc ((u2 * u1 + 1073741823) / 1073741824) fun u3 =>
 frc (d3 * d1 / 1073741824) fun d4=>frc ((u3 * u1 + 1073741823) / 1073741824) fun u4 =>
 frc (d4 * d1 / 1073741824) fun d5=>frc ((u4 * u1 + 1073741823) / 1073741824) fun u5 =>
 frc (d5 * d1 / 1073741824) fun d6=>frc ((u5 * u1 + 1073741823) / 1073741824) fun u6 =>
 frc (d6 * d1 / 1073741824) fun d7=>frc ((u6 * u1 + 1073741823) / 1073741824) fun u7 =>
 frc (d7 * d1 / 1073741824) fun d8=>frc ((u7 * u1 + 1073741823) / 1073741824) fun u8 =>
 frc ((u8 * u1 + 1073741823) / 1073741824) fun u9=>frc ((u9 * u1 + 1073741823) / 1073741824) fun u10 =>
 frc (((d1 + d5 / 120) - ((u3 + 5) / 6 + (u7 + 5039) / 5040)) / 16384) fun slo =>
 frc (min 65536 ((((u1 + (u5 + 119) / 120 + (u9 + 362879) / 362880) - (d3 / 6 + d7 / 5040)) + 16383) / 16384)) fun shi =>
 frc (((1073741824 + d4 / 24 + d8 / 40320) - ((u2 + 1) / 2 + (u6 + 719) / 720 + (u10 + 3628799) / 3628800)) / 16384) fun clo =>
 frc (min 65536 ((((1073741824 + (u4 + 23) / 24 + (u8 + 40319) / 40320) - (d2 / 2 + d6 / 720)) + 16383) / 16384)) fun chi=>K slo shi clo chi
theorem zJG (x:Nat) (K:Nat→Nat→Nat→Nat→Bool):zHJ x K=K (sLo x) (sHi x) (cLo x) (cHi x):=by
 unfold zHJ;simp only [zHL];rfl
def one (x a b c d:Nat):Bool :=
 Nat.ble a b && (Nat.ble b 65536 && (Nat.ble b (a + 2) && (Nat.ble c d && (Nat.ble d 65536 && (Nat.ble d (c + 2) &&
 (Nat.ble (4 * x) b && (Nat.ble (4 * x) (a + 2) && (Nat.ble a (x * 411775 / 65536 + 1) &&
 (Nat.ble (4 * (16384 - x)) d && (Nat.ble (4 * (16384 - x)) (c + 2) && (Nat.ble c ((16384 - x) * 411775 / 65536 + 1) &&
 (Nat.ble (a * a / 65536 + c * c / 65536) 65536 && Nat.ble 65536 ((b * b + 65535) / 65536 + (d * d + 65535) / 65536)))))))))))))
structure Fst (r:Nat):Prop where
 ord:fLo r≤fHi r
 top:fHi r≤65536
 wid:fHi r≤fLo r + 2
 ch1:4 * r≤fHi r
 ch2:4 * r≤fLo r + 2
 ch3:fLo r≤r * 411775 / 65536 + 1
end Go.Sx
namespace Go.Sx
def nn:Nat:=340282366920938463463374607431768211456
def uu:Nat:=5192296858534827628530496329220096
def uc:Nat:=340282365357037221779282487371359009126
def us:Nat:=32624163282081701561065576601652201
def w:Nat→Nat × Nat
 | 0=>(nn,0)
 | n + 1=>(((w n).1 * uc - (w n).2 * us) / nn,((w n).1 * us + (w n).2 * uc) / nn)
def bx (S C a b c d:Nat):Bool:=Nat.ble (a * 5192296858534827628530496329220096) S && (Nat.ble S (b * 5192296858534827628530496329220096) && (Nat.ble (c * 5192296858534827628530496329220096) C && Nat.ble C (d * 5192296858534827628530496329220096)))
def goU (C' T':Nat):Nat→Nat→Nat→Nat→Bool
 | 0,C,T,_=>Nat.beq C C' && Nat.beq T T'
 | k + 1,C,T,x=>(zHJ x fun a b c d=>bx T C a b c d) && (Nat.ble (T * 32624163282081701561065576601652201) (C * 340282365357037221779282487371359009126) && frc ((C * 340282365357037221779282487371359009126 - T * 32624163282081701561065576601652201) / 340282366920938463463374607431768211456) fun C2=>frc ((C * 32624163282081701561065576601652201 + T * 340282365357037221779282487371359009126) / 340282366920938463463374607431768211456) fun T2=>frc (x + 1) fun x2=>goU C' T' k C2 T2 x2)
def goD (C' T':Nat):Nat→Nat→Nat→Nat→Bool
 | 0,C,T,_=>Nat.beq C C' && Nat.beq T T'
 | k + 1,C,T,x=>(zHJ x fun a b c d=>bx C T a b c d) && (Nat.ble (T * 32624163282081701561065576601652201) (C * 340282365357037221779282487371359009126) && frc ((C * 340282365357037221779282487371359009126 - T * 32624163282081701561065576601652201) / 340282366920938463463374607431768211456) fun C2=>frc ((C * 32624163282081701561065576601652201 + T * 340282365357037221779282487371359009126) / 340282366920938463463374607431768211456) fun T2=>frc (x - 1) fun x2=>goD C' T' k C2 T2 x2)
structure BoxU (r:Nat):Prop where
 sl:sLo r * uu≤(w r).2
 sh:(w r).2≤sHi r * uu
 cl:cLo r * uu≤(w r).1
 ch:(w r).1≤cHi r * uu
 st:(w r).2 * us≤(w r).1 * uc
structure BoxD (r:Nat):Prop where
 sl:sLo (16384 - r) * uu≤(w r).1
 sh:(w r).1≤sHi (16384 - r) * uu
 cl:cLo (16384 - r) * uu≤(w r).2
 ch:(w r).2≤cHi (16384 - r) * uu
 st:(w r).2 * us≤(w r).1 * uc
theorem qQQ {C' T':Nat}:∀ k C T x,goU C' T' k C T x=true→w x=(C,T)→w (x + k)=(C',T')∧∀ i,x≤i→i < x + k→BoxU i
 | 0,C,T,x,h,e=>by
  simp only [goU,vQJ] at h;refine ⟨?_,fun i a b=>absurd b (by omega)⟩;rw [Nat.add_zero,e,vQU h.1,vQU h.2]
 | k + 1,C,T,x,h,e=>by
  simp only [goU,zHL,zJG,bx,vQJ] at h;obtain ⟨⟨h1,h2,h3,h4⟩,h5,h6⟩:=h;obtain ⟨q1,q2⟩:=qQQ k _ _ (x + 1) h6 (by rw [w,e]; rfl);refine ⟨by rw [← q1]; congr 1; omega,fun i a b => ?_⟩;by_cases hi:i=x
  ·subst hi;exact ⟨by rw [e]; exact vZJ h1,by rw [e]; exact vZJ h2,by rw [e]; exact vZJ h3,by rw [e]; exact vZJ h4,by rw [e]; exact vZJ h5⟩
  ·exact q2 i (by omega) (by omega)
theorem qQV {C' T':Nat}:∀ k C T r,r≤16384→k≤16384 - r→goD C' T' k C T (16384 - r)=true→w r=(C,T)→w (r + k)=(C',T')∧∀ i,r≤i→i < r + k→BoxD i
 | 0,C,T,x,_,_,h,e=>by
  simp only [goD,vQJ] at h;refine ⟨?_,fun i a b=>absurd b (by omega)⟩;rw [Nat.add_zero,e,vQU h.1,vQU h.2]
 | k + 1,C,T,x,g1,g2,h,e=>by
  simp only [goD,zHL,zJG,bx,vQJ] at h;obtain ⟨⟨h1,h2,h3,h4⟩,h5,h6⟩:=h;rw [show 16384 - x - 1=16384 - (x + 1) by omega] at h6;obtain ⟨q1,q2⟩:=qQV k _ _ (x + 1) (by omega) (by omega) h6 (by rw [w,e]; rfl);refine ⟨by rw [← q1]; congr 1; omega,fun i a b => ?_⟩;by_cases hi:i=x
  ·subst hi;exact ⟨by rw [e]; exact vZJ h1,by rw [e]; exact vZJ h2,by rw [e]; exact vZJ h3,by rw [e]; exact vZJ h4,by rw [e]; exact vZJ h5⟩
  ·exact q2 i (by omega) (by omega)
theorem wk0:goU 338643814315582355912937410983956791763 33353504510164655995148692933346502990 1024 340282366920938463463374607431768211456 0 0=true:=by decide +kernel
theorem wk1:goU 333743936656827580393945988194117882553 66385796539016198537004233666266150132 1024 338643814315582355912937410983956791763 33353504510164655995148692933346502990 1024=true:=by decide +kernel
theorem wk2:goU 325629922445073537381874007154866693371 98778757057029163154891549979681820108 1024 333743936656827580393945988194117882553 66385796539016198537004233666266150132 2048=true:=by decide +kernel
theorem wk3:goU 314379914072750776175968446003616356708 130220424146621615521356287373662035415 1024 325629922445073537381874007154866693371 98778757057029163154891549979681820108 3072=true:=by decide +kernel
theorem wk4:goU 300102255270364911803307903246760032214 160407997365957196655387116525924829546 1024 314379914072750776175968446003616356708 130220424146621615521356287373662035415 4096=true:=by decide +kernel
theorem wk5:goU 282934447697145148265594844368147524013 189050753882727566157415671255032869469 1024 300102255270364911803307903246760032214 160407997365957196655387116525924829546 5120=true:=by decide +kernel
theorem wk6:goU 263041826724899848421390153308517431640 215872848293952797667059038248426017122 1024 282934447697145148265594844368147524013 189050753882727566157415671255032869469 6144=true:=by decide +kernel
theorem wk7:goU 240615969168004511545033772483698474358 240615969168004511545033772471550468243 1024 263041826724899848421390153308517431640 215872848293952797667059038248426017122 7168=true:=by decide +kernel
theorem wk8:goD 215872848293952797667059038261706108609 263041826724899848421390153297618474197 1024 240615969168004511545033772483698474358 240615969168004511545033772471550468243 8192=true:=by decide +kernel
theorem wk9:goD 189050753882727566157415671269317183057 282934447697145148265594844358602552466 1024 215872848293952797667059038261706108609 263041826724899848421390153297618474197 7168=true:=by decide +kernel
theorem wk10:goD 160407997365957196655387116541075833093 300102255270364911803307903238660947340 1024 189050753882727566157415671269317183057 282934447697145148265594844358602552466 6144=true:=by decide +kernel
theorem wk11:goD 130220424146621615521356287389533852184 314379914072750776175968445997041138024 1024 160407997365957196655387116541075833093 300102255270364911803307903238660947340 5120=true:=by decide +kernel
theorem wk12:goD 98778757057029163154891549996121633199 325629922445073537381874007149878648288 1024 130220424146621615521356287389533852184 314379914072750776175968445997041138024 4096=true:=by decide +kernel
theorem wk13:goD 66385796539016198537004233683115673837 333743936656827580393945988190765036869 1024 98778757057029163154891549996121633199 325629922445073537381874007149878648288 3072=true:=by decide +kernel
theorem wk14:goD 33353504510164655995148692950443506845 338643814315582355912937410982271427247 1024 66385796539016198537004233683115673837 333743936656827580393945988190765036869 2048=true:=by decide +kernel
theorem wk15:goD 17179870747 340282366920938463463374607431766555032 1024 33353504510164655995148692950443506845 338643814315582355912937410982271427247 1024=true:=by decide +kernel
theorem ws0:w 0=(340282366920938463463374607431768211456,0):=rfl
theorem ws1:w 1024=(338643814315582355912937410983956791763,33353504510164655995148692933346502990):=(qQQ 1024 _ _ 0 wk0 ws0).1
theorem ws2:w 2048=(333743936656827580393945988194117882553,66385796539016198537004233666266150132):=(qQQ 1024 _ _ 1024 wk1 ws1).1
theorem ws3:w 3072=(325629922445073537381874007154866693371,98778757057029163154891549979681820108):=(qQQ 1024 _ _ 2048 wk2 ws2).1
theorem ws4:w 4096=(314379914072750776175968446003616356708,130220424146621615521356287373662035415):=(qQQ 1024 _ _ 3072 wk3 ws3).1
theorem ws5:w 5120=(300102255270364911803307903246760032214,160407997365957196655387116525924829546):=(qQQ 1024 _ _ 4096 wk4 ws4).1
theorem ws6:w 6144=(282934447697145148265594844368147524013,189050753882727566157415671255032869469):=(qQQ 1024 _ _ 5120 wk5 ws5).1
theorem ws7:w 7168=(263041826724899848421390153308517431640,215872848293952797667059038248426017122):=(qQQ 1024 _ _ 6144 wk6 ws6).1
theorem ws8:w 8192=(240615969168004511545033772483698474358,240615969168004511545033772471550468243):=(qQQ 1024 _ _ 7168 wk7 ws7).1
theorem ws9:w 9216=(215872848293952797667059038261706108609,263041826724899848421390153297618474197):=(qQV 1024 _ _ 8192 (by decide) (by decide) wk8 ws8).1
theorem ws10:w 10240=(189050753882727566157415671269317183057,282934447697145148265594844358602552466):=(qQV 1024 _ _ 9216 (by decide) (by decide) wk9 ws9).1
theorem ws11:w 11264=(160407997365957196655387116541075833093,300102255270364911803307903238660947340):=(qQV 1024 _ _ 10240 (by decide) (by decide) wk10 ws10).1
theorem ws12:w 12288=(130220424146621615521356287389533852184,314379914072750776175968445997041138024):=(qQV 1024 _ _ 11264 (by decide) (by decide) wk11 ws11).1
theorem ws13:w 13312=(98778757057029163154891549996121633199,325629922445073537381874007149878648288):=(qQV 1024 _ _ 12288 (by decide) (by decide) wk12 ws12).1
theorem ws14:w 14336=(66385796539016198537004233683115673837,333743936656827580393945988190765036869):=(qQV 1024 _ _ 13312 (by decide) (by decide) wk13 ws13).1
theorem ws15:w 15360=(33353504510164655995148692950443506845,338643814315582355912937410982271427247):=(qQV 1024 _ _ 14336 (by decide) (by decide) wk14 ws14).1
theorem boxU {r:Nat} (h:r < 8192):BoxU r:=by
 have hq:(0≤r∧r < 1024) ∨ (1024≤r∧r < 2048) ∨ (2048≤r∧r < 3072) ∨ (3072≤r∧r < 4096) ∨ (4096≤r∧r < 5120) ∨ (5120≤r∧r < 6144) ∨ (6144≤r∧r < 7168) ∨ (7168≤r∧r < 8192):=by omega
 rcases hq with h | h | h | h | h | h | h | h
 ·exact (qQQ 1024 _ _ 0 wk0 ws0).2 r h.1 h.2
 ·exact (qQQ 1024 _ _ 1024 wk1 ws1).2 r h.1 h.2
 ·exact (qQQ 1024 _ _ 2048 wk2 ws2).2 r h.1 h.2
 ·exact (qQQ 1024 _ _ 3072 wk3 ws3).2 r h.1 h.2
 ·exact (qQQ 1024 _ _ 4096 wk4 ws4).2 r h.1 h.2
 ·exact (qQQ 1024 _ _ 5120 wk5 ws5).2 r h.1 h.2
 ·exact (qQQ 1024 _ _ 6144 wk6 ws6).2 r h.1 h.2
 ·exact (qQQ 1024 _ _ 7168 wk7 ws7).2 r h.1 h.2
theorem boxD {r:Nat} (g:8192≤r) (h:r < 16384):BoxD r:=by
 have hq:(8192≤r∧r < 9216) ∨ (9216≤r∧r < 10240) ∨ (10240≤r∧r < 11264) ∨ (11264≤r∧r < 12288) ∨ (12288≤r∧r < 13312) ∨ (13312≤r∧r < 14336) ∨ (14336≤r∧r < 15360) ∨ (15360≤r∧r < 16384):=by omega
 rcases hq with h | h | h | h | h | h | h | h
 ·exact (qQV 1024 _ _ 8192 (by decide) (by decide) wk8 ws8).2 r h.1 h.2
 ·exact (qQV 1024 _ _ 9216 (by decide) (by decide) wk9 ws9).2 r h.1 h.2
 ·exact (qQV 1024 _ _ 10240 (by decide) (by decide) wk10 ws10).2 r h.1 h.2
 ·exact (qQV 1024 _ _ 11264 (by decide) (by decide) wk11 ws11).2 r h.1 h.2
 ·exact (qQV 1024 _ _ 12288 (by decide) (by decide) wk12 ws12).2 r h.1 h.2
 ·exact (qQV 1024 _ _ 13312 (by decide) (by decide) wk13 ws13).2 r h.1 h.2
 ·exact (qQV 1024 _ _ 14336 (by decide) (by decide) wk14 ws14).2 r h.1 h.2
 ·exact (qQV 1024 _ _ 15360 (by decide) (by decide) wk15 ws15).2 r h.1 h.2
theorem mid0:(zHJ 8192 fun a b c d=>bx 240615969168004511545033772471550468243 240615969168004511545033772483698474358 a b c d)=true:=by decide +kernel
theorem mid:sLo 8192 * uu≤(w 8192).2∧(w 8192).2≤sHi 8192 * uu:=by
 have:=mid0
 simp only [zJG,bx,vQJ] at this;rw [ws8];exact ⟨vZJ this.1,vZJ this.2.1⟩
theorem box {r:Nat} (h:r < 16384):fLo r * uu≤(w r).2∧(w r).2≤fHi r * uu∧fLo (16384 - r) * uu≤(w r).1∧(w r).1≤fHi (16384 - r) * uu:=by
 rcases Nat.lt_or_ge r 8192 with h1 | h1
 ·have b:=boxU h1;rw [(zJU (r:=r) (by omega)).1,(zJU (r:=r) (by omega)).2,(zVB (r:=16384 - r) (by omega)).1,(zVB (r:=16384 - r) (by omega)).2,show 16384 - (16384 - r)=r by omega];exact ⟨b.sl,b.sh,b.cl,b.ch⟩
 ·have b:=boxD h1 h;rw [(zJU (r:=16384 - r) (by omega)).1,(zJU (r:=16384 - r) (by omega)).2];rcases Nat.lt_or_ge 8192 r with h2 | h2
  ·rw [(zVB (r:=r) (by omega)).1,(zVB (r:=r) (by omega)).2];exact ⟨b.cl,b.ch,b.sl,b.sh⟩
  ·have e:r=8192:=by omega
   subst e;rw [(zJU (r:=8192) (by omega)).1,(zJU (r:=8192) (by omega)).2];have k:=mid;exact ⟨k.1,k.2,b.sl,b.sh⟩
end Go.Sx
namespace Go.Sx
def WC (r:Nat):Int:=((w r).1:Int)
def WT (r:Nat):Int:=((w r).2:Int)
theorem w0:WC 0=(340282366920938463463374607431768211456:Int)∧WT 0=0:=⟨rfl,rfl⟩
end Go.Sx
namespace Go.Sx
structure In (I:Iv) (m x:Int):Prop where
 lo:I.lo * m≤x
 hi:x≤I.hi * m
def Ok (a:Iv):Prop:=-2147483648≤a.lo∧a.lo≤a.hi∧a.hi≤2147483648
end Go.Sx

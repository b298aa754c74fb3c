/- Part 8 of the texts behind the last one: rules and contracts. No condition. -/
import Derived.Test.YtglkkhpdbfacfaaBE7
open Option renaming bind_eq_some_iff → vQQ, bind_some → vZV
open Option.some renaming injEq → vQZ
open Prod.mk renaming injEq → vQY
open Bool renaming and_eq_true → vQJ, and_self → vZQ, true_and → vZW
open List renaming length_cons → vQX, mem_cons → vZG
open Nat renaming le_of_ble_eq_true → vZJ
open Classical renaming propDecidable → vZH
open Go.IntKind renaming wrap → vYX
namespace Go.Rx
open Go.RowKit Go.Sx
abbrev Ev:=Nat→Op→List RV→(Eff→Option (Ret × Mem))→Option (Ret × Mem)
def EvOk (C:Cx) (ev:Ev):Prop:=∀ dst op vs K r,ev dst op vs K=some r→∃ e,qK C.T C.cA C.cB C.me dst op vs=some e∧K e=some r
def goE (C:Cx) (ev:Ev) (o:Oper) (σ:St) (K:Eff × List RV→Option (Ret × Mem)):Option (Ret × Mem) :=
 bif dstB C.n o.dst then
  (mapO (opv (mode o.op) σ) o.op.operands.toList).bind fun vs=>ev (o.dst.getD 0) o.op vs fun e =>
   bif e.nw.all (fun id=>(qX σ.M id).isNone && Nat.blt id 2000000) then K (e,vs) else none
 else none
def yXJ (C:Cx) (ev:Ev) (ops:Array Oper) (o:Oper) (σ:St) (K:Eff × List RV→Option (Ret × Mem)):Option (Ret × Mem) :=
 match o.guard with
 | none=>goE C ev o σ K
 | some (j,b)=>match (ops[j]?).bind (·.dst) with
  | some d=>match jJ σ.S d with
   | some (.v (.b c))=>(match b with
    | true=>bif c then goE C ev o σ K else yZI C o K
    | false=>bif c then yZI C o K else goE C ev o σ K)
   | some (.v (.t []))=>yZI C o K
   | _=>none
  | none=>none
def zZJ (C:Cx) (ev:Ev) (ops:Array Oper):List Oper→(St→Option (Ret × Mem))→St→Option (Ret × Mem)
 | [],K,σ=>K σ
 | o :: l,K,σ=>yXJ C ev ops o σ fun r=>zZJ C ev ops l K (σ.apply r.1 o.dst)
def qKD (C:Cx) (ev:Ev) (ops:Array Oper):Nat→List Oper→List Done→(St→Option (Ret × Mem))→St→Option (Ret × Mem)
 | _,[],acc,K,σ=>bif qGH ops acc.reverse && Sx.backB ops then K σ else none
 | i,o :: l,acc,K,σ=>yXJ C ev ops o σ fun r=>qKD C ev ops (i + 1) l ((i,r) :: acc) K (σ.apply r.1 o.dst)
def qXW (N:Nat) (C:Cx) (ev:Ev) (LO:List Nat→Option yK):Code→List Nat→Cont→St→Option (Ret × Mem)
 | .skip,_,K,σ=>K .normal σ
 | .label _,_,K,σ=>K .normal σ
 | .scope x,p,K,σ=>qXW N C ev LO x (0 :: p) K σ
 | .ret,_,K,σ=>K .ret σ
 | .exit id,_,K,σ=>K (.exit id) σ
 | .region id ops d,_,K,σ=>preK C id (fun σ=>bif d then qKD C ev ops 0 ops.toList [] (K .normal) σ else zZJ C ev ops ops.toList (K .normal) σ) σ
 | .seq x y,p,K,σ=>qXW N C ev LO x (0 :: p) (fun e σ=>match e with
   | .normal=>qXW N C ev LO y (1 :: p) K σ
   | e=>K e σ) σ
 | .cond c x y,p,K,σ=>(opv 1 σ c).bind fun v=>match v with
   | .v (.b t)=>bif t then qXW N C ev LO x (0 :: p) K σ else qXW N C ev LO y (1 :: p) K σ
   | _=>none
 | .block id x,p,K,σ=>qXW N C ev LO x (0 :: p) (fun e σ=>match e with
   | .exit id'=>bif Nat.beq id' id then K .normal σ else K (.exit id') σ
   | e=>K e σ) σ
 | .loop x,p,K,σ=>match LO p with
   | some S=>S (qUQ (C.T.hint C.me (qJ x)) σ) K
   | none=>zYZ (fun again σ=>qXW N C ev LO x (0 :: p) (fun e σ=>match e with
     | .normal=>again σ
     | e=>K e (qWV (C.T.hint C.me (qJ x)) σ)) (qUQ (C.T.hint C.me (qJ x)) σ)) N σ
 | _,_,_,_=>none
section
variable {C:Cx} {ev:Ev} {ops:Array Oper} {r:Ret × Mem} {K0:Ret × Mem→Option (Ret × Mem)}
theorem zYU {o:Oper} {σ:St} {K:Eff × List RV→Option (Ret × Mem)} (hc:EvOk C ev) (hg:uY ops σ o=some true) (h:goE C ev o σ K=some r):∃ x,qQL C ops o σ=some x∧K x=some r:=by
 unfold goE at h;obtain ⟨hd,h⟩:=qZ h;rw [vQQ] at h;obtain ⟨vs,hvs,h⟩:=h;obtain ⟨e,he,h⟩:=hc _ _ _ _ _ h;obtain ⟨hn,h⟩:=qZ h;exact ⟨(e,vs),qVL hd (.inr ⟨hg,hvs,he,fun i hi=>zYG (List.all_eq_true.1 hn i hi)⟩),h⟩
theorem qHI {o:Oper} {σ:St} {K:Eff × List RV→Option (Ret × Mem)} (hc:EvOk C ev) (h:yXJ C ev ops o σ K=some r):∃ x,qQL C ops o σ=some x∧K x=some r:=by
 unfold yXJ at h;cases hg:o.guard with
 | none=>rw [hg] at h; exact zYU hc (by unfold uY; rw [hg]) h
 | some gb =>
  obtain ⟨j,b⟩:=gb;rw [hg] at h;simp only at h;split at h
  ·rename_i d hd;split at h
   ·rename_i c hlc;have gd:uY ops σ o=some (c == b):=by
     unfold uY;rw [hg];simp only [hd,hlc]
    cases b <;> cases c <;> simp only [vYQ,vYZ] at h
    ·exact zYU hc gd h
    ·exact qXK gd h
    ·exact qXK gd h
    ·exact zYU hc gd h
   ·rename_i hlc;exact qXK (by unfold uY; rw [hg]; simp only [hd,hlc]) h
   ·cases h
  ·cases h
theorem qWJ (hc:EvOk C ev) {K K':St→Option (Ret × Mem)} (hK:∀ σ,K σ=some r→Gets K0 r (K' σ)):∀ (l:List Oper) (σ:St),zZJ C ev ops l K σ=some r→Gets K0 r (qGJ C ops l K' σ)
 | [],σ,h=>hK σ h
 | o :: l,σ,h=>by
  simp only [zZJ] at h;obtain ⟨x,hx,h⟩:=qHI hc h;simp only [qGJ,hx,vZV];exact qWJ hc hK l _ h
theorem qKC (hc:EvOk C ev) {K K':St→Option (Ret × Mem)} (hK:∀ σ,K σ=some r→Gets K0 r (K' σ)):∀ (l:List Oper) (i:Nat) (acc:List Done) (σ:St),qKD C ev ops i l acc K σ=some r→Gets K0 r (qZF C ops i l acc K' σ)
 | [],i,acc,σ,h=>by
  simp only [qKD] at h;obtain ⟨hp,h⟩:=qZ h;simp only [qZF,hp,vYQ];exact hK σ h
 | o :: l,i,acc,σ,h=>by
  simp only [qKD] at h;obtain ⟨x,hx,h⟩:=qHI hc h;simp only [qZF,hx,vZV];exact qKC hc hK l _ _ _ h
theorem kU {N:Nat} {LO:List Nat→Option yK} {B:Code} (hc:EvOk C ev) (hL:∀ p S,LO p=some S→kQ N C (qYI 0 (qZA B p)) S):∀ (c:Code) (p:List Nat) {K K':Cont} (hp:qZA B p=c) (hK:∀ e σ,K e σ=some r→Gets K0 r (K' e σ)) (σ:St),qXW N C ev LO c p K σ=some r→Gets K0 r (runC N C c K' σ)
 | .skip,p,K,K',hp,hK,σ,h=>hK _ _ h
 | .label _,p,K,K',hp,hK,σ,h=>hK _ _ h
 | .scope x,p,K,K',hp,hK,σ,h=>kU hc hL x (0 :: p) (by simp only [qZA,hp,qYI]) hK σ h
 | .ret,p,K,K',hp,hK,σ,h=>hK _ _ h
 | .exit id,p,K,K',hp,hK,σ,h=>hK _ _ h
 | .region id ops d,p,K,K',hp,hK,σ,h=>by
  have h:=preK_eq.symm.trans h;refine Eq.mpr (congrArg (Gets K0 r) (preK_eq (F:=fun σ=>bif d then qZF C ops 0 ops.toList [] (K' .normal) σ else qGJ C ops ops.toList (K' .normal) σ))) ?_;cases d with
  | true=>exact qKC hc (hK .normal) _ _ _ _ h
  | false=>exact qWJ hc (hK .normal) _ _ h
 | .seq x y,p,K,K',hp,hK,σ,h=>by
  refine kU hc hL x (0 :: p) (by simp only [qZA,hp,qYI]) (fun e τ hk => ?_) σ h;cases e with
  | normal=>exact kU hc hL y (1 :: p) (by simp only [qZA,hp,qYI]) hK τ hk
  | _=>exact hK _ _ hk
 | .cond c x y,p,K,K',hp,hK,σ,h=>by
  simp only [qXW,vQQ] at h;obtain ⟨v,hv,h⟩:=h;simp only [runC,hv,vZV];split at h
  ·rename_i t;cases t with
   | true=>exact kU hc hL x (0 :: p) (by simp only [qZA,hp,qYI]) hK σ h
   | false=>exact kU hc hL y (1 :: p) (by simp only [qZA,hp,qYI]) hK σ h
  ·cases h
 | .block id x,p,K,K',hp,hK,σ,h=>by
  refine kU hc hL x (0 :: p) (by simp only [qZA,hp,qYI]) (fun e τ hk => ?_) σ h;cases e with
  | exit id' =>
   simp only at hk ⊢;cases hb:Nat.beq id' id with
   | true=>rw [hb] at hk; exact hK _ _ hk
   | false=>rw [hb] at hk; exact hK _ _ hk
  | _=>exact hK _ _ hk
 | .loop x,p,K,K',hp,hK,σ,h=>by
  simp only [qXW] at h;simp only [runC];cases hS:LO p with
  | none =>
   rw [hS] at h;refine zQU (fun a a' ha τ hs => ?_) N σ h;refine kU hc hL x (0 :: p) (by simp only [qZA,hp,qYI]) (fun e υ hk => ?_) _ hs;cases e with
   | normal=>exact ha _ hk
   | _=>exact hK _ _ hk
  | some S =>
   rw [hS] at h
   have:=hL p S hS
   rw [hp] at this;exact this K K' K0 σ r hK h
 | .rangeFunc ..,p,K,K',hp,hK,σ,h=>by cases h
 | .goto _,p,K,K',hp,hK,σ,h=>by cases h
 | .refuse _,p,K,K',hp,hK,σ,h=>by cases h
end
def zH (N:Nat) (C:Cx) (ev:Ev) (LO:List Nat→Option yK) (x:Code) (p:List Nat) (h:Hint) (K:Cont) (G:St→Option (Ret × Mem)) (σ:St):Option (Ret × Mem):=qXW N C ev LO x (0 :: p) (fun e τ=>match e with
 | .normal=>G (qUQ h τ)
 | e=>K e (qWV h τ)) σ
def LFX (N:Nat) (C:Cx) (ev:Ev) (LO:List Nat→Option yK) (x:Code) (p:List Nat) (h:Hint) (K:Cont):Nat→St→Option (Ret × Mem)
 | 0,_=>none
 | n + 1,σ=>zH N C ev LO x p h K (LFX N C ev LO x p h K n) σ
theorem yUF {N:Nat} {C:Cx} {ev:Ev} {LO:List Nat→Option yK} {B x:Code} {p:List Nat} {K K':Cont} {K0:Ret × Mem→Option (Ret × Mem)} {r:Ret × Mem} (hc:EvOk C ev) (hL:∀ p S,LO p=some S→kQ N C (qYI 0 (qZA B p)) S) (hx:qZA B (0 :: p)=x)
  (hK:∀ e τ,K e τ=some r→Gets K0 r (K' e τ)):∀ (n:Nat) (σ:St),LFX N C ev LO x p (C.T.hint C.me (qJ x)) K n (qUQ (C.T.hint C.me (qJ x)) σ)=some r→Gets K0 r (zYZ (fun again σ=>runC N C x (fun e σ=>match e with
   | .normal=>again σ
   | e=>K' e (qWV (C.T.hint C.me (qJ x)) σ)) (qUQ (C.T.hint C.me (qJ x)) σ)) n σ)
 | 0,σ,h=>by cases h
 | n + 1,σ,h=>by
  simp only [LFX,zH] at h;simp only [zYZ];refine kU hc hL x (0 :: p) hx (fun e τ hk => ?_) _ h;cases e with
  | normal=>exact yUF hc hL hx hK n τ hk
  | _=>exact hK _ _ hk
theorem yVD {N:Nat} {C:Cx} {ev:Ev} {LO:List Nat→Option yK} {B x:Code} {p:List Nat} {S:yK} (hc:EvOk C ev) (hL:∀ p S,LO p=some S→kQ N C (qYI 0 (qZA B p)) S) (hx:qZA B (0 :: p)=x)
  (hS:∀ K σ r,S σ K=some r→LFX N C ev LO x p (C.T.hint C.me (qJ x)) K N σ=some r):kQ N C x S:=fun K _ _ σ r hK h =>
 yUF hc hL hx hK N σ (hS K _ r h)
abbrev qWE:=Nat→List HV→List PV→(PV × List PV→Option (Ret × Mem))→Option (Ret × Mem)
def zJU (r:PV × List PV) (K:PV × List PV→Option (Ret × Mem)):Option (Ret × Mem):=match r with
 | (.b c,ps)=>bif c then K (.b true,ps) else K (.b false,ps)
 | r=>K r
theorem qKA (r:PV × List PV) (K:PV × List PV→Option (Ret × Mem)):zJU r K=K r:=by
 unfold zJU;split
 ·rename_i c ps; cases c <;> rfl
 ·rfl
def zUL (cBK:qWE) (f:Nat) (args:List RV) (K:Eff→Option (Ret × Mem)):Option (Ret × Mem) :=
 (zYA args).bind fun p=>(mapO CV.pv p.2).bind fun ps=>(mapO (RV.toB p.1) args).bind fun hs=>cBK f hs ps fun r=>zJU r fun r =>
  bif Nat.beq p.1 pid2 then none else K (Eff.and (.set p.1 (.blk (r.2.map PV.toH)) (.v r.1)) (catR RV.regs args))
def qUF (cBK:qWE) (f:Nat) (args:List RV) (K:Eff→Option (Ret × Mem)):Option (Ret × Mem) :=
 (zYA args).bind fun p=>match p.2 with
  | [.o m e sz rows]=>(mapO (RV.toB p.1) args).bind fun hs=>cBK f hs [.gs e sz rows.pv] fun r=>zJU r fun r=>match r.2 with
   | [.gs e2 sz2 y]=>y.rowsO.bind fun rows2=>bif Nat.beq sz2 sz && (catR RV.regs args).isEmpty && !(Nat.beq p.1 m) && r.1.flat then K ⟨[(m,some (.reg e2 sz2 rows2))],[],.v r.1,[]⟩ else none
   | _=>none
  | _=>none
def qUI (cBK:qWE) (dst f:Nat) (args:List RV) (K:Eff→Option (Ret × Mem)):Option (Ret × Mem) :=
 (zYA args).bind fun p=>(mapO CV.pvq p.2).bind fun ps=>(mapO (RV.toB p.1) args).bind fun hs=>cBK f hs ps fun r=>zJU r fun r =>
  (gEnt (qJZ r.2)).bind fun ent=>bif oneG ps && oneG r.2 && (catR RV.regs args).isEmpty && !(Nat.beq p.1 ((qJQ p.2).getD (100000 + dst))) && r.1.flat && !(Nat.beq p.1 pid2) then
   K ⟨[(p.1,some (.blk (r.2.map (PV.toQ ((qJQ p.2).getD (100000 + dst)))))),((qJQ p.2).getD (100000 + dst),ent)],[((qJQ p.2).getD (100000 + dst),none)],.v r.1,match qJQ p.2 with | some _=>[] | none=>[100000 + dst]⟩ else none
def jKV (C:Cx) (cBK:qWE):Prop:=∀ f hs ps K r,cBK f hs ps K=some r→∃ x,C.cB f hs ps=some x∧K x=some r
def selC:List PV→Int→PV
 | [],_=>.ni
 | [x],_=>x
 | x :: y :: l,i=>qWH (decide (i=0)) x (selC (y :: l) (i - 1))
theorem yYY:∀ (l:List PV) (i:Int),0≤i→i.toNat < l.length→l[i.toNat]? = some (selC l i)
 | [],i,_,h=>by simp at h
 | [x],i,h0,h=>by
  have:i.toNat=0:=by simp at h; omega
  rw [this]; rfl
 | x :: y :: l,i,h0,h=>by
  rw [selC];by_cases e:i=0
  ·subst e; rw [vYJ rfl,qVH]; rfl
  ·rw [vYY e,qVA,show i.toNat=(i - 1).toNat + 1 by omega,List.getElem?_cons_succ];exact yYY (y :: l) (i - 1) (by omega) (by simp only [vQX] at h ⊢; omega)
def evS (C:Cx) (cK:qVY) (cBK:qWE):Ev:=fun dst op vs K=>match op,vs with
 | .call ⟨.value fx,axs,ats⟩,.v (.f f first cap) :: vs=>bif C.T.rw f then (bif C.T.gk f then qUF cBK f (first.map .v ++ vs ++ cap.map .v) K else bif C.T.gq f then qUI cBK dst f (first.map .v ++ vs ++ cap.map .v) K else zUL cBK f (first.map .v ++ vs ++ cap.map .v) K) else yZX C cK dst (.call ⟨.value fx,axs,ats⟩) (.v (.f f first cap) :: vs) K
 | .call ⟨.value fx,axs,ats⟩,.g f first cap :: vs=>bif C.T.rw f && C.T.gk f then qUF cBK f (first.map .v ++ vs ++ cap.map fun c=>match c with | .v x=>.v x | .p id off cells=>.p id off cells) K else bif C.T.rw f && C.T.gq f then qUI cBK dst f (first.map .v ++ vs ++ cap.map fun c=>match c with | .v x=>.v x | .p id off cells=>.p id off cells) K else yZX C cK dst (.call ⟨.value fx,axs,ats⟩) (.g f first cap :: vs) K
 | .index t a b,[.v (.a cs),.v (.n k i)]=>(C.T.ar t).bind fun q=>bif q.2.2 then yZX C cK dst (.index t a b) [.v (.a cs),.v (.n k i)] K else bif inB i q.1 && Nat.ble q.1 cs.length then K (.val (selC cs i).toH) else none
 | .slice t a lo hi none,.v (.s s) :: vs=>(zQF lo hi vs).bind fun b=>bif C.T.str t then (bif inS b.1 b.2 s.size then K (.val (.v (.s (s.extract (loOf b.1) (hiOf b.2 s.size))))) else none) else none
 | op,vs=>yZX C cK dst op vs K
theorem qWD {C:Cx} {cBK:qWE} (hb:jKV C cBK) {f:Nat} {args:List RV} {K:Eff→Option (Ret × Mem)} {r:Ret × Mem} (h:qUF cBK f args K=some r):∃ e,qZE C.cB f args=some e∧K e=some r:=by
 unfold qUF at h;simp only [vQQ] at h;obtain ⟨p,hp,h⟩:=h;split at h
 ·rename_i m e sz rows hcs;simp only [vQQ] at h;obtain ⟨hs,hhs,h⟩:=h;obtain ⟨x,hx,h⟩:=hb _ _ _ _ _ h;rw [qKA] at h;split at h
  ·rename_i e2 sz2 y hps;simp only [vQQ] at h;obtain ⟨rows2,hr2,h⟩:=h;obtain ⟨h1,h⟩:=qZ h;refine ⟨_,?_,h⟩;unfold qZE;simp only [hp,hcs,hhs,hx,hps,hr2,vZV,h1,vYQ]
  ·cases h
 ·cases h
theorem jVE {C:Cx} {cK:qVY} {cBK:qWE} (hc:SndK C cK) (hb:jKV C cBK):EvOk C (evS C cK cBK):=fun dst op vs K r h=>by
 unfold evS at h;split at h
 ·rename_i fx axs ats f first cap vs
  cases hrw:C.T.rw f with
  | false =>
   rw [hrw,vYZ] at h;exact qJW hc h
  | true =>
   rw [hrw,vYQ] at h;cases hgk:C.T.gk f with
   | true =>
    rw [hgk,vYQ] at h;obtain ⟨e,h1,h2⟩:=qWD hb h;exact ⟨e,by simp only [qK,hrw,hgk,vYQ]; exact h1,h2⟩
   | false =>
   rw [hgk,vYZ] at h;cases hgq:C.T.gq f with
   | false =>
    rw [hgq,vYZ] at h;simp only [zUL,vQQ] at h;obtain ⟨p,hp,ps,hps,hs,hhs,h⟩:=h;obtain ⟨x,hx,h⟩:=hb _ _ _ _ _ h;rw [qKA] at h;cases hp2:Nat.beq p.1 pid2 with
    | true=>rw [hp2] at h; cases h
    | false =>
    rw [hp2,vYZ] at h;exact ⟨_,by simp only [qK,hrw,hgk,hgq,vYQ,vYZ,qVE,hp,hps,hhs,hx,hp2,vZV],h⟩
   | true =>
    rw [hgq,vYQ] at h;simp only [qUI,vQQ] at h;obtain ⟨p,hp,ps,hps,hs,hhs,h⟩:=h;obtain ⟨x,hx,h⟩:=hb _ _ _ _ _ h;rw [qKA] at h;simp only [vQQ] at h;obtain ⟨ent,hent,h⟩:=h;obtain ⟨h1,h⟩:=qZ h;refine ⟨_,?_,h⟩;simp only [qK,hrw,hgk,hgq,vYQ,vYZ];unfold qYD;simp only [hp,hps,hhs,hx,hent,vZV];rw [h1];rfl
 ·rename_i fx axs ats f first cap vs
  cases hrk:C.T.rw f && C.T.gk f with
  | true =>
   rw [hrk,vYQ] at h;rw [vQJ] at hrk;obtain ⟨e,h1,h2⟩:=qWD hb h;refine ⟨e,?_,h2⟩;show (bif C.T.rw f then (bif C.T.gk f then qZE C.cB f (first.map .v ++ vs ++ cap.map fun c=>match c with | .v x=>.v x | .p id off cells=>.p id off cells) else _) else _)=some _;rw [hrk.1,hrk.2,vYQ,vYQ];exact h1
  | false =>
  rw [hrk,vYZ] at h;cases hrw:C.T.rw f && C.T.gq f with
  | false =>
   rw [hrw,vYZ] at h;exact qJW hc h
  | true =>
   rw [hrw,vYQ] at h;rw [vQJ] at hrw;rw [hrw.1,vZW] at hrk;simp only [qUI,vQQ] at h;obtain ⟨p,hp,ps,hps,hs,hhs,h⟩:=h;obtain ⟨x,hx,h⟩:=hb _ _ _ _ _ h;rw [qKA] at h;simp only [vQQ] at h;obtain ⟨ent,hent,h⟩:=h;obtain ⟨h1,h⟩:=qZ h;refine ⟨_,?_,h⟩;show (bif C.T.rw f then (bif C.T.gk f then qZE C.cB f (first.map .v ++ vs ++ cap.map fun c=>match c with | .v x=>.v x | .p id off cells=>.p id off cells) else bif C.T.gq f then qYD C.cB dst f (first.map .v ++ vs ++ cap.map fun c=>match c with | .v x=>.v x | .p id off cells=>.p id off cells) else none) else qXE C.T C.cA C.me dst f (first.map .v ++ vs ++ cap.map fun c=>match c with | .v x=>.v x | .p id off cells=>.p id off cells))=some _;rw [hrw.1,hrk,hrw.2,vYQ,vYZ,vYQ];unfold qYD;simp only [hp,hps,hhs,hx,hent,vZV];rw [h1];rfl
 ·rename_i t a b cs k i;simp only [vQQ] at h;obtain ⟨q,hq,h⟩:=h;cases h2:q.2.2 with
  | true=>rw [h2,vYQ] at h; exact qJW hc h
  | false =>
   rw [h2,vYZ] at h;obtain ⟨hi,h⟩:=qZ h;rw [vQJ] at hi;obtain ⟨i0,i1⟩:=qYC hi.1;have hl:=vZJ hi.2;exact ⟨_,by simp only [qK,hq,vZV,hi.1,h2,vYQ,vYZ,yYY cs i i0 (by omega)],h⟩
 ·rename_i t a lo hi s vs;simp only [vQQ] at h;obtain ⟨b,hbd,h⟩:=h;obtain ⟨h1,h⟩:=qZ h;obtain ⟨h2,h⟩:=qZ h;exact ⟨_,by simp only [qK,hbd,vZV,h1,h2,vZQ,vYQ],h⟩
 ·exact qJW hc h
abbrev OrB:=Nat→Option (List HV→List PV→Option (Bool × (PV × List PV)))
structure OrS where
 a:OrK
 b:OrB
def OrS.orc (o:OrS):Orc:=⟨o.a.orc.a,fun g=>(o.b g).bind fun f=>some fun hs ps=>(f hs ps).bind fun x=>bif x.1 then some x.2 else none⟩
structure OrS.Ok (P:Program) (T:Tab) (o:OrS):Prop where
 a:o.a.Ok P
 b:∀ g f,o.b g=some f→∀ hs ps x ps',f hs ps=some (true,(x,ps'))→yHJ P g hs ps x ps' (T.gq g) (T.gk g)
theorem OrS.Ok.orc {P:Program} {T:Tab} {o:OrS} (h:o.Ok P T):OrcOk P T o.orc:=by
 refine ⟨(h.a.orc (T:=T)).a,fun g f ho hs ps x ps' hr => ?_⟩;simp only [OrS.orc,vQQ,vQZ] at ho;obtain ⟨q,hq,rfl⟩:=ho;simp only [vQQ] at hr;obtain ⟨y,hy,hr⟩:=hr;obtain ⟨h1,hr⟩:=qZ hr;obtain ⟨y1,y2⟩:=y;cases hr;exact h.b g q hq hs ps x ps' (by rw [hy,← h1])
def cxS (T:Tab) (o:OrS) (N f n:Nat):Cx:=⟨T,qYE o.orc (runF T o.orc N),qQC T o.orc (runF T o.orc N),f,n⟩
def zHB (T:Tab) (o:OrS):Nat→Nat→List HV→Mem→(Ret × Mem→Option (Ret × Mem))→Option (Ret × Mem)
 | 0,_,_,_,_=>none
 | N + 1,f,hs,M,K=>match T.fn f with
  | none=>none
  | some fi=>bif Nat.ble hs.length fi.ntmps then qXW N (cxS T o N f fi.ntmps) (evS (cxS T o N f fi.ntmps)
    (yUG o.a fun g ps K=>zHB T o N g (ps.map .v) [] fun r=>K r.1)
    (fun g hs ps K=>match o.b g with
     | some q=>(q hs ps).bind fun x=>bif x.1 then K x.2 else none
     | none=>bif T.gk g then none else zHB T o N g hs (memB (T.gq g) ps) fun r=>(qZX (T.gq g) r.2).bind fun ps'=>(zKQ r.1).bind fun x=>(zVQ (T.gq g) x).bind fun x=>K (x,ps')))
    (fun _=>none) fi.body [] (fun e σ=>(endK T M fi.results e σ).bind K) ⟨initS 0 hs,M⟩ else none
def ckS (T:Tab) (o:OrS) (N:Nat):qVY:=yUG o.a fun g ps K=>zHB T o N g (ps.map .v) [] fun r=>K r.1
def cbS (T:Tab) (o:OrS) (N:Nat):qWE:=fun g hs ps K=>match o.b g with
 | some q=>(q hs ps).bind fun x=>bif x.1 then K x.2 else none
 | none=>bif T.gk g then none else zHB T o N g hs (memB (T.gq g) ps) fun r=>(qZX (T.gq g) r.2).bind fun ps'=>(zKQ r.1).bind fun x=>(zVQ (T.gq g) x).bind fun x=>K (x,ps')
def evX (T:Tab) (o:OrS) (N f n:Nat):Ev:=evS (cxS T o N f n) (ckS T o N) (cbS T o N)
section
variable {T:Tab} {o:OrS}
def FSnd (T:Tab) (o:OrS) (N:Nat):Prop:=∀ (f:Nat) (hs:List HV) (M:Mem) (K:Ret × Mem→Option (Ret × Mem)) (r:Ret × Mem),zHB T o N f hs M K=some r→∃ x,runF T o.orc N f hs M=some x∧K x=some r
theorem jGY {N f n:Nat} (h:FSnd T o N):SndK (cxS T o N f n) (ckS T o N):=fun g qs K' r' hk=>by
 unfold ckS yUG at hk;show ∃ x,qYE o.orc (runF T o.orc N) g qs=some x∧K' x=some r';unfold qYE;cases ho:o.a g with
 | some q =>
  rw [ho] at hk;simp only [vQQ] at hk;obtain ⟨x,hx,hk⟩:=hk;obtain ⟨h1,hk⟩:=qZ hk;exact ⟨x.2,by simp only [OrS.orc,OrK.orc,ho,hx,vZV,h1,vYQ],hk⟩
 | none =>
  rw [ho] at hk;obtain ⟨x,hx,hk⟩:=h g _ _ _ r' hk;have e:o.orc.a g=none:=by simp only [OrS.orc,OrK.orc,ho,Option.bind_none]
  exact ⟨x.1,by simp only [e,hx,vZV],hk⟩
theorem jGK {N f n:Nat} (h:FSnd T o N):jKV (cxS T o N f n) (cbS T o N):=fun g hs ps K' r' hk=>by
 unfold cbS at hk;show ∃ x,qQC T o.orc (runF T o.orc N) g hs ps=some x∧K' x=some r';unfold qQC;cases ho:o.b g with
 | some q =>
  rw [ho] at hk;simp only [vQQ] at hk;obtain ⟨x,hx,hk⟩:=hk;obtain ⟨h1,hk⟩:=qZ hk;exact ⟨x.2,by simp only [OrS.orc,ho,hx,vZV,h1,vYQ],hk⟩
 | none =>
  rw [ho] at hk;cases hgk:T.gk g with
  | true=>rw [hgk] at hk; cases hk
  | false =>
  simp only [hgk,vYZ] at hk;obtain ⟨x,hx,hk⟩:=h g _ _ _ r' hk;simp only [vQQ] at hk;obtain ⟨ps',h1,y,h2,z,h3,hk⟩:=hk;have e:o.orc.b g=none:=by simp only [OrS.orc,ho,Option.bind_none]
  exact ⟨(z,ps'),by simp only [e,hgk,vYZ,hx,vZV,h1,h2,h3],hk⟩
theorem yKG {N f n:Nat} (h:FSnd T o N):EvOk (cxS T o N f n) (evX T o N f n):=jVE (jGY h) (jGK h)
theorem qXX:∀ N,FSnd T o N
 | 0,f,hs,M,K,r,h=>by cases h
 | N + 1,f,hs,M,K,r,h=>by
  simp only [zHB] at h;split at h
  ·cases h
  ·rename_i fi hfi;obtain ⟨hb,h⟩:=qZ h;have ih:FSnd T o N:=qXX N;obtain ⟨q,h1,h2⟩:=kU (K0:=K) (K':=endK T M fi.results) (B:=fi.body) (LO:=fun _=>none) (yKG (f:=f) (n:=fi.ntmps) ih) (fun p S hp=>by cases hp) fi.body [] rfl (fun e σ hk=>by
    simp only [vQQ] at hk;exact hk) _ h
   refine ⟨q,?_,h2⟩;simp only [runF,hfi,hb,vYQ];exact h1
def yYJ (T:Tab) (o:OrS) (LO:List Nat→Option yK) (N f:Nat) (hs:List HV) (M:Mem) (K:Ret × Mem→Option (Ret × Mem)):Option (Ret × Mem):=match T.fn f with
 | none=>none
 | some fi=>bif Nat.ble hs.length fi.ntmps then qXW N (cxS T o N f (ntmF T f)) (evX T o N f (ntmF T f)) LO (zVU T f) [] (fun e σ=>(endK T M fi.results e σ).bind K) ⟨initS 0 hs,M⟩ else none
theorem qXU {LO:List Nat→Option yK} {N f:Nat} {hs:List HV} {M:Mem} {K:Ret × Mem→Option (Ret × Mem)} {r:Ret × Mem} (hL:∀ p S,LO p=some S→kQ N (cxS T o N f (ntmF T f)) (qQ T f p) S) (h:yYJ T o LO N f hs M K=some r):∃ x,runF T o.orc (N + 1) f hs M=some x∧K x=some r:=by
 unfold yYJ at h;split at h
 ·cases h
 ·rename_i fi hfi;obtain ⟨hb,h⟩:=qZ h;obtain ⟨q,h1,h2⟩:=kU (K0:=K) (K':=endK T M fi.results) (B:=zVU T f) (yKG (qXX N)) hL (zVU T f) [] rfl (fun e σ hk=>by
   simp only [vQQ] at hk;exact hk) _ h
  have eb:zVU T f=fi.body:=by unfold zVU; rw [hfi]
  have en:ntmF T f=fi.ntmps:=by unfold ntmF; rw [hfi]
  rw [eb,en] at h1;refine ⟨q,?_,h2⟩;simp only [runF,hfi,hb,vYQ];unfold cxS at h1;exact h1
def qQK (T:Tab) (o:OrS) (LO:List Nat→Option yK) (N f:Nat) (ps:List PV):Option (Ret × Mem):=yYJ T o LO N f (ps.map .v) [] fun r=>some (r.1,[])
def zHE (T:Tab) (o:OrS) (LO:List Nat→Option yK) (N f:Nat) (hs:List HV) (ps:List PV):Option (Ret × Mem):=yYJ T o LO N f hs (memB (T.gq f) ps) fun r=>(qZX (T.gq f) r.2).bind fun ps'=>(zKQ r.1).bind fun x=>(zVQ (T.gq f) x).bind fun x=>some (.v (.t (x :: ps')),[])
theorem qG {P:Program} {LO:List Nat→Option yK} {N f:Nat} {ps:List PV} {r:Ret} (hT:TabOk P T) (hm:P.follows .mixedOrders=true) (hO:o.Ok P T) (hL:∀ p S,LO p=some S→kQ N (cxS T o N f (ntmF T f)) (qQ T f p) S) (h:qQK T o LO N f ps=some (r,[])):yY P f ps r:=by
 obtain ⟨x,h1,h2⟩:=qXU hL h;cases h2;refine qZK (N:=N + 1) hT hm hO.orc ?_;unfold run;rw [h1];rfl
theorem qWU {P:Program} {LO:List Nat→Option yK} {N f:Nat} {hs:List HV} {ps ps':List PV} {x:PV} (hT:TabOk P T) (hm:P.follows .mixedOrders=true) (hO:o.Ok P T) (hL:∀ p S,LO p=some S→kQ N (cxS T o N f (ntmF T f)) (qQ T f p) S) (h:zHE T o LO N f hs ps=some (.v (.t (x :: ps')),[])):yUC P f hs ps x ps' (T.gq f):=by
 obtain ⟨y,h1,h2⟩:=qXU hL h;simp only [vQQ,vQZ,vQY,Ret.v.injEq,PV.t.injEq,List.cons.injEq,and_true] at h2;obtain ⟨qs,h3,z,h4,z2,h5,rfl,rfl⟩:=h2;refine zHD (N:=N + 1) hT hm hO.orc ?_;unfold runB;rw [h1];simp only [vZV,h3,h4,h5]
theorem zXB {P:Program} {LO:List Nat→Option yK} {N f:Nat} {hs:List HV} {ps ps':List PV} {x:PV} (hT:TabOk P T) (hm:P.follows .mixedOrders=true) (hO:o.Ok P T) (hL:∀ p S,LO p=some S→kQ N (cxS T o N f (ntmF T f)) (qQ T f p) S) (h:zHE T o LO N f hs ps=some (.v (.t (x :: ps')),[])) (hq:T.gq f=false:=by rfl):yZG P f hs ps x ps':=by
 have:=qWU hT hm hO hL h
 rw [hq] at this;exact this
theorem qWX {P:Program} {LO:List Nat→Option yK} {N f:Nat} {hs:List HV} {ps ps':List PV} {x:PV} (hT:TabOk P T) (hm:P.follows .mixedOrders=true) (hO:o.Ok P T) (hL:∀ p S,LO p=some S→kQ N (cxS T o N f (ntmF T f)) (qQ T f p) S) (h:zHE T o LO N f hs ps=some (.v (.t (x :: ps')),[])) (hq:T.gq f=true:=by rfl):zVX P f hs ps x ps':=by
 have:=qWU hT hm hO hL h
 rw [hq] at this;exact this
def jZU (T:Tab) (o:OrS) (LO:List Nat→Option yK) (N f:Nat) (hs:List HV) (ps:List PV):Option (Ret × Mem):=(memK ps).bind fun M=>yYJ T o LO N f (hs.map HV.toK) M fun r=>(jZD r.2).bind fun ps'=>(zKQ r.1).bind fun x=>bif x.flat then some (.v (.t (x :: ps')),[]) else none
theorem zXA {P:Program} {LO:List Nat→Option yK} {N f:Nat} {hs:List HV} {ps ps':List PV} {x:PV} (hT:TabOk P T) (hm:P.follows .mixedOrders=true) (hO:o.Ok P T) (hL:∀ p S,LO p=some S→kQ N (cxS T o N f (ntmF T f)) (qQ T f p) S) (h:jZU T o LO N f hs ps=some (.v (.t (x :: ps')),[])):zVW P f hs ps x ps':=by
 unfold jZU at h;simp only [vQQ] at h;obtain ⟨M,hM,h⟩:=h;obtain ⟨y,h1,h2⟩:=qXU hL h;simp only [vQQ] at h2;obtain ⟨qs,h3,z,h4,h5⟩:=h2;obtain ⟨h6,h7⟩:=qZ h5;simp only [vQZ,vQY,Ret.v.injEq,PV.t.injEq,List.cons.injEq,and_true] at h7;obtain ⟨rfl,rfl⟩:=h7;refine zHA (N:=N + 1) hT hm hO.orc ?_;unfold runW;rw [hM,vZV,h1];simp only [vZV,h3,h4,h6,vYQ]
end
theorem yZ {N:Nat} {T:Tab} {o:OrS} {f:Nat} {LO:List Nat→Option yK} {p:List Nat} {τ:Type} {hd:τ→St} {ex:St→τ} {R:τ→Cont→Option (Ret × Mem)}
  (hL:∀ p S,LO p=some S→kQ N (cxS T o N f (ntmF T f)) (qQ T f p) S)
  (h:∀ s K r,R s K=some r→LFX N (cxS T o N f (ntmF T f)) (evX T o N f (ntmF T f)) LO (qQ T f p) p (T.hint f (qJ (qQ T f p))) K N (hd s)=some r):kQ N (cxS T o N f (ntmF T f)) (qQ T f p) (sumF hd ex R) :=
 yVD (B:=zVU T f) (ev:=evX T o N f (ntmF T f)) (yKG (qXX N)) hL rfl fun K σ r hr=>by
  unfold sumF at hr;obtain ⟨hg,hq⟩:=qZ hr;have e:=jVW hg
  have:=h (ex σ) K r hq
  rw [← e] at this;exact this
abbrev OrBL:=List (Nat × (List HV→List PV→Option (Bool × (PV × List PV))))
def yUD (P:Program) (f:Nat) (o:List HV→List PV→Option (Bool × (PV × List PV))):Prop:=∀ hs ps x ps',o hs ps=some (true,(x,ps'))→yZG P f hs ps x ps'
def orS (l:OrL) (m:OrBL):OrS:=⟨OrL.k l,asc m⟩
def jQQ (P:Program) (f:Nat) (o:List HV→List PV→Option (Bool × (PV × List PV))):Prop:=∀ hs ps x ps',o hs ps=some (true,(x,ps'))→zVX P f hs ps x ps'
def OneOkBq (P:Program) (f:Nat) (o:List HV→List PV→Option (Bool × (PV × List PV))):Bool→Prop
 | false=>yUD P f o
 | true=>jQQ P f o
theorem OneOkBq.at {P:Program} {f:Nat} {o:List HV→List PV→Option (Bool × (PV × List PV))} {q:Bool} (h:OneOkBq P f o q) {hs:List HV} {ps ps':List PV} {x:PV} (ho:o hs ps=some (true,(x,ps'))):yUC P f hs ps x ps' q:=by
 cases q with
 | false=>exact h hs ps x ps' ho
 | true=>exact h hs ps x ps' ho
def jQZ (P:Program) (f:Nat) (o:List HV→List PV→Option (Bool × (PV × List PV))):Prop:=∀ hs ps x ps',o hs ps=some (true,(x,ps'))→zVW P f hs ps x ps'
def OneOkBk (P:Program) (f:Nat) (o:List HV→List PV→Option (Bool × (PV × List PV))) (q:Bool):Bool→Prop
 | false=>OneOkBq P f o q
 | true=>jQZ P f o
theorem OneOkBk.at {P:Program} {f:Nat} {o:List HV→List PV→Option (Bool × (PV × List PV))} {q k:Bool} (h:OneOkBk P f o q k) {hs:List HV} {ps ps':List PV} {x:PV} (ho:o hs ps=some (true,(x,ps'))):yHJ P f hs ps x ps' q k:=by
 cases k with
 | false=>exact OneOkBq.at h ho
 | true=>exact h hs ps x ps' ho
theorem yG {P:Program} {T:Tab} {l:OrL} {m:OrBL} (h:AllP (fun x:Nat × (List PV→Option (Bool × Ret))=>qQY P x.1 x.2) l) (hb:AllP (fun x:Nat × (List HV→List PV→Option (Bool × (PV × List PV)))=>OneOkBk P x.1 x.2 (T.gq x.1) (T.gk x.1)) m):(orS l m).Ok P T :=
 ⟨OrL.ok h,fun _ _ ho hs ps x ps' hr=>(hb.of (uX ho)).at hr⟩
end Go.Rx
namespace Go.Rx
open Go.RowKit Go.Sx
noncomputable def gEq (a b:PV):Bool:=@decide (a=b) (vZH _)
theorem yVL (a:PV):gEq a a=true:=@vYJ _ (vZH _) rfl
theorem yHB {a b:PV} (h:gEq a b=true):a=b:=@vYK _ (vZH _) h
noncomputable def g1 (l:List PV):Bool:=gEq (.t l) (.t l)
theorem g1_t (l:List PV):g1 l=true:=yVL _
noncomputable def o_lk (as_:List PV) (g:Bool) (r:Ret):List PV→Option (Bool × Ret):=fun ps=>some (gEq (.t ps) (.t as_) && g,r)
theorem jXI {P:Program} {f:Nat} {as_:List PV} {g:Bool} {r:Ret} (h:g=true→yY P f as_ r):qQY P f (o_lk as_ g r):=by
 intro ps q hh;unfold o_lk at hh;simp only [vQZ,vQY,vQJ] at hh;obtain ⟨⟨hg,hb⟩,rfl⟩:=hh
 have:=yHB hg
 simp only [PV.t.injEq] at this;rw [this];exact h hb
noncomputable def o_cr (as_:List PV) (r:Ret):List PV→Option (Bool × Ret):=fun ps=>some (gEq (.t ps) (.t as_),r)
theorem yWB {P:Program} {f:Nat} {as_:List PV} {r:Ret} (h:yY P f as_ r):qQY P f (o_cr as_ r):=by
 intro ps q hh;unfold o_cr at hh;simp only [vQZ,vQY] at hh;obtain ⟨hg,rfl⟩:=hh
 have:=yHB hg
 simp only [PV.t.injEq] at this;rw [this];exact h
noncomputable def gP (p:Prop):Bool:=@decide p (vZH _)
theorem jVV {p:Prop} (h:p):gP p=true:=@vYJ _ (vZH _) h
theorem zYX {p:Prop} (h:gP p=true):p:=@vYK _ (vZH _) h
noncomputable def gFam {τ:Type} (C:τ→Prop) (enc:τ→List PV) (t:τ) (ps:List PV):Bool:=gP (C t∧ps=enc t)
noncomputable def gF1 {τ:Type} (C:τ→Prop) (enc:τ→List PV) (t:τ):Bool:=gFam C enc t (enc t)
theorem kW {τ:Type} {C:τ→Prop} {enc:τ→List PV} {t:τ} (h:C t):gF1 C enc t=true:=jVV ⟨h,rfl⟩
noncomputable def o_fm {τ:Type} (dec:List PV→τ) (C:τ→Prop) (enc:τ→List PV) (res:τ→Ret):List PV→Option (Bool × Ret):=fun ps=>some (gFam C enc (dec ps) ps,res (dec ps))
theorem qQF {P:Program} {f:Nat} {τ:Type} {dec:List PV→τ} {C:τ→Prop} {enc:τ→List PV} {res:τ→Ret} (h:∀ t,C t→yY P f (enc t) (res t)):qQY P f (o_fm dec C enc res):=by
 intro ps r hh;unfold o_fm at hh;simp only [vQZ,vQY] at hh;obtain ⟨hg,rfl⟩:=hh;obtain ⟨hc,e⟩:=zYX hg
 have:=h _ hc
 rw [← e] at this;exact this
noncomputable def jVG {τ:Type} (C:τ→Prop) (eh:τ→List HV) (ep:τ→List PV) (t:τ) (hs:List HV) (ps:List PV):Bool:=gP (C t∧hs=eh t∧ps=ep t)
noncomputable def gB1 {τ:Type} (C:τ→Prop) (eh:τ→List HV) (ep:τ→List PV) (t:τ):Bool:=jVG C eh ep t (eh t) (ep t)
theorem qGL {τ:Type} {C:τ→Prop} {eh:τ→List HV} {ep:τ→List PV} {t:τ} (h:C t):gB1 C eh ep t=true:=jVV ⟨h,rfl,rfl⟩
noncomputable def o_fb {τ:Type} (dec:List HV→List PV→τ) (C:τ→Prop) (eh:τ→List HV) (ep:τ→List PV) (x:τ→PV) (qs:τ→List PV):List HV→List PV→Option (Bool × (PV × List PV)):=fun hs ps=>some (jVG C eh ep (dec hs ps) hs ps,(x (dec hs ps),qs (dec hs ps)))
theorem kQB {P:Program} {f:Nat} {τ:Type} {dec:List HV→List PV→τ} {C:τ→Prop} {eh:τ→List HV} {ep:τ→List PV} {x:τ→PV} {qs:τ→List PV} (h:∀ t,C t→yZG P f (eh t) (ep t) (x t) (qs t)):yUD P f (o_fb dec C eh ep x qs):=by
 intro hs ps y ps' hh;unfold o_fb at hh;simp only [vQZ,vQY] at hh;obtain ⟨hg,rfl,rfl⟩:=hh;obtain ⟨hc,e1,e2⟩:=zYX hg
 have:=h _ hc
 rw [← e1,← e2] at this;exact this
theorem jWK {P:Program} {f:Nat} {τ:Type} {dec:List HV→List PV→τ} {C:τ→Prop} {eh:τ→List HV} {ep:τ→List PV} {x:τ→PV} {qs:τ→List PV} (h:∀ t,C t→zVX P f (eh t) (ep t) (x t) (qs t)):jQQ P f (o_fb dec C eh ep x qs):=by
 intro hs ps y ps' hh;unfold o_fb at hh;simp only [vQZ,vQY] at hh;obtain ⟨hg,rfl,rfl⟩:=hh;obtain ⟨hc,e1,e2⟩:=zYX hg
 have:=h _ hc
 rw [← e1,← e2] at this;exact this
theorem kQA {P:Program} {f:Nat} {τ:Type} {dec:List HV→List PV→τ} {C:τ→Prop} {eh:τ→List HV} {ep:τ→List PV} {x:τ→PV} {qs:τ→List PV} (h:∀ t,C t→zVW P f (eh t) (ep t) (x t) (qs t)):jQZ P f (o_fb dec C eh ep x qs):=by
 intro hs ps y ps' hh;unfold o_fb at hh;simp only [vQZ,vQY] at hh;obtain ⟨hg,rfl,rfl⟩:=hh;obtain ⟨hc,e1,e2⟩:=zYX hg
 have:=h _ hc
 rw [← e1,← e2] at this;exact this
def fQ (q:Nat→Int):Nat→List PV:=fun v=>[.n .i64 (q v)]
def unFQ (f:Nat→List PV):Nat→Int:=fun i=>match f i with
 | [.n _ x]=>x
 | _=>0
def iqOf (l:List Int):Nat→Int:=fun i=>l.getD i 0
theorem yJB (l:List Int):Same (yJC l) (.lf l.length (fQ (iqOf l))):=Same.lf (jZX 0 (fun x=>[PV.n .i64 x]) l)
theorem toN (p:Nat):(p:Int).toNat=p:=by omega
theorem uK {p:Nat} (_:p < 1000000):vYX .i64 ((p:Int) + 1)=((p + 1:Nat):Int):=by rw [yH (by omega)]; omega
theorem zU {p n:Nat} (_:p < n):inB (p:Int) n=true:=by unfold inB; rw [vYJ (show (0:Int)≤p by omega),vYJ (show (p:Int).toNat < n by omega)]; rfl
def qUW {τ:Type} (nx:Nat→τ→τ):Nat→Nat→τ→τ
 | 0,_,s=>s
 | m + 1,p,s=>qUW nx m (p + 1) (nx p s)
theorem jG {τ:Type} {nx:Nat→τ→τ} {Q:Nat→τ→Prop} {c:Nat} (h:∀ i s,i < c→Q i s→Q (i + 1) (nx i s)):∀ r p s,p + r=c→Q p s→Q c (qUW nx r p s)
 | 0,p,s,hp,hq=>by
  obtain rfl:p=c:=by omega
  exact hq
 | r + 1,p,s,hp,hq=>jG h r (p + 1) (nx p s) (by omega) (h p s (by omega) hq)
theorem qYQ {β:Type} (good:Nat→Bool) (KX:β) (KR:Nat→β):∀ k p,runS (fun (i:Nat) (_:Unit)=>good i) (fun _ _=>()) (fun _=>KX) (fun i _=>KR i) k p ()=qGK good KX KR k p
 | 0,_=>rfl
 | k + 1,p=>by simp only [runS,qGK,qYQ good KX KR k (p + 1)]
def slI (σ:St) (k:Nat):Int:=match jJ σ.S k with
 | some (.v (.n _ x))=>x
 | _=>0
def rgN (σ:St) (k:Nat):Nat:=match qX σ.M k with
 | some (.reg _ _ (.fo n _))=>n
 | _=>0
def rgF (σ:St) (k:Nat):Nat→List PV:=match qX σ.M k with
 | some (.reg _ _ (.fo _ f))=>f
 | _=>fun _=>[]
def bkC (σ:St) (k i:Nat):Int:=match qX σ.M k with
 | some (.blk cs)=>match cs[i]? with
  | some (.v (.n _ x))=>x
  | _=>0
 | _=>0
def mA (w m:Nat):Nat→Nat
 | 0=>m
 | i + 1=>min (mA w m i + 1) w
theorem yJY {w m:Nat} (h:m≤w):∀ i,mA w m i≤w
 | 0=>h
 | i + 1=>Nat.min_le_right _ _
def eW (e:Nat→Int) (w m:Nat):Int:=bif Nat.blt m w then e m else 0
def nxV (e:Nat→Int) (w m:Nat) (k:Int):Int:=eW e w m % k
theorem jJV {e:Nat→Int} {w m:Nat} {k:Int} (h:0 < k):0≤nxV e w m k∧nxV e w m k < k:=⟨Int.emod_nonneg _ (by omega),Int.emod_lt_of_pos _ h⟩
end Go.Rx
namespace Go.Rx
open Go.RowKit Go.Sx Go.ChangeShapes Go.WideShapes
inductive FitB:Sh→PV→Prop
 | i (k:IntKind) (x:Int) (h:(Lit.int k x).wf=true):FitB (.i k) (.n k x)
 | b (x:Bool):FitB .b (.b x)
 | s (x:ByteArray) (h:x.size≤maxLen):FitB .s (.s x)
 | l (row:List Sh) (n:Nat) (f:Nat→List PV) (hn:n≤maxLen) (hB:n * (8 * row.length)≤reachBytes) (hl:∀ j,j < n→(f j).length=row.length) (h:∀ j,j < n→∀ (i:Nat) sh p,row[i]? = some sh→(f j)[i]? = some p→FitB sh p):FitB (.l row) (.lf n f)
section
variable {P:Program} {w:World} {H:Type} {enc:TypeId × Value→H}
def GoodB (w:World) (shs:List Sh) (cs:List Value):Prop:=∃ ps:List PV,ps.length=shs.length∧(∀ (i:Nat) sh p,shs[i]? = some sh→ps[i]? = some p→FitB sh p)∧Al (RP (fun k=>k < w.heap.size) w) ps cs∧∀ v ∈ cs,v.oneCell'=true
theorem GoodB.one {sh:Sh} {p:PV} {v:Value} (h1:FitB sh p) (h2:RP (fun k=>k < w.heap.size) w p v) (h3:v.oneCell'=true):GoodB w [sh] [v] :=
 ⟨[p],rfl,(fun i s0 q hs hq=>by
  match i with
  | 0=>cases hs; cases hq; exact h1
  | i + 1=>cases hs),qXF h2 zXZ,(fun u hu=>by obtain rfl:=List.mem_singleton.1 hu; exact h3)⟩
theorem GoodB.cat {r s:List Sh} {cs ds:List Value} (h1:GoodB w r cs) (h2:GoodB w s ds):GoodB w (r ++ s) (cs ++ ds):=by
 obtain ⟨p,a1,a2,a3,a4⟩:=h1;obtain ⟨q,b1,b2,b3,b4⟩:=h2;refine ⟨p ++ q,by simp [a1,b1],fun i sh x hs hx => ?_,a3.append b3,fun v hv => ?_⟩
 ·rcases Nat.lt_or_ge i r.length with hi | hi
  ·rw [List.getElem?_append_left hi] at hs;rw [List.getElem?_append_left (by omega)] at hx;exact a2 i sh x hs hx
  ·rw [List.getElem?_append_right hi] at hs;rw [List.getElem?_append_right (by omega),a1] at hx;exact b2 _ sh x hs hx
 ·rcases List.mem_append.1 hv with h | h
  ·exact a4 v h
  ·exact b4 v h
def PiecesB (w:World):List (List Sh)→List Value→Prop
 | [],cs=>cs=[]
 | r :: l,cs=>GoodB w r (cs.take r.length)∧PiecesB w l (cs.drop r.length)
theorem PiecesB.good:∀ {l:List (List Sh)} {cs:List Value},PiecesB w l cs→GoodB w l.flatten cs
 | [],cs,h=>by
  have:cs=[]:=h
  subst this;exact ⟨[],rfl,fun i sh p hs=>by simp at hs,zXZ,fun v hv=>by cases hv⟩
 | r :: l,cs,h=>by
  have:=GoodB.cat h.1 h.2.good
  rw [List.take_append_drop] at this;exact this
end
section
variable {P:Program} {W:World} {H:Type} {enc:TypeId × Value→H}
def FitsB (row:List Sh) (ps:List PV):Prop:=ps.length=row.length∧∀ (i:Nat) sh p,row[i]? = some sh→ps[i]? = some p→FitB sh p
theorem FitsB.cons {s0:Sh} {row:List Sh} {ps:List PV} (h:FitsB (s0 :: row) ps):∃ p qs,ps=p :: qs∧FitB s0 p∧FitsB row qs:=by
 cases ps with
 | nil=>have:=h.1; simp at this
 | cons p qs=>exact ⟨p,qs,rfl,h.2 0 s0 p rfl rfl,by have:=h.1; simpa using this,fun i sh q h1 h2=>h.2 (i + 1) sh q h1 h2⟩
theorem FitsB.nil {ps:List PV} (h:FitsB [] ps):ps=[]:=List.eq_nil_of_length_eq_zero h.1
theorem FitB.int {k:IntKind} {p:PV} (h:FitB (.i k) p):∃ x,p=.n k x∧(Lit.int k x).wf=true:=by cases h with | i k x h=>exact ⟨x,rfl,h⟩
theorem FitB.str {p:PV} (h:FitB .s p):∃ x,p=.s x:=by cases h with | s x h=>exact ⟨x,rfl⟩
theorem FitB.slc {row:List Sh} {p:PV} (h:FitB (.l row) p):∃ n f,p=.lf n f∧n * (8 * row.length)≤reachBytes∧∀ j,j < n→FitsB row (f j):=by
 cases h with
 | l row n f hn hB hl h=>exact ⟨n,f,rfl,hB,fun j hj=>⟨hl j hj,h j hj⟩⟩
end
end Go.Rx
namespace Go.Rx
open Go.Sx
variable {P:Program}
theorem jJH {t:TypeId} {ms:Array (String × TypeId)} {w:World} (hu:P.underlying t=some (.interface ms)):(binOp .neq t .nilIface .nilIface).run P w=.ok (.bool false) w:=by
 have h:(Op.equal t .nilIface .nilIface).run P w=.ok true w:=by
  unfold Op.equal;rw [show Op.maxDepth=9999 + 1 from rfl,Op.equalIn];simp [run_underlying hu]
 simp [binOp,go_sem,h]
theorem zVZ {f:FuncId} {fn:Func} {x:Code} {i j:Nat} {t t':TypeId} {p p':String} {ed:Array Edge} (hf:P.funcs[f]? = some fn)
  (hb:fn.body=some (.seq (.region 0 #[⟨some i,.call ⟨.builtin .recover,#[],#[]⟩,t,p,#[],none⟩,⟨some j,.binOp .neq t (.tmp i) (.const .nilIface) t,t',p',ed,none⟩] false) (.cond (.tmp j) x .skip)))
  (hr:fn.results=#[]) (hi:i < fn.ntmps) (hj:j < fn.ntmps) (hij:i ≠ j) {ms:Array (String × TypeId)} (hT:P.underlying t=some (.interface ms)) (args:Array Value) (w:World) :
  CallsD P f args .returning w fun e u w'=>(∃ v,e=.returned v)∧u=.returning∧w'=w:=by
 refine callsD_of_wpS hf hb fun c₀ cs hu => ?_
 have hs:(args ++ Array.replicate (fn.ntmps - args.size) undef).size ≥ fn.ntmps:=by simp; omega
 generalize args ++ Array.replicate (fn.ntmps - args.size) undef=T at hs;apply wpS_seq;apply wpS_region;have hi':i < T.size:=by omega
 have hj':j < T.size:=by omega
 simp [wpOpsS,go_sem,recoverD,hu,Exit.thenS,hi',jJH hT];refine wpS_cond (t:=false) (by simp [Act.eval,hj',hij]) ?_;refine wpS_of_wp (wp_skip ?_);obtain ⟨⟩:=c₀;subst hu;simp [bodyPostS,results,hr,go_sem]
end Go.Rx
namespace Go.Proofs.Ytglkkhpdbfacfaa.Rt
open Go.Rx Go.Sx
noncomputable def tabs:Tabs where
 sz:=[(1,false,1),
  (2,false,1),
  (3,false,1),
  (4,false,1),
  (5,false,1),
  (6,false,1),
  (7,true,4),
  (8,true,4),
  (9,false,1),
  (10,false,1),
  (11,false,1),
  (12,false,1),
  (13,true,2),
  (14,true,2),
  (15,false,1),
  (16,false,1),
  (17,false,1),
  (18,true,1),
  (19,true,1),
  (20,false,1),
  (21,false,1),
  (22,false,1),
  (23,false,1),
  (24,true,2),
  (25,true,2),
  (26,false,1),
  (27,false,1),
  (28,false,1),
  (29,false,1),
  (30,false,1),
  (32,false,1),
  (34,false,1),
  (35,false,1),
  (36,false,1),
  (37,false,1),
  (38,false,1),
  (39,false,1),
  (40,false,1),
  (41,false,1),
  (42,false,1),
  (44,false,1),
  (45,false,1),
  (46,false,1),
  (47,false,1),
  (49,false,1),
  (50,false,1),
  (51,false,1),
  (52,true,2),
  (53,true,2),
  (55,false,1),
  (56,false,1),
  (57,false,1),
  (58,false,1),
  (59,true,3),
  (60,true,3),
  (61,true,3),
  (62,true,3),
  (63,true,8),
  (64,true,8),
  (65,true,12),
  (66,true,12),
  (67,false,1),
  (68,false,1),
  (69,false,1),
  (70,false,1),
  (71,true,8),
  (72,false,1),
  (73,false,1),
  (74,false,1),
  (75,true,2),
  (76,true,2),
  (77,false,1),
  (78,false,1),
  (79,false,1),
  (80,false,1),
  (81,false,1),
  (82,true,2),
  (83,true,2),
  (84,true,2),
  (85,false,1),
  (86,false,1),
  (87,false,1),
  (88,false,1),
  (89,false,1),
  (90,false,1),
  (91,false,1),
  (92,false,1),
  (93,false,1),
  (94,false,1),
  (95,true,2),
  (96,true,2),
  (97,true,3),
  (98,true,3),
  (99,false,1),
  (100,false,1),
  (101,false,1),
  (102,false,1),
  (103,true,2),
  (104,true,2),
  (105,false,1),
  (106,false,1),
  (107,false,1),
  (108,false,1),
  (109,false,1),
  (110,false,1),
  (111,false,1),
  (112,false,1),
  (113,true,4),
  (114,true,4),
  (118,false,1),
  (119,false,1),
  (120,false,1),
  (121,false,1),
  (122,false,1),
  (123,false,1),
  (124,false,1),
  (125,false,1),
  (126,true,11),
  (127,true,11),
  (128,true,3),
  (129,true,3)]
 zr:=[(1,.nilFunc),
  (2,.int .i64 0),
  (3,.int .i64 0),
  (4,.bool false),
  (5,.int .u8 0),
  (6,.int .u8 0),
  (7,.agg #[.int .i64 0,.int .i64 0,.bool false,.int .u8 0]),
  (8,.agg #[.int .i64 0,.int .i64 0,.bool false,.int .u8 0]),
  (9,.string ByteArray.empty),
  (10,.string ByteArray.empty),
  (11,.string ByteArray.empty),
  (12,.int .u64 0),
  (13,.agg #[.string ByteArray.empty,.int .u64 0]),
  (14,.agg #[.string ByteArray.empty,.int .u64 0]),
  (15,.pointer none),
  (16,.pointer none),
  (17,.pointer none),
  (18,.agg #[.pointer none]),
  (19,.agg #[.pointer none]),
  (20,.nilIface),
  (21,.int .i32 0),
  (22,.slice none 0 0),
  (23,.slice none 0 0),
  (24,.agg #[.slice none 0 0,.slice none 0 0]),
  (25,.agg #[.slice none 0 0,.slice none 0 0]),
  (26,.slice none 0 0),
  (27,.slice none 0 0),
  (28,.nilFunc),
  (29,.nilFunc),
  (30,.nilFunc),
  (32,.nilFunc),
  (34,.nilFunc),
  (35,.nilFunc),
  (36,.nilFunc),
  (37,.nilFunc),
  (38,.nilFunc),
  (39,.nilFunc),
  (40,.nilFunc),
  (41,.nilFunc),
  (42,.nilFunc),
  (44,.nilFunc),
  (45,.nilFunc),
  (46,.nilFunc),
  (47,.slice none 0 0),
  (49,.nilFunc),
  (50,.nilFunc),
  (51,.nilFunc),
  (52,.agg #[.slice none 0 0,.int .i64 0]),
  (53,.agg #[.slice none 0 0,.int .i64 0]),
  (55,.nilFunc),
  (56,.nilFunc),
  (57,.slice none 0 0),
  (58,.slice none 0 0),
  (59,.agg #[.int .i64 0,.int .i64 0,.slice none 0 0]),
  (60,.agg #[.int .i64 0,.int .i64 0,.slice none 0 0]),
  (61,.agg #[.int .i64 0,.slice none 0 0,.slice none 0 0]),
  (62,.agg #[.int .i64 0,.slice none 0 0,.slice none 0 0]),
  (63,.agg #[.int .i64 0,.slice none 0 0,.int .i64 0,.int .i64 0,.slice none 0 0,.int .i64 0,.slice none 0 0,.slice none 0 0]),
  (64,.agg #[.int .i64 0,.slice none 0 0,.int .i64 0,.int .i64 0,.slice none 0 0,.int .i64 0,.slice none 0 0,.slice none 0 0]),
  (65,.agg #[.int .i64 0,.int .i64 0,.int .i64 0,.int .i64 0,.int .i64 0,.slice none 0 0,.int .i64 0,.int .i64 0,.slice none 0 0,.int .i64 0,.slice none 0 0,.slice none 0 0]),
  (66,.agg #[.int .i64 0,.int .i64 0,.int .i64 0,.int .i64 0,.int .i64 0,.slice none 0 0,.int .i64 0,.int .i64 0,.slice none 0 0,.int .i64 0,.slice none 0 0,.slice none 0 0]),
  (67,.nilFunc),
  (68,.pointer none),
  (69,.nilFunc),
  (70,.nilFunc),
  (71,.agg #[.int .i64 0,.int .i64 0,.int .i64 0,.int .i64 0,.int .i64 0,.int .i64 0,.int .i64 0,.int .i64 0]),
  (72,.nilFunc),
  (73,.slice none 0 0),
  (74,.nilFunc),
  (75,.agg #[.int .i64 0,.int .i64 0]),
  (76,.agg #[.int .i64 0,.int .i64 0]),
  (77,.nilFunc),
  (78,.nilFunc),
  (79,.nilFunc),
  (80,.nilFunc),
  (81,.nilFunc),
  (82,.agg #[.slice none 0 0,.int .i64 0]),
  (83,.agg #[.slice none 0 0,.int .i64 0]),
  (84,.agg #[.int .i64 0,.int .i64 0]),
  (85,.slice none 0 0),
  (86,.nilFunc),
  (87,.nilFunc),
  (88,.nilFunc),
  (89,.slice none 0 0),
  (90,.nilFunc),
  (91,.pointer none),
  (92,.nilFunc),
  (93,.nilFunc),
  (94,.slice none 0 0),
  (95,.agg #[.int .i64 0,.int .i64 0]),
  (96,.agg #[.int .i64 0,.int .i64 0]),
  (97,.agg #[.int .i64 0,.int .i64 0,.int .i64 0]),
  (98,.agg #[.int .i64 0,.int .i64 0,.int .i64 0]),
  (99,.slice none 0 0),
  (100,.slice none 0 0),
  (101,.nilFunc),
  (102,.slice none 0 0),
  (103,.agg #[.int .i64 0,.int .i64 0]),
  (104,.agg #[.int .i64 0,.int .i64 0]),
  (105,.nilFunc),
  (106,.nilFunc),
  (107,.nilFunc),
  (108,.nilFunc),
  (109,.nilFunc),
  (110,.pointer none),
  (111,.nilFunc),
  (112,.nilFunc),
  (113,.agg #[.pointer none,.pointer none,.pointer none,.string ByteArray.empty]),
  (114,.agg #[.pointer none,.pointer none,.pointer none,.string ByteArray.empty]),
  (115,.agg #[]),
  (116,.agg #[]),
  (117,.agg #[]),
  (118,.nilFunc),
  (119,.int .u32 0),
  (120,.int .u8 0),
  (121,.int .u8 0),
  (122,.nilFunc),
  (123,.pointer none),
  (124,.int .i32 0),
  (125,.int .i32 0),
  (126,.agg #[.int .u64 0,.int .u64 0,.int .u32 0,.int .u8 0,.int .u8 0,.int .u8 0,.int .u8 0,.nilFunc,.pointer none,.int .i32 0,.int .i32 0]),
  (127,.agg #[.int .u64 0,.int .u64 0,.int .u32 0,.int .u8 0,.int .u8 0,.int .u8 0,.int .u8 0,.nilFunc,.pointer none,.int .i32 0,.int .i32 0]),
  (128,.agg #[.int .i64 0,.int .i64 0,.int .i64 0]),
  (129,.agg #[.int .i64 0,.int .i64 0,.int .i64 0])]
 fd:=[(7,[0,1,2,3]),
  (8,[0,1,2,3]),
  (13,[0,1]),
  (14,[0,1]),
  (18,[0]),
  (19,[0]),
  (24,[0,1]),
  (25,[0,1]),
  (52,[0,1]),
  (53,[0,1]),
  (59,[0,1,2]),
  (60,[0,1,2]),
  (61,[0,1,2]),
  (62,[0,1,2]),
  (63,[0,1,2,5]),
  (64,[0,1,2,5]),
  (65,[0,1,2,3,4]),
  (66,[0,1,2,3,4]),
  (75,[0,1]),
  (76,[0,1]),
  (82,[0,1]),
  (83,[0,1]),
  (95,[0,1]),
  (96,[0,1]),
  (97,[0,2]),
  (98,[0,2]),
  (103,[0,1]),
  (104,[0,1]),
  (113,[0,1,2,3]),
  (114,[0,1,2,3]),
  (126,[0,1,2,3,4,5,6,7,8,9,10]),
  (127,[0,1,2,3,4,5,6,7,8,9,10])]
 fx:=[(7,[(0,false,1),(1,false,1),(2,false,1),(3,false,1)]),
  (8,[(0,false,1),(1,false,1),(2,false,1),(3,false,1)]),
  (13,[(0,false,1),(1,false,1)]),
  (14,[(0,false,1),(1,false,1)]),
  (18,[(0,false,1)]),
  (19,[(0,false,1)]),
  (24,[(0,false,1),(1,false,1)]),
  (25,[(0,false,1),(1,false,1)]),
  (52,[(0,false,1),(1,false,1)]),
  (53,[(0,false,1),(1,false,1)]),
  (59,[(0,false,1),(1,false,1),(2,false,1)]),
  (60,[(0,false,1),(1,false,1),(2,false,1)]),
  (61,[(0,false,1),(1,false,1),(2,false,1)]),
  (62,[(0,false,1),(1,false,1),(2,false,1)]),
  (63,[(0,false,1),(1,false,1),(2,true,3),(5,true,3)]),
  (64,[(0,false,1),(1,false,1),(2,true,3),(5,true,3)]),
  (65,[(0,false,1),(1,false,1),(2,false,1),(3,false,1),(4,true,8)]),
  (66,[(0,false,1),(1,false,1),(2,false,1),(3,false,1),(4,true,8)]),
  (75,[(0,false,1),(1,false,1)]),
  (76,[(0,false,1),(1,false,1)]),
  (82,[(0,false,1),(1,false,1)]),
  (83,[(0,false,1),(1,false,1)]),
  (95,[(0,false,1),(1,false,1)]),
  (96,[(0,false,1),(1,false,1)]),
  (97,[(0,true,2),(2,false,1)]),
  (98,[(0,true,2),(2,false,1)]),
  (103,[(0,false,1),(1,false,1)]),
  (104,[(0,false,1),(1,false,1)]),
  (113,[(0,false,1),(1,false,1),(2,false,1),(3,false,1)]),
  (114,[(0,false,1),(1,false,1),(2,false,1),(3,false,1)]),
  (126,[(0,false,1),(1,false,1),(2,false,1),(3,false,1),(4,false,1),(5,false,1),(6,false,1),(7,false,1),(8,false,1),(9,false,1),(10,false,1)]),
  (127,[(0,false,1),(1,false,1),(2,false,1),(3,false,1),(4,false,1),(5,false,1),(6,false,1),(7,false,1),(8,false,1),(9,false,1),(10,false,1)])]
 ar:=[(71,8,1,false),
  (84,2,1,false),
  (115,0,1,false),
  (128,3,1,false),
  (129,3,1,false)]
 sl:=[(22,26,1,24),
  (23,66,12,160),
  (26,2,1,8),
  (27,3,1,8),
  (47,4,1,1),
  (57,60,3,40),
  (58,129,3,24),
  (73,76,2,16),
  (85,84,2,16),
  (89,102,1,24),
  (94,96,2,16),
  (99,98,3,24),
  (100,98,3,24),
  (102,104,2,16)]
 ly:=[(7,[(0,1),(1,1),(2,1),(3,1)]),
  (8,[(0,1),(1,1),(2,1),(3,1)]),
  (13,[(0,1),(1,1)]),
  (14,[(0,1),(1,1)]),
  (18,[(0,1)]),
  (19,[(0,1)]),
  (24,[(0,1),(1,1)]),
  (25,[(0,1),(1,1)]),
  (52,[(0,1),(1,1)]),
  (53,[(0,1),(1,1)]),
  (59,[(0,1),(1,1),(2,1)]),
  (60,[(0,1),(1,1),(2,1)]),
  (61,[(0,1),(1,1),(2,1)]),
  (62,[(0,1),(1,1),(2,1)]),
  (63,[(0,1),(1,1),(2,3),(5,3)]),
  (64,[(0,1),(1,1),(2,3),(5,3)]),
  (65,[(0,1),(1,1),(2,1),(3,1),(4,8)]),
  (66,[(0,1),(1,1),(2,1),(3,1),(4,8)]),
  (71,[(0,1),(1,1),(2,1),(3,1),(4,1),(5,1),(6,1),(7,1)]),
  (75,[(0,1),(1,1)]),
  (76,[(0,1),(1,1)]),
  (82,[(0,1),(1,1)]),
  (83,[(0,1),(1,1)]),
  (84,[(0,1),(1,1)]),
  (95,[(0,1),(1,1)]),
  (96,[(0,1),(1,1)]),
  (97,[(0,2),(2,1)]),
  (98,[(0,2),(2,1)]),
  (103,[(0,1),(1,1)]),
  (104,[(0,1),(1,1)]),
  (113,[(0,1),(1,1),(2,1),(3,1)]),
  (114,[(0,1),(1,1),(2,1),(3,1)]),
  (115,[]),
  (126,[(0,1),(1,1),(2,1),(3,1),(4,1),(5,1),(6,1),(7,1),(8,1),(9,1),(10,1)]),
  (127,[(0,1),(1,1),(2,1),(3,1),(4,1),(5,1),(6,1),(7,1),(8,1),(9,1),(10,1)]),
  (128,[(0,1),(1,1),(2,1)]),
  (129,[(0,1),(1,1),(2,1)])]
 ik:=[(2,.i64),
  (3,.i64),
  (5,.u8),
  (6,.u8),
  (12,.u64),
  (21,.i32),
  (119,.u32),
  (120,.u8),
  (121,.u8),
  (124,.i32),
  (125,.i32)]
 str:=[9,
  10,
  11]
 bo:=[4]
 eq:=[(96,[.i .i64,.i .i64])]
 fn:=[(3,Try.f3),
  (4,Try.f4),
  (5,Try.f5),
  (6,Try.f6),
  (7,Try.f7),
  (8,Try.f8),
  (9,Try.f9),
  (10,Try.f10),
  (11,Try.f11),
  (12,Try.f12),
  (13,Try.f13),
  (14,Try.f14),
  (15,Try.f15),
  (16,Try.f16),
  (17,Try.f17),
  (18,Try.f18),
  (19,Try.f19),
  (20,Try.f20),
  (21,Try.f21),
  (22,Try.f22),
  (23,Try.f23),
  (24,Try.f24),
  (25,Try.f25),
  (26,Try.f26),
  (27,Try.f27),
  (28,Try.f28),
  (29,Try.f29),
  (30,Try.f30),
  (31,Try.f31),
  (32,Try.f32),
  (33,Try.f33),
  (34,Try.f34),
  (35,Try.f35),
  (36,Try.f36),
  (37,Try.f37),
  (38,Try.f38),
  (39,Try.f39),
  (40,Try.f40),
  (41,Try.f41),
  (42,Try.f42),
  (43,Try.f43),
  (44,Try.f44),
  (45,Try.f45),
  (46,Try.f46),
  (47,Try.f47),
  (48,Try.f48),
  (49,Try.f49),
  (50,Try.f50),
  (51,Try.f51),
  (52,Try.f52),
  (53,Try.f53),
  (54,Try.f54),
  (55,Try.f55),
  (56,Try.f56),
  (57,Try.f57),
  (58,Try.f58),
  (59,Try.f59),
  (60,Try.f60),
  (61,Try.f61),
  (62,Try.f62),
  (63,Try.f63),
  (64,Try.f64),
  (65,Try.f65),
  (66,Try.f66),
  (67,Try.f67),
  (68,Try.f68),
  (69,Try.f69),
  (70,Try.f70),
  (71,Try.f71),
  (72,Try.f72)]
 hint:=[(5,[(11,{ keep:=[1,15,16,17,18,19,20,21,22],ids:=[15,26,47,55,69,78],out:=some ([1,15,16,17,18,19,20,21,22],[15,26,47,55,69,78]) }),(15,{ keep:=[1,15,16,17,18,19,20,87,88,89],ids:=[15,26,47,87],out:=some ([14,15,16,17,18,19,20],[15,26,47,124]) })]),
  (11,[(5,{ keep:=[2,3,4,5,6],ids:=[2,4,11,25,59],out:=some ([2,3,4,5],[2,4,11,25,59]),ownB:=[(4,0,25,26,1)] }),(9,{ keep:=[2,3,4,5,7],ids:=[2,4,11,25,59],out:=some ([2,4],[2,4,25,59]),ownB:=[(4,1,59,66,12)] }),(12,{ keep:=[2,3,4,5,7,8],ids:=[2,4,11,25,59],out:=some ([2,3,4,5,7],[2,4,11,25,59]) })]),
  (13,[(9,{ keep:=[9,10,11,12],ids:=[21,56],out:=some ([10,11],[56]),own:=[(11,56,2,1)] })]),
  (18,[(7,{ keep:=[6,7,8,9,26,27],ids:=[6,7,8,9,24,39],out:=some ([6,7,8,9],[6,7,8,9,24,39]) })]),
  (19,[(5,{ keep:=[1,2,3,4,5,10,30,31,32],ids:=[5,10],out:=some ([1,2,3,4,5,10],[5,10]) }),(13,{ keep:=[4,10,57,58,59],ids:=[10],out:=some ([10],[10]) })]),
  (20,[(3,{ keep:=[1,3,4,5,11,12,13],ids:=[5],out:=some ([10],[]) })]),
  (21,[(7,{ keep:=[0,1,4,5,6,7],ids:=[4,5],out:=some ([0,1,4,5,6],[4,5]) })]),
  (22,[(1,{ keep:=[0,1],ids:=[],out:=some ([0],[]) })]),
  (23,[(8,{ keep:=[8,9,10],ids:=[18,39],out:=some ([9],[39]),own:=[(9,39,4,1)] })]),
  (25,[(9,{ keep:=[1,6,7,8,31,32],ids:=[6,7,17,29],out:=some ([6,7],[6,7,29]) })]),
  (26,[(8,{ keep:=[2,3,4,8,10,11,12],ids:=[4,8,11,34,43,140],out:=some ([8,11],[8,11,43,140]) }),(11,{ keep:=[2,3,4,8,10,11,12,13,14],ids:=[4,8,11,34,43,140],out:=some ([2,3,4,8,10,11,13],[4,8,11,34,43,140]) })]),
  (27,[(5,{ keep:=[3,8,39,40,41],ids:=[8],out:=some ([8],[8]) })]),
  (28,[(4,{ keep:=[0,1,5],ids:=[],out:=some ([4],[]) })]),
  (33,[(3,{ keep:=[1,2,3,7,8],ids:=[3,18],out:=some ([1,2,3,7],[3,18]) }),(8,{ keep:=[2,3,7,9],ids:=[3,18],out:=some ([7],[18]) }),(11,{ keep:=[2,3,7,9,10],ids:=[3,18],out:=some ([2,3,7,9],[3,18]) }),(16,{ keep:=[2,3,7,9,10,11,60,61,62],ids:=[3,11,18,60],out:=some ([2,3,7,9,10],[3,18]) })]),
  (34,[(4,{ keep:=[4,5,11],ids:=[5],out:=some ([4,5,10],[5]) }),(9,{ keep:=[4,5,12],ids:=[5],out:=some ([10],[]) })]),
  (38,[(3,{ keep:=[1,2,5,17,18],ids:=[2,15,64,85],out:=some ([1,2,5],[2,15,64,85]) }),(9,{ keep:=[2,5,7],ids:=[2,15,64,85],out:=some ([5],[15,64,85]) }),(12,{ keep:=[2,5,7,31,32],ids:=[2,15,64,85],out:=some ([2,5,7],[2,15,64,85]) })]),
  (39,[(2,{ keep:=[0,7,8,9],ids:=[],out:=some ([0],[]) })]),
  (41,[(2,{ keep:=[3,13,14,15],ids:=[3,13],out:=some ([6],[]) })]),
  (42,[(3,{ keep:=[1,2,5,6],ids:=[2,38],out:=some ([5],[38]),own:=[(5,38,3,1)] })]),
  (44,[(4,{ keep:=[0,1,5],ids:=[],out:=some ([4],[]) })]),
  (45,[(4,{ keep:=[3,4,9],ids:=[4],out:=some ([8],[]) })]),
  (47,[(4,{ keep:=[1,2,4,18,19],ids:=[2,4,16,70],out:=some ([1,2,4],[2,4,16,70]) }),(10,{ keep:=[1,2,4,6,29,30,31],ids:=[2,4,16,70],out:=some ([4,6],[4,16,70]) }),(17,{ keep:=[4,6,62,63],ids:=[4,16,70],out:=some ([4],[4,16,70]) })]),
  (50,[(2,{ keep:=[1,3],ids:=[1],out:=some ([1,2],[1,28]) })]),
  (53,[(4,{ keep:=[1,17,18],ids:=[1],out:=some ([2],[]) })]),
  (55,[(4,{ keep:=[0,1,2,6,8,9],ids:=[6,8,9,19,30,96,125],out:=some ([0,1,2,6,8],[6,8,19,96,125]) }),(9,{ keep:=[0,1,2,6,8,9,10,53,54,55],ids:=[6,8,9,10,19,30,34,96,125],out:=some ([0,1,2,6,8,9],[6,8,9,19,30,96,125]) }),(20,{ keep:=[0,2,6,8,14,15],ids:=[6,8,14,15,19,96,125],out:=some ([6,14],[6,14,96,125]) })]),
  (56,[(3,{ keep:=[1,2,5,14,15],ids:=[2,11,50,74],out:=some ([5],[11,50,74]),unn:=[11] })]),
  (59,[(1,{ keep:=[0,1],ids:=[1000001],out:=some ([0],[1000001]) })]),
  (62,[(2,{ keep:=[1,3],ids:=[1],out:=some ([1,2],[1]) })]),
  (64,[(6,{ keep:=[0,2,3,4,5,6],ids:=[2,4,1000001],out:=some ([0,2,3,4],[2,4,1000001]) })]),
  (66,[(3,{ keep:=[0,4,5],ids:=[12,1000001],out:=some ([0,4],[12,1000001]) })]),
  (67,[(2,{ keep:=[0,1,7,8],ids:=[],out:=some ([4],[]) })]),
  (70,[(3,{ keep:=[3,6,7,8],ids:=[],out:=some ([2,3],[]) })])]
 rw:=[30,
  59,
  64,
  66]
 ow:=[(18,[24])]
 dd:=[36,40,43,46,49,52,58]
 gk:=[59]
 nf:=[56]
 gq:=[59,
  64,
  66]
 dr:=[(55,[(25,{ keep:=[0,2,6,8,14,127],ids:=[6,8,14,19,96,125] })])]
 big:=[2]
 ag:=[26,
  55]
theorem eq96:aggB Try.prog 96=true∧∀ vs,KV [.i .i64,.i .i64] vs→uV Try.prog 12 96 vs=true:=by
 refine ⟨by kernel_rfl,fun vs h => ?_⟩;obtain ⟨v0,u0,rfl,⟨x0,rfl⟩,h0⟩:=h;obtain ⟨v1,u1,rfl,⟨x1,rfl⟩,h1⟩:=h0;obtain rfl:u1=[]:=h1
 kernel_rfl
theorem fns:AllP (fun x:Nat × Func=>Try.prog.funcs[x.1]? = some x.2) tabs.fn:=⟨Try.func3,Try.func4,Try.func5,Try.func6,Try.func7,Try.func8,Try.func9,Try.func10,Try.func11,Try.func12,Try.func13,Try.func14,Try.func15,Try.func16,Try.func17,Try.func18,Try.func19,Try.func20,Try.func21,Try.func22,Try.func23,Try.func24,Try.func25,Try.func26,Try.func27,Try.func28,Try.func29,Try.func30,Try.func31,Try.func32,Try.func33,Try.func34,Try.func35,Try.func36,Try.func37,Try.func38,Try.func39,Try.func40,Try.func41,Try.func42,Try.func43,Try.func44,Try.func45,Try.func46,Try.func47,Try.func48,Try.func49,Try.func50,Try.func51,Try.func52,Try.func53,Try.func54,Try.func55,Try.func56,Try.func57,Try.func58,Try.func59,Try.func60,Try.func61,Try.func62,Try.func63,Try.func64,Try.func65,Try.func66,Try.func67,Try.func68,Try.func69,Try.func70,Try.func71,Try.func72,trivial⟩
theorem jXX:tabs.sz.all (fun x=>tyB Try.prog x.1 x.2.1 x.2.2 && (x.2.1 || Nat.beq x.2.2 1))=true:=by kernel_rfl
theorem yWU:tabs.zr.map (fun x=>(Try.prog.info? x.1).bind (·.zero))=tabs.zr.map (fun x=>some x.2):=by kernel_rfl
theorem jWU:tabs.fd.all (fun x=>allI (fun f o=>zUC Try.prog x.1 f o) 0 x.2)=true:=by kernel_rfl
theorem jWJ:tabs.fx.all (fun x=>allI (fxB Try.prog x.1) 0 x.2)=true:=by kernel_rfl
theorem jWA:tabs.ar.all (fun x=>arX Try.prog x.1 x.2)=true:=by kernel_rfl
theorem jXV:tabs.sl.all (fun x=>slcB Try.prog x.1 x.2.1 x.2.2.1 && Nat.blt 0 x.2.2.1 && Nat.ble x.2.2.1 1000 && appB Try.prog x.1 x.2.1 x.2.2.1 x.2.2.2 && Nat.ble x.2.2.2 100000 && (Nat.ble x.2.2.2 8 || !inL tabs.big x.2.1))=true:=by kernel_rfl
theorem jXF:tabs.ly.map (fun x=>(qYB Try.prog x.1).map (·.2))=tabs.ly.map (fun x=>some x.2):=by kernel_rfl
theorem jWZ:tabs.ik.map (fun x=>Try.prog.underlying x.1)=tabs.ik.map (fun x=>some (.int x.2)):=by kernel_rfl
theorem yHV:tabs.str.map (fun x=>Try.prog.underlying x)=tabs.str.map (fun _=>some .string):=by kernel_rfl
theorem jWG:tabs.bo.map (fun x=>Try.prog.underlying x)=tabs.bo.map (fun _=>some .bool):=by kernel_rfl
theorem yHG:tabs.fn.all (fun x => !(x.2.name == "runtime.NumGoroutine") && !x.2.body.isNone)=true:=by kernel_rfl
theorem dd36:kH Try.prog 36∧∀ (args:Array Value) (w:World),CallsD Try.prog 36 args .returning w fun e u w'=>(∃ v,e=.returned v)∧u=.returning∧w'=w :=
 ⟨qQB Try.func36 (by kernel_rfl) (by kernel_rfl),fun args w=>zVZ (ms:=#[]) Try.func36 rfl rfl (by decide) (by decide) (by decide) (by kernel_rfl) args w⟩
theorem dd40:kH Try.prog 40∧∀ (args:Array Value) (w:World),CallsD Try.prog 40 args .returning w fun e u w'=>(∃ v,e=.returned v)∧u=.returning∧w'=w :=
 ⟨qQB Try.func40 (by kernel_rfl) (by kernel_rfl),fun args w=>zVZ (ms:=#[]) Try.func40 rfl rfl (by decide) (by decide) (by decide) (by kernel_rfl) args w⟩
theorem dd43:kH Try.prog 43∧∀ (args:Array Value) (w:World),CallsD Try.prog 43 args .returning w fun e u w'=>(∃ v,e=.returned v)∧u=.returning∧w'=w :=
 ⟨qQB Try.func43 (by kernel_rfl) (by kernel_rfl),fun args w=>zVZ (ms:=#[]) Try.func43 rfl rfl (by decide) (by decide) (by decide) (by kernel_rfl) args w⟩
theorem dd46:kH Try.prog 46∧∀ (args:Array Value) (w:World),CallsD Try.prog 46 args .returning w fun e u w'=>(∃ v,e=.returned v)∧u=.returning∧w'=w :=
 ⟨qQB Try.func46 (by kernel_rfl) (by kernel_rfl),fun args w=>zVZ (ms:=#[]) Try.func46 rfl rfl (by decide) (by decide) (by decide) (by kernel_rfl) args w⟩
theorem dd49:kH Try.prog 49∧∀ (args:Array Value) (w:World),CallsD Try.prog 49 args .returning w fun e u w'=>(∃ v,e=.returned v)∧u=.returning∧w'=w :=
 ⟨qQB Try.func49 (by kernel_rfl) (by kernel_rfl),fun args w=>zVZ (ms:=#[]) Try.func49 rfl rfl (by decide) (by decide) (by decide) (by kernel_rfl) args w⟩
theorem dd52:kH Try.prog 52∧∀ (args:Array Value) (w:World),CallsD Try.prog 52 args .returning w fun e u w'=>(∃ v,e=.returned v)∧u=.returning∧w'=w :=
 ⟨qQB Try.func52 (by kernel_rfl) (by kernel_rfl),fun args w=>zVZ (ms:=#[]) Try.func52 rfl rfl (by decide) (by decide) (by decide) (by kernel_rfl) args w⟩
theorem dd58:kH Try.prog 58∧∀ (args:Array Value) (w:World),CallsD Try.prog 58 args .returning w fun e u w'=>(∃ v,e=.returned v)∧u=.returning∧w'=w :=
 ⟨qQB Try.func58 (by kernel_rfl) (by kernel_rfl),fun args w=>zVZ (ms:=#[]) Try.func58 rfl rfl (by decide) (by decide) (by decide) (by kernel_rfl) args w⟩
theorem jWX:∀ f ∈ tabs.dd,kH Try.prog f∧∀ (args:Array Value) (w:World),CallsD Try.prog f args .returning w fun e u w'=>(∃ v,e=.returned v)∧u=.returning∧w'=w:=by
 intro f hf;simp only [tabs,vZG,List.not_mem_nil,or_false] at hf;rcases hf with rfl | rfl | rfl | rfl | rfl | rfl | rfl
 ·exact dd36
 ·exact dd40
 ·exact dd43
 ·exact dd46
 ·exact dd49
 ·exact dd52
 ·exact dd58
theorem ok:tabs.Ok Try.prog:=⟨jXX,yWU,jWU,jWJ,jWA,jXV,jXF,jWZ,yHV,jWG,⟨eq96,trivial⟩,fns,yHG,jWX⟩
noncomputable def T:Tab:=tabs.tab
theorem qYL:TabOk Try.prog T:=Tabs.ok ok
theorem yX:Try.prog.follows .mixedOrders=true:=by kernel_rfl
noncomputable def tabsF:Tabs:={ tabs with
 hint:=[(5,[(11,{ keep:=[1,15,16,17,18,19,20,21,22],ids:=[15,26,47,55,69,78],out:=some ([1,15,16,17,18,19,20,21,22],[15,26,47,55,69,78]),fun_:=[(47,[.n .i64 0]),(55,[.n .i64 0]),(69,[.n .i64 0]),(78,[.n .i64 0])] }),(15,{ keep:=[1,15,16,17,18,19,20,87,88,89],ids:=[15,26,47,87],out:=some ([14,15,16,17,18,19,20],[15,26,47,124]),fun_:=[(47,[.n .i64 0]),(87,[.zs])] })]),
  (11,[(5,{ keep:=[2,3,4,5,6],ids:=[2,4,11,25,59],out:=some ([2,3,4,5],[2,4,11,25,59]),ownB:=[(4,0,25,26,1)],fun_:=[(25,[.zs]),(59,[.n .i64 0,.n .i64 0,.n .i64 0,.n .i64 0,.n .i64 0,.zs,.n .i64 0,.n .i64 0,.zs,.n .i64 0,.zs,.zs])] }),(9,{ keep:=[2,3,4,5,7],ids:=[2,4,11,25,59],out:=some ([2,4],[2,4,25,59]),ownB:=[(4,1,59,66,12)],fun_:=[(25,[.zs]),(59,[.n .i64 0,.n .i64 0,.n .i64 0,.n .i64 0,.n .i64 0,.zs,.n .i64 0,.n .i64 0,.zs,.n .i64 0,.zs,.zs])] }),(12,{ keep:=[2,3,4,5,7,8],ids:=[2,4,11,25,59],out:=some ([2,3,4,5,7],[2,4,11,25,59]),fun_:=[(25,[.zs]),(59,[.n .i64 0,.n .i64 0,.n .i64 0,.n .i64 0,.n .i64 0,.zs,.n .i64 0,.n .i64 0,.zs,.n .i64 0,.zs,.zs])] })]),
  (13,[(9,{ keep:=[9,10,11,12],ids:=[21,56],out:=some ([10,11],[56]),own:=[(11,56,2,1)],fun_:=[(56,[.n .i64 0])] })]),
  (18,[(7,{ keep:=[6,7,8,9,26,27],ids:=[6,7,8,9,24,39],out:=some ([6,7,8,9],[6,7,8,9,24,39]),fun_:=[(24,[.n .i64 0])] })]),
  (19,[(5,{ keep:=[1,2,3,4,5,10,30,31,32],ids:=[5,10],out:=some ([1,2,3,4,5,10],[5,10]) }),(13,{ keep:=[4,10,57,58,59],ids:=[10],out:=some ([10],[10]) })]),
  (20,[(3,{ keep:=[1,3,4,5,11,12,13],ids:=[5],out:=some ([10],[]) })]),
  (21,[(7,{ keep:=[0,1,4,5,6,7],ids:=[4,5],out:=some ([0,1,4,5,6],[4,5]) })]),
  (22,[(1,{ keep:=[0,1],ids:=[],out:=some ([0],[]) })]),
  (23,[(8,{ keep:=[8,9,10],ids:=[18,39],out:=some ([9],[39]),own:=[(9,39,4,1)],fun_:=[(39,[.b false])] })]),
  (25,[(9,{ keep:=[1,6,7,8,31,32],ids:=[6,7,17,29],out:=some ([6,7],[6,7,29]),fun_:=[(29,[.b false])] })]),
  (26,[(8,{ keep:=[2,3,4,8,10,11,12],ids:=[4,8,11,34,43,140],out:=some ([8,11],[8,11,43,140]),fun_:=[(43,[.n .i64 0]),(140,[.n .i64 0])] }),(11,{ keep:=[2,3,4,8,10,11,12,13,14],ids:=[4,8,11,34,43,140],out:=some ([2,3,4,8,10,11,13],[4,8,11,34,43,140]),fun_:=[(43,[.n .i64 0]),(140,[.n .i64 0])] })]),
  (27,[(5,{ keep:=[3,8,39,40,41],ids:=[8],out:=some ([8],[8]) })]),
  (28,[(4,{ keep:=[0,1,5],ids:=[],out:=some ([4],[]) })]),
  (33,[(3,{ keep:=[1,2,3,7,8],ids:=[3,18],out:=some ([1,2,3,7],[3,18]),fun_:=[(18,[.n .i64 0,.n .i64 0])] }),(8,{ keep:=[2,3,7,9],ids:=[3,18],out:=some ([7],[18]),fun_:=[(18,[.n .i64 0,.n .i64 0])] }),(11,{ keep:=[2,3,7,9,10],ids:=[3,18],out:=some ([2,3,7,9],[3,18]),fun_:=[(18,[.n .i64 0,.n .i64 0])] }),(16,{ keep:=[2,3,7,9,10,11,60,61,62],ids:=[3,11,18,60],out:=some ([2,3,7,9,10],[3,18]),fun_:=[(18,[.n .i64 0,.n .i64 0]),(60,[.n .i64 0,.n .i64 0])] })]),
  (34,[(4,{ keep:=[4,5,11],ids:=[5],out:=some ([4,5,10],[5]) }),(9,{ keep:=[4,5,12],ids:=[5],out:=some ([10],[]) })]),
  (38,[(3,{ keep:=[1,2,5,17,18],ids:=[2,15,64,85],out:=some ([1,2,5],[2,15,64,85]),fun_:=[(15,[.n .i64 0])] }),(9,{ keep:=[2,5,7],ids:=[2,15,64,85],out:=some ([5],[15,64,85]),fun_:=[(15,[.n .i64 0])] }),(12,{ keep:=[2,5,7,31,32],ids:=[2,15,64,85],out:=some ([2,5,7],[2,15,64,85]),fun_:=[(15,[.n .i64 0])] })]),
  (39,[(2,{ keep:=[0,7,8,9],ids:=[],out:=some ([0],[]) })]),
  (41,[(2,{ keep:=[3,13,14,15],ids:=[3,13],out:=some ([6],[]),fun_:=[(13,[.n .i64 0])] })]),
  (42,[(3,{ keep:=[1,2,5,6],ids:=[2,38],out:=some ([5],[38]),own:=[(5,38,3,1)],fun_:=[(38,[.n .i64 0])] })]),
  (44,[(4,{ keep:=[0,1,5],ids:=[],out:=some ([4],[]) })]),
  (45,[(4,{ keep:=[3,4,9],ids:=[4],out:=some ([8],[]) })]),
  (47,[(4,{ keep:=[1,2,4,18,19],ids:=[2,4,16,70],out:=some ([1,2,4],[2,4,16,70]),fun_:=[(16,[.n .i64 0])] }),(10,{ keep:=[1,2,4,6,29,30,31],ids:=[2,4,16,70],out:=some ([4,6],[4,16,70]),fun_:=[(16,[.n .i64 0])] }),(17,{ keep:=[4,6,62,63],ids:=[4,16,70],out:=some ([4],[4,16,70]),fun_:=[(16,[.n .i64 0])] })]),
  (50,[(2,{ keep:=[1,3],ids:=[1],out:=some ([1,2],[1,28]) })]),
  (53,[(4,{ keep:=[1,17,18],ids:=[1],out:=some ([2],[]) })]),
  (55,[(4,{ keep:=[0,1,2,6,8,9],ids:=[6,8,9,19,30,96,125],out:=some ([0,1,2,6,8],[6,8,19,96,125]),fun_:=[(19,[.n .i64 0,.n .i64 0]),(30,[.n .i64 0,.n .i64 0,.n .i64 0]),(96,[.n .i64 0]),(125,[.n .i64 0])] }),(9,{ keep:=[0,1,2,6,8,9,10,53,54,55],ids:=[6,8,9,10,19,30,34,96,125],out:=some ([0,1,2,6,8,9],[6,8,9,19,30,96,125]),fun_:=[(19,[.n .i64 0,.n .i64 0]),(30,[.n .i64 0,.n .i64 0,.n .i64 0]),(96,[.n .i64 0]),(125,[.n .i64 0])] }),(20,{ keep:=[0,2,6,8,14,15],ids:=[6,8,14,15,19,96,125],out:=some ([6,14],[6,14,96,125]),fun_:=[(19,[.n .i64 0,.n .i64 0]),(96,[.n .i64 0]),(125,[.n .i64 0])] })]),
  (56,[(3,{ keep:=[1,2,5,14,15],ids:=[2,11,50,74],out:=some ([5],[11,50,74]),unn:=[11],fun_:=[(11,[.zs]),(50,[.n .i64 0,.n .i64 0]),(74,[.n .i64 0,.n .i64 0])] })]),
  (59,[(1,{ keep:=[0,1],ids:=[1000001],out:=some ([0],[1000001]) })]),
  (62,[(2,{ keep:=[1,3],ids:=[1],out:=some ([1,2],[1]) })]),
  (64,[(6,{ keep:=[0,2,3,4,5,6],ids:=[2,4,1000001],out:=some ([0,2,3,4],[2,4,1000001]) })]),
  (66,[(3,{ keep:=[0,4,5],ids:=[12,1000001],out:=some ([0,4],[12,1000001]),fun_:=[(12,[.n .i64 0,.n .i64 0,.n .i64 0])] })]),
  (67,[(2,{ keep:=[0,1,7,8],ids:=[],out:=some ([4],[]) })]),
  (70,[(3,{ keep:=[3,6,7,8],ids:=[],out:=some ([2,3],[]) })])]
 ff:=[3,
  5,
  7,
  8,
  11,
  13,
  18,
  19,
  20,
  23,
  25,
  26,
  27,
  33,
  34,
  37,
  38,
  39,
  41,
  42,
  45,
  47,
  50,
  53,
  55,
  56,
  62,
  64,
  66]
}
theorem okF:tabsF.Ok Try.prog:=⟨jXX,yWU,jWU,jWJ,jWA,jXV,jXF,jWZ,yHV,jWG,⟨eq96,trivial⟩,fns,yHG,jWX⟩
noncomputable def Tf:Tab:=tabsF.tab
theorem yV:TabOk Try.prog Tf:=Tabs.ok okF
end Go.Proofs.Ytglkkhpdbfacfaa.Rt
namespace Go.Proofs.Ytglkkhpdbfacfaa.Ag
open Go.Rx Rt
noncomputable def k54:List (List PV × Ret):=[([.a [.l [[.l [[.n .i64 0]]],[.l [[.n .i64 1]]],[.l [[.n .i64 2]]]],.l [[.n .i64 0,.n .i64 1,.n .i64 1,.n .i64 0,.n .i64 0,.zs,.n .i64 0,.n .i64 0,.zs,.n .i64 0,.zs,.zs],[.n .i64 0,.n .i64 2,.n .i64 3,.n .i64 0,.n .i64 0,.zs,.n .i64 0,.n .i64 0,.zs,.n .i64 0,.zs,.zs],[.n .i64 1,.n .i64 2,.n .i64 1,.n .i64 0,.n .i64 0,.zs,.n .i64 0,.n .i64 0,.zs,.n .i64 0,.zs,.zs]]],.n .i64 0],.v (.b true)),
 ([.a [.l [[.l [[.n .i64 0]]],[.l [[.n .i64 1]]],[.l [[.n .i64 2]]]],.l [[.n .i64 0,.n .i64 1,.n .i64 1,.n .i64 0,.n .i64 0,.zs,.n .i64 0,.n .i64 0,.zs,.n .i64 0,.zs,.zs],[.n .i64 0,.n .i64 2,.n .i64 3,.n .i64 0,.n .i64 0,.zs,.n .i64 0,.n .i64 0,.zs,.n .i64 0,.zs,.zs],[.n .i64 1,.n .i64 2,.n .i64 1,.n .i64 0,.n .i64 0,.zs,.n .i64 0,.n .i64 0,.zs,.n .i64 0,.zs,.zs]]],.n .i64 1],.v (.b true)),
 ([.a [.l [[.l [[.n .i64 0]]],[.l [[.n .i64 1]]],[.l [[.n .i64 2]]]],.l [[.n .i64 0,.n .i64 1,.n .i64 1,.n .i64 0,.n .i64 0,.zs,.n .i64 0,.n .i64 0,.zs,.n .i64 0,.zs,.zs],[.n .i64 0,.n .i64 2,.n .i64 3,.n .i64 0,.n .i64 0,.zs,.n .i64 0,.n .i64 0,.zs,.n .i64 0,.zs,.zs],[.n .i64 1,.n .i64 2,.n .i64 1,.n .i64 0,.n .i64 0,.zs,.n .i64 0,.n .i64 0,.zs,.n .i64 0,.zs,.zs]]],.n .i64 2],.v (.b true))]
noncomputable def t54:Known:=(54,k54) :: ([]:Known)
theorem ok54:Known.Ok Try.prog t54:=Known.add qYL yX (Known.nil _) (N:=60) (by kernel_rfl)
noncomputable def k71:List (List PV × Ret):=[([.n .i64 0,.n .i64 0],.v (.n .i64 0)),
 ([.n .i64 1,.n .i64 2],.v (.n .i64 (-1))),
 ([.n .i64 0,.n .i64 1],.v (.n .i64 (-1))),
 ([.n .i64 2,.n .i64 2],.v (.n .i64 0))]
noncomputable def t71:Known:=(71,k71) :: t54
theorem ok71:Known.Ok Try.prog t71:=Known.add qYL yX (ok54) (N:=60) (by kernel_rfl)
noncomputable def k63:List (List PV × Ret):=[([.a [.n .i64 0,.n .i64 1,.n .i64 1,.n .i64 0,.n .i64 0,.zs,.n .i64 0,.n .i64 0,.zs,.n .i64 0,.zs,.zs],.a [.n .i64 0,.n .i64 2]],.v (.n .i64 (-1))),
 ([.a [.n .i64 0,.n .i64 2,.n .i64 3,.n .i64 0,.n .i64 0,.zs,.n .i64 0,.n .i64 0,.zs,.n .i64 0,.zs,.zs],.a [.n .i64 1,.n .i64 2]],.v (.n .i64 (-1)))]
noncomputable def t63:Known:=(63,k63) :: t71
theorem ok63:Known.Ok Try.prog t63:=Known.add qYL yX (ok71) (N:=60) (by kernel_rfl)
noncomputable def k53:List (List PV × Ret):=[([.a [.l [[.l [[.n .i64 0]]],[.l [[.n .i64 1]]],[.l [[.n .i64 2]]]],.l [[.n .i64 0,.n .i64 1,.n .i64 1,.n .i64 0,.n .i64 0,.zs,.n .i64 0,.n .i64 0,.zs,.n .i64 0,.zs,.zs],[.n .i64 0,.n .i64 2,.n .i64 3,.n .i64 0,.n .i64 0,.zs,.n .i64 0,.n .i64 0,.zs,.n .i64 0,.zs,.zs],[.n .i64 1,.n .i64 2,.n .i64 1,.n .i64 0,.n .i64 0,.zs,.n .i64 0,.n .i64 0,.zs,.n .i64 0,.zs,.zs]]]],.v (.b true))]
noncomputable def t53:Known:=(53,k53) :: t63
theorem ok53:Known.Ok Try.prog t53:=Known.add qYL yX (ok63) (N:=60) (by kernel_rfl)
noncomputable def k56:List (List PV × Ret):=[([.a [.l [[.l [[.n .i64 0]]],[.l [[.n .i64 1]]],[.l [[.n .i64 2]]]],.l [[.n .i64 0,.n .i64 1,.n .i64 1,.n .i64 0,.n .i64 0,.zs,.n .i64 0,.n .i64 0,.zs,.n .i64 0,.zs,.zs],[.n .i64 0,.n .i64 2,.n .i64 3,.n .i64 0,.n .i64 0,.zs,.n .i64 0,.n .i64 0,.zs,.n .i64 0,.zs,.zs],[.n .i64 1,.n .i64 2,.n .i64 1,.n .i64 0,.n .i64 0,.zs,.n .i64 0,.n .i64 0,.zs,.n .i64 0,.zs,.zs]]],.n .i64 2],.ow 102 1 (.l [[.l [[.n .i64 1,.n .i64 1],[.n .i64 2,.n .i64 3]]],[.l [[.n .i64 0,.n .i64 1],[.n .i64 2,.n .i64 1]]],[.l [[.n .i64 0,.n .i64 3],[.n .i64 1,.n .i64 1]]]]))]
noncomputable def t56:Known:=(56,k56) :: t53
theorem ok56:Known.Ok Try.prog t56:=Known.add qYL yX (ok53) (N:=60) (by kernel_rfl)
noncomputable def k65:List (List PV × Ret):=[([.a [.n .i64 3,.n .i64 2],.a [.n .i64 0,.n .i64 0]],.v (.b true)),
 ([.a [.n .i64 1,.n .i64 2],.a [.n .i64 0,.n .i64 0]],.v (.b true)),
 ([.a [.n .i64 1,.n .i64 2],.a [.n .i64 3,.n .i64 2]],.v (.b true)),
 ([.a [.n .i64 2,.n .i64 3],.a [.n .i64 3,.n .i64 2]],.v (.b true)),
 ([.a [.n .i64 2,.n .i64 3],.a [.n .i64 0,.n .i64 1]],.v (.b false))]
noncomputable def t65:Known:=(65,k65) :: t56
theorem ok65:Known.Ok Try.prog t65:=Known.add qYL yX (ok56) (N:=60) (by kernel_rfl)
noncomputable def k55:List (List PV × Ret):=[([.l [[.l [[.n .i64 1,.n .i64 1],[.n .i64 2,.n .i64 3]]],[.l [[.n .i64 0,.n .i64 1],[.n .i64 2,.n .i64 1]]],[.l [[.n .i64 0,.n .i64 3],[.n .i64 1,.n .i64 1]]]],.n .i64 0,.n .i64 2],.v (.t [.a [.l [[.n .i64 0],[.n .i64 1],[.n .i64 2]],.n .i64 2],.b true])),
 ([.l [[.l [[.n .i64 1,.n .i64 1],[.n .i64 2,.n .i64 3]]],[.l [[.n .i64 0,.n .i64 1],[.n .i64 2,.n .i64 1]]],[.l [[.n .i64 0,.n .i64 3],[.n .i64 1,.n .i64 1]]]],.n .i64 0,.n .i64 0],.v (.t [.a [.l [[.n .i64 0]],.n .i64 0],.b true])),
 ([.l [[.l [[.n .i64 1,.n .i64 1],[.n .i64 2,.n .i64 3]]],[.l [[.n .i64 0,.n .i64 1],[.n .i64 2,.n .i64 1]]],[.l [[.n .i64 0,.n .i64 3],[.n .i64 1,.n .i64 1]]]],.n .i64 2,.n .i64 2],.v (.t [.a [.l [[.n .i64 2]],.n .i64 0],.b true]))]
noncomputable def t55:Known:=(55,k55) :: t65
theorem ok55:Known.Ok Try.prog t55:=Known.add qYL yX (ok65) (N:=60) (by kernel_rfl)
noncomputable def k37:List (List PV × Ret):=[([.a [.l [[.l [[.n .i64 0]]],[.l [[.n .i64 1]]],[.l [[.n .i64 2]]]],.l [[.n .i64 0,.n .i64 1,.n .i64 1,.n .i64 0,.n .i64 0,.zs,.n .i64 0,.n .i64 0,.zs,.n .i64 0,.zs,.zs],[.n .i64 0,.n .i64 2,.n .i64 3,.n .i64 0,.n .i64 0,.zs,.n .i64 0,.n .i64 0,.zs,.n .i64 0,.zs,.zs],[.n .i64 1,.n .i64 2,.n .i64 1,.n .i64 0,.n .i64 0,.zs,.n .i64 0,.n .i64 0,.zs,.n .i64 0,.zs,.zs]]],.n .i64 0,.n .i64 2,.n .i64 2],.v (.t [.a [.l [[.n .i64 0],[.n .i64 1],[.n .i64 2]],.n .i64 2],.b true])),
 ([.a [.l [[.l [[.n .i64 0]]],[.l [[.n .i64 1]]],[.l [[.n .i64 2]]]],.l [[.n .i64 0,.n .i64 1,.n .i64 1,.n .i64 0,.n .i64 0,.zs,.n .i64 0,.n .i64 0,.zs,.n .i64 0,.zs,.zs],[.n .i64 0,.n .i64 2,.n .i64 3,.n .i64 0,.n .i64 0,.zs,.n .i64 0,.n .i64 0,.zs,.n .i64 0,.zs,.zs],[.n .i64 1,.n .i64 2,.n .i64 1,.n .i64 0,.n .i64 0,.zs,.n .i64 0,.n .i64 0,.zs,.n .i64 0,.zs,.zs]]],.n .i64 0,.n .i64 0,.n .i64 2],.v (.t [.a [.l [[.n .i64 0]],.n .i64 0],.b true])),
 ([.a [.l [[.l [[.n .i64 0]]],[.l [[.n .i64 1]]],[.l [[.n .i64 2]]]],.l [[.n .i64 0,.n .i64 1,.n .i64 1,.n .i64 0,.n .i64 0,.zs,.n .i64 0,.n .i64 0,.zs,.n .i64 0,.zs,.zs],[.n .i64 0,.n .i64 2,.n .i64 3,.n .i64 0,.n .i64 0,.zs,.n .i64 0,.n .i64 0,.zs,.n .i64 0,.zs,.zs],[.n .i64 1,.n .i64 2,.n .i64 1,.n .i64 0,.n .i64 0,.zs,.n .i64 0,.n .i64 0,.zs,.n .i64 0,.zs,.zs]]],.n .i64 2,.n .i64 2,.n .i64 2],.v (.t [.a [.l [[.n .i64 2]],.n .i64 0],.b true]))]
noncomputable def t37:Known:=(37,k37) :: t55
theorem ok37:Known.Ok Try.prog t37:=Known.add qYL yX (ok55) (N:=60) (by kernel_rfl)
noncomputable def k39:List (List PV × Ret):=[([.n .i64 0,.l [[.n .i64 1152921504606846977]]],.v (.n .i64 0)),
 ([.n .i64 1152921504606846976,.l [[.n .i64 1]]],.v (.n .i64 1)),
 ([.n .i64 0,.l [[.n .i64 1152921504606846979]]],.v (.n .i64 0)),
 ([.n .i64 1152921504606846976,.l [[.n .i64 3]]],.v (.n .i64 3)),
 ([.n .i64 1,.l [[.n .i64 4]]],.v (.n .i64 1)),
 ([.n .i64 3,.l [[.n .i64 2]]],.v (.n .i64 2)),
 ([.n .i64 0,.l [[.n .i64 2]]],.v (.n .i64 0)),
 ([.n .i64 1,.l [[.n .i64 1]]],.v (.n .i64 1)),
 ([.n .i64 0,.l [[.n .i64 5]]],.v (.n .i64 0)),
 ([.n .i64 2,.l [[.n .i64 3]]],.v (.n .i64 2)),
 ([.n .i64 1,.l [[.n .i64 3]]],.v (.n .i64 1)),
 ([.n .i64 2,.l [[.n .i64 2]]],.v (.n .i64 2)),
 ([.n .i64 1,.l [[.n .i64 2]]],.v (.n .i64 1))]
noncomputable def t39:Known:=(39,k39) :: t37
theorem ok39:Known.Ok Try.prog t39:=Known.add qYL yX (ok37) (N:=60) (by kernel_rfl)
noncomputable def k38:List (List PV × Ret):=[([.a [.l [[.l [[.n .i64 0]]],[.l [[.n .i64 1]]],[.l [[.n .i64 2]]]],.l [[.n .i64 0,.n .i64 1,.n .i64 1,.n .i64 0,.n .i64 0,.zs,.n .i64 0,.n .i64 0,.zs,.n .i64 0,.zs,.zs],[.n .i64 0,.n .i64 2,.n .i64 3,.n .i64 0,.n .i64 0,.zs,.n .i64 0,.n .i64 0,.zs,.n .i64 0,.zs,.zs],[.n .i64 1,.n .i64 2,.n .i64 1,.n .i64 0,.n .i64 0,.zs,.n .i64 0,.n .i64 0,.zs,.n .i64 0,.zs,.zs]]],.n .i64 0],.ow 2 1 (.l [[.n .i64 0],[.n .i64 1],[.n .i64 2]]))]
noncomputable def t38:Known:=(38,k38) :: t39
theorem ok38:Known.Ok Try.prog t38:=Known.add qYL yX (ok39) (N:=60) (by kernel_rfl)
noncomputable def k18:List (List PV × Ret):=[([.a [.l [[.l [[.n .i64 0]]],[.l [[.n .i64 1]]],[.l [[.n .i64 2]]]],.l [[.n .i64 0,.n .i64 1,.n .i64 1,.n .i64 0,.n .i64 0,.zs,.n .i64 0,.n .i64 0,.zs,.n .i64 0,.zs,.zs],[.n .i64 0,.n .i64 2,.n .i64 3,.n .i64 0,.n .i64 0,.zs,.n .i64 0,.n .i64 0,.zs,.n .i64 0,.zs,.zs],[.n .i64 1,.n .i64 2,.n .i64 1,.n .i64 0,.n .i64 0,.zs,.n .i64 0,.n .i64 0,.zs,.n .i64 0,.zs,.zs]]],.n .i64 0,.n .i64 2],.v (.t [.l [[.n .i64 0],[.n .i64 1],[.n .i64 2]],.n .i64 2,.b true]))]
noncomputable def t18:Known:=(18,k18) :: t38
theorem ok18:Known.Ok Try.prog t18:=Known.add qYL yX (ok38) (N:=60) (by kernel_rfl)
noncomputable def k41:List (List PV × Ret):=[([.a [.l [[.l [[.n .i64 0]]],[.l [[.n .i64 1]]],[.l [[.n .i64 2]]]],.l [[.n .i64 0,.n .i64 1,.n .i64 1,.n .i64 0,.n .i64 0,.zs,.n .i64 0,.n .i64 0,.zs,.n .i64 0,.zs,.zs],[.n .i64 0,.n .i64 2,.n .i64 3,.n .i64 0,.n .i64 0,.zs,.n .i64 0,.n .i64 0,.zs,.n .i64 0,.zs,.zs],[.n .i64 1,.n .i64 2,.n .i64 1,.n .i64 0,.n .i64 0,.zs,.n .i64 0,.n .i64 0,.zs,.n .i64 0,.zs,.zs]]],.n .i64 0,.n .i64 2],.v (.b true))]
noncomputable def t41:Known:=(41,k41) :: t18
theorem ok41:Known.Ok Try.prog t41:=Known.add qYL yX (ok18) (N:=60) (by kernel_rfl)
noncomputable def k19:List (List PV × Ret):=[([.a [.l [[.l [[.n .i64 0]]],[.l [[.n .i64 1]]],[.l [[.n .i64 2]]]],.l [[.n .i64 0,.n .i64 1,.n .i64 1,.n .i64 0,.n .i64 0,.zs,.n .i64 0,.n .i64 0,.zs,.n .i64 0,.zs,.zs],[.n .i64 0,.n .i64 2,.n .i64 3,.n .i64 0,.n .i64 0,.zs,.n .i64 0,.n .i64 0,.zs,.n .i64 0,.zs,.zs],[.n .i64 1,.n .i64 2,.n .i64 1,.n .i64 0,.n .i64 0,.zs,.n .i64 0,.n .i64 0,.zs,.n .i64 0,.zs,.zs]]],.n .i64 0,.n .i64 2,.n .i64 2,.l [[.n .i64 0],[.n .i64 1],[.n .i64 2]]],.v (.b true))]
noncomputable def t19:Known:=(19,k19) :: t41
theorem ok19:Known.Ok Try.prog t19:=Known.add qYL yX (ok41) (N:=60) (by kernel_rfl)
theorem call:yY Try.prog 10 [] (.v (.b true)):=qZK (N:=60) qYL yX (Known.ok (ok19)) (by kernel_rfl:run T (Known.orc t19) 60 10 []=some (.v (.b true)))
end Go.Proofs.Ytglkkhpdbfacfaa.Ag
namespace Go.Proofs.Ytglkkhpdbfacfaa.Ba
open Go.Rx Rt Go.Sx Go.RowKit
def slB (σ:St) (k:Nat):Bool:=match jJ σ.S k with
 | some (.v (.b b))=>b
 | _=>false
def rgI (σ:St) (k c:Nat):Nat→Int:=fun v=>match (rgF σ k v)[c]? with
 | some (.n _ i)=>i
 | _=>0
def rgB (σ:St) (k c:Nat):Nat→Bool:=fun v=>match (rgF σ k v)[c]? with
 | some (.b i)=>i
 | _=>false
theorem zGK {τ υ:Type} {dec:τ→τ ⊕ υ}:∀ {n m:Nat} {s:τ} {y:υ},qU dec n s=some y→n≤m→qU dec m s=some y
 | 0,_,_,_,h,_=>by cases h
 | n + 1,0,_,_,_,hm=>by omega
 | n + 1,m + 1,s,y,h,hm=>by
  simp only [qU] at h ⊢;cases hd:dec s with
  | inl s'=>rw [hd] at h; exact zGK h (by omega)
  | inr z=>rw [hd] at h; exact h
end Go.Proofs.Ytglkkhpdbfacfaa.Ba

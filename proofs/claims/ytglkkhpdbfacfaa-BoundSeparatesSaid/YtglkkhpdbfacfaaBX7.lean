/- Part 7 of the texts behind the last one: rules and contracts. No condition. -/
import Derived.Test.YtglkkhpdbfacfaaBX6
open Option renaming bind_eq_some_iff → vQQ, map_eq_some_iff → vZK, bind_some → vZV
open Option.some renaming injEq → vQZ
open Prod.mk renaming injEq → vQY
open Bool renaming and_eq_true → vQJ, and_self → vZQ
open List renaming getElem?_eq_getElem → vQK, length_cons → vQX, mem_of_getElem? → vQW, mem_cons_of_mem → vQV, mem_cons_self → vQG, getElem?_map → vQH, getElem?_take → vZU, getD_eq_getElem?_getD → vZX
open Nat renaming eq_of_beq_eq_true → vQU, le_of_ble_eq_true → vZJ
open Classical renaming propDecidable → vZH
namespace Go.Rx
open Go.RowKit Go.Sx
section
variable {P:Program} {E:Env} {T:Tab} {ρ:Own} {F:Nat→Prop} {σ:St} {a:Act} {w:World}
theorem jJB {M:Mem} {cs:List CV} {ps:List PV} {us:List Value} {F':Nat→Prop} (hm:MemOk E ρ F M w) (hF:∀ k,F k→F' k) (hall:∀ id ad c k s b,ρ id=some (.reg ad c k s)→ad.map (·.block)=some b→F' b) (hcv:Al (fun c v=>RH ρ F w c.back v∧∀ id e sz rows,c=.o id e sz rows→qU M id=some (.reg e sz rows)) cs us) (hp:mapO CV.fz cs=some ps):Al (RP F' w) ps us:=by
 have h1:=zZ hp;refine ⟨by rw [← h1.1,hcv.1],fun i p v hpi hv => ?_⟩;have hil:=(List.getElem?_eq_some_iff.1 hpi).1;have hl:i < cs.length:=by rw [h1.1]; exact hil
 have hfz:=h1.2 i _ p (vQK hl) hpi;obtain ⟨hrh,ho⟩:=hcv.2 i _ v (vQK hl) hv;generalize cs[i]=c at hfz hrh ho;unfold CV.fz at hfz;split at hfz
 ·cases hfz; exact RP.mono (fun k hk=>⟨hF k hk,rfl⟩) hrh
 ·cases hfz; have:v=.slice none 0 0:=hrh; subst this; exact .l0 _ _
 ·rename_i id e' sz rows;cases hfz;obtain ⟨ad,c',k,sz',hρ,rfl⟩:=hrh;exact (jY (hm.ent id _ (ho _ _ _ _ rfl)) hF (fun L b hL hb=>by rw [hρ] at hL; cases hL; exact hall id _ _ _ _ b hρ hb) ad c' k sz' hρ).1
 ·cases hfz
def ResR (E:Env) (ρ:Own) (F:Nat→Prop) (M:Mem) (w:World) (r:RV) (v:Value):Prop :=
 (RH ρ F w r.back v∧RRes M r) ∨ (∃ p,r=.v p∧∀ F':Nat→Prop,(∀ k,F k→F' k)→(∀ id ad c k s b,ρ id=some (.reg ad c k s)→ad.map (·.block)=some b→F' b)→RP F' w p v)
theorem jQI {n:Nat} (hT:TabOk P T) (h:Rel' E n ρ F σ a w) {x:ResultVar} {r:RV} (hx:zHA T σ x=some r):∃ v,(resF a.tmps x).run P w=.ok v w∧ResR E ρ F σ.M w r v:=by
 cases x with
 | tmp t =>
  simp only [zHA,vQQ] at hx;obtain ⟨y,hy,hr⟩:=hx;obtain ⟨v,hv,hrh⟩:=h.slots t y hy;obtain ⟨hb,hres⟩:=qYV hr;refine ⟨v,by simp [resF,Array.getD_eq_getD_getElem?,hv],.inl ⟨by rw [hb]; exact hrh,hres⟩⟩
 | cell x t =>
  simp only [zHA,vQQ] at hx;obtain ⟨y,hy,p,hp,⟨kb,k⟩,hk,hx⟩:=hx;obtain ⟨v,hv,hrh⟩:=h.slots x y hy;obtain ⟨hb,hres⟩:=qYV hp;rw [← hb] at hrh;obtain ⟨hty,hk1⟩:=hT.sz t kb k hk;cases p with
  | p id off cells =>
   obtain ⟨b,hρ,rfl⟩:=hrh;obtain ⟨hc,hlk,hcc⟩:=hres;obtain ⟨b2,us,ty',hρ2,hheap,hal,hone⟩:=h.mem.ent id _ hlk;rw [hρ] at hρ2;cases hρ2;cases kb with
   | false =>
    have hk1':=hk1 rfl;subst hk1';simp only [vYZ,vQQ,vQZ] at hx;obtain ⟨c,hcs,q,hq,rfl⟩:=hx;have hcv:=qZA hcc hal;obtain ⟨u,hu,hru⟩:=hcv.get hcs;have hr:=zWI (w:=w) hheap off;rw [hu] at hr;refine ⟨u,by simp [resF,Array.getD_eq_getD_getElem?,hv,asAddr,loadVar,qUD hty,hr],.inr ⟨_,rfl,fun F' hF hall => ?_⟩⟩;exact (jJB h.mem hF hall (cs:=[c]) (us:=[u]) ⟨rfl,fun i c' u' hc' hu'=>by
     cases i with
     | zero=>simp at hc' hu'; subst hc' hu'; exact hru
     | succ i=>simp at hc'⟩ (ps:=[q]) (by simp [mapO,hq])).2 0 q u rfl rfl
   | true =>
   simp only [vYQ,vQQ,vQZ] at hx;obtain ⟨cs,hcs,ps,hps,rfl⟩:=hx;obtain ⟨rfl,hle⟩:=qZU hcs;have hcv:=qZA hcc hal;have hlen:cells.length=us.length:=hcv.1;have hr:=qXC (P:=P) (w:=w) (b:=b) (off:=off) (k:=k) (vs:=(us.drop off).take k) (fun i hi=>by
    rw [zWI hheap];simp [vZU,hi]) (by simp; omega)
   refine ⟨.agg ((us.drop off).take k).toArray,by simp [resF,Array.getD_eq_getD_getElem?,hv,asAddr,loadVar,qUD hty,qYK hty,hr],.inr ⟨_,rfl,fun F' hF hall => ?_⟩⟩;exact qKA (jJB h.mem hF hall ((hcv.drop off).take k) hps) fun u hu=>hone u (List.mem_of_mem_drop (List.mem_of_mem_take hu))
  | _=>simp only at hx; cases hx
theorem zVB {n:Nat} (hT:TabOk P T) (h:Rel' E n ρ F σ a w):∀ {xs:List ResultVar} {rs:List RV},mapO (zHA T σ) xs=some rs→∃ vs,(xs.mapM (resF a.tmps)).run P w=.ok vs w∧Al (ResR E ρ F σ.M w) rs vs
 | [],rs,hx=>by simp [mapO] at hx; subst hx; exact ⟨[],by simp,Al.nil⟩
 | x :: xs,rs,hx=>by
  simp only [mapO,vQQ,vQZ] at hx;obtain ⟨r,hr,rs',hrs,rfl⟩:=hx;obtain ⟨v,h1,h2⟩:=jQI hT h hr;obtain ⟨vs,h3,h4⟩:=zVB hT h hrs;exact ⟨v :: vs,by simp [List.mapM_cons,Sem.run_bind,h1,h3],Al.cons h2 h4⟩
def outF (E:Env) (ρ:Own) (F:Nat→Prop):Nat→Prop:=fun k=>F k ∨ ∃ id L,ρ id=some L∧L.bl=some k∧¬ E.W k
theorem jUX {M:Mem} (hm:MemOk E ρ F M w) {id:Nat} {ad:Option Addr} {c k s b:Nat} (hQ:∀ k,¬ E.Q k) (h:ρ id=some (.reg ad c k s)) (hb:ad.map (·.block)=some b):¬ E.W b:=fun hw=>by
 have h1:=(hm.pin b hw).resolve_right (hQ b)
 have:=hm.apart id pid _ _ b h h1 hb rfl
 subst this;rw [h] at h1; cases h1
theorem F_W {M:Mem} (hm:MemOk E ρ F M w) {k:Nat} (h:F k):E.F0 k ∨ E.w0.heap.size≤k ∨ E.Q k:=by
 rcases (hm.fz k h).2 with h1 | h1 | h1
 ·exact .inl h1
 ·exact .inr (.inl h1)
 ·rcases hm.pin k h1 with h2 | h2
  ·exact absurd h (hm.off pid _ k h2 rfl).1
  ·exact .inr (.inr h2)
theorem qVQ {M:Mem} (hm:MemOk E ρ F M w) (hQ:∀ k,¬ E.Q k) {k:Nat} (h:outF E ρ F k):E.F0 k ∨ (E.w0.heap.size≤k∧k < w.heap.size):=by
 rcases h with h | ⟨id,L,hL,hb,hW⟩
 ·rcases F_W hm h with h1 | h1 | h1
  ·exact .inl h1
  ·exact .inr ⟨h1,(hm.fz k h).1⟩
  ·exact absurd h1 (hQ k)
 ·have:=hm.off id L k hL hb
  rcases this.2.2 with h1 | h1
  ·exact .inr ⟨h1,this.2.1⟩
  ·exact absurd h1 hW
theorem jQL {M:Mem} (hm:MemOk E ρ F M w) (hQ:∀ k,¬ E.Q k) {r:RV} {p:PV} {v:Value} (hr:ResR E ρ F M w r v) (hp:r.fz=some p) (hs:r.still=true ∨ ∀ k,¬ E.W k):RP (outF E ρ F) w p v:=by
 have hreg:∀ id ad c k s b,ρ id=some (.reg ad c k s)→ad.map (·.block)=some b→outF E ρ F b:=fun id ad c k s b h hb=>.inr ⟨id,_,h,hb,jUX hm hQ h hb⟩
 rcases hr with ⟨h1,h2⟩ | ⟨p',rfl,h1⟩
 ·refine zQH hm (fun k hk=>.inl hk) hp h1 h2 ?_;rcases hs with hs | hs
  ·refine .inl ⟨hs,fun x hx L b hL hb => ?_⟩;obtain ⟨e,sz,hl⟩:=zXC h2 x hx;obtain ⟨ad,c,vr,hρ,_⟩:=hm.ent x.1 _ hl;rw [hL] at hρ;cases hρ;exact hreg _ _ _ _ _ b hL hb
  ·exact .inr fun id L b hL hb=>.inr ⟨id,L,hL,hb,hs b⟩
 ·cases hp; exact h1 _ (fun k hk=>.inl hk) hreg
theorem yYK {M:Mem} (hm:MemOk E ρ F M w) (hQ:∀ k,¬ E.Q k):∀ {rs:List RV} {ps:List PV} {vs:List Value},Al (ResR E ρ F M w) rs vs→mapO RV.fz rs=some ps→(rs.all RV.still=true ∨ ∀ k,¬ E.W k)→Al (RP (outF E ρ F) w) ps vs
 | [],ps,vs,hal,hp,_=>by cases hp; rw [hal.nil_left]; exact Al.nil
 | r :: rs,ps,vs,hal,hp,hs=>by
  simp only [mapO,vQQ,vQZ] at hp;obtain ⟨p,hp,ps',hps,rfl⟩:=hp;obtain ⟨v,vs',rfl,hr,hal'⟩:=hal.cons_left;have h1:r.still=true ∨ ∀ k,¬ E.W k:=hs.imp (fun h=>by simp only [List.all_cons,vQJ] at h; exact h.1) id;have h2:rs.all RV.still=true ∨ ∀ k,¬ E.W k:=hs.imp (fun h=>by simp only [List.all_cons,vQJ] at h; exact h.2) id;exact Al.cons (jQL hm hQ hr hp h1) (yYK hm hQ hal' hps h2)
theorem jGV {M:Mem} (hm:MemOk E ρ F M w) (hQ:∀ k,¬ E.Q k) {id e sz:Nat} {rows:Rows} {v:Value} (hr:ResR E ρ F M w (.o id e sz rows) v):RRet F E.w0 w (.ow e sz rows) v:=by
 rcases hr with ⟨h1,h2⟩ | ⟨p,hp,_⟩
 ·obtain ⟨ad,c,k,sz',hρ,rfl⟩:=h1;obtain ⟨ad2,c2,vr,hρ2,h0,hal,hrl,hone,hown⟩:=hm.ent id _ h2;rw [hρ] at hρ2;cases hρ2;refine ⟨ad,c,vr,rfl,h0,hal,hrl,hone,hown,fun b hb => ?_⟩
  have:=hm.off id _ b hρ hb
  refine ⟨this.1,?_,this.2.1⟩;rcases this.2.2 with h | h
  ·exact h
  ·exact absurd h (jUX hm hQ hρ hb)
 ·cases hp
def regF (ρ:Own) (F:Nat→Prop):Nat→Prop:=fun k=>F k ∨ ∃ id ad c n s,ρ id=some (.reg ad c n s)∧ad.map (·.block)=some k
theorem jGW {M:Mem} (hm:MemOk E ρ F M w) {id:Nat} {cells:List CV} {ps:List PV} {v:Value} (hr:ResR E ρ F M w (.p id 0 cells) v) (hp:mapO CV.fz cells=some ps) (hW:∀ k,¬ E.W k):RRet (regF ρ F) E.w0 w (.pb ps) v:=by
 rcases hr with ⟨h1,h2⟩ | ⟨p,hp,_⟩
 ·obtain ⟨b,hρ,rfl⟩:=h1;obtain ⟨hc,hlk,hcc⟩:=h2;obtain ⟨b2,us,ty',hρ2,hheap,hal,hone⟩:=hm.ent id _ hlk;rw [hρ] at hρ2;cases hρ2;have hoff:=hm.off id _ b hρ rfl;refine ⟨b,us,ty',rfl,hheap,jJB hm (fun k hk=>.inl hk) (fun id ad c k s b h hb=>.inr ⟨id,ad,c,k,s,h,hb⟩) (qZA hcc hal) hp,hone,fun hf => ?_,?_,hoff.2.1⟩
  ·rcases hf with hf | ⟨id',ad,c,k,s,h,hb⟩
   ·exact hoff.1 hf
   ·have:=hm.apart id id' _ _ b hρ h rfl hb
    subst this;rw [hρ] at h; cases h
  ·exact hoff.2.2.resolve_right (hW b)
 ·cases hp
theorem zVU {xs:List ResultVar} {vs:List Value} {fn:Func} (hfn:fn.results=xs.toArray) (h:(xs.mapM (resF a.tmps)).run P w=.ok vs w):(results fn a.tmps).run P w=.ok (Sx.valOf vs) w:=by
 unfold results;rw [hfn];change Sem.run P (do let us ← xs.toArray.mapM (resF a.tmps); pure (if h:us.size=1 then us[0] else .tuple us)) w=_;simp only [Sem.run_bind,List.mapM_toArray,Sem.run_map,h,Result.andThen_ok]
 match vs with
 | []=>rfl
 | [v]=>rfl
 | v :: u :: vs=>simp [Sx.valOf]
theorem jQF {M:Mem} (hm:MemOk E ρ F M w) (hQ:∀ k,¬ E.Q k) {rs:List RV} {vs:List Value} {r:Ret} (hal:Al (ResR E ρ F M w) rs vs) (hr:qHU rs=some r) (hs:rs.all RV.still=true ∨ ∀ k,¬ E.W k) :
  ∃ F',(∀ k,F k→F' k)∧(∀ k,F' k→E.F0 k ∨ (E.w0.heap.size≤k∧k < w.heap.size))∧RRet F' E.w0 w r (Sx.valOf vs):=by
 have gen:∀ ps,mapO RV.fz rs=some ps→Al (RP (outF E ρ F) w) ps vs:=fun ps hps=>yYK hm hQ hal hps hs
 have tup:∀ ps,mapO RV.fz rs=some ps→Sx.valOf vs=.tuple vs.toArray→r=.v (.t ps)→∃ F',(∀ k,F k→F' k)∧(∀ k,F' k→E.F0 k ∨ (E.w0.heap.size≤k∧k < w.heap.size))∧RRet F' E.w0 w r (Sx.valOf vs):=fun ps hps hv hr=>by
  subst hr;rw [hv];exact ⟨outF E ρ F,fun k hk=>.inl hk,fun k hk=>qVQ hm hQ hk,.t ps vs (gen ps hps).1 (gen ps hps).2⟩
 have one:∀ x p v,rs=[x]→vs=[v]→x.fz=some p→r=.v p→∃ F',(∀ k,F k→F' k)∧(∀ k,F' k→E.F0 k ∨ (E.w0.heap.size≤k∧k < w.heap.size))∧RRet F' E.w0 w r (Sx.valOf vs):=fun x p v hx hv hp hr=>by
  subst hr hx hv
  have:=gen [p] (by simp [mapO,hp])
  exact ⟨outF E ρ F,fun k hk=>.inl hk,fun k hk=>qVQ hm hQ hk,this.2 0 p v rfl rfl⟩
 cases rs with
 | nil =>
  have:=hal.nil_left
  subst this;simp only [qHU,mapO,vZV,vQZ] at hr;exact tup [] rfl rfl hr.symm
 | cons x rs =>
  obtain ⟨v,vs',rfl,hx,hal'⟩:=hal.cons_left;cases rs with
  | nil =>
   have:=hal'.nil_left
   subst this;have oth:(x.fz.bind fun y=>some (Ret.v y))=some r→∃ F',(∀ k,F k→F' k)∧(∀ k,F' k→E.F0 k ∨ (E.w0.heap.size≤k∧k < w.heap.size))∧RRet F' E.w0 w r (Sx.valOf [v]):=fun hr=>by
    simp only [vQQ,vQZ] at hr;obtain ⟨y,hy,rfl⟩:=hr;exact one x y v rfl rfl hy rfl
   cases x with
   | o id e sz rows =>
    cases hr;exact ⟨F,fun k hk=>hk,fun k hk=>by
     rcases F_W hm hk with h | h | h
     ·exact .inl h
     ·exact .inr ⟨h,(hm.fz k hk).1⟩
     ·exact absurd h (hQ k),jGV hm hQ hx⟩
   | p id off cells =>
    cases off with
    | zero =>
     simp only [qHU,vQQ,vQZ] at hr;obtain ⟨cs,hcs,rfl⟩:=hr;have hW:∀ k,¬ E.W k:=hs.resolve_left (by simp [RV.still]);refine ⟨regF ρ F,fun k hk=>.inl hk,fun k hk => ?_,jGW hm hx hcs hW⟩;rcases hk with hk | ⟨id',ad,c,n,s,h,hb⟩
     ·exact qVQ hm hQ (.inl hk)
     ·exact qVQ hm hQ (.inr ⟨id',_,h,hb,hW k⟩)
    | succ off=>exact oth hr
   | _=>exact oth hr
  | cons y rs =>
   obtain ⟨u,vs'',rfl,hy,hal''⟩:=hal'.cons_left;simp only [qHU,vQQ,vQZ] at hr;obtain ⟨ys,hys,rfl⟩:=hr;exact tup ys hys rfl rfl
theorem zZW {M:Mem} (hm:MemOk E ρ F M w):∀ {rs:List RV} {ps:List PV} {vs:List Value},Al (ResR E ρ F M w) rs vs→mapO RV.fz rs=some ps→Al (RP (allF ρ F) w) ps vs
 | [],ps,vs,hal,hp=>by cases hp; rw [hal.nil_left]; exact Al.nil
 | r :: rs,ps,vs,hal,hp=>by
  simp only [mapO,vQQ,vQZ] at hp;obtain ⟨p,hp,ps',hps,rfl⟩:=hp;obtain ⟨v,vs',rfl,hr,hal'⟩:=hal.cons_left;refine Al.cons ?_ (zZW hm hal' hps);rcases hr with ⟨h1,h2⟩ | ⟨p',rfl,h1⟩
  ·exact zQH hm (fun k hk=>.inl hk) hp h1 h2 (.inr fun id L b hL hb=>.inr ⟨id,L,hL,hb⟩)
  ·cases hp; exact h1 _ (fun k hk=>.inl hk) fun id ad c k s b h hb=>.inr ⟨id,_,h,hb⟩
theorem yXQ {M:Mem} (hm:MemOk E ρ F M w) {rs:List RV} {vs:List Value} {x:PV} (hal:Al (ResR E ρ F M w) rs vs) (hr:qHU rs=some (.v x)):RP (allF ρ F) w x (Sx.valOf vs):=by
 cases rs with
 | nil =>
  have:=hal.nil_left
  subst this;simp only [qHU,mapO,vZV,vQZ,Ret.v.injEq] at hr;subst hr;exact .t [] [] rfl fun i p v h=>by simp at h
 | cons y rs =>
  obtain ⟨v,vs',rfl,hx,hal'⟩:=hal.cons_left;cases rs with
  | nil =>
   have:=hal'.nil_left
   subst this;have oth:(y.fz.bind fun z=>some (Ret.v z))=some (.v x)→RP (allF ρ F) w x (Sx.valOf [v]):=fun hr=>by
    simp only [vQQ,vQZ,Ret.v.injEq] at hr;obtain ⟨z,hz,rfl⟩:=hr;exact (zZW hm hal (ps:=[z]) (by simp [mapO,hz])).2 0 z v rfl rfl
   cases y with
   | o id e sz rows=>cases hr
   | p id off cells =>
    cases off with
    | zero =>
     simp only [qHU,vQQ,vQZ] at hr;obtain ⟨_,_,hr⟩:=hr; cases hr
    | succ off=>exact oth hr
   | _=>exact oth hr
  | cons z rs =>
   obtain ⟨u,vs'',rfl,hy,hal''⟩:=hal'.cons_left;simp only [qHU,vQQ,vQZ,Ret.v.injEq] at hr;obtain ⟨ys,hys,rfl⟩:=hr
   have:=zZW hm hal hys
   exact .t ys _ this.1 this.2
theorem zQU:∀ {hs:List HV} {k t:Nat} {x:HV},jZ (initS k hs) t=some x→k≤t∧hs[t - k]? = some x
 | [],k,t,x,h=>by cases h
 | y :: hs,k,t,x,h=>by
  simp only [initS] at h;by_cases e:k=t
  ·subst e; rw [zQK] at h; simpa using h
  ·rw [zYY e] at h;obtain ⟨h1,h2⟩:=zQU h;refine ⟨by omega,?_⟩;rw [show t - k=(t - (k + 1)) + 1 by omega]
   simpa using h2
theorem qZE {N f:Nat} {orc:Orc} {hs:List HV} {M M':Mem} {r:Ret} {vals:List Value} (hT:TabOk P T) (hm:P.follows .mixedOrders=true) (hE:E.D=Harm P) (hA:SndA P (qYB orc (runF T orc N))) (hB:SndB P T (qQF T orc (runF T orc N)))
  (h:runF T orc (N + 1) f hs M=some (r,M')):kW P f∧∀ (hal:Al (RH ρ F w) hs vals) (hmem:MemOk E ρ F M w) (hW:M.isEmpty=true→∀ k,¬ E.W k) (hQ:(∀ k,¬ E.Q k) ∨ ∃ x,r=.v x∧x.flat=true),
   Calls P f vals.toArray w (fun e w'=>∃ v F' ρ' F1,e=.returned v∧GrowB E.W E.w0 w'∧MemOk E ρ' F1 M' w'∧(∀ k,F1 k→F' k)∧(∀ k,F' k→E.F0 k ∨ (E.w0.heap.size≤k∧k < w'.heap.size) ∨ E.Q k)∧RRet F' E.w0 w' r v):=by
 simp only [runF] at h;split at h
 ·cases h
 ·rename_i fi hfi;obtain ⟨hle,h⟩:=qZ h;obtain ⟨hent,fn,hf,hb,hn,hres⟩:=hT.fn f fi hfi;refine ⟨hent,fun hal hmem hW hQ=>calls_of_wp_defers hf hb ?_⟩;have hle':hs.length≤fi.ntmps:=vZJ hle;have hl:vals.length=hs.length:=hal.1.symm;refine zHW (E:=E) (C:=⟨T,qYB orc (runF T orc N),qQF T orc (runF T orc N),f,fi.ntmps⟩) hT hE hA hB hm fi.body _ _ _ _ _ h ⟨ρ,F,by simp [hn]; omega,fun d hd=>by simp at hd,fun t x hx => ?_,hmem⟩ fun e τ a' w' hk hr' => ?_
  ·obtain ⟨_,h2⟩:=zQU hx;simp only [Nat.sub_zero] at h2;obtain ⟨v,hv,hrv⟩:=hal.get h2;have hlt:=(List.getElem?_eq_some_iff.1 hv).1;refine ⟨v,?_,hrv⟩;rw [vQK hlt] at hv;simp [Array.getElem?_append,hlt]
   simpa using hv
  ·obtain ⟨ρ',F',hr'⟩:=hr';have key:∀ rs,mapO (zHA T τ) fi.results=some rs→∀ r',qHU rs=some r'→(bif M.isEmpty || rs.all RV.still then some (r',τ.M) else none)=some (r,M')→Leaves P fn a'.tmps (fun e w'=>∃ v2 F' ρ' F1,e=.returned v2∧GrowB E.W E.w0 w'∧MemOk E ρ' F1 M' w'∧(∀ k,F1 k→F' k)∧(∀ k,F' k→E.F0 k ∨ (E.w0.heap.size≤k∧k < w'.heap.size) ∨ E.Q k)∧RRet F' E.w0 w' r v2) a'.defers .returning w':=by
    intro rs hrs r' hr2 hb2;obtain ⟨hor,hb2⟩:=qZ hb2;cases hb2;obtain ⟨vs,h1,h2⟩:=zVB hT hr' hrs;have hst:rs.all RV.still=true ∨ ∀ k,¬ E.W k:=by
     rcases Bool.or_eq_true _ _ ▸ hor with h | h
     ·exact .inr (hW h)
     ·exact .inl h
    rcases hQ with hQ | ⟨x,hrx,hxf⟩
    ·obtain ⟨F2,f1,f2,f3⟩:=jQF hr'.mem hQ h2 hr2 hst;exact qKQ (zVU hres h1) ⟨Sx.valOf vs,F2,ρ',F',rfl,hr'.mem.grow,hr'.mem,f1,fun k hk=>(f2 k hk).imp id .inl,f3⟩ a'.defers fun d hd=>by rw [← hE]; exact hr'.defers d hd
    ·subst hrx;have f3:=(yXQ hr'.mem h2 hr2).flat (F':=F') (w':=w') hxf;refine qKQ (zVU hres h1) ⟨Sx.valOf vs,F',ρ',F',rfl,hr'.mem.grow,hr'.mem,fun k hk=>hk,fun k hk => ?_,f3⟩ a'.defers fun d hd=>by rw [← hE]; exact hr'.defers d hd
     rcases F_W hr'.mem hk with h | h | h
     ·exact .inl h
     ·exact .inr (.inl ⟨h,(hr'.mem.fz k hk).1⟩)
     ·exact .inr (.inr h)
   cases e with
   | exit id=>simp only [endK] at hk; cases hk
   | normal =>
    simp only [endK,vQQ] at hk;obtain ⟨rs,hrs,r',hr2,hb2⟩:=hk;exact key rs hrs r' hr2 hb2
   | ret =>
    simp only [endK,vQQ] at hk;obtain ⟨rs,hrs,r',hr2,hb2⟩:=hk;exact key rs hrs r' hr2 hb2
theorem RRet.pv {w0:World} {r:Ret} {x:PV} {v:Value} (h:RRet F w0 w r v) (hx:zJI r=some x):∃ F2:Nat→Prop,(∀ k,F k→F2 k)∧(∀ k,F2 k→F k ∨ (w0.heap.size≤k∧k < w.heap.size))∧RP F2 w x v:=by
 cases r with
 | v y=>cases hx; exact ⟨F,fun _ h=>h,fun _ h=>.inl h,h⟩
 | ow e sz rows =>
  cases hx;obtain ⟨ad,c,vr,rfl,h0,hal,hrl,hone,hown,hb⟩:=h;refine ⟨fun k=>F k ∨ ad.map (·.block)=some k,fun k hk=>.inl hk,fun k hk => ?_,?_⟩
  ·rcases hk with hk | hk
   ·exact .inl hk
   ·exact .inr (hb k hk).2
  ·exact (jY (ρ:=fun i=>if i=0 then some (.reg ad c rows.len sz) else none) (id:=0) (e:=e) (sz:=sz) (F:=F) ⟨ad,c,vr,by simp,h0,hal,hrl,hone,hown⟩ (fun k hk=>.inl hk) (fun L b hL hbl=>by simp at hL; subst hL; exact .inr hbl) ad c rows.len sz (by simp)).1
 | pb cells=>cases hx
def yZ (P:Program) (g:Nat) (ps:List PV) (r:Ret):Prop:=kW P g∧∀ (w:World) (F:Nat→Prop) (vals:List Value),(∀ k,F k→k < w.heap.size)→Al (RP F w) ps vals →
 Calls P g vals.toArray w (fun e w'=>∃ v F',e=.returned v∧Grow w w'∧(∀ k,F k→F' k)∧(∀ k,F' k→F k ∨ (w.heap.size≤k∧k < w'.heap.size))∧RRet F' w w' r v)
structure OrcOk (P:Program) (T:Tab) (orc:Orc):Prop where
 a:∀ g o,orc.a g=some o→∀ ps r,o ps=some r→yZ P g ps r
 b:∀ g o,orc.b g=some o→∀ hs ps x ps',o hs ps=some (x,ps')→yGH P g hs ps x ps' (T.gq g) (T.gk g)
theorem zUH {N f:Nat} {orc:Orc} {ps:List PV} {r:Ret} (hT:TabOk P T) (hm:P.follows .mixedOrders=true) (hA:SndA P (qYB orc (runF T orc N))) (hB:SndB P T (qQF T orc (runF T orc N)))
  (h:run T orc (N + 1) f ps=some r):yZ P f ps r:=by
 simp only [run,vQQ,vQZ] at h;obtain ⟨⟨r',M'⟩,h,rfl⟩:=h;refine ⟨(qZE (E:=⟨default,fun _=>False,fun _=>False,Harm P,fun _=>False,fun _=>False⟩) (ρ:=fun _=>none) (F:=fun _=>False) (w:=default) (vals:=[]) hT hm rfl hA hB h).1,fun w F vals hF hal => ?_⟩;refine Calls.mono ((qZE (E:=⟨w,F,fun _=>False,Harm P,fun _=>False,fun _=>False⟩) (ρ:=fun _=>none) (F:=F) (w:=w) (vals:=vals) hT hm rfl hA hB h).2 (Al.map_left hal) ⟨(fun id e hl=>by cases hl),(fun id L hL=>by cases hL),(fun id e hl=>by cases hl),(fun id L hL=>by cases hL),(fun id id' L L' b h=>by cases h),(fun id L b h=>by cases h),fun k hk=>⟨hF k hk,.inl hk⟩,fun k hk=>hk,GrowB.refl _ _,fun b hb=>hb.elim,fun b hb=>hb.elim⟩ (fun _ k hk=>hk) (.inl fun _ h=>h)) ?_
 rintro e w' ⟨v,F',ρ',F1,rfl,g,hmem,f1,f2,hr⟩
 exact ⟨v,F',rfl,⟨g.os,g.tape,g.output,g.size,fun k hk=>g.block k hk (fun h=>h)⟩,fun k hk=>f1 k (hmem.fz0 k hk),fun k hk=>(f2 k hk).imp id fun h=>h.resolve_right fun h=>h,hr⟩
theorem yJI {N f:Nat} {orc:Orc} {hs:List HV} {ps ps':List PV} {x:PV} (hT:TabOk P T) (hm:P.follows .mixedOrders=true) (hA:SndA P (qYB orc (runF T orc N))) (hB:SndB P T (qQF T orc (runF T orc N)))
  (hgq:T.gq f=false) (h:runB T orc (N + 1) f hs ps=some (x,ps')):yZJ P f hs ps x ps':=by
 simp only [runB,hgq,zWC,vYZ,vQQ,vQZ,vQY] at h;obtain ⟨⟨r',M'⟩,h,ps2,hps,x2,hx2,x3,rfl,rfl,rfl⟩:=h;have em:memB false ps=[(pid,.blk (ps.map PV.toH))]:=rfl;rw [em] at h;refine ⟨(qZE (E:=⟨default,fun _=>False,fun _=>False,Harm P,fun _=>False,fun _=>False⟩) (ρ:=fun _=>none) (F:=fun _=>False) (w:=default) (vals:=[]) hT hm rfl hA hB h).1,fun w F b vals us ty hF hFb hb hheap hpu hone hpid hal => ?_⟩
 let ρ:Own:=fun i=>if i=pid then some (.blk b) else none
 have hρ:ρ pid=some (.blk b):=if_pos rfl;have inv:∀ id L,ρ id=some L→id=pid∧L=.blk b:=fun id L hL=>by
  by_cases e:id=pid
  ·subst e; rw [hρ] at hL; cases hL; exact ⟨rfl,rfl⟩
  ·simp only [ρ,if_neg e] at hL; cases hL
 refine Calls.mono ((qZE (E:=⟨w,F,(· = b),Harm P,fun _=>False,fun _=>False⟩) (ρ:=ρ) (F:=F) (w:=w) (vals:=vals) hT hm rfl hA hB h).2 ⟨hal.1,fun i y v hy hv => ?_⟩ ⟨fun id e hl => ?_,fun id L hL _ => ?_,fun id e hl => ?_,fun id L hL hi => ?_,fun id id' L L' b h1 h2 _ _ => ?_,fun id L b' hL hb' => ?_,fun k hk=>⟨hF k hk,.inl hk⟩,fun k hk=>hk,GrowB.refl _ _,fun b' hb' => ?_,fun b' hb'=>hb'.elim⟩ (fun h=>by cases h) (.inl fun _ h=>h)) ?_
 ·have:=hal.2 i y v hy hv
  cases y with
  | v p=>exact this
  | p id off =>
   have hid:=hpid _ (vQW hy) id off rfl;subst hid;have hv':v=.pointer (some ⟨b,off,none⟩):=this;subst hv';exact ⟨b,hρ,rfl⟩
  | _=>exact this.elim
 ·by_cases e1:pid=id
  ·subst e1;simp only [qU,Nat.beq_refl,vYQ,vQZ] at hl;subst hl;exact ⟨b,us,ty,hρ,hheap,Al.map_left (hpu.imp fun _ _ _ h=>qGZ h),hone⟩
  ·simp only [qU,yH e1,vYZ] at hl; cases hl
 ·obtain ⟨rfl,rfl⟩:=inv id L hL;exact ⟨.blk (ps.map PV.toH),by simp only [qU,Nat.beq_refl,vYQ]⟩
 ·by_cases e1:pid=id
  ·rw [← e1]; decide
  ·simp only [qU,yH e1,vYZ] at hl; cases hl
 ·obtain ⟨_,rfl⟩:=inv id L hL; cases hi
 ·rw [(inv id L h1).1,(inv id' L' h2).1]
 ·obtain ⟨rfl,rfl⟩:=inv id L hL;cases hb';exact ⟨hFb,hb,.inr rfl⟩
 ·have:b'=b:=hb'
  subst this; exact .inl hρ
 ·rintro e w' ⟨v,F',ρ',F1,rfl,g,hmem,f1,f2,hr⟩
  obtain ⟨F2,f3,f4,hx⟩:=hr.pv hx2;unfold qZV at hps;split at hps
  ·rename_i hc hl;rw [vYZ] at hps;obtain ⟨b2,us',ty',hρ2,hheap',hal',hone'⟩:=hmem.ent pid _ hl
   have:=(hmem.pin b rfl).resolve_right fun h=>h
   rw [hρ2] at this;cases this;have h1:=zZ hps;have hbl:∀ id L k,ρ' id=some L→(∃ a c n sz,L=.reg a c n sz)→L.bl=some k→¬ F1 k∧w.heap.size≤k∧k < w'.heap.size:=fun id L k hL hreg hk=>by
    have ho:=hmem.off id L k hL hk;refine ⟨ho.1,?_,ho.2.1⟩;rcases ho.2.2 with h | h
    ·exact h
    ·have hp:=hmem.apart id pid L _ k hL hρ2 hk (by have hkb:k=b:=h; rw [hkb]; rfl);subst hp;rw [hρ2] at hL;obtain ⟨a,c,n,sz,rfl⟩:=hreg;cases hL
   let F3:Nat→Prop:=fun k=>F2 k ∨ ∃ id L,ρ' id=some L∧(∃ a c n sz,L=.reg a c n sz)∧L.bl=some k
   refine ⟨v,F3,us',ty',rfl,g,fun k hk=>.inl (f3 k (f1 k (hmem.fz0 k hk))),fun k hk => ?_,hx.mono fun k hk=>⟨.inl hk,rfl⟩,hheap',⟨by rw [← h1.1,hal'.1],fun i p u hp hu => ?_⟩,hone'⟩
   ·rcases hk with hk | ⟨id,L,hL,hreg,hk⟩
    ·rcases f4 k hk with h | h
     ·exact (f2 k h).imp id fun h=>h.resolve_right fun h=>h
     ·exact .inr h
    ·exact .inr (hbl id L k hL hreg hk).2
   ·have hil:=(List.getElem?_eq_some_iff.1 hp).1;have hl2:i < hc.length:=by rw [h1.1]; exact hil
    have hpv:=h1.2 i _ p (vQK hl2) hp;have hrh:=hal'.2 i _ u (vQK hl2) hu;generalize hc[i]=y at hpv hrh;unfold HV.pz at hpv;split at hpv
    ·cases hpv; exact RP.mono (fun k hk=>⟨.inl (f3 k (f1 k hk)),rfl⟩) hrh
    ·cases hpv;have e:u=.slice none 0 0:=hrh;subst e;exact .zs
    ·rename_i id;split at hpv
     ·rename_i e sz rows hl3;cases hpv;obtain ⟨a,c,k,sz',hr1,rfl⟩:=hrh;exact (jY (hmem.ent id _ hl3) (F':=F3) (fun k hk=>.inl (f3 k (f1 k hk))) (fun L b hL hb=>.inr ⟨id,L,hL,⟨_,_,_,_,by rw [hr1] at hL; cases hL; rfl⟩,hb⟩) a c k sz' hr1).1
     ·cases hpv
    ·cases hpv
  ·cases hps
theorem yJE {N f:Nat} {orc:Orc} {hs:List HV} {ps ps':List PV} {x:PV} (hT:TabOk P T) (hm:P.follows .mixedOrders=true) (hA:SndA P (qYB orc (runF T orc N))) (hB:SndB P T (qQF T orc (runF T orc N)))
  (hgq:T.gq f=true) (h:runB T orc (N + 1) f hs ps=some (x,ps')):zVQ P f hs ps x ps':=by
 simp only [runB,hgq,zWC,vYQ,vQQ,vQZ,vQY] at h;obtain ⟨⟨r',M'⟩,h,ps2,hps,x2,hx2,x3,hfx,rfl,rfl⟩:=h;obtain ⟨hflat,hfx⟩:=qZ hfx;simp only [vQZ] at hfx;subst hfx;have hr':r'=.v x2:=by
  cases r' with
  | v y=>cases hx2; rfl
  | ow e sz rows=>cases hx2; cases rows <;> simp [Rows.pv,PV.flat,PV.flat2,PV.flat1] at hflat
  | pb cells=>cases hx2
 subst hr';refine ⟨(qZE (E:=⟨default,fun _=>False,fun _=>False,Harm P,fun _=>False,fun _=>False⟩) (ρ:=fun _=>none) (F:=fun _=>False) (w:=default) (vals:=[]) hT hm rfl hA hB h).1,fun w F b A vals us ty hF hFb hb hheap ho1 hcells hone hAoff hpid hal => ?_⟩
 -- the growing slice that came in
 obtain ⟨L1,ent1,hL1,hmem1⟩:∃ (L1:Option Loc) (en:List (Nat × Ent)),(∀ L,L1=some L→∃ c k s,L=.reg A c k s)∧memB true ps=(pid,.blk (ps.map (PV.toQ (pid + 1)))) :: en ∧
   ((qYI ps=none∧en=[]∧L1=none) ∨ ∃ e sz y rows c vr,qYI ps=some (e,sz,y)∧y.rowsO=some rows∧en=[(pid + 1,.reg e sz rows)]∧L1=some (.reg A c rows.len sz)∧0 < sz∧Al (Al (RP F w)) rows.L vr∧(∀ r ∈ rows.L,r.length=sz)∧(∀ y ∈ vr,∀ u ∈ y,u.oneCell'=true)∧w.ownsRow 0 e sz (.slice A rows.len c) rows.len vr.flatten ∧
    ∀ (i e2 sz2:Nat) (x2:PV) (u:Value),ps[i]? = some (.gs e2 sz2 x2)→us[i]? = some u→u=.slice A rows.len c):=by
  cases hfg:qYI ps with
  | none=>exact ⟨none,[],fun L hL=>(by cases hL),by simp only [memB,hfg,gEnt,vYQ],.inl ⟨rfl,rfl,rfl⟩⟩
  | some q =>
   obtain ⟨e,sz,y⟩:=q;obtain ⟨i,hi⟩:=zYG hfg;obtain ⟨u,hu2,hg⟩:=hcells.get hi;obtain ⟨rows,c,vr,q1,q2,q3,q4,q5,q6,q7⟩:=hg;refine ⟨some (.reg A c rows.len sz),[(pid + 1,.reg e sz rows)],fun L hL=>(by cases hL; exact ⟨_,_,_,rfl⟩),by simp only [memB,hfg,gEnt,q1,vZV,vYQ],.inr ⟨e,sz,y,rows,c,vr,rfl,q1,rfl,rfl,q3,q4,q5,q6,q7,fun i2 e2 sz2 x3 u2 hi2 hu3 => ?_⟩⟩;by_cases e3:i2=i
   ·subst e3; rw [hu2] at hu3; cases hu3; exact q2
   ·exact (zVX ho1 e3 hi2 hi).elim
 obtain ⟨hmem1,hcase⟩:=hmem1;rw [hmem1] at h;have hpp:pid + 1 ≠ pid:=by decide
 let ρ:Own:=fun i=>if i=pid then some (.blk b) else if i=pid + 1 then L1 else none
 have hρ:ρ pid=some (.blk b):=if_pos rfl;have hρ1:ρ (pid + 1)=L1:=by show (if pid + 1=pid then _ else if pid + 1=pid + 1 then L1 else none)=L1; rw [if_neg hpp,if_pos rfl]
 have inv:∀ id L,ρ id=some L→(id=pid∧L=.blk b) ∨ (id=pid + 1∧L1=some L):=fun id L hL=>by
  by_cases e:id=pid
  ·subst e; rw [hρ] at hL; cases hL; exact .inl ⟨rfl,rfl⟩
  ·by_cases e2:id=pid + 1
   ·subst e2; rw [hρ1] at hL; exact .inr ⟨rfl,hL⟩
   ·simp only [ρ,if_neg e,if_neg e2] at hL; cases hL
 have look:∀ id e,qU ((pid,Ent.blk (ps.map (PV.toQ (pid + 1)))) :: ent1) id=some e→(id=pid∧e=.blk (ps.map (PV.toQ (pid + 1)))) ∨ (id=pid + 1∧ent1=[(pid + 1,e)]):=fun id e hl=>by
  by_cases e1:pid=id
  ·subst e1;simp only [qU,Nat.beq_refl,vYQ,vQZ] at hl;exact .inl ⟨rfl,hl.symm⟩
  ·simp only [qU,yH e1,vYZ] at hl;rcases hcase with ⟨_,rfl,_⟩ | ⟨e',sz,y,rows,c,vr,_,_,rfl,_⟩
   ·cases hl
   ·by_cases e2:pid + 1=id
    ·subst e2;simp only [qU,Nat.beq_refl,vYQ,vQZ] at hl;exact .inr ⟨rfl,by rw [hl]⟩
    ·simp only [qU,yH e2,vYZ] at hl; cases hl
 refine Calls.mono ((qZE (E:=⟨w,F,fun k=>k=b ∨ A.map (·.block)=some k,Harm P,fun k=>A.map (·.block)=some k,fun _=>False⟩) (ρ:=ρ) (F:=F) (w:=w) (vals:=vals) hT hm rfl hA hB h).2 ⟨hal.1,fun i y v hy hv => ?_⟩ ⟨fun id e hl => ?_,fun id L hL _ => ?_,fun id e hl => ?_,fun id L hL hi => ?_,fun id id' L L' b' h1 h2 hb1 hb2 => ?_,fun id L b' hL hb' => ?_,fun k hk=>⟨hF k hk,.inl hk⟩,fun k hk=>hk,GrowB.refl _ _,fun b' hb' => ?_,fun b' hb'=>hb'.elim⟩ (fun h=>by cases h) (.inr ⟨_,rfl,hflat⟩)) ?_
 ·have:=hal.2 i y v hy hv
  cases y with
  | v p=>exact this
  | p id off =>
   have hid:=hpid _ (vQW hy) id off rfl;subst hid;have hv':v=.pointer (some ⟨b,off,none⟩):=this;subst hv';exact ⟨b,hρ,rfl⟩
  | _=>exact this.elim
 ·rcases look id e hl with ⟨rfl,rfl⟩ | ⟨rfl,he⟩
  ·refine ⟨b,us,ty,hρ,hheap,Al.map_left ⟨hcells.1,fun i p u hi hu3=>yZW (hcells.2 i p u hi hu3) fun e sz x2 rows c hpe hrows huv => ?_⟩,hone⟩;subst hpe;have hfg:=zKB ho1 hi;rcases hcase with ⟨h1,_⟩ | ⟨e3,sz3,x3,rows3,c3,vr,hf3,hr3,_,hL,_,_,_,_,_,hall⟩
   ·rw [hfg] at h1; cases h1
   ·rw [hfg] at hf3;cases hf3;rw [hrows] at hr3;cases hr3
    have:=hall i _ _ _ u hi hu3
    rw [huv] at this;simp only [Value.slice.injEq,true_and] at this;exact ⟨sz,by rw [hρ1,hL,this]⟩
  ·rcases hcase with ⟨_,h1,_⟩ | ⟨e3,sz3,x3,rows3,c3,vr,_,_,h1,hL,q3,q4,q5,q6,q7,_⟩
   ·rw [h1] at he; cases he
   ·rw [h1] at he;cases he;exact ⟨A,c3,vr,by rw [hρ1]; exact hL,q3,q4,q5,q6,q7⟩
 ·rcases inv id L hL with ⟨rfl,_⟩ | ⟨rfl,h1⟩
  ·exact ⟨.blk (ps.map (PV.toQ (pid + 1))),by simp only [qU,Nat.beq_refl,vYQ]⟩
  ·rcases hcase with ⟨_,_,h2⟩ | ⟨e3,sz3,x3,rows3,c3,vr,_,_,h2,_⟩
   ·rw [h2] at h1; cases h1
   ·rw [h2]; exact ⟨.reg e3 sz3 rows3,rfl⟩
 ·rcases look id e hl with ⟨rfl,_⟩ | ⟨rfl,_⟩ <;> decide
 ·rcases inv id L hL with ⟨_,rfl⟩ | ⟨_,h1⟩
  ·cases hi
  ·obtain ⟨_,_,_,rfl⟩:=hL1 L h1; cases hi
 ·have cross:∀ L,L1=some L→L.bl=some b→False:=fun L h3 h4=>by
   obtain ⟨_,_,_,rfl⟩:=hL1 L h3;exact (hAoff b h4).2.2 rfl
  rcases inv id L h1 with ⟨rfl,rfl⟩ | ⟨rfl,h3⟩ <;> rcases inv id' L' h2 with ⟨rfl,rfl⟩ | ⟨rfl,h4⟩
  ·rfl
  ·cases hb1; exact (cross L' h4 hb2).elim
  ·cases hb2; exact (cross L h3 hb1).elim
  ·rfl
 ·rcases inv id L hL with ⟨rfl,rfl⟩ | ⟨rfl,h3⟩
  ·cases hb'; exact ⟨hFb,hb,.inr (.inl rfl)⟩
  ·obtain ⟨_,_,_,rfl⟩:=hL1 L h3
   have:=hAoff b' hb'
   exact ⟨this.1,this.2.1,.inr (.inr hb')⟩
 ·rcases hb' with hb' | hb'
  ·exact .inl (by rw [hb']; exact hρ)
  ·exact .inr hb'
 ·rintro e w' ⟨v,F',ρ',F1,rfl,g,hmem,f1,f2,hr⟩
  have hbnA:¬ A.map (·.block)=some b:=fun h=>(hAoff b h).2.2 rfl
  unfold qZV at hps;split at hps
  ·rename_i hc hl;rw [vYQ] at hps;simp only [vQQ] at hps;obtain ⟨ps3,hps,ho3⟩:=hps;obtain ⟨ho3,hq⟩:=qZ ho3;cases hq;obtain ⟨b2,us',ty',hρ2,hheap',hal',hone'⟩:=hmem.ent pid _ hl;have hb2:b2=b:=by
    have h3:=(hmem.pin b (.inl rfl)).resolve_right hbnA;rw [hρ2] at h3;cases h3; rfl
   subst hb2;have h1:=zZ hps
   -- what a cell is
   have cell:∀ (i:Nat) p u,ps2[i]? = some p→us'[i]? = some u→(RP F1 w' p u) ∨ ∃ id e sz rows a c,p=.gs e sz rows.pv∧qU M' id=some (.reg e sz rows)∧ρ' id=some (.reg a c rows.len sz)∧u=.slice a rows.len c:=fun i p u hp hu=>by
    have hil:=(List.getElem?_eq_some_iff.1 hp).1;have hl2:i < hc.length:=by rw [h1.1]; exact hil
    have hpv:=h1.2 i _ p (vQK hl2) hp;have hrh:=hal'.2 i _ u (vQK hl2) hu;generalize hc[i]=y at hpv hrh;unfold HV.pq at hpv;split at hpv
    ·cases hpv; exact .inl hrh
    ·cases hpv;have e:u=.slice none 0 0:=hrh;subst e;exact .inl .zs
    ·rename_i id;split at hpv
     ·rename_i e sz rows hl3;cases hpv;obtain ⟨a,c,k,sz',hr1,rfl⟩:=hrh;obtain ⟨a2,c2,vr,hr2,_⟩:=hmem.ent id _ hl3;have hr3:=hr1;rw [hr1] at hr2;simp only [vQZ,Loc.reg.injEq] at hr2;obtain ⟨_,_,rfl,rfl⟩:=hr2;exact .inr ⟨id,e,_,rows,a,c,rfl,hl3,hr1,rfl⟩
     ·cases hpv
    ·cases hpv
   obtain ⟨A',hA'⟩:∃ A':Option Addr,(∀ (i:Nat) p u,ps2[i]? = some p→us'[i]? = some u→GsR F1 w' A' p u)∧∀ k,A'.map (·.block)=some k→¬ F1 k∧k < w'.heap.size∧k ≠ b2∧(w.heap.size≤k ∨ A.map (·.block)=some k):=by
    cases hfg:qYI ps2 with
    | none =>
     refine ⟨none,fun i p u hp hu => ?_,fun k hk=>by cases hk⟩;rcases cell i p u hp hu with h | ⟨id,e,sz,rows,a,c,rfl,_⟩
     ·exact yJB h
     ·rw [zKB ho3 hp] at hfg; cases hfg
    | some q =>
     obtain ⟨e,sz,y⟩:=q;obtain ⟨i0,hi0⟩:=zYG hfg;obtain ⟨u0,hu0,_⟩:∃ u,us'[i0]? = some u∧True:=by
      have hil:=(List.getElem?_eq_some_iff.1 hi0).1
      have:i0 < us'.length:=by rw [← hal'.1,h1.1]; exact hil
      exact ⟨_,vQK this,trivial⟩
     rcases cell i0 _ u0 hi0 hu0 with h | ⟨id,e',sz',rows,a,c,hpe,hl3,hr1,rfl⟩
     ·cases h
     ·simp only [PV.gs.injEq] at hpe;obtain ⟨rfl,rfl,rfl⟩:=hpe;obtain ⟨a2,c2,vr,hr2,q3,q4,q5,q6,q7⟩:=hmem.ent id _ hl3;rw [hr1] at hr2;simp only [vQZ,Loc.reg.injEq] at hr2;obtain ⟨rfl,rfl,_,_⟩:=hr2;refine ⟨a,fun i p u hp hu => ?_,fun k hk => ?_⟩
      ·by_cases ei:i=i0
       ·subst ei;rw [hi0] at hp; rw [hu0] at hu;cases hp; cases hu;exact ⟨rows,c,vr,by cases rows <;> rfl,rfl,q3,q4,q5,q6,q7⟩
       ·rcases cell i p u hp hu with h | ⟨_,e2,sz2,rows2,_,_,rfl,_⟩
        ·exact yJB h
        ·exact (zVX ho3 ei hp hi0).elim
      ·have ho:=hmem.off id _ k hr1 hk;have hkb:k ≠ b2:=fun e=>by
        subst e
        have:=hmem.apart id pid _ _ k hr1 hρ2 hk rfl
        subst this;rw [hρ2] at hr1; cases hr1
       refine ⟨ho.1,ho.2.1,hkb,?_⟩;rcases ho.2.2 with h | h | h
       ·exact .inl h
       ·exact absurd h hkb
       ·exact .inr h
   refine ⟨v,F1,us',ty',A',rfl,g,fun k hk=>hmem.fz0 k hk,fun k hk => ?_,RP.flat hr hflat,hheap',⟨by rw [← h1.1,hal'.1],hA'.1⟩,hone',hA'.2⟩;rcases F_W hmem hk with h | h | h
   ·exact .inl h
   ·exact .inr (.inl ⟨h,(hmem.fz k hk).1⟩)
   ·exact .inr (.inr h)
  ·cases hps
theorem yJF {N f:Nat} {orc:Orc} {hs:List HV} {ps ps':List PV} {x:PV} (hT:TabOk P T) (hm:P.follows .mixedOrders=true) (hA:SndA P (qYB orc (runF T orc N))) (hB:SndB P T (qQF T orc (runF T orc N)))
  (h:runW T orc (N + 1) f hs ps=some (x,ps')):zVZ P f hs ps x ps':=by
 simp only [runW,vQQ] at h;obtain ⟨M,hM,⟨r',M'⟩,h,ps2,hps,x2,hx2,hfx⟩:=h;obtain ⟨hflat,hfx⟩:=qZ hfx;simp only [vQZ,vQY] at hfx;obtain ⟨rfl,rfl⟩:=hfx;have hr':r'=.v x2:=by
  cases r' with
  | v y=>cases hx2; rfl
  | ow e sz rows=>cases hx2; cases rows <;> simp [Rows.pv,PV.flat,PV.flat2,PV.flat1] at hflat
  | pb cells=>cases hx2
 subst hr';unfold memK at hM;split at hM
 ·rename_i e0 sz0 y0;simp only [vQQ,vQZ] at hM;obtain ⟨rows0,hr0,rfl⟩:=hM;refine ⟨(qZE (E:=⟨default,fun _=>False,fun _=>False,Harm P,fun _=>False,fun _=>False⟩) (ρ:=fun _=>none) (F:=fun _=>False) (w:=default) (vals:=[]) hT hm rfl hA hB h).1,fun w F b A vals us ty hF hFb hb hheap ho1 hcells hone hAoff hpid hal => ?_⟩;obtain ⟨u0,rfl⟩:∃ u0,us=[u0]:=by
   match us,hcells.1 with
   | [u0],_=>exact ⟨u0,rfl⟩
  obtain ⟨rowsx,c,vr,q1,q2,q3,q4,q5,q6,q7⟩:GsR F w A (.gs e0 sz0 y0) u0:=hcells.2 0 _ u0 rfl rfl;rw [hr0] at q1;cases q1;have hpp:pid + 1 ≠ pid2:=by decide
  let ρ:Own:=fun i=>if i=pid2 then some (.blk b) else if i=pid + 1 then some (.reg A c rows0.len sz0) else none
  have hρ:ρ pid2=some (.blk b):=if_pos rfl;have hρ1:ρ (pid + 1)=some (.reg A c rows0.len sz0):=by show (if pid + 1=pid2 then _ else if pid + 1=pid + 1 then some (Loc.reg A c rows0.len sz0) else none)=_; rw [if_neg hpp,if_pos rfl]
  have inv:∀ id L,ρ id=some L→(id=pid2∧L=.blk b) ∨ (id=pid + 1∧L=.reg A c rows0.len sz0):=fun id L hL=>by
   by_cases e:id=pid2
   ·subst e; rw [hρ] at hL; cases hL; exact .inl ⟨rfl,rfl⟩
   ·by_cases e2:id=pid + 1
    ·subst e2; rw [hρ1] at hL; cases hL; exact .inr ⟨rfl,rfl⟩
    ·simp only [ρ,if_neg e,if_neg e2] at hL; cases hL
  have look:∀ id e,qU [(pid2,Ent.blk [.o (pid + 1)]),(pid + 1,.reg e0 sz0 rows0)] id=some e→(id=pid2∧e=.blk [.o (pid + 1)]) ∨ (id=pid + 1∧e=.reg e0 sz0 rows0):=fun id e hl=>by
   by_cases e1:pid2=id
   ·subst e1;simp only [qU,Nat.beq_refl,vYQ,vQZ] at hl;exact .inl ⟨rfl,hl.symm⟩
   ·simp only [qU,yH e1,vYZ] at hl;by_cases e2:pid + 1=id
    ·subst e2;simp only [Nat.beq_refl,vYQ,vQZ] at hl;exact .inr ⟨rfl,hl.symm⟩
    ·simp only [yH e2,vYZ] at hl; cases hl
  refine Calls.mono ((qZE (E:=⟨w,F,fun k=>k=b ∨ A.map (·.block)=some k,Harm P,fun k=>k=b ∨ A.map (·.block)=some k,(· = b)⟩) (ρ:=ρ) (F:=F) (w:=w) (vals:=vals) hT hm rfl hA hB h).2 ⟨by rw [List.length_map]; exact hal.1,fun i y v hy hv => ?_⟩ ⟨fun id e hl => ?_,fun id L hL _ => ?_,fun id e hl => ?_,fun id L hL hi => ?_,fun id id' L L' b' h1 h2 hb1 hb2 => ?_,fun id L b' hL hb' => ?_,fun k hk=>⟨hF k hk,.inl hk⟩,fun k hk=>hk,GrowB.refl _ _,fun b' hb'=>.inr hb',fun b' hb' => ?_⟩ (fun h=>by cases h) (.inr ⟨_,rfl,hflat⟩)) ?_
  ·rw [vQH,vZK] at hy;obtain ⟨y1,hy1,rfl⟩:=hy
   have:=hal.2 i _ v hy1 hv
   cases y1 with
   | v p=>exact this
   | p id off =>
    have hv':v=.pointer (some ⟨b,off,none⟩):=this;subst hv';exact ⟨b,hρ,rfl⟩
   | _=>exact this.elim
  ·rcases look id e hl with ⟨rfl,rfl⟩ | ⟨rfl,rfl⟩
   ·exact ⟨b,[u0],ty,hρ,hheap,⟨rfl,fun i p u hi hu=>by
     cases i with
     | zero=>cases hi; cases hu; exact ⟨A,c,_,_,hρ1,q2⟩
     | succ i=>simp at hi⟩,hone⟩
   ·exact ⟨A,c,vr,hρ1,q3,q4,q5,q6,q7⟩
  ·rcases inv id L hL with ⟨rfl,_⟩ | ⟨rfl,_⟩
   ·exact ⟨.blk [.o (pid + 1)],by simp only [qU,Nat.beq_refl,vYQ]⟩
   ·exact ⟨.reg e0 sz0 rows0,rfl⟩
  ·rcases look id e hl with ⟨rfl,_⟩ | ⟨rfl,_⟩ <;> decide
  ·rcases inv id L hL with ⟨_,rfl⟩ | ⟨_,rfl⟩ <;> cases hi
  ·have cross:(Loc.reg A c rows0.len sz0).bl=some b→False:=fun h4=>(hAoff b h4).2.2 rfl
   rcases inv id L h1 with ⟨rfl,rfl⟩ | ⟨rfl,rfl⟩ <;> rcases inv id' L' h2 with ⟨rfl,rfl⟩ | ⟨rfl,rfl⟩
   ·rfl
   ·cases hb1; exact (cross hb2).elim
   ·cases hb2; exact (cross hb1).elim
   ·rfl
  ·rcases inv id L hL with ⟨rfl,rfl⟩ | ⟨rfl,rfl⟩
   ·cases hb'; exact ⟨hFb,hb,.inr (.inl rfl)⟩
   ·have:=hAoff b' hb'
    exact ⟨this.1,this.2.1,.inr (.inr hb')⟩
  ·have hb2:b'=b:=hb';subst hb2;exact ⟨hρ,rfl⟩
  ·rintro e w' ⟨v,F',ρ',F1,rfl,g,hmem,f1,f2,hr⟩
   unfold jZJ at hps;split at hps
   ·rename_i id hl;split at hps
    ·rename_i e sz rows hl3;cases hps;obtain ⟨hρ2,hb2⟩:=hmem.rd b rfl;obtain ⟨b2,us',ty',hρ3,hheap',hal',hone'⟩:=hmem.ent pid2 _ hl;rw [hρ2] at hρ3;cases hρ3;have hb2:w'.heap[b]? = w.heap[b]?:=hb2;rw [hb2,hheap] at hheap';simp only [vQZ,Obj.cells.injEq] at hheap';have hus:us'=[u0]:=by have:=congrArg Array.toList hheap'.1; simpa using this.symm
     subst hus;obtain ⟨a,c',k,sz',hr1,hu⟩:=hal'.2 0 _ u0 rfl rfl;rw [q2] at hu;simp only [Value.slice.injEq] at hu;obtain ⟨rfl,rfl,rfl⟩:=hu;obtain ⟨a2,c2,vr2,hr2,p3,p4,p5,p6,p7⟩:=hmem.ent id _ hl3;rw [hr1] at hr2;simp only [vQZ,Loc.reg.injEq] at hr2;obtain ⟨rfl,rfl,e5,rfl⟩:=hr2;refine ⟨v,F1,rfl,⟨g.os,g.tape,g.output,g.size,fun k hk hW => ?_⟩,fun k hk=>hmem.fz0 k hk,fun k hk => ?_,RP.flat hr hflat,⟨rfl,fun i p u hi hu => ?_⟩⟩
     ·by_cases e6:k=b
      ·subst e6; exact hb2
      ·exact g.block k hk (fun h=>h.elim e6 hW)
     ·rcases F_W hmem hk with h1 | h1 | h1
      ·exact .inl h1
      ·exact .inr ⟨h1,(hmem.fz k hk).1⟩
      ·rcases h1 with h1 | h1
       ·subst h1; exact absurd hk (hmem.off pid2 _ _ hρ2 rfl).1
       ·exact absurd hk (hmem.off id _ k hr1 h1).1
     ·cases i with
      | zero =>
       cases hi;cases hu;exact ⟨rows,c,vr2,by cases rows <;> rfl,by rw [q2,e5],p3,p4,p5,p6,p7⟩
      | succ i=>simp at hi
    ·cases hps
   ·cases hps
 ·cases hM
theorem zQA {N f:Nat} {orc:Orc} {hs:List HV} {ps ps':List PV} {x:PV} (hT:TabOk P T) (hm:P.follows .mixedOrders=true) (hA:SndA P (qYB orc (runF T orc N))) (hB:SndB P T (qQF T orc (runF T orc N)))
  (h:runB T orc (N + 1) f hs ps=some (x,ps')):yUK P f hs ps x ps' (T.gq f):=by
 cases hq:T.gq f with
 | false=>exact yJI hT hm hA hB hq h
 | true=>exact yJE hT hm hA hB hq h
theorem qJC {orc:Orc} (hT:TabOk P T) (hm:P.follows .mixedOrders=true) (hO:OrcOk P T orc):∀ N,SndA P (qYB orc (runF T orc N))∧SndB P T (qQF T orc (runF T orc N))
 | 0=>by
  refine ⟨fun g ps r h => ?_,fun g hs ps x ps' h => ?_⟩
  ·unfold qYB at h;split at h
   ·rename_i o ho; exact hO.a g o ho ps r h
   ·cases h
  ·unfold qQF at h;split at h
   ·rename_i o ho; exact hO.b g o ho hs ps x ps' h
   ·cases hgk:T.gk g <;> rw [hgk] at h <;> cases h
 | N + 1=>by
  obtain ⟨hA,hB⟩:=qJC hT hm hO N;refine ⟨fun g ps r h => ?_,fun g hs ps x ps' h => ?_⟩
  ·unfold qYB at h;split at h
   ·rename_i o ho; exact hO.a g o ho ps r h
   ·exact zUH hT hm hA hB h
  ·unfold qQF at h;split at h
   ·rename_i o ho; exact hO.b g o ho hs ps x ps' h
   ·cases hgk:T.gk g with
    | true=>rw [hgk] at h; cases h
    | false=>rw [hgk,vYZ] at h; exact zQA hT hm hA hB h
theorem qZX {orc:Orc} {N f:Nat} {ps:List PV} {r:Ret} (hT:TabOk P T) (hm:P.follows .mixedOrders=true) (hO:OrcOk P T orc) (h:run T orc N f ps=some r):yZ P f ps r:=by
 cases N with
 | zero=>cases h
 | succ N=>exact zUH hT hm (qJC hT hm hO N).1 (qJC hT hm hO N).2 h
theorem zHV {orc:Orc} {N f:Nat} {hs:List HV} {ps ps':List PV} {x:PV} (hT:TabOk P T) (hm:P.follows .mixedOrders=true) (hO:OrcOk P T orc) (h:runB T orc N f hs ps=some (x,ps')):yUK P f hs ps x ps' (T.gq f):=by
 cases N with
 | zero=>cases h
 | succ N=>exact zQA hT hm (qJC hT hm hO N).1 (qJC hT hm hO N).2 h
theorem zHU {orc:Orc} {N f:Nat} {hs:List HV} {ps ps':List PV} {x:PV} (hT:TabOk P T) (hm:P.follows .mixedOrders=true) (hO:OrcOk P T orc) (h:runW T orc N f hs ps=some (x,ps')):zVZ P f hs ps x ps':=by
 cases N with
 | zero =>
  simp only [runW,vQQ] at h;obtain ⟨M,_,r,h,_⟩:=h;cases h
 | succ N=>exact yJF hT hm (qJC hT hm hO N).1 (qJC hT hm hO N).2 h
theorem qVZ:OrcOk P T Orc.none:=⟨(fun g o h=>by cases h),(fun g o h=>by cases h)⟩
end
end Go.Rx
namespace Go.Rx
open Go.RowKit Go.Sx
def asc {α:Type}:List (Nat × α)→Nat→Option α
 | [],_=>none
 | (k,x) :: l,i=>bif Nat.beq k i then some x else asc l i
theorem uY {α:Type} {l:List (Nat × α)} {i:Nat} {x:α} (h:asc l i=some x):(i,x) ∈ l:=by
 induction l with
 | nil=>cases h
 | cons y l ih =>
  obtain ⟨k,z⟩:=y;simp only [asc] at h;cases hc:Nat.beq k i with
  | true=>rw [hc] at h; cases h; rw [← vQU hc]; exact vQG
  | false=>rw [hc] at h; exact vQV _ (ih h)
def inL:List Nat→Nat→Bool
 | [],_=>false
 | k :: l,i=>bif Nat.beq k i then true else inL l i
theorem zWH {l:List Nat} {i:Nat} (h:inL l i=true):i ∈ l:=by
 induction l with
 | nil=>cases h
 | cons k l ih =>
  simp only [inL] at h;cases hc:Nat.beq k i with
  | true=>rw [← vQU hc]; exact vQG
  | false=>rw [hc] at h; exact vQV _ (ih h)
structure Tabs where
 sz:List (Nat × (Bool × Nat))
 zr:List (Nat × Value)
 fd:List (Nat × List Nat)
 fx:List (Nat × List (Nat × Bool × Nat))
 ar:List (Nat × (Nat × Nat × Bool))
 sl:List (Nat × (Nat × Nat × Nat))
 ly:List (Nat × List (Nat × Nat))
 ik:List (Nat × IntKind)
 str:List Nat
 bo:List Nat
 eq:List (Nat × List Kd)
 fn:List (Nat × Func)
 hint:List (Nat × List (Nat × Hint))
 rw:List Nat
 ow:List (Nat × List Nat)
 dd:List Nat
 ff:List Nat:=[]
 big:List Nat:=[]
 zf:List Nat:=[]
 ag:List Nat:=[]
 bf:List Nat:=[]
 sf:List Nat:=[]
 nf:List Nat:=[]
 gq:List Nat:=[]
 gk:List Nat:=[]
 dr:List (Nat × List (Nat × Hint)):=[]
def zWF:Value→Option HV
 | .slice none 0 0=>some .nl
 | v=>(qXV v).bind fun p=>some (.v p)
def FnI.of (fn:Func):FnI:=⟨fn.body.getD .skip,fn.ntmps,fn.results.toList⟩
def Tabs.tab (t:Tabs):Tab where
 sz:=asc t.sz
 zr:=fun i=>(asc t.zr i).bind fun z=>mapO qXV z.cells.toList
 zh:=fun i=>(asc t.zr i).bind fun z=>mapO zWF z.cells.toList
 fd:=fun i f=>(asc t.fd i).bind fun l=>l[f]?
 fx:=fun i f=>(asc t.fx i).bind fun l=>l[f]?
 ar:=asc t.ar
 sl:=fun i=>(asc t.sl i).bind fun x=>some (x.1,x.2.1)
 ly:=asc t.ly
 ik:=asc t.ik
 str:=inL t.str
 bo:=inL t.bo
 eqK:=asc t.eq
 fn:=fun i=>(asc t.fn i).bind fun f=>some (FnI.of f)
 hint:=fun f r=>match (asc t.hint f).bind fun l=>asc l r with | some h=>h | none=>{}
 rw:=inL t.rw
 ownR:=fun f d=>match asc t.ow f with | some l=>inL l d | none=>false
 dd:=inL t.dd
 ff:=inL t.ff
 zf:=inL t.zf
 agf:=inL t.ag
 bf:=inL t.bf
 sf:=inL t.sf
 nf:=inL t.nf
 gq:=inL t.gq
 gk:=inL t.gk
 dr:=fun f r=>(asc t.dr f).bind fun l=>asc l r
 bd:=fun e=>bif inL t.big e then 17592186044416 else 1000000
def allI {α:Type} (p:Nat→α→Bool):Nat→List α→Bool
 | _,[]=>true
 | i,x :: l=>p i x && allI p (i + 1) l
theorem zYI {α:Type} {p:Nat→α→Bool}:∀ {l:List α} {k:Nat},allI p k l=true→∀ {i:Nat} {x:α},l[i]? = some x→p (k + i) x=true
 | [],_,_,i,x,hx=>by simp at hx
 | y :: l,k,h,i,x,hx=>by
  simp only [allI,vQJ] at h;cases i with
  | zero=>simp at hx; subst hx; exact h.1
  | succ i =>
   have:=zYI h.2 (i:=i) (x:=x) (by simpa using hx)
   rw [show k + (i + 1)=k + 1 + i by omega]; exact this
def fxB (P:Program) (t:Nat) (f:Nat) (x:Nat × Bool × Nat):Bool :=
 match P.underlying t with
 | some (.struct fields)=>match fields[f]? with
  | some fld=>fld.offset == x.1 && tyB P fld.type x.2.1 x.2.2 && (x.2.1 || Nat.beq x.2.2 1)
  | none=>false
 | _=>false
def arX (P:Program) (t:Nat) (x:Nat × Nat × Bool):Bool :=
 arrB P t x.1 x.2.1 && match P.underlying t with
 | some (.array n e)=>n == x.1 && tyB P e x.2.2 x.2.1 && (x.2.2 || Nat.beq x.2.1 1)
 | _=>false
def KV1:Kd→Value→Prop
 | .i k,v=>∃ x,v=.int k x
 | .b,v=>∃ x,v=.bool x
 | .s,v=>∃ x,v=.string x
def KV:List Kd→List Value→Prop
 | [],vs=>vs=[]
 | k :: ks,vs=>∃ v us,vs=v :: us∧KV1 k v∧KV ks us
def AllP {α:Type} (p:α→Prop):List α→Prop
 | []=>True
 | x :: l=>p x∧AllP p l
theorem AllP.of {α:Type} {p:α→Prop}:∀ {l:List α},AllP p l→∀ {x},x ∈ l→p x
 | [],_,x,hx=>by simp at hx
 | y :: l,h,x,hx=>by
  rcases List.mem_cons.1 hx with rfl | hx
  ·exact h.1
  ·exact h.2.of hx
theorem jWJ:∀ {ks:List Kd} {ps:List PV} {vs:List Value} {F:Nat→Prop} {w:World},qJA ks ps=true→Al (RP F w) ps vs→KV ks vs
 | [],[],vs,_,_,_,h=>h.nil_left
 | k :: ks,p :: ps,vs,F,w,hk,h=>by
  simp only [qJA,vQJ] at hk;obtain ⟨v,us,rfl,hv,hu⟩:=h.cons_left;refine ⟨v,us,rfl,?_,jWJ hk.2 hu⟩
  have:=hk.1
  unfold kdIs at this;split at this
  ·rename_i k1 k2 x;have e:k1=k2:=by simpa using this
   subst e;cases hv; exact ⟨_,rfl⟩
  ·cases hv; exact ⟨_,rfl⟩
  ·cases hv; exact ⟨_,rfl⟩
  ·cases this
 | [],_ :: _,_,_,_,h,_=>by simp [qJA] at h
 | _ :: _,[],_,_,_,h,_=>by simp [qJA] at h
structure Tabs.Ok (P:Program) (t:Tabs):Prop where
 sz:t.sz.all (fun x=>tyB P x.1 x.2.1 x.2.2 && (x.2.1 || Nat.beq x.2.2 1))=true
 zr:t.zr.map (fun x=>(P.info? x.1).bind (·.zero))=t.zr.map (fun x=>some x.2)
 fd:t.fd.all (fun x=>allI (fun f o=>zUB P x.1 f o) 0 x.2)=true
 fx:t.fx.all (fun x=>allI (fxB P x.1) 0 x.2)=true
 ar:t.ar.all (fun x=>arX P x.1 x.2)=true
 sl:t.sl.all (fun x=>slcB P x.1 x.2.1 x.2.2.1 && Nat.blt 0 x.2.2.1 && Nat.ble x.2.2.1 1000 && appB P x.1 x.2.1 x.2.2.1 x.2.2.2 && Nat.ble x.2.2.2 100000 && (Nat.ble x.2.2.2 8 || !inL t.big x.2.1))=true
 ly:t.ly.map (fun x=>(qYG P x.1).map (·.2))=t.ly.map (fun x=>some x.2)
 ik:t.ik.map (fun x=>P.underlying x.1)=t.ik.map (fun x=>some (.int x.2))
 str:t.str.map (fun x=>P.underlying x)=t.str.map (fun _=>some .string)
 bo:t.bo.map (fun x=>P.underlying x)=t.bo.map (fun _=>some .bool)
 eq:AllP (fun x:Nat × List Kd=>aggB P x.1=true∧∀ vs,KV x.2 vs→uW P 12 x.1 vs=true) t.eq
 fn:AllP (fun x:Nat × Func=>P.funcs[x.1]? = some x.2) t.fn
 fn2:t.fn.all (fun x => !(x.2.name == "runtime.NumGoroutine") && !x.2.body.isNone)=true
 dd:∀ f ∈ t.dd,kW P f∧∀ (args:Array Value) (w:World),CallsD P f args .returning w fun e u w'=>(∃ v,e=.returned v)∧u=.returning∧w'=w
theorem qWK {α β:Type} {f g:α→β} {l:List α} (h:l.map f=l.map g) {x:α} (hx:x ∈ l):f x=g x:=by
 induction l with
 | nil=>simp at hx
 | cons y l ih =>
  simp only [List.map_cons,List.cons.injEq] at h;rcases List.mem_cons.1 hx with rfl | hx
  ·exact h.1
  ·exact ih h.2 hx
theorem Tabs.ok {P:Program} {t:Tabs} (h:t.Ok P):TabOk P t.tab where
 sz:=fun i b k hi=>by
  have:=List.all_eq_true.1 h.sz _ (uY hi)
  simp only [vQJ,Bool.or_eq_true] at this;refine ⟨this.1,fun hb => ?_⟩;rcases this.2 with h1 | h1
  ·rw [hb] at h1; cases h1
  ·exact vQU h1
 zr:=fun i ps hi=>by
  simp only [Tabs.tab,vQQ] at hi;obtain ⟨z,hz,hps⟩:=hi
  have:=qWK h.zr (uY hz)
  refine ⟨z,this,?_⟩;have h1:=zZ hps;exact ⟨h1.1.symm,fun j p v hp hv=>⟨fun F w=>(kY (F:=F) (w:=w) (h1.2 j v p hv hp)).1,(kY (F:=fun _=>False) (w:=default) (h1.2 j v p hv hp)).2⟩⟩
 zh:=fun i hs hi=>by
  simp only [Tabs.tab,vQQ] at hi;obtain ⟨z,hz,hps⟩:=hi
  have:=qWK h.zr (uY hz)
  refine ⟨z,this,?_⟩;have h1:=zZ hps;refine ⟨h1.1.symm,fun j p v hp hv => ?_⟩;have h2:zWF v=some p:=h1.2 j v p hv hp;unfold zWF at h2;split at h2
  ·cases h2; exact ⟨fun _ _ _=>rfl,rfl⟩
  ·simp only [vQQ,vQZ] at h2;obtain ⟨q,hq,rfl⟩:=h2;exact ⟨fun ρ F w=>(kY (F:=F) (w:=w) hq).1,(kY (F:=fun _=>False) (w:=default) hq).2⟩
 fd:=fun i f o hi=>by
  simp only [Tabs.tab,vQQ] at hi;obtain ⟨l,hl,ho⟩:=hi
  have:=zYI (List.all_eq_true.1 h.fd _ (uY hl)) ho
  simpa using this
 fx:=fun i f o b k hi=>by
  simp only [Tabs.tab,vQQ] at hi;obtain ⟨l,hl,ho⟩:=hi
  have:=zYI (List.all_eq_true.1 h.fx _ (uY hl)) ho
  rw [Nat.zero_add] at this;unfold fxB at this;split at this
  ·rename_i fields hu;split at this
   ·rename_i fld hf;simp only [vQJ,Bool.or_eq_true] at this;refine ⟨fields,fld,hu,hf,by simpa using this.1.1,this.1.2,fun hb => ?_⟩;rcases this.2 with h1 | h1
    ·rw [hb] at h1; cases h1
    ·exact vQU h1
   ·cases this
  ·cases this
 ar:=fun i n k b hi=>by
  have:=List.all_eq_true.1 h.ar _ (uY hi)
  simp only [arX,vQJ] at this;refine ⟨this.1,?_⟩;have h2:=this.2;split at h2
  ·rename_i m e hu;simp only [vQJ,Bool.or_eq_true] at h2;have hm:m=n:=by simpa using h2.1.1
   subst hm;refine ⟨e,hu,h2.1.2,fun hb => ?_⟩;rcases h2.2 with h1 | h1
   ·rw [hb] at h1; cases h1
   ·exact vQU h1
  ·cases h2
 sl:=fun i e k hi=>by
  simp only [Tabs.tab,vQQ,vQZ,vQY] at hi;obtain ⟨x,hx,rfl,rfl⟩:=hi
  have:=List.all_eq_true.1 h.sl _ (uY hx)
  simp only [vQJ,Bool.or_eq_true,Bool.not_eq_true'] at this;have hb:=vZJ this.1.2;refine ⟨this.1.1.1.1.1,by simpa [Nat.blt_eq] using this.1.1.1.1.2,vZJ this.1.1.1.2,x.2.2,this.1.1.2,hb,?_⟩;show (bif inL t.big x.1 then 17592186044416 else 1000000) * x.2.2≤140737488355328∧(bif inL t.big x.1 then 17592186044416 else 1000000)≤17592186044416;cases hL:inL t.big x.1 with
  | false =>
   refine ⟨?_,by decide⟩;rw [vYZ];omega
  | true =>
   refine ⟨?_,by decide⟩;rcases this.2 with h1 | h1
   ·have:=vZJ h1
    rw [vYQ];omega
   ·rw [hL] at h1; cases h1
 ly:=fun i pl hi=>by
  have:=qWK h.ly (uY hi)
  simp only [vZK] at this;obtain ⟨⟨z,pl'⟩,hz,rfl⟩:=this;refine ⟨z,hz,fun ps hps => ?_⟩;simp only [Tabs.tab,vQQ] at hps;obtain ⟨z',hz',hps⟩:=hps;have h0:(P.info? i).bind (·.zero)=some z':=qWK h.zr (uY hz');have e:z=z'.cells.toList:=by
   unfold qYG at hz;split at hz
   ·rename_i it n e hi _;rw [hi] at h0;simp only [vZV] at h0;rw [h0] at hz;split at hz
    ·rename_i h1 _; cases h1; cases hz; rfl
    ·cases hz
   ·rename_i it fields hi _;rw [hi] at h0;simp only [vZV] at h0;rw [h0] at hz;split at hz
    ·rename_i h1 _; cases h1; cases hz; rfl
    ·cases hz
   ·cases hz
  subst e;have h1:=zZ hps;exact ⟨h1.1.symm,fun j p v hp hv=>⟨fun F w=>(kY (F:=F) (w:=w) (h1.2 j v p hv hp)).1,(kY (F:=fun _=>False) (w:=default) (h1.2 j v p hv hp)).2⟩⟩
 ik:=fun i k hi=>qWK h.ik (uY hi)
 str:=fun i hi=>qWK h.str (zWH hi)
 bo:=fun i hi=>qWK h.bo (zWH hi)
 eqK:=fun i ks hi=>by
  have:=h.eq.of (uY hi)
  exact ⟨this.1,fun vs ⟨ps,F,w,hk,hal⟩=>this.2 vs (jWJ hk hal)⟩
 dd:=fun f hf=>h.dd f (zWH hf)
 fn:=fun f fi hi=>by
  simp only [Tabs.tab,vQQ,vQZ] at hi;obtain ⟨fn,hfn,rfl⟩:=hi;have h1:=h.fn.of (uY hfn);have h2:=List.all_eq_true.1 h.fn2 _ (uY hfn);simp only [vQJ,Bool.not_eq_true'] at h2;simp only at h1 h2;refine ⟨qQE h1 h2.1 h2.2,fn,h1,?_,rfl,by simp [FnI.of]⟩;cases hb:fn.body with
  | none=>rw [hb] at h2; simp at h2
  | some b=>simp [FnI.of,hb]
end Go.Rx
namespace Go.Rx
open Go.RowKit Go.Sx
def kB:IntKind→IntKind→Bool
 | .i64,.i64=>true
 | .i32,.i32=>true
 | .u64,.u64=>true
 | .u8,.u8=>true
 | _,_=>false
theorem kQD {k k':IntKind} (h:kB k k'=true):k=k':=by cases k <;> cases k' <;> first | rfl | cases h
def eqP:Nat→PV→PV→Bool
 | 0,_,_=>false
 | _ + 1,.n k x,.n k' y=>kB k k' && decide (x=y)
 | _ + 1,.b x,.b y=>x == y
 | _ + 1,.s x,.s y=>decide (x.data.toList=y.data.toList)
 | n + 1,.a xs,.a ys=>eqL n xs ys
 | n + 1,.t xs,.t ys=>eqL n xs ys
 | n + 1,.l xs,.l ys=>eqLL n xs ys
 | n + 1,.z xs j o,.z ys j' o'=>eqLL n xs ys && Nat.beq j j' && Nat.beq o o'
 | n + 1,.c xs o,.c ys o'=>eqL n xs ys && Nat.beq o o'
 | n + 1,.f f fs cs,.f f' fs' cs'=>Nat.beq f f' && eqL n fs fs' && eqL n cs cs'
 | _ + 1,.ni,.ni=>true
 | _ + 1,.np,.np=>true
 | _ + 1,.nf,.nf=>true
 | _ + 1,.zs,.zs=>true
 | _ + 1,.ze,.ze=>true
 | _ + 1,.ne,.ne=>true
 | _ + 1,_,_=>false
where
 eqL:Nat→List PV→List PV→Bool
 | 0,_,_=>false
 | _ + 1,[],[]=>true
 | n + 1,x :: xs,y :: ys=>eqP n x y && eqL n xs ys
 | _ + 1,_,_=>false
 eqLL:Nat→List (List PV)→List (List PV)→Bool
 | 0,_,_=>false
 | _ + 1,[],[]=>true
 | n + 1,x :: xs,y :: ys=>eqP.eqL n x y && eqLL n xs ys
 | _ + 1,_,_=>false
theorem yGV {x y:ByteArray} (h:x.data.toList=y.data.toList):x=y:=by
 cases x; cases y
 congr 1
 exact Array.toList_inj.1 h
theorem yHJ:∀ n,(∀ p q,eqP n p q=true→p=q)∧(∀ p q,eqP.eqL n p q=true→p=q)∧(∀ p q,eqP.eqLL n p q=true→p=q)
 | 0=>⟨fun p q h=>by simp [eqP] at h,fun p q h=>by simp [eqP.eqL] at h,fun p q h=>by simp [eqP.eqLL] at h⟩
 | n + 1=>by
  obtain ⟨h1,h2,h3⟩:=yHJ n;refine ⟨fun p q h => ?_,fun p q h => ?_,fun p q h => ?_⟩
  ·cases p <;> cases q <;> simp only [eqP,vQJ,decide_eq_true_eq,beq_iff_eq] at h <;> first | (cases h; done) | skip
   ·rw [kQD h.1,h.2]
   ·rw [h]
   ·rw [yGV h]
   ·rw [h2 _ _ h]
   ·rw [h2 _ _ h]
   ·rw [h3 _ _ h]
   ·rw [h3 _ _ h.1.1,vQU h.1.2,vQU h.2]
   ·rw [h2 _ _ h.1,vQU h.2]
   ·rw [vQU h.1.1,h2 _ _ h.1.2,h2 _ _ h.2]
   all_goals rfl
  ·cases p <;> cases q <;> simp only [eqP.eqL,vQJ] at h <;> first | (cases h; done) | skip
   ·rfl
   ·rw [h1 _ _ h.1,h2 _ _ h.2]
  ·cases p <;> cases q <;> simp only [eqP.eqLL,vQJ] at h <;> first | (cases h; done) | skip
   ·rfl
   ·rw [h2 _ _ h.1,h3 _ _ h.2]
abbrev Known:=List (Nat × List (List PV × Ret))
def yKQ:List (List PV × Ret)→List PV→Option Ret
 | [],_=>none
 | (ps,r) :: l,qs=>bif eqP.eqL 200 ps qs then some r else yKQ l qs
def Known.orc (t:Known):Orc:=⟨fun g=>(asc t g).bind fun l=>some (yKQ l),fun _=>none⟩
def Known.Ok (P:Program) (t:Known):Prop:=∀ x ∈ t,∀ y ∈ x.2,yZ P x.1 y.1 y.2
theorem yJL {l:List (List PV × Ret)} {qs:List PV} {r:Ret} (h:yKQ l qs=some r):(qs,r) ∈ l:=by
 induction l with
 | nil=>cases h
 | cons y l ih =>
  obtain ⟨ps,r'⟩:=y;simp only [yKQ] at h;cases hc:eqP.eqL 200 ps qs with
  | true=>rw [hc] at h; cases h; rw [(yHJ 200).2.1 _ _ hc]; exact vQG
  | false=>rw [hc] at h; exact vQV _ (ih h)
theorem Known.ok {P:Program} {T:Tab} {t:Known} (h:t.Ok P):OrcOk P T t.orc:=by
 refine ⟨fun g o ho ps r hr => ?_,fun g o ho=>by simp [Known.orc] at ho⟩;simp only [Known.orc,vQQ,vQZ] at ho;obtain ⟨l,hl,rfl⟩:=ho;exact h _ (uY hl) _ (yJL hr)
theorem Known.nil (P:Program):Known.Ok P []:=fun x hx=>by simp at hx
theorem Known.add {P:Program} {T:Tab} {t:Known} {f:Nat} {l:List (List PV × Ret)} {N:Nat} (hT:TabOk P T) (hm:P.follows .mixedOrders=true) (ht:t.Ok P) (h:l.map (fun y=>run T t.orc N f y.1)=l.map (fun y=>some y.2)):Known.Ok P ((f,l) :: t):=fun x hx=>by
 rcases List.mem_cons.1 hx with rfl | hx
 ·exact fun y hy=>qZX hT hm (Known.ok ht) (qWK h hy)
 ·exact ht x hx
end Go.Rx
namespace Go.Rx
open Go.RowKit Go.Sx
section
abbrev α:=Ret × Mem
abbrev qWF:=Nat→List PV→(Ret→Option α)→Option α
def zJY (e:Eff) (K:Eff→Option α):Option α:=match e with
 | ⟨[],[],.v (.b c),[]⟩=>bif c then K (.val (.v (.b true))) else K (.val (.v (.b false)))
 | e=>K e
theorem qVE (e:Eff) (K:Eff→Option α):zJY e K=K e:=by
 unfold zJY;split
 ·rename_i c; cases c <;> rfl
 ·rfl
def zGE (C:Cx) (cK:qWF) (dst f:Nat) (args:List RV) (K:Eff→Option α):Option α :=
 (mapO RV.fz args).bind fun ps=>cK f ps fun r =>
  (bif args.all RV.still then zJL C.T C.me dst (catR RV.regs args) r
  else match r with
   | .v x=>bif x.flat then some (.val (.v x)) else none
   | .ow _ _ (.l rows)=>bif rows.all (fun r=>r.all PV.flat1) then some (.val (.v (.l rows))) else none
   | _=>none).bind fun e=>zJY e K
def yHX (s:ByteArray) (i:Nat):Int:=(((s[i]?).getD 0).toNat:Int)
def yZQ (C:Cx) (cK:qWF) (dst:Nat) (op:Op) (vs:List RV) (K:Eff→Option α):Option α :=
 match op,vs with
 | .binOp .quo _ _ _ _,[.v (.n k x),.v (.n k' y)]=>bif decide (k=k') then (bif decide (y=0) then none else K (.val (.v (.n k (k.wrap (x.tdiv y)))))) else none
 | .binOp .rem _ _ _ _,[.v (.n k x),.v (.n k' y)]=>bif decide (k=k') then (bif decide (y=0) then none else K (.val (.v (.n k (x.tmod y))))) else none
 | .call ⟨.builtin .append,axs,ats⟩,[.o id e' sz rows,y]=>(match ats.toList with
   | [t,t']=>bif Nat.beq t t' then (C.T.sl t).bind fun e=>(zUQ y).bind fun news=>bif news.ok e.2 then (bif Nat.beq e' e.1 && Nat.beq sz e.2 && !(y.ids.any (Nat.beq id)) then
     (bif decide (rows.len + news.len≤C.T.bd e.1) then K (.app id (.reg e' sz (rows.app news)) (.o id)) else none) else none) else none else none
   | _=>none)
 | .call ⟨.builtin .append,axs,ats⟩,[.nl,y]=>(match ats.toList with
   | [t,t']=>bif Nat.beq t t' then (C.T.sl t).bind fun e=>(zUQ y).bind fun news=>bif news.ok e.2 then
     (bif decide (news.len≤C.T.bd e.1) then K (.new dst (.reg e.1 e.2 news) (.o dst)) else none) else none else none
   | _=>none)
 | .binOp .shl _ _ _ _,[.v (.n k x),.v (.n _ y)]=>bif decide (0≤y) then K (.val (.v (.n k (k.wrap (x * 2 ^ (min y.toNat k.bits)))))) else none
 | .binOp .shr _ _ _ _,[.v (.n k x),.v (.n _ y)]=>bif decide (0≤y) then K (.val (.v (.n k (x.fdiv (2 ^ (min y.toNat k.bits)))))) else none
 | .indexAddr t _ _,[.o id _ sz rows,.v (.n _ i)]=>(C.T.sl t).bind fun e=>bif inB i rows.len then (bif Nat.beq sz e.2 then K (.val (.q id i.toNat 0)) else none) else none
 | .makeSlice t _ _,[.v (.n _ n),.v (.n _ c)]=>(C.T.sl t).bind fun e=>(C.T.zr e.1).bind fun zs=>bif C.T.zf C.me then none else
   bif C.T.nf C.me then (C.T.sl e.1).bind fun q=>(C.T.zr q.1).bind fun z2=>(match zs with
    | [.zs]=>bif Nat.beq e.2 1 then (bif decide (0≤n) then bif decide (n≤c) then bif decide (c≤1000000) then K ⟨[(dst,some (.nst e.1 q.1 q.2 (bif C.T.ff C.me then .fo n.toNat (fun _=>.fo 0 (fun _=>z2)) else .l (qZZ (.l []) n.toNat)) none))],[(mid dst,none)],.o dst,[dst]⟩ else none else none else none) else none
    | _=>none) else
   bif decide (0≤n) then bif decide (n≤c) then bif decide (c≤1000000) then K (.new dst (.reg e.1 e.2 (bif C.T.ff C.me then .fo n.toNat (fun _=>zs) else .l (qZZ zs n.toNat))) (.o dst)) else none else none else none
 | .slice t _ lo hi none,.v (.lf n f) :: vs=>(zQD lo hi vs).bind fun b=>(C.T.sl t).bind fun e=>bif inS b.1 b.2 n then (bif Nat.beq (f (loOf b.1)).length e.2 then K (.val (.v (.lf (hiOf b.2 n - loOf b.1) fun v=>f (v + loOf b.1)))) else none) else none
 | .slice t _ lo hi none,.o id e' sz rows :: vs=>(zQD lo hi vs).bind fun b=>(match b with
   | (none,some j)=>(C.T.sl t).bind fun e=>bif Nat.beq sz e.2 then (bif decide (0≤j) then (bif decide (j.toNat≤rows.len) then K (.app id (.reg e' sz (rows.take j.toNat)) (.o id)) else none) else none) else none
   | _=>none)
 | .index t _ _,[.v (.s s),.v (.n _ i)]=>bif C.T.str t then (bif inB i s.size then K (.val (.v (.n .u8 (yHX s i.toNat)))) else none) else none
 | .next _ true,[.i id 0 s pos]=>bif Nat.beq id pid2 then none else bif decide (pos < s.size) then K (.set id (.itr s (pos + (Utf8.decode s pos).2)) (.v (.t [.b true,.n .i64 (pos:Int),.n .i32 ((Utf8.decode s pos).1:Int)]))) else K (.val (.v (.t [.b false])))
 | .indexAddr t _ _,[.no id _ n,.v (.n _ i)]=>(C.T.sl t).bind fun e=>bif inB i n then (bif Nat.beq 1 e.2 then K (.val (.q id i.toNat 0)) else none) else none
 | .call ⟨.builtin .append,axs,ats⟩,[.mi id j e' ie isz rows none,y]=>(match ats.toList with
   | [t,t']=>bif Nat.beq t t' then (C.T.sl t).bind fun e=>(zUQ y).bind fun news=>bif news.ok e.2 then (bif Nat.beq ie e.1 && Nat.beq isz e.2 && !(y.ids.any (Nat.beq id)) then (rows.at j).bind fun r =>
     (bif decide (r.len + news.len≤C.T.bd e.1) then K ⟨[(id,some (.nst e' ie isz rows (some (j,r.app news))))],[(mid id,none)],.mp id j,[]⟩ else none) else none) else none else none
   | _=>none)
 | .store t _ _,[.nq id j 0 e ie isz rows (some (j',r)),.w (.mp id' j'')]=>(C.T.sz t).bind fun k=>bif !k.1 && Nat.beq id' id then (bif Nat.beq j' j then (bif Nat.beq j'' j then K ⟨[(id,some (.nst e ie isz (rows.set j r) none))],[(mid id,none)],.un,[]⟩ else none) else none) else none
 | .indexAddr t _ _,[.v (.lf n f),.v (.n _ i)]=>(C.T.sl t).bind fun e=>bif inB i n then (bif Nat.beq (f i.toNat).length e.2 then K (.val (.v (.zf n f i.toNat 0))) else none) else none
 | .call ⟨.value fx,axs,ats⟩,.v (.f f first cap) :: vs=>bif C.T.rw f then (qK C.T C.cA C.cB C.me dst (.call ⟨.value fx,axs,ats⟩) (.v (.f f first cap) :: vs)).bind fun e=>zJY e K
   else zGE C cK dst f (first.map .v ++ vs ++ cap.map .v) K
 | op,vs=>(qK C.T C.cA C.cB C.me dst op vs).bind fun e=>zJY e K
def yZA (C:Cx) (o:Oper) (K:Eff × List RV→Option α):Option α:=bif dstB C.n o.dst then K (.val (.v (.t [])),[]) else none
end
abbrev OrK:=Nat→Option (List PV→Option (Bool × Ret))
def OrK.orc (o:OrK):Orc:=⟨fun g=>(o g).bind fun f=>some fun ps=>(f ps).bind fun x=>bif x.1 then some x.2 else none,fun _=>none⟩
def yUQ (ok:OrK) (rK:qWF):qWF:=fun g ps K=>match ok g with
 | some o=>(o ps).bind fun x=>bif x.1 then K x.2 else none
 | none=>rK g ps K
section
variable {C:Cx} {cK:qWF} {ops:Array Oper} {r:α}
def SndK (C:Cx) (cK:qWF):Prop:=∀ f ps K r,cK f ps K=some r→∃ x,C.cA f ps=some x∧K x=some r
theorem qJU {dst:Nat} {op:Op} {vs:List RV} {K:Eff→Option α} (hc:SndK C cK) (h:yZQ C cK dst op vs K=some r):∃ e,qK C.T C.cA C.cB C.me dst op vs=some e∧K e=some r:=by
 unfold yZQ at h;split at h
 ·rename_i k x k' y;obtain ⟨h1,h⟩:=qZ h;cases hy:decide (y=0) with
  | true=>rw [hy] at h; cases h
  | false =>
   rw [hy] at h;refine ⟨_,?_,h⟩;simp [qK,binP,binI,h1,hy]
 ·rename_i k x k' y;obtain ⟨h1,h⟩:=qZ h;cases hy:decide (y=0) with
  | true=>rw [hy] at h; cases h
  | false =>
   rw [hy] at h;refine ⟨_,?_,h⟩;simp [qK,binP,binI,h1,hy]
 ·rename_i axs ats id e' sz rows y;split at h
  ·rename_i t t' hts;obtain ⟨h1,h⟩:=qZ h;simp only [vQQ] at h;obtain ⟨el,hel,news,hnews,h⟩:=h;obtain ⟨h2,h⟩:=qZ h;obtain ⟨h3,h⟩:=qZ h;obtain ⟨h4,h⟩:=qZ h;refine ⟨_,?_,h⟩;rw [vQJ,vQJ] at h3;simp only [qK,hts,h1,vYQ,hel,hnews,vZV,h2,h3.1.1,h3.1.2,h3.2,h4,vZQ]
  ·cases h
 ·rename_i axs ats y;split at h
  ·rename_i t t' hts;obtain ⟨h1,h⟩:=qZ h;simp only [vQQ] at h;obtain ⟨el,hel,news,hnews,h⟩:=h;obtain ⟨h2,h⟩:=qZ h;obtain ⟨h4,h⟩:=qZ h;refine ⟨_,?_,h⟩;simp only [qK,hts,h1,vYQ,hel,hnews,vZV,h2,h4]
  ·cases h
 ·rename_i k x _ y;obtain ⟨h1,h⟩:=qZ h;refine ⟨_,?_,h⟩;simp [qK,binP,h1]
 ·rename_i k x _ y;obtain ⟨h1,h⟩:=qZ h;refine ⟨_,?_,h⟩;simp [qK,binP,h1]
 ·rename_i t _ _ id _ sz rows _ i;simp only [vQQ] at h;obtain ⟨el,hel,h⟩:=h;obtain ⟨h1,h⟩:=qZ h;obtain ⟨h2,h⟩:=qZ h;exact ⟨_,by simp only [qK,hel,vZV,h1,h2,vZQ,vYQ],h⟩
 ·rename_i t _ _ _ n _ c;simp only [vQQ] at h;obtain ⟨el,hel,zs,hzs,h⟩:=h;cases hzf:C.T.zf C.me with
  | true=>rw [hzf] at h; cases h
  | false =>
  rw [hzf,vYZ] at h;cases hnf:C.T.nf C.me with
  | true =>
   rw [hnf,vYQ] at h;simp only [vQQ] at h;obtain ⟨q,hq,z2,hz2,h⟩:=h;split at h
   ·obtain ⟨h0,h⟩:=qZ h;obtain ⟨h1,h⟩:=qZ h;obtain ⟨h2,h⟩:=qZ h;obtain ⟨h3,h⟩:=qZ h;exact ⟨_,by simp only [qK,hel,hzs,hzf,hnf,hq,hz2,vZV,h0,h1,h2,h3,Bool.false_and,vYZ,vZQ,vYQ],h⟩
   ·cases h
  | false =>
  rw [hnf,vYZ] at h;obtain ⟨h1,h⟩:=qZ h;obtain ⟨h2,h⟩:=qZ h;obtain ⟨h3,h⟩:=qZ h;exact ⟨_,by simp only [qK,hel,hzs,hzf,hnf,vZV,h1,h2,h3,Bool.false_and,vYZ,vZQ,vYQ],h⟩
 ·rename_i t _ lo hi n f vs;simp only [vQQ] at h;obtain ⟨b,hb,el,hel,h⟩:=h;obtain ⟨h1,h⟩:=qZ h;obtain ⟨h2,h⟩:=qZ h;exact ⟨_,by simp only [qK,hb,hel,vZV,h1,h2,vYQ],h⟩
 ·rename_i t _ lo hi id e' sz rows vs;simp only [vQQ] at h;obtain ⟨b,hb,h⟩:=h;split at h
  ·rename_i j;simp only [vQQ] at h;obtain ⟨el,hel,h⟩:=h;obtain ⟨h1,h⟩:=qZ h;obtain ⟨h2,h⟩:=qZ h;obtain ⟨h3,h⟩:=qZ h;exact ⟨_,by simp only [qK,hb,hel,vZV,h1,h2,h3,vZQ,vYQ],h⟩
  ·cases h
 ·rename_i t _ _ s _ i;obtain ⟨h1,h⟩:=qZ h;obtain ⟨h2,h⟩:=qZ h;obtain ⟨i0,i1⟩:=qYH h2;refine ⟨_,?_,h⟩;have hb:s[i.toNat]? = some (s[i.toNat]'(by omega)):=getElem?_pos s i.toNat (by omega);simp only [qK,h1,vYJ i0,vZQ,vYQ,yHX,hb,vZV,Option.getD_some]
 ·rename_i id s pos;cases hp2:Nat.beq id pid2 with
  | true=>rw [hp2] at h; cases h
  | false =>
  rw [hp2,vYZ] at h;cases hp:decide (pos < s.size) with
  | true =>
   rw [hp] at h;exact ⟨_,by simp only [qK,hp2,hp,vYQ,vYZ],h⟩
  | false =>
   rw [hp] at h;exact ⟨_,by simp only [qK,hp2,hp,vYZ],h⟩
 ·rename_i t _ _ id _ n _ i;simp only [vQQ] at h;obtain ⟨el,hel,h⟩:=h;obtain ⟨h1,h⟩:=qZ h;obtain ⟨h2,h⟩:=qZ h;exact ⟨_,by simp only [qK,hel,vZV,h1,h2,vZQ,vYQ],h⟩
 ·rename_i axs ats id j e' ie isz rows y;split at h
  ·rename_i t t' hts;obtain ⟨h1,h⟩:=qZ h;simp only [vQQ] at h;obtain ⟨el,hel,news,hnews,h⟩:=h;obtain ⟨h2,h⟩:=qZ h;obtain ⟨h3,h⟩:=qZ h;simp only [vQQ] at h;obtain ⟨r1,hr1,h⟩:=h;obtain ⟨h4,h⟩:=qZ h;refine ⟨_,?_,h⟩;simp only [qK,hts,h1,vYQ,hel,hnews,vZV,h2,h3,hr1,h4]
  ·cases h
 ·rename_i t _ _ id j e ie isz rows j' r1 id' j'';simp only [vQQ] at h;obtain ⟨k,hk,h⟩:=h;obtain ⟨h1,h⟩:=qZ h;obtain ⟨h2,h⟩:=qZ h;obtain ⟨h3,h⟩:=qZ h;rw [vQJ] at h1;exact ⟨_,by simp only [qK,hk,vZV,h1.1,h1.2,h2,h3,vZQ,vYQ],h⟩
 ·rename_i t _ _ n f _ i;simp only [vQQ] at h;obtain ⟨el,hel,h⟩:=h;obtain ⟨h1,h⟩:=qZ h;obtain ⟨h2,h⟩:=qZ h;exact ⟨_,by simp only [qK,hel,vZV,h1,h2,vZQ,vYQ],h⟩
 ·rename_i fx axs ats f first cap vs
  cases hrw:C.T.rw f with
  | true =>
   rw [hrw] at h;simp only [vYQ,vQQ] at h;obtain ⟨e,he,h⟩:=h;rw [qVE] at h;exact ⟨e,he,h⟩
  | false =>
   rw [hrw] at h;simp only [vYZ,zGE,vQQ] at h;obtain ⟨ps,hps,h⟩:=h;obtain ⟨x,hx,h⟩:=hc _ _ _ _ h;rw [vQQ] at h;obtain ⟨e,he,h⟩:=h;rw [qVE] at h;refine ⟨e,?_,h⟩;simp only [qK,hrw,vYZ,qXG,hps,hx,vZV];exact he
 ·rw [vQQ] at h;obtain ⟨e,he,h⟩:=h;rw [qVE] at h;exact ⟨e,he,h⟩
theorem qUI {o:Oper} {σ:St} {K:Eff × List RV→Option α} (hg:kH ops σ o=some false) (h:yZA C o K=some r):∃ x,qZQ C ops o σ=some x∧K x=some r:=by
 unfold yZA at h;obtain ⟨hd,h⟩:=qZ h;exact ⟨_,qVD hd (.inl ⟨hg,rfl⟩),h⟩
end
section
variable {C:Cx} {ops:Array Oper} {r:Ret × Mem}
def Gets (K0:Ret × Mem→Option (Ret × Mem)) (r:Ret × Mem) (x:Option (Ret × Mem)):Prop:=∃ q,x=some q∧K0 q=some r
variable {K0:Ret × Mem→Option (Ret × Mem)} {cK:qWF}
theorem zQJ {s s':(St→Option (Ret × Mem))→St→Option (Ret × Mem)} (h:∀ a a':St→Option (Ret × Mem),(∀ σ,a σ=some r→Gets K0 r (a' σ))→∀ σ,s a σ=some r→Gets K0 r (s' a' σ)):∀ (n:Nat) (σ:St),zYZ s n σ=some r→Gets K0 r (zYZ s' n σ)
 | 0,σ,hs=>by cases hs
 | n + 1,σ,hs=>h _ _ (zQJ h n) σ hs
end
def OrK.Ok (P:Program) (ok:OrK):Prop:=∀ g o,ok g=some o→∀ ps r,o ps=some (true,r)→yZ P g ps r
theorem OrK.Ok.orc {P:Program} {ok:OrK} {T:Tab} (h:ok.Ok P):OrcOk P T ok.orc:=by
 refine ⟨fun g o ho ps r hr => ?_,fun g o ho=>by simp [OrK.orc] at ho⟩;simp only [OrK.orc,vQQ,vQZ] at ho;obtain ⟨f,hf,rfl⟩:=ho;simp only [vQQ] at hr;obtain ⟨x,hx,hr⟩:=hr;obtain ⟨h1,hr⟩:=qZ hr;cases hr;exact h g f hf ps x.2 (by rw [hx,← h1])
abbrev OrL:=List (Nat × (List PV→Option (Bool × Ret)))
def OrL.k (l:OrL):OrK:=asc l
def uJ (P:Program) (f:Nat) (o:List PV→Option (Bool × Ret)):Prop:=∀ ps r,o ps=some (true,r)→yZ P f ps r
theorem OrL.ok {P:Program} {l:OrL} (h:AllP (fun x:Nat × (List PV→Option (Bool × Ret))=>uJ P x.1 x.2) l):(OrL.k l).Ok P:=fun g o ho ps r hr=>h.of (uY ho) ps r hr
def listed (l:List (List PV × Ret)):List PV→Option (Bool × Ret):=fun ps=>(yKQ l ps).bind fun r=>some (true,r)
def PV.val1:PV→Value
 | .n k x=>.int k x
 | .b x=>.bool x
 | .s x=>.string x
 | _=>.nilIface
def PV.val:PV→Value
 | .a cs=>.agg (cs.map PV.val1).toArray
 | x=>x.val1
theorem yZU {F:Nat→Prop} {w:World} {p:PV} {v:Value} (hp:p.flat1=true) (h:RP F w p v):v=p.val1:=by
 cases h <;> first | rfl | (simp [PV.flat1] at hp; done)
theorem yZK {F:Nat→Prop} {w:World} {p:PV} (hp:p.flat1=true):RP F w p p.val1∧p.val1.oneCell'=true:=by
 cases p <;> first | (simp [PV.flat1] at hp; done) | exact ⟨by constructor,rfl⟩
theorem jJI {F:Nat→Prop} {w:World} {p:PV} {v:Value} (hp:p.flat2=true) (h:RP F w p v):v=p.val:=by
 cases p with
 | a cs =>
  cases h with
  | a _ vs hl h1 h =>
   have e:vs=cs.map PV.val1:=List.ext_getElem? fun i=>by
    rw [vQH];cases hc:cs[i]? with
    | none=>rw [Option.map_none,List.getElem?_eq_none (by have:=List.getElem?_eq_none_iff.1 hc; omega)]
    | some c =>
     have hi:=(List.getElem?_eq_some_iff.1 hc).1;have hv:vs[i]? = some (vs[i]'(by omega)):=vQK (by omega);rw [hv,Option.map_some,yZU (List.all_eq_true.1 hp c (vQW hc)) (h i c _ hc hv)]
   rw [e]; rfl
 | _=>exact yZU (by first | exact hp | (simp [PV.flat2,PV.flat1] at hp)) h
end Go.Rx
namespace Go.Rx
open Go.RowKit Go.Sx
def qVG (sz:Nat) (rows:List (List PV)):Bool:=rows.all fun r=>Nat.beq r.length sz && r.all PV.flat1
def qVC (rows:List (List PV)):List (List Value):=rows.map fun r=>r.map PV.val1
theorem qKZ {sz:Nat} {rows:List (List PV)} (h:qVG sz rows=true) {r:List PV} (hr:r ∈ rows):r.length=sz∧∀ p ∈ r,p.flat1=true:=by
 have:=List.all_eq_true.1 h r hr
 rw [vQJ] at this;exact ⟨vQU this.1,List.all_eq_true.1 this.2⟩
theorem yYQ {F:Nat→Prop} {w:World} {sz c:Nat} {a:Option Addr} {rows:List (List PV)} (hs:qVG sz rows=true) (hcap:rows.length≤c) (hS:zXZ sz a (qVC rows) w)
  (hF:∀ b off,a=some ⟨b,off,none⟩→rows ≠ []→F b):RP F w (.l rows) (.slice a rows.length c):=by
 cases rows with
 | nil=>exact .l0 a c
 | cons r0 rs =>
  obtain ⟨_,b,off,ha,hb,_⟩:=hS 0 _ (by simp [qVC]; rfl);subst ha;refine .l (r0 :: rs) b off _ c sz (fun j t=>(((r0 :: rs).getD j []).getD t .ni).val1) rfl hcap (fun r hr=>(qKZ hs hr).1) (hF b off rfl (by simp)) (fun j t hj ht => ?_) (fun j r t p hj ht => ?_)
  ·have hr:(r0 :: rs)[j]? = some ((r0 :: rs)[j]'hj):=vQK hj;generalize (r0 :: rs)[j]'hj=r at hr;have hm:=qKZ hs (vQW hr);have htl:t < r.length:=by omega
   have hp:r[t]? = some (r[t]'htl):=vQK htl;obtain ⟨_,b',off',ha',_,hc⟩:=hS j (r.map PV.val1) (by unfold qVC; rw [vQH,hr]; rfl);cases ha';have hc:=hc t ht;rw [vQH,hp,Option.map_some] at hc;have e:(((r0 :: rs).getD j []).getD t .ni)=r[t]'htl:=by
    rw [vZX,vZX,hr];simp only [Option.getD_some];rw [hp]; rfl
   simp only [e];exact ⟨by rw [← hc,Nat.add_assoc],(yZK (F:=F) (w:=w) (hm.2 _ (List.getElem_mem htl))).2⟩
  ·have hm:=qKZ hs (vQW hj);have e:(((r0 :: rs).getD j []).getD t .ni)=p:=by
    rw [vZX,vZX,hj];simp only [Option.getD_some];rw [ht]; rfl
   simp only [e];exact (yZK (hm.2 p (vQW ht))).1
end Go.Rx
namespace Go.Rx
open Go.RowKit Go.Sx
def yJV (L:List Int):PV:=.l (L.map fun x=>[.n .i64 x])
theorem yQL (L:List Int):qVG 1 (L.map fun x=>[PV.n .i64 x])=true:=by
 unfold qVG;rw [List.all_map,List.all_eq_true];intro x _;rfl
theorem zHH {F:Nat→Prop} {w:World} {L:List Int} {a:Option Addr} {c:Nat} (h:IntsAt w w.heap.size (.slice a L.length c) L) (hc:L.length≤c) (hF:∀ k,k < w.heap.size→F k):RP F w (yJV L) (.slice a L.length c):=by
 have e:(L.map fun x=>[PV.n .i64 x]).length=L.length:=by simp
 have key:zXZ 1 a (qVC (L.map fun x=>[PV.n .i64 x])) w:=fun j r hj=>by
  obtain ⟨a',c',e',hh⟩:=h.slice;cases e';unfold qVC at hj;rw [vQH,vQH] at hj;cases hr:L[j]? with
  | none=>rw [hr] at hj; cases hj
  | some x =>
   rw [hr] at hj;cases hj;have hjl:=(List.getElem?_eq_some_iff.1 hr).1;obtain ⟨b,off,ha,hb,hq⟩:=hh j hjl;refine ⟨rfl,b,off,ha,hb,fun k hk => ?_⟩;have hk0:k=0:=by omega
   subst hk0;rw [Nat.mul_one,Nat.add_zero,hq,vZX,hr];rfl
 have:=yYQ (F:=F) (c:=c) (yQL L) (by rw [e]; exact hc) key (fun b off ha hne=>by
  obtain ⟨a',c',e',hh⟩:=h.slice;cases e';have h0:0 < L.length:=by
   cases L with
   | nil=>exact absurd rfl hne
   | cons x xs=>simp
  obtain ⟨b',off',ha',hb,_⟩:=hh 0 h0;rw [ha] at ha';cases ha';exact hF b hb)
 rw [e] at this;exact this
theorem zJF {P:Program} {f:Nat} {ps:List PV} {x:PV} {w:World} {vals:List Value} (h:yZ P f ps (.v x)) (hx:x.flat2=true) (ha:Al (RP (fun k=>k < w.heap.size) w) ps vals):Calls P f vals.toArray w (Rets x.val w) :=
 Calls.mono (h.2 w _ vals (fun k hk=>hk) ha) fun e w' ⟨v,F',he,hg,_,_,hr⟩=>⟨by rw [he,jJI hx hr],hg⟩
theorem zXQ {F:Nat→Prop} {w:World}:Al (RP F w) [] []:=⟨rfl,fun i p v h=>by simp at h⟩
theorem qYC {F:Nat→Prop} {w:World} {p:PV} {v:Value} {ps:List PV} {vs:List Value} (h:RP F w p v) (t:Al (RP F w) ps vs):Al (RP F w) (p :: ps) (v :: vs) :=
 ⟨by rw [vQX,vQX,t.1],fun i q u hq hu=>by
  cases i with
  | zero=>cases hq; cases hu; exact h
  | succ i=>exact t.2 i q u hq hu⟩
theorem yUJ {F:Nat→Prop} {w:World} {p:PV} {ps:List PV} {vals:List Value} (h:Al (RP F w) (p :: ps) vals):∃ v vs,vals=v :: vs∧RP F w p v∧Al (RP F w) ps vs:=by
 cases vals with
 | nil=>have:=h.1; simp at this
 | cons v vs=>exact ⟨v,vs,rfl,h.2 0 p v rfl rfl,by have:=h.1; simpa using this,fun i q u hq hu=>h.2 (i + 1) q u hq hu⟩
end Go.Rx
namespace Go.Rx
open Go.RowKit Go.Sx Go.ChangeShapes Go.WideShapes
inductive Sh where
 | i (k:IntKind)
 | b
 | s
 | l (row:List Sh)
inductive Fit:Sh→PV→Prop
 | i (k:IntKind) (x:Int) (h:(Lit.int k x).wf=true):Fit (.i k) (.n k x)
 | b (x:Bool):Fit .b (.b x)
 | s (x:ByteArray) (h:x.size≤maxLen):Fit .s (.s x)
 | l (row:List Sh) (n:Nat) (f:Nat→List PV) (hn:n≤maxLen) (hl:∀ j,j < n→(f j).length=row.length) (h:∀ j,j < n→∀ (i:Nat) sh p,row[i]? = some sh→(f j)[i]? = some p→Fit sh p):Fit (.l row) (.lf n f)
def zGH:List (Nat × List Sh)→Nat→Bool
 | [],_=>true
 | x :: l,a=>Nat.beq x.1 a && zGH l (a + x.2.length)
def sumL:List (List Sh)→Nat
 | []=>0
 | r :: l=>r.length + sumL l
def shT (P:Program):Nat→TypeId→Option (List Sh)
 | 0,_=>none
 | g + 1,t=>match P.underlying t with
  | some (.int k)=>some [.i k]
  | some .bool=>some [.b]
  | some .string=>some [.s]
  | some (.slice e)=>(shT P g e).bind fun r=>bif Nat.beq (P.cellsOf e) r.length && Nat.blt 0 r.length then some [.l r] else none
  | some (.array n e)=>(shT P g e).bind fun r=>bif Nat.beq (P.cellsOf e) r.length && Nat.beq (P.cellsOf t) (sumL (List.replicate n r)) then some (List.replicate n r).flatten else none
  | some (.struct fs)=>(mapO (fun f:Field=>(shT P g f.type).bind fun r=>bif Nat.beq (P.cellsOf f.type) r.length then some (f.offset,r) else none) fs.toList).bind fun l =>
    bif zGH l 0 && Nat.beq (P.cellsOf t) (sumL (l.map (·.2))) then some (l.map (·.2)).flatten else none
  | _=>none
section
variable {P:Program} {w:World} {H:Type} {enc:TypeId × Value→H}
def Good (w:World) (shs:List Sh) (cs:List Value):Prop:=∃ ps:List PV,ps.length=shs.length∧(∀ (i:Nat) sh p,shs[i]? = some sh→ps[i]? = some p→Fit sh p)∧Al (RP (fun k=>k < w.heap.size) w) ps cs∧∀ v ∈ cs,v.oneCell'=true
theorem Good.one {sh:Sh} {p:PV} {v:Value} (h1:Fit sh p) (h2:RP (fun k=>k < w.heap.size) w p v) (h3:v.oneCell'=true):Good w [sh] [v] :=
 ⟨[p],rfl,(fun i s0 q hs hq=>by
  match i with
  | 0=>cases hs; cases hq; exact h1
  | i + 1=>cases hs),qYC h2 zXQ,(fun u hu=>by obtain rfl:=List.mem_singleton.1 hu; exact h3)⟩
theorem Good.cat {r s:List Sh} {cs ds:List Value} (h1:Good w r cs) (h2:Good w s ds):Good w (r ++ s) (cs ++ ds):=by
 obtain ⟨p,a1,a2,a3,a4⟩:=h1;obtain ⟨q,b1,b2,b3,b4⟩:=h2;refine ⟨p ++ q,by simp [a1,b1],fun i sh x hs hx => ?_,a3.append b3,fun v hv => ?_⟩
 ·rcases Nat.lt_or_ge i r.length with hi | hi
  ·rw [List.getElem?_append_left hi] at hs;rw [List.getElem?_append_left (by omega)] at hx;exact a2 i sh x hs hx
  ·rw [List.getElem?_append_right hi] at hs;rw [List.getElem?_append_right (by omega),a1] at hx;exact b2 _ sh x hs hx
 ·rcases List.mem_append.1 hv with h | h
  ·exact a4 v h
  ·exact b4 v h
def Pieces (w:World):List (List Sh)→List Value→Prop
 | [],cs=>cs=[]
 | r :: l,cs=>Good w r (cs.take r.length)∧Pieces w l (cs.drop r.length)
theorem Pieces.good:∀ {l:List (List Sh)} {cs:List Value},Pieces w l cs→Good w l.flatten cs
 | [],cs,h=>by
  have:cs=[]:=h
  subst this;exact ⟨[],rfl,fun i sh p hs=>by simp at hs,zXQ,fun v hv=>by cases hv⟩
 | r :: l,cs,h=>by
  have:=Good.cat h.1 h.2.good
  rw [List.take_append_drop] at this;exact this
theorem zQY {r:List Sh}:∀ (n:Nat) (cs:List Value),cs.length=sumL (List.replicate n r)→(∀ i,i < n→Good w r ((cs.drop (i * r.length)).take r.length))→Pieces w (List.replicate n r) cs
 | 0,cs,hl,_=>by
  have:cs.length=0:=hl
  exact List.length_eq_zero_iff.1 this
 | n + 1,cs,hl,h=>by
  have hl':cs.length=r.length + sumL (List.replicate n r):=hl;refine ⟨by have:=h 0 (by omega); simpa using this,zQY n _ (by rw [List.length_drop]; omega) fun i hi => ?_⟩
  have:=h (i + 1) (by omega)
  rw [List.drop_drop];rw [show r.length + i * r.length=(i + 1) * r.length by rw [Nat.add_mul]; omega];exact this
theorem zQZ:∀ (l:List (Nat × List Sh)) (a:Nat) (cs:List Value),zGH l a=true→(cs.drop a).length=sumL (l.map (·.2))→(∀ x ∈ l,Good w x.2 ((cs.drop x.1).take x.2.length))→Pieces w (l.map (·.2)) (cs.drop a)
 | [],a,cs,_,hl,_=>List.length_eq_zero_iff.1 hl
 | x :: l,a,cs,hc,hl,h=>by
  simp only [zGH,vQJ] at hc;have e:=vQU hc.1;have hl':(cs.drop a).length=x.2.length + sumL (l.map (·.2)):=hl;rw [List.length_drop] at hl';have h0:=h x vQG;rw [e] at h0;refine ⟨h0,?_⟩;show Pieces w (l.map (·.2)) ((cs.drop a).drop x.2.length);rw [List.drop_drop];exact zQZ l (a + x.2.length) cs hc.2 (by rw [List.length_drop]; omega) fun y hy=>h y (vQV _ hy)
theorem zQF {sp:Nat→Bool} {held:Bool}:∀ (fuel:Nat) (t:TypeId) (cs:List Value) (x:DataW H × List MemPlace) (g:Nat) (shs:List Sh),DataW.trod enc P w 0 sp held fuel t cs=some x→shT P g t=some shs→Good w shs cs
 | 0,t,cs,x,g,shs,h,_=>by simp [DataW.trod] at h
 | fuel + 1,t,cs,x,0,shs,h,hs=>by cases hs
 | fuel + 1,t,cs,x,g + 1,shs,h,hs=>by
  unfold shT at hs;split at hs
  ·rename_i k hu;cases hs;obtain ⟨n,rfl,_,hwf⟩:=DataW.trod_int hu h;exact Good.one (.i _ _ hwf) (.n _ _) rfl
  ·rename_i hu;cases hs;obtain ⟨b,rfl,_⟩:=DataW.trod_bool hu h;exact Good.one (.b _) (.b _) rfl
  ·rename_i hu;cases hs;obtain ⟨s,rfl,_,hs⟩:=DataW.trod_string hu h;exact Good.one (.s _ hs) (.s _) rfl
  ·rename_i e hu;simp only [vQQ] at hs;obtain ⟨r,hr,hs⟩:=hs;obtain ⟨hb,hs⟩:=qZ hs;cases hs;simp only [vQJ,Nat.blt_eq] at hb;have hk:=vQU hb.1;have hr0:=hb.2;rcases DataW.trod_slice hu h with ⟨rfl,_⟩ | ⟨a,len,cap,elems,rest,n,hf,rfl,_,_,hl,hm,hel,hcell,_,_⟩
   ·exact Good.one (.l r 0 (fun _=>[]) (Nat.zero_le _) (fun j hj=>by omega) (fun j hj=>by omega)) (.lf 0 _ _ (.l0 _ _)) rfl
   ·obtain rfl:n=fuel:=by omega
    have each:∀ i,∃ y:List PV × List Value,i < len→w.cells? 0 (a.add (i * r.length)) r.length=some y.2∧y.1.length=r.length∧(∀ (j:Nat) sh p,r[j]? = some sh→y.1[j]? = some p→Fit sh p)∧Al (RP (fun k=>k < w.heap.size) w) y.1 y.2∧∀ v ∈ y.2,v.oneCell'=true:=fun i=>by
     by_cases hi:i < len
     ·have hc:=hcell i hi;have he:elems[i]? = some (elems[i]'(by omega)):=vQK (by omega);rw [he,vQQ] at hc;obtain ⟨cs',h1,h2⟩:=hc;rw [hk] at h1;obtain ⟨ps,b1,b2,b3,b4⟩:=zQF n e cs' _ g r h2 hr;exact ⟨(ps,cs'),fun _=>⟨h1,b1,b2,b3,b4⟩⟩
     ·exact ⟨([],[]),fun h=>absurd h hi⟩
    obtain ⟨f,hf2⟩:=Classical.axiomOfChoice each;refine Good.one (.l r len (fun j=>(f j).1) (by omega) (fun j hj=>(hf2 j hj).2.1) (fun j hj=>(hf2 j hj).2.2.1)) (.lf len _ _ ?_) rfl;rcases Nat.eq_zero_or_pos len with h0 | hpos
    ·subst h0;exact .l0 _ _
    ·have hsome:∀ j t,j < len→t < r.length→w.cell? ((a.add (j * r.length)).add t)=(f j).2[t]?:=fun j t hj ht=>(World.cells?_some (hf2 j hj).1).2.2 t ht
     have hlen2:∀ j,j < len→(f j).2.length=r.length:=fun j hj=>(World.cells?_some (hf2 j hj).1).2.1
     have h00:=hsome 0 0 hpos hr0;have hg:(f 0).2[0]? = some ((f 0).2[0]'(by rw [hlen2 0 hpos]; exact hr0)):=vQK _;rw [hg] at h00;have hsp:a.spot=none:=by
      have e:(a.add (0 * r.length)).add 0=a:=by simp [Addr.add]
      rw [e] at h00;unfold World.cell? at h00;cases hb:w.heap[a.block]? with
      | none=>simp [hb] at h00
      | some o=>cases o <;> simp [hb] at h00; exact h00.1
     obtain ⟨bb,off,sp'⟩:=a;simp only at hsp;subst hsp;have hbb:bb < w.heap.size:=by
      rw [qQV,qQV] at h00;unfold World.cell? at h00;cases hb:w.heap[bb]? with
      | none=>simp [hb] at h00
      | some o=>exact uH hb
     refine .l _ bb off len cap r.length (fun j t=>((f j).2[t]?).getD (.bool false)) (by simp) hl (fun q hq => ?_) hbb (fun j t hj ht => ?_) (fun j q t p hq hp => ?_)
     ·obtain ⟨j,hj,rfl⟩:=List.mem_map.1 hq;exact (hf2 j (List.mem_range.1 hj)).2.1
     ·have h1:=hsome j t hj ht;have hg2:(f j).2[t]? = some ((f j).2[t]'(by rw [hlen2 j hj]; exact ht)):=vQK _;rw [qQV,qQV,hg2,Nat.add_assoc] at h1;rw [hg2];exact ⟨h1,(hf2 j hj).2.2.2.2 _ (List.getElem_mem _)⟩
     ·have hj:j < len:=by have:=(List.getElem?_eq_some_iff.1 hq).1; simpa using this
      rw [vQH,List.getElem?_range hj] at hq;cases hq;have htl:=(List.getElem?_eq_some_iff.1 hp).1;have hg2:(f j).2[t]? = some ((f j).2[t]'(by rw [hlen2 j hj,← (hf2 j hj).2.1]; exact htl)):=vQK _
      have:=(hf2 j hj).2.2.2.1.2 t p _ hp hg2
      rw [hg2];exact this
  ·rename_i n e hu;simp only [vQQ] at hs;obtain ⟨r,hr,hs⟩:=hs;obtain ⟨hb,hs⟩:=qZ hs;cases hs;simp only [vQJ] at hb;have hk:=vQU hb.1;have hk2:=vQU hb.2;obtain ⟨xs,m,hf,_,hl,hxl,hall⟩:=DataW.trod_array hu h;obtain rfl:m=fuel:=by omega
   refine (zQY n cs (hl.trans hk2) fun i hi => ?_).good;have h1:=hall i hi;have he:xs[i]? = some (xs[i]'(by omega)):=vQK (by omega);rw [he,hk] at h1;exact zQF m e _ _ g r h1 hr
  ·rename_i fs hu;simp only [vQQ] at hs;obtain ⟨l,hlm,hs⟩:=hs;obtain ⟨hb,hs⟩:=qZ hs;cases hs;simp only [vQJ] at hb;have hk2:=vQU hb.2;obtain ⟨xs,m,hf,_,hl,hxl,hall⟩:=DataW.trod_struct hu h;obtain rfl:m=fuel:=by omega
   have hm:=zZ hlm
   have:=zQZ (w:=w) l 0 cs hb.1 (by rw [List.drop_zero]; exact hl.trans hk2) fun y hy=>by
    obtain ⟨i,hi⟩:=List.mem_iff_getElem?.1 hy;have hil:=(List.getElem?_eq_some_iff.1 hi).1;have hl2:i < fs.toList.length:=by rw [hm.1]; exact hil
    have hfi:fs.toList[i]? = some (fs.toList[i]'hl2):=vQK hl2;have h1:=hm.2 i _ y hfi hi;generalize fs.toList[i]'hl2=fd at hfi h1;simp only [vQQ] at h1;obtain ⟨r,hr,h1⟩:=h1;obtain ⟨hb1,h1⟩:=qZ h1;cases h1;have hk:=vQU hb1;have h2:=hall i fd (by simpa using hfi);have he:xs[i]? = some (xs[i]'(by simp at hxl hl2; omega)):=vQK _;rw [he,hk] at h2;exact zQF m fd.type _ _ g r h2 hr
   rw [List.drop_zero] at this;exact this.good
  ·cases hs
end
end Go.Rx
namespace Go.Rx
open Go.RowKit Go.Sx
abbrev Cont:=Ex→St→Option (Ret × Mem)
abbrev zH:=St→Cont→Option (Ret × Mem)
def qYD:Nat→Code→Code
 | 0,.seq x _=>x
 | _ + 1,.seq _ y=>y
 | 0,.cond _ x _=>x
 | _ + 1,.cond _ _ y=>y
 | _,.block _ x=>x
 | _,.scope x=>x
 | _,.loop x=>x
 | _,c=>c
def qZB (B:Code):List Nat→Code
 | []=>B
 | i :: p=>qYD i (qZB B p)
def zKY:List Nat→List Nat→Bool
 | [],[]=>true
 | x :: xs,y :: ys=>Nat.beq x y && zKY xs ys
 | _,_=>false
theorem zKZ:∀ {p q:List Nat},zKY p q=true→p=q
 | [],[],_=>rfl
 | x :: xs,y :: ys,h=>by
  simp only [zKY,vQJ] at h;rw [vQU h.1,zKZ h.2]
 | [],_ :: _,h=>by cases h
 | _ :: _,[],h=>by cases h
section
variable {C:Cx} {cK:qWF} {r:Ret × Mem} {K0:Ret × Mem→Option (Ret × Mem)}
end
def zWL (T:Tab) (f:Nat):Code:=match T.fn f with
 | some fi=>fi.body
 | none=>.skip
def ntmF (T:Tab) (f:Nat):Nat:=match T.fn f with
 | some fi=>fi.ntmps
 | none=>0
def qQ (T:Tab) (f:Nat) (p:List Nat):Code:=qYD 0 (qZB (zWL T f) p)
noncomputable def gSt (a b:St):Bool:=@decide (a=b) (vZH _)
theorem yY (a:St):gSt a a=true:=@vYJ _ (vZH _) rfl
theorem jWC {a b:St} (h:gSt a b=true):a=b:=@vYK _ (vZH _) h
def qY (l:List (List Nat × zH)) (p:List Nat):Option zH:=match l with
 | []=>none
 | x :: xs=>bif zKY x.1 p then some x.2 else qY xs p
end Go.Rx
namespace Go.Rx
open Go.RowKit Go.Sx
def qGQ {β:Type} (good:Nat→Bool) (KX:β) (KR:Nat→β):Nat→Nat→β
 | 0,_=>KX
 | k + 1,p=>bif good p then qGQ good KX KR k (p + 1) else KR p
def allN (good:Nat→Bool):Nat→Nat→Bool
 | 0,_=>true
 | k + 1,p=>good p && allN good k (p + 1)
theorem qQH {β:Type} (good:Nat→Bool) (x y:β):∀ k p,qGQ good x (fun _=>y) k p=bif allN good k p then x else y
 | 0,_=>rfl
 | k + 1,p=>by
  simp only [qGQ,allN,qQH good x y k (p + 1)];cases good p <;> rfl
theorem allN_iff {good:Nat→Bool}:∀ {k p:Nat},allN good k p=true ↔ ∀ j,p≤j→j < p + k→good j=true
 | 0,p=>⟨fun _ j h1 h2=>by omega,fun _=>rfl⟩
 | k + 1,p=>by
  simp only [allN,vQJ,allN_iff (k:=k)];exact ⟨fun h j h1 h2=>by
   rcases Nat.eq_or_lt_of_le h1 with e | e
   ·exact e ▸ h.1
   ·exact h.2 j e (by omega),fun h=>⟨h p (Nat.le_refl _) (by omega),fun j h1 h2=>h j (by omega) (by omega)⟩⟩
def firstK (good:Nat→Bool):Nat→Nat→Nat
 | 0,p=>p
 | k + 1,p=>bif good p then firstK good k (p + 1) else p
theorem qWQ {β:Type} (good:Nat→Bool) (x:β) (y:Nat→β):∀ k p,qGQ good x y k p=bif allN good k p then x else y (firstK good k p)
 | 0,_=>rfl
 | k + 1,p=>by
  simp only [qGQ,allN,firstK,qWQ good x y k (p + 1)];cases good p <;> rfl
theorem jQD {α:Type} (d:α) (f:α→List PV) (l:List α):l.map f=(List.range l.length).map fun i=>f (l.getD i d):=by
 refine List.ext_getElem? fun i => ?_
 rw [vQH,vQH];by_cases h:i < l.length
 ·rw [List.getElem?_range h,vQK h];simp [vZX,h]
 ·rw [List.getElem?_eq_none (by omega),List.getElem?_eq_none (by simp; omega)];rfl
theorem yUE {P:Program} {f:Nat} {ps ps':List PV} {r:Ret} (hs:∀ F w vals,Al (RP F w) ps' vals→Al (RP F w) ps vals) (h:yZ P f ps r):yZ P f ps' r :=
 ⟨h.1,fun w F vals hF hal=>h.2 w F vals hF (hs F w vals hal)⟩
theorem qZK {P:Program} {f:Nat} {ps:List PV} {x y:PV} (hs:∀ F w v,RP F w x v→RP F w y v) (h:yZ P f ps (.v x)):yZ P f ps (.v y) :=
 ⟨h.1,fun w F vals hF hal=>(h.2 w F vals hF hal).mono fun _ w' ⟨v,F',he,hg,f1,f2,hr⟩=>⟨v,F',he,hg,f1,f2,hs F' w' v hr⟩⟩
theorem zZY {F:Nat→Prop} {w:World} {n:Nat} {f:Nat→List PV} {rows:List (List PV)} {v:Value} (e:rows=(List.range n).map f) (h:RP F w (.l rows) v):RP F w (.lf n f) v:=.lf n f v (e ▸ h)
theorem zZJ {F:Nat→Prop} {w:World} {n:Nat} {f:Nat→List PV} {rows:List (List PV)} {v:Value} (e:rows=(List.range n).map f) (h:RP F w (.lf n f) v):RP F w (.l rows) v:=by
 cases h with
 | lf _ _ _ h=>exact e ▸ h
def Same (x y:PV):Prop:=∀ F w v,RP F w x v→RP F w y v
theorem Same.refl (x:PV):Same x x:=fun _ _ _ h=>h
theorem Same.lf {n:Nat} {f:Nat→List PV} {rows:List (List PV)} (e:rows=(List.range n).map f):Same (.l rows) (.lf n f):=fun _ _ _=>zZY e
theorem Same.l {n:Nat} {f:Nat→List PV} {rows:List (List PV)} (e:rows=(List.range n).map f):Same (.lf n f) (.l rows):=fun _ _ _=>zZJ e
def Sames:List PV→List PV→Prop
 | [],[]=>True
 | x :: xs,y :: ys=>Same x y∧Sames xs ys
 | _,_=>False
theorem Sames.al {F:Nat→Prop} {w:World}:∀ {xs ys:List PV} {vs:List Value},Sames xs ys→Al (RP F w) xs vs→Al (RP F w) ys vs
 | [],[],_,_,h=>h
 | x :: xs,y :: ys,vs,hs,h=>by
  obtain ⟨v,vs,rfl,h1,h2⟩:=yUJ h;exact qYC (hs.1 F w v h1) (Sames.al hs.2 h2)
 | [],_ :: _,_,h,_=>h.elim
 | _ :: _,[],_,h,_=>h.elim
theorem Same.a {xs ys:List PV} (h:Sames xs ys):Same (.a xs) (.a ys):=fun F w v hv=>by
 cases hv with
 | a _ vs hl h1 hh =>
  have:=Sames.al h (show Al (RP F w) xs vs from ⟨hl,hh⟩)
  exact .a ys vs this.1 h1 this.2
theorem Same.t {xs ys:List PV} (h:Sames xs ys):Same (.t xs) (.t ys):=fun F w v hv=>by
 cases hv with
 | t _ vs hl hh =>
  have:=Sames.al h (show Al (RP F w) xs vs from ⟨hl,hh⟩)
  exact .t ys vs this.1 this.2
end Go.Rx

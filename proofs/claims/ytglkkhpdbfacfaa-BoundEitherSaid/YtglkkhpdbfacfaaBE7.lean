/- Part 7 of the texts behind the last one: rules and contracts. No condition. -/
import Derived.Test.YtglkkhpdbfacfaaBE6
open Option renaming bind_eq_some_iff → vQQ, map_eq_some_iff → vZK, bind_some → vZV
open Option.some renaming injEq → vQZ
open Prod.mk renaming injEq → vQY
open Bool renaming and_eq_true → vQJ, and_self → vZQ
open List renaming getElem?_eq_getElem → vQK, length_cons → vQX, mem_of_getElem? → vQW, mem_cons_of_mem → vQV, mem_cons_self → vQG, getElem?_map → vQH, getElem?_take → vZU, getD_eq_getElem?_getD → vZX
open Nat renaming eq_of_beq_eq_true → vQU, le_of_ble_eq_true → vZJ
open Classical renaming propDecidable → vZH
namespace Go.Rx
open Go.RowKit Go.Sx
section
variable {P:Program} {E:Env} {T:Tab} {ρ:Own} {F:Nat→Prop} {σ:St} {a:Act} {w:World}
theorem jKU {M:Mem} {cs:List CV} {ps:List PV} {us:List Value} {F':Nat→Prop} (hm:MemOk E ρ F M w) (hF:∀ k,F k→F' k) (hall:∀ id ad c k s b,ρ id=some (.reg ad c k s)→ad.map (·.block)=some b→F' b) (hcv:Al (fun c v=>RH ρ F w c.back v∧∀ id e sz rows,c=.o id e sz rows→qX M id=some (.reg e sz rows)) cs us) (hp:mapO CV.fz cs=some ps):Al (RP F' w) ps us:=by
 have h1:=zK hp;refine ⟨by rw [← h1.1,hcv.1],fun i p v hpi hv => ?_⟩;have hil:=(List.getElem?_eq_some_iff.1 hpi).1;have hl:i < cs.length:=by rw [h1.1]; exact hil
 have hfz:=h1.2 i _ p (vQK hl) hpi;obtain ⟨hrh,ho⟩:=hcv.2 i _ v (vQK hl) hv;generalize cs[i]=c at hfz hrh ho;unfold CV.fz at hfz;split at hfz
 ·cases hfz; exact RP.mono (fun k hk=>⟨hF k hk,rfl⟩) hrh
 ·cases hfz; have:v=.slice none 0 0:=hrh; subst this; exact .l0 _ _
 ·rename_i id e' sz rows;cases hfz;obtain ⟨ad,c',k,sz',hρ,rfl⟩:=hrh;exact (jK (hm.ent id _ (ho _ _ _ _ rfl)) hF (fun L b hL hb=>by rw [hρ] at hL; cases hL; exact hall id _ _ _ _ b hρ hb) ad c' k sz' hρ).1
 ·cases hfz
def ResR (E:Env) (ρ:Own) (F:Nat→Prop) (M:Mem) (w:World) (r:RV) (v:Value):Prop :=
 (RH ρ F w r.back v∧RRes M r) ∨ (∃ p,r=.v p∧∀ F':Nat→Prop,(∀ k,F k→F' k)→(∀ id ad c k s b,ρ id=some (.reg ad c k s)→ad.map (·.block)=some b→F' b)→RP F' w p v)
theorem jZG {n:Nat} (hT:TabOk P T) (h:Rel' E n ρ F σ a w) {x:ResultVar} {r:RV} (hx:zHI T σ x=some r):∃ v,(resF a.tmps x).run P w=.ok v w∧ResR E ρ F σ.M w r v:=by
 cases x with
 | tmp t =>
  simp only [zHI,vQQ] at hx;obtain ⟨y,hy,hr⟩:=hx;obtain ⟨v,hv,hrh⟩:=h.slots t y hy;obtain ⟨hb,hres⟩:=qYH hr;refine ⟨v,by simp [resF,Array.getD_eq_getD_getElem?,hv],.inl ⟨by rw [hb]; exact hrh,hres⟩⟩
 | cell x t =>
  simp only [zHI,vQQ] at hx;obtain ⟨y,hy,p,hp,⟨kb,k⟩,hk,hx⟩:=hx;obtain ⟨v,hv,hrh⟩:=h.slots x y hy;obtain ⟨hb,hres⟩:=qYH hp;rw [← hb] at hrh;obtain ⟨hty,hk1⟩:=hT.sz t kb k hk;cases p with
  | p id off cells =>
   obtain ⟨b,hρ,rfl⟩:=hrh;obtain ⟨hc,hlk,hcc⟩:=hres;obtain ⟨b2,us,ty',hρ2,hheap,hal,hone⟩:=h.mem.ent id _ hlk;rw [hρ] at hρ2;cases hρ2;cases kb with
   | false =>
    have hk1':=hk1 rfl;subst hk1';simp only [vYZ,vQQ,vQZ] at hx;obtain ⟨c,hcs,q,hq,rfl⟩:=hx;have hcv:=qZH hcc hal;obtain ⟨u,hu,hru⟩:=hcv.get hcs;have hr:=zVK (w:=w) hheap off;rw [hu] at hr;refine ⟨u,by simp [resF,Array.getD_eq_getD_getElem?,hv,asAddr,loadVar,qXZ hty,hr],.inr ⟨_,rfl,fun F' hF hall => ?_⟩⟩;exact (jKU h.mem hF hall (cs:=[c]) (us:=[u]) ⟨rfl,fun i c' u' hc' hu'=>by
     cases i with
     | zero=>simp at hc' hu'; subst hc' hu'; exact hru
     | succ i=>simp at hc'⟩ (ps:=[q]) (by simp [mapO,hq])).2 0 q u rfl rfl
   | true =>
   simp only [vYQ,vQQ,vQZ] at hx;obtain ⟨cs,hcs,ps,hps,rfl⟩:=hx;obtain ⟨rfl,hle⟩:=qZJ hcs;have hcv:=qZH hcc hal;have hlen:cells.length=us.length:=hcv.1;have hr:=qWZ (P:=P) (w:=w) (b:=b) (off:=off) (k:=k) (vs:=(us.drop off).take k) (fun i hi=>by
    rw [zVK hheap];simp [vZU,hi]) (by simp; omega)
   refine ⟨.agg ((us.drop off).take k).toArray,by simp [resF,Array.getD_eq_getD_getElem?,hv,asAddr,loadVar,qXZ hty,qYX hty,hr],.inr ⟨_,rfl,fun F' hF hall => ?_⟩⟩;exact qKE (jKU h.mem hF hall ((hcv.drop off).take k) hps) fun u hu=>hone u (List.mem_of_mem_drop (List.mem_of_mem_take hu))
  | _=>simp only at hx; cases hx
theorem zVF {n:Nat} (hT:TabOk P T) (h:Rel' E n ρ F σ a w):∀ {xs:List ResultVar} {rs:List RV},mapO (zHI T σ) xs=some rs→∃ vs,(xs.mapM (resF a.tmps)).run P w=.ok vs w∧Al (ResR E ρ F σ.M w) rs vs
 | [],rs,hx=>by simp [mapO] at hx; subst hx; exact ⟨[],by simp,Al.nil⟩
 | x :: xs,rs,hx=>by
  simp only [mapO,vQQ,vQZ] at hx;obtain ⟨r,hr,rs',hrs,rfl⟩:=hx;obtain ⟨v,h1,h2⟩:=jZG hT h hr;obtain ⟨vs,h3,h4⟩:=zVF hT h hrs;exact ⟨v :: vs,by simp [List.mapM_cons,Sem.run_bind,h1,h3],Al.cons h2 h4⟩
def outF (E:Env) (ρ:Own) (F:Nat→Prop):Nat→Prop:=fun k=>F k ∨ ∃ id L,ρ id=some L∧L.bl=some k∧¬ E.W k
theorem jXZ {M:Mem} (hm:MemOk E ρ F M w) {id:Nat} {ad:Option Addr} {c k s b:Nat} (hQ:∀ k,¬ E.Q k) (h:ρ id=some (.reg ad c k s)) (hb:ad.map (·.block)=some b):¬ E.W b:=fun hw=>by
 have h1:=(hm.pin b hw).resolve_right (hQ b)
 have:=hm.apart id pid _ _ b h h1 hb rfl
 subst this;rw [h] at h1; cases h1
theorem F_W {M:Mem} (hm:MemOk E ρ F M w) {k:Nat} (h:F k):E.F0 k ∨ E.w0.heap.size≤k ∨ E.Q k:=by
 rcases (hm.fz k h).2 with h1 | h1 | h1
 ·exact .inl h1
 ·exact .inr (.inl h1)
 ·rcases hm.pin k h1 with h2 | h2
  ·exact absurd h (hm.off pid _ k h2 rfl).1
  ·exact .inr (.inr h2)
theorem qVU {M:Mem} (hm:MemOk E ρ F M w) (hQ:∀ k,¬ E.Q k) {k:Nat} (h:outF E ρ F k):E.F0 k ∨ (E.w0.heap.size≤k∧k < w.heap.size):=by
 rcases h with h | ⟨id,L,hL,hb,hW⟩
 ·rcases F_W hm h with h1 | h1 | h1
  ·exact .inl h1
  ·exact .inr ⟨h1,(hm.fz k h).1⟩
  ·exact absurd h1 (hQ k)
 ·have:=hm.off id L k hL hb
  rcases this.2.2 with h1 | h1
  ·exact .inr ⟨h1,this.2.1⟩
  ·exact absurd h1 hW
theorem jZH {M:Mem} (hm:MemOk E ρ F M w) (hQ:∀ k,¬ E.Q k) {r:RV} {p:PV} {v:Value} (hr:ResR E ρ F M w r v) (hp:r.fz=some p) (hs:r.still=true ∨ ∀ k,¬ E.W k):RP (outF E ρ F) w p v:=by
 have hreg:∀ id ad c k s b,ρ id=some (.reg ad c k s)→ad.map (·.block)=some b→outF E ρ F b:=fun id ad c k s b h hb=>.inr ⟨id,_,h,hb,jXZ hm hQ h hb⟩
 rcases hr with ⟨h1,h2⟩ | ⟨p',rfl,h1⟩
 ·refine zQB hm (fun k hk=>.inl hk) hp h1 h2 ?_;rcases hs with hs | hs
  ·refine .inl ⟨hs,fun x hx L b hL hb => ?_⟩;obtain ⟨e,sz,hl⟩:=zXF h2 x hx;obtain ⟨ad,c,vr,hρ,_⟩:=hm.ent x.1 _ hl;rw [hL] at hρ;cases hρ;exact hreg _ _ _ _ _ b hL hb
  ·exact .inr fun id L b hL hb=>.inr ⟨id,L,hL,hb,hs b⟩
 ·cases hp; exact h1 _ (fun k hk=>.inl hk) hreg
theorem yYG {M:Mem} (hm:MemOk E ρ F M w) (hQ:∀ k,¬ E.Q k):∀ {rs:List RV} {ps:List PV} {vs:List Value},Al (ResR E ρ F M w) rs vs→mapO RV.fz rs=some ps→(rs.all RV.still=true ∨ ∀ k,¬ E.W k)→Al (RP (outF E ρ F) w) ps vs
 | [],ps,vs,hal,hp,_=>by cases hp; rw [hal.nil_left]; exact Al.nil
 | r :: rs,ps,vs,hal,hp,hs=>by
  simp only [mapO,vQQ,vQZ] at hp;obtain ⟨p,hp,ps',hps,rfl⟩:=hp;obtain ⟨v,vs',rfl,hr,hal'⟩:=hal.cons_left;have h1:r.still=true ∨ ∀ k,¬ E.W k:=hs.imp (fun h=>by simp only [List.all_cons,vQJ] at h; exact h.1) id;have h2:rs.all RV.still=true ∨ ∀ k,¬ E.W k:=hs.imp (fun h=>by simp only [List.all_cons,vQJ] at h; exact h.2) id;exact Al.cons (jZH hm hQ hr hp h1) (yYG hm hQ hal' hps h2)
theorem jGI {M:Mem} (hm:MemOk E ρ F M w) (hQ:∀ k,¬ E.Q k) {id e sz:Nat} {rows:Rows} {v:Value} (hr:ResR E ρ F M w (.o id e sz rows) v):RRet F E.w0 w (.ow e sz rows) v:=by
 rcases hr with ⟨h1,h2⟩ | ⟨p,hp,_⟩
 ·obtain ⟨ad,c,k,sz',hρ,rfl⟩:=h1;obtain ⟨ad2,c2,vr,hρ2,h0,hal,hrl,hone,hown⟩:=hm.ent id _ h2;rw [hρ] at hρ2;cases hρ2;refine ⟨ad,c,vr,rfl,h0,hal,hrl,hone,hown,fun b hb => ?_⟩
  have:=hm.off id _ b hρ hb
  refine ⟨this.1,?_,this.2.1⟩;rcases this.2.2 with h | h
  ·exact h
  ·exact absurd h (jXZ hm hQ hρ hb)
 ·cases hp
def regF (ρ:Own) (F:Nat→Prop):Nat→Prop:=fun k=>F k ∨ ∃ id ad c n s,ρ id=some (.reg ad c n s)∧ad.map (·.block)=some k
theorem jGF {M:Mem} (hm:MemOk E ρ F M w) {id:Nat} {cells:List CV} {ps:List PV} {v:Value} (hr:ResR E ρ F M w (.p id 0 cells) v) (hp:mapO CV.fz cells=some ps) (hW:∀ k,¬ E.W k):RRet (regF ρ F) E.w0 w (.pb ps) v:=by
 rcases hr with ⟨h1,h2⟩ | ⟨p,hp,_⟩
 ·obtain ⟨b,hρ,rfl⟩:=h1;obtain ⟨hc,hlk,hcc⟩:=h2;obtain ⟨b2,us,ty',hρ2,hheap,hal,hone⟩:=hm.ent id _ hlk;rw [hρ] at hρ2;cases hρ2;have hoff:=hm.off id _ b hρ rfl;refine ⟨b,us,ty',rfl,hheap,jKU hm (fun k hk=>.inl hk) (fun id ad c k s b h hb=>.inr ⟨id,ad,c,k,s,h,hb⟩) (qZH hcc hal) hp,hone,fun hf => ?_,?_,hoff.2.1⟩
  ·rcases hf with hf | ⟨id',ad,c,k,s,h,hb⟩
   ·exact hoff.1 hf
   ·have:=hm.apart id id' _ _ b hρ h rfl hb
    subst this;rw [hρ] at h; cases h
  ·exact hoff.2.2.resolve_right (hW b)
 ·cases hp
theorem zVA {xs:List ResultVar} {vs:List Value} {fn:Func} (hfn:fn.results=xs.toArray) (h:(xs.mapM (resF a.tmps)).run P w=.ok vs w):(results fn a.tmps).run P w=.ok (Sx.valOf vs) w:=by
 unfold results;rw [hfn];change Sem.run P (do let us ← xs.toArray.mapM (resF a.tmps); pure (if h:us.size=1 then us[0] else .tuple us)) w=_;simp only [Sem.run_bind,List.mapM_toArray,Sem.run_map,h,Result.andThen_ok]
 match vs with
 | []=>rfl
 | [v]=>rfl
 | v :: u :: vs=>simp [Sx.valOf]
theorem jZV {M:Mem} (hm:MemOk E ρ F M w) (hQ:∀ k,¬ E.Q k) {rs:List RV} {vs:List Value} {r:Ret} (hal:Al (ResR E ρ F M w) rs vs) (hr:qHW rs=some r) (hs:rs.all RV.still=true ∨ ∀ k,¬ E.W k) :
  ∃ F',(∀ k,F k→F' k)∧(∀ k,F' k→E.F0 k ∨ (E.w0.heap.size≤k∧k < w.heap.size))∧RRet F' E.w0 w r (Sx.valOf vs):=by
 have gen:∀ ps,mapO RV.fz rs=some ps→Al (RP (outF E ρ F) w) ps vs:=fun ps hps=>yYG hm hQ hal hps hs
 have tup:∀ ps,mapO RV.fz rs=some ps→Sx.valOf vs=.tuple vs.toArray→r=.v (.t ps)→∃ F',(∀ k,F k→F' k)∧(∀ k,F' k→E.F0 k ∨ (E.w0.heap.size≤k∧k < w.heap.size))∧RRet F' E.w0 w r (Sx.valOf vs):=fun ps hps hv hr=>by
  subst hr;rw [hv];exact ⟨outF E ρ F,fun k hk=>.inl hk,fun k hk=>qVU hm hQ hk,.t ps vs (gen ps hps).1 (gen ps hps).2⟩
 have one:∀ x p v,rs=[x]→vs=[v]→x.fz=some p→r=.v p→∃ F',(∀ k,F k→F' k)∧(∀ k,F' k→E.F0 k ∨ (E.w0.heap.size≤k∧k < w.heap.size))∧RRet F' E.w0 w r (Sx.valOf vs):=fun x p v hx hv hp hr=>by
  subst hr hx hv
  have:=gen [p] (by simp [mapO,hp])
  exact ⟨outF E ρ F,fun k hk=>.inl hk,fun k hk=>qVU hm hQ hk,this.2 0 p v rfl rfl⟩
 cases rs with
 | nil =>
  have:=hal.nil_left
  subst this;simp only [qHW,mapO,vZV,vQZ] at hr;exact tup [] rfl rfl hr.symm
 | cons x rs =>
  obtain ⟨v,vs',rfl,hx,hal'⟩:=hal.cons_left;cases rs with
  | nil =>
   have:=hal'.nil_left
   subst this;have oth:(x.fz.bind fun y=>some (Ret.v y))=some r→∃ F',(∀ k,F k→F' k)∧(∀ k,F' k→E.F0 k ∨ (E.w0.heap.size≤k∧k < w.heap.size))∧RRet F' E.w0 w r (Sx.valOf [v]):=fun hr=>by
    simp only [vQQ,vQZ] at hr;obtain ⟨y,hy,rfl⟩:=hr;exact one x y v rfl rfl hy rfl
   cases x with
   | o id e sz rows =>
    cases hr;exact ⟨F,fun k hk=>hk,fun k hk=>by
     rcases F_W hm hk with h | h | h
     ·exact .inl h
     ·exact .inr ⟨h,(hm.fz k hk).1⟩
     ·exact absurd h (hQ k),jGI hm hQ hx⟩
   | p id off cells =>
    cases off with
    | zero =>
     simp only [qHW,vQQ,vQZ] at hr;obtain ⟨cs,hcs,rfl⟩:=hr;have hW:∀ k,¬ E.W k:=hs.resolve_left (by simp [RV.still]);refine ⟨regF ρ F,fun k hk=>.inl hk,fun k hk => ?_,jGF hm hx hcs hW⟩;rcases hk with hk | ⟨id',ad,c,n,s,h,hb⟩
     ·exact qVU hm hQ (.inl hk)
     ·exact qVU hm hQ (.inr ⟨id',_,h,hb,hW k⟩)
    | succ off=>exact oth hr
   | _=>exact oth hr
  | cons y rs =>
   obtain ⟨u,vs'',rfl,hy,hal''⟩:=hal'.cons_left;simp only [qHW,vQQ,vQZ] at hr;obtain ⟨ys,hys,rfl⟩:=hr;exact tup ys hys rfl rfl
theorem zZW {M:Mem} (hm:MemOk E ρ F M w):∀ {rs:List RV} {ps:List PV} {vs:List Value},Al (ResR E ρ F M w) rs vs→mapO RV.fz rs=some ps→Al (RP (allF ρ F) w) ps vs
 | [],ps,vs,hal,hp=>by cases hp; rw [hal.nil_left]; exact Al.nil
 | r :: rs,ps,vs,hal,hp=>by
  simp only [mapO,vQQ,vQZ] at hp;obtain ⟨p,hp,ps',hps,rfl⟩:=hp;obtain ⟨v,vs',rfl,hr,hal'⟩:=hal.cons_left;refine Al.cons ?_ (zZW hm hal' hps);rcases hr with ⟨h1,h2⟩ | ⟨p',rfl,h1⟩
  ·exact zQB hm (fun k hk=>.inl hk) hp h1 h2 (.inr fun id L b hL hb=>.inr ⟨id,L,hL,hb⟩)
  ·cases hp; exact h1 _ (fun k hk=>.inl hk) fun id ad c k s b h hb=>.inr ⟨id,_,h,hb⟩
theorem yXG {M:Mem} (hm:MemOk E ρ F M w) {rs:List RV} {vs:List Value} {x:PV} (hal:Al (ResR E ρ F M w) rs vs) (hr:qHW rs=some (.v x)):RP (allF ρ F) w x (Sx.valOf vs):=by
 cases rs with
 | nil =>
  have:=hal.nil_left
  subst this;simp only [qHW,mapO,vZV,vQZ,Ret.v.injEq] at hr;subst hr;exact .t [] [] rfl fun i p v h=>by simp at h
 | cons y rs =>
  obtain ⟨v,vs',rfl,hx,hal'⟩:=hal.cons_left;cases rs with
  | nil =>
   have:=hal'.nil_left
   subst this;have oth:(y.fz.bind fun z=>some (Ret.v z))=some (.v x)→RP (allF ρ F) w x (Sx.valOf [v]):=fun hr=>by
    simp only [vQQ,vQZ,Ret.v.injEq] at hr;obtain ⟨z,hz,rfl⟩:=hr;exact (zZW hm hal (ps:=[z]) (by simp [mapO,hz])).2 0 z v rfl rfl
   cases y with
   | o id e sz rows=>cases hr
   | p id off cells =>
    cases off with
    | zero =>
     simp only [qHW,vQQ,vQZ] at hr;obtain ⟨_,_,hr⟩:=hr; cases hr
    | succ off=>exact oth hr
   | _=>exact oth hr
  | cons z rs =>
   obtain ⟨u,vs'',rfl,hy,hal''⟩:=hal'.cons_left;simp only [qHW,vQQ,vQZ,Ret.v.injEq] at hr;obtain ⟨ys,hys,rfl⟩:=hr
   have:=zZW hm hal hys
   exact .t ys _ this.1 this.2
theorem zQW:∀ {hs:List HV} {k t:Nat} {x:HV},jJ (initS k hs) t=some x→k≤t∧hs[t - k]? = some x
 | [],k,t,x,h=>by cases h
 | y :: hs,k,t,x,h=>by
  simp only [initS] at h;by_cases e:k=t
  ·subst e; rw [zQX] at h; simpa using h
  ·rw [zYY e] at h;obtain ⟨h1,h2⟩:=zQW h;refine ⟨by omega,?_⟩;rw [show t - k=(t - (k + 1)) + 1 by omega]
   simpa using h2
theorem qZD {N f:Nat} {orc:Orc} {hs:List HV} {M M':Mem} {r:Ret} {vals:List Value} (hT:TabOk P T) (hm:P.follows .mixedOrders=true) (hE:E.D=Harm P) (hA:SndA P (qYE orc (runF T orc N))) (hB:SndB P T (qQC T orc (runF T orc N)))
  (h:runF T orc (N + 1) f hs M=some (r,M')):kH P f∧∀ (hal:Al (RH ρ F w) hs vals) (hmem:MemOk E ρ F M w) (hW:M.isEmpty=true→∀ k,¬ E.W k) (hQ:(∀ k,¬ E.Q k) ∨ ∃ x,r=.v x∧x.flat=true),
   Calls P f vals.toArray w (fun e w'=>∃ v F' ρ' F1,e=.returned v∧GrowB E.W E.w0 w'∧MemOk E ρ' F1 M' w'∧(∀ k,F1 k→F' k)∧(∀ k,F' k→E.F0 k ∨ (E.w0.heap.size≤k∧k < w'.heap.size) ∨ E.Q k)∧RRet F' E.w0 w' r v):=by
 simp only [runF] at h;split at h
 ·cases h
 ·rename_i fi hfi;obtain ⟨hle,h⟩:=qZ h;obtain ⟨hent,fn,hf,hb,hn,hres⟩:=hT.fn f fi hfi;refine ⟨hent,fun hal hmem hW hQ=>calls_of_wp_defers hf hb ?_⟩;have hle':hs.length≤fi.ntmps:=vZJ hle;have hl:vals.length=hs.length:=hal.1.symm;refine zHC (E:=E) (C:=⟨T,qYE orc (runF T orc N),qQC T orc (runF T orc N),f,fi.ntmps⟩) hT hE hA hB hm fi.body _ _ _ _ _ h ⟨ρ,F,by simp [hn]; omega,fun d hd=>by simp at hd,fun t x hx => ?_,hmem⟩ fun e τ a' w' hk hr' => ?_
  ·obtain ⟨_,h2⟩:=zQW hx;simp only [Nat.sub_zero] at h2;obtain ⟨v,hv,hrv⟩:=hal.get h2;have hlt:=(List.getElem?_eq_some_iff.1 hv).1;refine ⟨v,?_,hrv⟩;rw [vQK hlt] at hv;simp [Array.getElem?_append,hlt]
   simpa using hv
  ·obtain ⟨ρ',F',hr'⟩:=hr';have key:∀ rs,mapO (zHI T τ) fi.results=some rs→∀ r',qHW rs=some r'→(bif M.isEmpty || rs.all RV.still then some (r',τ.M) else none)=some (r,M')→Leaves P fn a'.tmps (fun e w'=>∃ v2 F' ρ' F1,e=.returned v2∧GrowB E.W E.w0 w'∧MemOk E ρ' F1 M' w'∧(∀ k,F1 k→F' k)∧(∀ k,F' k→E.F0 k ∨ (E.w0.heap.size≤k∧k < w'.heap.size) ∨ E.Q k)∧RRet F' E.w0 w' r v2) a'.defers .returning w':=by
    intro rs hrs r' hr2 hb2;obtain ⟨hor,hb2⟩:=qZ hb2;cases hb2;obtain ⟨vs,h1,h2⟩:=zVF hT hr' hrs;have hst:rs.all RV.still=true ∨ ∀ k,¬ E.W k:=by
     rcases Bool.or_eq_true _ _ ▸ hor with h | h
     ·exact .inr (hW h)
     ·exact .inl h
    rcases hQ with hQ | ⟨x,hrx,hxf⟩
    ·obtain ⟨F2,f1,f2,f3⟩:=jZV hr'.mem hQ h2 hr2 hst;exact qKK (zVA hres h1) ⟨Sx.valOf vs,F2,ρ',F',rfl,hr'.mem.grow,hr'.mem,f1,fun k hk=>(f2 k hk).imp id .inl,f3⟩ a'.defers fun d hd=>by rw [← hE]; exact hr'.defers d hd
    ·subst hrx;have f3:=(yXG hr'.mem h2 hr2).flat (F':=F') (w':=w') hxf;refine qKK (zVA hres h1) ⟨Sx.valOf vs,F',ρ',F',rfl,hr'.mem.grow,hr'.mem,fun k hk=>hk,fun k hk => ?_,f3⟩ a'.defers fun d hd=>by rw [← hE]; exact hr'.defers d hd
     rcases F_W hr'.mem hk with h | h | h
     ·exact .inl h
     ·exact .inr (.inl ⟨h,(hr'.mem.fz k hk).1⟩)
     ·exact .inr (.inr h)
   cases e with
   | exit id=>simp only [endK] at hk; cases hk
   | normal =>
    simp only [endK,vQQ] at hk;obtain ⟨rs,hrs,r',hr2,hb2⟩:=hk;exact key rs hrs r' hr2 hb2
   | ret =>
    simp only [endK,vQQ] at hk;obtain ⟨rs,hrs,r',hr2,hb2⟩:=hk;exact key rs hrs r' hr2 hb2
theorem RRet.pv {w0:World} {r:Ret} {x:PV} {v:Value} (h:RRet F w0 w r v) (hx:zKQ r=some x):∃ F2:Nat→Prop,(∀ k,F k→F2 k)∧(∀ k,F2 k→F k ∨ (w0.heap.size≤k∧k < w.heap.size))∧RP F2 w x v:=by
 cases r with
 | v y=>cases hx; exact ⟨F,fun _ h=>h,fun _ h=>.inl h,h⟩
 | ow e sz rows =>
  cases hx;obtain ⟨ad,c,vr,rfl,h0,hal,hrl,hone,hown,hb⟩:=h;refine ⟨fun k=>F k ∨ ad.map (·.block)=some k,fun k hk=>.inl hk,fun k hk => ?_,?_⟩
  ·rcases hk with hk | hk
   ·exact .inl hk
   ·exact .inr (hb k hk).2
  ·exact (jK (ρ:=fun i=>if i=0 then some (.reg ad c rows.len sz) else none) (id:=0) (e:=e) (sz:=sz) (F:=F) ⟨ad,c,vr,by simp,h0,hal,hrl,hone,hown⟩ (fun k hk=>.inl hk) (fun L b hL hbl=>by simp at hL; subst hL; exact .inr hbl) ad c rows.len sz (by simp)).1
 | pb cells=>cases hx
def yY (P:Program) (g:Nat) (ps:List PV) (r:Ret):Prop:=kH P g∧∀ (w:World) (F:Nat→Prop) (vals:List Value),(∀ k,F k→k < w.heap.size)→Al (RP F w) ps vals →
 Calls P g vals.toArray w (fun e w'=>∃ v F',e=.returned v∧Grow w w'∧(∀ k,F k→F' k)∧(∀ k,F' k→F k ∨ (w.heap.size≤k∧k < w'.heap.size))∧RRet F' w w' r v)
structure OrcOk (P:Program) (T:Tab) (orc:Orc):Prop where
 a:∀ g o,orc.a g=some o→∀ ps r,o ps=some r→yY P g ps r
 b:∀ g o,orc.b g=some o→∀ hs ps x ps',o hs ps=some (x,ps')→yHJ P g hs ps x ps' (T.gq g) (T.gk g)
theorem zUA {N f:Nat} {orc:Orc} {ps:List PV} {r:Ret} (hT:TabOk P T) (hm:P.follows .mixedOrders=true) (hA:SndA P (qYE orc (runF T orc N))) (hB:SndB P T (qQC T orc (runF T orc N)))
  (h:run T orc (N + 1) f ps=some r):yY P f ps r:=by
 simp only [run,vQQ,vQZ] at h;obtain ⟨⟨r',M'⟩,h,rfl⟩:=h;refine ⟨(qZD (E:=⟨default,fun _=>False,fun _=>False,Harm P,fun _=>False,fun _=>False⟩) (ρ:=fun _=>none) (F:=fun _=>False) (w:=default) (vals:=[]) hT hm rfl hA hB h).1,fun w F vals hF hal => ?_⟩;refine Calls.mono ((qZD (E:=⟨w,F,fun _=>False,Harm P,fun _=>False,fun _=>False⟩) (ρ:=fun _=>none) (F:=F) (w:=w) (vals:=vals) hT hm rfl hA hB h).2 (Al.map_left hal) ⟨(fun id e hl=>by cases hl),(fun id L hL=>by cases hL),(fun id e hl=>by cases hl),(fun id L hL=>by cases hL),(fun id id' L L' b h=>by cases h),(fun id L b h=>by cases h),fun k hk=>⟨hF k hk,.inl hk⟩,fun k hk=>hk,GrowB.refl _ _,fun b hb=>hb.elim,fun b hb=>hb.elim⟩ (fun _ k hk=>hk) (.inl fun _ h=>h)) ?_
 rintro e w' ⟨v,F',ρ',F1,rfl,g,hmem,f1,f2,hr⟩
 exact ⟨v,F',rfl,⟨g.os,g.tape,g.output,g.size,fun k hk=>g.block k hk (fun h=>h)⟩,fun k hk=>f1 k (hmem.fz0 k hk),fun k hk=>(f2 k hk).imp id fun h=>h.resolve_right fun h=>h,hr⟩
theorem yKJ {N f:Nat} {orc:Orc} {hs:List HV} {ps ps':List PV} {x:PV} (hT:TabOk P T) (hm:P.follows .mixedOrders=true) (hA:SndA P (qYE orc (runF T orc N))) (hB:SndB P T (qQC T orc (runF T orc N)))
  (hgq:T.gq f=false) (h:runB T orc (N + 1) f hs ps=some (x,ps')):yZG P f hs ps x ps':=by
 simp only [runB,hgq,zVQ,vYZ,vQQ,vQZ,vQY] at h;obtain ⟨⟨r',M'⟩,h,ps2,hps,x2,hx2,x3,rfl,rfl,rfl⟩:=h;have em:memB false ps=[(pid,.blk (ps.map PV.toH))]:=rfl;rw [em] at h;refine ⟨(qZD (E:=⟨default,fun _=>False,fun _=>False,Harm P,fun _=>False,fun _=>False⟩) (ρ:=fun _=>none) (F:=fun _=>False) (w:=default) (vals:=[]) hT hm rfl hA hB h).1,fun w F b vals us ty hF hFb hb hheap hpu hone hpid hal => ?_⟩
 let ρ:Own:=fun i=>if i=pid then some (.blk b) else none
 have hρ:ρ pid=some (.blk b):=if_pos rfl;have inv:∀ id L,ρ id=some L→id=pid∧L=.blk b:=fun id L hL=>by
  by_cases e:id=pid
  ·subst e; rw [hρ] at hL; cases hL; exact ⟨rfl,rfl⟩
  ·simp only [ρ,if_neg e] at hL; cases hL
 refine Calls.mono ((qZD (E:=⟨w,F,(· = b),Harm P,fun _=>False,fun _=>False⟩) (ρ:=ρ) (F:=F) (w:=w) (vals:=vals) hT hm rfl hA hB h).2 ⟨hal.1,fun i y v hy hv => ?_⟩ ⟨fun id e hl => ?_,fun id L hL _ => ?_,fun id e hl => ?_,fun id L hL hi => ?_,fun id id' L L' b h1 h2 _ _ => ?_,fun id L b' hL hb' => ?_,fun k hk=>⟨hF k hk,.inl hk⟩,fun k hk=>hk,GrowB.refl _ _,fun b' hb' => ?_,fun b' hb'=>hb'.elim⟩ (fun h=>by cases h) (.inl fun _ h=>h)) ?_
 ·have:=hal.2 i y v hy hv
  cases y with
  | v p=>exact this
  | p id off =>
   have hid:=hpid _ (vQW hy) id off rfl;subst hid;have hv':v=.pointer (some ⟨b,off,none⟩):=this;subst hv';exact ⟨b,hρ,rfl⟩
  | _=>exact this.elim
 ·by_cases e1:pid=id
  ·subst e1;simp only [qX,Nat.beq_refl,vYQ,vQZ] at hl;subst hl;exact ⟨b,us,ty,hρ,hheap,Al.map_left (hpu.imp fun _ _ _ h=>qGU h),hone⟩
  ·simp only [qX,jY e1,vYZ] at hl; cases hl
 ·obtain ⟨rfl,rfl⟩:=inv id L hL;exact ⟨.blk (ps.map PV.toH),by simp only [qX,Nat.beq_refl,vYQ]⟩
 ·by_cases e1:pid=id
  ·rw [← e1]; decide
  ·simp only [qX,jY e1,vYZ] at hl; cases hl
 ·obtain ⟨_,rfl⟩:=inv id L hL; cases hi
 ·rw [(inv id L h1).1,(inv id' L' h2).1]
 ·obtain ⟨rfl,rfl⟩:=inv id L hL;cases hb';exact ⟨hFb,hb,.inr rfl⟩
 ·have:b'=b:=hb'
  subst this; exact .inl hρ
 ·rintro e w' ⟨v,F',ρ',F1,rfl,g,hmem,f1,f2,hr⟩
  obtain ⟨F2,f3,f4,hx⟩:=hr.pv hx2;unfold qZX at hps;split at hps
  ·rename_i hc hl;rw [vYZ] at hps;obtain ⟨b2,us',ty',hρ2,hheap',hal',hone'⟩:=hmem.ent pid _ hl
   have:=(hmem.pin b rfl).resolve_right fun h=>h
   rw [hρ2] at this;cases this;have h1:=zK hps;have hbl:∀ id L k,ρ' id=some L→(∃ a c n sz,L=.reg a c n sz)→L.bl=some k→¬ F1 k∧w.heap.size≤k∧k < w'.heap.size:=fun id L k hL hreg hk=>by
    have ho:=hmem.off id L k hL hk;refine ⟨ho.1,?_,ho.2.1⟩;rcases ho.2.2 with h | h
    ·exact h
    ·have hp:=hmem.apart id pid L _ k hL hρ2 hk (by have hkb:k=b:=h; rw [hkb]; rfl);subst hp;rw [hρ2] at hL;obtain ⟨a,c,n,sz,rfl⟩:=hreg;cases hL
   let F3:Nat→Prop:=fun k=>F2 k ∨ ∃ id L,ρ' id=some L∧(∃ a c n sz,L=.reg a c n sz)∧L.bl=some k
   refine ⟨v,F3,us',ty',rfl,g,fun k hk=>.inl (f3 k (f1 k (hmem.fz0 k hk))),fun k hk => ?_,hx.mono fun k hk=>⟨.inl hk,rfl⟩,hheap',⟨by rw [← h1.1,hal'.1],fun i p u hp hu => ?_⟩,hone'⟩
   ·rcases hk with hk | ⟨id,L,hL,hreg,hk⟩
    ·rcases f4 k hk with h | h
     ·exact (f2 k h).imp id fun h=>h.resolve_right fun h=>h
     ·exact .inr h
    ·exact .inr (hbl id L k hL hreg hk).2
   ·have hil:=(List.getElem?_eq_some_iff.1 hp).1;have hl2:i < hc.length:=by rw [h1.1]; exact hil
    have hpv:=h1.2 i _ p (vQK hl2) hp;have hrh:=hal'.2 i _ u (vQK hl2) hu;generalize hc[i]=y at hpv hrh;unfold HV.pz at hpv;split at hpv
    ·cases hpv; exact RP.mono (fun k hk=>⟨.inl (f3 k (f1 k hk)),rfl⟩) hrh
    ·cases hpv;have e:u=.slice none 0 0:=hrh;subst e;exact .zs
    ·rename_i id;split at hpv
     ·rename_i e sz rows hl3;cases hpv;obtain ⟨a,c,k,sz',hr1,rfl⟩:=hrh;exact (jK (hmem.ent id _ hl3) (F':=F3) (fun k hk=>.inl (f3 k (f1 k hk))) (fun L b hL hb=>.inr ⟨id,L,hL,⟨_,_,_,_,by rw [hr1] at hL; cases hL; rfl⟩,hb⟩) a c k sz' hr1).1
     ·cases hpv
    ·cases hpv
  ·cases hps
theorem yKZ {N f:Nat} {orc:Orc} {hs:List HV} {ps ps':List PV} {x:PV} (hT:TabOk P T) (hm:P.follows .mixedOrders=true) (hA:SndA P (qYE orc (runF T orc N))) (hB:SndB P T (qQC T orc (runF T orc N)))
  (hgq:T.gq f=true) (h:runB T orc (N + 1) f hs ps=some (x,ps')):zVX P f hs ps x ps':=by
 simp only [runB,hgq,zVQ,vYQ,vQQ,vQZ,vQY] at h;obtain ⟨⟨r',M'⟩,h,ps2,hps,x2,hx2,x3,hfx,rfl,rfl⟩:=h;obtain ⟨hflat,hfx⟩:=qZ hfx;simp only [vQZ] at hfx;subst hfx;have hr':r'=.v x2:=by
  cases r' with
  | v y=>cases hx2; rfl
  | ow e sz rows=>cases hx2; cases rows <;> simp [Rows.pv,PV.flat,PV.flat2,PV.flat1] at hflat
  | pb cells=>cases hx2
 subst hr';refine ⟨(qZD (E:=⟨default,fun _=>False,fun _=>False,Harm P,fun _=>False,fun _=>False⟩) (ρ:=fun _=>none) (F:=fun _=>False) (w:=default) (vals:=[]) hT hm rfl hA hB h).1,fun w F b A vals us ty hF hFb hb hheap ho1 hcells hone hAoff hpid hal => ?_⟩
 -- the growing slice that came in
 obtain ⟨L1,ent1,hL1,hmem1⟩:∃ (L1:Option Loc) (en:List (Nat × Ent)),(∀ L,L1=some L→∃ c k s,L=.reg A c k s)∧memB true ps=(pid,.blk (ps.map (PV.toQ (pid + 1)))) :: en ∧
   ((qJZ ps=none∧en=[]∧L1=none) ∨ ∃ e sz y rows c vr,qJZ ps=some (e,sz,y)∧y.rowsO=some rows∧en=[(pid + 1,.reg e sz rows)]∧L1=some (.reg A c rows.len sz)∧0 < sz∧Al (Al (RP F w)) rows.L vr∧(∀ r ∈ rows.L,r.length=sz)∧(∀ y ∈ vr,∀ u ∈ y,u.oneCell'=true)∧w.ownsRow 0 e sz (.slice A rows.len c) rows.len vr.flatten ∧
    ∀ (i e2 sz2:Nat) (x2:PV) (u:Value),ps[i]? = some (.gs e2 sz2 x2)→us[i]? = some u→u=.slice A rows.len c):=by
  cases hfg:qJZ ps with
  | none=>exact ⟨none,[],fun L hL=>(by cases hL),by simp only [memB,hfg,gEnt,vYQ],.inl ⟨rfl,rfl,rfl⟩⟩
  | some q =>
   obtain ⟨e,sz,y⟩:=q;obtain ⟨i,hi⟩:=zYH hfg;obtain ⟨u,hu2,hg⟩:=hcells.get hi;obtain ⟨rows,c,vr,q1,q2,q3,q4,q5,q6,q7⟩:=hg;refine ⟨some (.reg A c rows.len sz),[(pid + 1,.reg e sz rows)],fun L hL=>(by cases hL; exact ⟨_,_,_,rfl⟩),by simp only [memB,hfg,gEnt,q1,vZV,vYQ],.inr ⟨e,sz,y,rows,c,vr,rfl,q1,rfl,rfl,q3,q4,q5,q6,q7,fun i2 e2 sz2 x3 u2 hi2 hu3 => ?_⟩⟩;by_cases e3:i2=i
   ·subst e3; rw [hu2] at hu3; cases hu3; exact q2
   ·exact (zVB ho1 e3 hi2 hi).elim
 obtain ⟨hmem1,hcase⟩:=hmem1;rw [hmem1] at h;have hpp:pid + 1 ≠ pid:=by decide
 let ρ:Own:=fun i=>if i=pid then some (.blk b) else if i=pid + 1 then L1 else none
 have hρ:ρ pid=some (.blk b):=if_pos rfl;have hρ1:ρ (pid + 1)=L1:=by show (if pid + 1=pid then _ else if pid + 1=pid + 1 then L1 else none)=L1; rw [if_neg hpp,if_pos rfl]
 have inv:∀ id L,ρ id=some L→(id=pid∧L=.blk b) ∨ (id=pid + 1∧L1=some L):=fun id L hL=>by
  by_cases e:id=pid
  ·subst e; rw [hρ] at hL; cases hL; exact .inl ⟨rfl,rfl⟩
  ·by_cases e2:id=pid + 1
   ·subst e2; rw [hρ1] at hL; exact .inr ⟨rfl,hL⟩
   ·simp only [ρ,if_neg e,if_neg e2] at hL; cases hL
 have look:∀ id e,qX ((pid,Ent.blk (ps.map (PV.toQ (pid + 1)))) :: ent1) id=some e→(id=pid∧e=.blk (ps.map (PV.toQ (pid + 1)))) ∨ (id=pid + 1∧ent1=[(pid + 1,e)]):=fun id e hl=>by
  by_cases e1:pid=id
  ·subst e1;simp only [qX,Nat.beq_refl,vYQ,vQZ] at hl;exact .inl ⟨rfl,hl.symm⟩
  ·simp only [qX,jY e1,vYZ] at hl;rcases hcase with ⟨_,rfl,_⟩ | ⟨e',sz,y,rows,c,vr,_,_,rfl,_⟩
   ·cases hl
   ·by_cases e2:pid + 1=id
    ·subst e2;simp only [qX,Nat.beq_refl,vYQ,vQZ] at hl;exact .inr ⟨rfl,by rw [hl]⟩
    ·simp only [qX,jY e2,vYZ] at hl; cases hl
 refine Calls.mono ((qZD (E:=⟨w,F,fun k=>k=b ∨ A.map (·.block)=some k,Harm P,fun k=>A.map (·.block)=some k,fun _=>False⟩) (ρ:=ρ) (F:=F) (w:=w) (vals:=vals) hT hm rfl hA hB h).2 ⟨hal.1,fun i y v hy hv => ?_⟩ ⟨fun id e hl => ?_,fun id L hL _ => ?_,fun id e hl => ?_,fun id L hL hi => ?_,fun id id' L L' b' h1 h2 hb1 hb2 => ?_,fun id L b' hL hb' => ?_,fun k hk=>⟨hF k hk,.inl hk⟩,fun k hk=>hk,GrowB.refl _ _,fun b' hb' => ?_,fun b' hb'=>hb'.elim⟩ (fun h=>by cases h) (.inr ⟨_,rfl,hflat⟩)) ?_
 ·have:=hal.2 i y v hy hv
  cases y with
  | v p=>exact this
  | p id off =>
   have hid:=hpid _ (vQW hy) id off rfl;subst hid;have hv':v=.pointer (some ⟨b,off,none⟩):=this;subst hv';exact ⟨b,hρ,rfl⟩
  | _=>exact this.elim
 ·rcases look id e hl with ⟨rfl,rfl⟩ | ⟨rfl,he⟩
  ·refine ⟨b,us,ty,hρ,hheap,Al.map_left ⟨hcells.1,fun i p u hi hu3=>yZC (hcells.2 i p u hi hu3) fun e sz x2 rows c hpe hrows huv => ?_⟩,hone⟩;subst hpe;have hfg:=zKC ho1 hi;rcases hcase with ⟨h1,_⟩ | ⟨e3,sz3,x3,rows3,c3,vr,hf3,hr3,_,hL,_,_,_,_,_,hall⟩
   ·rw [hfg] at h1; cases h1
   ·rw [hfg] at hf3;cases hf3;rw [hrows] at hr3;cases hr3
    have:=hall i _ _ _ u hi hu3
    rw [huv] at this;simp only [Value.slice.injEq,true_and] at this;exact ⟨sz,by rw [hρ1,hL,this]⟩
  ·rcases hcase with ⟨_,h1,_⟩ | ⟨e3,sz3,x3,rows3,c3,vr,_,_,h1,hL,q3,q4,q5,q6,q7,_⟩
   ·rw [h1] at he; cases he
   ·rw [h1] at he;cases he;exact ⟨A,c3,vr,by rw [hρ1]; exact hL,q3,q4,q5,q6,q7⟩
 ·rcases inv id L hL with ⟨rfl,_⟩ | ⟨rfl,h1⟩
  ·exact ⟨.blk (ps.map (PV.toQ (pid + 1))),by simp only [qX,Nat.beq_refl,vYQ]⟩
  ·rcases hcase with ⟨_,_,h2⟩ | ⟨e3,sz3,x3,rows3,c3,vr,_,_,h2,_⟩
   ·rw [h2] at h1; cases h1
   ·rw [h2]; exact ⟨.reg e3 sz3 rows3,rfl⟩
 ·rcases look id e hl with ⟨rfl,_⟩ | ⟨rfl,_⟩ <;> decide
 ·rcases inv id L hL with ⟨_,rfl⟩ | ⟨_,h1⟩
  ·cases hi
  ·obtain ⟨_,_,_,rfl⟩:=hL1 L h1; cases hi
 ·have cross:∀ L,L1=some L→L.bl=some b→False:=fun L h3 h4=>by
   obtain ⟨_,_,_,rfl⟩:=hL1 L h3;exact (hAoff b h4).2.2 rfl
  rcases inv id L h1 with ⟨rfl,rfl⟩ | ⟨rfl,h3⟩ <;> rcases inv id' L' h2 with ⟨rfl,rfl⟩ | ⟨rfl,h4⟩
  ·rfl
  ·cases hb1; exact (cross L' h4 hb2).elim
  ·cases hb2; exact (cross L h3 hb1).elim
  ·rfl
 ·rcases inv id L hL with ⟨rfl,rfl⟩ | ⟨rfl,h3⟩
  ·cases hb'; exact ⟨hFb,hb,.inr (.inl rfl)⟩
  ·obtain ⟨_,_,_,rfl⟩:=hL1 L h3
   have:=hAoff b' hb'
   exact ⟨this.1,this.2.1,.inr (.inr hb')⟩
 ·rcases hb' with hb' | hb'
  ·exact .inl (by rw [hb']; exact hρ)
  ·exact .inr hb'
 ·rintro e w' ⟨v,F',ρ',F1,rfl,g,hmem,f1,f2,hr⟩
  have hbnA:¬ A.map (·.block)=some b:=fun h=>(hAoff b h).2.2 rfl
  unfold qZX at hps;split at hps
  ·rename_i hc hl;rw [vYQ] at hps;simp only [vQQ] at hps;obtain ⟨ps3,hps,ho3⟩:=hps;obtain ⟨ho3,hq⟩:=qZ ho3;cases hq;obtain ⟨b2,us',ty',hρ2,hheap',hal',hone'⟩:=hmem.ent pid _ hl;have hb2:b2=b:=by
    have h3:=(hmem.pin b (.inl rfl)).resolve_right hbnA;rw [hρ2] at h3;cases h3; rfl
   subst hb2;have h1:=zK hps
   -- what a cell is
   have cell:∀ (i:Nat) p u,ps2[i]? = some p→us'[i]? = some u→(RP F1 w' p u) ∨ ∃ id e sz rows a c,p=.gs e sz rows.pv∧qX M' id=some (.reg e sz rows)∧ρ' id=some (.reg a c rows.len sz)∧u=.slice a rows.len c:=fun i p u hp hu=>by
    have hil:=(List.getElem?_eq_some_iff.1 hp).1;have hl2:i < hc.length:=by rw [h1.1]; exact hil
    have hpv:=h1.2 i _ p (vQK hl2) hp;have hrh:=hal'.2 i _ u (vQK hl2) hu;generalize hc[i]=y at hpv hrh;unfold HV.pq at hpv;split at hpv
    ·cases hpv; exact .inl hrh
    ·cases hpv;have e:u=.slice none 0 0:=hrh;subst e;exact .inl .zs
    ·rename_i id;split at hpv
     ·rename_i e sz rows hl3;cases hpv;obtain ⟨a,c,k,sz',hr1,rfl⟩:=hrh;obtain ⟨a2,c2,vr,hr2,_⟩:=hmem.ent id _ hl3;have hr3:=hr1;rw [hr1] at hr2;simp only [vQZ,Loc.reg.injEq] at hr2;obtain ⟨_,_,rfl,rfl⟩:=hr2;exact .inr ⟨id,e,_,rows,a,c,rfl,hl3,hr1,rfl⟩
     ·cases hpv
    ·cases hpv
   obtain ⟨A',hA'⟩:∃ A':Option Addr,(∀ (i:Nat) p u,ps2[i]? = some p→us'[i]? = some u→GsR F1 w' A' p u)∧∀ k,A'.map (·.block)=some k→¬ F1 k∧k < w'.heap.size∧k ≠ b2∧(w.heap.size≤k ∨ A.map (·.block)=some k):=by
    cases hfg:qJZ ps2 with
    | none =>
     refine ⟨none,fun i p u hp hu => ?_,fun k hk=>by cases hk⟩;rcases cell i p u hp hu with h | ⟨id,e,sz,rows,a,c,rfl,_⟩
     ·exact yJI h
     ·rw [zKC ho3 hp] at hfg; cases hfg
    | some q =>
     obtain ⟨e,sz,y⟩:=q;obtain ⟨i0,hi0⟩:=zYH hfg;obtain ⟨u0,hu0,_⟩:∃ u,us'[i0]? = some u∧True:=by
      have hil:=(List.getElem?_eq_some_iff.1 hi0).1
      have:i0 < us'.length:=by rw [← hal'.1,h1.1]; exact hil
      exact ⟨_,vQK this,trivial⟩
     rcases cell i0 _ u0 hi0 hu0 with h | ⟨id,e',sz',rows,a,c,hpe,hl3,hr1,rfl⟩
     ·cases h
     ·simp only [PV.gs.injEq] at hpe;obtain ⟨rfl,rfl,rfl⟩:=hpe;obtain ⟨a2,c2,vr,hr2,q3,q4,q5,q6,q7⟩:=hmem.ent id _ hl3;rw [hr1] at hr2;simp only [vQZ,Loc.reg.injEq] at hr2;obtain ⟨rfl,rfl,_,_⟩:=hr2;refine ⟨a,fun i p u hp hu => ?_,fun k hk => ?_⟩
      ·by_cases ei:i=i0
       ·subst ei;rw [hi0] at hp; rw [hu0] at hu;cases hp; cases hu;exact ⟨rows,c,vr,by cases rows <;> rfl,rfl,q3,q4,q5,q6,q7⟩
       ·rcases cell i p u hp hu with h | ⟨_,e2,sz2,rows2,_,_,rfl,_⟩
        ·exact yJI h
        ·exact (zVB ho3 ei hp hi0).elim
      ·have ho:=hmem.off id _ k hr1 hk;have hkb:k ≠ b2:=fun e=>by
        subst e
        have:=hmem.apart id pid _ _ k hr1 hρ2 hk rfl
        subst this;rw [hρ2] at hr1; cases hr1
       refine ⟨ho.1,ho.2.1,hkb,?_⟩;rcases ho.2.2 with h | h | h
       ·exact .inl h
       ·exact absurd h hkb
       ·exact .inr h
   refine ⟨v,F1,us',ty',A',rfl,g,fun k hk=>hmem.fz0 k hk,fun k hk => ?_,RP.flat hr hflat,hheap',⟨by rw [← h1.1,hal'.1],hA'.1⟩,hone',hA'.2⟩;rcases F_W hmem hk with h | h | h
   ·exact .inl h
   ·exact .inr (.inl ⟨h,(hmem.fz k hk).1⟩)
   ·exact .inr (.inr h)
  ·cases hps
theorem yKY {N f:Nat} {orc:Orc} {hs:List HV} {ps ps':List PV} {x:PV} (hT:TabOk P T) (hm:P.follows .mixedOrders=true) (hA:SndA P (qYE orc (runF T orc N))) (hB:SndB P T (qQC T orc (runF T orc N)))
  (h:runW T orc (N + 1) f hs ps=some (x,ps')):zVW P f hs ps x ps':=by
 simp only [runW,vQQ] at h;obtain ⟨M,hM,⟨r',M'⟩,h,ps2,hps,x2,hx2,hfx⟩:=h;obtain ⟨hflat,hfx⟩:=qZ hfx;simp only [vQZ,vQY] at hfx;obtain ⟨rfl,rfl⟩:=hfx;have hr':r'=.v x2:=by
  cases r' with
  | v y=>cases hx2; rfl
  | ow e sz rows=>cases hx2; cases rows <;> simp [Rows.pv,PV.flat,PV.flat2,PV.flat1] at hflat
  | pb cells=>cases hx2
 subst hr';unfold memK at hM;split at hM
 ·rename_i e0 sz0 y0;simp only [vQQ,vQZ] at hM;obtain ⟨rows0,hr0,rfl⟩:=hM;refine ⟨(qZD (E:=⟨default,fun _=>False,fun _=>False,Harm P,fun _=>False,fun _=>False⟩) (ρ:=fun _=>none) (F:=fun _=>False) (w:=default) (vals:=[]) hT hm rfl hA hB h).1,fun w F b A vals us ty hF hFb hb hheap ho1 hcells hone hAoff hpid hal => ?_⟩;obtain ⟨u0,rfl⟩:∃ u0,us=[u0]:=by
   match us,hcells.1 with
   | [u0],_=>exact ⟨u0,rfl⟩
  obtain ⟨rowsx,c,vr,q1,q2,q3,q4,q5,q6,q7⟩:GsR F w A (.gs e0 sz0 y0) u0:=hcells.2 0 _ u0 rfl rfl;rw [hr0] at q1;cases q1;have hpp:pid + 1 ≠ pid2:=by decide
  let ρ:Own:=fun i=>if i=pid2 then some (.blk b) else if i=pid + 1 then some (.reg A c rows0.len sz0) else none
  have hρ:ρ pid2=some (.blk b):=if_pos rfl;have hρ1:ρ (pid + 1)=some (.reg A c rows0.len sz0):=by show (if pid + 1=pid2 then _ else if pid + 1=pid + 1 then some (Loc.reg A c rows0.len sz0) else none)=_; rw [if_neg hpp,if_pos rfl]
  have inv:∀ id L,ρ id=some L→(id=pid2∧L=.blk b) ∨ (id=pid + 1∧L=.reg A c rows0.len sz0):=fun id L hL=>by
   by_cases e:id=pid2
   ·subst e; rw [hρ] at hL; cases hL; exact .inl ⟨rfl,rfl⟩
   ·by_cases e2:id=pid + 1
    ·subst e2; rw [hρ1] at hL; cases hL; exact .inr ⟨rfl,rfl⟩
    ·simp only [ρ,if_neg e,if_neg e2] at hL; cases hL
  have look:∀ id e,qX [(pid2,Ent.blk [.o (pid + 1)]),(pid + 1,.reg e0 sz0 rows0)] id=some e→(id=pid2∧e=.blk [.o (pid + 1)]) ∨ (id=pid + 1∧e=.reg e0 sz0 rows0):=fun id e hl=>by
   by_cases e1:pid2=id
   ·subst e1;simp only [qX,Nat.beq_refl,vYQ,vQZ] at hl;exact .inl ⟨rfl,hl.symm⟩
   ·simp only [qX,jY e1,vYZ] at hl;by_cases e2:pid + 1=id
    ·subst e2;simp only [Nat.beq_refl,vYQ,vQZ] at hl;exact .inr ⟨rfl,hl.symm⟩
    ·simp only [jY e2,vYZ] at hl; cases hl
  refine Calls.mono ((qZD (E:=⟨w,F,fun k=>k=b ∨ A.map (·.block)=some k,Harm P,fun k=>k=b ∨ A.map (·.block)=some k,(· = b)⟩) (ρ:=ρ) (F:=F) (w:=w) (vals:=vals) hT hm rfl hA hB h).2 ⟨by rw [List.length_map]; exact hal.1,fun i y v hy hv => ?_⟩ ⟨fun id e hl => ?_,fun id L hL _ => ?_,fun id e hl => ?_,fun id L hL hi => ?_,fun id id' L L' b' h1 h2 hb1 hb2 => ?_,fun id L b' hL hb' => ?_,fun k hk=>⟨hF k hk,.inl hk⟩,fun k hk=>hk,GrowB.refl _ _,fun b' hb'=>.inr hb',fun b' hb' => ?_⟩ (fun h=>by cases h) (.inr ⟨_,rfl,hflat⟩)) ?_
  ·rw [vQH,vZK] at hy;obtain ⟨y1,hy1,rfl⟩:=hy
   have:=hal.2 i _ v hy1 hv
   cases y1 with
   | v p=>exact this
   | p id off =>
    have hv':v=.pointer (some ⟨b,off,none⟩):=this;subst hv';exact ⟨b,hρ,rfl⟩
   | _=>exact this.elim
  ·rcases look id e hl with ⟨rfl,rfl⟩ | ⟨rfl,rfl⟩
   ·exact ⟨b,[u0],ty,hρ,hheap,⟨rfl,fun i p u hi hu=>by
     cases i with
     | zero=>cases hi; cases hu; exact ⟨A,c,_,_,hρ1,q2⟩
     | succ i=>simp at hi⟩,hone⟩
   ·exact ⟨A,c,vr,hρ1,q3,q4,q5,q6,q7⟩
  ·rcases inv id L hL with ⟨rfl,_⟩ | ⟨rfl,_⟩
   ·exact ⟨.blk [.o (pid + 1)],by simp only [qX,Nat.beq_refl,vYQ]⟩
   ·exact ⟨.reg e0 sz0 rows0,rfl⟩
  ·rcases look id e hl with ⟨rfl,_⟩ | ⟨rfl,_⟩ <;> decide
  ·rcases inv id L hL with ⟨_,rfl⟩ | ⟨_,rfl⟩ <;> cases hi
  ·have cross:(Loc.reg A c rows0.len sz0).bl=some b→False:=fun h4=>(hAoff b h4).2.2 rfl
   rcases inv id L h1 with ⟨rfl,rfl⟩ | ⟨rfl,rfl⟩ <;> rcases inv id' L' h2 with ⟨rfl,rfl⟩ | ⟨rfl,rfl⟩
   ·rfl
   ·cases hb1; exact (cross hb2).elim
   ·cases hb2; exact (cross hb1).elim
   ·rfl
  ·rcases inv id L hL with ⟨rfl,rfl⟩ | ⟨rfl,rfl⟩
   ·cases hb'; exact ⟨hFb,hb,.inr (.inl rfl)⟩
   ·have:=hAoff b' hb'
    exact ⟨this.1,this.2.1,.inr (.inr hb')⟩
  ·have hb2:b'=b:=hb';subst hb2;exact ⟨hρ,rfl⟩
  ·rintro e w' ⟨v,F',ρ',F1,rfl,g,hmem,f1,f2,hr⟩
   unfold jZD at hps;split at hps
   ·rename_i id hl;split at hps
    ·rename_i e sz rows hl3;cases hps;obtain ⟨hρ2,hb2⟩:=hmem.rd b rfl;obtain ⟨b2,us',ty',hρ3,hheap',hal',hone'⟩:=hmem.ent pid2 _ hl;rw [hρ2] at hρ3;cases hρ3;have hb2:w'.heap[b]? = w.heap[b]?:=hb2;rw [hb2,hheap] at hheap';simp only [vQZ,Obj.cells.injEq] at hheap';have hus:us'=[u0]:=by have:=congrArg Array.toList hheap'.1; simpa using this.symm
     subst hus;obtain ⟨a,c',k,sz',hr1,hu⟩:=hal'.2 0 _ u0 rfl rfl;rw [q2] at hu;simp only [Value.slice.injEq] at hu;obtain ⟨rfl,rfl,rfl⟩:=hu;obtain ⟨a2,c2,vr2,hr2,p3,p4,p5,p6,p7⟩:=hmem.ent id _ hl3;rw [hr1] at hr2;simp only [vQZ,Loc.reg.injEq] at hr2;obtain ⟨rfl,rfl,e5,rfl⟩:=hr2;refine ⟨v,F1,rfl,⟨g.os,g.tape,g.output,g.size,fun k hk hW => ?_⟩,fun k hk=>hmem.fz0 k hk,fun k hk => ?_,RP.flat hr hflat,⟨rfl,fun i p u hi hu => ?_⟩⟩
     ·by_cases e6:k=b
      ·subst e6; exact hb2
      ·exact g.block k hk (fun h=>h.elim e6 hW)
     ·rcases F_W hmem hk with h1 | h1 | h1
      ·exact .inl h1
      ·exact .inr ⟨h1,(hmem.fz k hk).1⟩
      ·rcases h1 with h1 | h1
       ·subst h1; exact absurd hk (hmem.off pid2 _ _ hρ2 rfl).1
       ·exact absurd hk (hmem.off id _ k hr1 h1).1
     ·cases i with
      | zero =>
       cases hi;cases hu;exact ⟨rows,c,vr2,by cases rows <;> rfl,by rw [q2,e5],p3,p4,p5,p6,p7⟩
      | succ i=>simp at hi
    ·cases hps
   ·cases hps
 ·cases hM
theorem zQC {N f:Nat} {orc:Orc} {hs:List HV} {ps ps':List PV} {x:PV} (hT:TabOk P T) (hm:P.follows .mixedOrders=true) (hA:SndA P (qYE orc (runF T orc N))) (hB:SndB P T (qQC T orc (runF T orc N)))
  (h:runB T orc (N + 1) f hs ps=some (x,ps')):yUC P f hs ps x ps' (T.gq f):=by
 cases hq:T.gq f with
 | false=>exact yKJ hT hm hA hB hq h
 | true=>exact yKZ hT hm hA hB hq h
theorem qJD {orc:Orc} (hT:TabOk P T) (hm:P.follows .mixedOrders=true) (hO:OrcOk P T orc):∀ N,SndA P (qYE orc (runF T orc N))∧SndB P T (qQC T orc (runF T orc N))
 | 0=>by
  refine ⟨fun g ps r h => ?_,fun g hs ps x ps' h => ?_⟩
  ·unfold qYE at h;split at h
   ·rename_i o ho; exact hO.a g o ho ps r h
   ·cases h
  ·unfold qQC at h;split at h
   ·rename_i o ho; exact hO.b g o ho hs ps x ps' h
   ·cases hgk:T.gk g <;> rw [hgk] at h <;> cases h
 | N + 1=>by
  obtain ⟨hA,hB⟩:=qJD hT hm hO N;refine ⟨fun g ps r h => ?_,fun g hs ps x ps' h => ?_⟩
  ·unfold qYE at h;split at h
   ·rename_i o ho; exact hO.a g o ho ps r h
   ·exact zUA hT hm hA hB h
  ·unfold qQC at h;split at h
   ·rename_i o ho; exact hO.b g o ho hs ps x ps' h
   ·cases hgk:T.gk g with
    | true=>rw [hgk] at h; cases h
    | false=>rw [hgk,vYZ] at h; exact zQC hT hm hA hB h
theorem qZK {orc:Orc} {N f:Nat} {ps:List PV} {r:Ret} (hT:TabOk P T) (hm:P.follows .mixedOrders=true) (hO:OrcOk P T orc) (h:run T orc N f ps=some r):yY P f ps r:=by
 cases N with
 | zero=>cases h
 | succ N=>exact zUA hT hm (qJD hT hm hO N).1 (qJD hT hm hO N).2 h
theorem zHD {orc:Orc} {N f:Nat} {hs:List HV} {ps ps':List PV} {x:PV} (hT:TabOk P T) (hm:P.follows .mixedOrders=true) (hO:OrcOk P T orc) (h:runB T orc N f hs ps=some (x,ps')):yUC P f hs ps x ps' (T.gq f):=by
 cases N with
 | zero=>cases h
 | succ N=>exact zQC hT hm (qJD hT hm hO N).1 (qJD hT hm hO N).2 h
theorem zHA {orc:Orc} {N f:Nat} {hs:List HV} {ps ps':List PV} {x:PV} (hT:TabOk P T) (hm:P.follows .mixedOrders=true) (hO:OrcOk P T orc) (h:runW T orc N f hs ps=some (x,ps')):zVW P f hs ps x ps':=by
 cases N with
 | zero =>
  simp only [runW,vQQ] at h;obtain ⟨M,_,r,h,_⟩:=h;cases h
 | succ N=>exact yKY hT hm (qJD hT hm hO N).1 (qJD hT hm hO N).2 h
theorem qVX:OrcOk P T Orc.none:=⟨(fun g o h=>by cases h),(fun g o h=>by cases h)⟩
end
end Go.Rx
namespace Go.Rx
open Go.RowKit Go.Sx
def asc {α:Type}:List (Nat × α)→Nat→Option α
 | [],_=>none
 | (k,x) :: l,i=>bif Nat.beq k i then some x else asc l i
theorem uX {α:Type} {l:List (Nat × α)} {i:Nat} {x:α} (h:asc l i=some x):(i,x) ∈ l:=by
 induction l with
 | nil=>cases h
 | cons y l ih =>
  obtain ⟨k,z⟩:=y;simp only [asc] at h;cases hc:Nat.beq k i with
  | true=>rw [hc] at h; cases h; rw [← vQU hc]; exact vQG
  | false=>rw [hc] at h; exact vQV _ (ih h)
def inL:List Nat→Nat→Bool
 | [],_=>false
 | k :: l,i=>bif Nat.beq k i then true else inL l i
theorem zWF {l:List Nat} {i:Nat} (h:inL l i=true):i ∈ l:=by
 induction l with
 | nil=>cases h
 | cons k l ih =>
  simp only [inL] at h;cases hc:Nat.beq k i with
  | true=>rw [← vQU hc]; exact vQG
  | false=>rw [hc] at h; exact vQV _ (ih h)
structure Tabs where
 sz:List (Nat × (Bool × Nat))
 zr:List (Nat × Value)
 fd:List (Nat × List Nat)
 fx:List (Nat × List (Nat × Bool × Nat))
 ar:List (Nat × (Nat × Nat × Bool))
 sl:List (Nat × (Nat × Nat × Nat))
 ly:List (Nat × List (Nat × Nat))
 ik:List (Nat × IntKind)
 str:List Nat
 bo:List Nat
 eq:List (Nat × List Kd)
 fn:List (Nat × Func)
 hint:List (Nat × List (Nat × Hint))
 rw:List Nat
 ow:List (Nat × List Nat)
 dd:List Nat
 ff:List Nat:=[]
 big:List Nat:=[]
 zf:List Nat:=[]
 ag:List Nat:=[]
 bf:List Nat:=[]
 sf:List Nat:=[]
 nf:List Nat:=[]
 gq:List Nat:=[]
 gk:List Nat:=[]
 dr:List (Nat × List (Nat × Hint)):=[]
def zVJ:Value→Option HV
 | .slice none 0 0=>some .nl
 | v=>(qXD v).bind fun p=>some (.v p)
def FnI.of (fn:Func):FnI:=⟨fn.body.getD .skip,fn.ntmps,fn.results.toList⟩
def Tabs.tab (t:Tabs):Tab where
 sz:=asc t.sz
 zr:=fun i=>(asc t.zr i).bind fun z=>mapO qXD z.cells.toList
 zh:=fun i=>(asc t.zr i).bind fun z=>mapO zVJ z.cells.toList
 fd:=fun i f=>(asc t.fd i).bind fun l=>l[f]?
 fx:=fun i f=>(asc t.fx i).bind fun l=>l[f]?
 ar:=asc t.ar
 sl:=fun i=>(asc t.sl i).bind fun x=>some (x.1,x.2.1)
 ly:=asc t.ly
 ik:=asc t.ik
 str:=inL t.str
 bo:=inL t.bo
 eqK:=asc t.eq
 fn:=fun i=>(asc t.fn i).bind fun f=>some (FnI.of f)
 hint:=fun f r=>match (asc t.hint f).bind fun l=>asc l r with | some h=>h | none=>{}
 rw:=inL t.rw
 ownR:=fun f d=>match asc t.ow f with | some l=>inL l d | none=>false
 dd:=inL t.dd
 ff:=inL t.ff
 zf:=inL t.zf
 agf:=inL t.ag
 bf:=inL t.bf
 sf:=inL t.sf
 nf:=inL t.nf
 gq:=inL t.gq
 gk:=inL t.gk
 dr:=fun f r=>(asc t.dr f).bind fun l=>asc l r
 bd:=fun e=>bif inL t.big e then 17592186044416 else 1000000
def allI {α:Type} (p:Nat→α→Bool):Nat→List α→Bool
 | _,[]=>true
 | i,x :: l=>p i x && allI p (i + 1) l
theorem zYL {α:Type} {p:Nat→α→Bool}:∀ {l:List α} {k:Nat},allI p k l=true→∀ {i:Nat} {x:α},l[i]? = some x→p (k + i) x=true
 | [],_,_,i,x,hx=>by simp at hx
 | y :: l,k,h,i,x,hx=>by
  simp only [allI,vQJ] at h;cases i with
  | zero=>simp at hx; subst hx; exact h.1
  | succ i =>
   have:=zYL h.2 (i:=i) (x:=x) (by simpa using hx)
   rw [show k + (i + 1)=k + 1 + i by omega]; exact this
def fxB (P:Program) (t:Nat) (f:Nat) (x:Nat × Bool × Nat):Bool :=
 match P.underlying t with
 | some (.struct fields)=>match fields[f]? with
  | some fld=>fld.offset == x.1 && tyB P fld.type x.2.1 x.2.2 && (x.2.1 || Nat.beq x.2.2 1)
  | none=>false
 | _=>false
def arX (P:Program) (t:Nat) (x:Nat × Nat × Bool):Bool :=
 arrB P t x.1 x.2.1 && match P.underlying t with
 | some (.array n e)=>n == x.1 && tyB P e x.2.2 x.2.1 && (x.2.2 || Nat.beq x.2.1 1)
 | _=>false
def KV1:Kd→Value→Prop
 | .i k,v=>∃ x,v=.int k x
 | .b,v=>∃ x,v=.bool x
 | .s,v=>∃ x,v=.string x
def KV:List Kd→List Value→Prop
 | [],vs=>vs=[]
 | k :: ks,vs=>∃ v us,vs=v :: us∧KV1 k v∧KV ks us
def AllP {α:Type} (p:α→Prop):List α→Prop
 | []=>True
 | x :: l=>p x∧AllP p l
theorem AllP.of {α:Type} {p:α→Prop}:∀ {l:List α},AllP p l→∀ {x},x ∈ l→p x
 | [],_,x,hx=>by simp at hx
 | y :: l,h,x,hx=>by
  rcases List.mem_cons.1 hx with rfl | hx
  ·exact h.1
  ·exact h.2.of hx
theorem jWE:∀ {ks:List Kd} {ps:List PV} {vs:List Value} {F:Nat→Prop} {w:World},qJB ks ps=true→Al (RP F w) ps vs→KV ks vs
 | [],[],vs,_,_,_,h=>h.nil_left
 | k :: ks,p :: ps,vs,F,w,hk,h=>by
  simp only [qJB,vQJ] at hk;obtain ⟨v,us,rfl,hv,hu⟩:=h.cons_left;refine ⟨v,us,rfl,?_,jWE hk.2 hu⟩
  have:=hk.1
  unfold kdIs at this;split at this
  ·rename_i k1 k2 x;have e:k1=k2:=by simpa using this
   subst e;cases hv; exact ⟨_,rfl⟩
  ·cases hv; exact ⟨_,rfl⟩
  ·cases hv; exact ⟨_,rfl⟩
  ·cases this
 | [],_ :: _,_,_,_,h,_=>by simp [qJB] at h
 | _ :: _,[],_,_,_,h,_=>by simp [qJB] at h
structure Tabs.Ok (P:Program) (t:Tabs):Prop where
 sz:t.sz.all (fun x=>tyB P x.1 x.2.1 x.2.2 && (x.2.1 || Nat.beq x.2.2 1))=true
 zr:t.zr.map (fun x=>(P.info? x.1).bind (·.zero))=t.zr.map (fun x=>some x.2)
 fd:t.fd.all (fun x=>allI (fun f o=>zUC P x.1 f o) 0 x.2)=true
 fx:t.fx.all (fun x=>allI (fxB P x.1) 0 x.2)=true
 ar:t.ar.all (fun x=>arX P x.1 x.2)=true
 sl:t.sl.all (fun x=>slcB P x.1 x.2.1 x.2.2.1 && Nat.blt 0 x.2.2.1 && Nat.ble x.2.2.1 1000 && appB P x.1 x.2.1 x.2.2.1 x.2.2.2 && Nat.ble x.2.2.2 100000 && (Nat.ble x.2.2.2 8 || !inL t.big x.2.1))=true
 ly:t.ly.map (fun x=>(qYB P x.1).map (·.2))=t.ly.map (fun x=>some x.2)
 ik:t.ik.map (fun x=>P.underlying x.1)=t.ik.map (fun x=>some (.int x.2))
 str:t.str.map (fun x=>P.underlying x)=t.str.map (fun _=>some .string)
 bo:t.bo.map (fun x=>P.underlying x)=t.bo.map (fun _=>some .bool)
 eq:AllP (fun x:Nat × List Kd=>aggB P x.1=true∧∀ vs,KV x.2 vs→uV P 12 x.1 vs=true) t.eq
 fn:AllP (fun x:Nat × Func=>P.funcs[x.1]? = some x.2) t.fn
 fn2:t.fn.all (fun x => !(x.2.name == "runtime.NumGoroutine") && !x.2.body.isNone)=true
 dd:∀ f ∈ t.dd,kH P f∧∀ (args:Array Value) (w:World),CallsD P f args .returning w fun e u w'=>(∃ v,e=.returned v)∧u=.returning∧w'=w
theorem qWA {α β:Type} {f g:α→β} {l:List α} (h:l.map f=l.map g) {x:α} (hx:x ∈ l):f x=g x:=by
 induction l with
 | nil=>simp at hx
 | cons y l ih =>
  simp only [List.map_cons,List.cons.injEq] at h;rcases List.mem_cons.1 hx with rfl | hx
  ·exact h.1
  ·exact ih h.2 hx
theorem Tabs.ok {P:Program} {t:Tabs} (h:t.Ok P):TabOk P t.tab where
 sz:=fun i b k hi=>by
  have:=List.all_eq_true.1 h.sz _ (uX hi)
  simp only [vQJ,Bool.or_eq_true] at this;refine ⟨this.1,fun hb => ?_⟩;rcases this.2 with h1 | h1
  ·rw [hb] at h1; cases h1
  ·exact vQU h1
 zr:=fun i ps hi=>by
  simp only [Tabs.tab,vQQ] at hi;obtain ⟨z,hz,hps⟩:=hi
  have:=qWA h.zr (uX hz)
  refine ⟨z,this,?_⟩;have h1:=zK hps;exact ⟨h1.1.symm,fun j p v hp hv=>⟨fun F w=>(kK (F:=F) (w:=w) (h1.2 j v p hv hp)).1,(kK (F:=fun _=>False) (w:=default) (h1.2 j v p hv hp)).2⟩⟩
 zh:=fun i hs hi=>by
  simp only [Tabs.tab,vQQ] at hi;obtain ⟨z,hz,hps⟩:=hi
  have:=qWA h.zr (uX hz)
  refine ⟨z,this,?_⟩;have h1:=zK hps;refine ⟨h1.1.symm,fun j p v hp hv => ?_⟩;have h2:zVJ v=some p:=h1.2 j v p hv hp;unfold zVJ at h2;split at h2
  ·cases h2; exact ⟨fun _ _ _=>rfl,rfl⟩
  ·simp only [vQQ,vQZ] at h2;obtain ⟨q,hq,rfl⟩:=h2;exact ⟨fun ρ F w=>(kK (F:=F) (w:=w) hq).1,(kK (F:=fun _=>False) (w:=default) hq).2⟩
 fd:=fun i f o hi=>by
  simp only [Tabs.tab,vQQ] at hi;obtain ⟨l,hl,ho⟩:=hi
  have:=zYL (List.all_eq_true.1 h.fd _ (uX hl)) ho
  simpa using this
 fx:=fun i f o b k hi=>by
  simp only [Tabs.tab,vQQ] at hi;obtain ⟨l,hl,ho⟩:=hi
  have:=zYL (List.all_eq_true.1 h.fx _ (uX hl)) ho
  rw [Nat.zero_add] at this;unfold fxB at this;split at this
  ·rename_i fields hu;split at this
   ·rename_i fld hf;simp only [vQJ,Bool.or_eq_true] at this;refine ⟨fields,fld,hu,hf,by simpa using this.1.1,this.1.2,fun hb => ?_⟩;rcases this.2 with h1 | h1
    ·rw [hb] at h1; cases h1
    ·exact vQU h1
   ·cases this
  ·cases this
 ar:=fun i n k b hi=>by
  have:=List.all_eq_true.1 h.ar _ (uX hi)
  simp only [arX,vQJ] at this;refine ⟨this.1,?_⟩;have h2:=this.2;split at h2
  ·rename_i m e hu;simp only [vQJ,Bool.or_eq_true] at h2;have hm:m=n:=by simpa using h2.1.1
   subst hm;refine ⟨e,hu,h2.1.2,fun hb => ?_⟩;rcases h2.2 with h1 | h1
   ·rw [hb] at h1; cases h1
   ·exact vQU h1
  ·cases h2
 sl:=fun i e k hi=>by
  simp only [Tabs.tab,vQQ,vQZ,vQY] at hi;obtain ⟨x,hx,rfl,rfl⟩:=hi
  have:=List.all_eq_true.1 h.sl _ (uX hx)
  simp only [vQJ,Bool.or_eq_true,Bool.not_eq_true'] at this;have hb:=vZJ this.1.2;refine ⟨this.1.1.1.1.1,by simpa [Nat.blt_eq] using this.1.1.1.1.2,vZJ this.1.1.1.2,x.2.2,this.1.1.2,hb,?_⟩;show (bif inL t.big x.1 then 17592186044416 else 1000000) * x.2.2≤140737488355328∧(bif inL t.big x.1 then 17592186044416 else 1000000)≤17592186044416;cases hL:inL t.big x.1 with
  | false =>
   refine ⟨?_,by decide⟩;rw [vYZ];omega
  | true =>
   refine ⟨?_,by decide⟩;rcases this.2 with h1 | h1
   ·have:=vZJ h1
    rw [vYQ];omega
   ·rw [hL] at h1; cases h1
 ly:=fun i pl hi=>by
  have:=qWA h.ly (uX hi)
  simp only [vZK] at this;obtain ⟨⟨z,pl'⟩,hz,rfl⟩:=this;refine ⟨z,hz,fun ps hps => ?_⟩;simp only [Tabs.tab,vQQ] at hps;obtain ⟨z',hz',hps⟩:=hps;have h0:(P.info? i).bind (·.zero)=some z':=qWA h.zr (uX hz');have e:z=z'.cells.toList:=by
   unfold qYB at hz;split at hz
   ·rename_i it n e hi _;rw [hi] at h0;simp only [vZV] at h0;rw [h0] at hz;split at hz
    ·rename_i h1 _; cases h1; cases hz; rfl
    ·cases hz
   ·rename_i it fields hi _;rw [hi] at h0;simp only [vZV] at h0;rw [h0] at hz;split at hz
    ·rename_i h1 _; cases h1; cases hz; rfl
    ·cases hz
   ·cases hz
  subst e;have h1:=zK hps;exact ⟨h1.1.symm,fun j p v hp hv=>⟨fun F w=>(kK (F:=F) (w:=w) (h1.2 j v p hv hp)).1,(kK (F:=fun _=>False) (w:=default) (h1.2 j v p hv hp)).2⟩⟩
 ik:=fun i k hi=>qWA h.ik (uX hi)
 str:=fun i hi=>qWA h.str (zWF hi)
 bo:=fun i hi=>qWA h.bo (zWF hi)
 eqK:=fun i ks hi=>by
  have:=h.eq.of (uX hi)
  exact ⟨this.1,fun vs ⟨ps,F,w,hk,hal⟩=>this.2 vs (jWE hk hal)⟩
 dd:=fun f hf=>h.dd f (zWF hf)
 fn:=fun f fi hi=>by
  simp only [Tabs.tab,vQQ,vQZ] at hi;obtain ⟨fn,hfn,rfl⟩:=hi;have h1:=h.fn.of (uX hfn);have h2:=List.all_eq_true.1 h.fn2 _ (uX hfn);simp only [vQJ,Bool.not_eq_true'] at h2;simp only at h1 h2;refine ⟨qQB h1 h2.1 h2.2,fn,h1,?_,rfl,by simp [FnI.of]⟩;cases hb:fn.body with
  | none=>rw [hb] at h2; simp at h2
  | some b=>simp [FnI.of,hb]
end Go.Rx
namespace Go.Rx
open Go.RowKit Go.Sx
def kB:IntKind→IntKind→Bool
 | .i64,.i64=>true
 | .i32,.i32=>true
 | .u64,.u64=>true
 | .u8,.u8=>true
 | _,_=>false
theorem kZY {k k':IntKind} (h:kB k k'=true):k=k':=by cases k <;> cases k' <;> first | rfl | cases h
def eqP:Nat→PV→PV→Bool
 | 0,_,_=>false
 | _ + 1,.n k x,.n k' y=>kB k k' && decide (x=y)
 | _ + 1,.b x,.b y=>x == y
 | _ + 1,.s x,.s y=>decide (x.data.toList=y.data.toList)
 | n + 1,.a xs,.a ys=>eqL n xs ys
 | n + 1,.t xs,.t ys=>eqL n xs ys
 | n + 1,.l xs,.l ys=>eqLL n xs ys
 | n + 1,.z xs j o,.z ys j' o'=>eqLL n xs ys && Nat.beq j j' && Nat.beq o o'
 | n + 1,.c xs o,.c ys o'=>eqL n xs ys && Nat.beq o o'
 | n + 1,.f f fs cs,.f f' fs' cs'=>Nat.beq f f' && eqL n fs fs' && eqL n cs cs'
 | _ + 1,.ni,.ni=>true
 | _ + 1,.np,.np=>true
 | _ + 1,.nf,.nf=>true
 | _ + 1,.zs,.zs=>true
 | _ + 1,.ze,.ze=>true
 | _ + 1,.ne,.ne=>true
 | _ + 1,_,_=>false
where
 eqL:Nat→List PV→List PV→Bool
 | 0,_,_=>false
 | _ + 1,[],[]=>true
 | n + 1,x :: xs,y :: ys=>eqP n x y && eqL n xs ys
 | _ + 1,_,_=>false
 eqLL:Nat→List (List PV)→List (List PV)→Bool
 | 0,_,_=>false
 | _ + 1,[],[]=>true
 | n + 1,x :: xs,y :: ys=>eqP.eqL n x y && eqLL n xs ys
 | _ + 1,_,_=>false
theorem yHZ {x y:ByteArray} (h:x.data.toList=y.data.toList):x=y:=by
 cases x; cases y
 congr 1
 exact Array.toList_inj.1 h
theorem yHD:∀ n,(∀ p q,eqP n p q=true→p=q)∧(∀ p q,eqP.eqL n p q=true→p=q)∧(∀ p q,eqP.eqLL n p q=true→p=q)
 | 0=>⟨fun p q h=>by simp [eqP] at h,fun p q h=>by simp [eqP.eqL] at h,fun p q h=>by simp [eqP.eqLL] at h⟩
 | n + 1=>by
  obtain ⟨h1,h2,h3⟩:=yHD n;refine ⟨fun p q h => ?_,fun p q h => ?_,fun p q h => ?_⟩
  ·cases p <;> cases q <;> simp only [eqP,vQJ,decide_eq_true_eq,beq_iff_eq] at h <;> first | (cases h; done) | skip
   ·rw [kZY h.1,h.2]
   ·rw [h]
   ·rw [yHZ h]
   ·rw [h2 _ _ h]
   ·rw [h2 _ _ h]
   ·rw [h3 _ _ h]
   ·rw [h3 _ _ h.1.1,vQU h.1.2,vQU h.2]
   ·rw [h2 _ _ h.1,vQU h.2]
   ·rw [vQU h.1.1,h2 _ _ h.1.2,h2 _ _ h.2]
   all_goals rfl
  ·cases p <;> cases q <;> simp only [eqP.eqL,vQJ] at h <;> first | (cases h; done) | skip
   ·rfl
   ·rw [h1 _ _ h.1,h2 _ _ h.2]
  ·cases p <;> cases q <;> simp only [eqP.eqLL,vQJ] at h <;> first | (cases h; done) | skip
   ·rfl
   ·rw [h2 _ _ h.1,h3 _ _ h.2]
abbrev Known:=List (Nat × List (List PV × Ret))
def yKU:List (List PV × Ret)→List PV→Option Ret
 | [],_=>none
 | (ps,r) :: l,qs=>bif eqP.eqL 200 ps qs then some r else yKU l qs
def Known.orc (t:Known):Orc:=⟨fun g=>(asc t g).bind fun l=>some (yKU l),fun _=>none⟩
def Known.Ok (P:Program) (t:Known):Prop:=∀ x ∈ t,∀ y ∈ x.2,yY P x.1 y.1 y.2
theorem yKK {l:List (List PV × Ret)} {qs:List PV} {r:Ret} (h:yKU l qs=some r):(qs,r) ∈ l:=by
 induction l with
 | nil=>cases h
 | cons y l ih =>
  obtain ⟨ps,r'⟩:=y;simp only [yKU] at h;cases hc:eqP.eqL 200 ps qs with
  | true=>rw [hc] at h; cases h; rw [(yHD 200).2.1 _ _ hc]; exact vQG
  | false=>rw [hc] at h; exact vQV _ (ih h)
theorem Known.ok {P:Program} {T:Tab} {t:Known} (h:t.Ok P):OrcOk P T t.orc:=by
 refine ⟨fun g o ho ps r hr => ?_,fun g o ho=>by simp [Known.orc] at ho⟩;simp only [Known.orc,vQQ,vQZ] at ho;obtain ⟨l,hl,rfl⟩:=ho;exact h _ (uX hl) _ (yKK hr)
theorem Known.nil (P:Program):Known.Ok P []:=fun x hx=>by simp at hx
theorem Known.add {P:Program} {T:Tab} {t:Known} {f:Nat} {l:List (List PV × Ret)} {N:Nat} (hT:TabOk P T) (hm:P.follows .mixedOrders=true) (ht:t.Ok P) (h:l.map (fun y=>run T t.orc N f y.1)=l.map (fun y=>some y.2)):Known.Ok P ((f,l) :: t):=fun x hx=>by
 rcases List.mem_cons.1 hx with rfl | hx
 ·exact fun y hy=>qZK hT hm (Known.ok ht) (qWA h hy)
 ·exact ht x hx
end Go.Rx
namespace Go.Rx
open Go.RowKit Go.Sx
section
abbrev α:=Ret × Mem
abbrev qVY:=Nat→List PV→(Ret→Option α)→Option α
def zJK (e:Eff) (K:Eff→Option α):Option α:=match e with
 | ⟨[],[],.v (.b c),[]⟩=>bif c then K (.val (.v (.b true))) else K (.val (.v (.b false)))
 | e=>K e
theorem qGQ (e:Eff) (K:Eff→Option α):zJK e K=K e:=by
 unfold zJK;split
 ·rename_i c; cases c <;> rfl
 ·rfl
def zHZ (C:Cx) (cK:qVY) (dst f:Nat) (args:List RV) (K:Eff→Option α):Option α :=
 (mapO RV.fz args).bind fun ps=>cK f ps fun r =>
  (bif args.all RV.still then zKZ C.T C.me dst (catR RV.regs args) r
  else match r with
   | .v x=>bif x.flat then some (.val (.v x)) else none
   | .ow _ _ (.l rows)=>bif rows.all (fun r=>r.all PV.flat1) then some (.val (.v (.l rows))) else none
   | _=>none).bind fun e=>zJK e K
def yHI (s:ByteArray) (i:Nat):Int:=(((s[i]?).getD 0).toNat:Int)
def yZX (C:Cx) (cK:qVY) (dst:Nat) (op:Op) (vs:List RV) (K:Eff→Option α):Option α :=
 match op,vs with
 | .binOp .quo _ _ _ _,[.v (.n k x),.v (.n k' y)]=>bif decide (k=k') then (bif decide (y=0) then none else K (.val (.v (.n k (k.wrap (x.tdiv y)))))) else none
 | .binOp .rem _ _ _ _,[.v (.n k x),.v (.n k' y)]=>bif decide (k=k') then (bif decide (y=0) then none else K (.val (.v (.n k (x.tmod y))))) else none
 | .call ⟨.builtin .append,axs,ats⟩,[.o id e' sz rows,y]=>(match ats.toList with
   | [t,t']=>bif Nat.beq t t' then (C.T.sl t).bind fun e=>(zUZ y).bind fun news=>bif news.ok e.2 then (bif Nat.beq e' e.1 && Nat.beq sz e.2 && !(y.ids.any (Nat.beq id)) then
     (bif decide (rows.len + news.len≤C.T.bd e.1) then K (.app id (.reg e' sz (rows.app news)) (.o id)) else none) else none) else none else none
   | _=>none)
 | .call ⟨.builtin .append,axs,ats⟩,[.nl,y]=>(match ats.toList with
   | [t,t']=>bif Nat.beq t t' then (C.T.sl t).bind fun e=>(zUZ y).bind fun news=>bif news.ok e.2 then
     (bif decide (news.len≤C.T.bd e.1) then K (.new dst (.reg e.1 e.2 news) (.o dst)) else none) else none else none
   | _=>none)
 | .binOp .shl _ _ _ _,[.v (.n k x),.v (.n _ y)]=>bif decide (0≤y) then K (.val (.v (.n k (k.wrap (x * 2 ^ (min y.toNat k.bits)))))) else none
 | .binOp .shr _ _ _ _,[.v (.n k x),.v (.n _ y)]=>bif decide (0≤y) then K (.val (.v (.n k (x.fdiv (2 ^ (min y.toNat k.bits)))))) else none
 | .indexAddr t _ _,[.o id _ sz rows,.v (.n _ i)]=>(C.T.sl t).bind fun e=>bif inB i rows.len then (bif Nat.beq sz e.2 then K (.val (.q id i.toNat 0)) else none) else none
 | .makeSlice t _ _,[.v (.n _ n),.v (.n _ c)]=>(C.T.sl t).bind fun e=>(C.T.zr e.1).bind fun zs=>bif C.T.zf C.me then none else
   bif C.T.nf C.me then (C.T.sl e.1).bind fun q=>(C.T.zr q.1).bind fun z2=>(match zs with
    | [.zs]=>bif Nat.beq e.2 1 then (bif decide (0≤n) then bif decide (n≤c) then bif decide (c≤1000000) then K ⟨[(dst,some (.nst e.1 q.1 q.2 (bif C.T.ff C.me then .fo n.toNat (fun _=>.fo 0 (fun _=>z2)) else .l (qZQ (.l []) n.toNat)) none))],[(mid dst,none)],.o dst,[dst]⟩ else none else none else none) else none
    | _=>none) else
   bif decide (0≤n) then bif decide (n≤c) then bif decide (c≤1000000) then K (.new dst (.reg e.1 e.2 (bif C.T.ff C.me then .fo n.toNat (fun _=>zs) else .l (qZQ zs n.toNat))) (.o dst)) else none else none else none
 | .slice t _ lo hi none,.v (.lf n f) :: vs=>(zQF lo hi vs).bind fun b=>(C.T.sl t).bind fun e=>bif inS b.1 b.2 n then (bif Nat.beq (f (loOf b.1)).length e.2 then K (.val (.v (.lf (hiOf b.2 n - loOf b.1) fun v=>f (v + loOf b.1)))) else none) else none
 | .slice t _ lo hi none,.o id e' sz rows :: vs=>(zQF lo hi vs).bind fun b=>(match b with
   | (none,some j)=>(C.T.sl t).bind fun e=>bif Nat.beq sz e.2 then (bif decide (0≤j) then (bif decide (j.toNat≤rows.len) then K (.app id (.reg e' sz (rows.take j.toNat)) (.o id)) else none) else none) else none
   | _=>none)
 | .index t _ _,[.v (.s s),.v (.n _ i)]=>bif C.T.str t then (bif inB i s.size then K (.val (.v (.n .u8 (yHI s i.toNat)))) else none) else none
 | .next _ true,[.i id 0 s pos]=>bif Nat.beq id pid2 then none else bif decide (pos < s.size) then K (.set id (.itr s (pos + (Utf8.decode s pos).2)) (.v (.t [.b true,.n .i64 (pos:Int),.n .i32 ((Utf8.decode s pos).1:Int)]))) else K (.val (.v (.t [.b false])))
 | .indexAddr t _ _,[.no id _ n,.v (.n _ i)]=>(C.T.sl t).bind fun e=>bif inB i n then (bif Nat.beq 1 e.2 then K (.val (.q id i.toNat 0)) else none) else none
 | .call ⟨.builtin .append,axs,ats⟩,[.mi id j e' ie isz rows none,y]=>(match ats.toList with
   | [t,t']=>bif Nat.beq t t' then (C.T.sl t).bind fun e=>(zUZ y).bind fun news=>bif news.ok e.2 then (bif Nat.beq ie e.1 && Nat.beq isz e.2 && !(y.ids.any (Nat.beq id)) then (rows.at j).bind fun r =>
     (bif decide (r.len + news.len≤C.T.bd e.1) then K ⟨[(id,some (.nst e' ie isz rows (some (j,r.app news))))],[(mid id,none)],.mp id j,[]⟩ else none) else none) else none else none
   | _=>none)
 | .store t _ _,[.nq id j 0 e ie isz rows (some (j',r)),.w (.mp id' j'')]=>(C.T.sz t).bind fun k=>bif !k.1 && Nat.beq id' id then (bif Nat.beq j' j then (bif Nat.beq j'' j then K ⟨[(id,some (.nst e ie isz (rows.set j r) none))],[(mid id,none)],.un,[]⟩ else none) else none) else none
 | .indexAddr t _ _,[.v (.lf n f),.v (.n _ i)]=>(C.T.sl t).bind fun e=>bif inB i n then (bif Nat.beq (f i.toNat).length e.2 then K (.val (.v (.zf n f i.toNat 0))) else none) else none
 | .call ⟨.value fx,axs,ats⟩,.v (.f f first cap) :: vs=>bif C.T.rw f then (qK C.T C.cA C.cB C.me dst (.call ⟨.value fx,axs,ats⟩) (.v (.f f first cap) :: vs)).bind fun e=>zJK e K
   else zHZ C cK dst f (first.map .v ++ vs ++ cap.map .v) K
 | op,vs=>(qK C.T C.cA C.cB C.me dst op vs).bind fun e=>zJK e K
def yZI (C:Cx) (o:Oper) (K:Eff × List RV→Option α):Option α:=bif dstB C.n o.dst then K (.val (.v (.t [])),[]) else none
end
abbrev OrK:=Nat→Option (List PV→Option (Bool × Ret))
def OrK.orc (o:OrK):Orc:=⟨fun g=>(o g).bind fun f=>some fun ps=>(f ps).bind fun x=>bif x.1 then some x.2 else none,fun _=>none⟩
def yUG (ok:OrK) (rK:qVY):qVY:=fun g ps K=>match ok g with
 | some o=>(o ps).bind fun x=>bif x.1 then K x.2 else none
 | none=>rK g ps K
section
variable {C:Cx} {cK:qVY} {ops:Array Oper} {r:α}
def SndK (C:Cx) (cK:qVY):Prop:=∀ f ps K r,cK f ps K=some r→∃ x,C.cA f ps=some x∧K x=some r
theorem qJW {dst:Nat} {op:Op} {vs:List RV} {K:Eff→Option α} (hc:SndK C cK) (h:yZX C cK dst op vs K=some r):∃ e,qK C.T C.cA C.cB C.me dst op vs=some e∧K e=some r:=by
 unfold yZX at h;split at h
 ·rename_i k x k' y;obtain ⟨h1,h⟩:=qZ h;cases hy:decide (y=0) with
  | true=>rw [hy] at h; cases h
  | false =>
   rw [hy] at h;refine ⟨_,?_,h⟩;simp [qK,binP,binI,h1,hy]
 ·rename_i k x k' y;obtain ⟨h1,h⟩:=qZ h;cases hy:decide (y=0) with
  | true=>rw [hy] at h; cases h
  | false =>
   rw [hy] at h;refine ⟨_,?_,h⟩;simp [qK,binP,binI,h1,hy]
 ·rename_i axs ats id e' sz rows y;split at h
  ·rename_i t t' hts;obtain ⟨h1,h⟩:=qZ h;simp only [vQQ] at h;obtain ⟨el,hel,news,hnews,h⟩:=h;obtain ⟨h2,h⟩:=qZ h;obtain ⟨h3,h⟩:=qZ h;obtain ⟨h4,h⟩:=qZ h;refine ⟨_,?_,h⟩;rw [vQJ,vQJ] at h3;simp only [qK,hts,h1,vYQ,hel,hnews,vZV,h2,h3.1.1,h3.1.2,h3.2,h4,vZQ]
  ·cases h
 ·rename_i axs ats y;split at h
  ·rename_i t t' hts;obtain ⟨h1,h⟩:=qZ h;simp only [vQQ] at h;obtain ⟨el,hel,news,hnews,h⟩:=h;obtain ⟨h2,h⟩:=qZ h;obtain ⟨h4,h⟩:=qZ h;refine ⟨_,?_,h⟩;simp only [qK,hts,h1,vYQ,hel,hnews,vZV,h2,h4]
  ·cases h
 ·rename_i k x _ y;obtain ⟨h1,h⟩:=qZ h;refine ⟨_,?_,h⟩;simp [qK,binP,h1]
 ·rename_i k x _ y;obtain ⟨h1,h⟩:=qZ h;refine ⟨_,?_,h⟩;simp [qK,binP,h1]
 ·rename_i t _ _ id _ sz rows _ i;simp only [vQQ] at h;obtain ⟨el,hel,h⟩:=h;obtain ⟨h1,h⟩:=qZ h;obtain ⟨h2,h⟩:=qZ h;exact ⟨_,by simp only [qK,hel,vZV,h1,h2,vZQ,vYQ],h⟩
 ·rename_i t _ _ _ n _ c;simp only [vQQ] at h;obtain ⟨el,hel,zs,hzs,h⟩:=h;cases hzf:C.T.zf C.me with
  | true=>rw [hzf] at h; cases h
  | false =>
  rw [hzf,vYZ] at h;cases hnf:C.T.nf C.me with
  | true =>
   rw [hnf,vYQ] at h;simp only [vQQ] at h;obtain ⟨q,hq,z2,hz2,h⟩:=h;split at h
   ·obtain ⟨h0,h⟩:=qZ h;obtain ⟨h1,h⟩:=qZ h;obtain ⟨h2,h⟩:=qZ h;obtain ⟨h3,h⟩:=qZ h;exact ⟨_,by simp only [qK,hel,hzs,hzf,hnf,hq,hz2,vZV,h0,h1,h2,h3,Bool.false_and,vYZ,vZQ,vYQ],h⟩
   ·cases h
  | false =>
  rw [hnf,vYZ] at h;obtain ⟨h1,h⟩:=qZ h;obtain ⟨h2,h⟩:=qZ h;obtain ⟨h3,h⟩:=qZ h;exact ⟨_,by simp only [qK,hel,hzs,hzf,hnf,vZV,h1,h2,h3,Bool.false_and,vYZ,vZQ,vYQ],h⟩
 ·rename_i t _ lo hi n f vs;simp only [vQQ] at h;obtain ⟨b,hb,el,hel,h⟩:=h;obtain ⟨h1,h⟩:=qZ h;obtain ⟨h2,h⟩:=qZ h;exact ⟨_,by simp only [qK,hb,hel,vZV,h1,h2,vYQ],h⟩
 ·rename_i t _ lo hi id e' sz rows vs;simp only [vQQ] at h;obtain ⟨b,hb,h⟩:=h;split at h
  ·rename_i j;simp only [vQQ] at h;obtain ⟨el,hel,h⟩:=h;obtain ⟨h1,h⟩:=qZ h;obtain ⟨h2,h⟩:=qZ h;obtain ⟨h3,h⟩:=qZ h;exact ⟨_,by simp only [qK,hb,hel,vZV,h1,h2,h3,vZQ,vYQ],h⟩
  ·cases h
 ·rename_i t _ _ s _ i;obtain ⟨h1,h⟩:=qZ h;obtain ⟨h2,h⟩:=qZ h;obtain ⟨i0,i1⟩:=qYC h2;refine ⟨_,?_,h⟩;have hb:s[i.toNat]? = some (s[i.toNat]'(by omega)):=getElem?_pos s i.toNat (by omega);simp only [qK,h1,vYJ i0,vZQ,vYQ,yHI,hb,vZV,Option.getD_some]
 ·rename_i id s pos;cases hp2:Nat.beq id pid2 with
  | true=>rw [hp2] at h; cases h
  | false =>
  rw [hp2,vYZ] at h;cases hp:decide (pos < s.size) with
  | true =>
   rw [hp] at h;exact ⟨_,by simp only [qK,hp2,hp,vYQ,vYZ],h⟩
  | false =>
   rw [hp] at h;exact ⟨_,by simp only [qK,hp2,hp,vYZ],h⟩
 ·rename_i t _ _ id _ n _ i;simp only [vQQ] at h;obtain ⟨el,hel,h⟩:=h;obtain ⟨h1,h⟩:=qZ h;obtain ⟨h2,h⟩:=qZ h;exact ⟨_,by simp only [qK,hel,vZV,h1,h2,vZQ,vYQ],h⟩
 ·rename_i axs ats id j e' ie isz rows y;split at h
  ·rename_i t t' hts;obtain ⟨h1,h⟩:=qZ h;simp only [vQQ] at h;obtain ⟨el,hel,news,hnews,h⟩:=h;obtain ⟨h2,h⟩:=qZ h;obtain ⟨h3,h⟩:=qZ h;simp only [vQQ] at h;obtain ⟨r1,hr1,h⟩:=h;obtain ⟨h4,h⟩:=qZ h;refine ⟨_,?_,h⟩;simp only [qK,hts,h1,vYQ,hel,hnews,vZV,h2,h3,hr1,h4]
  ·cases h
 ·rename_i t _ _ id j e ie isz rows j' r1 id' j'';simp only [vQQ] at h;obtain ⟨k,hk,h⟩:=h;obtain ⟨h1,h⟩:=qZ h;obtain ⟨h2,h⟩:=qZ h;obtain ⟨h3,h⟩:=qZ h;rw [vQJ] at h1;exact ⟨_,by simp only [qK,hk,vZV,h1.1,h1.2,h2,h3,vZQ,vYQ],h⟩
 ·rename_i t _ _ n f _ i;simp only [vQQ] at h;obtain ⟨el,hel,h⟩:=h;obtain ⟨h1,h⟩:=qZ h;obtain ⟨h2,h⟩:=qZ h;exact ⟨_,by simp only [qK,hel,vZV,h1,h2,vZQ,vYQ],h⟩
 ·rename_i fx axs ats f first cap vs
  cases hrw:C.T.rw f with
  | true =>
   rw [hrw] at h;simp only [vYQ,vQQ] at h;obtain ⟨e,he,h⟩:=h;rw [qGQ] at h;exact ⟨e,he,h⟩
  | false =>
   rw [hrw] at h;simp only [vYZ,zHZ,vQQ] at h;obtain ⟨ps,hps,h⟩:=h;obtain ⟨x,hx,h⟩:=hc _ _ _ _ h;rw [vQQ] at h;obtain ⟨e,he,h⟩:=h;rw [qGQ] at h;refine ⟨e,?_,h⟩;simp only [qK,hrw,vYZ,qXE,hps,hx,vZV];exact he
 ·rw [vQQ] at h;obtain ⟨e,he,h⟩:=h;rw [qGQ] at h;exact ⟨e,he,h⟩
theorem qXK {o:Oper} {σ:St} {K:Eff × List RV→Option α} (hg:uY ops σ o=some false) (h:yZI C o K=some r):∃ x,qQL C ops o σ=some x∧K x=some r:=by
 unfold yZI at h;obtain ⟨hd,h⟩:=qZ h;exact ⟨_,qVL hd (.inl ⟨hg,rfl⟩),h⟩
end
section
variable {C:Cx} {ops:Array Oper} {r:Ret × Mem}
def Gets (K0:Ret × Mem→Option (Ret × Mem)) (r:Ret × Mem) (x:Option (Ret × Mem)):Prop:=∃ q,x=some q∧K0 q=some r
variable {K0:Ret × Mem→Option (Ret × Mem)} {cK:qVY}
theorem zQU {s s':(St→Option (Ret × Mem))→St→Option (Ret × Mem)} (h:∀ a a':St→Option (Ret × Mem),(∀ σ,a σ=some r→Gets K0 r (a' σ))→∀ σ,s a σ=some r→Gets K0 r (s' a' σ)):∀ (n:Nat) (σ:St),zYZ s n σ=some r→Gets K0 r (zYZ s' n σ)
 | 0,σ,hs=>by cases hs
 | n + 1,σ,hs=>h _ _ (zQU h n) σ hs
end
def OrK.Ok (P:Program) (ok:OrK):Prop:=∀ g o,ok g=some o→∀ ps r,o ps=some (true,r)→yY P g ps r
theorem OrK.Ok.orc {P:Program} {ok:OrK} {T:Tab} (h:ok.Ok P):OrcOk P T ok.orc:=by
 refine ⟨fun g o ho ps r hr => ?_,fun g o ho=>by simp [OrK.orc] at ho⟩;simp only [OrK.orc,vQQ,vQZ] at ho;obtain ⟨f,hf,rfl⟩:=ho;simp only [vQQ] at hr;obtain ⟨x,hx,hr⟩:=hr;obtain ⟨h1,hr⟩:=qZ hr;cases hr;exact h g f hf ps x.2 (by rw [hx,← h1])
abbrev OrL:=List (Nat × (List PV→Option (Bool × Ret)))
def OrL.k (l:OrL):OrK:=asc l
def qQY (P:Program) (f:Nat) (o:List PV→Option (Bool × Ret)):Prop:=∀ ps r,o ps=some (true,r)→yY P f ps r
theorem OrL.ok {P:Program} {l:OrL} (h:AllP (fun x:Nat × (List PV→Option (Bool × Ret))=>qQY P x.1 x.2) l):(OrL.k l).Ok P:=fun g o ho ps r hr=>h.of (uX ho) ps r hr
def listed (l:List (List PV × Ret)):List PV→Option (Bool × Ret):=fun ps=>(yKU l ps).bind fun r=>some (true,r)
def PV.val1:PV→Value
 | .n k x=>.int k x
 | .b x=>.bool x
 | .s x=>.string x
 | _=>.nilIface
def PV.val:PV→Value
 | .a cs=>.agg (cs.map PV.val1).toArray
 | x=>x.val1
theorem yZA {F:Nat→Prop} {w:World} {p:PV} {v:Value} (hp:p.flat1=true) (h:RP F w p v):v=p.val1:=by
 cases h <;> first | rfl | (simp [PV.flat1] at hp; done)
theorem yZH {F:Nat→Prop} {w:World} {p:PV} (hp:p.flat1=true):RP F w p p.val1∧p.val1.oneCell'=true:=by
 cases p <;> first | (simp [PV.flat1] at hp; done) | exact ⟨by constructor,rfl⟩
theorem jKG {F:Nat→Prop} {w:World} {p:PV} {v:Value} (hp:p.flat2=true) (h:RP F w p v):v=p.val:=by
 cases p with
 | a cs =>
  cases h with
  | a _ vs hl h1 h =>
   have e:vs=cs.map PV.val1:=List.ext_getElem? fun i=>by
    rw [vQH];cases hc:cs[i]? with
    | none=>rw [Option.map_none,List.getElem?_eq_none (by have:=List.getElem?_eq_none_iff.1 hc; omega)]
    | some c =>
     have hi:=(List.getElem?_eq_some_iff.1 hc).1;have hv:vs[i]? = some (vs[i]'(by omega)):=vQK (by omega);rw [hv,Option.map_some,yZA (List.all_eq_true.1 hp c (vQW hc)) (h i c _ hc hv)]
   rw [e]; rfl
 | _=>exact yZA (by first | exact hp | (simp [PV.flat2,PV.flat1] at hp)) h
end Go.Rx
namespace Go.Rx
open Go.RowKit Go.Sx
def qVD (sz:Nat) (rows:List (List PV)):Bool:=rows.all fun r=>Nat.beq r.length sz && r.all PV.flat1
def qVI (rows:List (List PV)):List (List Value):=rows.map fun r=>r.map PV.val1
theorem qKU {sz:Nat} {rows:List (List PV)} (h:qVD sz rows=true) {r:List PV} (hr:r ∈ rows):r.length=sz∧∀ p ∈ r,p.flat1=true:=by
 have:=List.all_eq_true.1 h r hr
 rw [vQJ] at this;exact ⟨vQU this.1,List.all_eq_true.1 this.2⟩
theorem yYU {F:Nat→Prop} {w:World} {sz c:Nat} {a:Option Addr} {rows:List (List PV)} (hs:qVD sz rows=true) (hcap:rows.length≤c) (hS:zXY sz a (qVI rows) w)
  (hF:∀ b off,a=some ⟨b,off,none⟩→rows ≠ []→F b):RP F w (.l rows) (.slice a rows.length c):=by
 cases rows with
 | nil=>exact .l0 a c
 | cons r0 rs =>
  obtain ⟨_,b,off,ha,hb,_⟩:=hS 0 _ (by simp [qVI]; rfl);subst ha;refine .l (r0 :: rs) b off _ c sz (fun j t=>(((r0 :: rs).getD j []).getD t .ni).val1) rfl hcap (fun r hr=>(qKU hs hr).1) (hF b off rfl (by simp)) (fun j t hj ht => ?_) (fun j r t p hj ht => ?_)
  ·have hr:(r0 :: rs)[j]? = some ((r0 :: rs)[j]'hj):=vQK hj;generalize (r0 :: rs)[j]'hj=r at hr;have hm:=qKU hs (vQW hr);have htl:t < r.length:=by omega
   have hp:r[t]? = some (r[t]'htl):=vQK htl;obtain ⟨_,b',off',ha',_,hc⟩:=hS j (r.map PV.val1) (by unfold qVI; rw [vQH,hr]; rfl);cases ha';have hc:=hc t ht;rw [vQH,hp,Option.map_some] at hc;have e:(((r0 :: rs).getD j []).getD t .ni)=r[t]'htl:=by
    rw [vZX,vZX,hr];simp only [Option.getD_some];rw [hp]; rfl
   simp only [e];exact ⟨by rw [← hc,Nat.add_assoc],(yZH (F:=F) (w:=w) (hm.2 _ (List.getElem_mem htl))).2⟩
  ·have hm:=qKU hs (vQW hj);have e:(((r0 :: rs).getD j []).getD t .ni)=p:=by
    rw [vZX,vZX,hj];simp only [Option.getD_some];rw [ht]; rfl
   simp only [e];exact (yZH (hm.2 p (vQW ht))).1
end Go.Rx
namespace Go.Rx
open Go.RowKit Go.Sx
def yJC (L:List Int):PV:=.l (L.map fun x=>[.n .i64 x])
theorem yZU (L:List Int):qVD 1 (L.map fun x=>[PV.n .i64 x])=true:=by
 unfold qVD;rw [List.all_map,List.all_eq_true];intro x _;rfl
theorem zHF {F:Nat→Prop} {w:World} {L:List Int} {a:Option Addr} {c:Nat} (h:IntsAt w w.heap.size (.slice a L.length c) L) (hc:L.length≤c) (hF:∀ k,k < w.heap.size→F k):RP F w (yJC L) (.slice a L.length c):=by
 have e:(L.map fun x=>[PV.n .i64 x]).length=L.length:=by simp
 have key:zXY 1 a (qVI (L.map fun x=>[PV.n .i64 x])) w:=fun j r hj=>by
  obtain ⟨a',c',e',hh⟩:=h.slice;cases e';unfold qVI at hj;rw [vQH,vQH] at hj;cases hr:L[j]? with
  | none=>rw [hr] at hj; cases hj
  | some x =>
   rw [hr] at hj;cases hj;have hjl:=(List.getElem?_eq_some_iff.1 hr).1;obtain ⟨b,off,ha,hb,hq⟩:=hh j hjl;refine ⟨rfl,b,off,ha,hb,fun k hk => ?_⟩;have hk0:k=0:=by omega
   subst hk0;rw [Nat.mul_one,Nat.add_zero,hq,vZX,hr];rfl
 have:=yYU (F:=F) (c:=c) (yZU L) (by rw [e]; exact hc) key (fun b off ha hne=>by
  obtain ⟨a',c',e',hh⟩:=h.slice;cases e';have h0:0 < L.length:=by
   cases L with
   | nil=>exact absurd rfl hne
   | cons x xs=>simp
  obtain ⟨b',off',ha',hb,_⟩:=hh 0 h0;rw [ha] at ha';cases ha';exact hF b hb)
 rw [e] at this;exact this
theorem zJL {P:Program} {f:Nat} {ps:List PV} {x:PV} {w:World} {vals:List Value} (h:yY P f ps (.v x)) (hx:x.flat2=true) (ha:Al (RP (fun k=>k < w.heap.size) w) ps vals):Calls P f vals.toArray w (Rets x.val w) :=
 Calls.mono (h.2 w _ vals (fun k hk=>hk) ha) fun e w' ⟨v,F',he,hg,_,_,hr⟩=>⟨by rw [he,jKG hx hr],hg⟩
theorem zXZ {F:Nat→Prop} {w:World}:Al (RP F w) [] []:=⟨rfl,fun i p v h=>by simp at h⟩
theorem qXF {F:Nat→Prop} {w:World} {p:PV} {v:Value} {ps:List PV} {vs:List Value} (h:RP F w p v) (t:Al (RP F w) ps vs):Al (RP F w) (p :: ps) (v :: vs) :=
 ⟨by rw [vQX,vQX,t.1],fun i q u hq hu=>by
  cases i with
  | zero=>cases hq; cases hu; exact h
  | succ i=>exact t.2 i q u hq hu⟩
theorem yUB {F:Nat→Prop} {w:World} {p:PV} {ps:List PV} {vals:List Value} (h:Al (RP F w) (p :: ps) vals):∃ v vs,vals=v :: vs∧RP F w p v∧Al (RP F w) ps vs:=by
 cases vals with
 | nil=>have:=h.1; simp at this
 | cons v vs=>exact ⟨v,vs,rfl,h.2 0 p v rfl rfl,by have:=h.1; simpa using this,fun i q u hq hu=>h.2 (i + 1) q u hq hu⟩
end Go.Rx
namespace Go.Rx
open Go.RowKit Go.Sx Go.ChangeShapes Go.WideShapes
inductive Sh where
 | i (k:IntKind)
 | b
 | s
 | l (row:List Sh)
inductive Fit:Sh→PV→Prop
 | i (k:IntKind) (x:Int) (h:(Lit.int k x).wf=true):Fit (.i k) (.n k x)
 | b (x:Bool):Fit .b (.b x)
 | s (x:ByteArray) (h:x.size≤maxLen):Fit .s (.s x)
 | l (row:List Sh) (n:Nat) (f:Nat→List PV) (hn:n≤maxLen) (hl:∀ j,j < n→(f j).length=row.length) (h:∀ j,j < n→∀ (i:Nat) sh p,row[i]? = some sh→(f j)[i]? = some p→Fit sh p):Fit (.l row) (.lf n f)
section
variable {P:Program} {w:World} {H:Type} {enc:TypeId × Value→H}
def Good (w:World) (shs:List Sh) (cs:List Value):Prop:=∃ ps:List PV,ps.length=shs.length∧(∀ (i:Nat) sh p,shs[i]? = some sh→ps[i]? = some p→Fit sh p)∧Al (RP (fun k=>k < w.heap.size) w) ps cs∧∀ v ∈ cs,v.oneCell'=true
theorem Good.one {sh:Sh} {p:PV} {v:Value} (h1:Fit sh p) (h2:RP (fun k=>k < w.heap.size) w p v) (h3:v.oneCell'=true):Good w [sh] [v] :=
 ⟨[p],rfl,(fun i s0 q hs hq=>by
  match i with
  | 0=>cases hs; cases hq; exact h1
  | i + 1=>cases hs),qXF h2 zXZ,(fun u hu=>by obtain rfl:=List.mem_singleton.1 hu; exact h3)⟩
theorem Good.cat {r s:List Sh} {cs ds:List Value} (h1:Good w r cs) (h2:Good w s ds):Good w (r ++ s) (cs ++ ds):=by
 obtain ⟨p,a1,a2,a3,a4⟩:=h1;obtain ⟨q,b1,b2,b3,b4⟩:=h2;refine ⟨p ++ q,by simp [a1,b1],fun i sh x hs hx => ?_,a3.append b3,fun v hv => ?_⟩
 ·rcases Nat.lt_or_ge i r.length with hi | hi
  ·rw [List.getElem?_append_left hi] at hs;rw [List.getElem?_append_left (by omega)] at hx;exact a2 i sh x hs hx
  ·rw [List.getElem?_append_right hi] at hs;rw [List.getElem?_append_right (by omega),a1] at hx;exact b2 _ sh x hs hx
 ·rcases List.mem_append.1 hv with h | h
  ·exact a4 v h
  ·exact b4 v h
def Pieces (w:World):List (List Sh)→List Value→Prop
 | [],cs=>cs=[]
 | r :: l,cs=>Good w r (cs.take r.length)∧Pieces w l (cs.drop r.length)
theorem Pieces.good:∀ {l:List (List Sh)} {cs:List Value},Pieces w l cs→Good w l.flatten cs
 | [],cs,h=>by
  have:cs=[]:=h
  subst this;exact ⟨[],rfl,fun i sh p hs=>by simp at hs,zXZ,fun v hv=>by cases hv⟩
 | r :: l,cs,h=>by
  have:=Good.cat h.1 h.2.good
  rw [List.take_append_drop] at this;exact this
end
end Go.Rx
namespace Go.Rx
open Go.RowKit Go.Sx
abbrev Cont:=Ex→St→Option (Ret × Mem)
abbrev yK:=St→Cont→Option (Ret × Mem)
def qYI:Nat→Code→Code
 | 0,.seq x _=>x
 | _ + 1,.seq _ y=>y
 | 0,.cond _ x _=>x
 | _ + 1,.cond _ _ y=>y
 | _,.block _ x=>x
 | _,.scope x=>x
 | _,.loop x=>x
 | _,c=>c
def qZA (B:Code):List Nat→Code
 | []=>B
 | i :: p=>qYI i (qZA B p)
def zKK:List Nat→List Nat→Bool
 | [],[]=>true
 | x :: xs,y :: ys=>Nat.beq x y && zKK xs ys
 | _,_=>false
theorem zKJ:∀ {p q:List Nat},zKK p q=true→p=q
 | [],[],_=>rfl
 | x :: xs,y :: ys,h=>by
  simp only [zKK,vQJ] at h;rw [vQU h.1,zKJ h.2]
 | [],_ :: _,h=>by cases h
 | _ :: _,[],h=>by cases h
section
variable {C:Cx} {cK:qVY} {r:Ret × Mem} {K0:Ret × Mem→Option (Ret × Mem)}
end
def zVU (T:Tab) (f:Nat):Code:=match T.fn f with
 | some fi=>fi.body
 | none=>.skip
def ntmF (T:Tab) (f:Nat):Nat:=match T.fn f with
 | some fi=>fi.ntmps
 | none=>0
def qQ (T:Tab) (f:Nat) (p:List Nat):Code:=qYI 0 (qZA (zVU T f) p)
noncomputable def gSt (a b:St):Bool:=@decide (a=b) (vZH _)
theorem yQ (a:St):gSt a a=true:=@vYJ _ (vZH _) rfl
theorem jVW {a b:St} (h:gSt a b=true):a=b:=@vYK _ (vZH _) h
def qY (l:List (List Nat × yK)) (p:List Nat):Option yK:=match l with
 | []=>none
 | x :: xs=>bif zKK x.1 p then some x.2 else qY xs p
end Go.Rx
namespace Go.Rx
open Go.RowKit Go.Sx
def qGK {β:Type} (good:Nat→Bool) (KX:β) (KR:Nat→β):Nat→Nat→β
 | 0,_=>KX
 | k + 1,p=>bif good p then qGK good KX KR k (p + 1) else KR p
def allN (good:Nat→Bool):Nat→Nat→Bool
 | 0,_=>true
 | k + 1,p=>good p && allN good k (p + 1)
theorem qYZ {β:Type} (good:Nat→Bool) (x y:β):∀ k p,qGK good x (fun _=>y) k p=bif allN good k p then x else y
 | 0,_=>rfl
 | k + 1,p=>by
  simp only [qGK,allN,qYZ good x y k (p + 1)];cases good p <;> rfl
theorem allN_iff {good:Nat→Bool}:∀ {k p:Nat},allN good k p=true ↔ ∀ j,p≤j→j < p + k→good j=true
 | 0,p=>⟨fun _ j h1 h2=>by omega,fun _=>rfl⟩
 | k + 1,p=>by
  simp only [allN,vQJ,allN_iff (k:=k)];exact ⟨fun h j h1 h2=>by
   rcases Nat.eq_or_lt_of_le h1 with e | e
   ·exact e ▸ h.1
   ·exact h.2 j e (by omega),fun h=>⟨h p (Nat.le_refl _) (by omega),fun j h1 h2=>h j (by omega) (by omega)⟩⟩
def firstK (good:Nat→Bool):Nat→Nat→Nat
 | 0,p=>p
 | k + 1,p=>bif good p then firstK good k (p + 1) else p
theorem qWW {β:Type} (good:Nat→Bool) (x:β) (y:Nat→β):∀ k p,qGK good x y k p=bif allN good k p then x else y (firstK good k p)
 | 0,_=>rfl
 | k + 1,p=>by
  simp only [qGK,allN,firstK,qWW good x y k (p + 1)];cases good p <;> rfl
theorem jZX {α:Type} (d:α) (f:α→List PV) (l:List α):l.map f=(List.range l.length).map fun i=>f (l.getD i d):=by
 refine List.ext_getElem? fun i => ?_
 rw [vQH,vQH];by_cases h:i < l.length
 ·rw [List.getElem?_range h,vQK h];simp [vZX,h]
 ·rw [List.getElem?_eq_none (by omega),List.getElem?_eq_none (by simp; omega)];rfl
theorem yXU {P:Program} {f:Nat} {ps ps':List PV} {r:Ret} (hs:∀ F w vals,Al (RP F w) ps' vals→Al (RP F w) ps vals) (h:yY P f ps r):yY P f ps' r :=
 ⟨h.1,fun w F vals hF hal=>h.2 w F vals hF (hs F w vals hal)⟩
theorem qQE {P:Program} {f:Nat} {ps:List PV} {x y:PV} (hs:∀ F w v,RP F w x v→RP F w y v) (h:yY P f ps (.v x)):yY P f ps (.v y) :=
 ⟨h.1,fun w F vals hF hal=>(h.2 w F vals hF hal).mono fun _ w' ⟨v,F',he,hg,f1,f2,hr⟩=>⟨v,F',he,hg,f1,f2,hs F' w' v hr⟩⟩
theorem zXD {F:Nat→Prop} {w:World} {n:Nat} {f:Nat→List PV} {rows:List (List PV)} {v:Value} (e:rows=(List.range n).map f) (h:RP F w (.l rows) v):RP F w (.lf n f) v:=.lf n f v (e ▸ h)
theorem zXE {F:Nat→Prop} {w:World} {n:Nat} {f:Nat→List PV} {rows:List (List PV)} {v:Value} (e:rows=(List.range n).map f) (h:RP F w (.lf n f) v):RP F w (.l rows) v:=by
 cases h with
 | lf _ _ _ h=>exact e ▸ h
def Same (x y:PV):Prop:=∀ F w v,RP F w x v→RP F w y v
theorem Same.refl (x:PV):Same x x:=fun _ _ _ h=>h
theorem Same.lf {n:Nat} {f:Nat→List PV} {rows:List (List PV)} (e:rows=(List.range n).map f):Same (.l rows) (.lf n f):=fun _ _ _=>zXD e
theorem Same.l {n:Nat} {f:Nat→List PV} {rows:List (List PV)} (e:rows=(List.range n).map f):Same (.lf n f) (.l rows):=fun _ _ _=>zXE e
def Sames:List PV→List PV→Prop
 | [],[]=>True
 | x :: xs,y :: ys=>Same x y∧Sames xs ys
 | _,_=>False
theorem Sames.al {F:Nat→Prop} {w:World}:∀ {xs ys:List PV} {vs:List Value},Sames xs ys→Al (RP F w) xs vs→Al (RP F w) ys vs
 | [],[],_,_,h=>h
 | x :: xs,y :: ys,vs,hs,h=>by
  obtain ⟨v,vs,rfl,h1,h2⟩:=yUB h;exact qXF (hs.1 F w v h1) (Sames.al hs.2 h2)
 | [],_ :: _,_,h,_=>h.elim
 | _ :: _,[],_,h,_=>h.elim
theorem Same.a {xs ys:List PV} (h:Sames xs ys):Same (.a xs) (.a ys):=fun F w v hv=>by
 cases hv with
 | a _ vs hl h1 hh =>
  have:=Sames.al h (show Al (RP F w) xs vs from ⟨hl,hh⟩)
  exact .a ys vs this.1 h1 this.2
theorem Same.t {xs ys:List PV} (h:Sames xs ys):Same (.t xs) (.t ys):=fun F w v hv=>by
 cases hv with
 | t _ vs hl hh =>
  have:=Sames.al h (show Al (RP F w) xs vs from ⟨hl,hh⟩)
  exact .t ys vs this.1 this.2
end Go.Rx
namespace Go.Rx
open Go.RowKit Go.Sx Go.ChangeShapes Go.WideShapes
section
variable {P:Program} {W:World} {H:Type} {enc:TypeId × Value→H}
def Fits (row:List Sh) (ps:List PV):Prop:=ps.length=row.length∧∀ (i:Nat) sh p,row[i]? = some sh→ps[i]? = some p→Fit sh p
theorem Fits.cons {s0:Sh} {row:List Sh} {ps:List PV} (h:Fits (s0 :: row) ps):∃ p qs,ps=p :: qs∧Fit s0 p∧Fits row qs:=by
 cases ps with
 | nil=>have:=h.1; simp at this
 | cons p qs=>exact ⟨p,qs,rfl,h.2 0 s0 p rfl rfl,by have:=h.1; simpa using this,fun i sh q h1 h2=>h.2 (i + 1) sh q h1 h2⟩
theorem Fits.nil {ps:List PV} (h:Fits [] ps):ps=[]:=List.eq_nil_of_length_eq_zero h.1
theorem Fit.int {k:IntKind} {p:PV} (h:Fit (.i k) p):∃ x,p=.n k x∧(Lit.int k x).wf=true:=by cases h with | i k x h=>exact ⟨x,rfl,h⟩
theorem Fit.str {p:PV} (h:Fit .s p):∃ x,p=.s x:=by cases h with | s x h=>exact ⟨x,rfl⟩
theorem Fit.bool {p:PV} (h:Fit .b p):∃ x,p=.b x:=by cases h with | b x=>exact ⟨x,rfl⟩
theorem Fit.slc {row:List Sh} {p:PV} (h:Fit (.l row) p):∃ n f,p=.lf n f∧∀ j,j < n→Fits row (f j):=by
 cases h with
 | l row n f hn hl h=>exact ⟨n,f,rfl,fun j hj=>⟨hl j hj,h j hj⟩⟩
end
end Go.Rx
namespace Go.Rx
open Go.RowKit Go.Sx
def kQ (N:Nat) (C:Cx) (x:Code) (S:yK):Prop:=∀ (K K':Cont) (K0:Ret × Mem→Option (Ret × Mem)) (σ:St) (r:Ret × Mem),(∀ e τ,K e τ=some r→Gets K0 r (K' e τ))→S (qUQ (C.T.hint C.me (qJ x)) σ) K=some r →
 Gets K0 r (zYZ (fun again σ=>runC N C x (fun e σ=>match e with
   | .normal=>again σ
   | e=>K' e (qWV (C.T.hint C.me (qJ x)) σ)) (qUQ (C.T.hint C.me (qJ x)) σ)) N σ)
section
variable {C:Cx} {cK:qVY} {r:Ret × Mem} {K0:Ret × Mem→Option (Ret × Mem)}
end
theorem qW {N:Nat} {C:Cx} {L:List Nat→Code}:∀ {l:List (List Nat × yK)},AllP (fun x:List Nat × yK=>kQ N C (L x.1) x.2) l→∀ p S,qY l p=some S→kQ N C (L p) S
 | [],_,p,S,h=>by cases h
 | x :: xs,hl,p,S,h=>by
  simp only [qY] at h;cases hb:zKK x.1 p with
  | true =>
   rw [hb] at h;simp only [vYQ,vQZ] at h;subst h
   have:=zKJ hb
   subst this;exact hl.1
  | false =>
   rw [hb] at h;exact qW hl.2 p S h
noncomputable def sumF {τ:Type} (hd:τ→St) (ex:St→τ) (R:τ→Cont→Option (Ret × Mem)):yK:=fun σ K=>bif gSt σ (hd (ex σ)) then R (ex σ) K else none
theorem jQ {N:Nat} {C:Cx} {L:List Nat→Code}:∀ p S,qY [] p=some S→kQ N C (L p) S:=fun p S h=>by cases h
def qU {τ υ:Type} (dec:τ→τ ⊕ υ):Nat→τ→Option υ
 | 0,_=>none
 | n + 1,s=>match dec s with
  | .inl s'=>qU dec n s'
  | .inr y=>some y
theorem kG {τ υ β:Type} {L:Nat→St→Option β} {stp:(St→Option β)→St→Option β} (hs:∀ n s,L (n + 1) s=stp (L n) s) (h0:∀ s,L 0 s=none) (hd:τ→St) (Inv:τ→Prop) (dec:τ→τ ⊕ υ) (KX:υ→Option β)
  (r1:∀ G s,Inv s→stp G (hd s)=match dec s with | .inl s'=>G (hd s') | .inr y=>KX y) (hi:∀ s s',Inv s→dec s=.inl s'→Inv s'):∀ n s,Inv s→L n (hd s)=(qU dec n s).bind KX
 | 0,s,_=>by rw [h0]; rfl
 | n + 1,s,h=>by
  rw [hs,r1 _ s h,qU];cases hd':dec s with
  | inl s'=>exact kG hs h0 hd Inv dec KX r1 hi n s' (hi s s' h hd')
  | inr y=>rfl
def runS {τ β:Type} (good:Nat→τ→Bool) (nx:Nat→τ→τ) (KX:τ→β) (KR:Nat→τ→β):Nat→Nat→τ→β
 | 0,_,s=>KX s
 | k + 1,p,s=>bif good p s then runS good nx KX KR k (p + 1) (nx p s) else KR p s
theorem zQK {τ β:Type} {L:Nat→St→Option β} {stp:(St→Option β)→St→Option β} (hs:∀ n s,L (n + 1) s=stp (L n) s) (hd:Nat→τ→St) (Inv:Nat→τ→Prop) (good:Nat→τ→Bool) (nx:Nat→τ→τ) {c:Nat} (KX:τ→Option β) (KR:Nat→τ→Option β)
  (r1:∀ G i s,i < c→Inv i s→stp G (hd i s)=bif good i s then G (hd (i + 1) (nx i s)) else KR i s) (hi:∀ i s,i < c→Inv i s→good i s=true→Inv (i + 1) (nx i s))
  (r2:∀ G s,Inv c s→stp G (hd c s)=KX s):∀ k p q s,p + k=c→k < q→Inv p s→L q (hd p s)=runS good nx KX KR k p s
 | 0,p,q + 1,s,hp,_,hv=>by
  have e:p=c:=by omega
  subst e;rw [hs,r2 _ s hv]; rfl
 | k + 1,p,q + 1,s,hp,hq,hv=>by
  rw [hs,r1 _ p s (by omega) hv];simp only [runS];cases hg:good p s with
  | true=>exact zQK hs hd Inv good nx KX KR r1 hi r2 k (p + 1) q (nx p s) (by omega) (by omega) (hi p s (by omega) hv hg)
  | false=>rfl
end Go.Rx

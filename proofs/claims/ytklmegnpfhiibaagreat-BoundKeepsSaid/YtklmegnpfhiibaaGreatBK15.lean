/- Part 15 of the texts behind the last one: rules and contracts. No condition. -/
import Derived.Test.YtklmegnpfhiibaaGreatBK14
open Option renaming bind_eq_some_iff → vQQ, bind_some → vZV
open Option.some renaming injEq → vQZ
open Prod.mk renaming injEq → vQY
open Bool renaming and_eq_true → vQJ
open List renaming getElem?_eq_getElem → vQK, mem_of_getElem? → vQW, getElem?_take → vZU
open Nat renaming eq_of_beq_eq_true → vQU, le_of_ble_eq_true → vZJ
namespace Go.Rx
open Go.RowKit Go.Sx
section
variable {P:Program} {E:Env} {T:Tab} {ρ:Own} {F:Nat→Prop} {σ:St} {a:Act} {w:World}
theorem yJE {M:Mem} {cs:List CV} {ps:List PV} {us:List Value} {F':Nat→Prop} (hm:MemOk E ρ F M w) (hF:∀ k,F k→F' k) (hall:∀ id ad c k s b,ρ id=some (.reg ad c k s)→ad.map (·.block)=some b→F' b) (hcv:Al (fun c v=>RH ρ F w c.back v∧∀ id e sz rows,c=.o id e sz rows→qV M id=some (.reg e sz rows)) cs us) (hp:mapO CV.fz cs=some ps):Al (RP F' w) ps us:=by
 have h1:=yJ hp;refine ⟨by rw [← h1.1,hcv.1],fun i p v hpi hv => ?_⟩;have hil:=(List.getElem?_eq_some_iff.1 hpi).1;have hl:i < cs.length:=by rw [h1.1]; exact hil
 have hfz:=h1.2 i _ p (vQK hl) hpi;obtain ⟨hrh,ho⟩:=hcv.2 i _ v (vQK hl) hv;generalize cs[i]=c at hfz hrh ho;unfold CV.fz at hfz;split at hfz
 ·cases hfz; exact RP.mono (fun k hk=>⟨hF k hk,rfl⟩) hrh
 ·cases hfz; have:v=.slice none 0 0:=hrh; subst this; exact .l0 _ _
 ·rename_i id e' sz rows;cases hfz;obtain ⟨ad,c',k,sz',hρ,rfl⟩:=hrh;exact (uZ (hm.ent id _ (ho _ _ _ _ rfl)) hF (fun L b hL hb=>by rw [hρ] at hL; cases hL; exact hall id _ _ _ _ b hρ hb) ad c' k sz' hρ).1
 ·cases hfz
def ResR (E:Env) (ρ:Own) (F:Nat→Prop) (M:Mem) (w:World) (r:RV) (v:Value):Prop :=
 (RH ρ F w r.back v∧RRes M r) ∨ (∃ p,r=.v p∧∀ F':Nat→Prop,(∀ k,F k→F' k)→(∀ id ad c k s b,ρ id=some (.reg ad c k s)→ad.map (·.block)=some b→F' b)→RP F' w p v)
theorem res_rel {n:Nat} (hT:TabOk P T) (h:Rel' E n ρ F σ a w) {x:ResultVar} {r:RV} (hx:zWW T σ x=some r):∃ v,(resF a.tmps x).run P w=.ok v w∧ResR E ρ F σ.M w r v:=by
 cases x with
 | tmp t =>
  simp only [zWW,vQQ] at hx;obtain ⟨y,hy,hr⟩:=hx;obtain ⟨v,hv,hrh⟩:=h.slots t y hy;obtain ⟨hb,hres⟩:=qUW hr;refine ⟨v,by simp [resF,Array.getD_eq_getD_getElem?,hv],.inl ⟨by rw [hb]; exact hrh,hres⟩⟩
 | cell x t =>
  simp only [zWW,vQQ] at hx;obtain ⟨y,hy,p,hp,⟨kb,k⟩,hk,hx⟩:=hx;obtain ⟨v,hv,hrh⟩:=h.slots x y hy;obtain ⟨hb,hres⟩:=qUW hp;rw [← hb] at hrh;obtain ⟨hty,hk1⟩:=hT.sz t kb k hk;cases p with
  | p id off cells =>
   obtain ⟨b,hρ,rfl⟩:=hrh;obtain ⟨hc,hlk,hcc⟩:=hres;obtain ⟨b2,us,ty',hρ2,hheap,hal,hone⟩:=h.mem.ent id _ hlk;rw [hρ] at hρ2;cases hρ2;cases kb with
   | false =>
    have hk1':=hk1 rfl;subst hk1';simp only [vYY,vQQ,vQZ] at hx;obtain ⟨c,hcs,q,hq,rfl⟩:=hx;have hcv:=qJV hcc hal;obtain ⟨u,hu,hru⟩:=hcv.get hcs;have hr:=qVH (w:=w) hheap off;rw [hu] at hr;refine ⟨u,by simp [resF,Array.getD_eq_getD_getElem?,hv,asAddr,loadVar,qUH hty,hr],.inr ⟨_,rfl,fun F' hF hall => ?_⟩⟩;exact (yJE h.mem hF hall (cs:=[c]) (us:=[u]) ⟨rfl,fun i c' u' hc' hu'=>by
     cases i with
     | zero=>simp at hc' hu'; subst hc' hu'; exact hru
     | succ i=>simp at hc'⟩ (ps:=[q]) (by simp [mapO,hq])).2 0 q u rfl rfl
   | true =>
   simp only [vYZ,vQQ,vQZ] at hx;obtain ⟨cs,hcs,ps,hps,rfl⟩:=hx;obtain ⟨rfl,hle⟩:=qYL hcs;have hcv:=qJV hcc hal;have hlen:cells.length=us.length:=hcv.1;have hr:=qJU (P:=P) (w:=w) (b:=b) (off:=off) (k:=k) (vs:=(us.drop off).take k) (fun i hi=>by
    rw [qVH hheap];simp [vZU,hi]) (by simp; omega)
   refine ⟨.agg ((us.drop off).take k).toArray,by simp [resF,Array.getD_eq_getD_getElem?,hv,asAddr,loadVar,qUH hty,qJZ hty,hr],.inr ⟨_,rfl,fun F' hF hall => ?_⟩⟩;exact qGQ (yJE h.mem hF hall ((hcv.drop off).take k) hps) fun u hu=>hone u (List.mem_of_mem_drop (List.mem_of_mem_take hu))
  | _=>simp only at hx; cases hx
theorem ress_rel {n:Nat} (hT:TabOk P T) (h:Rel' E n ρ F σ a w):∀ {xs:List ResultVar} {rs:List RV},mapO (zWW T σ) xs=some rs→∃ vs,(xs.mapM (resF a.tmps)).run P w=.ok vs w∧Al (ResR E ρ F σ.M w) rs vs
 | [],rs,hx=>by simp [mapO] at hx; subst hx; exact ⟨[],by simp,Al.nil⟩
 | x :: xs,rs,hx=>by
  simp only [mapO,vQQ,vQZ] at hx;obtain ⟨r,hr,rs',hrs,rfl⟩:=hx;obtain ⟨v,h1,h2⟩:=res_rel hT h hr;obtain ⟨vs,h3,h4⟩:=ress_rel hT h hrs;exact ⟨v :: vs,by simp [List.mapM_cons,Sem.run_bind,h1,h3],Al.cons h2 h4⟩
def outF (E:Env) (ρ:Own) (F:Nat→Prop):Nat→Prop:=fun k=>F k ∨ ∃ id L,ρ id=some L∧L.bl=some k∧¬ E.W k
theorem yJZ {M:Mem} (hm:MemOk E ρ F M w) {id:Nat} {ad:Option Addr} {c k s b:Nat} (hQ:∀ k,¬ E.Q k) (h:ρ id=some (.reg ad c k s)) (hb:ad.map (·.block)=some b):¬ E.W b:=fun hw=>by
 have h1:=(hm.pin b hw).resolve_right (hQ b)
 have:=hm.apart id pid _ _ b h h1 hb rfl
 subst this;rw [h] at h1; cases h1
theorem F_W {M:Mem} (hm:MemOk E ρ F M w) {k:Nat} (h:F k):E.F0 k ∨ E.w0.heap.size≤k ∨ E.Q k:=by
 rcases (hm.fz k h).2 with h1 | h1 | h1
 ·exact .inl h1
 ·exact .inr (.inl h1)
 ·rcases hm.pin k h1 with h2 | h2
  ·exact absurd h (hm.off pid _ k h2 rfl).1
  ·exact .inr (.inr h2)
theorem zQB {M:Mem} (hm:MemOk E ρ F M w) (hQ:∀ k,¬ E.Q k) {k:Nat} (h:outF E ρ F k):E.F0 k ∨ (E.w0.heap.size≤k∧k < w.heap.size):=by
 rcases h with h | ⟨id,L,hL,hb,hW⟩
 ·rcases F_W hm h with h1 | h1 | h1
  ·exact .inl h1
  ·exact .inr ⟨h1,(hm.fz k h).1⟩
  ·exact absurd h1 (hQ k)
 ·have:=hm.off id L k hL hb
  rcases this.2.2 with h1 | h1
  ·exact .inr ⟨h1,this.2.1⟩
  ·exact absurd h1 hW
theorem ret_oa {M:Mem} (hm:MemOk E ρ F M w) (hQ:∀ k,¬ E.Q k):∀ {cs:List CV} {us:List Value} {r:Ret},Al (fun c v=>RH ρ F w c.back v∧∀ id e sz rows,c=.o id e sz rows→qV M id=some (.reg e sz rows)) cs us→(∀ u ∈ us,u.oneCell'=true)→qKW cs=some r→RRet F E.w0 w r (.agg us.toArray)
 | [],us,r,_,_,h=>by cases h
 | .o id e sz rows :: cs,us,r,hal,h1,h=>by
  obtain ⟨v,us',rfl,⟨hv,hl⟩,hal'⟩:=hal.cons_left;cases cs with
  | cons c cs=>simp only [qKW] at h; cases h
  | nil =>
   have:=hal'.nil_left
   subst this;simp only [qKW,vQZ] at h;subst h;obtain ⟨ad,c,k,sz',hρ,rfl⟩:=hv;obtain ⟨ad2,c2,vr,hρ2,h0,hal2,hrl,hone,hown⟩:=hm.ent id _ (hl _ _ _ _ rfl);rw [hρ] at hρ2;cases hρ2;refine ⟨[],ad,c,vr,rfl,Al.nil,(fun u hu=>nomatch hu),h0,hal2,hrl,hone,hown,fun b hb => ?_⟩
   have:=hm.off id _ b hρ hb
   refine ⟨this.1,?_,this.2.1⟩;rcases this.2.2 with h | h
   ·exact h
   ·exact absurd h (yJZ hm hQ hρ hb)
 | .h x :: cs,us,r,hal,h1,h=>by
  obtain ⟨v,us',rfl,⟨hv,_⟩,hal'⟩:=hal.cons_left;cases x with
  | v x =>
   simp only [qKW] at h;split at h
   ·rename_i xs e sz rows hq;cases h;obtain ⟨us2,ad,c,vr,e1,q1,q2,q3⟩:=ret_oa hm hQ hal' (fun u hu=>h1 u (.tail _ hu)) hq;have e2:us'=us2 ++ [.slice ad rows.len c]:=by simpa using e1
    subst e2;exact ⟨v :: us2,ad,c,vr,rfl,Al.cons hv q1,fun u hu=>by
     cases hu with
     | head=>exact h1 v (.head _)
     | tail _ hu=>exact q2 u hu,q3⟩
   ·cases h
  | _=>simp only [qKW] at h; cases h
theorem split_ne:∀ {cs:List CV} (x:PV),qKW cs ≠ some (.v x)
 | [],_,h=>by cases h
 | .o .. :: cs,x,h=>by
  simp only [qKW] at h;split at h <;> cases h
 | .h y :: cs,x,h=>by
  cases y with
  | v y =>
   simp only [qKW] at h;split at h <;> cases h
  | _=>simp only [qKW] at h; cases h
theorem oa_ne {T:Tab} {σ:St} {xs:List ResultVar} (x:PV):oaOf T σ xs ≠ some (.v x):=fun hx=>by
 unfold oaOf at hx;split at hx
 ·obtain ⟨_,hx⟩:=qQ hx;simp only [vQQ] at hx;obtain ⟨y,hy,p,hp,k,hk,hx⟩:=hx;split at hx
  ·obtain ⟨_,hx⟩:=qQ hx;exact split_ne x hx
  ·cases hx
 ·cases hx
theorem oa_rel {n:Nat} {M:Mem} (hT:TabOk P T) (h:Rel' E n ρ F σ a w) (hQ:∀ k,¬ E.Q k) {xs:List ResultVar} {r:Ret} (hx:oaOf T σ xs=some r):∃ v,(xs.mapM (resF a.tmps)).run P w=.ok [v] w∧RRet F E.w0 w r v:=by
 unfold oaOf at hx;split at hx
 ·rename_i x t;obtain ⟨_,hx⟩:=qQ hx;simp only [vQQ] at hx;obtain ⟨y,hy,p,hp,⟨kb,k⟩,hk,hx⟩:=hx;obtain ⟨v,hv,hrh⟩:=h.slots x y hy;obtain ⟨hb,hres⟩:=qUW hp;rw [← hb] at hrh;obtain ⟨hty,hk1⟩:=hT.sz t kb k hk;split at hx
  ·rename_i id cells;obtain ⟨hkk,hx2⟩:=qQ hx;simp only [vQJ] at hkk;obtain ⟨rfl,hkk⟩:=hkk;have hkk:=vQU hkk;obtain ⟨b,hρ,rfl⟩:=hrh;obtain ⟨hc,hlk,hcc⟩:=hres;obtain ⟨b2,us,ty',hρ2,hheap,hal,hone⟩:=h.mem.ent id _ hlk;rw [hρ] at hρ2;cases hρ2;have hcv:=qJV hcc hal;have hlen:cells.length=us.length:=hcv.1;have hr:=qJU (P:=P) (w:=w) (b:=b) (off:=0) (k:=k) (vs:=us) (fun i hi=>by
    rw [qVH hheap,Nat.zero_add]) (by omega)
   refine ⟨.agg us.toArray,?_,ret_oa h.mem hQ hcv hone hx2⟩;simp [resF,Array.getD_eq_getD_getElem?,hv,asAddr,loadVar,qUH hty,qJZ hty,hr]
  ·cases hx
 ·cases hx
theorem resR_fz {M:Mem} (hm:MemOk E ρ F M w) (hQ:∀ k,¬ E.Q k) {r:RV} {p:PV} {v:Value} (hr:ResR E ρ F M w r v) (hp:r.fz=some p) (hs:r.still=true ∨ ∀ k,¬ E.W k):RP (outF E ρ F) w p v:=by
 have hreg:∀ id ad c k s b,ρ id=some (.reg ad c k s)→ad.map (·.block)=some b→outF E ρ F b:=fun id ad c k s b h hb=>.inr ⟨id,_,h,hb,yJZ hm hQ h hb⟩
 rcases hr with ⟨h1,h2⟩ | ⟨p',rfl,h1⟩
 ·refine zJJ hm (fun k hk=>.inl hk) hp h1 h2 ?_;rcases hs with hs | hs
  ·refine .inl ⟨hs,fun x hx L b hL hb => ?_⟩;obtain ⟨e,sz,hl⟩:=zWV h2 x hx;obtain ⟨ad,c,vr,hρ,_⟩:=hm.ent x.1 _ hl;rw [hL] at hρ;cases hρ;exact hreg _ _ _ _ _ b hL hb
  ·exact .inr fun id L b hL hb=>.inr ⟨id,L,hL,hb,hs b⟩
 ·cases hp; exact h1 _ (fun k hk=>.inl hk) hreg
theorem ress_fz {M:Mem} (hm:MemOk E ρ F M w) (hQ:∀ k,¬ E.Q k):∀ {rs:List RV} {ps:List PV} {vs:List Value},Al (ResR E ρ F M w) rs vs→mapO RV.fz rs=some ps→(rs.all RV.still=true ∨ ∀ k,¬ E.W k)→Al (RP (outF E ρ F) w) ps vs
 | [],ps,vs,hal,hp,_=>by cases hp; rw [hal.nil_left]; exact Al.nil
 | r :: rs,ps,vs,hal,hp,hs=>by
  simp only [mapO,vQQ,vQZ] at hp;obtain ⟨p,hp,ps',hps,rfl⟩:=hp;obtain ⟨v,vs',rfl,hr,hal'⟩:=hal.cons_left;have h1:r.still=true ∨ ∀ k,¬ E.W k:=hs.imp (fun h=>by simp only [List.all_cons,vQJ] at h; exact h.1) id;have h2:rs.all RV.still=true ∨ ∀ k,¬ E.W k:=hs.imp (fun h=>by simp only [List.all_cons,vQJ] at h; exact h.2) id;exact Al.cons (resR_fz hm hQ hr hp h1) (ress_fz hm hQ hal' hps h2)
theorem ret_o {M:Mem} (hm:MemOk E ρ F M w) (hQ:∀ k,¬ E.Q k) {id e sz:Nat} {rows:Rows} {v:Value} (hr:ResR E ρ F M w (.o id e sz rows) v):RRet F E.w0 w (.ow e sz rows) v:=by
 rcases hr with ⟨h1,h2⟩ | ⟨p,hp,_⟩
 ·obtain ⟨ad,c,k,sz',hρ,rfl⟩:=h1;obtain ⟨ad2,c2,vr,hρ2,h0,hal,hrl,hone,hown⟩:=hm.ent id _ h2;rw [hρ] at hρ2;cases hρ2;refine ⟨ad,c,vr,rfl,h0,hal,hrl,hone,hown,fun b hb => ?_⟩
  have:=hm.off id _ b hρ hb
  refine ⟨this.1,?_,this.2.1⟩;rcases this.2.2 with h | h
  ·exact h
  ·exact absurd h (yJZ hm hQ hρ hb)
 ·cases hp
def regF (ρ:Own) (F:Nat→Prop):Nat→Prop:=fun k=>F k ∨ ∃ id ad c n s,ρ id=some (.reg ad c n s)∧ad.map (·.block)=some k
theorem ret_p {M:Mem} (hm:MemOk E ρ F M w) {id:Nat} {cells:List CV} {ps:List PV} {v:Value} (hr:ResR E ρ F M w (.p id 0 cells) v) (hp:mapO CV.fz cells=some ps) (hW:∀ k,¬ E.W k):RRet (regF ρ F) E.w0 w (.pb ps) v:=by
 rcases hr with ⟨h1,h2⟩ | ⟨p,hp,_⟩
 ·obtain ⟨b,hρ,rfl⟩:=h1;obtain ⟨hc,hlk,hcc⟩:=h2;obtain ⟨b2,us,ty',hρ2,hheap,hal,hone⟩:=hm.ent id _ hlk;rw [hρ] at hρ2;cases hρ2;have hoff:=hm.off id _ b hρ rfl;refine ⟨b,us,ty',rfl,hheap,yJE hm (fun k hk=>.inl hk) (fun id ad c k s b h hb=>.inr ⟨id,ad,c,k,s,h,hb⟩) (qJV hcc hal) hp,hone,fun hf => ?_,?_,hoff.2.1⟩
  ·rcases hf with hf | ⟨id',ad,c,k,s,h,hb⟩
   ·exact hoff.1 hf
   ·have:=hm.apart id id' _ _ b hρ h rfl hb
    subst this;rw [hρ] at h; cases h
  ·exact hoff.2.2.resolve_right (hW b)
 ·cases hp
theorem zJA {xs:List ResultVar} {vs:List Value} {fn:Func} (hfn:fn.results=xs.toArray) (h:(xs.mapM (resF a.tmps)).run P w=.ok vs w):(results fn a.tmps).run P w=.ok (Sx.valOf vs) w:=by
 unfold results;rw [hfn];change Sem.run P (do let us ← xs.toArray.mapM (resF a.tmps); pure (if h:us.size=1 then us[0] else .tuple us)) w=_;simp only [Sem.run_bind,List.mapM_toArray,Sem.run_map,h,Result.andThen_ok]
 match vs with
 | []=>rfl
 | [v]=>rfl
 | v :: u :: vs=>simp [Sx.valOf]
theorem ret_all {M:Mem} (hm:MemOk E ρ F M w) (hQ:∀ k,¬ E.Q k) {rs:List RV} {vs:List Value} {r:Ret} (hal:Al (ResR E ρ F M w) rs vs) (hr:zZV rs=some r) (hs:rs.all RV.still=true ∨ ∀ k,¬ E.W k) :
  ∃ F',(∀ k,F k→F' k)∧(∀ k,F' k→E.F0 k ∨ (E.w0.heap.size≤k∧k < w.heap.size))∧RRet F' E.w0 w r (Sx.valOf vs):=by
 have gen:∀ ps,mapO RV.fz rs=some ps→Al (RP (outF E ρ F) w) ps vs:=fun ps hps=>ress_fz hm hQ hal hps hs
 have tup:∀ ps,mapO RV.fz rs=some ps→Sx.valOf vs=.tuple vs.toArray→r=.v (.t ps)→∃ F',(∀ k,F k→F' k)∧(∀ k,F' k→E.F0 k ∨ (E.w0.heap.size≤k∧k < w.heap.size))∧RRet F' E.w0 w r (Sx.valOf vs):=fun ps hps hv hr=>by
  subst hr;rw [hv];exact ⟨outF E ρ F,fun k hk=>.inl hk,fun k hk=>zQB hm hQ hk,.t ps vs (gen ps hps).1 (gen ps hps).2⟩
 have one:∀ x p v,rs=[x]→vs=[v]→x.fz=some p→r=.v p→∃ F',(∀ k,F k→F' k)∧(∀ k,F' k→E.F0 k ∨ (E.w0.heap.size≤k∧k < w.heap.size))∧RRet F' E.w0 w r (Sx.valOf vs):=fun x p v hx hv hp hr=>by
  subst hr hx hv
  have:=gen [p] (by simp [mapO,hp])
  exact ⟨outF E ρ F,fun k hk=>.inl hk,fun k hk=>zQB hm hQ hk,this.2 0 p v rfl rfl⟩
 cases rs with
 | nil =>
  have:=hal.nil_left
  subst this;simp only [zZV,mapO,vZV,vQZ] at hr;exact tup [] rfl rfl hr.symm
 | cons x rs =>
  obtain ⟨v,vs',rfl,hx,hal'⟩:=hal.cons_left;cases rs with
  | nil =>
   have:=hal'.nil_left
   subst this;have oth:(x.fz.bind fun y=>some (Ret.v y))=some r→∃ F',(∀ k,F k→F' k)∧(∀ k,F' k→E.F0 k ∨ (E.w0.heap.size≤k∧k < w.heap.size))∧RRet F' E.w0 w r (Sx.valOf [v]):=fun hr=>by
    simp only [vQQ,vQZ] at hr;obtain ⟨y,hy,rfl⟩:=hr;exact one x y v rfl rfl hy rfl
   cases x with
   | o id e sz rows =>
    cases hr;exact ⟨F,fun k hk=>hk,fun k hk=>by
     rcases F_W hm hk with h | h | h
     ·exact .inl h
     ·exact .inr ⟨h,(hm.fz k hk).1⟩
     ·exact absurd h (hQ k),ret_o hm hQ hx⟩
   | p id off cells =>
    cases off with
    | zero =>
     simp only [zZV,vQQ,vQZ] at hr;obtain ⟨cs,hcs,rfl⟩:=hr;have hW:∀ k,¬ E.W k:=hs.resolve_left (by simp [RV.still]);refine ⟨regF ρ F,fun k hk=>.inl hk,fun k hk => ?_,ret_p hm hx hcs hW⟩;rcases hk with hk | ⟨id',ad,c,n,s,h,hb⟩
     ·exact zQB hm hQ (.inl hk)
     ·exact zQB hm hQ (.inr ⟨id',_,h,hb,hW k⟩)
    | succ off=>exact oth hr
   | _=>exact oth hr
  | cons y rs =>
   obtain ⟨u,vs'',rfl,hy,hal''⟩:=hal'.cons_left;simp only [zZV,vQQ,vQZ] at hr;obtain ⟨ys,hys,rfl⟩:=hr;exact tup ys hys rfl rfl
theorem zKQ {M:Mem} (hm:MemOk E ρ F M w):∀ {rs:List RV} {ps:List PV} {vs:List Value},Al (ResR E ρ F M w) rs vs→mapO RV.fz rs=some ps→Al (RP (allF ρ F) w) ps vs
 | [],ps,vs,hal,hp=>by cases hp; rw [hal.nil_left]; exact Al.nil
 | r :: rs,ps,vs,hal,hp=>by
  simp only [mapO,vQQ,vQZ] at hp;obtain ⟨p,hp,ps',hps,rfl⟩:=hp;obtain ⟨v,vs',rfl,hr,hal'⟩:=hal.cons_left;refine Al.cons ?_ (zKQ hm hal' hps);rcases hr with ⟨h1,h2⟩ | ⟨p',rfl,h1⟩
  ·exact zJJ hm (fun k hk=>.inl hk) hp h1 h2 (.inr fun id L b hL hb=>.inr ⟨id,L,hL,hb⟩)
  ·cases hp; exact h1 _ (fun k hk=>.inl hk) fun id ad c k s b h hb=>.inr ⟨id,_,h,hb⟩
theorem ret_flat {M:Mem} (hm:MemOk E ρ F M w) {rs:List RV} {vs:List Value} {x:PV} (hal:Al (ResR E ρ F M w) rs vs) (hr:zZV rs=some (.v x)):RP (allF ρ F) w x (Sx.valOf vs):=by
 cases rs with
 | nil =>
  have:=hal.nil_left
  subst this;simp only [zZV,mapO,vZV,vQZ,Ret.v.injEq] at hr;subst hr;exact .t [] [] rfl fun i p v h=>by simp at h
 | cons y rs =>
  obtain ⟨v,vs',rfl,hx,hal'⟩:=hal.cons_left;cases rs with
  | nil =>
   have:=hal'.nil_left
   subst this;have oth:(y.fz.bind fun z=>some (Ret.v z))=some (.v x)→RP (allF ρ F) w x (Sx.valOf [v]):=fun hr=>by
    simp only [vQQ,vQZ,Ret.v.injEq] at hr;obtain ⟨z,hz,rfl⟩:=hr;exact (zKQ hm hal (ps:=[z]) (by simp [mapO,hz])).2 0 z v rfl rfl
   cases y with
   | o id e sz rows=>cases hr
   | p id off cells =>
    cases off with
    | zero =>
     simp only [zZV,vQQ,vQZ] at hr;obtain ⟨_,_,hr⟩:=hr; cases hr
    | succ off=>exact oth hr
   | _=>exact oth hr
  | cons z rs =>
   obtain ⟨u,vs'',rfl,hy,hal''⟩:=hal'.cons_left;simp only [zZV,vQQ,vQZ,Ret.v.injEq] at hr;obtain ⟨ys,hys,rfl⟩:=hr
   have:=zKQ hm hal hys
   exact .t ys _ this.1 this.2
theorem lookS_init:∀ {hs:List HV} {k t:Nat} {x:HV},kH (initS k hs) t=some x→k≤t∧hs[t - k]? = some x
 | [],k,t,x,h=>by cases h
 | y :: hs,k,t,x,h=>by
  simp only [initS] at h;by_cases e:k=t
  ·subst e; rw [lookS_same] at h; simpa using h
  ·rw [zKA e] at h;obtain ⟨h1,h2⟩:=lookS_init h;refine ⟨by omega,?_⟩;rw [show t - k=(t - (k + 1)) + 1 by omega]
   simpa using h2
theorem qWC {N f:Nat} {orc:Orc} {hs:List HV} {M M':Mem} {r:Ret} {vals:List Value} (hT:TabOk P T) (hm:P.follows .mixedOrders=true) (hE:E.D=Harm P) (hA:SndA P (qJG orc (runF T orc N))) (hB:SndB P T (qYI T orc (runF T orc N)))
  (h:runF T orc (N + 1) f hs M=some (r,M')):kJ P f∧∀ (hal:Al (RH ρ F w) hs vals) (hmem:MemOk E ρ F M w) (hW:M.isEmpty=true→∀ k,¬ E.W k) (hQ:(∀ k,¬ E.Q k) ∨ ∃ x,r=.v x∧x.flat=true),
   Calls P f vals.toArray w (fun e w'=>∃ v F' ρ' F1,e=.returned v∧GrowB E.W E.w0 w'∧MemOk E ρ' F1 M' w'∧(∀ k,F1 k→F' k)∧(∀ k,F' k→E.F0 k ∨ (E.w0.heap.size≤k∧k < w'.heap.size) ∨ E.Q k)∧RRet F' E.w0 w' r v):=by
 simp only [runF] at h;split at h
 ·cases h
 ·rename_i fi hfi;obtain ⟨hle,h⟩:=qQ h;obtain ⟨hent,fn,hf,hb,hn,hres⟩:=hT.fn f fi hfi;refine ⟨hent,fun hal hmem hW hQ=>calls_of_wp_defers hf hb ?_⟩;have hle':hs.length≤fi.ntmps:=vZJ hle;have hl:vals.length=hs.length:=hal.1.symm;refine runC_sound (E:=E) (C:=⟨T,qJG orc (runF T orc N),qYI T orc (runF T orc N),f,fi.ntmps⟩) hT hE hA hB hm fi.body _ _ _ _ _ h ⟨ρ,F,by simp [hn]; omega,fun d hd=>by simp at hd,fun t x hx => ?_,hmem⟩ fun e τ a' w' hk hr' => ?_
  ·obtain ⟨_,h2⟩:=lookS_init hx;simp only [Nat.sub_zero] at h2;obtain ⟨v,hv,hrv⟩:=hal.get h2;have hlt:=(List.getElem?_eq_some_iff.1 hv).1;refine ⟨v,?_,hrv⟩;rw [vQK hlt] at hv;simp [Array.getElem?_append,hlt]
   simpa using hv
  ·obtain ⟨ρ',F',hr'⟩:=hr';have key:∀ rs,mapO (zWW T τ) fi.results=some rs→∀ r',zZV rs=some r'→(bif M.isEmpty || rs.all RV.still then some (r',τ.M) else none)=some (r,M')→Leaves P fn a'.tmps (fun e w'=>∃ v2 F' ρ' F1,e=.returned v2∧GrowB E.W E.w0 w'∧MemOk E ρ' F1 M' w'∧(∀ k,F1 k→F' k)∧(∀ k,F' k→E.F0 k ∨ (E.w0.heap.size≤k∧k < w'.heap.size) ∨ E.Q k)∧RRet F' E.w0 w' r v2) a'.defers .returning w':=by
    intro rs hrs r' hr2 hb2;obtain ⟨hor,hb2⟩:=qQ hb2;cases hb2;obtain ⟨vs,h1,h2⟩:=ress_rel hT hr' hrs;have hst:rs.all RV.still=true ∨ ∀ k,¬ E.W k:=by
     rcases Bool.or_eq_true _ _ ▸ hor with h | h
     ·exact .inr (hW h)
     ·exact .inl h
    rcases hQ with hQ | ⟨x,hrx,hxf⟩
    ·obtain ⟨F2,f1,f2,f3⟩:=ret_all hr'.mem hQ h2 hr2 hst;exact qXA (zJA hres h1) ⟨Sx.valOf vs,F2,ρ',F',rfl,hr'.mem.grow,hr'.mem,f1,fun k hk=>(f2 k hk).imp id .inl,f3⟩ a'.defers fun d hd=>by rw [← hE]; exact hr'.defers d hd
    ·subst hrx;have f3:=(ret_flat hr'.mem h2 hr2).flat (F':=F') (w':=w') hxf;refine qXA (zJA hres h1) ⟨Sx.valOf vs,F',ρ',F',rfl,hr'.mem.grow,hr'.mem,fun k hk=>hk,fun k hk => ?_,f3⟩ a'.defers fun d hd=>by rw [← hE]; exact hr'.defers d hd
     rcases F_W hr'.mem hk with h | h | h
     ·exact .inl h
     ·exact .inr (.inl ⟨h,(hr'.mem.fz k hk).1⟩)
     ·exact .inr (.inr h)
   have key2:(match oaOf T τ fi.results with
     | some r=>bif M.isEmpty then some (r,τ.M) else none
     | none=>(mapO (zWW T τ) fi.results).bind fun rs=>(zZV rs).bind fun r=>bif M.isEmpty || rs.all RV.still then some (r,τ.M) else none)=some (r,M')→Leaves P fn a'.tmps (fun e w'=>∃ v2 F' ρ' F1,e=.returned v2∧GrowB E.W E.w0 w'∧MemOk E ρ' F1 M' w'∧(∀ k,F1 k→F' k)∧(∀ k,F' k→E.F0 k ∨ (E.w0.heap.size≤k∧k < w'.heap.size) ∨ E.Q k)∧RRet F' E.w0 w' r v2) a'.defers .returning w':=by
    intro hk;cases ho:oaOf T τ fi.results with
    | none =>
     rw [ho] at hk;simp only [vQQ] at hk;obtain ⟨rs,hrs,r',hr2,hb2⟩:=hk;exact key rs hrs r' hr2 hb2
    | some r0 =>
     rw [ho] at hk;obtain ⟨hme,hk⟩:=qQ hk;cases hk;have hQ':∀ k,¬ E.Q k:=by
      rcases hQ with hQ | ⟨x,hrx,_⟩
      ·exact hQ
      ·subst hrx;exact absurd ho (oa_ne x)
     obtain ⟨v,h1,h2⟩:=oa_rel (M:=M) hT hr' hQ' ho;refine qXA (zJA hres h1) ⟨v,F',ρ',F',rfl,hr'.mem.grow,hr'.mem,fun k hk=>hk,fun k hk => ?_,h2⟩ a'.defers fun d hd=>by rw [← hE]; exact hr'.defers d hd
     rcases F_W hr'.mem hk with h | h | h
     ·exact .inl h
     ·exact .inr (.inl ⟨h,(hr'.mem.fz k hk).1⟩)
     ·exact .inr (.inr h)
   cases e with
   | exit id=>simp only [endK] at hk; cases hk
   | normal=>exact key2 hk
   | ret=>exact key2 hk
theorem RRet.pv {w0:World} {r:Ret} {x:PV} {v:Value} (h:RRet F w0 w r v) (hx:zGF r=some x):∃ F2:Nat→Prop,(∀ k,F k→F2 k)∧(∀ k,F2 k→F k ∨ (w0.heap.size≤k∧k < w.heap.size))∧RP F2 w x v:=by
 cases r with
 | v y=>cases hx; exact ⟨F,fun _ h=>h,fun _ h=>.inl h,h⟩
 | ow e sz rows =>
  cases hx;obtain ⟨ad,c,vr,rfl,h0,hal,hrl,hone,hown,hb⟩:=h;refine ⟨fun k=>F k ∨ ad.map (·.block)=some k,fun k hk=>.inl hk,fun k hk => ?_,?_⟩
  ·rcases hk with hk | hk
   ·exact .inl hk
   ·exact .inr (hb k hk).2
  ·exact (uZ (ρ:=fun i=>if i=0 then some (.reg ad c rows.len sz) else none) (id:=0) (e:=e) (sz:=sz) (F:=F) ⟨ad,c,vr,by simp,h0,hal,hrl,hone,hown⟩ (fun k hk=>.inl hk) (fun L b hL hbl=>by simp at hL; subst hL; exact .inr hbl) ad c rows.len sz (by simp)).1
 | pb cells=>cases hx
 | oa xs e sz rows=>cases hx
def zY (P:Program) (g:Nat) (ps:List PV) (r:Ret):Prop:=kJ P g∧∀ (w:World) (F:Nat→Prop) (vals:List Value),(∀ k,F k→k < w.heap.size)→Al (RP F w) ps vals →
 Calls P g vals.toArray w (fun e w'=>∃ v F',e=.returned v∧Grow w w'∧(∀ k,F k→F' k)∧(∀ k,F' k→F k ∨ (w.heap.size≤k∧k < w'.heap.size))∧RRet F' w w' r v)
structure OrcOk (P:Program) (T:Tab) (orc:Orc):Prop where
 a:∀ g o,orc.a g=some o→∀ ps r,o ps=some r→zY P g ps r
 b:∀ g o,orc.b g=some o→∀ hs ps x ps',o hs ps=some (x,ps')→yYE P g hs ps x ps' (T.gq g) (T.gk g)
theorem fn_soundA {N f:Nat} {orc:Orc} {ps:List PV} {r:Ret} (hT:TabOk P T) (hm:P.follows .mixedOrders=true) (hA:SndA P (qJG orc (runF T orc N))) (hB:SndB P T (qYI T orc (runF T orc N)))
  (h:run T orc (N + 1) f ps=some r):zY P f ps r:=by
 simp only [run,vQQ,vQZ] at h;obtain ⟨⟨r',M'⟩,h,rfl⟩:=h;refine ⟨(qWC (E:=⟨default,fun _=>False,fun _=>False,Harm P,fun _=>False,fun _=>False⟩) (ρ:=fun _=>none) (F:=fun _=>False) (w:=default) (vals:=[]) hT hm rfl hA hB h).1,fun w F vals hF hal => ?_⟩;refine Calls.mono ((qWC (E:=⟨w,F,fun _=>False,Harm P,fun _=>False,fun _=>False⟩) (ρ:=fun _=>none) (F:=F) (w:=w) (vals:=vals) hT hm rfl hA hB h).2 (Al.map_left hal) ⟨(fun id e hl=>by cases hl),(fun id L hL=>by cases hL),(fun id e hl=>by cases hl),(fun id L hL=>by cases hL),(fun id id' L L' b h=>by cases h),(fun id L b h=>by cases h),fun k hk=>⟨hF k hk,.inl hk⟩,fun k hk=>hk,GrowB.refl _ _,fun b hb=>hb.elim,fun b hb=>hb.elim⟩ (fun _ k hk=>hk) (.inl fun _ h=>h)) ?_
 rintro e w' ⟨v,F',ρ',F1,rfl,g,hmem,f1,f2,hr⟩
 exact ⟨v,F',rfl,⟨g.os,g.tape,g.output,g.size,fun k hk=>g.block k hk (fun h=>h)⟩,fun k hk=>f1 k (hmem.fz0 k hk),fun k hk=>(f2 k hk).imp id fun h=>h.resolve_right fun h=>h,hr⟩
theorem fn_soundB {N f:Nat} {orc:Orc} {hs:List HV} {ps ps':List PV} {x:PV} (hT:TabOk P T) (hm:P.follows .mixedOrders=true) (hA:SndA P (qJG orc (runF T orc N))) (hB:SndB P T (qYI T orc (runF T orc N)))
  (hgq:T.gq f=false) (h:runB T orc (N + 1) f hs ps=some (x,ps')):qVA P f hs ps x ps':=by
 simp only [runB,hgq,zVU,vYY,vQQ,vQZ,vQY] at h;obtain ⟨⟨r',M'⟩,h,ps2,hps,x2,hx2,x3,rfl,rfl,rfl⟩:=h;have em:memB false ps=[(pid,.blk (ps.map PV.toH))]:=rfl;rw [em] at h;refine ⟨(qWC (E:=⟨default,fun _=>False,fun _=>False,Harm P,fun _=>False,fun _=>False⟩) (ρ:=fun _=>none) (F:=fun _=>False) (w:=default) (vals:=[]) hT hm rfl hA hB h).1,fun w F b vals us ty hF hFb hb hheap hpu hone hpid hal => ?_⟩
 let ρ:Own:=fun i=>if i=pid then some (.blk b) else none
 have hρ:ρ pid=some (.blk b):=if_pos rfl;have inv:∀ id L,ρ id=some L→id=pid∧L=.blk b:=fun id L hL=>by
  by_cases e:id=pid
  ·subst e; rw [hρ] at hL; cases hL; exact ⟨rfl,rfl⟩
  ·simp only [ρ,if_neg e] at hL; cases hL
 refine Calls.mono ((qWC (E:=⟨w,F,(· = b),Harm P,fun _=>False,fun _=>False⟩) (ρ:=ρ) (F:=F) (w:=w) (vals:=vals) hT hm rfl hA hB h).2 ⟨hal.1,fun i y v hy hv => ?_⟩ ⟨fun id e hl => ?_,fun id L hL _ => ?_,fun id e hl => ?_,fun id L hL hi => ?_,fun id id' L L' b h1 h2 _ _ => ?_,fun id L b' hL hb' => ?_,fun k hk=>⟨hF k hk,.inl hk⟩,fun k hk=>hk,GrowB.refl _ _,fun b' hb' => ?_,fun b' hb'=>hb'.elim⟩ (fun h=>by cases h) (.inl fun _ h=>h)) ?_
 ·have:=hal.2 i y v hy hv
  cases y with
  | v p=>exact this
  | p id off =>
   have hid:=hpid _ (vQW hy) id off rfl;subst hid;have hv':v=.pointer (some ⟨b,off,none⟩):=this;subst hv';exact ⟨b,hρ,rfl⟩
  | _=>exact this.elim
 ·by_cases e1:pid=id
  ·subst e1;simp only [qV,Nat.beq_refl,vYZ,vQZ] at hl;subst hl;exact ⟨b,us,ty,hρ,hheap,Al.map_left (hpu.imp fun _ _ _ h=>zZW h),hone⟩
  ·simp only [qV,uW e1,vYY] at hl; cases hl
 ·obtain ⟨rfl,rfl⟩:=inv id L hL;exact ⟨.blk (ps.map PV.toH),by simp only [qV,Nat.beq_refl,vYZ]⟩
 ·by_cases e1:pid=id
  ·rw [← e1]; decide
  ·simp only [qV,uW e1,vYY] at hl; cases hl
 ·obtain ⟨_,rfl⟩:=inv id L hL; cases hi
 ·rw [(inv id L h1).1,(inv id' L' h2).1]
 ·obtain ⟨rfl,rfl⟩:=inv id L hL;cases hb';exact ⟨hFb,hb,.inr rfl⟩
 ·have:b'=b:=hb'
  subst this; exact .inl hρ
 ·rintro e w' ⟨v,F',ρ',F1,rfl,g,hmem,f1,f2,hr⟩
  obtain ⟨F2,f3,f4,hx⟩:=hr.pv hx2;unfold qKD at hps;split at hps
  ·rename_i hc hl;rw [vYY] at hps;obtain ⟨b2,us',ty',hρ2,hheap',hal',hone'⟩:=hmem.ent pid _ hl
   have:=(hmem.pin b rfl).resolve_right fun h=>h
   rw [hρ2] at this;cases this;have h1:=yJ hps;have hbl:∀ id L k,ρ' id=some L→(∃ a c n sz,L=.reg a c n sz)→L.bl=some k→¬ F1 k∧w.heap.size≤k∧k < w'.heap.size:=fun id L k hL hreg hk=>by
    have ho:=hmem.off id L k hL hk;refine ⟨ho.1,?_,ho.2.1⟩;rcases ho.2.2 with h | h
    ·exact h
    ·have hp:=hmem.apart id pid L _ k hL hρ2 hk (by have hkb:k=b:=h; rw [hkb]; rfl);subst hp;rw [hρ2] at hL;obtain ⟨a,c,n,sz,rfl⟩:=hreg;cases hL
   let F3:Nat→Prop:=fun k=>F2 k ∨ ∃ id L,ρ' id=some L∧(∃ a c n sz,L=.reg a c n sz)∧L.bl=some k
   refine ⟨v,F3,us',ty',rfl,g,fun k hk=>.inl (f3 k (f1 k (hmem.fz0 k hk))),fun k hk => ?_,hx.mono fun k hk=>⟨.inl hk,rfl⟩,hheap',⟨by rw [← h1.1,hal'.1],fun i p u hp hu => ?_⟩,hone'⟩
   ·rcases hk with hk | ⟨id,L,hL,hreg,hk⟩
    ·rcases f4 k hk with h | h
     ·exact (f2 k h).imp id fun h=>h.resolve_right fun h=>h
     ·exact .inr h
    ·exact .inr (hbl id L k hL hreg hk).2
   ·have hil:=(List.getElem?_eq_some_iff.1 hp).1;have hl2:i < hc.length:=by rw [h1.1]; exact hil
    have hpv:=h1.2 i _ p (vQK hl2) hp;have hrh:=hal'.2 i _ u (vQK hl2) hu;generalize hc[i]=y at hpv hrh;unfold HV.pz at hpv;split at hpv
    ·cases hpv; exact RP.mono (fun k hk=>⟨.inl (f3 k (f1 k hk)),rfl⟩) hrh
    ·cases hpv;have e:u=.slice none 0 0:=hrh;subst e;exact .zs
    ·rename_i id;split at hpv
     ·rename_i e sz rows hl3;cases hpv;obtain ⟨a,c,k,sz',hr1,rfl⟩:=hrh;exact (uZ (hmem.ent id _ hl3) (F':=F3) (fun k hk=>.inl (f3 k (f1 k hk))) (fun L b hL hb=>.inr ⟨id,L,hL,⟨_,_,_,_,by rw [hr1] at hL; cases hL; rfl⟩,hb⟩) a c k sz' hr1).1
     ·cases hpv
    ·cases hpv
  ·cases hps
theorem fn_soundQ {N f:Nat} {orc:Orc} {hs:List HV} {ps ps':List PV} {x:PV} (hT:TabOk P T) (hm:P.follows .mixedOrders=true) (hA:SndA P (qJG orc (runF T orc N))) (hB:SndB P T (qYI T orc (runF T orc N)))
  (hgq:T.gq f=true) (h:runB T orc (N + 1) f hs ps=some (x,ps')):yJF P f hs ps x ps':=by
 simp only [runB,hgq,zVU,vYZ,vQQ,vQZ,vQY] at h;obtain ⟨⟨r',M'⟩,h,ps2,hps,x2,hx2,x3,hfx,rfl,rfl⟩:=h;obtain ⟨hflat,hfx⟩:=qQ hfx;simp only [vQZ] at hfx;subst hfx;have hr':r'=.v x2:=by
  cases r' with
  | v y=>cases hx2; rfl
  | ow e sz rows=>cases hx2; cases rows <;> simp [Rows.pv,PV.flat,PV.flat2,PV.flat1] at hflat
  | pb cells=>cases hx2
  | oa xs e sz rows=>cases hx2
 subst hr';refine ⟨(qWC (E:=⟨default,fun _=>False,fun _=>False,Harm P,fun _=>False,fun _=>False⟩) (ρ:=fun _=>none) (F:=fun _=>False) (w:=default) (vals:=[]) hT hm rfl hA hB h).1,fun w F b A vals us ty hF hFb hb hheap ho1 hcells hone hAoff hpid hal => ?_⟩
 -- the growing slice that came in
 obtain ⟨L1,ent1,hL1,hmem1⟩:∃ (L1:Option Loc) (en:List (Nat × Ent)),(∀ L,L1=some L→∃ c k s,L=.reg A c k s)∧memB true ps=(pid,.blk (ps.map (PV.toQ (pid + 1)))) :: en ∧
   ((qWQ ps=none∧en=[]∧L1=none) ∨ ∃ e sz y rows c vr,qWQ ps=some (e,sz,y)∧y.rowsO=some rows∧en=[(pid + 1,.reg e sz rows)]∧L1=some (.reg A c rows.len sz)∧0 < sz∧Al (Al (RP F w)) rows.L vr∧(∀ r ∈ rows.L,r.length=sz)∧(∀ y ∈ vr,∀ u ∈ y,u.oneCell'=true)∧w.ownsRow 0 e sz (.slice A rows.len c) rows.len vr.flatten ∧
    ∀ (i e2 sz2:Nat) (x2:PV) (u:Value),ps[i]? = some (.gs e2 sz2 x2)→us[i]? = some u→u=.slice A rows.len c):=by
  cases hfg:qWQ ps with
  | none=>exact ⟨none,[],fun L hL=>(by cases hL),by simp only [memB,hfg,gEnt,vYZ],.inl ⟨rfl,rfl,rfl⟩⟩
  | some q =>
   obtain ⟨e,sz,y⟩:=q;obtain ⟨i,hi⟩:=zUZ hfg;obtain ⟨u,hu2,hg⟩:=hcells.get hi;obtain ⟨rows,c,vr,q1,q2,q3,q4,q5,q6,q7⟩:=hg;refine ⟨some (.reg A c rows.len sz),[(pid + 1,.reg e sz rows)],fun L hL=>(by cases hL; exact ⟨_,_,_,rfl⟩),by simp only [memB,hfg,gEnt,q1,vZV,vYZ],.inr ⟨e,sz,y,rows,c,vr,rfl,q1,rfl,rfl,q3,q4,q5,q6,q7,fun i2 e2 sz2 x3 u2 hi2 hu3 => ?_⟩⟩;by_cases e3:i2=i
   ·subst e3; rw [hu2] at hu3; cases hu3; exact q2
   ·exact (zVE ho1 e3 hi2 hi).elim
 obtain ⟨hmem1,hcase⟩:=hmem1;rw [hmem1] at h;have hpp:pid + 1 ≠ pid:=by decide
 let ρ:Own:=fun i=>if i=pid then some (.blk b) else if i=pid + 1 then L1 else none
 have hρ:ρ pid=some (.blk b):=if_pos rfl;have hρ1:ρ (pid + 1)=L1:=by show (if pid + 1=pid then _ else if pid + 1=pid + 1 then L1 else none)=L1; rw [if_neg hpp,if_pos rfl]
 have inv:∀ id L,ρ id=some L→(id=pid∧L=.blk b) ∨ (id=pid + 1∧L1=some L):=fun id L hL=>by
  by_cases e:id=pid
  ·subst e; rw [hρ] at hL; cases hL; exact .inl ⟨rfl,rfl⟩
  ·by_cases e2:id=pid + 1
   ·subst e2; rw [hρ1] at hL; exact .inr ⟨rfl,hL⟩
   ·simp only [ρ,if_neg e,if_neg e2] at hL; cases hL
 have look:∀ id e,qV ((pid,Ent.blk (ps.map (PV.toQ (pid + 1)))) :: ent1) id=some e→(id=pid∧e=.blk (ps.map (PV.toQ (pid + 1)))) ∨ (id=pid + 1∧ent1=[(pid + 1,e)]):=fun id e hl=>by
  by_cases e1:pid=id
  ·subst e1;simp only [qV,Nat.beq_refl,vYZ,vQZ] at hl;exact .inl ⟨rfl,hl.symm⟩
  ·simp only [qV,uW e1,vYY] at hl;rcases hcase with ⟨_,rfl,_⟩ | ⟨e',sz,y,rows,c,vr,_,_,rfl,_⟩
   ·cases hl
   ·by_cases e2:pid + 1=id
    ·subst e2;simp only [qV,Nat.beq_refl,vYZ,vQZ] at hl;exact .inr ⟨rfl,by rw [hl]⟩
    ·simp only [qV,uW e2,vYY] at hl; cases hl
 refine Calls.mono ((qWC (E:=⟨w,F,fun k=>k=b ∨ A.map (·.block)=some k,Harm P,fun k=>A.map (·.block)=some k,fun _=>False⟩) (ρ:=ρ) (F:=F) (w:=w) (vals:=vals) hT hm rfl hA hB h).2 ⟨hal.1,fun i y v hy hv => ?_⟩ ⟨fun id e hl => ?_,fun id L hL _ => ?_,fun id e hl => ?_,fun id L hL hi => ?_,fun id id' L L' b' h1 h2 hb1 hb2 => ?_,fun id L b' hL hb' => ?_,fun k hk=>⟨hF k hk,.inl hk⟩,fun k hk=>hk,GrowB.refl _ _,fun b' hb' => ?_,fun b' hb'=>hb'.elim⟩ (fun h=>by cases h) (.inr ⟨_,rfl,hflat⟩)) ?_
 ·have:=hal.2 i y v hy hv
  cases y with
  | v p=>exact this
  | p id off =>
   have hid:=hpid _ (vQW hy) id off rfl;subst hid;have hv':v=.pointer (some ⟨b,off,none⟩):=this;subst hv';exact ⟨b,hρ,rfl⟩
  | _=>exact this.elim
 ·rcases look id e hl with ⟨rfl,rfl⟩ | ⟨rfl,he⟩
  ·refine ⟨b,us,ty,hρ,hheap,Al.map_left ⟨hcells.1,fun i p u hi hu3=>toQ_rel (hcells.2 i p u hi hu3) fun e sz x2 rows c hpe hrows huv => ?_⟩,hone⟩;subst hpe;have hfg:=zXQ ho1 hi;rcases hcase with ⟨h1,_⟩ | ⟨e3,sz3,x3,zGE,c3,vr,hf3,hr3,_,hL,_,_,_,_,_,hall⟩
   ·rw [hfg] at h1; cases h1
   ·rw [hfg] at hf3;cases hf3;rw [hrows] at hr3;cases hr3
    have:=hall i _ _ _ u hi hu3
    rw [huv] at this;simp only [Value.slice.injEq,true_and] at this;exact ⟨sz,by rw [hρ1,hL,this]⟩
  ·rcases hcase with ⟨_,h1,_⟩ | ⟨e3,sz3,x3,zGE,c3,vr,_,_,h1,hL,q3,q4,q5,q6,q7,_⟩
   ·rw [h1] at he; cases he
   ·rw [h1] at he;cases he;exact ⟨A,c3,vr,by rw [hρ1]; exact hL,q3,q4,q5,q6,q7⟩
 ·rcases inv id L hL with ⟨rfl,_⟩ | ⟨rfl,h1⟩
  ·exact ⟨.blk (ps.map (PV.toQ (pid + 1))),by simp only [qV,Nat.beq_refl,vYZ]⟩
  ·rcases hcase with ⟨_,_,h2⟩ | ⟨e3,sz3,x3,zGE,c3,vr,_,_,h2,_⟩
   ·rw [h2] at h1; cases h1
   ·rw [h2]; exact ⟨.reg e3 sz3 zGE,rfl⟩
 ·rcases look id e hl with ⟨rfl,_⟩ | ⟨rfl,_⟩ <;> decide
 ·rcases inv id L hL with ⟨_,rfl⟩ | ⟨_,h1⟩
  ·cases hi
  ·obtain ⟨_,_,_,rfl⟩:=hL1 L h1; cases hi
 ·have cross:∀ L,L1=some L→L.bl=some b→False:=fun L h3 h4=>by
   obtain ⟨_,_,_,rfl⟩:=hL1 L h3;exact (hAoff b h4).2.2 rfl
  rcases inv id L h1 with ⟨rfl,rfl⟩ | ⟨rfl,h3⟩ <;> rcases inv id' L' h2 with ⟨rfl,rfl⟩ | ⟨rfl,h4⟩
  ·rfl
  ·cases hb1; exact (cross L' h4 hb2).elim
  ·cases hb2; exact (cross L h3 hb1).elim
  ·rfl
 ·rcases inv id L hL with ⟨rfl,rfl⟩ | ⟨rfl,h3⟩
  ·cases hb'; exact ⟨hFb,hb,.inr (.inl rfl)⟩
  ·obtain ⟨_,_,_,rfl⟩:=hL1 L h3
   have:=hAoff b' hb'
   exact ⟨this.1,this.2.1,.inr (.inr hb')⟩
 ·rcases hb' with hb' | hb'
  ·exact .inl (by rw [hb']; exact hρ)
  ·exact .inr hb'
 ·rintro e w' ⟨v,F',ρ',F1,rfl,g,hmem,f1,f2,hr⟩
  have hbnA:¬ A.map (·.block)=some b:=fun h=>(hAoff b h).2.2 rfl
  unfold qKD at hps;split at hps
  ·rename_i hc hl;rw [vYZ] at hps;simp only [vQQ] at hps;obtain ⟨ps3,hps,ho3⟩:=hps;obtain ⟨ho3,hq⟩:=qQ ho3;cases hq;obtain ⟨b2,us',ty',hρ2,hheap',hal',hone'⟩:=hmem.ent pid _ hl;have hb2:b2=b:=by
    have h3:=(hmem.pin b (.inl rfl)).resolve_right hbnA;rw [hρ2] at h3;cases h3; rfl
   subst hb2;have h1:=yJ hps
   -- what a cell is
   have cell:∀ (i:Nat) p u,ps2[i]? = some p→us'[i]? = some u→(RP F1 w' p u) ∨ ∃ id e sz rows a c,p=.gs e sz rows.pv∧qV M' id=some (.reg e sz rows)∧ρ' id=some (.reg a c rows.len sz)∧u=.slice a rows.len c:=fun i p u hp hu=>by
    have hil:=(List.getElem?_eq_some_iff.1 hp).1;have hl2:i < hc.length:=by rw [h1.1]; exact hil
    have hpv:=h1.2 i _ p (vQK hl2) hp;have hrh:=hal'.2 i _ u (vQK hl2) hu;generalize hc[i]=y at hpv hrh;unfold HV.pq at hpv;split at hpv
    ·cases hpv; exact .inl hrh
    ·cases hpv;have e:u=.slice none 0 0:=hrh;subst e;exact .inl .zs
    ·rename_i id;split at hpv
     ·rename_i e sz rows hl3;cases hpv;obtain ⟨a,c,k,sz',hr1,rfl⟩:=hrh;obtain ⟨a2,c2,vr,hr2,_⟩:=hmem.ent id _ hl3;have hr3:=hr1;rw [hr1] at hr2;simp only [vQZ,Loc.reg.injEq] at hr2;obtain ⟨_,_,rfl,rfl⟩:=hr2;exact .inr ⟨id,e,_,rows,a,c,rfl,hl3,hr1,rfl⟩
     ·cases hpv
    ·cases hpv
   obtain ⟨A',hA'⟩:∃ A':Option Addr,(∀ (i:Nat) p u,ps2[i]? = some p→us'[i]? = some u→GsR F1 w' A' p u)∧∀ k,A'.map (·.block)=some k→¬ F1 k∧k < w'.heap.size∧k ≠ b2∧(w.heap.size≤k ∨ A.map (·.block)=some k):=by
    cases hfg:qWQ ps2 with
    | none =>
     refine ⟨none,fun i p u hp hu => ?_,fun k hk=>by cases hk⟩;rcases cell i p u hp hu with h | ⟨id,e,sz,rows,a,c,rfl,_⟩
     ·exact yQA h
     ·rw [zXQ ho3 hp] at hfg; cases hfg
    | some q =>
     obtain ⟨e,sz,y⟩:=q;obtain ⟨i0,hi0⟩:=zUZ hfg;obtain ⟨u0,hu0,_⟩:∃ u,us'[i0]? = some u∧True:=by
      have hil:=(List.getElem?_eq_some_iff.1 hi0).1
      have:i0 < us'.length:=by rw [← hal'.1,h1.1]; exact hil
      exact ⟨_,vQK this,trivial⟩
     rcases cell i0 _ u0 hi0 hu0 with h | ⟨id,e',sz',rows,a,c,hpe,hl3,hr1,rfl⟩
     ·cases h
     ·simp only [PV.gs.injEq] at hpe;obtain ⟨rfl,rfl,rfl⟩:=hpe;obtain ⟨a2,c2,vr,hr2,q3,q4,q5,q6,q7⟩:=hmem.ent id _ hl3;rw [hr1] at hr2;simp only [vQZ,Loc.reg.injEq] at hr2;obtain ⟨rfl,rfl,_,_⟩:=hr2;refine ⟨a,fun i p u hp hu => ?_,fun k hk => ?_⟩
      ·by_cases ei:i=i0
       ·subst ei;rw [hi0] at hp; rw [hu0] at hu;cases hp; cases hu;exact ⟨rows,c,vr,by cases rows <;> rfl,rfl,q3,q4,q5,q6,q7⟩
       ·rcases cell i p u hp hu with h | ⟨_,e2,sz2,zQV,_,_,rfl,_⟩
        ·exact yQA h
        ·exact (zVE ho3 ei hp hi0).elim
      ·have ho:=hmem.off id _ k hr1 hk;have hkb:k ≠ b2:=fun e=>by
        subst e
        have:=hmem.apart id pid _ _ k hr1 hρ2 hk rfl
        subst this;rw [hρ2] at hr1; cases hr1
       refine ⟨ho.1,ho.2.1,hkb,?_⟩;rcases ho.2.2 with h | h | h
       ·exact .inl h
       ·exact absurd h hkb
       ·exact .inr h
   refine ⟨v,F1,us',ty',A',rfl,g,fun k hk=>hmem.fz0 k hk,fun k hk => ?_,RP.flat hr hflat,hheap',⟨by rw [← h1.1,hal'.1],hA'.1⟩,hone',hA'.2⟩;rcases F_W hmem hk with h | h | h
   ·exact .inl h
   ·exact .inr (.inl ⟨h,(hmem.fz k hk).1⟩)
   ·exact .inr (.inr h)
  ·cases hps
theorem fn_soundBq {N f:Nat} {orc:Orc} {hs:List HV} {ps ps':List PV} {x:PV} (hT:TabOk P T) (hm:P.follows .mixedOrders=true) (hA:SndA P (qJG orc (runF T orc N))) (hB:SndB P T (qYI T orc (runF T orc N)))
  (h:runB T orc (N + 1) f hs ps=some (x,ps')):yQI P f hs ps x ps' (T.gq f):=by
 cases hq:T.gq f with
 | false=>exact fn_soundB hT hm hA hB hq h
 | true=>exact fn_soundQ hT hm hA hB hq h
theorem zZU {orc:Orc} (hT:TabOk P T) (hm:P.follows .mixedOrders=true) (hO:OrcOk P T orc):∀ N,SndA P (qJG orc (runF T orc N))∧SndB P T (qYI T orc (runF T orc N))
 | 0=>by
  refine ⟨fun g ps r h => ?_,fun g hs ps x ps' h => ?_⟩
  ·unfold qJG at h;split at h
   ·rename_i o ho; exact hO.a g o ho ps r h
   ·cases h
  ·unfold qYI at h;split at h
   ·rename_i o ho; exact hO.b g o ho hs ps x ps' h
   ·cases hgk:T.gk g <;> rw [hgk] at h <;> cases h
 | N + 1=>by
  obtain ⟨hA,hB⟩:=zZU hT hm hO N;refine ⟨fun g ps r h => ?_,fun g hs ps x ps' h => ?_⟩
  ·unfold qJG at h;split at h
   ·rename_i o ho; exact hO.a g o ho ps r h
   ·exact fn_soundA hT hm hA hB h
  ·unfold qYI at h;split at h
   ·rename_i o ho; exact hO.b g o ho hs ps x ps' h
   ·cases hgk:T.gk g with
    | true=>rw [hgk] at h; cases h
    | false=>rw [hgk,vYY] at h; exact fn_soundBq hT hm hA hB h
theorem qZI {orc:Orc} {N f:Nat} {ps:List PV} {r:Ret} (hT:TabOk P T) (hm:P.follows .mixedOrders=true) (hO:OrcOk P T orc) (h:run T orc N f ps=some r):zY P f ps r:=by
 cases N with
 | zero=>cases h
 | succ N=>exact fn_soundA hT hm (zZU hT hm hO N).1 (zZU hT hm hO N).2 h
theorem runB_sound {orc:Orc} {N f:Nat} {hs:List HV} {ps ps':List PV} {x:PV} (hT:TabOk P T) (hm:P.follows .mixedOrders=true) (hO:OrcOk P T orc) (h:runB T orc N f hs ps=some (x,ps')):yQI P f hs ps x ps' (T.gq f):=by
 cases N with
 | zero=>cases h
 | succ N=>exact fn_soundBq hT hm (zZU hT hm hO N).1 (zZU hT hm hO N).2 h
theorem zQC:OrcOk P T Orc.none:=⟨(fun g o h=>by cases h),(fun g o h=>by cases h)⟩
end
end Go.Rx

/- Part 13 of the texts behind the last one: rules and contracts. No condition. -/
import Derived.Test.YtklmegnpfhiibaaGreatBK12
open Option renaming bind_eq_some_iff → vQQ, bind_some → vZV
open Option.some renaming injEq → vQZ
open Bool renaming and_eq_true → vQJ
open List renaming getElem?_eq_getElem → vQK, mem_cons_of_mem → vQV, mem_cons_self → vQG
open Nat renaming eq_of_beq_eq_true → vQU, lt_of_lt_of_le → vZZ
namespace Go.Rx
open Go.RowKit Go.Sx
def ArgB (F:Nat→Prop) (w:World) (b:Nat):HV→Value→Prop
 | .v x,v=>RP F w x v
 | .p _ off,v=>v=.pointer (some ⟨b,off,none⟩)
 | _,_=>False
def qVA (P:Program) (g:Nat) (hs:List HV) (ps:List PV) (x:PV) (ps':List PV):Prop:=kJ P g∧∀ (w:World) (F:Nat→Prop) (b:Nat) (vals us:List Value) (ty:TypeId),(∀ k,F k→k < w.heap.size)→¬ F b→b < w.heap.size →
 w.heap[b]? = some (.cells us.toArray ty)→Al (RP F w) ps us→(∀ u ∈ us,u.oneCell'=true)→(∀ h ∈ hs,∀ id off,h=.p id off→id=pid)→Al (ArgB F w b) hs vals →
 Calls P g vals.toArray w (fun e w'=>∃ v F' us' ty',e=.returned v∧GrowB (· = b) w w'∧(∀ k,F k→F' k)∧(∀ k,F' k→F k ∨ (w.heap.size≤k∧k < w'.heap.size))∧RP F' w' x v ∧
  w'.heap[b]? = some (.cells us'.toArray ty')∧Al (RP F' w') ps' us'∧∀ u ∈ us',u.oneCell'=true)
def GsR (F:Nat→Prop) (w:World) (A:Option Addr) (p:PV) (v:Value):Prop:=match p with
 | .gs e sz x=>∃ (rows:Rows) (c:Nat) (vr:List (List Value)),x.rowsO=some rows∧v=.slice A rows.len c∧0 < sz∧Al (Al (RP F w)) rows.L vr∧(∀ r ∈ rows.L,r.length=sz)∧(∀ y ∈ vr,∀ u ∈ y,u.oneCell'=true)∧w.ownsRow 0 e sz (.slice A rows.len c) rows.len vr.flatten
 | p=>RP F w p v
theorem yQA {F:Nat→Prop} {w:World} {A:Option Addr} {p:PV} {v:Value} (h:RP F w p v):GsR F w A p v:=by
 cases p with
 | gs e sz x=>cases h
 | _=>exact h
def yJF (P:Program) (g:Nat) (hs:List HV) (ps:List PV) (x:PV) (ps':List PV):Prop:=kJ P g∧∀ (w:World) (F:Nat→Prop) (b:Nat) (A:Option Addr) (vals us:List Value) (ty:TypeId),(∀ k,F k→k < w.heap.size)→¬ F b→b < w.heap.size →
 w.heap[b]? = some (.cells us.toArray ty)→oneG ps=true→Al (GsR F w A) ps us→(∀ u ∈ us,u.oneCell'=true)→(∀ k,A.map (·.block)=some k→¬ F k∧k < w.heap.size∧k ≠ b)→(∀ h ∈ hs,∀ id off,h=.p id off→id=pid)→Al (ArgB F w b) hs vals →
 Calls P g vals.toArray w (fun e w'=>∃ v F' us' ty' A',e=.returned v∧GrowB (fun k=>k=b ∨ A.map (·.block)=some k) w w'∧(∀ k,F k→F' k)∧(∀ k,F' k→F k ∨ (w.heap.size≤k∧k < w'.heap.size) ∨ A.map (·.block)=some k)∧RP F' w' x v ∧
  w'.heap[b]? = some (.cells us'.toArray ty')∧Al (GsR F' w' A') ps' us'∧(∀ u ∈ us',u.oneCell'=true)∧∀ k,A'.map (·.block)=some k→¬ F' k∧k < w'.heap.size∧k ≠ b∧(w.heap.size≤k ∨ A.map (·.block)=some k))
def yQI (P:Program) (g:Nat) (hs:List HV) (ps:List PV) (x:PV) (ps':List PV):Bool→Prop
 | false=>qVA P g hs ps x ps'
 | true=>yJF P g hs ps x ps'
def SndK1 (P:Program) (g:Nat) (hs:List HV) (ps:List PV) (x:PV) (ps':List PV):Prop:=kJ P g∧∀ (w:World) (F:Nat→Prop) (b:Nat) (A:Option Addr) (vals us:List Value) (ty:TypeId),(∀ k,F k→k < w.heap.size)→¬ F b→b < w.heap.size →
 w.heap[b]? = some (.cells us.toArray ty)→oneG ps=true→Al (GsR F w A) ps us→(∀ u ∈ us,u.oneCell'=true)→(∀ k,A.map (·.block)=some k→¬ F k∧k < w.heap.size∧k ≠ b)→(∀ h ∈ hs,∀ id off,h=.p id off→id=pid)→Al (ArgB F w b) hs vals →
 Calls P g vals.toArray w (fun e w'=>∃ v F',e=.returned v∧GrowB (fun k=>A.map (·.block)=some k) w w'∧(∀ k,F k→F' k)∧(∀ k,F' k→F k ∨ (w.heap.size≤k∧k < w'.heap.size))∧RP F' w' x v∧Al (GsR F' w' A) ps' us)
def yYE (P:Program) (g:Nat) (hs:List HV) (ps:List PV) (x:PV) (ps':List PV) (q:Bool):Bool→Prop
 | false=>yQI P g hs ps x ps' q
 | true=>SndK1 P g hs ps x ps'
def SndB (P:Program) (T:Tab) (cB:zVB):Prop:=∀ g hs ps x ps',cB g hs ps=some (x,ps')→yYE P g hs ps x ps' (T.gq g) (T.gk g)
section
variable {P:Program} {E:Env} {C:Cx} {ρ:Own} {F:Nat→Prop} {σ:St} {a:Act} {w:World} {vs:List RV} {e:Eff}
variable {d:Option Tmp} {ty:TypeId} {pos:String} {af:Array Edge} {g:Option (Nat × Bool)}
theorem Rel'.setB {n:Nat} (h:Rel' E n ρ F σ a w) {id b:Nat} (hρ:ρ id=some (.blk b)) {F':Nat→Prop} {ent:Ent} {w':World} (g:GrowB (· = b) w w') (hF:∀ k,F k→F' k) (hF':∀ k,F' k→F k ∨ (w.heap.size≤k∧k < w'.heap.size)) (hent:EntOk ρ F' w' id ent) {x:HV} {v:Value} (hx:RH ρ F' w' x v) {dst:Option Nat} (hd:dstB n dst=true) (h2:id ≠ pid2) :
  Rel' E n ρ F' (σ.apply (.set id ent x) dst) (a.put dst v) w':=by
 have hb:(Loc.blk b).bl=some b:=rfl;have hoff:=h.mem.off id _ b hρ hb;have fzb:∀ k,F k→w'.heap[k]? = w.heap[k]?:=fun k hk=>g.block k (h.mem.fz k hk).1 fun e=>by subst e; exact hoff.1 hk
 refine h.apply (.set id ent x) dst v (fun d e=>by subst e; simpa [dstB] using hd) ⟨fun k b hk=>hk,fun k L' hk _ _=>hk,fun _ _ _ _ _ _ _ hk _ _=>hk,fun k rows a' c' kk sz _ hs=>by simp [Eff.set,yK] at hs,fun k hk=>⟨hF k hk,fzb k hk⟩⟩ hx
  (fun k L' b' hu hk hb' => ?_) (fun _ _=>rfl) (fun k y hu => ?_) (fun k hu=>rfl) (fun k y hu => ?_) h.mem.apart (fun k L' b' hk hb' => ?_) (fun k hk => ?_) ?_ (fun _ _=>zYG h2)
 ·refine g.block b' (h.mem.off k L' b' hk hb').2.1 fun e => ?_
  subst e
  have:=h.mem.apart k id L' _ b' hk hρ hb' hb
  subst this;simp [Eff.set,jX] at hu
 ·simp only [Eff.set,jX] at hu;split at hu
  ·rename_i he; rw [← he]; exact h.mem.lt hρ rfl
  ·cases hu
 ·simp only [Eff.set,jX] at hu;split at hu
  ·rename_i he; cases hu; subst he; exact hent
  ·cases hu
 ·have:=h.mem.off k L' b' hk hb'
  exact ⟨fun hf=>by rcases hF' b' hf with h1 | h1; exact this.1 h1; omega,vZZ this.2.1 g.size,this.2.2⟩
 ·rcases hF' k hk with h1 | h1
  ·exact ⟨vZZ (h.mem.fz k h1).1 g.size,(h.mem.fz k h1).2⟩
  ·exact ⟨h1.2,.inr (.inl (Nat.le_trans h.mem.grow.size h1.1))⟩
 ·refine ⟨g.os.trans h.mem.grow.os,g.tape.trans h.mem.grow.tape,g.output.trans h.mem.grow.output,Nat.le_trans h.mem.grow.size g.size,fun k hk hW => ?_⟩;rw [g.block k (vZZ hk h.mem.grow.size) fun e => ?_]
  ·exact h.mem.grow.block k hk hW
  ·subst e;rcases hoff.2.2 with h1 | h1
   ·omega
   ·exact hW h1
theorem qGC:∀ {xs:List RV} {p:Nat × List CV},zUY xs=some p→∃ off,RV.p p.1 off p.2 ∈ xs
 | [],p,h=>by cases h
 | x :: xs,p,h=>by
  simp only [zUY] at h;split at h
  ·cases h; exact ⟨_,vQG⟩
  ·obtain ⟨off,ho⟩:=qGC h; exact ⟨off,vQV _ ho⟩
theorem cv_pv {M:Mem} {hc:List HV} {cs:List CV} {ps:List PV} {us:List Value} (h:mapO (cvOf M) hc=some cs) (hal:Al (RH ρ F w) hc us) (hp:mapO CV.pv cs=some ps):Al (RP F w) ps us:=by
 have hcv:=qJV h hal;have h1:=yJ hp;refine ⟨by rw [← h1.1,hcv.1],fun i p v hpi hv => ?_⟩;have hil:=(List.getElem?_eq_some_iff.1 hpi).1;have hl:i < cs.length:=by rw [h1.1]; exact hil
 have hfz:=h1.2 i _ p (vQK hl) hpi;obtain ⟨hrh,ho⟩:=hcv.2 i _ v (vQK hl) hv;generalize cs[i]=c at hfz hrh ho;unfold CV.pv at hfz;split at hfz
 ·cases hfz; exact hrh
 ·cases hfz;have e:v=.slice none 0 0:=hrh;subst e;exact .zs
 ·cases hfz
theorem call_relB {f:Nat} (hB:SndB P C.T C.cB) (hgk:C.T.gk f=false) (hgq:C.T.gq f=false) (h:Rel' E C.n ρ F σ a w) {o:Oper} (hd:dstB C.n o.dst=true) {args:List RV} {us:List Value} (hu:Al (fun r v=>RH ρ F w r.back v) args us) (hres:∀ r ∈ args,RRes σ.M r) (he:zZY C.cB f args=some e)
  (hrun:kJ P f→(execOp a.eval o).run P w=.ok (.enter f us.toArray) w):OK P E C σ a w e o:=by
 simp only [zZY,vQQ] at he;obtain ⟨⟨id,cs⟩,hp,ps,hps,hs,hhs,⟨x,ps'⟩,hr,he⟩:=he;have hb2:Nat.beq id pid2=false:=by
  cases hb2:Nat.beq id pid2 with
  | false=>rfl
  | true=>simp only [hb2,vYZ] at he; cases he
 have hne2:id ≠ pid2:=fun e0=>by rw [e0,Nat.beq_refl] at hb2; cases hb2
 simp only [hb2,vYY,vQZ] at he;subst he;have hbq:=hB f hs ps x ps' hr;rw [hgk,hgq] at hbq;obtain ⟨hent,hcall⟩:=hbq;obtain ⟨off,hmem⟩:=qGC hp;obtain ⟨hc,hlk,hcc⟩:=hres _ hmem;obtain ⟨b,cu,ty',hρ,hheap,hal,hone⟩:=h.mem.ent id _ hlk;have hpu:=cv_pv hcc hal hps;have hoff:=h.mem.off id _ b hρ rfl;have hrs:∀ y ∈ catR RV.regs args,∃ e sz,qV σ.M y.1=some (.reg e sz y.2):=fun y hy=>by
  obtain ⟨x,hx,hy'⟩:=mem_catR.1 hy;exact zWV (hres x hx) y hy'
 have hid:id ∉ (catR RV.regs args).map (·.1):=fun hm=>by
  obtain ⟨r,hr,hre⟩:=List.mem_map.1 hm;obtain ⟨e',sz,hl⟩:=hrs r hr;have hre':r.1=id:=hre;rw [hre',hlk] at hl; cases hl
 have h1:=h.froze (catR RV.regs args) hrs;generalize hFF:frzF (catR RV.regs args) ρ F=F1 at h1;have hF1:∀ k,F k→F1 k:=fun k hk=>by rw [← hFF]; exact .inl hk
 have hρ1:frzρ (catR RV.regs args) ρ id=some (.blk b):=by rw [zYX hid]; exact hρ
 have hmo:=yJ hhs;unfold OK Goes;rw [hrun hent];simp only;refine Calls.mono (hcall w F1 b us cu ty' (fun k hk=>(h1.mem.fz k hk).1) (h1.mem.off id _ b hρ1 rfl).1 hoff.2.1 hheap (hpu.imp fun _ _ _ hx=>hx.mono fun k hk=>⟨hF1 k hk,rfl⟩) hone ?_ ?_) fun en w' ⟨v,F',us',ty2,hv,gr,f1,f2,hx,hb',hal',hone'⟩=>⟨v,hv,?_⟩
 ·intro hh hhm id' off' he';obtain ⟨i,hi⟩:=List.mem_iff_getElem?.1 hhm;have hil:=(List.getElem?_eq_some_iff.1 hi).1;have hl:i < args.length:=by rw [hmo.1]; exact hil
  have ht:=hmo.2 i _ hh (vQK hl) hi;rw [he'] at ht;generalize args[i]=r at ht;cases r <;> simp only [RV.toB] at ht
  case p id2 off2 c2 =>
   obtain ⟨_,ht⟩:=qQ ht;cases ht; rfl
  all_goals
   obtain ⟨_,ht⟩:=qQ ht;simp only [vQQ] at ht;obtain ⟨_,_,ht⟩:=ht;cases ht
 ·refine ⟨by rw [← hmo.1,hu.1],fun i hh v hi hv => ?_⟩;have hil:=(List.getElem?_eq_some_iff.1 hi).1;have hl:i < args.length:=by rw [hmo.1]; exact hil
  have ht:=hmo.2 i _ hh (vQK hl) hi;have hrv:=hu.2 i _ v (vQK hl) hv;have hmm:=List.getElem_mem hl;have hrr:=hres _ hmm;generalize args[i]=r at ht hrv hmm hrr;have gen:r.still=true→∀ y,r.fz=some y→RP F1 w y v:=fun hst y hy=>zJJ h.mem hF1 hy hrv hrr (.inl ⟨hst,fun x hx L b hL hb=>by rw [← hFF]; exact .inr ⟨x.1,L,List.mem_map.2 ⟨x,catR_mem hmm hx,rfl⟩,hL,hb⟩⟩)
  cases r <;> simp only [RV.toB] at ht
  case p id2 off2 c2 =>
   obtain ⟨he2,ht⟩:=qQ ht;cases ht
   have:=vQU he2
   subst this;obtain ⟨b2,hb2,rfl⟩:=hrv;rw [hρ] at hb2; cases hb2; rfl
  all_goals
   obtain ⟨hst,ht⟩:=qQ ht;simp only [vQQ] at ht;obtain ⟨y,hy,ht⟩:=ht;cases ht;exact gen hst y hy
 ·have h2:=h1.setB (id:=id) hρ1 gr f1 f2 (ent:=.blk (ps'.map PV.toH)) ⟨b,us',ty2,hρ1,hb',Al.map_left (hal'.imp fun _ _ _ h=>zZW h),hone'⟩ (x:=.v x) (v:=v) hx hd hne2;exact Rel.eqv ⟨_,_,h2⟩ (qHQ (e:=.set id (.blk (ps'.map PV.toH)) (.v x)) rfl rfl hid)
theorem toB_args {F1:Nat→Prop} {id b:Nat} {args:List RV} {hs:List HV} {us:List Value} (hρ:ρ id=some (.blk b)) (hu:Al (fun r v=>RH ρ F w r.back v) args us) (hhs:mapO (RV.toB id) args=some hs) (gen:∀ r ∈ args,r.still=true→∀ y v,RH ρ F w r.back v→r.fz=some y→RP F1 w y v) :
  (∀ h ∈ hs,∀ id off,h=.p id off→id=pid)∧Al (ArgB F1 w b) hs us:=by
 have hmo:=yJ hhs;refine ⟨fun hh hhm id' off' he' => ?_,by rw [← hmo.1,hu.1],fun i hh v hi hv => ?_⟩
 ·obtain ⟨i,hi⟩:=List.mem_iff_getElem?.1 hhm;have hil:=(List.getElem?_eq_some_iff.1 hi).1;have hl:i < args.length:=by rw [hmo.1]; exact hil
  have ht:=hmo.2 i _ hh (vQK hl) hi;rw [he'] at ht;generalize args[i]=r at ht;cases r <;> simp only [RV.toB] at ht
  case p id2 off2 c2 =>
   obtain ⟨_,ht⟩:=qQ ht;cases ht; rfl
  all_goals
   obtain ⟨_,ht⟩:=qQ ht;simp only [vQQ] at ht;obtain ⟨_,_,ht⟩:=ht;cases ht
 ·have hil:=(List.getElem?_eq_some_iff.1 hi).1;have hl:i < args.length:=by rw [hmo.1]; exact hil
  have ht:=hmo.2 i _ hh (vQK hl) hi;have hrv:=hu.2 i _ v (vQK hl) hv;have hg:=gen _ (List.getElem_mem hl);generalize args[i]=r at ht hrv hg;cases r <;> simp only [RV.toB] at ht
  case p id2 off2 c2 =>
   obtain ⟨he2,ht⟩:=qQ ht;cases ht
   have:=vQU he2
   subst this;obtain ⟨b2,hb2,rfl⟩:=hrv;rw [hρ] at hb2; cases hb2; rfl
  all_goals
   obtain ⟨hst,ht⟩:=qQ ht;simp only [vQQ] at ht;obtain ⟨y,hy,ht⟩:=ht;cases ht;exact hg hst y v hrv hy
theorem find_o:∀ {cs:List CV} {ps:List PV},mapO CV.pvq cs=some ps→∀ {i id e sz:Nat} {rows:Rows},cs[i]? = some (.o id e sz rows)→qWQ ps ≠ none
 | [],ps,_,i,id,e,sz,rows,h=>by simp at h
 | c :: cs,ps,hm,i,id,e,sz,rows,h=>by
  simp only [mapO,vQQ,vQZ] at hm;obtain ⟨p,hp,qs,hqs,rfl⟩:=hm;cases i with
  | zero =>
   simp only [List.getElem?_cons_zero,vQZ] at h;subst h;cases hp;simp [qWQ]
  | succ i =>
   have:=find_o hqs (by simpa using h)
   cases p <;> simp only [qWQ] <;> first | exact this | (intro hc; cases hc)
theorem yJU:∀ {cs:List CV} {ps:List PV},mapO CV.pvq cs=some ps→oneG ps=true→∀ {i id e sz:Nat} {rows:Rows},cs[i]? = some (.o id e sz rows)→qXL cs=some id
 | [],ps,_,_,i,id,e,sz,rows,h=>by simp at h
 | c :: cs,ps,hm,ho,i,id,e,sz,rows,h=>by
  simp only [mapO,vQQ,vQZ] at hm;obtain ⟨p,hp,qs,hqs,rfl⟩:=hm;cases i with
  | zero =>
   simp only [List.getElem?_cons_zero,vQZ] at h;subst h; rfl
  | succ i =>
   have hi:cs[i]? = some (.o id e sz rows):=by simpa using h
   have hf:=find_o hqs hi;have no:∀ {e0 s0:Nat} {x0:PV},p=.gs e0 s0 x0→False:=fun hpe=>by
    subst hpe;simp only [oneG,Option.isNone_iff_eq_none] at ho;exact hf ho
   cases c with
   | o id2 e2 sz2 zQV=>cases hp; exact (no rfl).elim
   | h x =>
    have h1:oneG qs=true:=by cases p <;> first | exact (no rfl).elim | exact ho
    exact yJU hqs h1 hi
theorem zKG:∀ {cs:List CV} {id:Nat},qXL cs=some id→∃ (i e sz:Nat) (rows:Rows),cs[i]? = some (.o id e sz rows)
 | [],id,h=>by cases h
 | .o id2 e sz rows :: cs,id,h=>by cases h; exact ⟨0,e,sz,rows,rfl⟩
 | .h x :: cs,id,h=>by
  obtain ⟨i,e,sz,rows,h⟩:=zKG (cs:=cs) h;exact ⟨i + 1,e,sz,rows,by simpa using h⟩
theorem gsr_cells {M:Mem} {hc:List HV} {cs:List CV} {ps:List PV} {us:List Value} {A:Option Addr} (hm:MemOk E ρ F M w) (h:mapO (cvOf M) hc=some cs) (hal:Al (RH ρ F w) hc us) (hp:mapO CV.pvq cs=some ps)
  (hA:∀ (i id e sz:Nat) (rows:Rows),cs[i]? = some (.o id e sz rows)→∀ a c k s,ρ id=some (.reg a c k s)→A=a):Al (GsR F w A) ps us:=by
 have hcv:=qJV h hal;have h1:=yJ hp;refine ⟨by rw [← h1.1,hcv.1],fun i p v hpi hv => ?_⟩;have hil:=(List.getElem?_eq_some_iff.1 hpi).1;have hl:i < cs.length:=by rw [h1.1]; exact hil
 have hci:=vQK hl;have hfz:=h1.2 i _ p hci hpi;obtain ⟨hrh,ho⟩:=hcv.2 i _ v hci hv;have hA':=hA i;rw [hci] at hA';generalize cs[i]=c at hfz hrh ho hA';unfold CV.pvq at hfz;split at hfz
 ·cases hfz; exact yQA hrh
 ·cases hfz;have e:v=.slice none 0 0:=hrh;subst e;exact .zs
 ·rename_i id e sz rows;cases hfz;obtain ⟨a,c,k,sz',hρ,rfl⟩:=hrh;obtain ⟨a2,c2,vr,hρ2,q1,q2,q3,q4,q5⟩:=hm.ent id _ (ho _ _ _ _ rfl)
  have:=hA' id e sz rows rfl _ _ _ _ hρ
  subst this;rw [hρ] at hρ2;simp only [vQZ,Loc.reg.injEq] at hρ2;obtain ⟨rfl,rfl,rfl,rfl⟩:=hρ2;refine ⟨rows,c,vr,?_,rfl,q1,q2,q3,q4,q5⟩;cases rows <;> rfl
 ·cases hfz
theorem zUZ:∀ {ps:List PV} {e sz:Nat} {x:PV},qWQ ps=some (e,sz,x)→∃ i:Nat,ps[i]? = some (.gs e sz x)
 | [],e,sz,x,h=>by cases h
 | p :: ps,e,sz,x,h=>by
  cases p with
  | gs e2 sz2 x2=>cases h; exact ⟨0,rfl⟩
  | _ =>
   obtain ⟨i,hi⟩:=zUZ (ps:=ps) h;exact ⟨i + 1,by simpa using hi⟩
theorem zXQ:∀ {ps:List PV},oneG ps=true→∀ {i e sz:Nat} {x:PV},ps[i]? = some (.gs e sz x)→qWQ ps=some (e,sz,x)
 | [],_,i,e,sz,x,h=>by simp at h
 | p :: ps,ho,i,e,sz,x,h=>by
  cases i with
  | zero =>
   simp only [List.getElem?_cons_zero,vQZ] at h;subst h; rfl
  | succ i =>
   have hi:ps[i]? = some (.gs e sz x):=by simpa using h
   cases p with
   | gs e2 sz2 x2 =>
    simp only [oneG,Option.isNone_iff_eq_none] at ho
    have:∀ (qs:List PV),qWQ qs=none→∀ j:Nat,qs[j]? ≠ some (.gs e sz x):=by
     intro qs;induction qs with
     | nil=>intro _ j h; simp at h
     | cons q qs ih =>
      intro hq j hj;cases j with
      | zero =>
       simp only [List.getElem?_cons_zero,vQZ] at hj;subst hj; cases hq
      | succ j =>
       refine ih ?_ j (by simpa using hj);cases q <;> first | exact hq | cases hq
    exact absurd hi (this ps ho i)
   | _=>exact zXQ (ps:=ps) ho hi
theorem zVE:∀ {ps:List PV},oneG ps=true→∀ {i j:Nat} {e sz e2 sz2:Nat} {x x2:PV},i ≠ j→ps[i]? = some (.gs e sz x)→ps[j]? = some (.gs e2 sz2 x2)→False
 | [],_,i,j,e,sz,e2,sz2,x,x2,_,h,_=>by simp at h
 | p :: ps,ho,i,j,e,sz,e2,sz2,x,x2,hij,hi,hj=>by
  have none:∀ (qs:List PV),qWQ qs=none→∀ (j e sz:Nat) (x:PV),qs[j]? ≠ some (.gs e sz x):=by
   intro qs;induction qs with
   | nil=>intro _ j e sz x h; simp at h
   | cons q qs ih =>
    intro hq j e sz x hj;cases j with
    | zero =>
     simp only [List.getElem?_cons_zero,vQZ] at hj;subst hj; cases hq
    | succ j =>
     refine ih ?_ j e sz x (by simpa using hj);cases q <;> first | exact hq | cases hq
  cases i with
  | zero =>
   cases j with
   | zero=>exact hij rfl
   | succ j =>
    simp only [List.getElem?_cons_zero,vQZ] at hi;subst hi;simp only [oneG,Option.isNone_iff_eq_none] at ho;exact none ps ho j _ _ _ (by simpa using hj)
  | succ i =>
   cases j with
   | zero =>
    simp only [List.getElem?_cons_zero,vQZ] at hj;subst hj;simp only [oneG,Option.isNone_iff_eq_none] at ho;exact none ps ho i _ _ _ (by simpa using hi)
   | succ j =>
    have hi':ps[i]? = some (.gs e sz x):=by simpa using hi
    have hj':ps[j]? = some (.gs e2 sz2 x2):=by simpa using hj
    have ho':oneG ps=true:=by
     cases p with
     | gs e3 sz3 x3 =>
      simp only [oneG,Option.isNone_iff_eq_none] at ho;exact absurd hi' (none ps ho i _ _ _)
     | _=>exact ho
    exact zVE ho' (fun e=>hij (by rw [e])) hi' hj'
theorem zYE {id m k:Nat} {x y:Option Ent}:yZ [(id,x),(m,y)] k=if m=k then some y else if id=k then some x else none:=by
 simp only [yZ];by_cases e:m=k
 ·subst e; simp
 ·rw [uW e,vYY,if_neg e];by_cases e2:id=k
  ·subst e2; simp
  ·simp [uW e2,e2]
theorem toQ_rel {A:Option Addr} {m:Nat} {p:PV} {v:Value} (h:GsR F w A p v) (hm:∀ e sz x rows c,p=.gs e sz x→x.rowsO=some rows→v=.slice A rows.len c→∃ s,ρ m=some (.reg A c rows.len s)):RH ρ F w (p.toQ m) v:=by
 cases p with
 | gs e sz x =>
  obtain ⟨rows,c,vr,h1,h2,_⟩:=h;obtain ⟨s,hs⟩:=hm e sz x rows c rfl h1 h2;exact ⟨A,c,rows.len,s,hs,h2⟩
 | zs=>cases h; rfl
 | _=>exact h
def QEnt (F':Nat→Prop) (w':World) (A':Option Addr) (ps':List PV) (us':List Value) (L':Option Loc):Option Ent→Prop
 | none=>L'=none
 | some en=>∃ (e sz:Nat) (x:PV) (rows:Rows) (c:Nat) (vr:List (List Value)),qWQ ps'=some (e,sz,x)∧x.rowsO=some rows∧en=.reg e sz rows∧L'=some (.reg A' c rows.len sz)∧0 < sz∧Al (Al (RP F' w')) rows.L vr∧(∀ r ∈ rows.L,r.length=sz)∧(∀ y ∈ vr,∀ u ∈ y,u.oneCell'=true)∧w'.ownsRow 0 e sz (.slice A' rows.len c) rows.len vr.flatten ∧
   ∀ (i e2 sz2:Nat) (x2:PV) (u:Value),ps'[i]? = some (.gs e2 sz2 x2)→us'[i]? = some u→u=.slice A' rows.len c
theorem call_relQ {f:Nat} (hB:SndB P C.T C.cB) (hgk:C.T.gk f=false) (hgq:C.T.gq f=true) (h:Rel' E C.n ρ F σ a w) {o:Oper} (hd:dstB C.n o.dst=true) {dst:Nat} {args:List RV} {us:List Value} (hu:Al (fun r v=>RH ρ F w r.back v) args us) (hres:∀ r ∈ args,RRes σ.M r) (he:qXE C.cB dst f args=some e) (hn:∀ i ∈ e.nw,qJB σ.M i)
  (hrun:kJ P f→(execOp a.eval o).run P w=.ok (.enter f us.toArray) w):OK P E C σ a w e o:=by
 simp only [qXE,vQQ] at he;obtain ⟨⟨id,cs⟩,hp,ps,hps,hs,hhs,⟨x,ps'⟩,hr,ent,hent',he⟩:=he;obtain ⟨hb,he⟩:=qQ he;simp only [vQZ] at he;subst he;simp only [vQJ,Bool.not_eq_true'] at hb;obtain ⟨⟨⟨⟨⟨ho1,ho2⟩,hregs⟩,hidm⟩,hflat⟩,hid2⟩:=hb;have hbq:=hB f hs ps x ps' hr;rw [hgk,hgq] at hbq;obtain ⟨hent,hcall⟩:=hbq;obtain ⟨off,hmem⟩:=qGC hp;obtain ⟨hc,hlk,hcc⟩:=hres _ hmem;obtain ⟨b,cu,ty',hρ,hheap,hal,hone⟩:=h.mem.ent id _ hlk;have hidlt:=h.mem.ord id _ hlk;have hoff:=h.mem.off id _ b hρ rfl;have hregs':catR RV.regs args=[]:=by simpa using hregs
 -- where the growing slice lies
 obtain ⟨A,hA1,hA2⟩:∃ A:Option Addr,(∀ (i id e sz:Nat) (rows:Rows),cs[i]? = some (.o id e sz rows)→∀ a c k s,ρ id=some (.reg a c k s)→A=a)∧(∀ k,A.map (·.block)=some k→∃ oid L,qXL cs=some oid∧ρ oid=some L∧L.bl=some k):=by
  cases hoid:qXL cs with
  | none=>exact ⟨none,fun i id e sz rows hi=>(by rw [yJU hps ho1 hi] at hoid; cases hoid),fun k hk=>by cases hk⟩
  | some oid =>
   obtain ⟨i,e,sz,rows,hi⟩:=zKG hoid;obtain ⟨v,hv,hrh,_⟩:=(qJV hcc hal).get hi;obtain ⟨a1,c1,k1,s1,hρo,_⟩:=hrh;refine ⟨a1,fun i2 id2 e2 sz2 zQV hi2 a c k s hρ2 => ?_,fun k hk=>⟨oid,_,rfl,hρo,hk⟩⟩
   have:=yJU hps ho1 hi2
   rw [hoid] at this;cases this;rw [hρo] at hρ2;simp only [vQZ,Loc.reg.injEq] at hρ2;exact hρ2.1
 have hcells:=gsr_cells h.mem hcc hal hps hA1;generalize hm0:(qXL cs).getD (100000 + dst)=m at *
 -- what m is
 have hmlt:m < 2000000:=by
  cases hoid:qXL cs with
  | none=>rw [hoid] at hm0 hn; simp only [Option.getD_none] at hm0; subst hm0; exact (hn _ (by simp)).2
  | some oid =>
   rw [hoid] at hm0; simp only [Option.getD_some] at hm0; subst hm0;obtain ⟨i,e,sz,rows,hi⟩:=zKG hoid;obtain ⟨v,hv,hrh,_⟩:=(qJV hcc hal).get hi;obtain ⟨a1,c1,k1,s1,hρo,_⟩:=hrh;exact h.mem.lt hρo rfl
 have hmreg:∀ L,ρ m=some L→∃ a c k s,L=.reg a c k s:=fun L hL=>by
  cases hoid:qXL cs with
  | none =>
   rw [hoid] at hm0 hn; simp only [Option.getD_none] at hm0; subst hm0;rw [h.mem.fresh (hn _ (by simp))] at hL; cases hL
  | some oid =>
   rw [hoid] at hm0; simp only [Option.getD_some] at hm0; subst hm0;obtain ⟨i,e,sz,rows,hi⟩:=zKG hoid;obtain ⟨v,hv,hrh,_⟩:=(qJV hcc hal).get hi;obtain ⟨a1,c1,k1,s1,hρo,_⟩:=hrh;rw [hρo] at hL; cases hL; exact ⟨_,_,_,_,rfl⟩
 have hAm:∀ k,A.map (·.block)=some k→∃ L,ρ m=some L∧L.bl=some k:=fun k hk=>by
  obtain ⟨oid,L,h1,h2,h3⟩:=hA2 k hk;rw [h1] at hm0; simp only [Option.getD_some] at hm0; subst hm0;exact ⟨L,h2,h3⟩
 have hidne:id ≠ m:=fun e=>by subst e; simp at hidm
 have hAoff:∀ k,A.map (·.block)=some k→¬ F k∧k < w.heap.size∧(E.w0.heap.size≤k ∨ E.W k):=fun k hk=>by
  obtain ⟨L,h1,h2⟩:=hAm k hk; exact h.mem.off m L k h1 h2
 have hAb:∀ k,A.map (·.block)=some k→k ≠ b:=fun k hk e=>by
  subst e;obtain ⟨L,h1,h2⟩:=hAm _ hk;exact hidne (h.mem.apart id m _ _ _ hρ h1 rfl h2)
 obtain ⟨hpid,hargs⟩:=toB_args (F1:=F) (b:=b) hρ hu hhs fun r hr hst y v hrv hy=>zJJ h.mem (fun k hk=>hk) hy hrv (hres r hr) (.inl ⟨hst,fun x hx=>by
  have:x ∈ catR RV.regs args:=mem_catR.2 ⟨r,hr,hx⟩
  rw [hregs'] at this; cases this⟩)
 unfold OK Goes;rw [hrun hent];simp only;refine Calls.mono (hcall w F b A us cu ty' (fun k hk=>(h.mem.fz k hk).1) hoff.1 hoff.2.1 hheap ho1 hcells hone (fun k hk=>⟨(hAoff k hk).1,(hAoff k hk).2.1,hAb k hk⟩) hpid hargs) fun en w' ⟨v,F',us',ty2,A',hv,gr,f1,f2,hx,hb',hal',hone',hA'⟩=>⟨v,hv,?_⟩
 -- the memory behind the call
 obtain ⟨L',hL',hLent⟩:∃ L':Option Loc,(∀ L,L'=some L→L.inner=false∧(∀ k,L.bl=some k→A'.map (·.block)=some k))∧QEnt F' w' A' ps' us' L' ent:=by
  cases hfg:qWQ ps' with
  | none=>rw [hfg] at hent'; cases hent'; exact ⟨none,fun L hL=>(by cases hL),rfl⟩
  | some q =>
   obtain ⟨e,sz,x2⟩:=q;rw [hfg] at hent';simp only [gEnt,vQQ,vQZ] at hent';obtain ⟨rows,hrows,rfl⟩:=hent';obtain ⟨i,hi⟩:=zUZ hfg;obtain ⟨u,hu2,hg⟩:=hal'.get hi;obtain ⟨zQV,c,vr,q1,q2,q3,q4,q5,q6,q7⟩:=hg;rw [hrows] at q1; cases q1;refine ⟨some (.reg A' c rows.len sz),fun L hL=>(by cases hL; exact ⟨rfl,fun k hk=>hk⟩),e,sz,x2,rows,c,vr,hfg,hrows,rfl,rfl,q3,q4,q5,q6,q7,fun i2 e2 sz2 x3 u2 hi2 hu3 => ?_⟩;have hii:=zXQ ho2 hi2;rw [hfg] at hii;cases hii;by_cases e3:i2=i
   ·subst e3; rw [hu2] at hu3; cases hu3; exact q2
   ·exact (zVE ho2 e3 hi2 hi).elim
 let ρ':Own:=fun k=>if k=m then L' else ρ k
 have ρm:ρ' m=L':=if_pos rfl;have ρne:∀ {k},k ≠ m→ρ' k=ρ k:=fun hk=>if_neg hk
 have inv:∀ k L,ρ' k=some L→(k=m∧L'=some L) ∨ (k ≠ m∧ρ k=some L):=fun k L hk=>by
  by_cases e:k=m
  ·subst e; rw [ρm] at hk; exact .inl ⟨rfl,hk⟩
  ·rw [ρne e] at hk; exact .inr ⟨e,hk⟩
 have fzb:∀ k,F k→w'.heap[k]? = w.heap[k]?:=fun k hk=>gr.block k (h.mem.fz k hk).1 fun e=>by
  rcases e with e | e
  ·subst e; exact hoff.1 hk
  ·exact (hAoff k e).1 hk
 have blkeq:∀ k L b',k ≠ m→k ≠ id→ρ k=some L→L.bl=some b'→w'.heap[b']? = w.heap[b']?:=fun k L b' h1 h2 hk hb2=>gr.block b' (h.mem.off k L b' hk hb2).2.1 fun e=>by
  rcases e with e | e
  ·subst e; exact h2 (h.mem.apart k id L _ _ hk hρ hb2 rfl)
  ·obtain ⟨L2,h3,h4⟩:=hAm b' e; exact h1 (h.mem.apart k m L L2 b' hk h3 hb2 h4)
 have hF'b:∀ k L b',k ≠ m→ρ k=some L→L.bl=some b'→¬ F' b':=fun k L b' h1 hk hb2 hf=>by
  rcases f2 b' hf with h2 | h2 | h2
  ·exact (h.mem.off k L b' hk hb2).1 h2
  ·have:=(h.mem.off k L b' hk hb2).2.1; omega
  ·obtain ⟨L2,h3,h4⟩:=hAm b' h2; exact h1 (h.mem.apart k m L L2 b' hk h3 hb2 h4)
 refine ⟨ρ',F',h.apply2 ⟨[(id,some (.blk (ps'.map (PV.toQ m)))),(m,ent)],[(m,none)],.v x,_⟩ o.dst v (fun d e=>by rw [e] at hd; simpa [dstB] using hd)
  ⟨fun k b2 hk => ?_,fun k L hk hs _ => ?_,fun k j a' c' kk s _ hk _ _ => ?_,fun k rows a' c' kk sz _ hs=>(by simp only [qQU] at hs; split at hs <;> cases hs),fun k hk=>⟨f1 k hk,fzb k hk⟩⟩ hx
  (fun k L b' hu2 _ hk hb2 => ?_) (fun k hk hu2 => ?_) (fun k hk hu2 => ?_) (fun k y hu2 => ?_) (fun k L hu2 hL _ => ?_) (fun k y hu2 => ?_) (fun k L hL hi => ?_) (fun k k' L1 L2 b' h1 h2 hb1 hb2 => ?_) (fun k L b' hk hb2 => ?_) (fun k hk => ?_) ?_ (fun b3 hb3 => ?_)⟩
 ·rw [ρne fun e=>by subst e; obtain ⟨_,_,_,_,e2⟩:=hmreg _ hk; cases e2]; exact hk
 ·rw [ρne fun e=>by subst e; simp [qQU] at hs]; exact hk
 ·rw [ρne (by have:=qKI k j; omega)]; exact hk
 ·simp only [zYE] at hu2;split at hu2
  ·cases hu2
  ·split at hu2
   ·cases hu2
   ·rename_i n1 n2; exact blkeq k L b' (Ne.symm n1) (Ne.symm n2) hk hb2
 ·simp only [zYE] at hu2;simp only [qQU];split at hu2
  ·cases hu2
  ·rename_i n1; rw [if_neg n1]
 ·simp only [qQU]; rw [if_neg (by unfold mid; omega)]
 ·simp only [zYE] at hu2;split at hu2
  ·rename_i e; rw [← e]; exact hmlt
  ·split at hu2
   ·rename_i e; rw [← e]; exact hidlt
   ·cases hu2
 ·simp only [zYE] at hu2;split at hu2
  ·cases hu2
  ·rename_i n1; rw [ρne (Ne.symm n1)] at hL; exact hL
 ·simp only [zYE] at hu2;split at hu2
  ·rename_i e;cases hu2;subst e;cases ent with
   | none=>show ρ' m=none; rw [ρm]; exact hLent
   | some en =>
    obtain ⟨e,sz,x2,rows,c,vr,_,_,rfl,hL,q3,q4,q5,q6,q7,_⟩:=hLent;exact ⟨A',c,vr,by rw [ρm]; exact hL,q3,q4,q5,q6,q7⟩
  ·split at hu2
   ·rename_i _ e;cases hu2;subst e;refine ⟨b,us',ty2,by rw [ρne hidne]; exact hρ,hb',Al.map_left ⟨hal'.1,fun i p u hi hu3=>toQ_rel (hal'.2 i p u hi hu3) fun e sz x2 rows c hpe hrows huv => ?_⟩,hone'⟩;subst hpe;have hfg:=zXQ ho2 hi;cases ent with
    | none =>
     rw [hfg] at hent';simp only [gEnt,hrows,vZV] at hent';cases hent'
    | some en =>
     obtain ⟨e3,sz3,x3,zGE,c3,vr,hf3,hr3,_,hL,_,_,_,_,_,hall⟩:=hLent;rw [hfg] at hf3;cases hf3;rw [hrows] at hr3;cases hr3
     have:=hall i _ _ _ u hi hu3
     rw [huv] at this;simp only [Value.slice.injEq,true_and] at this;exact ⟨sz,by rw [ρm,hL,this]⟩
   ·cases hu2
 ·rcases inv k L hL with ⟨_,h2⟩ | ⟨_,h2⟩
  ·rw [(hL' L h2).1] at hi; cases hi
  ·exact h.mem.inr k L h2 hi
 ·have cross:∀ k L,k ≠ m→ρ k=some L→L.bl=some b'→A'.map (·.block)=some b'→False:=fun k L hne hk hb3 hb4=>by
   obtain ⟨_,_,_,h5⟩:=hA' b' hb4;rcases h5 with h5 | h5
   ·have:=(h.mem.off k L b' hk hb3).2.1; omega
   ·obtain ⟨L3,h6,h7⟩:=hAm b' h5; exact hne (h.mem.apart k m L L3 b' hk h6 hb3 h7)
  rcases inv k L1 h1 with ⟨e1,h3⟩ | ⟨n1,h3⟩ <;> rcases inv k' L2 h2 with ⟨e2,h4⟩ | ⟨n2,h4⟩
  ·rw [e1,e2]
  ·exact (cross k' L2 n2 h4 hb2 ((hL' L1 h3).2 b' hb1)).elim
  ·exact (cross k L1 n1 h3 hb1 ((hL' L2 h4).2 b' hb2)).elim
  ·exact h.mem.apart k k' L1 L2 b' h3 h4 hb1 hb2
 ·rcases inv k L hk with ⟨_,h2⟩ | ⟨n1,h2⟩
  ·obtain ⟨h3,h4,_,h5⟩:=hA' b' ((hL' L h2).2 b' hb2);refine ⟨h3,h4,?_⟩;rcases h5 with h5 | h5
   ·exact .inl (Nat.le_trans h.mem.grow.size h5)
   ·exact (hAoff b' h5).2.2
  ·have:=h.mem.off k L b' h2 hb2
   exact ⟨hF'b k L b' n1 h2 hb2,vZZ this.2.1 gr.size,this.2.2⟩
 ·rcases f2 k hk with h1 | h1 | h1
  ·exact ⟨vZZ (h.mem.fz k h1).1 gr.size,(h.mem.fz k h1).2⟩
  ·exact ⟨h1.2,.inr (.inl (Nat.le_trans h.mem.grow.size h1.1))⟩
  ·have:=hAoff k h1; exact ⟨vZZ this.2.1 gr.size,.inr this.2.2⟩
 ·refine ⟨gr.os.trans h.mem.grow.os,gr.tape.trans h.mem.grow.tape,gr.output.trans h.mem.grow.output,Nat.le_trans h.mem.grow.size gr.size,fun k hk hW => ?_⟩;rw [gr.block k (vZZ hk h.mem.grow.size) fun e => ?_]
  ·exact h.mem.grow.block k hk hW
  ·rcases e with e | e
   ·subst e;rcases hoff.2.2 with h1 | h1
    ·omega
    ·exact hW h1
   ·rcases (hAoff k e).2.2 with h1 | h1
    ·omega
    ·exact hW h1
 ·have n1:m ≠ pid2:=fun e=>by subst e; obtain ⟨_,_,_,_,e2⟩:=hmreg _ hb3; cases e2
  have n2:id ≠ pid2:=fun e=>by subst e; simp at hid2
  simp only [zYE,if_neg n1,if_neg n2]
theorem call_relK {f:Nat} (hB:SndB P C.T C.cB) (hgk:C.T.gk f=true) (h:Rel' E C.n ρ F σ a w) {o:Oper} (hd:dstB C.n o.dst=true) {args:List RV} {us:List Value} (hu:Al (fun r v=>RH ρ F w r.back v) args us) (hres:∀ r ∈ args,RRes σ.M r) (he:qUV C.cB f args=some e)
  (hrun:kJ P f→(execOp a.eval o).run P w=.ok (.enter f us.toArray) w):OK P E C σ a w e o:=by
 unfold qUV at he;simp only [vQQ] at he;obtain ⟨⟨id,cs⟩,hp,he⟩:=he;dsimp only at he;split at he
 ·rename_i m e0 sz rows;simp only [vQQ] at he;obtain ⟨hs,hhs,⟨x,ps'⟩,hr,he⟩:=he;dsimp only at he;split at he
  ·rename_i e2 sz2 y;simp only [vQQ] at he;obtain ⟨zQV,hrows,he⟩:=he;obtain ⟨hb,he⟩:=qQ he;simp only [vQZ] at he;subst he;simp only [vQJ,Bool.not_eq_true'] at hb;obtain ⟨⟨⟨hsz,hregs⟩,hidm⟩,hflat⟩:=hb;have hsz2:=vQU hsz;subst hsz2;have hbq:=hB f hs _ x _ hr;rw [hgk] at hbq;obtain ⟨hent,hcall⟩:=hbq;obtain ⟨off,hmem⟩:=qGC hp;obtain ⟨hc,hlk,hcc⟩:=hres _ hmem;obtain ⟨b,cu,ty',hρ,hheap,hal,hone⟩:=h.mem.ent id _ hlk;have hoff:=h.mem.off id _ b hρ rfl;have hregs':catR RV.regs args=[]:=by simpa using hregs
   have hcv:=qJV hcc hal;obtain ⟨u0,hu0,hrh,hlm⟩:=hcv.get (i:=0) rfl;obtain ⟨A,c1,k1,s1,hρo,hu0v⟩:=hrh;have hlm':=hlm m e0 sz2 rows rfl;obtain ⟨A2,c2,vr0,hρo2,_⟩:=h.mem.ent m _ hlm';rw [hρo] at hρo2;simp only [vQZ,Loc.reg.injEq] at hρo2;obtain ⟨rfl,rfl,rfl,rfl⟩:=hρo2;have hcells:=gsr_cells (A:=A) (ps:=[.gs e0 s1 rows.pv]) h.mem hcc hal rfl (fun i id' e' sz' rows' hi a c k s hρ2=>by
    cases i with
    | zero =>
     simp only [List.getElem?_cons_zero,vQZ,CV.o.injEq] at hi;obtain ⟨rfl,_⟩:=hi;rw [hρo] at hρ2;simp only [vQZ,Loc.reg.injEq] at hρ2;exact hρ2.1
    | succ i=>simp at hi)
   have hmlt:=h.mem.lt hρo rfl;have hidne:id ≠ m:=fun e=>by subst e; simp at hidm
   have hAm:∀ k,A.map (·.block)=some k→(Loc.reg A c1 rows.len s1).bl=some k:=fun k hk=>hk
   have hAoff:∀ k,A.map (·.block)=some k→¬ F k∧k < w.heap.size∧(E.w0.heap.size≤k ∨ E.W k):=fun k hk=>h.mem.off m _ k hρo (hAm k hk)
   have hAb:∀ k,A.map (·.block)=some k→k ≠ b:=fun k hk e=>by
    subst e;exact hidne (h.mem.apart id m _ _ _ hρ hρo rfl (hAm _ hk))
   obtain ⟨hpid,hargs⟩:=toB_args (F1:=F) (b:=b) hρ hu hhs fun r hr hst y v hrv hy=>zJJ h.mem (fun k hk=>hk) hy hrv (hres r hr) (.inl ⟨hst,fun x hx=>by
    have:x ∈ catR RV.regs args:=mem_catR.2 ⟨r,hr,hx⟩
    rw [hregs'] at this; cases this⟩)
   unfold OK Goes;rw [hrun hent];simp only;refine Calls.mono (hcall w F b A us cu ty' (fun k hk=>(h.mem.fz k hk).1) hoff.1 hoff.2.1 hheap rfl hcells hone (fun k hk=>⟨(hAoff k hk).1,(hAoff k hk).2.1,hAb k hk⟩) hpid hargs) fun en w' ⟨v,F',hv,gr,f1,f2,hx,hal'⟩=>⟨v,hv,?_⟩
   obtain ⟨zGE,c3,vr,q1,q2,q3,q4,q5,q6,q7⟩:=hal'.2 0 _ u0 rfl hu0;rw [hrows] at q1;cases q1;rw [hu0v] at q2;simp only [Value.slice.injEq,true_and] at q2;obtain ⟨q2a,rfl⟩:=q2;have fzb:∀ k,F k→w'.heap[k]? = w.heap[k]?:=fun k hk=>gr.block k (h.mem.fz k hk).1 fun e=>(hAoff k e).1 hk
   refine ⟨ρ,F',h.apply ⟨[(m,some (.reg e2 s1 zQV))],[],.v x,[]⟩ o.dst v (fun d e=>by rw [e] at hd; simpa [dstB] using hd)
    ⟨fun k b hk=>hk,fun k L' hk _ _=>hk,fun _ _ _ _ _ _ _ hk _ _=>hk,fun k rows a' c' kk sz _ hs=>by simp [yK] at hs,fun k hk=>⟨f1 k hk,fzb k hk⟩⟩ hx
    (fun k L' b' hu3 hk hb' => ?_) (fun _ _=>rfl) (fun k y hu3 => ?_) (fun k _=>rfl) (fun k y hu3 => ?_) h.mem.apart (fun k L' b' hk hb' => ?_) (fun k hk => ?_) ?_ (fun b3 hb3=>zYG (qHW hρo hb3))⟩
   ·refine gr.block b' (h.mem.off k L' b' hk hb').2.1 fun e => ?_
    have:=h.mem.apart k m L' _ b' hk hρo hb' (hAm b' e)
    subst this;simp [jX] at hu3
   ·simp only [jX] at hu3;split at hu3
    ·rename_i e; rw [← e]; exact hmlt
    ·cases hu3
   ·simp only [jX] at hu3;split at hu3
    ·rename_i e;cases hu3;subst e;exact ⟨A,c1,vr,by rw [hρo,q2a],q3,q4,q5,q6,q7⟩
    ·cases hu3
   ·have:=h.mem.off k L' b' hk hb'
    exact ⟨fun hf=>by rcases f2 b' hf with h1 | h1; exact this.1 h1; omega,vZZ this.2.1 gr.size,this.2.2⟩
   ·rcases f2 k hk with h1 | h1
    ·exact ⟨vZZ (h.mem.fz k h1).1 gr.size,(h.mem.fz k h1).2⟩
    ·exact ⟨h1.2,.inr (.inl (Nat.le_trans h.mem.grow.size h1.1))⟩
   ·refine ⟨gr.os.trans h.mem.grow.os,gr.tape.trans h.mem.grow.tape,gr.output.trans h.mem.grow.output,Nat.le_trans h.mem.grow.size gr.size,fun k hk hW => ?_⟩;rw [gr.block k (vZZ hk h.mem.grow.size) fun e => ?_]
    ·exact h.mem.grow.block k hk hW
    ·rcases (hAoff k e).2.2 with h1 | h1
     ·omega
     ·exact hW h1
  ·cases he
 ·cases he
theorem qKA {fx:Operand} {args:Array Operand} {ats:Array TypeId} {f:Nat} {fs us cs:List Value} (h:Rel' E C.n ρ F σ a w) (hf:ev (actS a) fx=some (.func (.func f) fs.toArray cs.toArray)) (hu:evs (actS a) args.toList=some us) (hent:kJ P f) :
  (execOp a.eval ⟨d,.call ⟨.value fx,args,ats⟩,ty,pos,af,g⟩).run P w=.ok (.enter f (fs ++ us ++ cs).toArray) w:=by
 have e3:args.map a.eval=us.toArray:=by
  have h1:=(qWE hu).1;have h2:=(qWE hu).2
  have:args.toList.map a.eval=us:=by
   rw [← h1];refine List.map_congr_left fun x hx => ?_
   have:=h2 x hx
   cases hv:ev (actS a) x with
   | none=>rw [hv] at this; cases this
   | some v=>rw [uQ h hv,zQ hv]
  apply Array.ext'; rw [Array.toList_map,this]
 simp [execOp,resolve,uQ h hf,Deferred.ofValue,invoke,e3]
 simpa using hent (fs ++ us ++ cs).toArray w
theorem al_v {ps:List PV} {us:List Value} (h:Al (RP F w) ps us):Al (fun r v=>RH ρ F w r.back v) (ps.map RV.v) us:=Al.map_left h
theorem ok_call {fx:Operand} {args:Array Operand} {ats:Array TypeId} (hA:SndA P C.cA) (hB:SndB P C.T C.cB) (h:Rel' E C.n ρ F σ a w) (hd:dstB C.n d=true) (hvs:mapO (opv 0 σ) (#[fx] ++ args).toList=some vs) (he:qU C.T C.cA C.cB C.me (d.getD 0) (.call ⟨.value fx,args,ats⟩) vs=some e) (hn:∀ i ∈ e.nw,qJB σ.M i) :
  OK P E C σ a w e ⟨d,.call ⟨.value fx,args,ats⟩,ty,pos,af,g⟩:=by
 rw [show (#[fx] ++ args).toList=fx :: args.toList by simp] at hvs;simp only [mapO,vQQ,vQZ] at hvs;obtain ⟨rx,hrx,rs,hrs,rfl⟩:=hvs;obtain ⟨v,v1,v2,v3⟩:=yU h hrx;obtain ⟨us,u1,u2,u3⟩:=zQD h hrs;cases rx with
 | v p =>
  cases p with
  | f fn first cap =>
   simp only [qU] at he;cases v2 with
   | f _ _ _ fs cs hl hm hf hc =>
    have hal:=((al_v (ρ:=ρ) ⟨hl,hf⟩).append u2).append (al_v ⟨hm,hc⟩);have hres:∀ r ∈ first.map RV.v ++ rs ++ cap.map RV.v,RRes σ.M r:=fun r hr=>by
     rcases List.mem_append.1 hr with hr | hr
     ·rcases List.mem_append.1 hr with hr | hr
      ·obtain ⟨_,_,rfl⟩:=List.mem_map.1 hr; trivial
      ·exact u3 r hr
     ·obtain ⟨_,_,rfl⟩:=List.mem_map.1 hr; trivial
    cases hrw:C.T.rw fn with
    | true =>
     rw [hrw,vYZ] at he;cases hgk:C.T.gk fn with
     | true=>rw [hgk,vYZ] at he; exact call_relK hB hgk h hd hal hres he fun hent=>qKA h v1 u1 hent
     | false =>
     rw [hgk,vYY] at he;cases hgq:C.T.gq fn with
     | false=>rw [hgq,vYY] at he; exact call_relB hB hgk hgq h hd hal hres he fun hent=>qKA h v1 u1 hent
     | true=>rw [hgq,vYZ] at he; exact call_relQ hB hgk hgq h hd hal hres he hn fun hent=>qKA h v1 u1 hent
    | false=>rw [hrw] at he; exact call_rel hA h hd hal hres he hn fun hent=>qKA h v1 u1 hent
  | _=>simp only [qU] at he; cases he
 | g fn first cap =>
  simp only [qU] at he;obtain ⟨fs,cs,rfl,hf,hc⟩:=v2;have hal:=((al_v (ρ:=ρ) hf).append u2).append (Al.map_left (f:=fun c:RC=>(match c with | .v x=>RV.v x | .p id off cells=>RV.p id off cells)) (R:=fun r v=>RH ρ F w r.back v) (hc.map_left_inv.imp fun c v _ hh=>(by cases c <;> exact hh)));have hres:∀ r ∈ first.map RV.v ++ rs ++ cap.map (fun c:RC=>(match c with | .v x=>RV.v x | .p id off cells=>RV.p id off cells)),RRes σ.M r:=fun r hr=>by
   rcases List.mem_append.1 hr with hr | hr
   ·rcases List.mem_append.1 hr with hr | hr
    ·obtain ⟨_,_,rfl⟩:=List.mem_map.1 hr; trivial
    ·exact u3 r hr
   ·obtain ⟨c,hcm,rfl⟩:=List.mem_map.1 hr
    have:=v3 c hcm
    cases c <;> exact this
  cases hrw:C.T.rw fn with
  | true =>
   rw [hrw,vYZ] at he;cases hgk:C.T.gk fn with
   | true=>rw [hgk,vYZ] at he; exact call_relK hB hgk h hd hal hres he fun hent=>qKA h v1 u1 hent
   | false =>
   rw [hgk,vYY] at he;obtain ⟨hgq,he⟩:=qQ he;exact call_relQ hB hgk hgq h hd hal hres he hn fun hent=>qKA h v1 u1 hent
  | false=>rw [hrw,vYY] at he; exact call_rel hA h hd hal hres he hn fun hent=>qKA h v1 u1 hent
 | _=>simp only [qU] at he; cases he
theorem guard_wanted {ops:Array Oper} {o:Oper} {b:Bool} (h:Rel' E C.n ρ F σ a w) (hg:uK ops σ o=some b):Region.wanted o (yielded ops a.tmps)=b:=by
 unfold uK at hg;unfold Region.wanted;cases hgd:o.guard with
 | none=>rw [hgd] at hg; cases hg; rfl
 | some jb =>
  obtain ⟨j,c⟩:=jb;rw [hgd] at hg;simp only at hg ⊢;split at hg
  ·rename_i dd hdd;split at hg
   ·rename_i x hx;cases hg;obtain ⟨v,hv,hr⟩:=h.slots dd _ hx
    have:=qUA hr
    subst this;simp [yielded,hdd,Array.getD_eq_getD_getElem?,hv]
   ·rename_i hx;cases hg;obtain ⟨v,hv,hr⟩:=h.slots dd _ hx;cases hr with
    | t _ vs hl _ =>
     simp [yielded,hdd,hv]
   ·cases hg
  ·cases hg
theorem step_ok {op:Op} (hT:TabOk P C.T) (hA:SndA P C.cA) (hB:SndB P C.T C.cB) (h:Rel' E C.n ρ F σ a w) (hd:dstB C.n d=true) (hvs:mapO (opv (mode op) σ) op.operands.toList=some vs) (he:qU C.T C.cA C.cB C.me (d.getD 0) op vs=some e) (hn:∀ i ∈ e.nw,qJB σ.M i) (hnd:∀ c,op ≠ .defer c) :
  OK P E C σ a w e ⟨d,op,ty,pos,af,g⟩:=by
 cases op with
 | defer c=>exact absurd rfl (hnd c)
 | move x=>exact ok_move h hd hvs he
 | assign x=>exact ok_assign h hd hvs he
 | pick c x y=>exact ok_pick h hd hvs he
 | alloc t=>exact ok_alloc hT h hd hvs he hn
 | box t x=>exact ok_box h hd hvs he hn
 | build t ps=>exact ok_build hT h hd hvs he
 | buildSlice t len ps=>exact ok_bslice hT h hd hvs he hn
 | load t x=>exact ok_load hT h hd hvs he
 | store t x y=>exact ok_store hT h hd hvs he
 | nilCheck x=>exact ok_nil h hd hvs he
 | binOp op t x y t'=>exact ok_bin hT h hd hvs he
 | unOp op t x =>
  cases op with
  | not=>exact ok_not h hd hvs he
  | neg=>exact ok_neg h hd hvs he
  | _=>simp only [qU] at he; cases he
 | convert s t x=>exact ok_convert hT h hd hvs he
 | makeFunc fn first cap=>exact ok_makeFunc h hd hvs he
 | makeSlice t x y=>exact ok_make hT h hd hvs he hn
 | slice t x lo hi mx=>exact ok_slice hT h hd hvs he
 | fieldAddr t x f=>exact ok_fieldAddr hT h hd hvs he
 | field t x f=>exact ok_field hT h hd hvs he
 | indexAddr t x y=>exact ok_indexAddr hT h hd hvs he
 | index t x y=>exact ok_index hT h hd hvs he
 | range t x=>exact ok_range hT h hd hvs he hn
 | next x b=>exact ok_next h hd hvs he
 | extract x i=>exact ok_extract h hd hvs he
 | call c =>
  obtain ⟨callee,args,ats⟩:=c;cases callee with
  | value fx=>exact ok_call hA hB h hd hvs he hn
  | builtin b =>
   cases b with
   | len=>exact ok_len hT h hd hvs he
   | min=>exact ok_min h hd hvs he
   | max=>exact ok_max h hd hvs he
   | append=>exact ok_append hT h hd hvs he hn
   | _=>simp only [qU] at he; cases he
  | _=>simp only [qU] at he; cases he
 | _=>simp only [qU] at he; cases he
theorem ok_defer (hT:TabOk P C.T) (hE:E.D=Harm P) (h:Rel' E C.n ρ F σ a w) {d:Option Tmp} {ty:TypeId} {pos:String} {af:Array Edge} {g:Option (Nat × Bool)} {c:Call} {vs:List RV} {e:Eff} (hd:dstB C.n d=true)
  (hvs:mapO (opv 0 σ) c.operands.toList=some vs) (he:qU C.T C.cA C.cB C.me (d.getD 0) (.defer c) vs=some e):GoesD P E.D ⟨d,.defer c,ty,pos,af,g⟩ a w fun a' w'=>Rel E C.n (σ.apply e d) a' w':=by
 obtain ⟨callee,args,ats⟩:=c;cases callee with
 | value fx =>
  cases vs with
  | nil=>simp only [qU] at he; cases he
  | cons x vs =>
   simp only [qU] at he;obtain ⟨hargs,he1⟩:=qQ he
   clear he
   have hargs0:args=#[]:=by simpa using hargs
   subst hargs0;have hvs':mapO (opv 0 σ) [fx]=some (x :: vs):=by simpa [Call.operands] using hvs
   obtain ⟨y,hy,hys⟩:=qWI hvs';cases hys;have key:∀ (f:Nat) (fs cs:List Value),a.eval fx=.func (.func f) fs.toArray cs.toArray→C.T.dd f=true→e=.val .un→GoesD P E.D ⟨d,.defer ⟨.value fx,#[],ats⟩,ty,pos,af,g⟩ a w fun a' w'=>Rel E C.n (σ.apply e d) a' w':=by
    intro f fs cs hev hdd he;subst he;obtain ⟨hent,hc⟩:=hT.dd f hdd;have hh:Harm P { target:=.fn (.func f) cs.toArray,args:=fs.toArray }:=⟨f,cs.toArray,rfl,hent,hc⟩
    refine .inr ⟨{ target:=.fn (.func f) cs.toArray,args:=fs.toArray },?_,by rw [hE]; exact hh,?_⟩
    ·simp [execOp,resolve,hev,Deferred.ofValue]
    ·have h':Rel' E C.n ρ F σ { a with defers:={ target:=.fn (.func f) cs.toArray,args:=fs.toArray } :: a.defers } w:=⟨h.size,fun d hd=>by
      rcases List.mem_cons.1 hd with rfl | hd
      ·rw [hE]; exact hh
      ·exact h.defers d hd,h.slots,h.mem⟩
     exact ⟨ρ,F,h'.val (x:=.un) (Grow.refl w) (fun _ h=>h) (fun _ h=>.inl h) trivial hd⟩
   cases x with
   | v p =>
    cases p with
    | f fn first cap =>
     simp only at he1;obtain ⟨hdd,he⟩:=qQ he1;obtain ⟨v,v1,v2,v3⟩:=yU h hy;cases v2 with
     | f _ _ _ fs cs hl hm hf hc=>exact key fn fs cs (uQ h v1) hdd (by injection he with he; exact he.symm)
    | _=>simp only at he1; cases he1
   | g fn first cap =>
    simp only at he1;obtain ⟨hdd,he⟩:=qQ he1;obtain ⟨v,v1,v2,v3⟩:=yU h hy;obtain ⟨fs,cs,rfl,hf,hc⟩:=v2;exact key fn fs cs (uQ h v1) hdd (by injection he with he; exact he.symm)
   | _=>simp only at he1; cases he1
 | _=>simp only [qU] at he; cases he
theorem sim_all {ops:Array Oper} (hT:TabOk P C.T) (hE:E.D=Harm P) (hA:SndA P C.cA) (hB:SndB P C.T C.cB):Sim P E C ops:=by
 intro o σ r a w hs hr;obtain ⟨ρ,F,h⟩:=hr;unfold qJK at hs;simp only [vQQ] at hs;obtain ⟨gb,hg,hs⟩:=hs;have hw:=guard_wanted h hg;obtain ⟨hd,hs⟩:=qQ hs;cases gb with
 | true =>
  rw [if_pos hw];simp only [vYZ,vQQ] at hs;obtain ⟨vs,hvs,e,he,hs⟩:=hs;obtain ⟨hn,hs⟩:=qQ hs;cases hs;have hn':∀ i ∈ e.nw,qJB σ.M i:=fun i hi=>zZZ (List.all_eq_true.1 hn i hi)
  obtain ⟨d,op,ty,pos,af,g⟩:=o;by_cases hdf:∃ c,op=.defer c
  ·obtain ⟨c,rfl⟩:=hdf;exact ok_defer hT hE h hd hvs he
  ·exact .inl (step_ok hT hA hB h hd hvs he hn' (fun c hc=>hdf ⟨c,hc⟩))
 | false =>
  rw [if_neg (by rw [hw]; simp)];simp only [vYY,vQZ] at hs;subst hs;exact ⟨ρ,F,h.val (x:=.v (.t [])) (Grow.refl w) (fun _ h=>h) (fun _ h=>.inl h) (RP.t [] [] rfl fun i p v hp=>by simp at hp) hd⟩
end
end Go.Rx

/- Part 6 of the texts behind the last one: rules and contracts. No condition. -/
import Derived.Test.YtglkkhpdbfacfaaBV5
open Option renaming bind_eq_some_iff → vQQ, map_eq_some_iff → vZK, bind_some → vZV
open Option.some renaming injEq → vQZ
open Bool renaming and_eq_true → vQJ
open List renaming getElem?_eq_getElem → vQK, mem_cons_of_mem → vQV, mem_cons_self → vQG, getElem?_map → vQH
open Nat renaming eq_of_beq_eq_true → vQU, lt_of_lt_of_le → vZZ
open Classical renaming propDecidable → vZH
namespace Go.Rx
open Go.RowKit Go.Sx
def ArgB (F:Nat→Prop) (w:World) (b:Nat):HV→Value→Prop
 | .v x,v=>RP F w x v
 | .p _ off,v=>v=.pointer (some ⟨b,off,none⟩)
 | _,_=>False
def yQJ (P:Program) (g:Nat) (hs:List HV) (ps:List PV) (x:PV) (ps':List PV):Prop:=kH P g∧∀ (w:World) (F:Nat→Prop) (b:Nat) (vals us:List Value) (ty:TypeId),(∀ k,F k→k < w.heap.size)→¬ F b→b < w.heap.size →
 w.heap[b]? = some (.cells us.toArray ty)→Al (RP F w) ps us→(∀ u ∈ us,u.oneCell'=true)→(∀ h ∈ hs,∀ id off,h=.p id off→id=pid)→Al (ArgB F w b) hs vals →
 Calls P g vals.toArray w (fun e w'=>∃ v F' us' ty',e=.returned v∧GrowB (· = b) w w'∧(∀ k,F k→F' k)∧(∀ k,F' k→F k ∨ (w.heap.size≤k∧k < w'.heap.size))∧RP F' w' x v ∧
  w'.heap[b]? = some (.cells us'.toArray ty')∧Al (RP F' w') ps' us'∧∀ u ∈ us',u.oneCell'=true)
def GsR (F:Nat→Prop) (w:World) (A:Option Addr) (p:PV) (v:Value):Prop:=match p with
 | .gs e sz x=>∃ (rows:Rows) (c:Nat) (vr:List (List Value)),x.rowsO=some rows∧v=.slice A rows.len c∧0 < sz∧Al (Al (RP F w)) rows.L vr∧(∀ r ∈ rows.L,r.length=sz)∧(∀ y ∈ vr,∀ u ∈ y,u.oneCell'=true)∧w.ownsRow 0 e sz (.slice A rows.len c) rows.len vr.flatten
 | p=>RP F w p v
theorem yYF {F:Nat→Prop} {w:World} {A:Option Addr} {p:PV} {v:Value} (h:RP F w p v):GsR F w A p v:=by
 cases p with
 | gs e sz x=>cases h
 | _=>exact h
def zWY (P:Program) (g:Nat) (hs:List HV) (ps:List PV) (x:PV) (ps':List PV):Prop:=kH P g∧∀ (w:World) (F:Nat→Prop) (b:Nat) (A:Option Addr) (vals us:List Value) (ty:TypeId),(∀ k,F k→k < w.heap.size)→¬ F b→b < w.heap.size →
 w.heap[b]? = some (.cells us.toArray ty)→oneG ps=true→Al (GsR F w A) ps us→(∀ u ∈ us,u.oneCell'=true)→(∀ k,A.map (·.block)=some k→¬ F k∧k < w.heap.size∧k ≠ b)→(∀ h ∈ hs,∀ id off,h=.p id off→id=pid)→Al (ArgB F w b) hs vals →
 Calls P g vals.toArray w (fun e w'=>∃ v F' us' ty' A',e=.returned v∧GrowB (fun k=>k=b ∨ A.map (·.block)=some k) w w'∧(∀ k,F k→F' k)∧(∀ k,F' k→F k ∨ (w.heap.size≤k∧k < w'.heap.size) ∨ A.map (·.block)=some k)∧RP F' w' x v ∧
  w'.heap[b]? = some (.cells us'.toArray ty')∧Al (GsR F' w' A') ps' us'∧(∀ u ∈ us',u.oneCell'=true)∧∀ k,A'.map (·.block)=some k→¬ F' k∧k < w'.heap.size∧k ≠ b∧(w.heap.size≤k ∨ A.map (·.block)=some k))
def zWJ (P:Program) (g:Nat) (hs:List HV) (ps:List PV) (x:PV) (ps':List PV):Bool→Prop
 | false=>yQJ P g hs ps x ps'
 | true=>zWY P g hs ps x ps'
def SndB (P:Program) (T:Tab) (cB:yQU):Prop:=∀ g hs ps x ps',cB g hs ps=some (x,ps')→zWJ P g hs ps x ps' (T.gq g)
section
variable {P:Program} {E:Env} {C:Cx} {ρ:Own} {F:Nat→Prop} {σ:St} {a:Act} {w:World} {vs:List RV} {e:Eff}
variable {d:Option Tmp} {ty:TypeId} {pos:String} {af:Array Edge} {g:Option (Nat × Bool)}
theorem Rel'.setB {n:Nat} (h:Rel' E n ρ F σ a w) {id b:Nat} (hρ:ρ id=some (.blk b)) {F':Nat→Prop} {ent:Ent} {w':World} (g:GrowB (· = b) w w') (hF:∀ k,F k→F' k) (hF':∀ k,F' k→F k ∨ (w.heap.size≤k∧k < w'.heap.size)) (hent:EntOk ρ F' w' id ent) {x:HV} {v:Value} (hx:RH ρ F' w' x v) {dst:Option Nat} (hd:dstB n dst=true) :
  Rel' E n ρ F' (σ.apply (.set id ent x) dst) (a.put dst v) w':=by
 have hb:(Loc.blk b).bl=some b:=rfl;have hoff:=h.mem.off id _ b hρ hb;have fzb:∀ k,F k→w'.heap[k]? = w.heap[k]?:=fun k hk=>g.block k (h.mem.fz k hk).1 fun e=>by subst e; exact hoff.1 hk
 refine h.apply (.set id ent x) dst v (fun d e=>by subst e; simpa [dstB] using hd) ⟨fun k b hk=>hk,fun k L' hk _ _=>hk,fun _ _ _ _ _ _ _ hk _ _=>hk,fun k rows a' c' kk sz _ hs=>by simp [Eff.set,zY] at hs,fun k hk=>⟨hF k hk,fzb k hk⟩⟩ hx
  (fun k L' b' hu hk hb' => ?_) (fun _ _=>rfl) (fun k y hu => ?_) (fun k hu=>rfl) (fun k y hu => ?_) h.mem.apart (fun k L' b' hk hb' => ?_) (fun k hk => ?_) ?_
 ·refine g.block b' (h.mem.off k L' b' hk hb').2.1 fun e => ?_
  subst e
  have:=h.mem.apart k id L' _ b' hk hρ hb' hb
  subst this;simp [Eff.set,yQ] at hu
 ·simp only [Eff.set,yQ] at hu;split at hu
  ·rename_i he; rw [← he]; exact h.mem.lt hρ rfl
  ·cases hu
 ·simp only [Eff.set,yQ] at hu;split at hu
  ·rename_i he; cases hu; subst he; exact hent
  ·cases hu
 ·have:=h.mem.off k L' b' hk hb'
  exact ⟨fun hf=>by rcases hF' b' hf with h1 | h1; exact this.1 h1; omega,vZZ this.2.1 g.size,this.2.2⟩
 ·rcases hF' k hk with h1 | h1
  ·exact ⟨vZZ (h.mem.fz k h1).1 g.size,(h.mem.fz k h1).2⟩
  ·exact ⟨h1.2,.inr (.inl (Nat.le_trans h.mem.grow.size h1.1))⟩
 ·refine ⟨g.os.trans h.mem.grow.os,g.tape.trans h.mem.grow.tape,g.output.trans h.mem.grow.output,Nat.le_trans h.mem.grow.size g.size,fun k hk hW => ?_⟩;rw [g.block k (vZZ hk h.mem.grow.size) fun e => ?_]
  ·exact h.mem.grow.block k hk hW
  ·subst e;rcases hoff.2.2 with h1 | h1
   ·omega
   ·exact hW h1
theorem qGU:∀ {xs:List RV} {p:Nat × List CV},zXE xs=some p→∃ off,RV.p p.1 off p.2 ∈ xs
 | [],p,h=>by cases h
 | x :: xs,p,h=>by
  simp only [zXE] at h;split at h
  ·cases h; exact ⟨_,vQG⟩
  ·obtain ⟨off,ho⟩:=qGU h; exact ⟨off,vQV _ ho⟩
theorem jVF {M:Mem} {hc:List HV} {cs:List CV} {ps:List PV} {us:List Value} (h:mapO (cvOf M) hc=some cs) (hal:Al (RH ρ F w) hc us) (hp:mapO CV.pv cs=some ps):Al (RP F w) ps us:=by
 have hcv:=qZH h hal;have h1:=zQ hp;refine ⟨by rw [← h1.1,hcv.1],fun i p v hpi hv => ?_⟩;have hil:=(List.getElem?_eq_some_iff.1 hpi).1;have hl:i < cs.length:=by rw [h1.1]; exact hil
 have hfz:=h1.2 i _ p (vQK hl) hpi;obtain ⟨hrh,ho⟩:=hcv.2 i _ v (vQK hl) hv;generalize cs[i]=c at hfz hrh ho;unfold CV.pv at hfz;split at hfz
 ·cases hfz; exact hrh
 ·cases hfz;have e:v=.slice none 0 0:=hrh;subst e;exact .zs
 ·cases hfz
theorem yKX {f:Nat} (hB:SndB P C.T C.cB) (hgq:C.T.gq f=false) (h:Rel' E C.n ρ F σ a w) {o:Oper} (hd:dstB C.n o.dst=true) {args:List RV} {us:List Value} (hu:Al (fun r v=>RH ρ F w r.back v) args us) (hres:∀ r ∈ args,RRes σ.M r) (he:qWI C.cB f args=some e)
  (hrun:kH P f→(execOp a.eval o).run P w=.ok (.enter f us.toArray) w):OK P E C σ a w e o:=by
 simp only [qWI,vQQ,vQZ] at he;obtain ⟨⟨id,cs⟩,hp,ps,hps,hs,hhs,⟨x,ps'⟩,hr,rfl⟩:=he;have hbq:=hB f hs ps x ps' hr;rw [hgq] at hbq;obtain ⟨hent,hcall⟩:=hbq;obtain ⟨off,hmem⟩:=qGU hp;obtain ⟨hc,hlk,hcc⟩:=hres _ hmem;obtain ⟨b,cu,ty',hρ,hheap,hal,hone⟩:=h.mem.ent id _ hlk;have hpu:=jVF hcc hal hps;have hoff:=h.mem.off id _ b hρ rfl;have hrs:∀ y ∈ catR RV.regs args,∃ e sz,qU σ.M y.1=some (.reg e sz y.2):=fun y hy=>by
  obtain ⟨x,hx,hy'⟩:=mem_catR.1 hy;exact zUA (hres x hx) y hy'
 have hid:id ∉ (catR RV.regs args).map (·.1):=fun hm=>by
  obtain ⟨r,hr,hre⟩:=List.mem_map.1 hm;obtain ⟨e',sz,hl⟩:=hrs r hr;have hre':r.1=id:=hre;rw [hre',hlk] at hl; cases hl
 have h1:=h.froze (catR RV.regs args) hrs;generalize hFF:frzF (catR RV.regs args) ρ F=F1 at h1;have hF1:∀ k,F k→F1 k:=fun k hk=>by rw [← hFF]; exact .inl hk
 have hρ1:frzρ (catR RV.regs args) ρ id=some (.blk b):=by rw [qGJ hid]; exact hρ
 have hmo:=zQ hhs;unfold OK Goes;rw [hrun hent];simp only;refine Calls.mono (hcall w F1 b us cu ty' (fun k hk=>(h1.mem.fz k hk).1) (h1.mem.off id _ b hρ1 rfl).1 hoff.2.1 hheap (hpu.imp fun _ _ _ hx=>hx.mono fun k hk=>⟨hF1 k hk,rfl⟩) hone ?_ ?_) fun en w' ⟨v,F',us',ty2,hv,gr,f1,f2,hx,hb',hal',hone'⟩=>⟨v,hv,?_⟩
 ·intro hh hhm id' off' he';obtain ⟨i,hi⟩:=List.mem_iff_getElem?.1 hhm;have hil:=(List.getElem?_eq_some_iff.1 hi).1;have hl:i < args.length:=by rw [hmo.1]; exact hil
  have ht:=hmo.2 i _ hh (vQK hl) hi;rw [he'] at ht;generalize args[i]=r at ht;cases r <;> simp only [RV.toB] at ht
  case p id2 off2 c2 =>
   obtain ⟨_,ht⟩:=qQ ht;cases ht; rfl
  all_goals
   obtain ⟨_,ht⟩:=qQ ht;simp only [vQQ] at ht;obtain ⟨_,_,ht⟩:=ht;cases ht
 ·refine ⟨by rw [← hmo.1,hu.1],fun i hh v hi hv => ?_⟩;have hil:=(List.getElem?_eq_some_iff.1 hi).1;have hl:i < args.length:=by rw [hmo.1]; exact hil
  have ht:=hmo.2 i _ hh (vQK hl) hi;have hrv:=hu.2 i _ v (vQK hl) hv;have hmm:=List.getElem_mem hl;have hrr:=hres _ hmm;generalize args[i]=r at ht hrv hmm hrr;have gen:r.still=true→∀ y,r.fz=some y→RP F1 w y v:=fun hst y hy=>zKW h.mem hF1 hy hrv hrr (.inl ⟨hst,fun x hx L b hL hb=>by rw [← hFF]; exact .inr ⟨x.1,L,List.mem_map.2 ⟨x,zVI hmm hx,rfl⟩,hL,hb⟩⟩)
  cases r <;> simp only [RV.toB] at ht
  case p id2 off2 c2 =>
   obtain ⟨he2,ht⟩:=qQ ht;cases ht
   have:=vQU he2
   subst this;obtain ⟨b2,hb2,rfl⟩:=hrv;rw [hρ] at hb2; cases hb2; rfl
  all_goals
   obtain ⟨hst,ht⟩:=qQ ht;simp only [vQQ] at ht;obtain ⟨y,hy,ht⟩:=ht;cases ht;exact gen hst y hy
 ·have h2:=h1.setB (id:=id) hρ1 gr f1 f2 (ent:=.blk (ps'.map PV.toH)) ⟨b,us',ty2,hρ1,hb',Al.map_left (hal'.imp fun _ _ _ h=>qVG h),hone'⟩ (x:=.v x) (v:=v) hx hd;exact Rel.eqv ⟨_,_,h2⟩ (qUU (e:=.set id (.blk (ps'.map PV.toH)) (.v x)) rfl rfl hid)
theorem yKI {F1:Nat→Prop} {id b:Nat} {args:List RV} {hs:List HV} {us:List Value} (hρ:ρ id=some (.blk b)) (hu:Al (fun r v=>RH ρ F w r.back v) args us) (hhs:mapO (RV.toB id) args=some hs) (gen:∀ r ∈ args,r.still=true→∀ y v,RH ρ F w r.back v→r.fz=some y→RP F1 w y v) :
  (∀ h ∈ hs,∀ id off,h=.p id off→id=pid)∧Al (ArgB F1 w b) hs us:=by
 have hmo:=zQ hhs;refine ⟨fun hh hhm id' off' he' => ?_,by rw [← hmo.1,hu.1],fun i hh v hi hv => ?_⟩
 ·obtain ⟨i,hi⟩:=List.mem_iff_getElem?.1 hhm;have hil:=(List.getElem?_eq_some_iff.1 hi).1;have hl:i < args.length:=by rw [hmo.1]; exact hil
  have ht:=hmo.2 i _ hh (vQK hl) hi;rw [he'] at ht;generalize args[i]=r at ht;cases r <;> simp only [RV.toB] at ht
  case p id2 off2 c2 =>
   obtain ⟨_,ht⟩:=qQ ht;cases ht; rfl
  all_goals
   obtain ⟨_,ht⟩:=qQ ht;simp only [vQQ] at ht;obtain ⟨_,_,ht⟩:=ht;cases ht
 ·have hil:=(List.getElem?_eq_some_iff.1 hi).1;have hl:i < args.length:=by rw [hmo.1]; exact hil
  have ht:=hmo.2 i _ hh (vQK hl) hi;have hrv:=hu.2 i _ v (vQK hl) hv;have hg:=gen _ (List.getElem_mem hl);generalize args[i]=r at ht hrv hg;cases r <;> simp only [RV.toB] at ht
  case p id2 off2 c2 =>
   obtain ⟨he2,ht⟩:=qQ ht;cases ht
   have:=vQU he2
   subst this;obtain ⟨b2,hb2,rfl⟩:=hrv;rw [hρ] at hb2; cases hb2; rfl
  all_goals
   obtain ⟨hst,ht⟩:=qQ ht;simp only [vQQ] at ht;obtain ⟨y,hy,ht⟩:=ht;cases ht;exact hg hst y v hrv hy
theorem yGZ:∀ {cs:List CV} {ps:List PV},mapO CV.pvq cs=some ps→∀ {i id e sz:Nat} {rows:Rows},cs[i]? = some (.o id e sz rows)→qYG ps ≠ none
 | [],ps,_,i,id,e,sz,rows,h=>by simp at h
 | c :: cs,ps,hm,i,id,e,sz,rows,h=>by
  simp only [mapO,vQQ,vQZ] at hm;obtain ⟨p,hp,qs,hqs,rfl⟩:=hm;cases i with
  | zero =>
   simp only [List.getElem?_cons_zero,vQZ] at h;subst h;cases hp;simp [qYG]
  | succ i =>
   have:=yGZ hqs (by simpa using h)
   cases p <;> simp only [qYG] <;> first | exact this | (intro hc; cases hc)
theorem jQE:∀ {cs:List CV} {ps:List PV},mapO CV.pvq cs=some ps→oneG ps=true→∀ {i id e sz:Nat} {rows:Rows},cs[i]? = some (.o id e sz rows)→qYV cs=some id
 | [],ps,_,_,i,id,e,sz,rows,h=>by simp at h
 | c :: cs,ps,hm,ho,i,id,e,sz,rows,h=>by
  simp only [mapO,vQQ,vQZ] at hm;obtain ⟨p,hp,qs,hqs,rfl⟩:=hm;cases i with
  | zero =>
   simp only [List.getElem?_cons_zero,vQZ] at h;subst h; rfl
  | succ i =>
   have hi:cs[i]? = some (.o id e sz rows):=by simpa using h
   have hf:=yGZ hqs hi;have no:∀ {e0 s0:Nat} {x0:PV},p=.gs e0 s0 x0→False:=fun hpe=>by
    subst hpe;simp only [oneG,Option.isNone_iff_eq_none] at ho;exact hf ho
   cases c with
   | o id2 e2 sz2 rows2=>cases hp; exact (no rfl).elim
   | h x =>
    have h1:oneG qs=true:=by cases p <;> first | exact (no rfl).elim | exact ho
    exact jQE hqs h1 hi
theorem zQC:∀ {cs:List CV} {id:Nat},qYV cs=some id→∃ (i e sz:Nat) (rows:Rows),cs[i]? = some (.o id e sz rows)
 | [],id,h=>by cases h
 | .o id2 e sz rows :: cs,id,h=>by cases h; exact ⟨0,e,sz,rows,rfl⟩
 | .h x :: cs,id,h=>by
  obtain ⟨i,e,sz,rows,h⟩:=zQC (cs:=cs) h;exact ⟨i + 1,e,sz,rows,by simpa using h⟩
theorem yYI {M:Mem} {hc:List HV} {cs:List CV} {ps:List PV} {us:List Value} {A:Option Addr} (hm:MemOk E ρ F M w) (h:mapO (cvOf M) hc=some cs) (hal:Al (RH ρ F w) hc us) (hp:mapO CV.pvq cs=some ps)
  (hA:∀ (i id e sz:Nat) (rows:Rows),cs[i]? = some (.o id e sz rows)→∀ a c k s,ρ id=some (.reg a c k s)→A=a):Al (GsR F w A) ps us:=by
 have hcv:=qZH h hal;have h1:=zQ hp;refine ⟨by rw [← h1.1,hcv.1],fun i p v hpi hv => ?_⟩;have hil:=(List.getElem?_eq_some_iff.1 hpi).1;have hl:i < cs.length:=by rw [h1.1]; exact hil
 have hci:=vQK hl;have hfz:=h1.2 i _ p hci hpi;obtain ⟨hrh,ho⟩:=hcv.2 i _ v hci hv;have hA':=hA i;rw [hci] at hA';generalize cs[i]=c at hfz hrh ho hA';unfold CV.pvq at hfz;split at hfz
 ·cases hfz; exact yYF hrh
 ·cases hfz;have e:v=.slice none 0 0:=hrh;subst e;exact .zs
 ·rename_i id e sz rows;cases hfz;obtain ⟨a,c,k,sz',hρ,rfl⟩:=hrh;obtain ⟨a2,c2,vr,hρ2,q1,q2,q3,q4,q5⟩:=hm.ent id _ (ho _ _ _ _ rfl)
  have:=hA' id e sz rows rfl _ _ _ _ hρ
  subst this;rw [hρ] at hρ2;simp only [vQZ,Loc.reg.injEq] at hρ2;obtain ⟨rfl,rfl,rfl,rfl⟩:=hρ2;refine ⟨rows,c,vr,?_,rfl,q1,q2,q3,q4,q5⟩;cases rows <;> rfl
 ·cases hfz
theorem zZU:∀ {ps:List PV} {e sz:Nat} {x:PV},qYG ps=some (e,sz,x)→∃ i:Nat,ps[i]? = some (.gs e sz x)
 | [],e,sz,x,h=>by cases h
 | p :: ps,e,sz,x,h=>by
  cases p with
  | gs e2 sz2 x2=>cases h; exact ⟨0,rfl⟩
  | _ =>
   obtain ⟨i,hi⟩:=zZU (ps:=ps) h;exact ⟨i + 1,by simpa using hi⟩
theorem zJX:∀ {ps:List PV},oneG ps=true→∀ {i e sz:Nat} {x:PV},ps[i]? = some (.gs e sz x)→qYG ps=some (e,sz,x)
 | [],_,i,e,sz,x,h=>by simp at h
 | p :: ps,ho,i,e,sz,x,h=>by
  cases i with
  | zero =>
   simp only [List.getElem?_cons_zero,vQZ] at h;subst h; rfl
  | succ i =>
   have hi:ps[i]? = some (.gs e sz x):=by simpa using h
   cases p with
   | gs e2 sz2 x2 =>
    simp only [oneG,Option.isNone_iff_eq_none] at ho
    have:∀ (qs:List PV),qYG qs=none→∀ j:Nat,qs[j]? ≠ some (.gs e sz x):=by
     intro qs;induction qs with
     | nil=>intro _ j h; simp at h
     | cons q qs ih =>
      intro hq j hj;cases j with
      | zero =>
       simp only [List.getElem?_cons_zero,vQZ] at hj;subst hj; cases hq
      | succ j =>
       refine ih ?_ j (by simpa using hj);cases q <;> first | exact hq | cases hq
    exact absurd hi (this ps ho i)
   | _=>exact zJX (ps:=ps) ho hi
theorem zWV:∀ {ps:List PV},oneG ps=true→∀ {i j:Nat} {e sz e2 sz2:Nat} {x x2:PV},i ≠ j→ps[i]? = some (.gs e sz x)→ps[j]? = some (.gs e2 sz2 x2)→False
 | [],_,i,j,e,sz,e2,sz2,x,x2,_,h,_=>by simp at h
 | p :: ps,ho,i,j,e,sz,e2,sz2,x,x2,hij,hi,hj=>by
  have none:∀ (qs:List PV),qYG qs=none→∀ (j e sz:Nat) (x:PV),qs[j]? ≠ some (.gs e sz x):=by
   intro qs;induction qs with
   | nil=>intro _ j e sz x h; simp at h
   | cons q qs ih =>
    intro hq j e sz x hj;cases j with
    | zero =>
     simp only [List.getElem?_cons_zero,vQZ] at hj;subst hj; cases hq
    | succ j =>
     refine ih ?_ j e sz x (by simpa using hj);cases q <;> first | exact hq | cases hq
  cases i with
  | zero =>
   cases j with
   | zero=>exact hij rfl
   | succ j =>
    simp only [List.getElem?_cons_zero,vQZ] at hi;subst hi;simp only [oneG,Option.isNone_iff_eq_none] at ho;exact none ps ho j _ _ _ (by simpa using hj)
  | succ i =>
   cases j with
   | zero =>
    simp only [List.getElem?_cons_zero,vQZ] at hj;subst hj;simp only [oneG,Option.isNone_iff_eq_none] at ho;exact none ps ho i _ _ _ (by simpa using hi)
   | succ j =>
    have hi':ps[i]? = some (.gs e sz x):=by simpa using hi
    have hj':ps[j]? = some (.gs e2 sz2 x2):=by simpa using hj
    have ho':oneG ps=true:=by
     cases p with
     | gs e3 sz3 x3 =>
      simp only [oneG,Option.isNone_iff_eq_none] at ho;exact absurd hi' (none ps ho i _ _ _)
     | _=>exact ho
    exact zWV ho' (fun e=>hij (by rw [e])) hi' hj'
theorem zZF {id m k:Nat} {x y:Option Ent}:qH [(id,x),(m,y)] k=if m=k then some y else if id=k then some x else none:=by
 simp only [qH];by_cases e:m=k
 ·subst e; simp
 ·rw [yW e,vYZ,if_neg e];by_cases e2:id=k
  ·subst e2; simp
  ·simp [yW e2,e2]
theorem yQG {A:Option Addr} {m:Nat} {p:PV} {v:Value} (h:GsR F w A p v) (hm:∀ e sz x rows c,p=.gs e sz x→x.rowsO=some rows→v=.slice A rows.len c→∃ s,ρ m=some (.reg A c rows.len s)):RH ρ F w (p.toQ m) v:=by
 cases p with
 | gs e sz x =>
  obtain ⟨rows,c,vr,h1,h2,_⟩:=h;obtain ⟨s,hs⟩:=hm e sz x rows c rfl h1 h2;exact ⟨A,c,rows.len,s,hs,h2⟩
 | zs=>cases h; rfl
 | _=>exact h
def QEnt (F':Nat→Prop) (w':World) (A':Option Addr) (ps':List PV) (us':List Value) (L':Option Loc):Option Ent→Prop
 | none=>L'=none
 | some en=>∃ (e sz:Nat) (x:PV) (rows:Rows) (c:Nat) (vr:List (List Value)),qYG ps'=some (e,sz,x)∧x.rowsO=some rows∧en=.reg e sz rows∧L'=some (.reg A' c rows.len sz)∧0 < sz∧Al (Al (RP F' w')) rows.L vr∧(∀ r ∈ rows.L,r.length=sz)∧(∀ y ∈ vr,∀ u ∈ y,u.oneCell'=true)∧w'.ownsRow 0 e sz (.slice A' rows.len c) rows.len vr.flatten ∧
   ∀ (i e2 sz2:Nat) (x2:PV) (u:Value),ps'[i]? = some (.gs e2 sz2 x2)→us'[i]? = some u→u=.slice A' rows.len c
theorem zKC {f:Nat} (hB:SndB P C.T C.cB) (hgq:C.T.gq f=true) (h:Rel' E C.n ρ F σ a w) {o:Oper} (hd:dstB C.n o.dst=true) {dst:Nat} {args:List RV} {us:List Value} (hu:Al (fun r v=>RH ρ F w r.back v) args us) (hres:∀ r ∈ args,RRes σ.M r) (he:qYU C.cB dst f args=some e) (hn:∀ i ∈ e.nw,qQA σ.M i)
  (hrun:kH P f→(execOp a.eval o).run P w=.ok (.enter f us.toArray) w):OK P E C σ a w e o:=by
 simp only [qYU,vQQ] at he;obtain ⟨⟨id,cs⟩,hp,ps,hps,hs,hhs,⟨x,ps'⟩,hr,ent,hent',he⟩:=he;obtain ⟨hb,he⟩:=qQ he;simp only [vQZ] at he;subst he;simp only [vQJ,Bool.not_eq_true'] at hb;obtain ⟨⟨⟨⟨ho1,ho2⟩,hregs⟩,hidm⟩,hflat⟩:=hb;have hbq:=hB f hs ps x ps' hr;rw [hgq] at hbq;obtain ⟨hent,hcall⟩:=hbq;obtain ⟨off,hmem⟩:=qGU hp;obtain ⟨hc,hlk,hcc⟩:=hres _ hmem;obtain ⟨b,cu,ty',hρ,hheap,hal,hone⟩:=h.mem.ent id _ hlk;have hidlt:=h.mem.ord id _ hlk;have hoff:=h.mem.off id _ b hρ rfl;have hregs':catR RV.regs args=[]:=by simpa using hregs
 -- where the growing slice lies
 obtain ⟨A,hA1,hA2⟩:∃ A:Option Addr,(∀ (i id e sz:Nat) (rows:Rows),cs[i]? = some (.o id e sz rows)→∀ a c k s,ρ id=some (.reg a c k s)→A=a)∧(∀ k,A.map (·.block)=some k→∃ oid L,qYV cs=some oid∧ρ oid=some L∧L.bl=some k):=by
  cases hoid:qYV cs with
  | none=>exact ⟨none,fun i id e sz rows hi=>(by rw [jQE hps ho1 hi] at hoid; cases hoid),fun k hk=>by cases hk⟩
  | some oid =>
   obtain ⟨i,e,sz,rows,hi⟩:=zQC hoid;obtain ⟨v,hv,hrh,_⟩:=(qZH hcc hal).get hi;obtain ⟨a1,c1,k1,s1,hρo,_⟩:=hrh;refine ⟨a1,fun i2 id2 e2 sz2 rows2 hi2 a c k s hρ2 => ?_,fun k hk=>⟨oid,_,rfl,hρo,hk⟩⟩
   have:=jQE hps ho1 hi2
   rw [hoid] at this;cases this;rw [hρo] at hρ2;simp only [vQZ,Loc.reg.injEq] at hρ2;exact hρ2.1
 have hcells:=yYI h.mem hcc hal hps hA1;generalize hm0:(qYV cs).getD (100000 + dst)=m at *
 -- what m is
 have hmlt:m < 2000000:=by
  cases hoid:qYV cs with
  | none=>rw [hoid] at hm0 hn; simp only [Option.getD_none] at hm0; subst hm0; exact (hn _ (by simp)).2
  | some oid =>
   rw [hoid] at hm0; simp only [Option.getD_some] at hm0; subst hm0;obtain ⟨i,e,sz,rows,hi⟩:=zQC hoid;obtain ⟨v,hv,hrh,_⟩:=(qZH hcc hal).get hi;obtain ⟨a1,c1,k1,s1,hρo,_⟩:=hrh;exact h.mem.lt hρo rfl
 have hmreg:∀ L,ρ m=some L→∃ a c k s,L=.reg a c k s:=fun L hL=>by
  cases hoid:qYV cs with
  | none =>
   rw [hoid] at hm0 hn; simp only [Option.getD_none] at hm0; subst hm0;rw [h.mem.fresh (hn _ (by simp))] at hL; cases hL
  | some oid =>
   rw [hoid] at hm0; simp only [Option.getD_some] at hm0; subst hm0;obtain ⟨i,e,sz,rows,hi⟩:=zQC hoid;obtain ⟨v,hv,hrh,_⟩:=(qZH hcc hal).get hi;obtain ⟨a1,c1,k1,s1,hρo,_⟩:=hrh;rw [hρo] at hL; cases hL; exact ⟨_,_,_,_,rfl⟩
 have hAm:∀ k,A.map (·.block)=some k→∃ L,ρ m=some L∧L.bl=some k:=fun k hk=>by
  obtain ⟨oid,L,h1,h2,h3⟩:=hA2 k hk;rw [h1] at hm0; simp only [Option.getD_some] at hm0; subst hm0;exact ⟨L,h2,h3⟩
 have hidne:id ≠ m:=fun e=>by subst e; simp at hidm
 have hAoff:∀ k,A.map (·.block)=some k→¬ F k∧k < w.heap.size∧(E.w0.heap.size≤k ∨ E.W k):=fun k hk=>by
  obtain ⟨L,h1,h2⟩:=hAm k hk; exact h.mem.off m L k h1 h2
 have hAb:∀ k,A.map (·.block)=some k→k ≠ b:=fun k hk e=>by
  subst e;obtain ⟨L,h1,h2⟩:=hAm _ hk;exact hidne (h.mem.apart id m _ _ _ hρ h1 rfl h2)
 obtain ⟨hpid,hargs⟩:=yKI (F1:=F) (b:=b) hρ hu hhs fun r hr hst y v hrv hy=>zKW h.mem (fun k hk=>hk) hy hrv (hres r hr) (.inl ⟨hst,fun x hx=>by
  have:x ∈ catR RV.regs args:=mem_catR.2 ⟨r,hr,hx⟩
  rw [hregs'] at this; cases this⟩)
 unfold OK Goes;rw [hrun hent];simp only;refine Calls.mono (hcall w F b A us cu ty' (fun k hk=>(h.mem.fz k hk).1) hoff.1 hoff.2.1 hheap ho1 hcells hone (fun k hk=>⟨(hAoff k hk).1,(hAoff k hk).2.1,hAb k hk⟩) hpid hargs) fun en w' ⟨v,F',us',ty2,A',hv,gr,f1,f2,hx,hb',hal',hone',hA'⟩=>⟨v,hv,?_⟩
 -- the memory behind the call
 obtain ⟨L',hL',hLent⟩:∃ L':Option Loc,(∀ L,L'=some L→L.inner=false∧(∀ k,L.bl=some k→A'.map (·.block)=some k))∧QEnt F' w' A' ps' us' L' ent:=by
  cases hfg:qYG ps' with
  | none=>rw [hfg] at hent'; cases hent'; exact ⟨none,fun L hL=>(by cases hL),rfl⟩
  | some q =>
   obtain ⟨e,sz,x2⟩:=q;rw [hfg] at hent';simp only [gEnt,vQQ,vQZ] at hent';obtain ⟨rows,hrows,rfl⟩:=hent';obtain ⟨i,hi⟩:=zZU hfg;obtain ⟨u,hu2,hg⟩:=hal'.get hi;obtain ⟨rows2,c,vr,q1,q2,q3,q4,q5,q6,q7⟩:=hg;rw [hrows] at q1; cases q1;refine ⟨some (.reg A' c rows.len sz),fun L hL=>(by cases hL; exact ⟨rfl,fun k hk=>hk⟩),e,sz,x2,rows,c,vr,hfg,hrows,rfl,rfl,q3,q4,q5,q6,q7,fun i2 e2 sz2 x3 u2 hi2 hu3 => ?_⟩;have hii:=zJX ho2 hi2;rw [hfg] at hii;cases hii;by_cases e3:i2=i
   ·subst e3; rw [hu2] at hu3; cases hu3; exact q2
   ·exact (zWV ho2 e3 hi2 hi).elim
 let ρ':Own:=fun k=>if k=m then L' else ρ k
 have ρm:ρ' m=L':=if_pos rfl;have ρne:∀ {k},k ≠ m→ρ' k=ρ k:=fun hk=>if_neg hk
 have inv:∀ k L,ρ' k=some L→(k=m∧L'=some L) ∨ (k ≠ m∧ρ k=some L):=fun k L hk=>by
  by_cases e:k=m
  ·subst e; rw [ρm] at hk; exact .inl ⟨rfl,hk⟩
  ·rw [ρne e] at hk; exact .inr ⟨e,hk⟩
 have fzb:∀ k,F k→w'.heap[k]? = w.heap[k]?:=fun k hk=>gr.block k (h.mem.fz k hk).1 fun e=>by
  rcases e with e | e
  ·subst e; exact hoff.1 hk
  ·exact (hAoff k e).1 hk
 have blkeq:∀ k L b',k ≠ m→k ≠ id→ρ k=some L→L.bl=some b'→w'.heap[b']? = w.heap[b']?:=fun k L b' h1 h2 hk hb2=>gr.block b' (h.mem.off k L b' hk hb2).2.1 fun e=>by
  rcases e with e | e
  ·subst e; exact h2 (h.mem.apart k id L _ _ hk hρ hb2 rfl)
  ·obtain ⟨L2,h3,h4⟩:=hAm b' e; exact h1 (h.mem.apart k m L L2 b' hk h3 hb2 h4)
 have hF'b:∀ k L b',k ≠ m→ρ k=some L→L.bl=some b'→¬ F' b':=fun k L b' h1 hk hb2 hf=>by
  rcases f2 b' hf with h2 | h2 | h2
  ·exact (h.mem.off k L b' hk hb2).1 h2
  ·have:=(h.mem.off k L b' hk hb2).2.1; omega
  ·obtain ⟨L2,h3,h4⟩:=hAm b' h2; exact h1 (h.mem.apart k m L L2 b' hk h3 hb2 h4)
 refine ⟨ρ',F',h.apply2 ⟨[(id,some (.blk (ps'.map (PV.toQ m)))),(m,ent)],[(m,none)],.v x,_⟩ o.dst v (fun d e=>by rw [e] at hd; simpa [dstB] using hd)
  ⟨fun k b2 hk => ?_,fun k L hk hs _ => ?_,fun k j a' c' kk s _ hk _ _ => ?_,fun k rows a' c' kk sz _ hs=>(by simp only [jX] at hs; split at hs <;> cases hs),fun k hk=>⟨f1 k hk,fzb k hk⟩⟩ hx
  (fun k L b' hu2 _ hk hb2 => ?_) (fun k hk hu2 => ?_) (fun k hk hu2 => ?_) (fun k y hu2 => ?_) (fun k L hu2 hL _ => ?_) (fun k y hu2 => ?_) (fun k L hL hi => ?_) (fun k k' L1 L2 b' h1 h2 hb1 hb2 => ?_) (fun k L b' hk hb2 => ?_) (fun k hk => ?_) ?_⟩
 ·rw [ρne fun e=>by subst e; obtain ⟨_,_,_,_,e2⟩:=hmreg _ hk; cases e2]; exact hk
 ·rw [ρne fun e=>by subst e; simp [jX] at hs]; exact hk
 ·rw [ρne (by have:=qZX k j; omega)]; exact hk
 ·simp only [zZF] at hu2;split at hu2
  ·cases hu2
  ·split at hu2
   ·cases hu2
   ·rename_i n1 n2; exact blkeq k L b' (Ne.symm n1) (Ne.symm n2) hk hb2
 ·simp only [zZF] at hu2;simp only [jX];split at hu2
  ·cases hu2
  ·rename_i n1; rw [if_neg n1]
 ·simp only [jX]; rw [if_neg (by unfold mid; omega)]
 ·simp only [zZF] at hu2;split at hu2
  ·rename_i e; rw [← e]; exact hmlt
  ·split at hu2
   ·rename_i e; rw [← e]; exact hidlt
   ·cases hu2
 ·simp only [zZF] at hu2;split at hu2
  ·cases hu2
  ·rename_i n1; rw [ρne (Ne.symm n1)] at hL; exact hL
 ·simp only [zZF] at hu2;split at hu2
  ·rename_i e;cases hu2;subst e;cases ent with
   | none=>show ρ' m=none; rw [ρm]; exact hLent
   | some en =>
    obtain ⟨e,sz,x2,rows,c,vr,_,_,rfl,hL,q3,q4,q5,q6,q7,_⟩:=hLent;exact ⟨A',c,vr,by rw [ρm]; exact hL,q3,q4,q5,q6,q7⟩
  ·split at hu2
   ·rename_i _ e;cases hu2;subst e;refine ⟨b,us',ty2,by rw [ρne hidne]; exact hρ,hb',Al.map_left ⟨hal'.1,fun i p u hi hu3=>yQG (hal'.2 i p u hi hu3) fun e sz x2 rows c hpe hrows huv => ?_⟩,hone'⟩;subst hpe;have hfg:=zJX ho2 hi;cases ent with
    | none =>
     rw [hfg] at hent';simp only [gEnt,hrows,vZV] at hent';cases hent'
    | some en =>
     obtain ⟨e3,sz3,x3,rows3,c3,vr,hf3,hr3,_,hL,_,_,_,_,_,hall⟩:=hLent;rw [hfg] at hf3;cases hf3;rw [hrows] at hr3;cases hr3
     have:=hall i _ _ _ u hi hu3
     rw [huv] at this;simp only [Value.slice.injEq,true_and] at this;exact ⟨sz,by rw [ρm,hL,this]⟩
   ·cases hu2
 ·rcases inv k L hL with ⟨_,h2⟩ | ⟨_,h2⟩
  ·rw [(hL' L h2).1] at hi; cases hi
  ·exact h.mem.inr k L h2 hi
 ·have cross:∀ k L,k ≠ m→ρ k=some L→L.bl=some b'→A'.map (·.block)=some b'→False:=fun k L hne hk hb3 hb4=>by
   obtain ⟨_,_,_,h5⟩:=hA' b' hb4;rcases h5 with h5 | h5
   ·have:=(h.mem.off k L b' hk hb3).2.1; omega
   ·obtain ⟨L3,h6,h7⟩:=hAm b' h5; exact hne (h.mem.apart k m L L3 b' hk h6 hb3 h7)
  rcases inv k L1 h1 with ⟨e1,h3⟩ | ⟨n1,h3⟩ <;> rcases inv k' L2 h2 with ⟨e2,h4⟩ | ⟨n2,h4⟩
  ·rw [e1,e2]
  ·exact (cross k' L2 n2 h4 hb2 ((hL' L1 h3).2 b' hb1)).elim
  ·exact (cross k L1 n1 h3 hb1 ((hL' L2 h4).2 b' hb2)).elim
  ·exact h.mem.apart k k' L1 L2 b' h3 h4 hb1 hb2
 ·rcases inv k L hk with ⟨_,h2⟩ | ⟨n1,h2⟩
  ·obtain ⟨h3,h4,_,h5⟩:=hA' b' ((hL' L h2).2 b' hb2);refine ⟨h3,h4,?_⟩;rcases h5 with h5 | h5
   ·exact .inl (Nat.le_trans h.mem.grow.size h5)
   ·exact (hAoff b' h5).2.2
  ·have:=h.mem.off k L b' h2 hb2
   exact ⟨hF'b k L b' n1 h2 hb2,vZZ this.2.1 gr.size,this.2.2⟩
 ·rcases f2 k hk with h1 | h1 | h1
  ·exact ⟨vZZ (h.mem.fz k h1).1 gr.size,(h.mem.fz k h1).2⟩
  ·exact ⟨h1.2,.inr (.inl (Nat.le_trans h.mem.grow.size h1.1))⟩
  ·have:=hAoff k h1; exact ⟨vZZ this.2.1 gr.size,.inr this.2.2⟩
 ·refine ⟨gr.os.trans h.mem.grow.os,gr.tape.trans h.mem.grow.tape,gr.output.trans h.mem.grow.output,Nat.le_trans h.mem.grow.size gr.size,fun k hk hW => ?_⟩;rw [gr.block k (vZZ hk h.mem.grow.size) fun e => ?_]
  ·exact h.mem.grow.block k hk hW
  ·rcases e with e | e
   ·subst e;rcases hoff.2.2 with h1 | h1
    ·omega
    ·exact hW h1
   ·rcases (hAoff k e).2.2 with h1 | h1
    ·omega
    ·exact hW h1
theorem qYD {fx:Operand} {args:Array Operand} {ats:Array TypeId} {f:Nat} {fs us cs:List Value} (h:Rel' E C.n ρ F σ a w) (hf:ev (actS a) fx=some (.func (.func f) fs.toArray cs.toArray)) (hu:evs (actS a) args.toList=some us) (hent:kH P f) :
  (execOp a.eval ⟨d,.call ⟨.value fx,args,ats⟩,ty,pos,af,g⟩).run P w=.ok (.enter f (fs ++ us ++ cs).toArray) w:=by
 have e3:args.map a.eval=us.toArray:=by
  have h1:=(qUQ hu).1;have h2:=(qUQ hu).2
  have:args.toList.map a.eval=us:=by
   rw [← h1];refine List.map_congr_left fun x hx => ?_
   have:=h2 x hx
   cases hv:ev (actS a) x with
   | none=>rw [hv] at this; cases this
   | some v=>rw [yZ h hv,qW hv]
  apply Array.ext'; rw [Array.toList_map,this]
 simp [execOp,resolve,yZ h hf,Deferred.ofValue,invoke,e3]
 simpa using hent (fs ++ us ++ cs).toArray w
theorem al_v {ps:List PV} {us:List Value} (h:Al (RP F w) ps us):Al (fun r v=>RH ρ F w r.back v) (ps.map RV.v) us:=Al.map_left h
theorem jZY {fx:Operand} {args:Array Operand} {ats:Array TypeId} (hA:SndA P C.cA) (hB:SndB P C.T C.cB) (h:Rel' E C.n ρ F σ a w) (hd:dstB C.n d=true) (hvs:mapO (opv 0 σ) (#[fx] ++ args).toList=some vs) (he:qK C.T C.cA C.cB C.me (d.getD 0) (.call ⟨.value fx,args,ats⟩) vs=some e) (hn:∀ i ∈ e.nw,qQA σ.M i) :
  OK P E C σ a w e ⟨d,.call ⟨.value fx,args,ats⟩,ty,pos,af,g⟩:=by
 rw [show (#[fx] ++ args).toList=fx :: args.toList by simp] at hvs;simp only [mapO,vQQ,vQZ] at hvs;obtain ⟨rx,hrx,rs,hrs,rfl⟩:=hvs;obtain ⟨v,v1,v2,v3⟩:=zZ h hrx;obtain ⟨us,u1,u2,u3⟩:=qWG h hrs;cases rx with
 | v p =>
  cases p with
  | f fn first cap =>
   simp only [qK] at he;cases v2 with
   | f _ _ _ fs cs hl hm hf hc =>
    have hal:=((al_v (ρ:=ρ) ⟨hl,hf⟩).append u2).append (al_v ⟨hm,hc⟩);have hres:∀ r ∈ first.map RV.v ++ rs ++ cap.map RV.v,RRes σ.M r:=fun r hr=>by
     rcases List.mem_append.1 hr with hr | hr
     ·rcases List.mem_append.1 hr with hr | hr
      ·obtain ⟨_,_,rfl⟩:=List.mem_map.1 hr; trivial
      ·exact u3 r hr
     ·obtain ⟨_,_,rfl⟩:=List.mem_map.1 hr; trivial
    cases hrw:C.T.rw fn with
    | true =>
     rw [hrw,vYQ] at he;cases hgq:C.T.gq fn with
     | false=>rw [hgq,vYZ] at he; exact yKX hB hgq h hd hal hres he fun hent=>qYD h v1 u1 hent
     | true=>rw [hgq,vYQ] at he; exact zKC hB hgq h hd hal hres he hn fun hent=>qYD h v1 u1 hent
    | false=>rw [hrw] at he; exact zVL hA h hd hal hres he hn fun hent=>qYD h v1 u1 hent
  | _=>simp only [qK] at he; cases he
 | g fn first cap =>
  simp only [qK] at he;obtain ⟨fs,cs,rfl,hf,hc⟩:=v2;have hal:=((al_v (ρ:=ρ) hf).append u2).append (Al.map_left (f:=fun c:RC=>(match c with | .v x=>RV.v x | .p id off cells=>RV.p id off cells)) (R:=fun r v=>RH ρ F w r.back v) (hc.map_left_inv.imp fun c v _ hh=>(by cases c <;> exact hh)));have hres:∀ r ∈ first.map RV.v ++ rs ++ cap.map (fun c:RC=>(match c with | .v x=>RV.v x | .p id off cells=>RV.p id off cells)),RRes σ.M r:=fun r hr=>by
   rcases List.mem_append.1 hr with hr | hr
   ·rcases List.mem_append.1 hr with hr | hr
    ·obtain ⟨_,_,rfl⟩:=List.mem_map.1 hr; trivial
    ·exact u3 r hr
   ·obtain ⟨c,hcm,rfl⟩:=List.mem_map.1 hr
    have:=v3 c hcm
    cases c <;> exact this
  cases hrw:C.T.rw fn with
  | true =>
   rw [hrw,vYQ] at he;obtain ⟨hgq,he⟩:=qQ he;exact zKC hB hgq h hd hal hres he hn fun hent=>qYD h v1 u1 hent
  | false=>rw [hrw,vYZ] at he; exact zVL hA h hd hal hres he hn fun hent=>qYD h v1 u1 hent
 | _=>simp only [qK] at he; cases he
theorem zKU {ops:Array Oper} {o:Oper} {b:Bool} (h:Rel' E C.n ρ F σ a w) (hg:kW ops σ o=some b):Region.wanted o (yielded ops a.tmps)=b:=by
 unfold kW at hg;unfold Region.wanted;cases hgd:o.guard with
 | none=>rw [hgd] at hg; cases hg; rfl
 | some jb =>
  obtain ⟨j,c⟩:=jb;rw [hgd] at hg;simp only at hg ⊢;split at hg
  ·rename_i dd hdd;split at hg
   ·rename_i x hx;cases hg;obtain ⟨v,hv,hr⟩:=h.slots dd _ hx
    have:=qZG hr
    subst this;simp [yielded,hdd,Array.getD_eq_getD_getElem?,hv]
   ·rename_i hx;cases hg;obtain ⟨v,hv,hr⟩:=h.slots dd _ hx;cases hr with
    | t _ vs hl _ =>
     simp [yielded,hdd,hv]
   ·cases hg
  ·cases hg
theorem yGD {op:Op} (hT:TabOk P C.T) (hA:SndA P C.cA) (hB:SndB P C.T C.cB) (h:Rel' E C.n ρ F σ a w) (hd:dstB C.n d=true) (hvs:mapO (opv (mode op) σ) op.operands.toList=some vs) (he:qK C.T C.cA C.cB C.me (d.getD 0) op vs=some e) (hn:∀ i ∈ e.nw,qQA σ.M i) (hnd:∀ c,op ≠ .defer c) :
  OK P E C σ a w e ⟨d,op,ty,pos,af,g⟩:=by
 cases op with
 | defer c=>exact absurd rfl (hnd c)
 | move x=>exact jQL h hd hvs he
 | assign x=>exact yZE h hd hvs he
 | pick c x y=>exact jQF h hd hvs he
 | alloc t=>exact yXG hT h hd hvs he hn
 | box t x=>exact jKH h hd hvs he hn
 | build t ps=>exact yXV hT h hd hvs he
 | buildSlice t len ps=>exact yZD hT h hd hvs he hn
 | load t x=>exact jZZ hT h hd hvs he
 | store t x y=>exact yXY hT h hd hvs he
 | nilCheck x=>exact jJD h hd hvs he
 | binOp op t x y t'=>exact jKB hT h hd hvs he
 | unOp op t x =>
  cases op with
  | not=>exact jJC h hd hvs he
  | neg=>exact jJE h hd hvs he
  | _=>simp only [qK] at he; cases he
 | convert s t x=>exact zHW hT h hd hvs he
 | makeFunc fn first cap=>exact zXZ h hd hvs he
 | makeSlice t x y=>exact jZQ hT h hd hvs he hn
 | slice t x lo hi mx=>exact yXJ hT h hd hvs he
 | fieldAddr t x f=>exact zJB hT h hd hvs he
 | field t x f=>exact yXX hT h hd hvs he
 | indexAddr t x y=>exact zJA hT h hd hvs he
 | index t x y=>exact yXU hT h hd hvs he
 | range t x=>exact yXK hT h hd hvs he hn
 | next x b=>exact jQI h hd hvs he
 | extract x i=>exact zHX h hd hvs he
 | call c =>
  obtain ⟨callee,args,ats⟩:=c;cases callee with
  | value fx=>exact jZY hA hB h hd hvs he hn
  | builtin b =>
   cases b with
   | len=>exact jKZ hT h hd hvs he
   | min=>exact jJF h hd hvs he
   | max=>exact jJI h hd hvs he
   | append=>exact yZF hT h hd hvs he hn
   | _=>simp only [qK] at he; cases he
  | _=>simp only [qK] at he; cases he
 | _=>simp only [qK] at he; cases he
theorem yXW (hT:TabOk P C.T) (hE:E.D=Harm P) (h:Rel' E C.n ρ F σ a w) {d:Option Tmp} {ty:TypeId} {pos:String} {af:Array Edge} {g:Option (Nat × Bool)} {c:Call} {vs:List RV} {e:Eff} (hd:dstB C.n d=true)
  (hvs:mapO (opv 0 σ) c.operands.toList=some vs) (he:qK C.T C.cA C.cB C.me (d.getD 0) (.defer c) vs=some e):GoesD P E.D ⟨d,.defer c,ty,pos,af,g⟩ a w fun a' w'=>Rel E C.n (σ.apply e d) a' w':=by
 obtain ⟨callee,args,ats⟩:=c;cases callee with
 | value fx =>
  cases vs with
  | nil=>simp only [qK] at he; cases he
  | cons x vs =>
   simp only [qK] at he;obtain ⟨hargs,he1⟩:=qQ he
   clear he
   have hargs0:args=#[]:=by simpa using hargs
   subst hargs0;have hvs':mapO (opv 0 σ) [fx]=some (x :: vs):=by simpa [Call.operands] using hvs
   obtain ⟨y,hy,hys⟩:=qJK hvs';cases hys;have key:∀ (f:Nat) (fs cs:List Value),a.eval fx=.func (.func f) fs.toArray cs.toArray→C.T.dd f=true→e=.val .un→GoesD P E.D ⟨d,.defer ⟨.value fx,#[],ats⟩,ty,pos,af,g⟩ a w fun a' w'=>Rel E C.n (σ.apply e d) a' w':=by
    intro f fs cs hev hdd he;subst he;obtain ⟨hent,hc⟩:=hT.dd f hdd;have hh:Harm P { target:=.fn (.func f) cs.toArray,args:=fs.toArray }:=⟨f,cs.toArray,rfl,hent,hc⟩
    refine .inr ⟨{ target:=.fn (.func f) cs.toArray,args:=fs.toArray },?_,by rw [hE]; exact hh,?_⟩
    ·simp [execOp,resolve,hev,Deferred.ofValue]
    ·have h':Rel' E C.n ρ F σ { a with defers:={ target:=.fn (.func f) cs.toArray,args:=fs.toArray } :: a.defers } w:=⟨h.size,fun d hd=>by
      rcases List.mem_cons.1 hd with rfl | hd
      ·rw [hE]; exact hh
      ·exact h.defers d hd,h.slots,h.mem⟩
     exact ⟨ρ,F,h'.val (x:=.un) (Grow.refl w) (fun _ h=>h) (fun _ h=>.inl h) trivial hd⟩
   cases x with
   | v p =>
    cases p with
    | f fn first cap =>
     simp only at he1;obtain ⟨hdd,he⟩:=qQ he1;obtain ⟨v,v1,v2,v3⟩:=zZ h hy;cases v2 with
     | f _ _ _ fs cs hl hm hf hc=>exact key fn fs cs (yZ h v1) hdd (by injection he with he; exact he.symm)
    | _=>simp only at he1; cases he1
   | g fn first cap =>
    simp only at he1;obtain ⟨hdd,he⟩:=qQ he1;obtain ⟨v,v1,v2,v3⟩:=zZ h hy;obtain ⟨fs,cs,rfl,hf,hc⟩:=v2;exact key fn fs cs (yZ h v1) hdd (by injection he with he; exact he.symm)
   | _=>simp only at he1; cases he1
 | _=>simp only [qK] at he; cases he
theorem yQE {ops:Array Oper} (hT:TabOk P C.T) (hE:E.D=Harm P) (hA:SndA P C.cA) (hB:SndB P C.T C.cB):Sim P E C ops:=by
 intro o σ r a w hs hr;obtain ⟨ρ,F,h⟩:=hr;unfold qQC at hs;simp only [vQQ] at hs;obtain ⟨gb,hg,hs⟩:=hs;have hw:=zKU h hg;obtain ⟨hd,hs⟩:=qQ hs;cases gb with
 | true =>
  rw [if_pos hw];simp only [vYQ,vQQ] at hs;obtain ⟨vs,hvs,e,he,hs⟩:=hs;obtain ⟨hn,hs⟩:=qQ hs;cases hs;have hn':∀ i ∈ e.nw,qQA σ.M i:=fun i hi=>zZK (List.all_eq_true.1 hn i hi)
  obtain ⟨d,op,ty,pos,af,g⟩:=o;by_cases hdf:∃ c,op=.defer c
  ·obtain ⟨c,rfl⟩:=hdf;exact yXW hT hE h hd hvs he
  ·exact .inl (yGD hT hA hB h hd hvs he hn' (fun c hc=>hdf ⟨c,hc⟩))
 | false =>
  rw [if_neg (by rw [hw]; simp)];simp only [vYZ,vQZ] at hs;subst hs;exact ⟨ρ,F,h.val (x:=.v (.t [])) (Grow.refl w) (fun _ h=>h) (fun _ h=>.inl h) (RP.t [] [] rfl fun i p v hp=>by simp at hp) hd⟩
end
end Go.Rx
namespace Go.Rx
open Go.RowKit Go.Sx
section
variable {P:Program} {E:Env} {n:Nat} {C:Cx} {ρ:Own} {F:Nat→Prop} {σ:St} {a:Act} {w:World}
theorem zWF {t:Nat} {v:Value} (h:a.tmps[t]? = some v):a.put (some t) v=a:=by
 have:a.tmps.setIfInBounds t v=a.tmps:=by
  refine Array.ext_getElem? fun i => ?_
  rw [Array.getElem?_setIfInBounds];split
  ·rename_i e;subst e;have hl:=(Array.getElem?_eq_some_iff.1 h).1;rw [if_pos hl,h]
  ·rfl
 simp [Act.put,this]
theorem yGJ (h:Rel' E n ρ F σ a w) {t:Nat} {v:Value} (hv:a.tmps[t]? = some v):dstB n (some t)=true:=by
 have hl:=(Array.getElem?_eq_some_iff.1 hv).1;rw [h.size] at hl
 simpa [dstB] using hl
theorem Rel'.tell (h:Rel' E n ρ F σ a w) {t:Nat} (ht:yJ σ.S t=some .nl):Rel' E n ρ F (σ.apply (.val (.v (.l []))) (some t)) a w:=by
 obtain ⟨v,hv,hr⟩:=h.slots t _ ht;have hr':v=.slice none 0 0:=hr;subst hr'
 have:=h.val (Grow.refl w) (fun _ h=>h) (fun _ h=>.inl h) (x:=.v (.l [])) (v:=.slice none 0 0) (RP.l0 _ _) (yGJ h hv)
 rwa [zWF hv] at this
theorem qKF:∀ (l:List Nat) {σ:St},Rel E C.n σ a w→Rel E C.n (frzL l σ) a w
 | [],σ,h=>h
 | t :: l,σ,h=>by
  simp only [frzL];split
  ·rename_i hx;obtain ⟨ρ,F,h⟩:=h;exact qKF l ⟨ρ,F,h.tell hx⟩
  ·rename_i id hx;split
   ·rename_i e sz rows hl;obtain ⟨ρ,F,h⟩:=h;exact qKF l ⟨_,_,h.froze [(id,rows)] (fun r hr=>by simp only [List.mem_singleton] at hr; subst hr; exact ⟨e,sz,hl⟩)⟩
   ·exact qKF l h
  ·exact qKF l h
theorem qWX:∀ (l:List (Nat × Nat × Nat × Nat)) {σ:St},Rel E C.n σ a w→Rel E C.n (ownL l σ) a w
 | [],σ,h=>h
 | (t,id,e,sz) :: l,σ,h=>by
  simp only [ownL];split
  ·rename_i hx hl;cases hz:Nat.blt 0 sz && Nat.blt id 2000000 with
   | false=>exact qWX l h
   | true =>
    rw [vQJ,Nat.blt_eq,Nat.blt_eq] at hz;obtain ⟨hz',hid⟩:=hz;obtain ⟨ρ,F,h⟩:=h;obtain ⟨v,hv,hr⟩:=h.slots t _ hx;have hr':v=.slice none 0 0:=hr;subst hr'
    have:=h.adopt (id:=id) ⟨hl,hid⟩ (ent:=.reg e sz (.l [])) (L:=.reg none 0 0 sz) (x:=.o id) (v:=.slice none 0 0) (Grow.refl w) (fun _ h=>h) (fun _ h=>.inl h) (fun b hb=>by cases hb)
     ⟨none,0,[],zK _ _ _,hz',Al.nil,(fun r hr=>by cases hr),(fun r hr=>by cases hr),⟨by simp [Rows.len],.inl (by simp [Rows.len])⟩⟩ ⟨_,_,_,_,zK _ _ _,rfl⟩ (yGJ h hv)
    rw [zWF hv] at this;exact qWX l ⟨_,_,this⟩
  ·exact qWX l h
theorem qYF:∀ (l:List (Nat × Nat × Nat × Nat × Nat)) {σ:St},Rel E C.n σ a w→Rel E C.n (zYL l σ) a w
 | [],σ,h=>h
 | (b,k,id,e,sz) :: l,σ,h=>by
  simp only [zYL];split
  ·rename_i cells hb hl;split
   ·rename_i hc;cases hz:Nat.blt 0 sz && Nat.blt id 2000000 with
    | false=>exact qYF l h
    | true =>
     rw [vQJ,Nat.blt_eq,Nat.blt_eq] at hz;obtain ⟨hz',hid⟩:=hz;rw [vYQ];refine qYF l ?_;obtain ⟨ρ,F,h⟩:=h;have hnone:ρ id=none:=h.mem.fresh ⟨hl,hid⟩;have hne:b ≠ id:=fun e=>by rw [e,hl] at hb; cases hb
     have old:∀ k L',ρ k=some L'→updO ρ id (.reg none 0 0 sz) k=some L':=fun k L' hk=>by
      rw [uH (fun e=>by subst e; rw [hnone] at hk; cases hk)]; exact hk
     have inv:∀ k L',updO ρ id (.reg none 0 0 sz) k=some L'→(k=id∧L'=.reg none 0 0 sz) ∨ (k ≠ id∧ρ k=some L'):=fun k L' hk=>by
      by_cases e:k=id
      ·subst e; rw [zK] at hk; cases hk; exact .inl ⟨rfl,rfl⟩
      ·rw [uH e] at hk; exact .inr ⟨e,hk⟩
     have hF:∀ k,F k→F k∧w.heap[k]? = w.heap[k]?:=fun k hk=>⟨hk,rfl⟩
     have ht:Turns [] ρ (updO ρ id (.reg none 0 0 sz)) F F w w:=⟨fun k b hk=>old k _ hk,fun k L' hk _ _=>old k _ hk,fun k j a' c' kk s _ hk _ _=>old _ _ hk,fun k rows a' c' kk sz _ hs=>by simp [zY] at hs,hF⟩
     refine ⟨updO ρ id (.reg none 0 0 sz),F,h.size,h.defers,fun t x hx => ?_,⟨fun k y hk => ?_,fun k L hk hi => ?_,fun k y hk => ?_,fun k L hk hi => ?_,fun k k' L L' b' h1 h2 h3 h4 => ?_,fun k L b' hk hb' => ?_,h.mem.fz,h.mem.fz0,h.mem.grow,fun b' hb' => ?_⟩⟩
     ·obtain ⟨v,hv,hr⟩:=h.slots t x hx;exact ⟨v,hv,hr.mono old hF⟩
     ·simp only [qZZ] at hk;split at hk
      ·rename_i e1;cases hk;subst e1;exact ⟨none,0,[],zK _ _ _,hz',Al.nil,(fun r hr=>by cases hr),(fun r hr=>by cases hr),⟨by simp [Rows.len],.inl (by simp [Rows.len])⟩⟩
      ·split at hk
       ·rename_i e2;cases hk;subst e2;obtain ⟨bb,vs,ty,h1,h2,h3,h4⟩:=h.mem.ent _ _ hb;obtain ⟨v,hv,hr⟩:=h3.get hc;have hr':v=.slice none 0 0:=hr;subst hr';refine ⟨bb,vs,ty,old _ _ h1,h2,?_,h4⟩;have h5:=(h3.imp (R':=RH (updO ρ id (.reg none 0 0 sz)) F w) fun x v _ hx=>hx.mono old hF).set (x:=.o id) (y:=.slice none 0 0) ⟨none,0,0,sz,zK _ _ _,rfl⟩ k;have e3:vs.set k (.slice none 0 0)=vs:=by
         refine List.ext_getElem? fun i => ?_
         rw [List.getElem?_set];split
         ·rename_i e4;subst e4;have hlt:=(List.getElem?_eq_some_iff.1 hv).1;rw [if_pos hlt,hv]
         ·rfl
        rw [e3] at h5;exact h5
       ·have:=(h.mem.ent k y hk).sub ht (by simp [zY]) (by simp [zY]) (fun _ _ _ _=>rfl) (fun _ _ _ _ _=>rfl)
        rw [Ent.sub_nil] at this;exact this
     ·simp only [qZZ];rcases inv k L hk with ⟨rfl,_⟩ | ⟨h1,h2⟩
      ·exact ⟨_,if_pos rfl⟩
      ·obtain ⟨y,hy⟩:=h.mem.dom k L h2 hi;rw [if_neg (Ne.symm h1)];split
       ·exact ⟨_,rfl⟩
       ·exact ⟨y,hy⟩
     ·simp only [qZZ] at hk;split at hk
      ·rename_i e1; rw [← e1]; exact hid
      ·split at hk
       ·rename_i e2; rw [← e2]; exact h.mem.ord _ _ hb
       ·exact h.mem.ord k y hk
     ·rcases inv k L hk with ⟨rfl,rfl⟩ | ⟨_,h2⟩
      ·cases hi
      ·exact h.mem.inr k L h2 hi
     ·rcases inv k L h1 with ⟨rfl,rfl⟩ | ⟨a1,a2⟩
      ·cases h3
      ·rcases inv k' L' h2 with ⟨rfl,rfl⟩ | ⟨b1,b2⟩
       ·cases h4
       ·exact h.mem.apart k k' L L' b' a2 b2 h3 h4
     ·rcases inv k L hk with ⟨rfl,rfl⟩ | ⟨a1,a2⟩
      ·cases hb'
      ·exact h.mem.off k L b' a2 hb'
     ·exact (h.mem.pin b' hb').imp (old _ _) fun h=>h
   ·exact qYF l h
  ·exact qYF l h
def inI (ids:List Nat) (i:Nat):Bool:=ids.any (Nat.beq i)
theorem inI_iff {ids:List Nat} {i:Nat}:inI ids i=true ↔ i ∈ ids:=by
 simp only [inI,List.any_eq_true];constructor
 ·rintro ⟨x,hx,he⟩; rw [vQU he]; exact hx
 ·intro h; exact ⟨i,h,Nat.beq_refl i⟩
def inK (ids:List Nat) (id:Nat):Prop:=id ∈ ids ∨ ∃ k j,id=nid k j∧k ∈ ids
noncomputable def zQA (ids:List Nat) (ρ:Own):Own:=fun id => @ite _ (inK ids id) (vZH _) (ρ id) none
theorem uJ {ids:List Nat} {id:Nat} (h:id ∈ ids):zQA ids ρ id=ρ id:=by
 unfold zQA; rw [if_pos (.inl h)]
theorem zQH {ids:List Nat} {id:Nat} (h:id ∈ ids) (j:Nat):zQA ids ρ (nid id j)=ρ (nid id j):=by
 unfold zQA; rw [if_pos (.inr ⟨id,j,rfl,h⟩)]
theorem qZD {ids:List Nat} {id:Nat} {L:Loc} (h:zQA ids ρ id=some L):inK ids id∧ρ id=some L:=by
 unfold zQA at h;split at h
 ·rename_i hm; exact ⟨hm,h⟩
 ·cases h
theorem zVQ {ids:List Nat} {x:HV} {v:Value} (h:RH ρ F w x v):RH (zQA ids ρ) F w (x.only ids) v:=by
 unfold HV.only;cases hc:x.every.all (fun i=>ids.any (Nat.beq i)) with
 | false=>trivial
 | true =>
  have hin:∀ i ∈ x.every,i ∈ ids:=fun i hi=>inI_iff.1 (List.all_eq_true.1 hc i hi)
  simp only [vYQ];cases x with
  | v x=>exact h
  | nl=>exact h
  | un=>trivial
  | o id =>
   obtain ⟨ad,c,k,sz,h1,h2⟩:=h;exact ⟨ad,c,k,sz,by rw [uJ (hin id (by simp [HV.every]))]; exact h1,h2⟩
  | p id off =>
   obtain ⟨b,h1,h2⟩:=h;exact ⟨b,by rw [uJ (hin id (by simp [HV.every]))]; exact h1,h2⟩
  | q id j off =>
   obtain ⟨b,c,k,sz,h1,h2⟩:=h;exact ⟨b,c,k,sz,by rw [uJ (hin id (by simp [HV.every]))]; exact h1,h2⟩
  | g fn first cap =>
   obtain ⟨fs,cs,h1,h2,h3⟩:=h;refine ⟨fs,cs,h1,h2,h3.imp fun c v hm hr => ?_⟩;cases c with
   | v x=>exact hr
   | p id off =>
    obtain ⟨b,h4,h5⟩:=hr;exact ⟨b,by rw [uJ (hin id (mem_catL.2 ⟨_,hm,by simp [Cap.every]⟩))]; exact h4,h5⟩
  | m id j =>
   obtain ⟨ad,c,k,sz,⟨h1,h2⟩,h3,a0,c0,k0,s0,h4,h5⟩:=h;have hi:=hin id (by simp [HV.every]);exact ⟨ad,c,k,sz,⟨by rw [zQH hi]; exact h1,h2⟩,h3,a0,c0,k0,s0,by rw [uJ hi]; exact h4,h5⟩
  | mp id j =>
   obtain ⟨ad,c,k,sz,⟨h1,h2⟩,h3,a0,c0,k0,s0,h4,h5⟩:=h;have hi:=hin id (by simp [HV.every]);exact ⟨ad,c,k,sz,⟨by rw [zQH hi]; exact h1,h2⟩,h3,a0,c0,k0,s0,by rw [uJ hi]; exact h4,h5⟩
  | ag cs =>
   obtain ⟨vs,h1,h2,h3⟩:=h;refine ⟨vs,h1,h2.imp fun c v hm hr => ?_,h3⟩;cases c with
   | o id =>
    obtain ⟨ad,c,k,sz,h4,h5⟩:=hr;exact ⟨ad,c,k,sz,by rw [uJ (hin id (mem_catL.2 ⟨_,hm,by simp [HC.ids]⟩))]; exact h4,h5⟩
   | v x=>exact hr
   | nl=>exact hr
   | un=>trivial
theorem yXZ {ids:List Nat} {id:Nat} {e:Ent} (hid:id ∈ ids) (h:EntOk ρ F w id e):EntOk (zQA ids ρ) F w id (e.only ids):=by
 cases e with
 | blk cells =>
  obtain ⟨b,vs,ty,h1,h2,h3,h4⟩:=h;exact ⟨b,vs,ty,by rw [uJ hid]; exact h1,h2,Al.map_left (h3.imp fun _ _ _ h=>zVQ h),h4⟩
 | reg e sz rows =>
  obtain ⟨ad,c,vr,h1,h2⟩:=h;exact ⟨ad,c,vr,by rw [uJ hid]; exact h1,h2⟩
 | itr s pos =>
  obtain ⟨b,h1,h2⟩:=h;exact ⟨b,by rw [uJ hid]; exact h1,h2⟩
 | nst e ie isz rows pd =>
  obtain ⟨a,c,H,h1,h2,h3,h4,h5,h6⟩:=h;refine ⟨a,c,H,by rw [uJ hid]; exact h1,h2,h3,h4,h5,fun v hv => ?_⟩;obtain ⟨r,av,cv,vr,q1,q2,q3⟩:=h6 v hv;exact ⟨r,av,cv,vr,q1,by rw [zQH hid]; exact q2,q3⟩
theorem qHX {M:Mem} {ids:List Nat} {i:Nat} {x:Ent} (h:qU (zXW M ids) i=some x):i ∈ ids∧qU M i=some x:=by
 induction ids with
 | nil=>cases h
 | cons t ts ih =>
  simp only [zXW] at h;split at h
  ·rename_i y hy;by_cases e:t=i
   ·subst e;simp only [qU,Nat.beq_refl,vYQ,vQZ] at h;subst h;exact ⟨vQG,hy⟩
   ·simp only [qU,yW e,vYZ] at h;exact ⟨vQV _ (ih h).1,(ih h).2⟩
  ·exact ⟨vQV _ (ih h).1,(ih h).2⟩
theorem yYG {M:Mem} {ids:List Nat} {i:Nat} {x:Ent} (hm:i ∈ ids) (h:qU M i=some x):qU (zXW M ids) i=some x:=by
 induction ids with
 | nil=>cases hm
 | cons t ts ih =>
  simp only [zXW];by_cases e:t=i
  ·subst e; rw [h]; simp [qU]
  ·have hm':i ∈ ts:=by
    rcases List.mem_cons.1 hm with h | h
    ·exact absurd h.symm e
    ·exact h
   split
   ·simp only [qU,yW e,vYZ]; exact ih hm'
   ·exact ih hm'
theorem zHE {ts:List Nat} {t:Nat} {x:HV} (h:yJ (yYV σ ts) t=some x):yJ σ.S t=some x:=by
 induction ts with
 | nil=>cases h
 | cons u ts ih =>
  simp only [yYV] at h;split at h
  ·rename_i y hy;by_cases e:u=t
   ·subst e;rw [qHK] at h; cases h; exact hy
   ·rw [zQE e] at h; exact ih h
  ·exact ih h
theorem zZY:∀ (l:List (Nat × List PV)) {S:List (Nat × HV)} {M:Mem},Rel E C.n ⟨S,M⟩ a w→Rel E C.n ⟨S,funL l M⟩ a w
 | [],S,M,h=>h
 | (id,z) :: l,S,M,h=>by
  simp only [funL];split
  ·rename_i e sz rows hl;refine zZY l ?_;obtain ⟨ρ,F,h⟩:=h;refine ⟨ρ,F,h.size,h.defers,h.slots,⟨fun i x hx => ?_,fun i L hL hi => ?_,fun i x hx => ?_,h.mem.inr,h.mem.apart,h.mem.off,h.mem.fz,h.mem.fz0,h.mem.grow,h.mem.pin⟩⟩
   ·rw [qZZ] at hx;split at hx
    ·rename_i e1;cases hx;subst e1;obtain ⟨ad,c,vr,h1,h2,h3,h4,h5,h6⟩:=h.mem.ent id _ hl;have el:(rows.toF z).len=rows.len:=by rw [← Rows.len_L,Rows.toF_L,Rows.len_L]
     exact ⟨ad,c,vr,by rw [el]; exact h1,h2,by rw [Rows.toF_L]; exact h3,by rw [Rows.toF_L]; exact h4,h5,by rw [el]; exact h6⟩
    ·exact h.mem.ent i x hx
   ·obtain ⟨x,hx⟩:=h.mem.dom i L hL hi;show ∃ e,qU (putM id _ M) i=some e;rw [qZZ];split
    ·exact ⟨_,rfl⟩
    ·exact ⟨x,hx⟩
   ·rw [qZZ] at hx;split at hx
    ·rename_i e1; rw [← e1]; exact h.mem.ord id _ hl
    ·exact h.mem.ord i x hx
  ·exact zZY l h
theorem qVA {hi:Hint} (h:Rel E C.n σ a w):Rel E C.n (qKV hi σ) a w:=by
 have h1:=qYF (C:=C) hi.ownB (qWX (C:=C) hi.own (qKF (C:=C) hi.frz h));unfold qKV;generalize zYL hi.ownB (ownL hi.own (frzL hi.frz σ))=τ at h1;refine zZY (C:=C) hi.fun_ ?_;obtain ⟨ρ,F,h⟩:=h1;refine ⟨zQA (pid :: hi.ids) ρ,F,h.size,h.defers,fun t x hx => ?_,⟨fun id e hl => ?_,fun id L hL hi => ?_,fun id e hl => ?_,fun id L hL hi=>h.mem.inr id L (qZD hL).2 hi,fun id id' L L' b h1 h2 => ?_,fun id L b hL hb => ?_,h.mem.fz,h.mem.fz0,h.mem.grow,fun b hb => ?_⟩⟩
 ·simp only [zKY,vZK] at hx;obtain ⟨y,hy,rfl⟩:=hx;obtain ⟨v,hv,hr⟩:=h.slots t y (zHE hy);exact ⟨v,hv,zVQ hr⟩
 ·simp only [qKC,vZK] at hl;obtain ⟨y,hy,rfl⟩:=hl;obtain ⟨k1,k2⟩:=qHX hy;exact yXZ k1 (h.mem.ent id y k2)
 ·obtain ⟨k1,k2⟩:=qZD hL;obtain ⟨e,he⟩:=h.mem.dom id L k2 hi;have hlt:=h.mem.ord id e he;rcases k1 with k1 | ⟨k,j,rfl,_⟩
  ·exact ⟨_,by simp only [qKC]; rw [yYG k1 he]; rfl⟩
  ·have:=qZX k j; omega
 ·simp only [qKC,vZK] at hl;obtain ⟨y,hy,rfl⟩:=hl;exact h.mem.ord id y (qHX hy).2
 ·exact h.mem.apart id id' L L' b (qZD h1).2 (qZD h2).2
 ·exact h.mem.off id L b (qZD hL).2 hb
 ·rw [uJ vQG]; exact h.mem.pin b hb
noncomputable def unnρ (id:Nat) (ρ:Own):Own:=fun k => @ite _ (∃ j,k=nid id j) (vZH _) none (ρ k)
theorem zUZ {id k:Nat} (h:∀ j,k ≠ nid id j):unnρ id ρ k=ρ k:=by unfold unnρ; rw [if_neg fun ⟨j,e⟩=>h j e]
theorem yGC (id j:Nat):unnρ id ρ (nid id j)=none:=by unfold unnρ; rw [if_pos ⟨j,rfl⟩]
theorem qYA {id k:Nat} {L:Loc} (h:unnρ id ρ k=some L):(∀ j,k ≠ nid id j)∧ρ k=some L:=by
 by_cases hc:∃ j,k=nid id j
 ·obtain ⟨j,rfl⟩:=hc; rw [yGC] at h; cases h
 ·have h2:∀ j,k ≠ nid id j:=fun j e=>hc ⟨j,e⟩
  rw [zUZ h2] at h; exact ⟨h2,h⟩
theorem NR.rows_len (rows:NR):rows.rows.len=rows.len:=by cases rows <;> simp [NR.rows,NR.len,Rows.len]
theorem NR.rows_L (rows:NR) (v:Nat):rows.rows.L[v]? = if v < rows.len then (rows.at v).map fun r=>[r.pv] else none:=by
 cases rows with
 | l rows =>
  show (rows.map fun r=>[r.pv])[v]? = _;rw [vQH];by_cases hv:v < rows.length
  ·rw [if_pos (by exact hv)]; rfl
  ·rw [if_neg (by exact hv),List.getElem?_eq_none (by omega)]; rfl
 | fo n f =>
  show ((List.range n).map fun v=>[(f v).pv])[v]? = _;by_cases hv:v < n
  ·rw [jZ _ hv,if_pos (by exact hv)]; rfl
  ·rw [List.getElem?_eq_none (by simp; omega),if_neg (by exact hv)]
theorem Rel'.unn (h:Rel' E n ρ F σ a w) {id e ie isz:Nat} {rows:NR} (hl:qU σ.M id=some (.nst e ie isz rows none)) :
  Rel' E n (unnρ id ρ) (fun k=>F k ∨ ∃ j L,ρ (nid id j)=some L∧L.bl=some k) (σ.apply ⟨[(id,some (.reg e 1 rows.rows))],[(mid id,none)],.un,[]⟩ none) a w:=by
 have hlt:=h.mem.ord id _ hl;have old:∀ k L1,ρ k=some L1→L1.inner=false→unnρ id ρ k=some L1:=fun k L1 hk hi=>by
  rw [zUZ fun j e=>by have h1:=h.mem.lt hk hi; have h2:=qZX id j; omega]; exact hk
 obtain ⟨a0,c0,H,q1,q2,q3,q4,_,q6⟩:=h.mem.ent id _ hl;have hrel:=h.apply2 (ρ':=unnρ id ρ) (F':=fun k=>F k ∨ ∃ j L,ρ (nid id j)=some L∧L.bl=some k) (w':=w) ⟨[(id,some (.reg e 1 rows.rows))],[(mid id,none)],.un,[]⟩ none undef (fun d e=>by cases e)
  ⟨fun k b hk=>old k _ hk rfl,fun k L' hk _ hi=>old k L' hk hi,fun k i a' c' kk s hk2 hk _ hs2 => ?_,fun k rows a' c' kk sz _ hs=>(by simp only [jX] at hs; split at hs <;> cases hs),fun k hk=>⟨.inl hk,rfl⟩⟩ trivial
  (fun _ _ _ _ _ _ _=>rfl) (fun k hk _ => ?_) (fun k hk hu => ?_) (fun k y hu => ?_) (fun k L' _ hL _=>(qYA hL).2) (fun k y hu => ?_) (fun k L' hL hi=>h.mem.inr k L' (qYA hL).2 hi) (fun k k' L1 L2 b' h1 h2=>h.mem.apart k k' L1 L2 b' (qYA h1).2 (qYA h2).2) (fun k L' b' hk hb' => ?_) (fun k hk => ?_) h.mem.grow
 ·rwa [zWI] at hrel
 ·have hne:k ≠ id:=fun e=>by subst e; simp [jX] at hs2
  rw [zUZ fun j e=>hne (qVI hk2 hlt e).1]; exact hk
 ·simp only [jX]; rw [if_neg (by unfold mid; omega)]
 ·simp only [yQ] at hu;simp only [jX];split at hu
  ·cases hu
  ·rename_i hne; rw [if_neg (by unfold mid; omega)]
 ·simp only [yQ] at hu;split at hu
  ·rename_i e; rw [← e]; exact hlt
  ·cases hu
 ·simp only [yQ] at hu;split at hu
  ·rename_i he;cases hu;subst he;refine ⟨a0,c0,(List.range rows.len).map fun v=>[H v],by rw [NR.rows_len]; exact old id _ q1 rfl,Nat.zero_lt_one,⟨?_,fun v x y hx hy => ?_⟩,fun x hx => ?_,fun x hx u hu => ?_,?_⟩
   ·rw [Rows.len_L,NR.rows_len]; simp
   ·rw [NR.rows_L] at hx;split at hx
    ·rename_i hv;rw [vQH,List.getElem?_range hv] at hy;cases hy;obtain ⟨r,av,cv,vr,p1,p2,p3,p4,p5,p6,p7⟩:=q6 v hv;have p1':rows.at v=some r:=p1;rw [p1'] at hx;cases hx;refine Al.cons ?_ Al.nil;have hv2:H v=.slice av r.len cv:=p3 (fun r' hr'=>by cases hr');rw [hv2];exact (yU (ρ:=fun i=>if i=0 then some (.reg av cv r.len isz) else none) (id:=0) (e:=ie) (sz:=isz) (F:=F) ⟨av,cv,vr,by simp,q2.2,p4,p5,p6,p7⟩ (fun k hk=>.inl hk) (fun L b hL hbl=>by simp at hL; subst hL; exact .inr ⟨v,_,p2,hbl⟩) av cv r.len isz (by simp)).1
    ·cases hx
   ·obtain ⟨v,hv⟩:=List.mem_iff_getElem?.1 hx;rw [NR.rows_L] at hv;split at hv
    ·cases hr:rows.at v with
     | none=>rw [hr] at hv; cases hv
     | some r=>rw [hr] at hv; cases hv; rfl
    ·cases hv
   ·obtain ⟨v,hv,rfl⟩:=List.mem_map.1 hx;simp only [List.mem_singleton] at hu;subst hu;exact q4 v (List.mem_range.1 hv)
   ·rw [NR.rows_len,zVW]; exact q3
  ·cases hu
 ·obtain ⟨h1,h2⟩:=qYA hk
  have:=h.mem.off k L' b' h2 hb'
  refine ⟨fun hf => ?_,this.2⟩;rcases hf with hf | ⟨j,L,hL,hb⟩
  ·exact this.1 hf
  ·exact h1 j (h.mem.apart k (nid id j) L' L b' h2 hL hb' hb)
 ·rcases hk with hk | ⟨j,L,hL,hb⟩
  ·exact h.mem.fz k hk
  ·have:=(h.mem.off _ L k hL hb).2; exact ⟨this.1,.inr this.2⟩
theorem qHE:∀ (l:List Nat) {σ:St},Rel E C.n σ a w→Rel E C.n (unnL l σ) a w
 | [],σ,h=>h
 | id :: l,σ,h=>by
  simp only [unnL];split
  ·rename_i e ie isz rows hl;obtain ⟨ρ,F,h⟩:=h;exact qHE l ⟨_,_,h.unn hl⟩
  ·exact qHE l h
def exOf:Ex→Exit
 | .normal=>.normal
 | .exit id=>.exit id
 | .ret=>.ret
theorem qHY {hi:Hint} (h:Rel E C.n σ a w):Rel E C.n (qXA hi σ) a w:=by
 unfold qXA;split
 ·exact h
 ·exact qVA (qHE (C:=C) _ h)
theorem yUG {id:Nat} (h:Rel E C.n σ a w):Rel E C.n (preR C id σ) a w:=by
 unfold preR; split
 ·exact h
 ·exact qVA h
theorem zGV {N:Nat} {r:Ret × Mem} (hT:TabOk P C.T) (hE:E.D=Harm P) (hA:SndA P C.cA) (hB:SndB P C.T C.cB) (hm:P.follows .mixedOrders=true):∀ (c:Code) (K:Ex→St→Option (Ret × Mem)) (σ:St) (a:Act) (w:World) (Q:Exit→Act→World→Prop),runC N C c K σ=some r→Rel E C.n σ a w →
  (∀ e τ a w,K e τ=some r→Rel E C.n τ a w→Q (exOf e) a w)→c.wp P Q a w:=by
 intro c;induction c with
 | skip=>intro K σ a w Q h hr hK; exact wp_skip (hK .normal σ a w h hr)
 | label l=>intro K σ a w Q h hr hK; exact wp_label (hK .normal σ a w h hr)
 | scope x ih =>
  intro K σ a w Q h hr hK;exact wp_scope_straight (ih K σ a w _ h hr fun e τ a w hk hr'=>by cases e <;> exact hK _ τ a w hk hr')
 | ret=>intro K σ a w Q h hr hK; exact wp_ret (hK .ret σ a w h hr)
 | exit id=>intro K σ a w Q h hr hK; exact wp_exit (hK (.exit id) σ a w h hr)
 | region id ops d =>
  intro K σ a w Q h hr hK;have hr:=yUG (id:=id) hr;cases d with
  | true =>
   simp only [runC,preK_eq,vYQ] at h;exact yGH hm (yQE hT hE hA hB) h hr (fun h=>h.grow (Grow.drew (Grow.refl _))) fun τ a w hk hr=>hK .normal τ a w hk hr
  | false =>
   simp only [runC,preK_eq,vYZ] at h;exact wp_region_list (zKL (yQE hT hE hA hB) (fun τ a w hk hr=>hK .normal τ a w hk hr) _ _ _ _ h hr)
 | seq x y ihx ihy =>
  intro K σ a w Q h hr hK;refine wp_seq (ihx _ σ a w _ h hr fun e τ a' w' hk hr' => ?_);cases e with
  | normal=>exact ihy K τ a' w' Q hk hr' hK
  | exit id=>exact hK (.exit id) τ a' w' hk hr'
  | ret=>exact hK .ret τ a' w' hk hr'
 | cond c x y ihx ihy =>
  intro K σ a w Q h hr hK;simp only [runC,vQQ] at h;obtain ⟨v,hv,h⟩:=h;have hr0:=hr;obtain ⟨ρ,F,hr'⟩:=hr;obtain ⟨u,u1,u2,u3⟩:=zZ hr' hv;split at h
  ·rename_i t
   have:=qZG u2
   subst this;refine wp_cond (t:=t) (yZ hr' u1) ?_;cases t with
   | true=>exact ihx K σ a w Q h hr0 hK
   | false=>exact ihy K σ a w Q h hr0 hK
  ·cases h
 | block id x ih =>
  intro K σ a w Q h hr hK;refine wp_block (ih _ σ a w _ h hr fun e τ a' w' hk hr' => ?_);cases e with
  | normal=>exact hK .normal τ a' w' hk hr'
  | ret=>exact hK .ret τ a' w' hk hr'
  | exit id' =>
   simp only at hk;by_cases e:id'=id
   ·subst e;rw [Nat.beq_refl] at hk
    simpa [exOf,Exit.inBlock] using hK .normal τ a' w' hk hr'
   ·rw [yW e] at hk
    simpa [exOf,Exit.inBlock,e] using hK (.exit id') τ a' w' hk hr'
 | loop x ih =>
  intro K σ a w Q h hr hK;simp only [runC] at h;have key:∀ M σ a w,zQD (fun again σ=>runC N C x (fun e σ=>match e with
   | .normal=>again σ
   | e=>K e (qXA (C.T.hint C.me (qJ x)) σ)) (qKV (C.T.hint C.me (qJ x)) σ)) M σ=some r→Rel E C.n σ a w→Code.rounds P x Q M a w:=by
   intro M;induction M with
   | zero=>intro σ a w h; cases h
   | succ M ihM =>
    intro σ a w h hr;rw [rounds_succ];refine ih _ _ a w _ h (qVA hr) fun e τ a' w' hk hr' => ?_
    cases e with
    | normal=>exact ihM τ a' w' hk hr'
    | exit id=>exact hK (.exit id) _ a' w' hk (qHY hr')
    | ret=>exact hK .ret _ a' w' hk (qHY hr')
  exact wp_loop_rounds N (key N σ a w h hr)
 | _=>intro K σ a w Q h; simp only [runC] at h; cases h
end
end Go.Rx

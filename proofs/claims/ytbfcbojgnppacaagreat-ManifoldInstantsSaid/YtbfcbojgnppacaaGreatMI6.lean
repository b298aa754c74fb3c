/- Part 6 of the texts behind the last one: rules and contracts. No condition. -/
import Derived.Test.YtbfcbojgnppacaaGreatMI5
open Option renaming bind_eq_some_iff → vQQ, map_eq_some_iff → vZW, bind_some → vYQ
open Option.some renaming injEq → vQZ
open Prod.mk renaming injEq → vQY
open Bool renaming and_eq_true → vQJ
open List renaming getElem?_eq_getElem → vQK, mem_of_getElem? → vQG, mem_cons_of_mem → vQH, mem_cons_self → vZQ, getElem?_map → vZY, getElem?_take → vZV
open Nat renaming eq_of_beq_eq_true → vQX, lt_of_lt_of_le → vZK, le_of_ble_eq_true → vZX
open Classical renaming propDecidable → vYJ
namespace Go.Rx
open Go.RowKit Go.Sx
def ArgB (F:Nat→Prop) (w:World) (b:Nat):HV→Value→Prop
 | .v x,v=>RP F w x v
 | .p _ off,v=>v=.pointer (some ⟨b,off,none⟩)
 | _,_=>False
def qHZ (P:Program) (g:Nat) (hs:List HV) (ps:List PV) (x:PV) (ps':List PV):Prop:=uQ P g∧∀ (w:World) (F:Nat→Prop) (b:Nat) (vals us:List Value) (ty:TypeId),(∀ k,F k→k < w.heap.size)→¬ F b→b < w.heap.size →
 w.heap[b]? = some (.cells us.toArray ty)→Al (RP F w) ps us→(∀ u ∈ us,u.oneCell'=true)→(∀ h ∈ hs,∀ id off,h=.p id off→id=pid)→Al (ArgB F w b) hs vals →
 Calls P g vals.toArray w (fun e w'=>∃ v F' us' ty',e=.returned v∧GrowB (· = b) w w'∧(∀ k,F k→F' k)∧(∀ k,F' k→F k ∨ (w.heap.size≤k∧k < w'.heap.size))∧RP F' w' x v ∧
  w'.heap[b]? = some (.cells us'.toArray ty')∧Al (RP F' w') ps' us'∧∀ u ∈ us',u.oneCell'=true)
def GsR (F:Nat→Prop) (w:World) (A:Option Addr) (p:PV) (v:Value):Prop:=match p with
 | .gs e sz x=>∃ (rows:Rows) (c:Nat) (vr:List (List Value)),x.rowsO=some rows∧v=.slice A rows.len c∧0 < sz∧Al (Al (RP F w)) rows.L vr∧(∀ r ∈ rows.L,r.length=sz)∧(∀ y ∈ vr,∀ u ∈ y,u.oneCell'=true)∧w.ownsRow 0 e sz (.slice A rows.len c) rows.len vr.flatten
 | p=>RP F w p v
theorem yWW {F:Nat→Prop} {w:World} {A:Option Addr} {p:PV} {v:Value} (h:RP F w p v):GsR F w A p v:=by
 cases p with
 | gs e sz x=>cases h
 | _=>exact h
def qHQ (P:Program) (g:Nat) (hs:List HV) (ps:List PV) (x:PV) (ps':List PV):Prop:=uQ P g∧∀ (w:World) (F:Nat→Prop) (b:Nat) (A:Option Addr) (vals us:List Value) (ty:TypeId),(∀ k,F k→k < w.heap.size)→¬ F b→b < w.heap.size →
 w.heap[b]? = some (.cells us.toArray ty)→oneG ps=true→Al (GsR F w A) ps us→(∀ u ∈ us,u.oneCell'=true)→(∀ k,A.map (·.block)=some k→¬ F k∧k < w.heap.size∧k ≠ b)→(∀ h ∈ hs,∀ id off,h=.p id off→id=pid)→Al (ArgB F w b) hs vals →
 Calls P g vals.toArray w (fun e w'=>∃ v F' us' ty' A',e=.returned v∧GrowB (fun k=>k=b ∨ A.map (·.block)=some k) w w'∧(∀ k,F k→F' k)∧(∀ k,F' k→F k ∨ (w.heap.size≤k∧k < w'.heap.size) ∨ A.map (·.block)=some k)∧RP F' w' x v ∧
  w'.heap[b]? = some (.cells us'.toArray ty')∧Al (GsR F' w' A') ps' us'∧(∀ u ∈ us',u.oneCell'=true)∧∀ k,A'.map (·.block)=some k→¬ F' k∧k < w'.heap.size∧k ≠ b∧(w.heap.size≤k ∨ A.map (·.block)=some k))
def yWL (P:Program) (g:Nat) (hs:List HV) (ps:List PV) (x:PV) (ps':List PV):Bool→Prop
 | false=>qHZ P g hs ps x ps'
 | true=>qHQ P g hs ps x ps'
def SndK1 (P:Program) (g:Nat) (hs:List HV) (ps:List PV) (x:PV) (ps':List PV):Prop:=uQ P g∧∀ (w:World) (F:Nat→Prop) (b:Nat) (A:Option Addr) (vals us:List Value) (ty:TypeId),(∀ k,F k→k < w.heap.size)→¬ F b→b < w.heap.size →
 w.heap[b]? = some (.cells us.toArray ty)→oneG ps=true→Al (GsR F w A) ps us→(∀ u ∈ us,u.oneCell'=true)→(∀ k,A.map (·.block)=some k→¬ F k∧k < w.heap.size∧k ≠ b)→(∀ h ∈ hs,∀ id off,h=.p id off→id=pid)→Al (ArgB F w b) hs vals →
 Calls P g vals.toArray w (fun e w'=>∃ v F',e=.returned v∧GrowB (fun k=>A.map (·.block)=some k) w w'∧(∀ k,F k→F' k)∧(∀ k,F' k→F k ∨ (w.heap.size≤k∧k < w'.heap.size))∧RP F' w' x v∧Al (GsR F' w' A) ps' us)
def yHK (P:Program) (g:Nat) (hs:List HV) (ps:List PV) (x:PV) (ps':List PV) (q:Bool):Bool→Prop
 | false=>yWL P g hs ps x ps' q
 | true=>SndK1 P g hs ps x ps'
def SndB (P:Program) (T:Tab) (cB:yJL):Prop:=∀ g hs ps x ps',cB g hs ps=some (x,ps')→yHK P g hs ps x ps' (T.gq g) (T.gk g)
section
variable {P:Program} {E:Env} {C:Cx} {ρ:Own} {F:Nat→Prop} {σ:St} {a:Act} {w:World} {vs:List RV} {e:Eff}
variable {d:Option Tmp} {ty:TypeId} {pos:String} {af:Array Edge} {g:Option (Nat × Bool)}
theorem Rel'.setB {n:Nat} (h:Rel' E n ρ F σ a w) {id b:Nat} (hρ:ρ id=some (.blk b)) {F':Nat→Prop} {ent:Ent} {w':World} (g:GrowB (· = b) w w') (hF:∀ k,F k→F' k) (hF':∀ k,F' k→F k ∨ (w.heap.size≤k∧k < w'.heap.size)) (hent:EntOk ρ F' w' id ent) {x:HV} {v:Value} (hx:RH ρ F' w' x v) {dst:Option Nat} (hd:dstB n dst=true) (h2:id ≠ pid2) :
  Rel' E n ρ F' (σ.apply (.set id ent x) dst) (a.put dst v) w':=by
 have hb:(Loc.blk b).bl=some b:=rfl;have hoff:=h.mem.off id _ b hρ hb;have fzb:∀ k,F k→w'.heap[k]? = w.heap[k]?:=fun k hk=>g.block k (h.mem.fz k hk).1 fun e=>by subst e; exact hoff.1 hk
 refine h.apply (.set id ent x) dst v (fun d e=>by subst e; simpa [dstB] using hd) ⟨fun k b hk=>hk,fun k L' hk _ _=>hk,fun _ _ _ _ _ _ _ hk _ _=>hk,fun k rows a' c' kk sz _ hs=>by simp [Eff.set,jZ] at hs,fun k hk=>⟨hF k hk,fzb k hk⟩⟩ hx
  (fun k L' b' hu hk hb' => ?_) (fun _ _=>rfl) (fun k y hu => ?_) (fun k hu=>rfl) (fun k y hu => ?_) h.mem.apart (fun k L' b' hk hb' => ?_) (fun k hk => ?_) ?_ (fun _ _=>zWX h2)
 ·refine g.block b' (h.mem.off k L' b' hk hb').2.1 fun e => ?_
  subst e
  have:=h.mem.apart k id L' _ b' hk hρ hb' hb
  subst this;simp [Eff.set,kW] at hu
 ·simp only [Eff.set,kW] at hu;split at hu
  ·rename_i he; rw [← he]; exact h.mem.lt hρ rfl
  ·cases hu
 ·simp only [Eff.set,kW] at hu;split at hu
  ·rename_i he; cases hu; subst he; exact hent
  ·cases hu
 ·have:=h.mem.off k L' b' hk hb'
  exact ⟨fun hf=>by rcases hF' b' hf with h1 | h1; exact this.1 h1; omega,vZK this.2.1 g.size,this.2.2⟩
 ·rcases hF' k hk with h1 | h1
  ·exact ⟨vZK (h.mem.fz k h1).1 g.size,(h.mem.fz k h1).2⟩
  ·exact ⟨h1.2,.inr (.inl (Nat.le_trans h.mem.grow.size h1.1))⟩
 ·refine ⟨g.os.trans h.mem.grow.os,g.tape.trans h.mem.grow.tape,g.output.trans h.mem.grow.output,Nat.le_trans h.mem.grow.size g.size,fun k hk hW => ?_⟩;rw [g.block k (vZK hk h.mem.grow.size) fun e => ?_]
  ·exact h.mem.grow.block k hk hW
  ·subst e;rcases hoff.2.2 with h1 | h1
   ·omega
   ·exact hW h1
theorem zQA:∀ {xs:List RV} {p:Nat × List CV},zHW xs=some p→∃ off,RV.p p.1 off p.2 ∈ xs
 | [],p,h=>by cases h
 | x :: xs,p,h=>by
  simp only [zHW] at h;split at h
  ·cases h; exact ⟨_,vZQ⟩
  ·obtain ⟨off,ho⟩:=zQA h; exact ⟨off,vQH _ ho⟩
theorem cv_pv {M:Mem} {hc:List HV} {cs:List CV} {ps:List PV} {us:List Value} (h:mapO (cvOf M) hc=some cs) (hal:Al (RH ρ F w) hc us) (hp:mapO CV.pv cs=some ps):Al (RP F w) ps us:=by
 have hcv:=qKC h hal;have h1:=jJ hp;refine ⟨by rw [← h1.1,hcv.1],fun i p v hpi hv => ?_⟩;have hil:=(List.getElem?_eq_some_iff.1 hpi).1;have hl:i < cs.length:=by rw [h1.1]; exact hil
 have hfz:=h1.2 i _ p (vQK hl) hpi;obtain ⟨hrh,ho⟩:=hcv.2 i _ v (vQK hl) hv;generalize cs[i]=c at hfz hrh ho;unfold CV.pv at hfz;split at hfz
 ·cases hfz; exact hrh
 ·cases hfz;have e:v=.slice none 0 0:=hrh;subst e;exact .zs
 ·cases hfz
theorem call_relB {f:Nat} (hB:SndB P C.T C.cB) (hgk:C.T.gk f=false) (hgq:C.T.gq f=false) (h:Rel' E C.n ρ F σ a w) {o:Oper} (hd:dstB C.n o.dst=true) {args:List RV} {us:List Value} (hu:Al (fun r v=>RH ρ F w r.back v) args us) (hres:∀ r ∈ args,RRes σ.M r) (he:zKG C.cB f args=some e)
  (hrun:uQ P f→(execOp a.eval o).run P w=.ok (.enter f us.toArray) w):OK P E C σ a w e o:=by
 simp only [zKG,vQQ] at he;obtain ⟨⟨id,cs⟩,hp,ps,hps,hs,hhs,⟨x,ps'⟩,hr,he⟩:=he;have hb2:Nat.beq id pid2=false:=by
  cases hb2:Nat.beq id pid2 with
  | false=>rfl
  | true=>simp only [hb2,vYV] at he; cases he
 have hne2:id ≠ pid2:=fun e0=>by rw [e0,Nat.beq_refl] at hb2; cases hb2
 simp only [hb2,vYG,vQZ] at he;subst he;have hbq:=hB f hs ps x ps' hr;rw [hgk,hgq] at hbq;obtain ⟨hent,hcall⟩:=hbq;obtain ⟨off,hmem⟩:=zQA hp;obtain ⟨hc,hlk,hcc⟩:=hres _ hmem;obtain ⟨b,cu,ty',hρ,hheap,hal,hone⟩:=h.mem.ent id _ hlk;have hpu:=cv_pv hcc hal hps;have hoff:=h.mem.off id _ b hρ rfl;have hrs:∀ y ∈ catR RV.regs args,∃ e sz,zG σ.M y.1=some (.reg e sz y.2):=fun y hy=>by
  obtain ⟨x,hx,hy'⟩:=mem_catR.1 hy;exact yYZ (hres x hx) y hy'
 have hid:id ∉ (catR RV.regs args).map (·.1):=fun hm=>by
  obtain ⟨r,hr,hre⟩:=List.mem_map.1 hm;obtain ⟨e',sz,hl⟩:=hrs r hr;have hre':r.1=id:=hre;rw [hre',hlk] at hl; cases hl
 have h1:=h.froze (catR RV.regs args) hrs;generalize hFF:frzF (catR RV.regs args) ρ F=F1 at h1;have hF1:∀ k,F k→F1 k:=fun k hk=>by rw [← hFF]; exact .inl hk
 have hρ1:frzρ (catR RV.regs args) ρ id=some (.blk b):=by rw [zXE hid]; exact hρ
 have hmo:=jJ hhs;unfold OK Goes;rw [hrun hent];simp only;refine Calls.mono (hcall w F1 b us cu ty' (fun k hk=>(h1.mem.fz k hk).1) (h1.mem.off id _ b hρ1 rfl).1 hoff.2.1 hheap (hpu.imp fun _ _ _ hx=>hx.mono fun k hk=>⟨hF1 k hk,rfl⟩) hone ?_ ?_) fun en w' ⟨v,F',us',ty2,hv,gr,f1,f2,hx,hb',hal',hone'⟩=>⟨v,hv,?_⟩
 ·intro hh hhm id' off' he';obtain ⟨i,hi⟩:=List.mem_iff_getElem?.1 hhm;have hil:=(List.getElem?_eq_some_iff.1 hi).1;have hl:i < args.length:=by rw [hmo.1]; exact hil
  have ht:=hmo.2 i _ hh (vQK hl) hi;rw [he'] at ht;generalize args[i]=r at ht;cases r <;> simp only [RV.toB] at ht
  case p id2 off2 c2 =>
   obtain ⟨_,ht⟩:=qQ ht;cases ht; rfl
  all_goals
   obtain ⟨_,ht⟩:=qQ ht;simp only [vQQ] at ht;obtain ⟨_,_,ht⟩:=ht;cases ht
 ·refine ⟨by rw [← hmo.1,hu.1],fun i hh v hi hv => ?_⟩;have hil:=(List.getElem?_eq_some_iff.1 hi).1;have hl:i < args.length:=by rw [hmo.1]; exact hil
  have ht:=hmo.2 i _ hh (vQK hl) hi;have hrv:=hu.2 i _ v (vQK hl) hv;have hmm:=List.getElem_mem hl;have hrr:=hres _ hmm;generalize args[i]=r at ht hrv hmm hrr;have gen:r.still=true→∀ y,r.fz=some y→RP F1 w y v:=fun hst y hy=>zVZ h.mem hF1 hy hrv hrr (.inl ⟨hst,fun x hx L b hL hb=>by rw [← hFF]; exact .inr ⟨x.1,L,List.mem_map.2 ⟨x,catR_mem hmm hx,rfl⟩,hL,hb⟩⟩)
  cases r <;> simp only [RV.toB] at ht
  case p id2 off2 c2 =>
   obtain ⟨he2,ht⟩:=qQ ht;cases ht
   have:=vQX he2
   subst this;obtain ⟨b2,hb2,rfl⟩:=hrv;rw [hρ] at hb2; cases hb2; rfl
  all_goals
   obtain ⟨hst,ht⟩:=qQ ht;simp only [vQQ] at ht;obtain ⟨y,hy,ht⟩:=ht;cases ht;exact gen hst y hy
 ·have h2:=h1.setB (id:=id) hρ1 gr f1 f2 (ent:=.blk (ps'.map PV.toH)) ⟨b,us',ty2,hρ1,hb',Al.map_left (hal'.imp fun _ _ _ h=>zUX h),hone'⟩ (x:=.v x) (v:=v) hx hd hne2;exact Rel.eqv ⟨_,_,h2⟩ (zZX (e:=.set id (.blk (ps'.map PV.toH)) (.v x)) rfl rfl hid)
theorem toB_args {F1:Nat→Prop} {id b:Nat} {args:List RV} {hs:List HV} {us:List Value} (hρ:ρ id=some (.blk b)) (hu:Al (fun r v=>RH ρ F w r.back v) args us) (hhs:mapO (RV.toB id) args=some hs) (gen:∀ r ∈ args,r.still=true→∀ y v,RH ρ F w r.back v→r.fz=some y→RP F1 w y v) :
  (∀ h ∈ hs,∀ id off,h=.p id off→id=pid)∧Al (ArgB F1 w b) hs us:=by
 have hmo:=jJ hhs;refine ⟨fun hh hhm id' off' he' => ?_,by rw [← hmo.1,hu.1],fun i hh v hi hv => ?_⟩
 ·obtain ⟨i,hi⟩:=List.mem_iff_getElem?.1 hhm;have hil:=(List.getElem?_eq_some_iff.1 hi).1;have hl:i < args.length:=by rw [hmo.1]; exact hil
  have ht:=hmo.2 i _ hh (vQK hl) hi;rw [he'] at ht;generalize args[i]=r at ht;cases r <;> simp only [RV.toB] at ht
  case p id2 off2 c2 =>
   obtain ⟨_,ht⟩:=qQ ht;cases ht; rfl
  all_goals
   obtain ⟨_,ht⟩:=qQ ht;simp only [vQQ] at ht;obtain ⟨_,_,ht⟩:=ht;cases ht
 ·have hil:=(List.getElem?_eq_some_iff.1 hi).1;have hl:i < args.length:=by rw [hmo.1]; exact hil
  have ht:=hmo.2 i _ hh (vQK hl) hi;have hrv:=hu.2 i _ v (vQK hl) hv;have hg:=gen _ (List.getElem_mem hl);generalize args[i]=r at ht hrv hg;cases r <;> simp only [RV.toB] at ht
  case p id2 off2 c2 =>
   obtain ⟨he2,ht⟩:=qQ ht;cases ht
   have:=vQX he2
   subst this;obtain ⟨b2,hb2,rfl⟩:=hrv;rw [hρ] at hb2; cases hb2; rfl
  all_goals
   obtain ⟨hst,ht⟩:=qQ ht;simp only [vQQ] at ht;obtain ⟨y,hy,ht⟩:=ht;cases ht;exact hg hst y v hrv hy
theorem find_o:∀ {cs:List CV} {ps:List PV},mapO CV.pvq cs=some ps→∀ {i id e sz:Nat} {rows:Rows},cs[i]? = some (.o id e sz rows)→qWD ps ≠ none
 | [],ps,_,i,id,e,sz,rows,h=>by simp at h
 | c :: cs,ps,hm,i,id,e,sz,rows,h=>by
  simp only [mapO,vQQ,vQZ] at hm;obtain ⟨p,hp,qs,hqs,rfl⟩:=hm;cases i with
  | zero =>
   simp only [List.getElem?_cons_zero,vQZ] at h;subst h;cases hp;simp [qWD]
  | succ i =>
   have:=find_o hqs (by simpa using h)
   cases p <;> simp only [qWD] <;> first | exact this | (intro hc; cases hc)
theorem yHI:∀ {cs:List CV} {ps:List PV},mapO CV.pvq cs=some ps→oneG ps=true→∀ {i id e sz:Nat} {rows:Rows},cs[i]? = some (.o id e sz rows)→qWC cs=some id
 | [],ps,_,_,i,id,e,sz,rows,h=>by simp at h
 | c :: cs,ps,hm,ho,i,id,e,sz,rows,h=>by
  simp only [mapO,vQQ,vQZ] at hm;obtain ⟨p,hp,qs,hqs,rfl⟩:=hm;cases i with
  | zero =>
   simp only [List.getElem?_cons_zero,vQZ] at h;subst h; rfl
  | succ i =>
   have hi:cs[i]? = some (.o id e sz rows):=by simpa using h
   have hf:=find_o hqs hi;have no:∀ {e0 s0:Nat} {x0:PV},p=.gs e0 s0 x0→False:=fun hpe=>by
    subst hpe;simp only [oneG,Option.isNone_iff_eq_none] at ho;exact hf ho
   cases c with
   | o id2 e2 sz2 zJB=>cases hp; exact (no rfl).elim
   | h x =>
    have h1:oneG qs=true:=by cases p <;> first | exact (no rfl).elim | exact ho
    exact yHI hqs h1 hi
theorem zGJ:∀ {cs:List CV} {id:Nat},qWC cs=some id→∃ (i e sz:Nat) (rows:Rows),cs[i]? = some (.o id e sz rows)
 | [],id,h=>by cases h
 | .o id2 e sz rows :: cs,id,h=>by cases h; exact ⟨0,e,sz,rows,rfl⟩
 | .h x :: cs,id,h=>by
  obtain ⟨i,e,sz,rows,h⟩:=zGJ (cs:=cs) h;exact ⟨i + 1,e,sz,rows,by simpa using h⟩
theorem gsr_cells {M:Mem} {hc:List HV} {cs:List CV} {ps:List PV} {us:List Value} {A:Option Addr} (hm:MemOk E ρ F M w) (h:mapO (cvOf M) hc=some cs) (hal:Al (RH ρ F w) hc us) (hp:mapO CV.pvq cs=some ps)
  (hA:∀ (i id e sz:Nat) (rows:Rows),cs[i]? = some (.o id e sz rows)→∀ a c k s,ρ id=some (.reg a c k s)→A=a):Al (GsR F w A) ps us:=by
 have hcv:=qKC h hal;have h1:=jJ hp;refine ⟨by rw [← h1.1,hcv.1],fun i p v hpi hv => ?_⟩;have hil:=(List.getElem?_eq_some_iff.1 hpi).1;have hl:i < cs.length:=by rw [h1.1]; exact hil
 have hci:=vQK hl;have hfz:=h1.2 i _ p hci hpi;obtain ⟨hrh,ho⟩:=hcv.2 i _ v hci hv;have hA':=hA i;rw [hci] at hA';generalize cs[i]=c at hfz hrh ho hA';unfold CV.pvq at hfz;split at hfz
 ·cases hfz; exact yWW hrh
 ·cases hfz;have e:v=.slice none 0 0:=hrh;subst e;exact .zs
 ·rename_i id e sz rows;cases hfz;obtain ⟨a,c,k,sz',hρ,rfl⟩:=hrh;obtain ⟨a2,c2,vr,hρ2,q1,q2,q3,q4,q5⟩:=hm.ent id _ (ho _ _ _ _ rfl)
  have:=hA' id e sz rows rfl _ _ _ _ hρ
  subst this;rw [hρ] at hρ2;simp only [vQZ,Loc.reg.injEq] at hρ2;obtain ⟨rfl,rfl,rfl,rfl⟩:=hρ2;refine ⟨rows,c,vr,?_,rfl,q1,q2,q3,q4,q5⟩;cases rows <;> rfl
 ·cases hfz
theorem zHX:∀ {ps:List PV} {e sz:Nat} {x:PV},qWD ps=some (e,sz,x)→∃ i:Nat,ps[i]? = some (.gs e sz x)
 | [],e,sz,x,h=>by cases h
 | p :: ps,e,sz,x,h=>by
  cases p with
  | gs e2 sz2 x2=>cases h; exact ⟨0,rfl⟩
  | _ =>
   obtain ⟨i,hi⟩:=zHX (ps:=ps) h;exact ⟨i + 1,by simpa using hi⟩
theorem yQD:∀ {ps:List PV},oneG ps=true→∀ {i e sz:Nat} {x:PV},ps[i]? = some (.gs e sz x)→qWD ps=some (e,sz,x)
 | [],_,i,e,sz,x,h=>by simp at h
 | p :: ps,ho,i,e,sz,x,h=>by
  cases i with
  | zero =>
   simp only [List.getElem?_cons_zero,vQZ] at h;subst h; rfl
  | succ i =>
   have hi:ps[i]? = some (.gs e sz x):=by simpa using h
   cases p with
   | gs e2 sz2 x2 =>
    simp only [oneG,Option.isNone_iff_eq_none] at ho
    have:∀ (qs:List PV),qWD qs=none→∀ j:Nat,qs[j]? ≠ some (.gs e sz x):=by
     intro qs;induction qs with
     | nil=>intro _ j h; simp at h
     | cons q qs ih =>
      intro hq j hj;cases j with
      | zero =>
       simp only [List.getElem?_cons_zero,vQZ] at hj;subst hj; cases hq
      | succ j =>
       refine ih ?_ j (by simpa using hj);cases q <;> first | exact hq | cases hq
    exact absurd hi (this ps ho i)
   | _=>exact yQD (ps:=ps) ho hi
theorem yKZ:∀ {ps:List PV},oneG ps=true→∀ {i j:Nat} {e sz e2 sz2:Nat} {x x2:PV},i ≠ j→ps[i]? = some (.gs e sz x)→ps[j]? = some (.gs e2 sz2 x2)→False
 | [],_,i,j,e,sz,e2,sz2,x,x2,_,h,_=>by simp at h
 | p :: ps,ho,i,j,e,sz,e2,sz2,x,x2,hij,hi,hj=>by
  have none:∀ (qs:List PV),qWD qs=none→∀ (j e sz:Nat) (x:PV),qs[j]? ≠ some (.gs e sz x):=by
   intro qs;induction qs with
   | nil=>intro _ j e sz x h; simp at h
   | cons q qs ih =>
    intro hq j e sz x hj;cases j with
    | zero =>
     simp only [List.getElem?_cons_zero,vQZ] at hj;subst hj; cases hq
    | succ j =>
     refine ih ?_ j e sz x (by simpa using hj);cases q <;> first | exact hq | cases hq
  cases i with
  | zero =>
   cases j with
   | zero=>exact hij rfl
   | succ j =>
    simp only [List.getElem?_cons_zero,vQZ] at hi;subst hi;simp only [oneG,Option.isNone_iff_eq_none] at ho;exact none ps ho j _ _ _ (by simpa using hj)
  | succ i =>
   cases j with
   | zero =>
    simp only [List.getElem?_cons_zero,vQZ] at hj;subst hj;simp only [oneG,Option.isNone_iff_eq_none] at ho;exact none ps ho i _ _ _ (by simpa using hi)
   | succ j =>
    have hi':ps[i]? = some (.gs e sz x):=by simpa using hi
    have hj':ps[j]? = some (.gs e2 sz2 x2):=by simpa using hj
    have ho':oneG ps=true:=by
     cases p with
     | gs e3 sz3 x3 =>
      simp only [oneG,Option.isNone_iff_eq_none] at ho;exact absurd hi' (none ps ho i _ _ _)
     | _=>exact ho
    exact yKZ ho' (fun e=>hij (by rw [e])) hi' hj'
theorem zWC {id m k:Nat} {x y:Option Ent}:yG [(id,x),(m,y)] k=if m=k then some y else if id=k then some x else none:=by
 simp only [yG];by_cases e:m=k
 ·subst e; simp
 ·rw [qQW e,vYG,if_neg e];by_cases e2:id=k
  ·subst e2; simp
  ·simp [qQW e2,e2]
theorem toQ_rel {A:Option Addr} {m:Nat} {p:PV} {v:Value} (h:GsR F w A p v) (hm:∀ e sz x rows c,p=.gs e sz x→x.rowsO=some rows→v=.slice A rows.len c→∃ s,ρ m=some (.reg A c rows.len s)):RH ρ F w (p.toQ m) v:=by
 cases p with
 | gs e sz x =>
  obtain ⟨rows,c,vr,h1,h2,_⟩:=h;obtain ⟨s,hs⟩:=hm e sz x rows c rfl h1 h2;exact ⟨A,c,rows.len,s,hs,h2⟩
 | zs=>cases h; rfl
 | _=>exact h
def QEnt (F':Nat→Prop) (w':World) (A':Option Addr) (ps':List PV) (us':List Value) (L':Option Loc):Option Ent→Prop
 | none=>L'=none
 | some en=>∃ (e sz:Nat) (x:PV) (rows:Rows) (c:Nat) (vr:List (List Value)),qWD ps'=some (e,sz,x)∧x.rowsO=some rows∧en=.reg e sz rows∧L'=some (.reg A' c rows.len sz)∧0 < sz∧Al (Al (RP F' w')) rows.L vr∧(∀ r ∈ rows.L,r.length=sz)∧(∀ y ∈ vr,∀ u ∈ y,u.oneCell'=true)∧w'.ownsRow 0 e sz (.slice A' rows.len c) rows.len vr.flatten ∧
   ∀ (i e2 sz2:Nat) (x2:PV) (u:Value),ps'[i]? = some (.gs e2 sz2 x2)→us'[i]? = some u→u=.slice A' rows.len c
theorem call_relQ {f:Nat} (hB:SndB P C.T C.cB) (hgk:C.T.gk f=false) (hgq:C.T.gq f=true) (h:Rel' E C.n ρ F σ a w) {o:Oper} (hd:dstB C.n o.dst=true) {dst:Nat} {args:List RV} {us:List Value} (hu:Al (fun r v=>RH ρ F w r.back v) args us) (hres:∀ r ∈ args,RRes σ.M r) (he:qWG C.cB dst f args=some e) (hn:∀ i ∈ e.nw,qJC σ.M i)
  (hrun:uQ P f→(execOp a.eval o).run P w=.ok (.enter f us.toArray) w):OK P E C σ a w e o:=by
 simp only [qWG,vQQ] at he;obtain ⟨⟨id,cs⟩,hp,ps,hps,hs,hhs,⟨x,ps'⟩,hr,ent,hent',he⟩:=he;obtain ⟨hb,he⟩:=qQ he;simp only [vQZ] at he;subst he;simp only [vQJ,Bool.not_eq_true'] at hb;obtain ⟨⟨⟨⟨⟨ho1,ho2⟩,hregs⟩,hidm⟩,hflat⟩,hid2⟩:=hb;have hbq:=hB f hs ps x ps' hr;rw [hgk,hgq] at hbq;obtain ⟨hent,hcall⟩:=hbq;obtain ⟨off,hmem⟩:=zQA hp;obtain ⟨hc,hlk,hcc⟩:=hres _ hmem;obtain ⟨b,cu,ty',hρ,hheap,hal,hone⟩:=h.mem.ent id _ hlk;have hidlt:=h.mem.ord id _ hlk;have hoff:=h.mem.off id _ b hρ rfl;have hregs':catR RV.regs args=[]:=by simpa using hregs
 -- where the growing slice lies
 obtain ⟨A,hA1,hA2⟩:∃ A:Option Addr,(∀ (i id e sz:Nat) (rows:Rows),cs[i]? = some (.o id e sz rows)→∀ a c k s,ρ id=some (.reg a c k s)→A=a)∧(∀ k,A.map (·.block)=some k→∃ oid L,qWC cs=some oid∧ρ oid=some L∧L.bl=some k):=by
  cases hoid:qWC cs with
  | none=>exact ⟨none,fun i id e sz rows hi=>(by rw [yHI hps ho1 hi] at hoid; cases hoid),fun k hk=>by cases hk⟩
  | some oid =>
   obtain ⟨i,e,sz,rows,hi⟩:=zGJ hoid;obtain ⟨v,hv,hrh,_⟩:=(qKC hcc hal).get hi;obtain ⟨a1,c1,k1,s1,hρo,_⟩:=hrh;refine ⟨a1,fun i2 id2 e2 sz2 zJB hi2 a c k s hρ2 => ?_,fun k hk=>⟨oid,_,rfl,hρo,hk⟩⟩
   have:=yHI hps ho1 hi2
   rw [hoid] at this;cases this;rw [hρo] at hρ2;simp only [vQZ,Loc.reg.injEq] at hρ2;exact hρ2.1
 have hcells:=gsr_cells h.mem hcc hal hps hA1;generalize hm0:(qWC cs).getD (100000 + dst)=m at *
 -- what m is
 have hmlt:m < 2000000:=by
  cases hoid:qWC cs with
  | none=>rw [hoid] at hm0 hn; simp only [Option.getD_none] at hm0; subst hm0; exact (hn _ (by simp)).2
  | some oid =>
   rw [hoid] at hm0; simp only [Option.getD_some] at hm0; subst hm0;obtain ⟨i,e,sz,rows,hi⟩:=zGJ hoid;obtain ⟨v,hv,hrh,_⟩:=(qKC hcc hal).get hi;obtain ⟨a1,c1,k1,s1,hρo,_⟩:=hrh;exact h.mem.lt hρo rfl
 have hmreg:∀ L,ρ m=some L→∃ a c k s,L=.reg a c k s:=fun L hL=>by
  cases hoid:qWC cs with
  | none =>
   rw [hoid] at hm0 hn; simp only [Option.getD_none] at hm0; subst hm0;rw [h.mem.fresh (hn _ (by simp))] at hL; cases hL
  | some oid =>
   rw [hoid] at hm0; simp only [Option.getD_some] at hm0; subst hm0;obtain ⟨i,e,sz,rows,hi⟩:=zGJ hoid;obtain ⟨v,hv,hrh,_⟩:=(qKC hcc hal).get hi;obtain ⟨a1,c1,k1,s1,hρo,_⟩:=hrh;rw [hρo] at hL; cases hL; exact ⟨_,_,_,_,rfl⟩
 have hAm:∀ k,A.map (·.block)=some k→∃ L,ρ m=some L∧L.bl=some k:=fun k hk=>by
  obtain ⟨oid,L,h1,h2,h3⟩:=hA2 k hk;rw [h1] at hm0; simp only [Option.getD_some] at hm0; subst hm0;exact ⟨L,h2,h3⟩
 have hidne:id ≠ m:=fun e=>by subst e; simp at hidm
 have hAoff:∀ k,A.map (·.block)=some k→¬ F k∧k < w.heap.size∧(E.w0.heap.size≤k ∨ E.W k):=fun k hk=>by
  obtain ⟨L,h1,h2⟩:=hAm k hk; exact h.mem.off m L k h1 h2
 have hAb:∀ k,A.map (·.block)=some k→k ≠ b:=fun k hk e=>by
  subst e;obtain ⟨L,h1,h2⟩:=hAm _ hk;exact hidne (h.mem.apart id m _ _ _ hρ h1 rfl h2)
 obtain ⟨hpid,hargs⟩:=toB_args (F1:=F) (b:=b) hρ hu hhs fun r hr hst y v hrv hy=>zVZ h.mem (fun k hk=>hk) hy hrv (hres r hr) (.inl ⟨hst,fun x hx=>by
  have:x ∈ catR RV.regs args:=mem_catR.2 ⟨r,hr,hx⟩
  rw [hregs'] at this; cases this⟩)
 unfold OK Goes;rw [hrun hent];simp only;refine Calls.mono (hcall w F b A us cu ty' (fun k hk=>(h.mem.fz k hk).1) hoff.1 hoff.2.1 hheap ho1 hcells hone (fun k hk=>⟨(hAoff k hk).1,(hAoff k hk).2.1,hAb k hk⟩) hpid hargs) fun en w' ⟨v,F',us',ty2,A',hv,gr,f1,f2,hx,hb',hal',hone',hA'⟩=>⟨v,hv,?_⟩
 -- the memory behind the call
 obtain ⟨L',hL',hLent⟩:∃ L':Option Loc,(∀ L,L'=some L→L.inner=false∧(∀ k,L.bl=some k→A'.map (·.block)=some k))∧QEnt F' w' A' ps' us' L' ent:=by
  cases hfg:qWD ps' with
  | none=>rw [hfg] at hent'; cases hent'; exact ⟨none,fun L hL=>(by cases hL),rfl⟩
  | some q =>
   obtain ⟨e,sz,x2⟩:=q;rw [hfg] at hent';simp only [gEnt,vQQ,vQZ] at hent';obtain ⟨rows,hrows,rfl⟩:=hent';obtain ⟨i,hi⟩:=zHX hfg;obtain ⟨u,hu2,hg⟩:=hal'.get hi;obtain ⟨zJB,c,vr,q1,q2,q3,q4,q5,q6,q7⟩:=hg;rw [hrows] at q1; cases q1;refine ⟨some (.reg A' c rows.len sz),fun L hL=>(by cases hL; exact ⟨rfl,fun k hk=>hk⟩),e,sz,x2,rows,c,vr,hfg,hrows,rfl,rfl,q3,q4,q5,q6,q7,fun i2 e2 sz2 x3 u2 hi2 hu3 => ?_⟩;have hii:=yQD ho2 hi2;rw [hfg] at hii;cases hii;by_cases e3:i2=i
   ·subst e3; rw [hu2] at hu3; cases hu3; exact q2
   ·exact (yKZ ho2 e3 hi2 hi).elim
 let ρ':Own:=fun k=>if k=m then L' else ρ k
 have ρm:ρ' m=L':=if_pos rfl;have ρne:∀ {k},k ≠ m→ρ' k=ρ k:=fun hk=>if_neg hk
 have inv:∀ k L,ρ' k=some L→(k=m∧L'=some L) ∨ (k ≠ m∧ρ k=some L):=fun k L hk=>by
  by_cases e:k=m
  ·subst e; rw [ρm] at hk; exact .inl ⟨rfl,hk⟩
  ·rw [ρne e] at hk; exact .inr ⟨e,hk⟩
 have fzb:∀ k,F k→w'.heap[k]? = w.heap[k]?:=fun k hk=>gr.block k (h.mem.fz k hk).1 fun e=>by
  rcases e with e | e
  ·subst e; exact hoff.1 hk
  ·exact (hAoff k e).1 hk
 have blkeq:∀ k L b',k ≠ m→k ≠ id→ρ k=some L→L.bl=some b'→w'.heap[b']? = w.heap[b']?:=fun k L b' h1 h2 hk hb2=>gr.block b' (h.mem.off k L b' hk hb2).2.1 fun e=>by
  rcases e with e | e
  ·subst e; exact h2 (h.mem.apart k id L _ _ hk hρ hb2 rfl)
  ·obtain ⟨L2,h3,h4⟩:=hAm b' e; exact h1 (h.mem.apart k m L L2 b' hk h3 hb2 h4)
 have hF'b:∀ k L b',k ≠ m→ρ k=some L→L.bl=some b'→¬ F' b':=fun k L b' h1 hk hb2 hf=>by
  rcases f2 b' hf with h2 | h2 | h2
  ·exact (h.mem.off k L b' hk hb2).1 h2
  ·have:=(h.mem.off k L b' hk hb2).2.1; omega
  ·obtain ⟨L2,h3,h4⟩:=hAm b' h2; exact h1 (h.mem.apart k m L L2 b' hk h3 hb2 h4)
 refine ⟨ρ',F',h.apply2 ⟨[(id,some (.blk (ps'.map (PV.toQ m)))),(m,ent)],[(m,none)],.v x,_⟩ o.dst v (fun d e=>by rw [e] at hd; simpa [dstB] using hd)
  ⟨fun k b2 hk => ?_,fun k L hk hs _ => ?_,fun k j a' c' kk s _ hk _ _ => ?_,fun k rows a' c' kk sz _ hs=>(by simp only [qZQ] at hs; split at hs <;> cases hs),fun k hk=>⟨f1 k hk,fzb k hk⟩⟩ hx
  (fun k L b' hu2 _ hk hb2 => ?_) (fun k hk hu2 => ?_) (fun k hk hu2 => ?_) (fun k y hu2 => ?_) (fun k L hu2 hL _ => ?_) (fun k y hu2 => ?_) (fun k L hL hi => ?_) (fun k k' L1 L2 b' h1 h2 hb1 hb2 => ?_) (fun k L b' hk hb2 => ?_) (fun k hk => ?_) ?_ (fun b3 hb3 => ?_)⟩
 ·rw [ρne fun e=>by subst e; obtain ⟨_,_,_,_,e2⟩:=hmreg _ hk; cases e2]; exact hk
 ·rw [ρne fun e=>by subst e; simp [qZQ] at hs]; exact hk
 ·rw [ρne (by have:=qKG k j; omega)]; exact hk
 ·simp only [zWC] at hu2;split at hu2
  ·cases hu2
  ·split at hu2
   ·cases hu2
   ·rename_i n1 n2; exact blkeq k L b' (Ne.symm n1) (Ne.symm n2) hk hb2
 ·simp only [zWC] at hu2;simp only [qZQ];split at hu2
  ·cases hu2
  ·rename_i n1; rw [if_neg n1]
 ·simp only [qZQ]; rw [if_neg (by unfold mid; omega)]
 ·simp only [zWC] at hu2;split at hu2
  ·rename_i e; rw [← e]; exact hmlt
  ·split at hu2
   ·rename_i e; rw [← e]; exact hidlt
   ·cases hu2
 ·simp only [zWC] at hu2;split at hu2
  ·cases hu2
  ·rename_i n1; rw [ρne (Ne.symm n1)] at hL; exact hL
 ·simp only [zWC] at hu2;split at hu2
  ·rename_i e;cases hu2;subst e;cases ent with
   | none=>show ρ' m=none; rw [ρm]; exact hLent
   | some en =>
    obtain ⟨e,sz,x2,rows,c,vr,_,_,rfl,hL,q3,q4,q5,q6,q7,_⟩:=hLent;exact ⟨A',c,vr,by rw [ρm]; exact hL,q3,q4,q5,q6,q7⟩
  ·split at hu2
   ·rename_i _ e;cases hu2;subst e;refine ⟨b,us',ty2,by rw [ρne hidne]; exact hρ,hb',Al.map_left ⟨hal'.1,fun i p u hi hu3=>toQ_rel (hal'.2 i p u hi hu3) fun e sz x2 rows c hpe hrows huv => ?_⟩,hone'⟩;subst hpe;have hfg:=yQD ho2 hi;cases ent with
    | none =>
     rw [hfg] at hent';simp only [gEnt,hrows,vYQ] at hent';cases hent'
    | some en =>
     obtain ⟨e3,sz3,x3,yUY,c3,vr,hf3,hr3,_,hL,_,_,_,_,_,hall⟩:=hLent;rw [hfg] at hf3;cases hf3;rw [hrows] at hr3;cases hr3
     have:=hall i _ _ _ u hi hu3
     rw [huv] at this;simp only [Value.slice.injEq,true_and] at this;exact ⟨sz,by rw [ρm,hL,this]⟩
   ·cases hu2
 ·rcases inv k L hL with ⟨_,h2⟩ | ⟨_,h2⟩
  ·rw [(hL' L h2).1] at hi; cases hi
  ·exact h.mem.inr k L h2 hi
 ·have cross:∀ k L,k ≠ m→ρ k=some L→L.bl=some b'→A'.map (·.block)=some b'→False:=fun k L hne hk hb3 hb4=>by
   obtain ⟨_,_,_,h5⟩:=hA' b' hb4;rcases h5 with h5 | h5
   ·have:=(h.mem.off k L b' hk hb3).2.1; omega
   ·obtain ⟨L3,h6,h7⟩:=hAm b' h5; exact hne (h.mem.apart k m L L3 b' hk h6 hb3 h7)
  rcases inv k L1 h1 with ⟨e1,h3⟩ | ⟨n1,h3⟩ <;> rcases inv k' L2 h2 with ⟨e2,h4⟩ | ⟨n2,h4⟩
  ·rw [e1,e2]
  ·exact (cross k' L2 n2 h4 hb2 ((hL' L1 h3).2 b' hb1)).elim
  ·exact (cross k L1 n1 h3 hb1 ((hL' L2 h4).2 b' hb2)).elim
  ·exact h.mem.apart k k' L1 L2 b' h3 h4 hb1 hb2
 ·rcases inv k L hk with ⟨_,h2⟩ | ⟨n1,h2⟩
  ·obtain ⟨h3,h4,_,h5⟩:=hA' b' ((hL' L h2).2 b' hb2);refine ⟨h3,h4,?_⟩;rcases h5 with h5 | h5
   ·exact .inl (Nat.le_trans h.mem.grow.size h5)
   ·exact (hAoff b' h5).2.2
  ·have:=h.mem.off k L b' h2 hb2
   exact ⟨hF'b k L b' n1 h2 hb2,vZK this.2.1 gr.size,this.2.2⟩
 ·rcases f2 k hk with h1 | h1 | h1
  ·exact ⟨vZK (h.mem.fz k h1).1 gr.size,(h.mem.fz k h1).2⟩
  ·exact ⟨h1.2,.inr (.inl (Nat.le_trans h.mem.grow.size h1.1))⟩
  ·have:=hAoff k h1; exact ⟨vZK this.2.1 gr.size,.inr this.2.2⟩
 ·refine ⟨gr.os.trans h.mem.grow.os,gr.tape.trans h.mem.grow.tape,gr.output.trans h.mem.grow.output,Nat.le_trans h.mem.grow.size gr.size,fun k hk hW => ?_⟩;rw [gr.block k (vZK hk h.mem.grow.size) fun e => ?_]
  ·exact h.mem.grow.block k hk hW
  ·rcases e with e | e
   ·subst e;rcases hoff.2.2 with h1 | h1
    ·omega
    ·exact hW h1
   ·rcases (hAoff k e).2.2 with h1 | h1
    ·omega
    ·exact hW h1
 ·have n1:m ≠ pid2:=fun e=>by subst e; obtain ⟨_,_,_,_,e2⟩:=hmreg _ hb3; cases e2
  have n2:id ≠ pid2:=fun e=>by subst e; simp at hid2
  simp only [zWC,if_neg n1,if_neg n2]
theorem call_relK {f:Nat} (hB:SndB P C.T C.cB) (hgk:C.T.gk f=true) (h:Rel' E C.n ρ F σ a w) {o:Oper} (hd:dstB C.n o.dst=true) {args:List RV} {us:List Value} (hu:Al (fun r v=>RH ρ F w r.back v) args us) (hres:∀ r ∈ args,RRes σ.M r) (he:qUV C.cB f args=some e)
  (hrun:uQ P f→(execOp a.eval o).run P w=.ok (.enter f us.toArray) w):OK P E C σ a w e o:=by
 unfold qUV at he;simp only [vQQ] at he;obtain ⟨⟨id,cs⟩,hp,he⟩:=he;dsimp only at he;split at he
 ·rename_i m e0 sz rows;simp only [vQQ] at he;obtain ⟨hs,hhs,⟨x,ps'⟩,hr,he⟩:=he;dsimp only at he;split at he
  ·rename_i e2 sz2 y;simp only [vQQ] at he;obtain ⟨zJB,hrows,he⟩:=he;obtain ⟨hb,he⟩:=qQ he;simp only [vQZ] at he;subst he;simp only [vQJ,Bool.not_eq_true'] at hb;obtain ⟨⟨⟨hsz,hregs⟩,hidm⟩,hflat⟩:=hb;have hsz2:=vQX hsz;subst hsz2;have hbq:=hB f hs _ x _ hr;rw [hgk] at hbq;obtain ⟨hent,hcall⟩:=hbq;obtain ⟨off,hmem⟩:=zQA hp;obtain ⟨hc,hlk,hcc⟩:=hres _ hmem;obtain ⟨b,cu,ty',hρ,hheap,hal,hone⟩:=h.mem.ent id _ hlk;have hoff:=h.mem.off id _ b hρ rfl;have hregs':catR RV.regs args=[]:=by simpa using hregs
   have hcv:=qKC hcc hal;obtain ⟨u0,hu0,hrh,hlm⟩:=hcv.get (i:=0) rfl;obtain ⟨A,c1,k1,s1,hρo,hu0v⟩:=hrh;have hlm':=hlm m e0 sz2 rows rfl;obtain ⟨A2,c2,vr0,hρo2,_⟩:=h.mem.ent m _ hlm';rw [hρo] at hρo2;simp only [vQZ,Loc.reg.injEq] at hρo2;obtain ⟨rfl,rfl,rfl,rfl⟩:=hρo2;have hcells:=gsr_cells (A:=A) (ps:=[.gs e0 s1 rows.pv]) h.mem hcc hal rfl (fun i id' e' sz' rows' hi a c k s hρ2=>by
    cases i with
    | zero =>
     simp only [List.getElem?_cons_zero,vQZ,CV.o.injEq] at hi;obtain ⟨rfl,_⟩:=hi;rw [hρo] at hρ2;simp only [vQZ,Loc.reg.injEq] at hρ2;exact hρ2.1
    | succ i=>simp at hi)
   have hmlt:=h.mem.lt hρo rfl;have hidne:id ≠ m:=fun e=>by subst e; simp at hidm
   have hAm:∀ k,A.map (·.block)=some k→(Loc.reg A c1 rows.len s1).bl=some k:=fun k hk=>hk
   have hAoff:∀ k,A.map (·.block)=some k→¬ F k∧k < w.heap.size∧(E.w0.heap.size≤k ∨ E.W k):=fun k hk=>h.mem.off m _ k hρo (hAm k hk)
   have hAb:∀ k,A.map (·.block)=some k→k ≠ b:=fun k hk e=>by
    subst e;exact hidne (h.mem.apart id m _ _ _ hρ hρo rfl (hAm _ hk))
   obtain ⟨hpid,hargs⟩:=toB_args (F1:=F) (b:=b) hρ hu hhs fun r hr hst y v hrv hy=>zVZ h.mem (fun k hk=>hk) hy hrv (hres r hr) (.inl ⟨hst,fun x hx=>by
    have:x ∈ catR RV.regs args:=mem_catR.2 ⟨r,hr,hx⟩
    rw [hregs'] at this; cases this⟩)
   unfold OK Goes;rw [hrun hent];simp only;refine Calls.mono (hcall w F b A us cu ty' (fun k hk=>(h.mem.fz k hk).1) hoff.1 hoff.2.1 hheap rfl hcells hone (fun k hk=>⟨(hAoff k hk).1,(hAoff k hk).2.1,hAb k hk⟩) hpid hargs) fun en w' ⟨v,F',hv,gr,f1,f2,hx,hal'⟩=>⟨v,hv,?_⟩
   obtain ⟨yUY,c3,vr,q1,q2,q3,q4,q5,q6,q7⟩:=hal'.2 0 _ u0 rfl hu0;rw [hrows] at q1;cases q1;rw [hu0v] at q2;simp only [Value.slice.injEq,true_and] at q2;obtain ⟨q2a,rfl⟩:=q2;have fzb:∀ k,F k→w'.heap[k]? = w.heap[k]?:=fun k hk=>gr.block k (h.mem.fz k hk).1 fun e=>(hAoff k e).1 hk
   refine ⟨ρ,F',h.apply ⟨[(m,some (.reg e2 s1 zJB))],[],.v x,[]⟩ o.dst v (fun d e=>by rw [e] at hd; simpa [dstB] using hd)
    ⟨fun k b hk=>hk,fun k L' hk _ _=>hk,fun _ _ _ _ _ _ _ hk _ _=>hk,fun k rows a' c' kk sz _ hs=>by simp [jZ] at hs,fun k hk=>⟨f1 k hk,fzb k hk⟩⟩ hx
    (fun k L' b' hu3 hk hb' => ?_) (fun _ _=>rfl) (fun k y hu3 => ?_) (fun k _=>rfl) (fun k y hu3 => ?_) h.mem.apart (fun k L' b' hk hb' => ?_) (fun k hk => ?_) ?_ (fun b3 hb3=>zWX (zZI hρo hb3))⟩
   ·refine gr.block b' (h.mem.off k L' b' hk hb').2.1 fun e => ?_
    have:=h.mem.apart k m L' _ b' hk hρo hb' (hAm b' e)
    subst this;simp [kW] at hu3
   ·simp only [kW] at hu3;split at hu3
    ·rename_i e; rw [← e]; exact hmlt
    ·cases hu3
   ·simp only [kW] at hu3;split at hu3
    ·rename_i e;cases hu3;subst e;exact ⟨A,c1,vr,by rw [hρo,q2a],q3,q4,q5,q6,q7⟩
    ·cases hu3
   ·have:=h.mem.off k L' b' hk hb'
    exact ⟨fun hf=>by rcases f2 b' hf with h1 | h1; exact this.1 h1; omega,vZK this.2.1 gr.size,this.2.2⟩
   ·rcases f2 k hk with h1 | h1
    ·exact ⟨vZK (h.mem.fz k h1).1 gr.size,(h.mem.fz k h1).2⟩
    ·exact ⟨h1.2,.inr (.inl (Nat.le_trans h.mem.grow.size h1.1))⟩
   ·refine ⟨gr.os.trans h.mem.grow.os,gr.tape.trans h.mem.grow.tape,gr.output.trans h.mem.grow.output,Nat.le_trans h.mem.grow.size gr.size,fun k hk hW => ?_⟩;rw [gr.block k (vZK hk h.mem.grow.size) fun e => ?_]
    ·exact h.mem.grow.block k hk hW
    ·rcases (hAoff k e).2.2 with h1 | h1
     ·omega
     ·exact hW h1
  ·cases he
 ·cases he
theorem qKK {fx:Operand} {args:Array Operand} {ats:Array TypeId} {f:Nat} {fs us cs:List Value} (h:Rel' E C.n ρ F σ a w) (hf:ev (actS a) fx=some (.func (.func f) fs.toArray cs.toArray)) (hu:evs (actS a) args.toList=some us) (hent:uQ P f) :
  (execOp a.eval ⟨d,.call ⟨.value fx,args,ats⟩,ty,pos,af,g⟩).run P w=.ok (.enter f (fs ++ us ++ cs).toArray) w:=by
 have e3:args.map a.eval=us.toArray:=by
  have h1:=(qVL hu).1;have h2:=(qVL hu).2
  have:args.toList.map a.eval=us:=by
   rw [← h1];refine List.map_congr_left fun x hx => ?_
   have:=h2 x hx
   cases hv:ev (actS a) x with
   | none=>rw [hv] at this; cases this
   | some v=>rw [uU h hv,zV hv]
  apply Array.ext'; rw [Array.toList_map,this]
 simp [execOp,resolve,uU h hf,Deferred.ofValue,invoke,e3]
 simpa using hent (fs ++ us ++ cs).toArray w
theorem al_v {ps:List PV} {us:List Value} (h:Al (RP F w) ps us):Al (fun r v=>RH ρ F w r.back v) (ps.map RV.v) us:=Al.map_left h
theorem ok_call {fx:Operand} {args:Array Operand} {ats:Array TypeId} (hA:SndA P C.cA) (hB:SndB P C.T C.cB) (h:Rel' E C.n ρ F σ a w) (hd:dstB C.n d=true) (hvs:mapO (opv 0 σ) (#[fx] ++ args).toList=some vs) (he:zU C.T C.cA C.cB C.me (d.getD 0) (.call ⟨.value fx,args,ats⟩) vs=some e) (hn:∀ i ∈ e.nw,qJC σ.M i) :
  OK P E C σ a w e ⟨d,.call ⟨.value fx,args,ats⟩,ty,pos,af,g⟩:=by
 rw [show (#[fx] ++ args).toList=fx :: args.toList by simp] at hvs;simp only [mapO,vQQ,vQZ] at hvs;obtain ⟨rx,hrx,rs,hrs,rfl⟩:=hvs;obtain ⟨v,v1,v2,v3⟩:=jY h hrx;obtain ⟨us,u1,u2,u3⟩:=zKZ h hrs;cases rx with
 | v p =>
  cases p with
  | f fn first cap =>
   simp only [zU] at he;cases v2 with
   | f _ _ _ fs cs hl hm hf hc =>
    have hal:=((al_v (ρ:=ρ) ⟨hl,hf⟩).append u2).append (al_v ⟨hm,hc⟩);have hres:∀ r ∈ first.map RV.v ++ rs ++ cap.map RV.v,RRes σ.M r:=fun r hr=>by
     rcases List.mem_append.1 hr with hr | hr
     ·rcases List.mem_append.1 hr with hr | hr
      ·obtain ⟨_,_,rfl⟩:=List.mem_map.1 hr; trivial
      ·exact u3 r hr
     ·obtain ⟨_,_,rfl⟩:=List.mem_map.1 hr; trivial
    cases hrw:C.T.rw fn with
    | true =>
     rw [hrw,vYV] at he;cases hgk:C.T.gk fn with
     | true=>rw [hgk,vYV] at he; exact call_relK hB hgk h hd hal hres he fun hent=>qKK h v1 u1 hent
     | false =>
     rw [hgk,vYG] at he;cases hgq:C.T.gq fn with
     | false=>rw [hgq,vYG] at he; exact call_relB hB hgk hgq h hd hal hres he fun hent=>qKK h v1 u1 hent
     | true=>rw [hgq,vYV] at he; exact call_relQ hB hgk hgq h hd hal hres he hn fun hent=>qKK h v1 u1 hent
    | false=>rw [hrw] at he; exact call_rel hA h hd hal hres he hn fun hent=>qKK h v1 u1 hent
  | _=>simp only [zU] at he; cases he
 | g fn first cap =>
  simp only [zU] at he;obtain ⟨fs,cs,rfl,hf,hc⟩:=v2;have hal:=((al_v (ρ:=ρ) hf).append u2).append (Al.map_left (f:=fun c:RC=>(match c with | .v x=>RV.v x | .p id off cells=>RV.p id off cells)) (R:=fun r v=>RH ρ F w r.back v) (hc.map_left_inv.imp fun c v _ hh=>(by cases c <;> exact hh)));have hres:∀ r ∈ first.map RV.v ++ rs ++ cap.map (fun c:RC=>(match c with | .v x=>RV.v x | .p id off cells=>RV.p id off cells)),RRes σ.M r:=fun r hr=>by
   rcases List.mem_append.1 hr with hr | hr
   ·rcases List.mem_append.1 hr with hr | hr
    ·obtain ⟨_,_,rfl⟩:=List.mem_map.1 hr; trivial
    ·exact u3 r hr
   ·obtain ⟨c,hcm,rfl⟩:=List.mem_map.1 hr
    have:=v3 c hcm
    cases c <;> exact this
  cases hrw:C.T.rw fn with
  | true =>
   rw [hrw,vYV] at he;cases hgk:C.T.gk fn with
   | true=>rw [hgk,vYV] at he; exact call_relK hB hgk h hd hal hres he fun hent=>qKK h v1 u1 hent
   | false =>
   rw [hgk,vYG] at he;obtain ⟨hgq,he⟩:=qQ he;exact call_relQ hB hgk hgq h hd hal hres he hn fun hent=>qKK h v1 u1 hent
  | false=>rw [hrw,vYG] at he; exact call_rel hA h hd hal hres he hn fun hent=>qKK h v1 u1 hent
 | _=>simp only [zU] at he; cases he
theorem guard_wanted {ops:Array Oper} {o:Oper} {b:Bool} (h:Rel' E C.n ρ F σ a w) (hg:qQJ ops σ o=some b):Region.wanted o (yielded ops a.tmps)=b:=by
 unfold qQJ at hg;unfold Region.wanted;cases hgd:o.guard with
 | none=>rw [hgd] at hg; cases hg; rfl
 | some jb =>
  obtain ⟨j,c⟩:=jb;rw [hgd] at hg;simp only at hg ⊢;split at hg
  ·rename_i dd hdd;split at hg
   ·rename_i x hx;cases hg;obtain ⟨v,hv,hr⟩:=h.slots dd _ hx
    have:=qUB hr
    subst this;simp [yielded,hdd,Array.getD_eq_getD_getElem?,hv]
   ·rename_i hx;cases hg;obtain ⟨v,hv,hr⟩:=h.slots dd _ hx;cases hr with
    | t _ vs hl _ =>
     simp [yielded,hdd,hv]
   ·cases hg
  ·cases hg
theorem step_ok {op:Op} (hT:TabOk P C.T) (hA:SndA P C.cA) (hB:SndB P C.T C.cB) (h:Rel' E C.n ρ F σ a w) (hd:dstB C.n d=true) (hvs:mapO (opv (mode op) σ) op.operands.toList=some vs) (he:zU C.T C.cA C.cB C.me (d.getD 0) op vs=some e) (hn:∀ i ∈ e.nw,qJC σ.M i) (hnd:∀ c,op ≠ .defer c) :
  OK P E C σ a w e ⟨d,op,ty,pos,af,g⟩:=by
 cases op with
 | defer c=>exact absurd rfl (hnd c)
 | move x=>exact ok_move h hd hvs he
 | assign x=>exact ok_assign h hd hvs he
 | pick c x y=>exact ok_pick h hd hvs he
 | alloc t=>exact ok_alloc hT h hd hvs he hn
 | box t x=>exact ok_box h hd hvs he hn
 | build t ps=>exact ok_build hT h hd hvs he
 | buildSlice t len ps=>exact ok_bslice hT h hd hvs he hn
 | load t x=>exact ok_load hT h hd hvs he
 | store t x y=>exact ok_store hT h hd hvs he
 | nilCheck x=>exact ok_nil h hd hvs he
 | binOp op t x y t'=>exact ok_bin hT h hd hvs he
 | unOp op t x =>
  cases op with
  | not=>exact ok_not h hd hvs he
  | neg=>exact ok_neg h hd hvs he
  | _=>simp only [zU] at he; cases he
 | convert s t x=>exact ok_convert hT h hd hvs he
 | makeFunc fn first cap=>exact ok_makeFunc h hd hvs he
 | makeSlice t x y=>exact ok_make hT h hd hvs he hn
 | slice t x lo hi mx=>exact ok_slice hT h hd hvs he
 | fieldAddr t x f=>exact ok_fieldAddr hT h hd hvs he
 | field t x f=>exact ok_field hT h hd hvs he
 | indexAddr t x y=>exact ok_indexAddr hT h hd hvs he
 | index t x y=>exact ok_index hT h hd hvs he
 | range t x=>exact ok_range hT h hd hvs he hn
 | next x b=>exact ok_next h hd hvs he
 | extract x i=>exact ok_extract h hd hvs he
 | call c =>
  obtain ⟨callee,args,ats⟩:=c;cases callee with
  | value fx=>exact ok_call hA hB h hd hvs he hn
  | builtin b =>
   cases b with
   | len=>exact ok_len hT h hd hvs he
   | min=>exact ok_min h hd hvs he
   | max=>exact ok_max h hd hvs he
   | append=>exact ok_append hT h hd hvs he hn
   | _=>simp only [zU] at he; cases he
  | _=>simp only [zU] at he; cases he
 | _=>simp only [zU] at he; cases he
theorem ok_defer (hT:TabOk P C.T) (hE:E.D=Harm P) (h:Rel' E C.n ρ F σ a w) {d:Option Tmp} {ty:TypeId} {pos:String} {af:Array Edge} {g:Option (Nat × Bool)} {c:Call} {vs:List RV} {e:Eff} (hd:dstB C.n d=true)
  (hvs:mapO (opv 0 σ) c.operands.toList=some vs) (he:zU C.T C.cA C.cB C.me (d.getD 0) (.defer c) vs=some e):GoesD P E.D ⟨d,.defer c,ty,pos,af,g⟩ a w fun a' w'=>Rel E C.n (σ.apply e d) a' w':=by
 obtain ⟨callee,args,ats⟩:=c;cases callee with
 | value fx =>
  cases vs with
  | nil=>simp only [zU] at he; cases he
  | cons x vs =>
   simp only [zU] at he;obtain ⟨hargs,he1⟩:=qQ he
   clear he
   have hargs0:args=#[]:=by simpa using hargs
   subst hargs0;have hvs':mapO (opv 0 σ) [fx]=some (x :: vs):=by simpa [Call.operands] using hvs
   obtain ⟨y,hy,hys⟩:=qGK hvs';cases hys;have key:∀ (f:Nat) (fs cs:List Value),a.eval fx=.func (.func f) fs.toArray cs.toArray→C.T.dd f=true→e=.val .un→GoesD P E.D ⟨d,.defer ⟨.value fx,#[],ats⟩,ty,pos,af,g⟩ a w fun a' w'=>Rel E C.n (σ.apply e d) a' w':=by
    intro f fs cs hev hdd he;subst he;obtain ⟨hent,hc⟩:=hT.dd f hdd;have hh:Harm P { target:=.fn (.func f) cs.toArray,args:=fs.toArray }:=⟨f,cs.toArray,rfl,hent,hc⟩
    refine .inr ⟨{ target:=.fn (.func f) cs.toArray,args:=fs.toArray },?_,by rw [hE]; exact hh,?_⟩
    ·simp [execOp,resolve,hev,Deferred.ofValue]
    ·have h':Rel' E C.n ρ F σ { a with defers:={ target:=.fn (.func f) cs.toArray,args:=fs.toArray } :: a.defers } w:=⟨h.size,fun d hd=>by
      rcases List.mem_cons.1 hd with rfl | hd
      ·rw [hE]; exact hh
      ·exact h.defers d hd,h.slots,h.mem⟩
     exact ⟨ρ,F,h'.val (x:=.un) (Grow.refl w) (fun _ h=>h) (fun _ h=>.inl h) trivial hd⟩
   cases x with
   | v p =>
    cases p with
    | f fn first cap =>
     simp only at he1;obtain ⟨hdd,he⟩:=qQ he1;obtain ⟨v,v1,v2,v3⟩:=jY h hy;cases v2 with
     | f _ _ _ fs cs hl hm hf hc=>exact key fn fs cs (uU h v1) hdd (by injection he with he; exact he.symm)
    | _=>simp only at he1; cases he1
   | g fn first cap =>
    simp only at he1;obtain ⟨hdd,he⟩:=qQ he1;obtain ⟨v,v1,v2,v3⟩:=jY h hy;obtain ⟨fs,cs,rfl,hf,hc⟩:=v2;exact key fn fs cs (uU h v1) hdd (by injection he with he; exact he.symm)
   | _=>simp only at he1; cases he1
 | _=>simp only [zU] at he; cases he
theorem sim_all {ops:Array Oper} (hT:TabOk P C.T) (hE:E.D=Harm P) (hA:SndA P C.cA) (hB:SndB P C.T C.cB):Sim P E C ops:=by
 intro o σ r a w hs hr;obtain ⟨ρ,F,h⟩:=hr;unfold qJU at hs;simp only [vQQ] at hs;obtain ⟨gb,hg,hs⟩:=hs;have hw:=guard_wanted h hg;obtain ⟨hd,hs⟩:=qQ hs;cases gb with
 | true =>
  rw [if_pos hw];simp only [vYV,vQQ] at hs;obtain ⟨vs,hvs,e,he,hs⟩:=hs;obtain ⟨hn,hs⟩:=qQ hs;cases hs;have hn':∀ i ∈ e.nw,qJC σ.M i:=fun i hi=>zKV (List.all_eq_true.1 hn i hi)
  obtain ⟨d,op,ty,pos,af,g⟩:=o;by_cases hdf:∃ c,op=.defer c
  ·obtain ⟨c,rfl⟩:=hdf;exact ok_defer hT hE h hd hvs he
  ·exact .inl (step_ok hT hA hB h hd hvs he hn' (fun c hc=>hdf ⟨c,hc⟩))
 | false =>
  rw [if_neg (by rw [hw]; simp)];simp only [vYG,vQZ] at hs;subst hs;exact ⟨ρ,F,h.val (x:=.v (.t [])) (Grow.refl w) (fun _ h=>h) (fun _ h=>.inl h) (RP.t [] [] rfl fun i p v hp=>by simp at hp) hd⟩
end
end Go.Rx
namespace Go.Rx
open Go.RowKit Go.Sx
section
variable {P:Program} {E:Env} {n:Nat} {C:Cx} {ρ:Own} {F:Nat→Prop} {σ:St} {a:Act} {w:World}
theorem put_same {t:Nat} {v:Value} (h:a.tmps[t]? = some v):a.put (some t) v=a:=by
 have:a.tmps.setIfInBounds t v=a.tmps:=by
  refine Array.ext_getElem? fun i => ?_
  rw [Array.getElem?_setIfInBounds];split
  ·rename_i e;subst e;have hl:=(Array.getElem?_eq_some_iff.1 h).1;rw [if_pos hl,h]
  ·rfl
 simp [Act.put,this]
theorem dst_of (h:Rel' E n ρ F σ a w) {t:Nat} {v:Value} (hv:a.tmps[t]? = some v):dstB n (some t)=true:=by
 have hl:=(Array.getElem?_eq_some_iff.1 hv).1;rw [h.size] at hl
 simpa [dstB] using hl
theorem Rel'.tell (h:Rel' E n ρ F σ a w) {t:Nat} (ht:qQY σ.S t=some .nl):Rel' E n ρ F (σ.apply (.val (.v (.l []))) (some t)) a w:=by
 obtain ⟨v,hv,hr⟩:=h.slots t _ ht;have hr':v=.slice none 0 0:=hr;subst hr'
 have:=h.val (Grow.refl w) (fun _ h=>h) (fun _ h=>.inl h) (x:=.v (.l [])) (v:=.slice none 0 0) (RP.l0 _ _) (dst_of h hv)
 rwa [put_same hv] at this
theorem zQG:∀ (l:List Nat) {σ:St},Rel E C.n σ a w→Rel E C.n (frzL l σ) a w
 | [],σ,h=>h
 | t :: l,σ,h=>by
  simp only [frzL];split
  ·rename_i hx;obtain ⟨ρ,F,h⟩:=h;exact zQG l ⟨ρ,F,h.tell hx⟩
  ·rename_i id hx;split
   ·rename_i e sz rows hl;obtain ⟨ρ,F,h⟩:=h;exact zQG l ⟨_,_,h.froze [(id,rows)] (fun r hr=>by simp only [List.mem_singleton] at hr; subst hr; exact ⟨e,sz,hl⟩)⟩
   ·exact zQG l h
  ·exact zQG l h
theorem zJL:∀ (l:List (Nat × Nat × Nat × Nat)) {σ:St},Rel E C.n σ a w→Rel E C.n (ownL l σ) a w
 | [],σ,h=>h
 | (t,id,e,sz) :: l,σ,h=>by
  simp only [ownL];split
  ·rename_i hx hl;cases hz:Nat.blt 0 sz && Nat.blt id 2000000 with
   | false=>exact zJL l h
   | true =>
    rw [vQJ,Nat.blt_eq,Nat.blt_eq] at hz;obtain ⟨hz',hid⟩:=hz;obtain ⟨ρ,F,h⟩:=h;obtain ⟨v,hv,hr⟩:=h.slots t _ hx;have hr':v=.slice none 0 0:=hr;subst hr'
    have:=h.adopt (id:=id) ⟨hl,hid⟩ (ent:=.reg e sz (.l [])) (L:=.reg none 0 0 sz) (x:=.o id) (v:=.slice none 0 0) (Grow.refl w) (fun _ h=>h) (fun _ h=>.inl h) (fun b hb=>by cases hb)
     ⟨none,0,[],jU _ _ _,hz',Al.nil,(fun r hr=>by cases hr),(fun r hr=>by cases hr),⟨by simp [Rows.len],.inl (by simp [Rows.len])⟩⟩ ⟨_,_,_,_,jU _ _ _,rfl⟩ (dst_of h hv)
    rw [put_same hv] at this;exact zJL l ⟨_,_,this⟩
  ·exact zJL l h
theorem qVJ:∀ (l:List (Nat × Nat × Nat × Nat × Nat)) {σ:St},Rel E C.n σ a w→Rel E C.n (yQB l σ) a w
 | [],σ,h=>h
 | (b,k,id,e,sz) :: l,σ,h=>by
  simp only [yQB];split
  ·rename_i cells hb hl;split
   ·rename_i hc;cases hz:Nat.blt 0 sz && Nat.blt id 2000000 with
    | false=>exact qVJ l h
    | true =>
     rw [vQJ,Nat.blt_eq,Nat.blt_eq] at hz;obtain ⟨hz',hid⟩:=hz;rw [vYV];refine qVJ l ?_;obtain ⟨ρ,F,h⟩:=h;have hnone:ρ id=none:=h.mem.fresh ⟨hl,hid⟩;have hne:b ≠ id:=fun e=>by rw [e,hl] at hb; cases hb
     have old:∀ k L',ρ k=some L'→updO ρ id (.reg none 0 0 sz) k=some L':=fun k L' hk=>by
      rw [qYG (fun e=>by subst e; rw [hnone] at hk; cases hk)]; exact hk
     have inv:∀ k L',updO ρ id (.reg none 0 0 sz) k=some L'→(k=id∧L'=.reg none 0 0 sz) ∨ (k ≠ id∧ρ k=some L'):=fun k L' hk=>by
      by_cases e:k=id
      ·subst e; rw [jU] at hk; cases hk; exact .inl ⟨rfl,rfl⟩
      ·rw [qYG e] at hk; exact .inr ⟨e,hk⟩
     have hF:∀ k,F k→F k∧w.heap[k]? = w.heap[k]?:=fun k hk=>⟨hk,rfl⟩
     have ht:Turns [] ρ (updO ρ id (.reg none 0 0 sz)) F F w w:=⟨fun k b hk=>old k _ hk,fun k L' hk _ _=>old k _ hk,fun k j a' c' kk s _ hk _ _=>old _ _ hk,fun k rows a' c' kk sz _ hs=>by simp [jZ] at hs,hF⟩
     refine ⟨updO ρ id (.reg none 0 0 sz),F,h.size,h.defers,fun t x hx => ?_,⟨fun k y hk => ?_,fun k L hk hi => ?_,fun k y hk => ?_,fun k L hk hi => ?_,fun k k' L L' b' h1 h2 h3 h4 => ?_,fun k L b' hk hb' => ?_,h.mem.fz,h.mem.fz0,h.mem.grow,fun b' hb' => ?_,fun b' hb' => ?_⟩⟩
     ·obtain ⟨v,hv,hr⟩:=h.slots t x hx;exact ⟨v,hv,hr.mono old hF⟩
     ·simp only [qKH] at hk;split at hk
      ·rename_i e1;cases hk;subst e1;exact ⟨none,0,[],jU _ _ _,hz',Al.nil,(fun r hr=>by cases hr),(fun r hr=>by cases hr),⟨by simp [Rows.len],.inl (by simp [Rows.len])⟩⟩
      ·split at hk
       ·rename_i e2;cases hk;subst e2;obtain ⟨bb,vs,ty,h1,h2,h3,h4⟩:=h.mem.ent _ _ hb;obtain ⟨v,hv,hr⟩:=h3.get hc;have hr':v=.slice none 0 0:=hr;subst hr';refine ⟨bb,vs,ty,old _ _ h1,h2,?_,h4⟩;have h5:=(h3.imp (R':=RH (updO ρ id (.reg none 0 0 sz)) F w) fun x v _ hx=>hx.mono old hF).set (x:=.o id) (y:=.slice none 0 0) ⟨none,0,0,sz,jU _ _ _,rfl⟩ k;have e3:vs.set k (.slice none 0 0)=vs:=by
         refine List.ext_getElem? fun i => ?_
         rw [List.getElem?_set];split
         ·rename_i e4;subst e4;have hlt:=(List.getElem?_eq_some_iff.1 hv).1;rw [if_pos hlt,hv]
         ·rfl
        rw [e3] at h5;exact h5
       ·have:=(h.mem.ent k y hk).sub ht (by simp [jZ]) (by simp [jZ]) (fun _ _ _ _=>rfl) (fun _ _ _ _ _=>rfl)
        rw [Ent.sub_nil] at this;exact this
     ·simp only [qKH];rcases inv k L hk with ⟨rfl,_⟩ | ⟨h1,h2⟩
      ·exact ⟨_,if_pos rfl⟩
      ·obtain ⟨y,hy⟩:=h.mem.dom k L h2 hi;rw [if_neg (Ne.symm h1)];split
       ·exact ⟨_,rfl⟩
       ·exact ⟨y,hy⟩
     ·simp only [qKH] at hk;split at hk
      ·rename_i e1; rw [← e1]; exact hid
      ·split at hk
       ·rename_i e2; rw [← e2]; exact h.mem.ord _ _ hb
       ·exact h.mem.ord k y hk
     ·rcases inv k L hk with ⟨rfl,rfl⟩ | ⟨_,h2⟩
      ·cases hi
      ·exact h.mem.inr k L h2 hi
     ·rcases inv k L h1 with ⟨rfl,rfl⟩ | ⟨a1,a2⟩
      ·cases h3
      ·rcases inv k' L' h2 with ⟨rfl,rfl⟩ | ⟨b1,b2⟩
       ·cases h4
       ·exact h.mem.apart k k' L L' b' a2 b2 h3 h4
     ·rcases inv k L hk with ⟨rfl,rfl⟩ | ⟨a1,a2⟩
      ·cases hb'
      ·exact h.mem.off k L b' a2 hb'
     ·exact (h.mem.pin b' hb').imp (old _ _) fun h=>h
     ·exact ⟨old _ _ (h.mem.rd b' hb').1,(h.mem.rd b' hb').2⟩
   ·exact qVJ l h
  ·exact qVJ l h
def inI (ids:List Nat) (i:Nat):Bool:=ids.any (Nat.beq i)
theorem inI_iff {ids:List Nat} {i:Nat}:inI ids i=true ↔ i ∈ ids:=by
 simp only [inI,List.any_eq_true];constructor
 ·rintro ⟨x,hx,he⟩; rw [vQX he]; exact hx
 ·intro h; exact ⟨i,h,Nat.beq_refl i⟩
def inK (ids:List Nat) (id:Nat):Prop:=id ∈ ids ∨ ∃ k j,id=nid k j∧k ∈ ids
noncomputable def zGZ (ids:List Nat) (ρ:Own):Own:=fun id => @ite _ (inK ids id) (vYJ _) (ρ id) none
theorem qZB {ids:List Nat} {id:Nat} (h:id ∈ ids):zGZ ids ρ id=ρ id:=by
 unfold zGZ; rw [if_pos (.inl h)]
theorem zGQ {ids:List Nat} {id:Nat} (h:id ∈ ids) (j:Nat):zGZ ids ρ (nid id j)=ρ (nid id j):=by
 unfold zGZ; rw [if_pos (.inr ⟨id,j,rfl,h⟩)]
theorem qUI {ids:List Nat} {id:Nat} {L:Loc} (h:zGZ ids ρ id=some L):inK ids id∧ρ id=some L:=by
 unfold zGZ at h;split at h
 ·rename_i hm; exact ⟨hm,h⟩
 ·cases h
theorem only_rel {ids:List Nat} {x:HV} {v:Value} (h:RH ρ F w x v):RH (zGZ ids ρ) F w (x.only ids) v:=by
 unfold HV.only;cases hc:x.every.all (fun i=>ids.any (Nat.beq i)) with
 | false=>trivial
 | true =>
  have hin:∀ i ∈ x.every,i ∈ ids:=fun i hi=>inI_iff.1 (List.all_eq_true.1 hc i hi)
  simp only [vYV];cases x with
  | v x=>exact h
  | nl=>exact h
  | un=>trivial
  | o id =>
   obtain ⟨ad,c,k,sz,h1,h2⟩:=h;exact ⟨ad,c,k,sz,by rw [qZB (hin id (by simp [HV.every]))]; exact h1,h2⟩
  | p id off =>
   obtain ⟨b,h1,h2⟩:=h;exact ⟨b,by rw [qZB (hin id (by simp [HV.every]))]; exact h1,h2⟩
  | q id j off =>
   obtain ⟨b,c,k,sz,h1,h2⟩:=h;exact ⟨b,c,k,sz,by rw [qZB (hin id (by simp [HV.every]))]; exact h1,h2⟩
  | g fn first cap =>
   obtain ⟨fs,cs,h1,h2,h3⟩:=h;refine ⟨fs,cs,h1,h2,h3.imp fun c v hm hr => ?_⟩;cases c with
   | v x=>exact hr
   | p id off =>
    obtain ⟨b,h4,h5⟩:=hr;exact ⟨b,by rw [qZB (hin id (mem_catL.2 ⟨_,hm,by simp [Cap.every]⟩))]; exact h4,h5⟩
  | m id j =>
   obtain ⟨ad,c,k,sz,⟨h1,h2⟩,h3,a0,c0,k0,s0,h4,h5⟩:=h;have hi:=hin id (by simp [HV.every]);exact ⟨ad,c,k,sz,⟨by rw [zGQ hi]; exact h1,h2⟩,h3,a0,c0,k0,s0,by rw [qZB hi]; exact h4,h5⟩
  | mp id j =>
   obtain ⟨ad,c,k,sz,⟨h1,h2⟩,h3,a0,c0,k0,s0,h4,h5⟩:=h;have hi:=hin id (by simp [HV.every]);exact ⟨ad,c,k,sz,⟨by rw [zGQ hi]; exact h1,h2⟩,h3,a0,c0,k0,s0,by rw [qZB hi]; exact h4,h5⟩
  | ag cs =>
   obtain ⟨vs,h1,h2,h3⟩:=h;refine ⟨vs,h1,h2.imp fun c v hm hr => ?_,h3⟩;cases c with
   | o id =>
    obtain ⟨ad,c,k,sz,h4,h5⟩:=hr;exact ⟨ad,c,k,sz,by rw [qZB (hin id (mem_catL.2 ⟨_,hm,by simp [HC.ids]⟩))]; exact h4,h5⟩
   | v x=>exact hr
   | nl=>exact hr
   | un=>trivial
theorem only_ent {ids:List Nat} {id:Nat} {e:Ent} (hid:id ∈ ids) (h:EntOk ρ F w id e):EntOk (zGZ ids ρ) F w id (e.only ids):=by
 cases e with
 | blk cells =>
  obtain ⟨b,vs,ty,h1,h2,h3,h4⟩:=h;exact ⟨b,vs,ty,by rw [qZB hid]; exact h1,h2,Al.map_left (h3.imp fun _ _ _ h=>only_rel h),h4⟩
 | reg e sz rows =>
  obtain ⟨ad,c,vr,h1,h2⟩:=h;exact ⟨ad,c,vr,by rw [qZB hid]; exact h1,h2⟩
 | itr s pos =>
  obtain ⟨b,h1,h2⟩:=h;exact ⟨b,by rw [qZB hid]; exact h1,h2⟩
 | nst e ie isz rows pd =>
  obtain ⟨a,c,H,h1,h2,h3,h4,h5,h6⟩:=h;refine ⟨a,c,H,by rw [qZB hid]; exact h1,h2,h3,h4,h5,fun v hv => ?_⟩;obtain ⟨r,av,cv,vr,q1,q2,q3⟩:=h6 v hv;exact ⟨r,av,cv,vr,q1,by rw [zGQ hid]; exact q2,q3⟩
theorem keepI_look {M:Mem} {ids:List Nat} {i:Nat} {x:Ent} (h:zG (yYI M ids) i=some x):i ∈ ids∧zG M i=some x:=by
 induction ids with
 | nil=>cases h
 | cons t ts ih =>
  simp only [yYI] at h;split at h
  ·rename_i y hy;by_cases e:t=i
   ·subst e;simp only [zG,Nat.beq_refl,vYV,vQZ] at h;subst h;exact ⟨vZQ,hy⟩
   ·simp only [zG,qQW e,vYG] at h;exact ⟨vQH _ (ih h).1,(ih h).2⟩
  ·exact ⟨vQH _ (ih h).1,(ih h).2⟩
theorem keepI_mem {M:Mem} {ids:List Nat} {i:Nat} {x:Ent} (hm:i ∈ ids) (h:zG M i=some x):zG (yYI M ids) i=some x:=by
 induction ids with
 | nil=>cases hm
 | cons t ts ih =>
  simp only [yYI];by_cases e:t=i
  ·subst e; rw [h]; simp [zG]
  ·have hm':i ∈ ts:=by
    rcases List.mem_cons.1 hm with h | h
    ·exact absurd h.symm e
    ·exact h
   split
   ·simp only [zG,qQW e,vYG]; exact ih hm'
   ·exact ih hm'
theorem keepL_look {ts:List Nat} {t:Nat} {x:HV} (h:qQY (yWK σ ts) t=some x):qQY σ.S t=some x:=by
 induction ts with
 | nil=>cases h
 | cons u ts ih =>
  simp only [yWK] at h;split at h
  ·rename_i y hy;by_cases e:u=t
   ·subst e;rw [lookS_same] at h; cases h; exact hy
   ·rw [zGF e] at h; exact ih h
  ·exact ih h
theorem zHK:∀ (l:List (Nat × List PV)) {S:List (Nat × HV)} {M:Mem},Rel E C.n ⟨S,M⟩ a w→Rel E C.n ⟨S,funL l M⟩ a w
 | [],S,M,h=>h
 | (id,z) :: l,S,M,h=>by
  simp only [funL];split
  ·rename_i e sz rows hl;refine zHK l ?_;obtain ⟨ρ,F,h⟩:=h;refine ⟨ρ,F,h.size,h.defers,h.slots,⟨fun i x hx => ?_,fun i L hL hi => ?_,fun i x hx => ?_,h.mem.inr,h.mem.apart,h.mem.off,h.mem.fz,h.mem.fz0,h.mem.grow,h.mem.pin,h.mem.rd⟩⟩
   ·rw [qKH] at hx;split at hx
    ·rename_i e1;cases hx;subst e1;obtain ⟨ad,c,vr,h1,h2,h3,h4,h5,h6⟩:=h.mem.ent id _ hl;have el:(rows.toF z).len=rows.len:=by rw [← Rows.len_L,Rows.toF_L,Rows.len_L]
     exact ⟨ad,c,vr,by rw [el]; exact h1,h2,by rw [Rows.toF_L]; exact h3,by rw [Rows.toF_L]; exact h4,h5,by rw [el]; exact h6⟩
    ·exact h.mem.ent i x hx
   ·obtain ⟨x,hx⟩:=h.mem.dom i L hL hi;show ∃ e,zG (putM id _ M) i=some e;rw [qKH];split
    ·exact ⟨_,rfl⟩
    ·exact ⟨x,hx⟩
   ·rw [qKH] at hx;split at hx
    ·rename_i e1; rw [← e1]; exact h.mem.ord id _ hl
    ·exact h.mem.ord i x hx
  ·exact zHK l h
theorem zUG {hi:Hint} (h:Rel E C.n σ a w):Rel E C.n (qYD hi σ) a w:=by
 have h1:=qVJ (C:=C) hi.ownB (zJL (C:=C) hi.own (zQG (C:=C) hi.frz h));unfold qYD;generalize yQB hi.ownB (ownL hi.own (frzL hi.frz σ))=τ at h1;refine zHK (C:=C) hi.fun_ ?_;obtain ⟨ρ,F,h⟩:=h1;refine ⟨zGZ (pid :: pid2 :: hi.ids) ρ,F,h.size,h.defers,fun t x hx => ?_,⟨fun id e hl => ?_,fun id L hL hi => ?_,fun id e hl => ?_,fun id L hL hi=>h.mem.inr id L (qUI hL).2 hi,fun id id' L L' b h1 h2 => ?_,fun id L b hL hb => ?_,h.mem.fz,h.mem.fz0,h.mem.grow,fun b hb => ?_,fun b hb => ?_⟩⟩
 ·simp only [lookS_map,vZW] at hx;obtain ⟨y,hy,rfl⟩:=hx;obtain ⟨v,hv,hr⟩:=h.slots t y (keepL_look hy);exact ⟨v,hv,only_rel hr⟩
 ·simp only [zQJ,vZW] at hl;obtain ⟨y,hy,rfl⟩:=hl;obtain ⟨k1,k2⟩:=keepI_look hy;exact only_ent k1 (h.mem.ent id y k2)
 ·obtain ⟨k1,k2⟩:=qUI hL;obtain ⟨e,he⟩:=h.mem.dom id L k2 hi;have hlt:=h.mem.ord id e he;rcases k1 with k1 | ⟨k,j,rfl,_⟩
  ·exact ⟨_,by simp only [zQJ]; rw [keepI_mem k1 he]; rfl⟩
  ·have:=qKG k j; omega
 ·simp only [zQJ,vZW] at hl;obtain ⟨y,hy,rfl⟩:=hl;exact h.mem.ord id y (keepI_look hy).2
 ·exact h.mem.apart id id' L L' b (qUI h1).2 (qUI h2).2
 ·exact h.mem.off id L b (qUI hL).2 hb
 ·rw [qZB vZQ]; exact h.mem.pin b hb
 ·rw [qZB (vQH _ vZQ)]; exact h.mem.rd b hb
noncomputable def unnρ (id:Nat) (ρ:Own):Own:=fun k => @ite _ (∃ j,k=nid id j) (vYJ _) none (ρ k)
theorem yZC {id k:Nat} (h:∀ j,k ≠ nid id j):unnρ id ρ k=ρ k:=by unfold unnρ; rw [if_neg fun ⟨j,e⟩=>h j e]
theorem unnρ_in (id j:Nat):unnρ id ρ (nid id j)=none:=by unfold unnρ; rw [if_pos ⟨j,rfl⟩]
theorem qWE {id k:Nat} {L:Loc} (h:unnρ id ρ k=some L):(∀ j,k ≠ nid id j)∧ρ k=some L:=by
 by_cases hc:∃ j,k=nid id j
 ·obtain ⟨j,rfl⟩:=hc; rw [unnρ_in] at h; cases h
 ·have h2:∀ j,k ≠ nid id j:=fun j e=>hc ⟨j,e⟩
  rw [yZC h2] at h; exact ⟨h2,h⟩
theorem NR.rows_len (rows:NR):rows.rows.len=rows.len:=by cases rows <;> simp [NR.rows,NR.len,Rows.len]
theorem NR.rows_L (rows:NR) (v:Nat):rows.rows.L[v]? = if v < rows.len then (rows.at v).map fun r=>[r.pv] else none:=by
 cases rows with
 | l rows =>
  show (rows.map fun r=>[r.pv])[v]? = _;rw [vZY];by_cases hv:v < rows.length
  ·rw [if_pos (by exact hv)]; rfl
  ·rw [if_neg (by exact hv),List.getElem?_eq_none (by omega)]; rfl
 | fo n f =>
  show ((List.range n).map fun v=>[(f v).pv])[v]? = _;by_cases hv:v < n
  ·rw [qQD _ hv,if_pos (by exact hv)]; rfl
  ·rw [List.getElem?_eq_none (by simp; omega),if_neg (by exact hv)]
theorem Rel'.unn (h:Rel' E n ρ F σ a w) {id e ie isz:Nat} {rows:NR} (hl:zG σ.M id=some (.nst e ie isz rows none)) :
  Rel' E n (unnρ id ρ) (fun k=>F k ∨ ∃ j L,ρ (nid id j)=some L∧L.bl=some k) (σ.apply ⟨[(id,some (.reg e 1 rows.rows))],[(mid id,none)],.un,[]⟩ none) a w:=by
 have hlt:=h.mem.ord id _ hl;have old:∀ k L1,ρ k=some L1→L1.inner=false→unnρ id ρ k=some L1:=fun k L1 hk hi=>by
  rw [yZC fun j e=>by have h1:=h.mem.lt hk hi; have h2:=qKG id j; omega]; exact hk
 obtain ⟨a0,c0,H,q1,q2,q3,q4,_,q6⟩:=h.mem.ent id _ hl;have hrel:=h.apply2 (ρ':=unnρ id ρ) (F':=fun k=>F k ∨ ∃ j L,ρ (nid id j)=some L∧L.bl=some k) (w':=w) ⟨[(id,some (.reg e 1 rows.rows))],[(mid id,none)],.un,[]⟩ none undef (fun d e=>by cases e)
  ⟨fun k b hk=>old k _ hk rfl,fun k L' hk _ hi=>old k L' hk hi,fun k i a' c' kk s hk2 hk _ hs2 => ?_,fun k rows a' c' kk sz _ hs=>(by simp only [qZQ] at hs; split at hs <;> cases hs),fun k hk=>⟨.inl hk,rfl⟩⟩ trivial
  (fun _ _ _ _ _ _ _=>rfl) (fun k hk _ => ?_) (fun k hk hu => ?_) (fun k y hu => ?_) (fun k L' _ hL _=>(qWE hL).2) (fun k y hu => ?_) (fun k L' hL hi=>h.mem.inr k L' (qWE hL).2 hi) (fun k k' L1 L2 b' h1 h2=>h.mem.apart k k' L1 L2 b' (qWE h1).2 (qWE h2).2) (fun k L' b' hk hb' => ?_) (fun k hk => ?_) h.mem.grow (fun b hb=>zWX (zZI q1 hb))
 ·rwa [put_none] at hrel
 ·have hne:k ≠ id:=fun e=>by subst e; simp [qZQ] at hs2
  rw [yZC fun j e=>hne (zXW hk2 hlt e).1]; exact hk
 ·simp only [qZQ]; rw [if_neg (by unfold mid; omega)]
 ·simp only [kW] at hu;simp only [qZQ];split at hu
  ·cases hu
  ·rename_i hne; rw [if_neg (by unfold mid; omega)]
 ·simp only [kW] at hu;split at hu
  ·rename_i e; rw [← e]; exact hlt
  ·cases hu
 ·simp only [kW] at hu;split at hu
  ·rename_i he;cases hu;subst he;refine ⟨a0,c0,(List.range rows.len).map fun v=>[H v],by rw [NR.rows_len]; exact old id _ q1 rfl,Nat.zero_lt_one,⟨?_,fun v x y hx hy => ?_⟩,fun x hx => ?_,fun x hx u hu => ?_,?_⟩
   ·rw [Rows.len_L,NR.rows_len]; simp
   ·rw [NR.rows_L] at hx;split at hx
    ·rename_i hv;rw [vZY,List.getElem?_range hv] at hy;cases hy;obtain ⟨r,av,cv,vr,p1,p2,p3,p4,p5,p6,p7⟩:=q6 v hv;have p1':rows.at v=some r:=p1;rw [p1'] at hx;cases hx;refine Al.cons ?_ Al.nil;have hv2:H v=.slice av r.len cv:=p3 (fun r' hr'=>by cases hr');rw [hv2];exact (uW (ρ:=fun i=>if i=0 then some (.reg av cv r.len isz) else none) (id:=0) (e:=ie) (sz:=isz) (F:=F) ⟨av,cv,vr,by simp,q2.2,p4,p5,p6,p7⟩ (fun k hk=>.inl hk) (fun L b hL hbl=>by simp at hL; subst hL; exact .inr ⟨v,_,p2,hbl⟩) av cv r.len isz (by simp)).1
    ·cases hx
   ·obtain ⟨v,hv⟩:=List.mem_iff_getElem?.1 hx;rw [NR.rows_L] at hv;split at hv
    ·cases hr:rows.at v with
     | none=>rw [hr] at hv; cases hv
     | some r=>rw [hr] at hv; cases hv; rfl
    ·cases hv
   ·obtain ⟨v,hv,rfl⟩:=List.mem_map.1 hx;simp only [List.mem_singleton] at hu;subst hu;exact q4 v (List.mem_range.1 hv)
   ·rw [NR.rows_len,flat_one]; exact q3
  ·cases hu
 ·obtain ⟨h1,h2⟩:=qWE hk
  have:=h.mem.off k L' b' h2 hb'
  refine ⟨fun hf => ?_,this.2⟩;rcases hf with hf | ⟨j,L,hL,hb⟩
  ·exact this.1 hf
  ·exact h1 j (h.mem.apart k (nid id j) L' L b' h2 hL hb' hb)
 ·rcases hk with hk | ⟨j,L,hL,hb⟩
  ·exact h.mem.fz k hk
  ·have:=(h.mem.off _ L k hL hb).2; exact ⟨this.1,.inr this.2⟩
theorem zVK:∀ (l:List Nat) {σ:St},Rel E C.n σ a w→Rel E C.n (unnL l σ) a w
 | [],σ,h=>h
 | id :: l,σ,h=>by
  simp only [unnL];split
  ·rename_i e ie isz rows hl;obtain ⟨ρ,F,h⟩:=h;exact zVK l ⟨_,_,h.unn hl⟩
  ·exact zVK l h
def exOf:Ex→Exit
 | .normal=>.normal
 | .exit id=>.exit id
 | .ret=>.ret
theorem pruneX_rel {hi:Hint} (h:Rel E C.n σ a w):Rel E C.n (qYX hi σ) a w:=by
 unfold qYX;split
 ·exact h
 ·exact zUG (zVK (C:=C) _ h)
theorem preR_rel {id:Nat} (h:Rel E C.n σ a w):Rel E C.n (preR C id σ) a w:=by
 unfold preR; split
 ·exact h
 ·exact zUG h
theorem runC_sound {N:Nat} {r:Ret × Mem} (hT:TabOk P C.T) (hE:E.D=Harm P) (hA:SndA P C.cA) (hB:SndB P C.T C.cB) (hm:P.follows .mixedOrders=true):∀ (c:Code) (K:Ex→St→Option (Ret × Mem)) (σ:St) (a:Act) (w:World) (Q:Exit→Act→World→Prop),runC N C c K σ=some r→Rel E C.n σ a w →
  (∀ e τ a w,K e τ=some r→Rel E C.n τ a w→Q (exOf e) a w)→c.wp P Q a w:=by
 intro c;induction c with
 | skip=>intro K σ a w Q h hr hK; exact wp_skip (hK .normal σ a w h hr)
 | label l=>intro K σ a w Q h hr hK; exact wp_label (hK .normal σ a w h hr)
 | scope x ih =>
  intro K σ a w Q h hr hK;exact wp_scope_straight (ih K σ a w _ h hr fun e τ a w hk hr'=>by cases e <;> exact hK _ τ a w hk hr')
 | ret=>intro K σ a w Q h hr hK; exact wp_ret (hK .ret σ a w h hr)
 | exit id=>intro K σ a w Q h hr hK; exact wp_exit (hK (.exit id) σ a w h hr)
 | region id ops d =>
  intro K σ a w Q h hr hK;have hr:=preR_rel (id:=id) hr;cases d with
  | true =>
   simp only [runC,preK_eq,vYV] at h;exact wp_draw hm (sim_all hT hE hA hB) h hr (fun h=>h.grow (Grow.drew (Grow.refl _))) fun τ a w hk hr=>hK .normal τ a w hk hr
  | false =>
   simp only [runC,preK_eq,vYG] at h;exact wp_region_list (yZG (sim_all hT hE hA hB) (fun τ a w hk hr=>hK .normal τ a w hk hr) _ _ _ _ h hr)
 | seq x y ihx ihy =>
  intro K σ a w Q h hr hK;refine wp_seq (ihx _ σ a w _ h hr fun e τ a' w' hk hr' => ?_);cases e with
  | normal=>exact ihy K τ a' w' Q hk hr' hK
  | exit id=>exact hK (.exit id) τ a' w' hk hr'
  | ret=>exact hK .ret τ a' w' hk hr'
 | cond c x y ihx ihy =>
  intro K σ a w Q h hr hK;simp only [runC,vQQ] at h;obtain ⟨v,hv,h⟩:=h;have hr0:=hr;obtain ⟨ρ,F,hr'⟩:=hr;obtain ⟨u,u1,u2,u3⟩:=jY hr' hv;split at h
  ·rename_i t
   have:=qUB u2
   subst this;refine wp_cond (t:=t) (uU hr' u1) ?_;cases t with
   | true=>exact ihx K σ a w Q h hr0 hK
   | false=>exact ihy K σ a w Q h hr0 hK
  ·cases h
 | block id x ih =>
  intro K σ a w Q h hr hK;refine wp_block (ih _ σ a w _ h hr fun e τ a' w' hk hr' => ?_);cases e with
  | normal=>exact hK .normal τ a' w' hk hr'
  | ret=>exact hK .ret τ a' w' hk hr'
  | exit id' =>
   simp only at hk;by_cases e:id'=id
   ·subst e;rw [Nat.beq_refl] at hk
    simpa [exOf,Exit.inBlock] using hK .normal τ a' w' hk hr'
   ·rw [qQW e] at hk
    simpa [exOf,Exit.inBlock,e] using hK (.exit id') τ a' w' hk hr'
 | loop x ih =>
  intro K σ a w Q h hr hK;simp only [runC] at h;have key:∀ M σ a w,zQY (fun again σ=>runC N C x (fun e σ=>match e with
   | .normal=>again σ
   | e=>K e (qYX (C.T.hint C.me (yQ x)) σ)) (qYD (C.T.hint C.me (yQ x)) σ)) M σ=some r→Rel E C.n σ a w→Code.rounds P x Q M a w:=by
   intro M;induction M with
   | zero=>intro σ a w h; cases h
   | succ M ihM =>
    intro σ a w h hr;rw [rounds_succ];refine ih _ _ a w _ h (zUG hr) fun e τ a' w' hk hr' => ?_
    cases e with
    | normal=>exact ihM τ a' w' hk hr'
    | exit id=>exact hK (.exit id) _ a' w' hk (pruneX_rel hr')
    | ret=>exact hK .ret _ a' w' hk (pruneX_rel hr')
  exact wp_loop_rounds N (key N σ a w h hr)
 | _=>intro K σ a w Q h; simp only [runC] at h; cases h
end
end Go.Rx
namespace Go.Rx
open Go.RowKit Go.Sx
section
variable {P:Program} {E:Env} {T:Tab} {ρ:Own} {F:Nat→Prop} {σ:St} {a:Act} {w:World}
theorem jQV {M:Mem} {cs:List CV} {ps:List PV} {us:List Value} {F':Nat→Prop} (hm:MemOk E ρ F M w) (hF:∀ k,F k→F' k) (hall:∀ id ad c k s b,ρ id=some (.reg ad c k s)→ad.map (·.block)=some b→F' b) (hcv:Al (fun c v=>RH ρ F w c.back v∧∀ id e sz rows,c=.o id e sz rows→zG M id=some (.reg e sz rows)) cs us) (hp:mapO CV.fz cs=some ps):Al (RP F' w) ps us:=by
 have h1:=jJ hp;refine ⟨by rw [← h1.1,hcv.1],fun i p v hpi hv => ?_⟩;have hil:=(List.getElem?_eq_some_iff.1 hpi).1;have hl:i < cs.length:=by rw [h1.1]; exact hil
 have hfz:=h1.2 i _ p (vQK hl) hpi;obtain ⟨hrh,ho⟩:=hcv.2 i _ v (vQK hl) hv;generalize cs[i]=c at hfz hrh ho;unfold CV.fz at hfz;split at hfz
 ·cases hfz; exact RP.mono (fun k hk=>⟨hF k hk,rfl⟩) hrh
 ·cases hfz; have:v=.slice none 0 0:=hrh; subst this; exact .l0 _ _
 ·rename_i id e' sz rows;cases hfz;obtain ⟨ad,c',k,sz',hρ,rfl⟩:=hrh;exact (uW (hm.ent id _ (ho _ _ _ _ rfl)) hF (fun L b hL hb=>by rw [hρ] at hL; cases hL; exact hall id _ _ _ _ b hρ hb) ad c' k sz' hρ).1
 ·cases hfz
def ResR (E:Env) (ρ:Own) (F:Nat→Prop) (M:Mem) (w:World) (r:RV) (v:Value):Prop :=
 (RH ρ F w r.back v∧RRes M r) ∨ (∃ p,r=.v p∧∀ F':Nat→Prop,(∀ k,F k→F' k)→(∀ id ad c k s b,ρ id=some (.reg ad c k s)→ad.map (·.block)=some b→F' b)→RP F' w p v)
theorem res_rel {n:Nat} (hT:TabOk P T) (h:Rel' E n ρ F σ a w) {x:ResultVar} {r:RV} (hx:yUK T σ x=some r):∃ v,(resF a.tmps x).run P w=.ok v w∧ResR E ρ F σ.M w r v:=by
 cases x with
 | tmp t =>
  simp only [yUK,vQQ] at hx;obtain ⟨y,hy,hr⟩:=hx;obtain ⟨v,hv,hrh⟩:=h.slots t y hy;obtain ⟨hb,hres⟩:=qXC hr;refine ⟨v,by simp [resF,Array.getD_eq_getD_getElem?,hv],.inl ⟨by rw [hb]; exact hrh,hres⟩⟩
 | cell x t =>
  simp only [yUK,vQQ] at hx;obtain ⟨y,hy,p,hp,⟨kb,k⟩,hk,hx⟩:=hx;obtain ⟨v,hv,hrh⟩:=h.slots x y hy;obtain ⟨hb,hres⟩:=qXC hp;rw [← hb] at hrh;obtain ⟨hty,hk1⟩:=hT.sz t kb k hk;cases p with
  | p id off cells =>
   obtain ⟨b,hρ,rfl⟩:=hrh;obtain ⟨hc,hlk,hcc⟩:=hres;obtain ⟨b2,us,ty',hρ2,hheap,hal,hone⟩:=h.mem.ent id _ hlk;rw [hρ] at hρ2;cases hρ2;cases kb with
   | false =>
    have hk1':=hk1 rfl;subst hk1';simp only [vYG,vQQ,vQZ] at hx;obtain ⟨c,hcs,q,hq,rfl⟩:=hx;have hcv:=qKC hcc hal;obtain ⟨u,hu,hru⟩:=hcv.get hcs;have hr:=qGL (w:=w) hheap off;rw [hu] at hr;refine ⟨u,by simp [resF,Array.getD_eq_getD_getElem?,hv,asAddr,loadVar,qUA hty,hr],.inr ⟨_,rfl,fun F' hF hall => ?_⟩⟩;exact (jQV h.mem hF hall (cs:=[c]) (us:=[u]) ⟨rfl,fun i c' u' hc' hu'=>by
     cases i with
     | zero=>simp at hc' hu'; subst hc' hu'; exact hru
     | succ i=>simp at hc'⟩ (ps:=[q]) (by simp [mapO,hq])).2 0 q u rfl rfl
   | true =>
   simp only [vYV,vQQ,vQZ] at hx;obtain ⟨cs,hcs,ps,hps,rfl⟩:=hx;obtain ⟨rfl,hle⟩:=qKJ hcs;have hcv:=qKC hcc hal;have hlen:cells.length=us.length:=hcv.1;have hr:=qJX (P:=P) (w:=w) (b:=b) (off:=off) (k:=k) (vs:=(us.drop off).take k) (fun i hi=>by
    rw [qGL hheap];simp [vZV,hi]) (by simp; omega)
   refine ⟨.agg ((us.drop off).take k).toArray,by simp [resF,Array.getD_eq_getD_getElem?,hv,asAddr,loadVar,qUA hty,qYQ hty,hr],.inr ⟨_,rfl,fun F' hF hall => ?_⟩⟩;exact qHV (jQV h.mem hF hall ((hcv.drop off).take k) hps) fun u hu=>hone u (List.mem_of_mem_drop (List.mem_of_mem_take hu))
  | _=>simp only at hx; cases hx
theorem ress_rel {n:Nat} (hT:TabOk P T) (h:Rel' E n ρ F σ a w):∀ {xs:List ResultVar} {rs:List RV},mapO (yUK T σ) xs=some rs→∃ vs,(xs.mapM (resF a.tmps)).run P w=.ok vs w∧Al (ResR E ρ F σ.M w) rs vs
 | [],rs,hx=>by simp [mapO] at hx; subst hx; exact ⟨[],by simp,Al.nil⟩
 | x :: xs,rs,hx=>by
  simp only [mapO,vQQ,vQZ] at hx;obtain ⟨r,hr,rs',hrs,rfl⟩:=hx;obtain ⟨v,h1,h2⟩:=res_rel hT h hr;obtain ⟨vs,h3,h4⟩:=ress_rel hT h hrs;exact ⟨v :: vs,by simp [List.mapM_cons,Sem.run_bind,h1,h3],Al.cons h2 h4⟩
def outF (E:Env) (ρ:Own) (F:Nat→Prop):Nat→Prop:=fun k=>F k ∨ ∃ id L,ρ id=some L∧L.bl=some k∧¬ E.W k
theorem reg_W {M:Mem} (hm:MemOk E ρ F M w) {id:Nat} {ad:Option Addr} {c k s b:Nat} (hQ:∀ k,¬ E.Q k) (h:ρ id=some (.reg ad c k s)) (hb:ad.map (·.block)=some b):¬ E.W b:=fun hw=>by
 have h1:=(hm.pin b hw).resolve_right (hQ b)
 have:=hm.apart id pid _ _ b h h1 hb rfl
 subst this;rw [h] at h1; cases h1
theorem F_W {M:Mem} (hm:MemOk E ρ F M w) {k:Nat} (h:F k):E.F0 k ∨ E.w0.heap.size≤k ∨ E.Q k:=by
 rcases (hm.fz k h).2 with h1 | h1 | h1
 ·exact .inl h1
 ·exact .inr (.inl h1)
 ·rcases hm.pin k h1 with h2 | h2
  ·exact absurd h (hm.off pid _ k h2 rfl).1
  ·exact .inr (.inr h2)
theorem zKQ {M:Mem} (hm:MemOk E ρ F M w) (hQ:∀ k,¬ E.Q k) {k:Nat} (h:outF E ρ F k):E.F0 k ∨ (E.w0.heap.size≤k∧k < w.heap.size):=by
 rcases h with h | ⟨id,L,hL,hb,hW⟩
 ·rcases F_W hm h with h1 | h1 | h1
  ·exact .inl h1
  ·exact .inr ⟨h1,(hm.fz k h).1⟩
  ·exact absurd h1 (hQ k)
 ·have:=hm.off id L k hL hb
  rcases this.2.2 with h1 | h1
  ·exact .inr ⟨h1,this.2.1⟩
  ·exact absurd h1 hW
theorem resR_fz {M:Mem} (hm:MemOk E ρ F M w) (hQ:∀ k,¬ E.Q k) {r:RV} {p:PV} {v:Value} (hr:ResR E ρ F M w r v) (hp:r.fz=some p) (hs:r.still=true ∨ ∀ k,¬ E.W k):RP (outF E ρ F) w p v:=by
 have hreg:∀ id ad c k s b,ρ id=some (.reg ad c k s)→ad.map (·.block)=some b→outF E ρ F b:=fun id ad c k s b h hb=>.inr ⟨id,_,h,hb,reg_W hm hQ h hb⟩
 rcases hr with ⟨h1,h2⟩ | ⟨p',rfl,h1⟩
 ·refine zVZ hm (fun k hk=>.inl hk) hp h1 h2 ?_;rcases hs with hs | hs
  ·refine .inl ⟨hs,fun x hx L b hL hb => ?_⟩;obtain ⟨e,sz,hl⟩:=yYZ h2 x hx;obtain ⟨ad,c,vr,hρ,_⟩:=hm.ent x.1 _ hl;rw [hL] at hρ;cases hρ;exact hreg _ _ _ _ _ b hL hb
  ·exact .inr fun id L b hL hb=>.inr ⟨id,L,hL,hb,hs b⟩
 ·cases hp; exact h1 _ (fun k hk=>.inl hk) hreg
theorem ress_fz {M:Mem} (hm:MemOk E ρ F M w) (hQ:∀ k,¬ E.Q k):∀ {rs:List RV} {ps:List PV} {vs:List Value},Al (ResR E ρ F M w) rs vs→mapO RV.fz rs=some ps→(rs.all RV.still=true ∨ ∀ k,¬ E.W k)→Al (RP (outF E ρ F) w) ps vs
 | [],ps,vs,hal,hp,_=>by cases hp; rw [hal.nil_left]; exact Al.nil
 | r :: rs,ps,vs,hal,hp,hs=>by
  simp only [mapO,vQQ,vQZ] at hp;obtain ⟨p,hp,ps',hps,rfl⟩:=hp;obtain ⟨v,vs',rfl,hr,hal'⟩:=hal.cons_left;have h1:r.still=true ∨ ∀ k,¬ E.W k:=hs.imp (fun h=>by simp only [List.all_cons,vQJ] at h; exact h.1) id;have h2:rs.all RV.still=true ∨ ∀ k,¬ E.W k:=hs.imp (fun h=>by simp only [List.all_cons,vQJ] at h; exact h.2) id;exact Al.cons (resR_fz hm hQ hr hp h1) (ress_fz hm hQ hal' hps h2)
theorem ret_o {M:Mem} (hm:MemOk E ρ F M w) (hQ:∀ k,¬ E.Q k) {id e sz:Nat} {rows:Rows} {v:Value} (hr:ResR E ρ F M w (.o id e sz rows) v):RRet F E.w0 w (.ow e sz rows) v:=by
 rcases hr with ⟨h1,h2⟩ | ⟨p,hp,_⟩
 ·obtain ⟨ad,c,k,sz',hρ,rfl⟩:=h1;obtain ⟨ad2,c2,vr,hρ2,h0,hal,hrl,hone,hown⟩:=hm.ent id _ h2;rw [hρ] at hρ2;cases hρ2;refine ⟨ad,c,vr,rfl,h0,hal,hrl,hone,hown,fun b hb => ?_⟩
  have:=hm.off id _ b hρ hb
  refine ⟨this.1,?_,this.2.1⟩;rcases this.2.2 with h | h
  ·exact h
  ·exact absurd h (reg_W hm hQ hρ hb)
 ·cases hp
def regF (ρ:Own) (F:Nat→Prop):Nat→Prop:=fun k=>F k ∨ ∃ id ad c n s,ρ id=some (.reg ad c n s)∧ad.map (·.block)=some k
theorem ret_p {M:Mem} (hm:MemOk E ρ F M w) {id:Nat} {cells:List CV} {ps:List PV} {v:Value} (hr:ResR E ρ F M w (.p id 0 cells) v) (hp:mapO CV.fz cells=some ps) (hW:∀ k,¬ E.W k):RRet (regF ρ F) E.w0 w (.pb ps) v:=by
 rcases hr with ⟨h1,h2⟩ | ⟨p,hp,_⟩
 ·obtain ⟨b,hρ,rfl⟩:=h1;obtain ⟨hc,hlk,hcc⟩:=h2;obtain ⟨b2,us,ty',hρ2,hheap,hal,hone⟩:=hm.ent id _ hlk;rw [hρ] at hρ2;cases hρ2;have hoff:=hm.off id _ b hρ rfl;refine ⟨b,us,ty',rfl,hheap,jQV hm (fun k hk=>.inl hk) (fun id ad c k s b h hb=>.inr ⟨id,ad,c,k,s,h,hb⟩) (qKC hcc hal) hp,hone,fun hf => ?_,?_,hoff.2.1⟩
  ·rcases hf with hf | ⟨id',ad,c,k,s,h,hb⟩
   ·exact hoff.1 hf
   ·have:=hm.apart id id' _ _ b hρ h rfl hb
    subst this;rw [hρ] at h; cases h
  ·exact hoff.2.2.resolve_right (hW b)
 ·cases hp
theorem valOf_eq {xs:List ResultVar} {vs:List Value} {fn:Func} (hfn:fn.results=xs.toArray) (h:(xs.mapM (resF a.tmps)).run P w=.ok vs w):(results fn a.tmps).run P w=.ok (Sx.valOf vs) w:=by
 unfold results;rw [hfn];change Sem.run P (do let us ← xs.toArray.mapM (resF a.tmps); pure (if h:us.size=1 then us[0] else .tuple us)) w=_;simp only [Sem.run_bind,List.mapM_toArray,Sem.run_map,h,Result.andThen_ok]
 match vs with
 | []=>rfl
 | [v]=>rfl
 | v :: u :: vs=>simp [Sx.valOf]
theorem ret_all {M:Mem} (hm:MemOk E ρ F M w) (hQ:∀ k,¬ E.Q k) {rs:List RV} {vs:List Value} {r:Ret} (hal:Al (ResR E ρ F M w) rs vs) (hr:zWG rs=some r) (hs:rs.all RV.still=true ∨ ∀ k,¬ E.W k) :
  ∃ F',(∀ k,F k→F' k)∧(∀ k,F' k→E.F0 k ∨ (E.w0.heap.size≤k∧k < w.heap.size))∧RRet F' E.w0 w r (Sx.valOf vs):=by
 have gen:∀ ps,mapO RV.fz rs=some ps→Al (RP (outF E ρ F) w) ps vs:=fun ps hps=>ress_fz hm hQ hal hps hs
 have tup:∀ ps,mapO RV.fz rs=some ps→Sx.valOf vs=.tuple vs.toArray→r=.v (.t ps)→∃ F',(∀ k,F k→F' k)∧(∀ k,F' k→E.F0 k ∨ (E.w0.heap.size≤k∧k < w.heap.size))∧RRet F' E.w0 w r (Sx.valOf vs):=fun ps hps hv hr=>by
  subst hr;rw [hv];exact ⟨outF E ρ F,fun k hk=>.inl hk,fun k hk=>zKQ hm hQ hk,.t ps vs (gen ps hps).1 (gen ps hps).2⟩
 have one:∀ x p v,rs=[x]→vs=[v]→x.fz=some p→r=.v p→∃ F',(∀ k,F k→F' k)∧(∀ k,F' k→E.F0 k ∨ (E.w0.heap.size≤k∧k < w.heap.size))∧RRet F' E.w0 w r (Sx.valOf vs):=fun x p v hx hv hp hr=>by
  subst hr hx hv
  have:=gen [p] (by simp [mapO,hp])
  exact ⟨outF E ρ F,fun k hk=>.inl hk,fun k hk=>zKQ hm hQ hk,this.2 0 p v rfl rfl⟩
 cases rs with
 | nil =>
  have:=hal.nil_left
  subst this;simp only [zWG,mapO,vYQ,vQZ] at hr;exact tup [] rfl rfl hr.symm
 | cons x rs =>
  obtain ⟨v,vs',rfl,hx,hal'⟩:=hal.cons_left;cases rs with
  | nil =>
   have:=hal'.nil_left
   subst this;have oth:(x.fz.bind fun y=>some (Ret.v y))=some r→∃ F',(∀ k,F k→F' k)∧(∀ k,F' k→E.F0 k ∨ (E.w0.heap.size≤k∧k < w.heap.size))∧RRet F' E.w0 w r (Sx.valOf [v]):=fun hr=>by
    simp only [vQQ,vQZ] at hr;obtain ⟨y,hy,rfl⟩:=hr;exact one x y v rfl rfl hy rfl
   cases x with
   | o id e sz rows =>
    cases hr;exact ⟨F,fun k hk=>hk,fun k hk=>by
     rcases F_W hm hk with h | h | h
     ·exact .inl h
     ·exact .inr ⟨h,(hm.fz k hk).1⟩
     ·exact absurd h (hQ k),ret_o hm hQ hx⟩
   | p id off cells =>
    cases off with
    | zero =>
     simp only [zWG,vQQ,vQZ] at hr;obtain ⟨cs,hcs,rfl⟩:=hr;have hW:∀ k,¬ E.W k:=hs.resolve_left (by simp [RV.still]);refine ⟨regF ρ F,fun k hk=>.inl hk,fun k hk => ?_,ret_p hm hx hcs hW⟩;rcases hk with hk | ⟨id',ad,c,n,s,h,hb⟩
     ·exact zKQ hm hQ (.inl hk)
     ·exact zKQ hm hQ (.inr ⟨id',_,h,hb,hW k⟩)
    | succ off=>exact oth hr
   | _=>exact oth hr
  | cons y rs =>
   obtain ⟨u,vs'',rfl,hy,hal''⟩:=hal'.cons_left;simp only [zWG,vQQ,vQZ] at hr;obtain ⟨ys,hys,rfl⟩:=hr;exact tup ys hys rfl rfl
theorem zVC {M:Mem} (hm:MemOk E ρ F M w):∀ {rs:List RV} {ps:List PV} {vs:List Value},Al (ResR E ρ F M w) rs vs→mapO RV.fz rs=some ps→Al (RP (allF ρ F) w) ps vs
 | [],ps,vs,hal,hp=>by cases hp; rw [hal.nil_left]; exact Al.nil
 | r :: rs,ps,vs,hal,hp=>by
  simp only [mapO,vQQ,vQZ] at hp;obtain ⟨p,hp,ps',hps,rfl⟩:=hp;obtain ⟨v,vs',rfl,hr,hal'⟩:=hal.cons_left;refine Al.cons ?_ (zVC hm hal' hps);rcases hr with ⟨h1,h2⟩ | ⟨p',rfl,h1⟩
  ·exact zVZ hm (fun k hk=>.inl hk) hp h1 h2 (.inr fun id L b hL hb=>.inr ⟨id,L,hL,hb⟩)
  ·cases hp; exact h1 _ (fun k hk=>.inl hk) fun id ad c k s b h hb=>.inr ⟨id,_,h,hb⟩
theorem ret_flat {M:Mem} (hm:MemOk E ρ F M w) {rs:List RV} {vs:List Value} {x:PV} (hal:Al (ResR E ρ F M w) rs vs) (hr:zWG rs=some (.v x)):RP (allF ρ F) w x (Sx.valOf vs):=by
 cases rs with
 | nil =>
  have:=hal.nil_left
  subst this;simp only [zWG,mapO,vYQ,vQZ,Ret.v.injEq] at hr;subst hr;exact .t [] [] rfl fun i p v h=>by simp at h
 | cons y rs =>
  obtain ⟨v,vs',rfl,hx,hal'⟩:=hal.cons_left;cases rs with
  | nil =>
   have:=hal'.nil_left
   subst this;have oth:(y.fz.bind fun z=>some (Ret.v z))=some (.v x)→RP (allF ρ F) w x (Sx.valOf [v]):=fun hr=>by
    simp only [vQQ,vQZ,Ret.v.injEq] at hr;obtain ⟨z,hz,rfl⟩:=hr;exact (zVC hm hal (ps:=[z]) (by simp [mapO,hz])).2 0 z v rfl rfl
   cases y with
   | o id e sz rows=>cases hr
   | p id off cells =>
    cases off with
    | zero =>
     simp only [zWG,vQQ,vQZ] at hr;obtain ⟨_,_,hr⟩:=hr; cases hr
    | succ off=>exact oth hr
   | _=>exact oth hr
  | cons z rs =>
   obtain ⟨u,vs'',rfl,hy,hal''⟩:=hal'.cons_left;simp only [zWG,vQQ,vQZ,Ret.v.injEq] at hr;obtain ⟨ys,hys,rfl⟩:=hr
   have:=zVC hm hal hys
   exact .t ys _ this.1 this.2
theorem lookS_init:∀ {hs:List HV} {k t:Nat} {x:HV},qQY (initS k hs) t=some x→k≤t∧hs[t - k]? = some x
 | [],k,t,x,h=>by cases h
 | y :: hs,k,t,x,h=>by
  simp only [initS] at h;by_cases e:k=t
  ·subst e; rw [lookS_same] at h; simpa using h
  ·rw [zGF e] at h;obtain ⟨h1,h2⟩:=lookS_init h;refine ⟨by omega,?_⟩;rw [show t - k=(t - (k + 1)) + 1 by omega]
   simpa using h2
theorem qVF {N f:Nat} {orc:Orc} {hs:List HV} {M M':Mem} {r:Ret} {vals:List Value} (hT:TabOk P T) (hm:P.follows .mixedOrders=true) (hE:E.D=Harm P) (hA:SndA P (qJB orc (runF T orc N))) (hB:SndB P T (qYE T orc (runF T orc N)))
  (h:runF T orc (N + 1) f hs M=some (r,M')):uQ P f∧∀ (hal:Al (RH ρ F w) hs vals) (hmem:MemOk E ρ F M w) (hW:M.isEmpty=true→∀ k,¬ E.W k) (hQ:(∀ k,¬ E.Q k) ∨ ∃ x,r=.v x∧x.flat=true),
   Calls P f vals.toArray w (fun e w'=>∃ v F' ρ' F1,e=.returned v∧GrowB E.W E.w0 w'∧MemOk E ρ' F1 M' w'∧(∀ k,F1 k→F' k)∧(∀ k,F' k→E.F0 k ∨ (E.w0.heap.size≤k∧k < w'.heap.size) ∨ E.Q k)∧RRet F' E.w0 w' r v):=by
 simp only [runF] at h;split at h
 ·cases h
 ·rename_i fi hfi;obtain ⟨hle,h⟩:=qQ h;obtain ⟨hent,fn,hf,hb,hn,hres⟩:=hT.fn f fi hfi;refine ⟨hent,fun hal hmem hW hQ=>calls_of_wp_defers hf hb ?_⟩;have hle':hs.length≤fi.ntmps:=vZX hle;have hl:vals.length=hs.length:=hal.1.symm;refine runC_sound (E:=E) (C:=⟨T,qJB orc (runF T orc N),qYE T orc (runF T orc N),f,fi.ntmps⟩) hT hE hA hB hm fi.body _ _ _ _ _ h ⟨ρ,F,by simp [hn]; omega,fun d hd=>by simp at hd,fun t x hx => ?_,hmem⟩ fun e τ a' w' hk hr' => ?_
  ·obtain ⟨_,h2⟩:=lookS_init hx;simp only [Nat.sub_zero] at h2;obtain ⟨v,hv,hrv⟩:=hal.get h2;have hlt:=(List.getElem?_eq_some_iff.1 hv).1;refine ⟨v,?_,hrv⟩;rw [vQK hlt] at hv;simp [Array.getElem?_append,hlt]
   simpa using hv
  ·obtain ⟨ρ',F',hr'⟩:=hr';have key:∀ rs,mapO (yUK T τ) fi.results=some rs→∀ r',zWG rs=some r'→(bif M.isEmpty || rs.all RV.still then some (r',τ.M) else none)=some (r,M')→Leaves P fn a'.tmps (fun e w'=>∃ v2 F' ρ' F1,e=.returned v2∧GrowB E.W E.w0 w'∧MemOk E ρ' F1 M' w'∧(∀ k,F1 k→F' k)∧(∀ k,F' k→E.F0 k ∨ (E.w0.heap.size≤k∧k < w'.heap.size) ∨ E.Q k)∧RRet F' E.w0 w' r v2) a'.defers .returning w':=by
    intro rs hrs r' hr2 hb2;obtain ⟨hor,hb2⟩:=qQ hb2;cases hb2;obtain ⟨vs,h1,h2⟩:=ress_rel hT hr' hrs;have hst:rs.all RV.still=true ∨ ∀ k,¬ E.W k:=by
     rcases Bool.or_eq_true _ _ ▸ hor with h | h
     ·exact .inr (hW h)
     ·exact .inl h
    rcases hQ with hQ | ⟨x,hrx,hxf⟩
    ·obtain ⟨F2,f1,f2,f3⟩:=ret_all hr'.mem hQ h2 hr2 hst;exact qGE (valOf_eq hres h1) ⟨Sx.valOf vs,F2,ρ',F',rfl,hr'.mem.grow,hr'.mem,f1,fun k hk=>(f2 k hk).imp id .inl,f3⟩ a'.defers fun d hd=>by rw [← hE]; exact hr'.defers d hd
    ·subst hrx;have f3:=(ret_flat hr'.mem h2 hr2).flat (F':=F') (w':=w') hxf;refine qGE (valOf_eq hres h1) ⟨Sx.valOf vs,F',ρ',F',rfl,hr'.mem.grow,hr'.mem,fun k hk=>hk,fun k hk => ?_,f3⟩ a'.defers fun d hd=>by rw [← hE]; exact hr'.defers d hd
     rcases F_W hr'.mem hk with h | h | h
     ·exact .inl h
     ·exact .inr (.inl ⟨h,(hr'.mem.fz k hk).1⟩)
     ·exact .inr (.inr h)
   cases e with
   | exit id=>simp only [endK] at hk; cases hk
   | normal =>
    simp only [endK,vQQ] at hk;obtain ⟨rs,hrs,r',hr2,hb2⟩:=hk;exact key rs hrs r' hr2 hb2
   | ret =>
    simp only [endK,vQQ] at hk;obtain ⟨rs,hrs,r',hr2,hb2⟩:=hk;exact key rs hrs r' hr2 hb2
theorem RRet.pv {w0:World} {r:Ret} {x:PV} {v:Value} (h:RRet F w0 w r v) (hx:yUJ r=some x):∃ F2:Nat→Prop,(∀ k,F k→F2 k)∧(∀ k,F2 k→F k ∨ (w0.heap.size≤k∧k < w.heap.size))∧RP F2 w x v:=by
 cases r with
 | v y=>cases hx; exact ⟨F,fun _ h=>h,fun _ h=>.inl h,h⟩
 | ow e sz rows =>
  cases hx;obtain ⟨ad,c,vr,rfl,h0,hal,hrl,hone,hown,hb⟩:=h;refine ⟨fun k=>F k ∨ ad.map (·.block)=some k,fun k hk=>.inl hk,fun k hk => ?_,?_⟩
  ·rcases hk with hk | hk
   ·exact .inl hk
   ·exact .inr (hb k hk).2
  ·exact (uW (ρ:=fun i=>if i=0 then some (.reg ad c rows.len sz) else none) (id:=0) (e:=e) (sz:=sz) (F:=F) ⟨ad,c,vr,by simp,h0,hal,hrl,hone,hown⟩ (fun k hk=>.inl hk) (fun L b hL hbl=>by simp at hL; subst hL; exact .inr hbl) ad c rows.len sz (by simp)).1
 | pb cells=>cases hx
def zH (P:Program) (g:Nat) (ps:List PV) (r:Ret):Prop:=uQ P g∧∀ (w:World) (F:Nat→Prop) (vals:List Value),(∀ k,F k→k < w.heap.size)→Al (RP F w) ps vals →
 Calls P g vals.toArray w (fun e w'=>∃ v F',e=.returned v∧Grow w w'∧(∀ k,F k→F' k)∧(∀ k,F' k→F k ∨ (w.heap.size≤k∧k < w'.heap.size))∧RRet F' w w' r v)
structure OrcOk (P:Program) (T:Tab) (orc:Orc):Prop where
 a:∀ g o,orc.a g=some o→∀ ps r,o ps=some r→zH P g ps r
 b:∀ g o,orc.b g=some o→∀ hs ps x ps',o hs ps=some (x,ps')→yHK P g hs ps x ps' (T.gq g) (T.gk g)
theorem fn_soundA {N f:Nat} {orc:Orc} {ps:List PV} {r:Ret} (hT:TabOk P T) (hm:P.follows .mixedOrders=true) (hA:SndA P (qJB orc (runF T orc N))) (hB:SndB P T (qYE T orc (runF T orc N)))
  (h:run T orc (N + 1) f ps=some r):zH P f ps r:=by
 simp only [run,vQQ,vQZ] at h;obtain ⟨⟨r',M'⟩,h,rfl⟩:=h;refine ⟨(qVF (E:=⟨default,fun _=>False,fun _=>False,Harm P,fun _=>False,fun _=>False⟩) (ρ:=fun _=>none) (F:=fun _=>False) (w:=default) (vals:=[]) hT hm rfl hA hB h).1,fun w F vals hF hal => ?_⟩;refine Calls.mono ((qVF (E:=⟨w,F,fun _=>False,Harm P,fun _=>False,fun _=>False⟩) (ρ:=fun _=>none) (F:=F) (w:=w) (vals:=vals) hT hm rfl hA hB h).2 (Al.map_left hal) ⟨(fun id e hl=>by cases hl),(fun id L hL=>by cases hL),(fun id e hl=>by cases hl),(fun id L hL=>by cases hL),(fun id id' L L' b h=>by cases h),(fun id L b h=>by cases h),fun k hk=>⟨hF k hk,.inl hk⟩,fun k hk=>hk,GrowB.refl _ _,fun b hb=>hb.elim,fun b hb=>hb.elim⟩ (fun _ k hk=>hk) (.inl fun _ h=>h)) ?_
 rintro e w' ⟨v,F',ρ',F1,rfl,g,hmem,f1,f2,hr⟩
 exact ⟨v,F',rfl,⟨g.os,g.tape,g.output,g.size,fun k hk=>g.block k hk (fun h=>h)⟩,fun k hk=>f1 k (hmem.fz0 k hk),fun k hk=>(f2 k hk).imp id fun h=>h.resolve_right fun h=>h,hr⟩
theorem fn_soundB {N f:Nat} {orc:Orc} {hs:List HV} {ps ps':List PV} {x:PV} (hT:TabOk P T) (hm:P.follows .mixedOrders=true) (hA:SndA P (qJB orc (runF T orc N))) (hB:SndB P T (qYE T orc (runF T orc N)))
  (hgq:T.gq f=false) (h:runB T orc (N + 1) f hs ps=some (x,ps')):qHZ P f hs ps x ps':=by
 simp only [runB,hgq,yJK,vYG,vQQ,vQZ,vQY] at h;obtain ⟨⟨r',M'⟩,h,ps2,hps,x2,hx2,x3,rfl,rfl,rfl⟩:=h;have em:memB false ps=[(pid,.blk (ps.map PV.toH))]:=rfl;rw [em] at h;refine ⟨(qVF (E:=⟨default,fun _=>False,fun _=>False,Harm P,fun _=>False,fun _=>False⟩) (ρ:=fun _=>none) (F:=fun _=>False) (w:=default) (vals:=[]) hT hm rfl hA hB h).1,fun w F b vals us ty hF hFb hb hheap hpu hone hpid hal => ?_⟩
 let ρ:Own:=fun i=>if i=pid then some (.blk b) else none
 have hρ:ρ pid=some (.blk b):=if_pos rfl;have inv:∀ id L,ρ id=some L→id=pid∧L=.blk b:=fun id L hL=>by
  by_cases e:id=pid
  ·subst e; rw [hρ] at hL; cases hL; exact ⟨rfl,rfl⟩
  ·simp only [ρ,if_neg e] at hL; cases hL
 refine Calls.mono ((qVF (E:=⟨w,F,(· = b),Harm P,fun _=>False,fun _=>False⟩) (ρ:=ρ) (F:=F) (w:=w) (vals:=vals) hT hm rfl hA hB h).2 ⟨hal.1,fun i y v hy hv => ?_⟩ ⟨fun id e hl => ?_,fun id L hL _ => ?_,fun id e hl => ?_,fun id L hL hi => ?_,fun id id' L L' b h1 h2 _ _ => ?_,fun id L b' hL hb' => ?_,fun k hk=>⟨hF k hk,.inl hk⟩,fun k hk=>hk,GrowB.refl _ _,fun b' hb' => ?_,fun b' hb'=>hb'.elim⟩ (fun h=>by cases h) (.inl fun _ h=>h)) ?_
 ·have:=hal.2 i y v hy hv
  cases y with
  | v p=>exact this
  | p id off =>
   have hid:=hpid _ (vQG hy) id off rfl;subst hid;have hv':v=.pointer (some ⟨b,off,none⟩):=this;subst hv';exact ⟨b,hρ,rfl⟩
  | _=>exact this.elim
 ·by_cases e1:pid=id
  ·subst e1;simp only [zG,Nat.beq_refl,vYV,vQZ] at hl;subst hl;exact ⟨b,us,ty,hρ,hheap,Al.map_left (hpu.imp fun _ _ _ h=>zUX h),hone⟩
  ·simp only [zG,qQW e1,vYG] at hl; cases hl
 ·obtain ⟨rfl,rfl⟩:=inv id L hL;exact ⟨.blk (ps.map PV.toH),by simp only [zG,Nat.beq_refl,vYV]⟩
 ·by_cases e1:pid=id
  ·rw [← e1]; decide
  ·simp only [zG,qQW e1,vYG] at hl; cases hl
 ·obtain ⟨_,rfl⟩:=inv id L hL; cases hi
 ·rw [(inv id L h1).1,(inv id' L' h2).1]
 ·obtain ⟨rfl,rfl⟩:=inv id L hL;cases hb';exact ⟨hFb,hb,.inr rfl⟩
 ·have:b'=b:=hb'
  subst this; exact .inl hρ
 ·rintro e w' ⟨v,F',ρ',F1,rfl,g,hmem,f1,f2,hr⟩
  obtain ⟨F2,f3,f4,hx⟩:=hr.pv hx2;unfold qKX at hps;split at hps
  ·rename_i hc hl;rw [vYG] at hps;obtain ⟨b2,us',ty',hρ2,hheap',hal',hone'⟩:=hmem.ent pid _ hl
   have:=(hmem.pin b rfl).resolve_right fun h=>h
   rw [hρ2] at this;cases this;have h1:=jJ hps;have hbl:∀ id L k,ρ' id=some L→(∃ a c n sz,L=.reg a c n sz)→L.bl=some k→¬ F1 k∧w.heap.size≤k∧k < w'.heap.size:=fun id L k hL hreg hk=>by
    have ho:=hmem.off id L k hL hk;refine ⟨ho.1,?_,ho.2.1⟩;rcases ho.2.2 with h | h
    ·exact h
    ·have hp:=hmem.apart id pid L _ k hL hρ2 hk (by have hkb:k=b:=h; rw [hkb]; rfl);subst hp;rw [hρ2] at hL;obtain ⟨a,c,n,sz,rfl⟩:=hreg;cases hL
   let F3:Nat→Prop:=fun k=>F2 k ∨ ∃ id L,ρ' id=some L∧(∃ a c n sz,L=.reg a c n sz)∧L.bl=some k
   refine ⟨v,F3,us',ty',rfl,g,fun k hk=>.inl (f3 k (f1 k (hmem.fz0 k hk))),fun k hk => ?_,hx.mono fun k hk=>⟨.inl hk,rfl⟩,hheap',⟨by rw [← h1.1,hal'.1],fun i p u hp hu => ?_⟩,hone'⟩
   ·rcases hk with hk | ⟨id,L,hL,hreg,hk⟩
    ·rcases f4 k hk with h | h
     ·exact (f2 k h).imp id fun h=>h.resolve_right fun h=>h
     ·exact .inr h
    ·exact .inr (hbl id L k hL hreg hk).2
   ·have hil:=(List.getElem?_eq_some_iff.1 hp).1;have hl2:i < hc.length:=by rw [h1.1]; exact hil
    have hpv:=h1.2 i _ p (vQK hl2) hp;have hrh:=hal'.2 i _ u (vQK hl2) hu;generalize hc[i]=y at hpv hrh;unfold HV.pz at hpv;split at hpv
    ·cases hpv; exact RP.mono (fun k hk=>⟨.inl (f3 k (f1 k hk)),rfl⟩) hrh
    ·cases hpv;have e:u=.slice none 0 0:=hrh;subst e;exact .zs
    ·rename_i id;split at hpv
     ·rename_i e sz rows hl3;cases hpv;obtain ⟨a,c,k,sz',hr1,rfl⟩:=hrh;exact (uW (hmem.ent id _ hl3) (F':=F3) (fun k hk=>.inl (f3 k (f1 k hk))) (fun L b hL hb=>.inr ⟨id,L,hL,⟨_,_,_,_,by rw [hr1] at hL; cases hL; rfl⟩,hb⟩) a c k sz' hr1).1
     ·cases hpv
    ·cases hpv
  ·cases hps
theorem fn_soundQ {N f:Nat} {orc:Orc} {hs:List HV} {ps ps':List PV} {x:PV} (hT:TabOk P T) (hm:P.follows .mixedOrders=true) (hA:SndA P (qJB orc (runF T orc N))) (hB:SndB P T (qYE T orc (runF T orc N)))
  (hgq:T.gq f=true) (h:runB T orc (N + 1) f hs ps=some (x,ps')):qHQ P f hs ps x ps':=by
 simp only [runB,hgq,yJK,vYV,vQQ,vQZ,vQY] at h;obtain ⟨⟨r',M'⟩,h,ps2,hps,x2,hx2,x3,hfx,rfl,rfl⟩:=h;obtain ⟨hflat,hfx⟩:=qQ hfx;simp only [vQZ] at hfx;subst hfx;have hr':r'=.v x2:=by
  cases r' with
  | v y=>cases hx2; rfl
  | ow e sz rows=>cases hx2; cases rows <;> simp [Rows.pv,PV.flat,PV.flat2,PV.flat1] at hflat
  | pb cells=>cases hx2
 subst hr';refine ⟨(qVF (E:=⟨default,fun _=>False,fun _=>False,Harm P,fun _=>False,fun _=>False⟩) (ρ:=fun _=>none) (F:=fun _=>False) (w:=default) (vals:=[]) hT hm rfl hA hB h).1,fun w F b A vals us ty hF hFb hb hheap ho1 hcells hone hAoff hpid hal => ?_⟩
 -- the growing slice that came in
 obtain ⟨L1,ent1,hL1,hmem1⟩:∃ (L1:Option Loc) (en:List (Nat × Ent)),(∀ L,L1=some L→∃ c k s,L=.reg A c k s)∧memB true ps=(pid,.blk (ps.map (PV.toQ (pid + 1)))) :: en ∧
   ((qWD ps=none∧en=[]∧L1=none) ∨ ∃ e sz y rows c vr,qWD ps=some (e,sz,y)∧y.rowsO=some rows∧en=[(pid + 1,.reg e sz rows)]∧L1=some (.reg A c rows.len sz)∧0 < sz∧Al (Al (RP F w)) rows.L vr∧(∀ r ∈ rows.L,r.length=sz)∧(∀ y ∈ vr,∀ u ∈ y,u.oneCell'=true)∧w.ownsRow 0 e sz (.slice A rows.len c) rows.len vr.flatten ∧
    ∀ (i e2 sz2:Nat) (x2:PV) (u:Value),ps[i]? = some (.gs e2 sz2 x2)→us[i]? = some u→u=.slice A rows.len c):=by
  cases hfg:qWD ps with
  | none=>exact ⟨none,[],fun L hL=>(by cases hL),by simp only [memB,hfg,gEnt,vYV],.inl ⟨rfl,rfl,rfl⟩⟩
  | some q =>
   obtain ⟨e,sz,y⟩:=q;obtain ⟨i,hi⟩:=zHX hfg;obtain ⟨u,hu2,hg⟩:=hcells.get hi;obtain ⟨rows,c,vr,q1,q2,q3,q4,q5,q6,q7⟩:=hg;refine ⟨some (.reg A c rows.len sz),[(pid + 1,.reg e sz rows)],fun L hL=>(by cases hL; exact ⟨_,_,_,rfl⟩),by simp only [memB,hfg,gEnt,q1,vYQ,vYV],.inr ⟨e,sz,y,rows,c,vr,rfl,q1,rfl,rfl,q3,q4,q5,q6,q7,fun i2 e2 sz2 x3 u2 hi2 hu3 => ?_⟩⟩;by_cases e3:i2=i
   ·subst e3; rw [hu2] at hu3; cases hu3; exact q2
   ·exact (yKZ ho1 e3 hi2 hi).elim
 obtain ⟨hmem1,hcase⟩:=hmem1;rw [hmem1] at h;have hpp:pid + 1 ≠ pid:=by decide
 let ρ:Own:=fun i=>if i=pid then some (.blk b) else if i=pid + 1 then L1 else none
 have hρ:ρ pid=some (.blk b):=if_pos rfl;have hρ1:ρ (pid + 1)=L1:=by show (if pid + 1=pid then _ else if pid + 1=pid + 1 then L1 else none)=L1; rw [if_neg hpp,if_pos rfl]
 have inv:∀ id L,ρ id=some L→(id=pid∧L=.blk b) ∨ (id=pid + 1∧L1=some L):=fun id L hL=>by
  by_cases e:id=pid
  ·subst e; rw [hρ] at hL; cases hL; exact .inl ⟨rfl,rfl⟩
  ·by_cases e2:id=pid + 1
   ·subst e2; rw [hρ1] at hL; exact .inr ⟨rfl,hL⟩
   ·simp only [ρ,if_neg e,if_neg e2] at hL; cases hL
 have look:∀ id e,zG ((pid,Ent.blk (ps.map (PV.toQ (pid + 1)))) :: ent1) id=some e→(id=pid∧e=.blk (ps.map (PV.toQ (pid + 1)))) ∨ (id=pid + 1∧ent1=[(pid + 1,e)]):=fun id e hl=>by
  by_cases e1:pid=id
  ·subst e1;simp only [zG,Nat.beq_refl,vYV,vQZ] at hl;exact .inl ⟨rfl,hl.symm⟩
  ·simp only [zG,qQW e1,vYG] at hl;rcases hcase with ⟨_,rfl,_⟩ | ⟨e',sz,y,rows,c,vr,_,_,rfl,_⟩
   ·cases hl
   ·by_cases e2:pid + 1=id
    ·subst e2;simp only [zG,Nat.beq_refl,vYV,vQZ] at hl;exact .inr ⟨rfl,by rw [hl]⟩
    ·simp only [zG,qQW e2,vYG] at hl; cases hl
 refine Calls.mono ((qVF (E:=⟨w,F,fun k=>k=b ∨ A.map (·.block)=some k,Harm P,fun k=>A.map (·.block)=some k,fun _=>False⟩) (ρ:=ρ) (F:=F) (w:=w) (vals:=vals) hT hm rfl hA hB h).2 ⟨hal.1,fun i y v hy hv => ?_⟩ ⟨fun id e hl => ?_,fun id L hL _ => ?_,fun id e hl => ?_,fun id L hL hi => ?_,fun id id' L L' b' h1 h2 hb1 hb2 => ?_,fun id L b' hL hb' => ?_,fun k hk=>⟨hF k hk,.inl hk⟩,fun k hk=>hk,GrowB.refl _ _,fun b' hb' => ?_,fun b' hb'=>hb'.elim⟩ (fun h=>by cases h) (.inr ⟨_,rfl,hflat⟩)) ?_
 ·have:=hal.2 i y v hy hv
  cases y with
  | v p=>exact this
  | p id off =>
   have hid:=hpid _ (vQG hy) id off rfl;subst hid;have hv':v=.pointer (some ⟨b,off,none⟩):=this;subst hv';exact ⟨b,hρ,rfl⟩
  | _=>exact this.elim
 ·rcases look id e hl with ⟨rfl,rfl⟩ | ⟨rfl,he⟩
  ·refine ⟨b,us,ty,hρ,hheap,Al.map_left ⟨hcells.1,fun i p u hi hu3=>toQ_rel (hcells.2 i p u hi hu3) fun e sz x2 rows c hpe hrows huv => ?_⟩,hone⟩;subst hpe;have hfg:=yQD ho1 hi;rcases hcase with ⟨h1,_⟩ | ⟨e3,sz3,x3,yUY,c3,vr,hf3,hr3,_,hL,_,_,_,_,_,hall⟩
   ·rw [hfg] at h1; cases h1
   ·rw [hfg] at hf3;cases hf3;rw [hrows] at hr3;cases hr3
    have:=hall i _ _ _ u hi hu3
    rw [huv] at this;simp only [Value.slice.injEq,true_and] at this;exact ⟨sz,by rw [hρ1,hL,this]⟩
  ·rcases hcase with ⟨_,h1,_⟩ | ⟨e3,sz3,x3,yUY,c3,vr,_,_,h1,hL,q3,q4,q5,q6,q7,_⟩
   ·rw [h1] at he; cases he
   ·rw [h1] at he;cases he;exact ⟨A,c3,vr,by rw [hρ1]; exact hL,q3,q4,q5,q6,q7⟩
 ·rcases inv id L hL with ⟨rfl,_⟩ | ⟨rfl,h1⟩
  ·exact ⟨.blk (ps.map (PV.toQ (pid + 1))),by simp only [zG,Nat.beq_refl,vYV]⟩
  ·rcases hcase with ⟨_,_,h2⟩ | ⟨e3,sz3,x3,yUY,c3,vr,_,_,h2,_⟩
   ·rw [h2] at h1; cases h1
   ·rw [h2]; exact ⟨.reg e3 sz3 yUY,rfl⟩
 ·rcases look id e hl with ⟨rfl,_⟩ | ⟨rfl,_⟩ <;> decide
 ·rcases inv id L hL with ⟨_,rfl⟩ | ⟨_,h1⟩
  ·cases hi
  ·obtain ⟨_,_,_,rfl⟩:=hL1 L h1; cases hi
 ·have cross:∀ L,L1=some L→L.bl=some b→False:=fun L h3 h4=>by
   obtain ⟨_,_,_,rfl⟩:=hL1 L h3;exact (hAoff b h4).2.2 rfl
  rcases inv id L h1 with ⟨rfl,rfl⟩ | ⟨rfl,h3⟩ <;> rcases inv id' L' h2 with ⟨rfl,rfl⟩ | ⟨rfl,h4⟩
  ·rfl
  ·cases hb1; exact (cross L' h4 hb2).elim
  ·cases hb2; exact (cross L h3 hb1).elim
  ·rfl
 ·rcases inv id L hL with ⟨rfl,rfl⟩ | ⟨rfl,h3⟩
  ·cases hb'; exact ⟨hFb,hb,.inr (.inl rfl)⟩
  ·obtain ⟨_,_,_,rfl⟩:=hL1 L h3
   have:=hAoff b' hb'
   exact ⟨this.1,this.2.1,.inr (.inr hb')⟩
 ·rcases hb' with hb' | hb'
  ·exact .inl (by rw [hb']; exact hρ)
  ·exact .inr hb'
 ·rintro e w' ⟨v,F',ρ',F1,rfl,g,hmem,f1,f2,hr⟩
  have hbnA:¬ A.map (·.block)=some b:=fun h=>(hAoff b h).2.2 rfl
  unfold qKX at hps;split at hps
  ·rename_i hc hl;rw [vYV] at hps;simp only [vQQ] at hps;obtain ⟨ps3,hps,ho3⟩:=hps;obtain ⟨ho3,hq⟩:=qQ ho3;cases hq;obtain ⟨b2,us',ty',hρ2,hheap',hal',hone'⟩:=hmem.ent pid _ hl;have hb2:b2=b:=by
    have h3:=(hmem.pin b (.inl rfl)).resolve_right hbnA;rw [hρ2] at h3;cases h3; rfl
   subst hb2;have h1:=jJ hps
   -- what a cell is
   have cell:∀ (i:Nat) p u,ps2[i]? = some p→us'[i]? = some u→(RP F1 w' p u) ∨ ∃ id e sz rows a c,p=.gs e sz rows.pv∧zG M' id=some (.reg e sz rows)∧ρ' id=some (.reg a c rows.len sz)∧u=.slice a rows.len c:=fun i p u hp hu=>by
    have hil:=(List.getElem?_eq_some_iff.1 hp).1;have hl2:i < hc.length:=by rw [h1.1]; exact hil
    have hpv:=h1.2 i _ p (vQK hl2) hp;have hrh:=hal'.2 i _ u (vQK hl2) hu;generalize hc[i]=y at hpv hrh;unfold HV.pq at hpv;split at hpv
    ·cases hpv; exact .inl hrh
    ·cases hpv;have e:u=.slice none 0 0:=hrh;subst e;exact .inl .zs
    ·rename_i id;split at hpv
     ·rename_i e sz rows hl3;cases hpv;obtain ⟨a,c,k,sz',hr1,rfl⟩:=hrh;obtain ⟨a2,c2,vr,hr2,_⟩:=hmem.ent id _ hl3;have hr3:=hr1;rw [hr1] at hr2;simp only [vQZ,Loc.reg.injEq] at hr2;obtain ⟨_,_,rfl,rfl⟩:=hr2;exact .inr ⟨id,e,_,rows,a,c,rfl,hl3,hr1,rfl⟩
     ·cases hpv
    ·cases hpv
   obtain ⟨A',hA'⟩:∃ A':Option Addr,(∀ (i:Nat) p u,ps2[i]? = some p→us'[i]? = some u→GsR F1 w' A' p u)∧∀ k,A'.map (·.block)=some k→¬ F1 k∧k < w'.heap.size∧k ≠ b2∧(w.heap.size≤k ∨ A.map (·.block)=some k):=by
    cases hfg:qWD ps2 with
    | none =>
     refine ⟨none,fun i p u hp hu => ?_,fun k hk=>by cases hk⟩;rcases cell i p u hp hu with h | ⟨id,e,sz,rows,a,c,rfl,_⟩
     ·exact yWW h
     ·rw [yQD ho3 hp] at hfg; cases hfg
    | some q =>
     obtain ⟨e,sz,y⟩:=q;obtain ⟨i0,hi0⟩:=zHX hfg;obtain ⟨u0,hu0,_⟩:∃ u,us'[i0]? = some u∧True:=by
      have hil:=(List.getElem?_eq_some_iff.1 hi0).1
      have:i0 < us'.length:=by rw [← hal'.1,h1.1]; exact hil
      exact ⟨_,vQK this,trivial⟩
     rcases cell i0 _ u0 hi0 hu0 with h | ⟨id,e',sz',rows,a,c,hpe,hl3,hr1,rfl⟩
     ·cases h
     ·simp only [PV.gs.injEq] at hpe;obtain ⟨rfl,rfl,rfl⟩:=hpe;obtain ⟨a2,c2,vr,hr2,q3,q4,q5,q6,q7⟩:=hmem.ent id _ hl3;rw [hr1] at hr2;simp only [vQZ,Loc.reg.injEq] at hr2;obtain ⟨rfl,rfl,_,_⟩:=hr2;refine ⟨a,fun i p u hp hu => ?_,fun k hk => ?_⟩
      ·by_cases ei:i=i0
       ·subst ei;rw [hi0] at hp; rw [hu0] at hu;cases hp; cases hu;exact ⟨rows,c,vr,by cases rows <;> rfl,rfl,q3,q4,q5,q6,q7⟩
       ·rcases cell i p u hp hu with h | ⟨_,e2,sz2,zJB,_,_,rfl,_⟩
        ·exact yWW h
        ·exact (yKZ ho3 ei hp hi0).elim
      ·have ho:=hmem.off id _ k hr1 hk;have hkb:k ≠ b2:=fun e=>by
        subst e
        have:=hmem.apart id pid _ _ k hr1 hρ2 hk rfl
        subst this;rw [hρ2] at hr1; cases hr1
       refine ⟨ho.1,ho.2.1,hkb,?_⟩;rcases ho.2.2 with h | h | h
       ·exact .inl h
       ·exact absurd h hkb
       ·exact .inr h
   refine ⟨v,F1,us',ty',A',rfl,g,fun k hk=>hmem.fz0 k hk,fun k hk => ?_,RP.flat hr hflat,hheap',⟨by rw [← h1.1,hal'.1],hA'.1⟩,hone',hA'.2⟩;rcases F_W hmem hk with h | h | h
   ·exact .inl h
   ·exact .inr (.inl ⟨h,(hmem.fz k hk).1⟩)
   ·exact .inr (.inr h)
  ·cases hps
theorem fn_soundBq {N f:Nat} {orc:Orc} {hs:List HV} {ps ps':List PV} {x:PV} (hT:TabOk P T) (hm:P.follows .mixedOrders=true) (hA:SndA P (qJB orc (runF T orc N))) (hB:SndB P T (qYE T orc (runF T orc N)))
  (h:runB T orc (N + 1) f hs ps=some (x,ps')):yWL P f hs ps x ps' (T.gq f):=by
 cases hq:T.gq f with
 | false=>exact fn_soundB hT hm hA hB hq h
 | true=>exact fn_soundQ hT hm hA hB hq h
theorem zKL {orc:Orc} (hT:TabOk P T) (hm:P.follows .mixedOrders=true) (hO:OrcOk P T orc):∀ N,SndA P (qJB orc (runF T orc N))∧SndB P T (qYE T orc (runF T orc N))
 | 0=>by
  refine ⟨fun g ps r h => ?_,fun g hs ps x ps' h => ?_⟩
  ·unfold qJB at h;split at h
   ·rename_i o ho; exact hO.a g o ho ps r h
   ·cases h
  ·unfold qYE at h;split at h
   ·rename_i o ho; exact hO.b g o ho hs ps x ps' h
   ·cases hgk:T.gk g <;> rw [hgk] at h <;> cases h
 | N + 1=>by
  obtain ⟨hA,hB⟩:=zKL hT hm hO N;refine ⟨fun g ps r h => ?_,fun g hs ps x ps' h => ?_⟩
  ·unfold qJB at h;split at h
   ·rename_i o ho; exact hO.a g o ho ps r h
   ·exact fn_soundA hT hm hA hB h
  ·unfold qYE at h;split at h
   ·rename_i o ho; exact hO.b g o ho hs ps x ps' h
   ·cases hgk:T.gk g with
    | true=>rw [hgk] at h; cases h
    | false=>rw [hgk,vYG] at h; exact fn_soundBq hT hm hA hB h
theorem qWL {orc:Orc} {N f:Nat} {ps:List PV} {r:Ret} (hT:TabOk P T) (hm:P.follows .mixedOrders=true) (hO:OrcOk P T orc) (h:run T orc N f ps=some r):zH P f ps r:=by
 cases N with
 | zero=>cases h
 | succ N=>exact fn_soundA hT hm (zKL hT hm hO N).1 (zKL hT hm hO N).2 h
theorem runB_sound {orc:Orc} {N f:Nat} {hs:List HV} {ps ps':List PV} {x:PV} (hT:TabOk P T) (hm:P.follows .mixedOrders=true) (hO:OrcOk P T orc) (h:runB T orc N f hs ps=some (x,ps')):yWL P f hs ps x ps' (T.gq f):=by
 cases N with
 | zero=>cases h
 | succ N=>exact fn_soundBq hT hm (zKL hT hm hO N).1 (zKL hT hm hO N).2 h
end
end Go.Rx

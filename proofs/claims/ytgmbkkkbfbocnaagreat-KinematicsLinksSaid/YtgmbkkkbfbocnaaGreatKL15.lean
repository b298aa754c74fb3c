/- Part 15 of the texts behind the last one: rules and contracts. No condition. -/
import Derived.Test.YtgmbkkkbfbocnaaGreatKL14
open Option renaming bind_eq_some_iff → vQQ, map_eq_some_iff → vZW
open Option.some renaming injEq → vQZ
open List renaming getElem?_eq_getElem → vQK, mem_cons_of_mem → vQH, mem_cons_self → vZQ
open Nat renaming eq_of_beq_eq_true → vQX, lt_of_lt_of_le → vZK
namespace Go.Rx
open Go.RowKit Go.Sx
def ArgB (F:Nat→Prop) (w:World) (b:Nat):HV→Value→Prop
 | .v x,v=>RP F w x v
 | .p _ off,v=>v=.pointer (some ⟨b,off,none⟩)
 | _,_=>False
def SndB (P:Program) (cB:kQQ):Prop:=∀ g hs ps x ps',cB g hs ps=some (x,ps')→kU P g∧∀ (w:World) (F:Nat→Prop) (b:Nat) (vals us:List Value) (ty:TypeId),(∀ k,F k→k < w.heap.size)→¬ F b→b < w.heap.size →
 w.heap[b]? = some (.cells us.toArray ty)→Al (RP F w) ps us→(∀ u ∈ us,u.oneCell'=true)→(∀ h ∈ hs,∀ id off,h=.p id off→id=pid)→Al (ArgB F w b) hs vals →
 Calls P g vals.toArray w (fun e w'=>∃ v F' us' ty',e=.returned v∧GrowB (· = b) w w'∧(∀ k,F k→F' k)∧(∀ k,F' k→F k ∨ (w.heap.size≤k∧k < w'.heap.size))∧RP F' w' x v ∧
  w'.heap[b]? = some (.cells us'.toArray ty')∧Al (RP F' w') ps' us'∧∀ u ∈ us',u.oneCell'=true)
section
variable {P:Program} {E:Env} {C:Cx} {ρ:Own} {F:Nat→Prop} {σ:St} {a:Act} {w:World} {vs:List RV} {e:Eff}
variable {d:Option Tmp} {ty:TypeId} {pos:String} {af:Array Edge} {g:Option (Nat × Bool)}
theorem Rel'.setB {n:Nat} (h:Rel' E n ρ F σ a w) {id b:Nat} (hρ:ρ id=some (.blk b)) {F':Nat→Prop} {ent:Ent} {w':World} (g:GrowB (· = b) w w') (hF:∀ k,F k→F' k) (hF':∀ k,F' k→F k ∨ (w.heap.size≤k∧k < w'.heap.size)) (hent:EntOk ρ F' w' id ent) {x:HV} {v:Value} (hx:RH ρ F' w' x v) {dst:Option Nat} (hd:dstB n dst=true) :
  Rel' E n ρ F' (σ.apply (.set id ent x) dst) (a.put dst v) w':=by
 have hb:(Loc.blk b).bl=some b:=rfl;have hoff:=h.mem.off id _ b hρ hb;have fzb:∀ k,F k→w'.heap[k]? = w.heap[k]?:=fun k hk=>g.block k (h.mem.fz k hk).1 fun e=>by subst e; exact hoff.1 hk
 refine h.apply (.set id ent x) dst v (fun d e=>by subst e; simpa [dstB] using hd) ⟨fun k b hk=>hk,fun k L' hk _=>hk,fun k rows a' c' kk sz _ hs=>by simp [Eff.set,kK] at hs,fun k hk=>⟨hF k hk,fzb k hk⟩⟩ hx
  (fun k L' b' hu hk hb' => ?_) (fun _ _=>rfl) (fun k hu=>rfl) (fun k y hu => ?_) h.mem.apart (fun k L' b' hk hb' => ?_) (fun k hk => ?_) ?_
 ·refine g.block b' (h.mem.off k L' b' hk hb').2.1 fun e => ?_
  subst e
  have:=h.mem.apart k id L' _ b' hk hρ hb' hb
  subst this;simp [Eff.set,qGW] at hu
 ·simp only [Eff.set,qGW] at hu;split at hu
  ·rename_i he; cases hu; subst he; exact hent
  ·cases hu
 ·have:=h.mem.off k L' b' hk hb'
  exact ⟨fun hf=>by rcases hF' b' hf with h1 | h1; exact this.1 h1; omega,vZK this.2.1 g.size,this.2.2⟩
 ·rcases hF' k hk with h1 | h1
  ·exact ⟨vZK (h.mem.fz k h1).1 g.size,(h.mem.fz k h1).2⟩
  ·exact ⟨h1.2,.inr (.inl (Nat.le_trans h.mem.grow.size h1.1))⟩
 ·refine ⟨g.os.trans h.mem.grow.os,g.tape.trans h.mem.grow.tape,g.output.trans h.mem.grow.output,Nat.le_trans h.mem.grow.size g.size,fun k hk hW => ?_⟩;rw [g.block k (vZK hk h.mem.grow.size) fun e => ?_]
  ·exact h.mem.grow.block k hk hW
  ·subst e;rcases hoff.2.2 with h1 | h1
   ·omega
   ·exact hW h1
theorem findP_mem:∀ {xs:List RV} {p:Nat × List CV},jHZ xs=some p→∃ off,RV.p p.1 off p.2 ∈ xs
 | [],p,h=>by cases h
 | x :: xs,p,h=>by
  simp only [jHZ] at h;split at h
  ·cases h; exact ⟨_,vZQ⟩
  ·obtain ⟨off,ho⟩:=findP_mem h; exact ⟨off,vQH _ ho⟩
theorem cv_pv {M:Mem} {hc:List HV} {cs:List CV} {ps:List PV} {us:List Value} (h:mapO (cvOf M) hc=some cs) (hal:Al (RH ρ F w) hc us) (hp:mapO CV.pv cs=some ps):Al (RP F w) ps us:=by
 have hcv:=zKW h hal;have h1:=jQ hp;refine ⟨by rw [← h1.1,hcv.1],fun i p v hpi hv => ?_⟩;have hil:=(List.getElem?_eq_some_iff.1 hpi).1;have hl:i < cs.length:=by rw [h1.1]; exact hil
 have hfz:=h1.2 i _ p (vQK hl) hpi;obtain ⟨hrh,ho⟩:=hcv.2 i _ v (vQK hl) hv;generalize cs[i]=c at hfz hrh ho;unfold CV.pv at hfz;split at hfz
 ·cases hfz; exact hrh
 ·cases hfz;have e:v=.slice none 0 0:=hrh;subst e;exact .zs
 ·cases hfz
theorem call_relB (hB:SndB P C.cB) (h:Rel' E C.n ρ F σ a w) {o:Oper} (hd:dstB C.n o.dst=true) {f:Nat} {args:List RV} {us:List Value} (hu:Al (fun r v=>RH ρ F w r.back v) args us) (hres:∀ r ∈ args,RRes σ.M r) (he:zHG C.cB f args=some e)
  (hrun:kU P f→(execOp a.eval o).run P w=.ok (.enter f us.toArray) w):OK P E C σ a w e o:=by
 simp only [zHG,vQQ,vQZ] at he;obtain ⟨⟨id,cs⟩,hp,ps,hps,hs,hhs,⟨x,ps'⟩,hr,rfl⟩:=he;obtain ⟨hent,hcall⟩:=hB f hs ps x ps' hr;obtain ⟨off,hmem⟩:=findP_mem hp;obtain ⟨hc,hlk,hcc⟩:=hres _ hmem;obtain ⟨b,cu,ty',hρ,hheap,hal,hone⟩:=h.mem.ent id _ hlk;have hpu:=cv_pv hcc hal hps;have hoff:=h.mem.off id _ b hρ rfl;have hrs:∀ y ∈ catR RV.regs args,∃ e sz,zH σ.M y.1=some (.reg e sz y.2):=fun y hy=>by
  obtain ⟨x,hx,hy'⟩:=mem_catR.1 hy;exact jZJ (hres x hx) y hy'
 have hid:id ∉ (catR RV.regs args).map (·.1):=fun hm=>by
  obtain ⟨r,hr,hre⟩:=List.mem_map.1 hm;obtain ⟨e',sz,hl⟩:=hrs r hr;have hre':r.1=id:=hre;rw [hre',hlk] at hl; cases hl
 have h1:=h.froze (catR RV.regs args) hrs;generalize hFF:frzF (catR RV.regs args) ρ F=F1 at h1;have hF1:∀ k,F k→F1 k:=fun k hk=>by rw [← hFF]; exact .inl hk
 have hρ1:frzρ (catR RV.regs args) ρ id=some (.blk b):=by rw [frzρ_keep hid]; exact hρ
 have hmo:=jQ hhs;unfold OK Goes;rw [hrun hent];simp only;refine Calls.mono (hcall w F1 b us cu ty' (fun k hk=>(h1.mem.fz k hk).1) (h1.mem.off id _ b hρ1 rfl).1 hoff.2.1 hheap (hpu.imp fun _ _ _ hx=>hx.mono fun k hk=>⟨hF1 k hk,rfl⟩) hone ?_ ?_) fun en w' ⟨v,F',us',ty2,hv,gr,f1,f2,hx,hb',hal',hone'⟩=>⟨v,hv,?_⟩
 ·intro hh hhm id' off' he';obtain ⟨i,hi⟩:=List.mem_iff_getElem?.1 hhm;have hil:=(List.getElem?_eq_some_iff.1 hi).1;have hl:i < args.length:=by rw [hmo.1]; exact hil
  have ht:=hmo.2 i _ hh (vQK hl) hi;rw [he'] at ht;generalize args[i]=r at ht;cases r <;> simp only [RV.toB] at ht
  case p id2 off2 c2 =>
   obtain ⟨_,ht⟩:=qY ht;cases ht; rfl
  all_goals
   obtain ⟨_,ht⟩:=qY ht;simp only [vQQ] at ht;obtain ⟨_,_,ht⟩:=ht;cases ht
 ·refine ⟨by rw [← hmo.1,hu.1],fun i hh v hi hv => ?_⟩;have hil:=(List.getElem?_eq_some_iff.1 hi).1;have hl:i < args.length:=by rw [hmo.1]; exact hil
  have ht:=hmo.2 i _ hh (vQK hl) hi;have hrv:=hu.2 i _ v (vQK hl) hv;have hmm:=List.getElem_mem hl;have hrr:=hres _ hmm;generalize args[i]=r at ht hrv hmm hrr;have gen:r.still=true→∀ y,r.fz=some y→RP F1 w y v:=fun hst y hy=>jGG h.mem hF1 hy hrv hrr (.inl ⟨hst,fun x hx L b hL hb=>by rw [← hFF]; exact .inr ⟨x.1,L,List.mem_map.2 ⟨x,catR_mem hmm hx,rfl⟩,hL,hb⟩⟩)
  cases r <;> simp only [RV.toB] at ht
  case p id2 off2 c2 =>
   obtain ⟨he2,ht⟩:=qY ht;cases ht
   have:=vQX he2
   subst this;obtain ⟨b2,hb2,rfl⟩:=hrv;rw [hρ] at hb2; cases hb2; rfl
  all_goals
   obtain ⟨hst,ht⟩:=qY ht;simp only [vQQ] at ht;obtain ⟨y,hy,ht⟩:=ht;cases ht;exact gen hst y hy
 ·have h2:=h1.setB (id:=id) hρ1 gr f1 f2 (ent:=.blk (ps'.map PV.toH)) ⟨b,us',ty2,hρ1,hb',Al.map_left (hal'.imp fun _ _ _ h=>yQV h),hone'⟩ (x:=.v x) (v:=v) hx hd;exact Rel.eqv ⟨_,_,h2⟩ (yJQ (e:=.set id (.blk (ps'.map PV.toH)) (.v x)) rfl rfl hid)
theorem yQU {fx:Operand} {args:Array Operand} {ats:Array TypeId} {f:Nat} {fs us cs:List Value} (h:Rel' E C.n ρ F σ a w) (hf:ev (actS a) fx=some (.func (.func f) fs.toArray cs.toArray)) (hu:evs (actS a) args.toList=some us) (hent:kU P f) :
  (execOp a.eval ⟨d,.call ⟨.value fx,args,ats⟩,ty,pos,af,g⟩).run P w=.ok (.enter f (fs ++ us ++ cs).toArray) w:=by
 have e3:args.map a.eval=us.toArray:=by
  have h1:=(zJQ hu).1;have h2:=(zJQ hu).2
  have:args.toList.map a.eval=us:=by
   rw [← h1];refine List.map_congr_left fun x hx => ?_
   have:=h2 x hx
   cases hv:ev (actS a) x with
   | none=>rw [hv] at this; cases this
   | some v=>rw [qYU h hv,zG hv]
  apply Array.ext'; rw [Array.toList_map,this]
 simp [execOp,resolve,qYU h hf,Deferred.ofValue,invoke,e3]
 simpa using hent (fs ++ us ++ cs).toArray w
theorem al_v {ps:List PV} {us:List Value} (h:Al (RP F w) ps us):Al (fun r v=>RH ρ F w r.back v) (ps.map RV.v) us:=Al.map_left h
theorem ok_call {fx:Operand} {args:Array Operand} {ats:Array TypeId} (hA:SndA P C.cA) (hB:SndB P C.cB) (h:Rel' E C.n ρ F σ a w) (hd:dstB C.n d=true) (hvs:mapO (opv 0 σ) (#[fx] ++ args).toList=some vs) (he:zV C.T C.cA C.cB C.me (d.getD 0) (.call ⟨.value fx,args,ats⟩) vs=some e) (hn:∀ i ∈ e.nw,zH σ.M i=none) :
  OK P E C σ a w e ⟨d,.call ⟨.value fx,args,ats⟩,ty,pos,af,g⟩:=by
 rw [show (#[fx] ++ args).toList=fx :: args.toList by simp] at hvs;simp only [mapO,vQQ,vQZ] at hvs;obtain ⟨rx,hrx,rs,hrs,rfl⟩:=hvs;obtain ⟨v,v1,v2,v3⟩:=yV h hrx;obtain ⟨us,u1,u2,u3⟩:=zHX h hrs;cases rx with
 | v p =>
  cases p with
  | f fn first cap =>
   simp only [zV] at he;cases v2 with
   | f _ _ _ fs cs hl hm hf hc =>
    have hal:=((al_v (ρ:=ρ) ⟨hl,hf⟩).append u2).append (al_v ⟨hm,hc⟩);have hres:∀ r ∈ first.map RV.v ++ rs ++ cap.map RV.v,RRes σ.M r:=fun r hr=>by
     rcases List.mem_append.1 hr with hr | hr
     ·rcases List.mem_append.1 hr with hr | hr
      ·obtain ⟨_,_,rfl⟩:=List.mem_map.1 hr; trivial
      ·exact u3 r hr
     ·obtain ⟨_,_,rfl⟩:=List.mem_map.1 hr; trivial
    cases hrw:C.T.rw fn with
    | true=>rw [hrw] at he; exact call_relB hB h hd hal hres he fun hent=>yQU h v1 u1 hent
    | false=>rw [hrw] at he; exact call_rel hA h hd hal hres he hn fun hent=>yQU h v1 u1 hent
  | _=>simp only [zV] at he; cases he
 | g fn first cap =>
  simp only [zV] at he;obtain ⟨fs,cs,rfl,hf,hc⟩:=v2;have hal:=((al_v (ρ:=ρ) hf).append u2).append (Al.map_left (f:=fun c:RC=>(match c with | .v x=>RV.v x | .p id off cells=>RV.p id off cells)) (R:=fun r v=>RH ρ F w r.back v) (hc.map_left_inv.imp fun c v _ hh=>(by cases c <;> exact hh)));refine call_rel hA h hd hal (fun r hr => ?_) he hn fun hent=>yQU h v1 u1 hent
  rcases List.mem_append.1 hr with hr | hr
  ·rcases List.mem_append.1 hr with hr | hr
   ·obtain ⟨_,_,rfl⟩:=List.mem_map.1 hr; trivial
   ·exact u3 r hr
  ·obtain ⟨c,hcm,rfl⟩:=List.mem_map.1 hr
   have:=v3 c hcm
   cases c <;> exact this
 | _=>simp only [zV] at he; cases he
theorem guard_wanted {ops:Array Oper} {o:Oper} {b:Bool} (h:Rel' E C.n ρ F σ a w) (hg:uH ops σ o=some b):Region.wanted o (yielded ops a.tmps)=b:=by
 unfold uH at hg;unfold Region.wanted;cases hgd:o.guard with
 | none=>rw [hgd] at hg; cases hg; rfl
 | some jb =>
  obtain ⟨j,c⟩:=jb;rw [hgd] at hg;simp only at hg ⊢;split at hg
  ·rename_i dd hdd;split at hg
   ·rename_i x hx;cases hg;obtain ⟨v,hv,hr⟩:=h.slots dd _ hx
    have:=qGU hr
    subst this;simp [yielded,hdd,Array.getD_eq_getD_getElem?,hv]
   ·rename_i hx;cases hg;obtain ⟨v,hv,hr⟩:=h.slots dd _ hx;cases hr with
    | t _ vs hl _ =>
     simp [yielded,hdd,hv]
   ·cases hg
  ·cases hg
theorem step_ok {op:Op} (hT:TabOk P C.T) (hA:SndA P C.cA) (hB:SndB P C.cB) (h:Rel' E C.n ρ F σ a w) (hd:dstB C.n d=true) (hvs:mapO (opv (mode op) σ) op.operands.toList=some vs) (he:zV C.T C.cA C.cB C.me (d.getD 0) op vs=some e) (hn:∀ i ∈ e.nw,zH σ.M i=none) (hnd:∀ c,op ≠ .defer c) :
  OK P E C σ a w e ⟨d,op,ty,pos,af,g⟩:=by
 cases op with
 | defer c=>exact absurd rfl (hnd c)
 | move x=>exact ok_move h hd hvs he
 | assign x=>exact ok_assign h hd hvs he
 | pick c x y=>exact ok_pick h hd hvs he
 | alloc t=>exact ok_alloc hT h hd hvs he hn
 | box t x=>exact ok_box h hd hvs he hn
 | build t ps=>exact ok_build hT h hd hvs he
 | buildSlice t len ps=>exact ok_bslice hT h hd hvs he hn
 | load t x=>exact ok_load hT h hd hvs he
 | store t x y=>exact ok_store hT h hd hvs he
 | nilCheck x=>exact ok_nil h hd hvs he
 | binOp op t x y t'=>exact ok_bin hT h hd hvs he
 | unOp op t x =>
  cases op with
  | not=>exact ok_not h hd hvs he
  | neg=>exact ok_neg h hd hvs he
  | _=>simp only [zV] at he; cases he
 | convert s t x=>exact ok_convert hT h hd hvs he
 | makeFunc fn first cap=>exact ok_makeFunc h hd hvs he
 | makeSlice t x y=>exact ok_make hT h hd hvs he hn
 | slice t x lo hi mx=>exact ok_slice hT h hd hvs he
 | fieldAddr t x f=>exact ok_fieldAddr hT h hd hvs he
 | field t x f=>exact ok_field hT h hd hvs he
 | indexAddr t x y=>exact ok_indexAddr hT h hd hvs he
 | index t x y=>exact ok_index hT h hd hvs he
 | range t x=>exact ok_range hT h hd hvs he hn
 | next x b=>exact ok_next h hd hvs he
 | extract x i=>exact ok_extract h hd hvs he
 | call c =>
  obtain ⟨callee,args,ats⟩:=c;cases callee with
  | value fx=>exact ok_call hA hB h hd hvs he hn
  | builtin b =>
   cases b with
   | len=>exact ok_len hT h hd hvs he
   | min=>exact ok_min h hd hvs he
   | max=>exact ok_max h hd hvs he
   | append=>exact ok_append hT h hd hvs he hn
   | _=>simp only [zV] at he; cases he
  | _=>simp only [zV] at he; cases he
 | _=>simp only [zV] at he; cases he
theorem ok_defer (hT:TabOk P C.T) (hE:E.D=Harm P) (h:Rel' E C.n ρ F σ a w) {d:Option Tmp} {ty:TypeId} {pos:String} {af:Array Edge} {g:Option (Nat × Bool)} {c:Call} {vs:List RV} {e:Eff} (hd:dstB C.n d=true)
  (hvs:mapO (opv 0 σ) c.operands.toList=some vs) (he:zV C.T C.cA C.cB C.me (d.getD 0) (.defer c) vs=some e):GoesD P E.D ⟨d,.defer c,ty,pos,af,g⟩ a w fun a' w'=>Rel E C.n (σ.apply e d) a' w':=by
 obtain ⟨callee,args,ats⟩:=c;cases callee with
 | value fx =>
  cases vs with
  | nil=>simp only [zV] at he; cases he
  | cons x vs =>
   simp only [zV] at he;obtain ⟨hargs,he1⟩:=qY he
   clear he
   have hargs0:args=#[]:=by simpa using hargs
   subst hargs0;have hvs':mapO (opv 0 σ) [fx]=some (x :: vs):=by simpa [Call.operands] using hvs
   obtain ⟨y,hy,hys⟩:=zJJ hvs';cases hys;have key:∀ (f:Nat) (fs cs:List Value),a.eval fx=.func (.func f) fs.toArray cs.toArray→C.T.dd f=true→e=.val .un→GoesD P E.D ⟨d,.defer ⟨.value fx,#[],ats⟩,ty,pos,af,g⟩ a w fun a' w'=>Rel E C.n (σ.apply e d) a' w':=by
    intro f fs cs hev hdd he;subst he;obtain ⟨hent,hc⟩:=hT.dd f hdd;have hh:Harm P { target:=.fn (.func f) cs.toArray,args:=fs.toArray }:=⟨f,cs.toArray,rfl,hent,hc⟩
    refine .inr ⟨{ target:=.fn (.func f) cs.toArray,args:=fs.toArray },?_,by rw [hE]; exact hh,?_⟩
    ·simp [execOp,resolve,hev,Deferred.ofValue]
    ·have h':Rel' E C.n ρ F σ { a with defers:={ target:=.fn (.func f) cs.toArray,args:=fs.toArray } :: a.defers } w:=⟨h.size,fun d hd=>by
      rcases List.mem_cons.1 hd with rfl | hd
      ·rw [hE]; exact hh
      ·exact h.defers d hd,h.slots,h.mem⟩
     exact ⟨ρ,F,h'.val (x:=.un) (Grow.refl w) (fun _ h=>h) (fun _ h=>.inl h) trivial hd⟩
   cases x with
   | v p =>
    cases p with
    | f fn first cap =>
     simp only at he1;obtain ⟨hdd,he⟩:=qY he1;obtain ⟨v,v1,v2,v3⟩:=yV h hy;cases v2 with
     | f _ _ _ fs cs hl hm hf hc=>exact key fn fs cs (qYU h v1) hdd (by injection he with he; exact he.symm)
    | _=>simp only at he1; cases he1
   | g fn first cap =>
    simp only at he1;obtain ⟨hdd,he⟩:=qY he1;obtain ⟨v,v1,v2,v3⟩:=yV h hy;obtain ⟨fs,cs,rfl,hf,hc⟩:=v2;exact key fn fs cs (qYU h v1) hdd (by injection he with he; exact he.symm)
   | _=>simp only at he1; cases he1
 | _=>simp only [zV] at he; cases he
theorem sim_all {ops:Array Oper} (hT:TabOk P C.T) (hE:E.D=Harm P) (hA:SndA P C.cA) (hB:SndB P C.cB):Sim P E C ops:=by
 intro o σ r a w hs hr;obtain ⟨ρ,F,h⟩:=hr;unfold qXG at hs;simp only [vQQ] at hs;obtain ⟨gb,hg,hs⟩:=hs;have hw:=guard_wanted h hg;obtain ⟨hd,hs⟩:=qY hs;cases gb with
 | true =>
  rw [if_pos hw];simp only [vYV,vQQ] at hs;obtain ⟨vs,hvs,e,he,hs⟩:=hs;obtain ⟨hn,hs⟩:=qY hs;cases hs;have hn':∀ i ∈ e.nw,zH σ.M i=none:=fun i hi=>by
   have:=List.all_eq_true.1 hn i hi
   simpa using this
  obtain ⟨d,op,ty,pos,af,g⟩:=o;by_cases hdf:∃ c,op=.defer c
  ·obtain ⟨c,rfl⟩:=hdf;exact ok_defer hT hE h hd hvs he
  ·exact .inl (step_ok hT hA hB h hd hvs he hn' (fun c hc=>hdf ⟨c,hc⟩))
 | false =>
  rw [if_neg (by rw [hw]; simp)];simp only [vYG,vQZ] at hs;subst hs;exact ⟨ρ,F,h.val (x:=.v (.t [])) (Grow.refl w) (fun _ h=>h) (fun _ h=>.inl h) (RP.t [] [] rfl fun i p v hp=>by simp at hp) hd⟩
end
end Go.Rx
namespace Go.Rx
open Go.RowKit Go.Sx
section
variable {P:Program} {E:Env} {n:Nat} {C:Cx} {ρ:Own} {F:Nat→Prop} {σ:St} {a:Act} {w:World}
theorem put_same {t:Nat} {v:Value} (h:a.tmps[t]? = some v):a.put (some t) v=a:=by
 have:a.tmps.setIfInBounds t v=a.tmps:=by
  refine Array.ext_getElem? fun i => ?_
  rw [Array.getElem?_setIfInBounds];split
  ·rename_i e;subst e;have hl:=(Array.getElem?_eq_some_iff.1 h).1;rw [if_pos hl,h]
  ·rfl
 simp [Act.put,this]
theorem dst_of (h:Rel' E n ρ F σ a w) {t:Nat} {v:Value} (hv:a.tmps[t]? = some v):dstB n (some t)=true:=by
 have hl:=(Array.getElem?_eq_some_iff.1 hv).1;rw [h.size] at hl
 simpa [dstB] using hl
theorem Rel'.tell (h:Rel' E n ρ F σ a w) {t:Nat} (ht:uG σ.S t=some .nl):Rel' E n ρ F (σ.apply (.val (.v (.l []))) (some t)) a w:=by
 obtain ⟨v,hv,hr⟩:=h.slots t _ ht;have hr':v=.slice none 0 0:=hr;subst hr'
 have:=h.val (Grow.refl w) (fun _ h=>h) (fun _ h=>.inl h) (x:=.v (.l [])) (v:=.slice none 0 0) (RP.l0 _ _) (dst_of h hv)
 rwa [put_same hv] at this
theorem zUH:∀ (l:List Nat) {σ:St},Rel E C.n σ a w→Rel E C.n (frzL l σ) a w
 | [],σ,h=>h
 | t :: l,σ,h=>by
  simp only [frzL];split
  ·rename_i hx;obtain ⟨ρ,F,h⟩:=h;exact zUH l ⟨ρ,F,h.tell hx⟩
  ·rename_i id hx;split
   ·rename_i e sz rows hl;obtain ⟨ρ,F,h⟩:=h;exact zUH l ⟨_,_,h.froze [(id,rows)] (fun r hr=>by simp only [List.mem_singleton] at hr; subst hr; exact ⟨e,sz,hl⟩)⟩
   ·exact zUH l h
  ·exact zUH l h
theorem zHK:∀ (l:List (Nat × Nat × Nat × Nat)) {σ:St},Rel E C.n σ a w→Rel E C.n (ownL l σ) a w
 | [],σ,h=>h
 | (t,id,e,sz) :: l,σ,h=>by
  simp only [ownL];split
  ·rename_i hx hl;cases hz:Nat.blt 0 sz with
   | false=>exact zHK l h
   | true =>
    have hz':0 < sz:=by rw [Nat.blt_eq] at hz; exact hz
    obtain ⟨ρ,F,h⟩:=h;obtain ⟨v,hv,hr⟩:=h.slots t _ hx;have hr':v=.slice none 0 0:=hr;subst hr'
    have:=h.adopt (id:=id) hl (ent:=.reg e sz (.l [])) (L:=.reg none 0 0 sz) (x:=.o id) (v:=.slice none 0 0) (Grow.refl w) (fun _ h=>h) (fun _ h=>.inl h) (fun b hb=>by cases hb)
     ⟨none,0,[],jV _ _ _,hz',Al.nil,(fun r hr=>by cases hr),(fun r hr=>by cases hr),⟨by simp [Rows.len],.inl (by simp [Rows.len])⟩⟩ ⟨_,_,_,_,jV _ _ _,rfl⟩ (dst_of h hv)
    rw [put_same hv] at this;exact zHK l ⟨_,_,this⟩
  ·exact zHK l h
theorem zZH:∀ (l:List (Nat × Nat × Nat × Nat × Nat)) {σ:St},Rel E C.n σ a w→Rel E C.n (yHQ l σ) a w
 | [],σ,h=>h
 | (b,k,id,e,sz) :: l,σ,h=>by
  simp only [yHQ];split
  ·rename_i cells hb hl;split
   ·rename_i hc;cases hz:Nat.blt 0 sz with
    | false=>exact zZH l h
    | true =>
     have hz':0 < sz:=by rw [Nat.blt_eq] at hz; exact hz
     rw [vYV];refine zZH l ?_;obtain ⟨ρ,F,h⟩:=h;have hnone:ρ id=none:=by
      cases hc:ρ id with
      | none=>rfl
      | some L'=>obtain ⟨e,he⟩:=h.mem.dom id L' hc; rw [hl] at he; cases he
     have hne:b ≠ id:=fun e=>by rw [e,hl] at hb; cases hb
     have old:∀ k L',ρ k=some L'→updO ρ id (.reg none 0 0 sz) k=some L':=fun k L' hk=>by
      rw [qWJ (fun e=>by subst e; rw [hnone] at hk; cases hk)]; exact hk
     have inv:∀ k L',updO ρ id (.reg none 0 0 sz) k=some L'→(k=id∧L'=.reg none 0 0 sz) ∨ (k ≠ id∧ρ k=some L'):=fun k L' hk=>by
      by_cases e:k=id
      ·subst e; rw [jV] at hk; cases hk; exact .inl ⟨rfl,rfl⟩
      ·rw [qWJ e] at hk; exact .inr ⟨e,hk⟩
     have hF:∀ k,F k→F k∧w.heap[k]? = w.heap[k]?:=fun k hk=>⟨hk,rfl⟩
     have ht:Turns [] ρ (updO ρ id (.reg none 0 0 sz)) F F w w:=⟨fun k b hk=>old k _ hk,fun k L' hk _=>old k _ hk,fun k rows a' c' kk sz _ hs=>by simp [kK] at hs,hF⟩
     refine ⟨updO ρ id (.reg none 0 0 sz),F,h.size,h.defers,fun t x hx => ?_,⟨fun k y hk => ?_,fun k L hk => ?_,fun k k' L L' b' h1 h2 h3 h4 => ?_,fun k L b' hk hb' => ?_,h.mem.fz,h.mem.fz0,h.mem.grow,fun b' hb' => ?_⟩⟩
     ·obtain ⟨v,hv,hr⟩:=h.slots t x hx;exact ⟨v,hv,hr.mono old hF⟩
     ·simp only [zYY] at hk;split at hk
      ·rename_i e1;cases hk;subst e1;exact ⟨none,0,[],jV _ _ _,hz',Al.nil,(fun r hr=>by cases hr),(fun r hr=>by cases hr),⟨by simp [Rows.len],.inl (by simp [Rows.len])⟩⟩
      ·split at hk
       ·rename_i e2;cases hk;subst e2;obtain ⟨bb,vs,ty,h1,h2,h3,h4⟩:=h.mem.ent _ _ hb;obtain ⟨v,hv,hr⟩:=h3.get hc;have hr':v=.slice none 0 0:=hr;subst hr';refine ⟨bb,vs,ty,old _ _ h1,h2,?_,h4⟩;have h5:=(h3.imp (R':=RH (updO ρ id (.reg none 0 0 sz)) F w) fun x v _ hx=>hx.mono old hF).set (x:=.o id) (y:=.slice none 0 0) ⟨none,0,0,sz,jV _ _ _,rfl⟩ k;have e3:vs.set k (.slice none 0 0)=vs:=by
         refine List.ext_getElem? fun i => ?_
         rw [List.getElem?_set];split
         ·rename_i e4;subst e4;have hlt:=(List.getElem?_eq_some_iff.1 hv).1;rw [if_pos hlt,hv]
         ·rfl
        rw [e3] at h5;exact h5
       ·have:=(h.mem.ent k y hk).sub ht (by simp [kK]) (fun _ _ _ _=>rfl)
        rw [Ent.sub_nil] at this;exact this
     ·simp only [zYY];rcases inv k L hk with ⟨rfl,_⟩ | ⟨h1,h2⟩
      ·exact ⟨_,if_pos rfl⟩
      ·obtain ⟨y,hy⟩:=h.mem.dom k L h2;rw [if_neg (Ne.symm h1)];split
       ·exact ⟨_,rfl⟩
       ·exact ⟨y,hy⟩
     ·rcases inv k L h1 with ⟨rfl,rfl⟩ | ⟨a1,a2⟩
      ·cases h3
      ·rcases inv k' L' h2 with ⟨rfl,rfl⟩ | ⟨b1,b2⟩
       ·cases h4
       ·exact h.mem.apart k k' L L' b' a2 b2 h3 h4
     ·rcases inv k L hk with ⟨rfl,rfl⟩ | ⟨a1,a2⟩
      ·cases hb'
      ·exact h.mem.off k L b' a2 hb'
     ·exact old _ _ (h.mem.pin b' hb')
   ·exact zZH l h
  ·exact zZH l h
def inI (ids:List Nat) (i:Nat):Bool:=ids.any (Nat.beq i)
theorem inI_iff {ids:List Nat} {i:Nat}:inI ids i=true ↔ i ∈ ids:=by
 simp only [inI,List.any_eq_true];constructor
 ·rintro ⟨x,hx,he⟩; rw [vQX he]; exact hx
 ·intro h; exact ⟨i,h,Nat.beq_refl i⟩
def jZW (ids:List Nat) (ρ:Own):Own:=fun id=>if id ∈ ids then ρ id else none
theorem qGJ {ids:List Nat} {id:Nat} (h:id ∈ ids):jZW ids ρ id=ρ id:=by simp only [jZW,if_pos h]
theorem zYW {ids:List Nat} {id:Nat} {L:Loc} (h:jZW ids ρ id=some L):id ∈ ids∧ρ id=some L:=by
 unfold jZW at h;split at h
 ·rename_i hm; exact ⟨hm,h⟩
 ·cases h
theorem only_rel {ids:List Nat} {x:HV} {v:Value} (h:RH ρ F w x v):RH (jZW ids ρ) F w (x.only ids) v:=by
 unfold HV.only;cases hc:x.every.all (fun i=>ids.any (Nat.beq i)) with
 | false=>trivial
 | true =>
  have hin:∀ i ∈ x.every,i ∈ ids:=fun i hi=>inI_iff.1 (List.all_eq_true.1 hc i hi)
  simp only [vYV];cases x with
  | v x=>exact h
  | nl=>exact h
  | un=>trivial
  | o id =>
   obtain ⟨ad,c,k,sz,h1,h2⟩:=h;exact ⟨ad,c,k,sz,by rw [qGJ (hin id (by simp [HV.every]))]; exact h1,h2⟩
  | p id off =>
   obtain ⟨b,h1,h2⟩:=h;exact ⟨b,by rw [qGJ (hin id (by simp [HV.every]))]; exact h1,h2⟩
  | q id j off =>
   obtain ⟨b,c,k,sz,h1,h2⟩:=h;exact ⟨b,c,k,sz,by rw [qGJ (hin id (by simp [HV.every]))]; exact h1,h2⟩
  | g fn first cap =>
   obtain ⟨fs,cs,h1,h2,h3⟩:=h;refine ⟨fs,cs,h1,h2,h3.imp fun c v hm hr => ?_⟩;cases c with
   | v x=>exact hr
   | p id off =>
    obtain ⟨b,h4,h5⟩:=hr;exact ⟨b,by rw [qGJ (hin id (mem_catL.2 ⟨_,hm,by simp [Cap.every]⟩))]; exact h4,h5⟩
theorem only_ent {ids:List Nat} {id:Nat} {e:Ent} (hid:id ∈ ids) (h:EntOk ρ F w id e):EntOk (jZW ids ρ) F w id (e.only ids):=by
 cases e with
 | blk cells =>
  obtain ⟨b,vs,ty,h1,h2,h3,h4⟩:=h;exact ⟨b,vs,ty,by rw [qGJ hid]; exact h1,h2,Al.map_left (h3.imp fun _ _ _ h=>only_rel h),h4⟩
 | reg e sz rows =>
  obtain ⟨ad,c,vr,h1,h2⟩:=h;exact ⟨ad,c,vr,by rw [qGJ hid]; exact h1,h2⟩
 | itr s pos =>
  obtain ⟨b,h1,h2⟩:=h;exact ⟨b,by rw [qGJ hid]; exact h1,h2⟩
theorem keepI_look {M:Mem} {ids:List Nat} {i:Nat} {x:Ent} (h:zH (jYG M ids) i=some x):i ∈ ids∧zH M i=some x:=by
 induction ids with
 | nil=>cases h
 | cons t ts ih =>
  simp only [jYG] at h;split at h
  ·rename_i y hy;by_cases e:t=i
   ·subst e;simp only [zH,Nat.beq_refl,vYV,vQZ] at h;subst h;exact ⟨vZQ,hy⟩
   ·simp only [zH,qJW e,vYG] at h;exact ⟨vQH _ (ih h).1,(ih h).2⟩
  ·exact ⟨vQH _ (ih h).1,(ih h).2⟩
theorem keepI_mem {M:Mem} {ids:List Nat} {i:Nat} {x:Ent} (hm:i ∈ ids) (h:zH M i=some x):zH (jYG M ids) i=some x:=by
 induction ids with
 | nil=>cases hm
 | cons t ts ih =>
  simp only [jYG];by_cases e:t=i
  ·subst e; rw [h]; simp [zH]
  ·have hm':i ∈ ts:=by
    rcases List.mem_cons.1 hm with h | h
    ·exact absurd h.symm e
    ·exact h
   split
   ·simp only [zH,qJW e,vYG]; exact ih hm'
   ·exact ih hm'
theorem keepL_look {ts:List Nat} {t:Nat} {x:HV} (h:uG (jGW σ ts) t=some x):uG σ.S t=some x:=by
 induction ts with
 | nil=>cases h
 | cons u ts ih =>
  simp only [jGW] at h;split at h
  ·rename_i y hy;by_cases e:u=t
   ·subst e;rw [lookS_same] at h; cases h; exact hy
   ·rw [yWX e] at h; exact ih h
  ·exact ih h
theorem yVQ:∀ (l:List (Nat × List PV)) {S:List (Nat × HV)} {M:Mem},Rel E C.n ⟨S,M⟩ a w→Rel E C.n ⟨S,funL l M⟩ a w
 | [],S,M,h=>h
 | (id,z) :: l,S,M,h=>by
  simp only [funL];split
  ·rename_i e sz rows hl;refine yVQ l ?_;obtain ⟨ρ,F,h⟩:=h;refine ⟨ρ,F,h.size,h.defers,h.slots,⟨fun i x hx => ?_,fun i L hL => ?_,h.mem.apart,h.mem.off,h.mem.fz,h.mem.fz0,h.mem.grow,h.mem.pin⟩⟩
   ·rw [zYY] at hx;split at hx
    ·rename_i e1;cases hx;subst e1;obtain ⟨ad,c,vr,h1,h2,h3,h4,h5,h6⟩:=h.mem.ent id _ hl;have el:(rows.toF z).len=rows.len:=by rw [← Rows.len_L,Rows.toF_L,Rows.len_L]
     exact ⟨ad,c,vr,by rw [el]; exact h1,h2,by rw [Rows.toF_L]; exact h3,by rw [Rows.toF_L]; exact h4,h5,by rw [el]; exact h6⟩
    ·exact h.mem.ent i x hx
   ·obtain ⟨x,hx⟩:=h.mem.dom i L hL;show ∃ e,zH (putM id _ M) i=some e;rw [zYY];split
    ·exact ⟨_,rfl⟩
    ·exact ⟨x,hx⟩
  ·exact yVQ l h
theorem prune_rel {hi:Hint} (h:Rel E C.n σ a w):Rel E C.n (qXZ hi σ) a w:=by
 have h1:=zZH (C:=C) hi.ownB (zHK (C:=C) hi.own (zUH (C:=C) hi.frz h));unfold qXZ;generalize yHQ hi.ownB (ownL hi.own (frzL hi.frz σ))=τ at h1;refine yVQ (C:=C) hi.fun_ ?_;obtain ⟨ρ,F,h⟩:=h1;refine ⟨jZW (pid :: hi.ids) ρ,F,h.size,h.defers,fun t x hx => ?_,⟨fun id e hl => ?_,fun id L hL => ?_,fun id id' L L' b h1 h2 => ?_,fun id L b hL hb => ?_,h.mem.fz,h.mem.fz0,h.mem.grow,fun b hb => ?_⟩⟩
 ·simp only [lookS_map,vZW] at hx;obtain ⟨y,hy,rfl⟩:=hx;obtain ⟨v,hv,hr⟩:=h.slots t y (keepL_look hy);exact ⟨v,hv,only_rel hr⟩
 ·simp only [yYY,vZW] at hl;obtain ⟨y,hy,rfl⟩:=hl;obtain ⟨k1,k2⟩:=keepI_look hy;exact only_ent k1 (h.mem.ent id y k2)
 ·obtain ⟨k1,k2⟩:=zYW hL;obtain ⟨e,he⟩:=h.mem.dom id L k2;exact ⟨_,by simp only [yYY]; rw [keepI_mem k1 he]; rfl⟩
 ·exact h.mem.apart id id' L L' b (zYW h1).2 (zYW h2).2
 ·exact h.mem.off id L b (zYW hL).2 hb
 ·rw [qGJ vZQ]; exact h.mem.pin b hb
def exOf:Ex→Exit
 | .normal=>.normal
 | .exit id=>.exit id
 | .ret=>.ret
theorem pruneX_rel {hi:Hint} (h:Rel E C.n σ a w):Rel E C.n (qJK hi σ) a w:=by
 unfold qJK;split
 ·exact h
 ·exact prune_rel h
theorem runC_sound {N:Nat} {r:Ret × Mem} (hT:TabOk P C.T) (hE:E.D=Harm P) (hA:SndA P C.cA) (hB:SndB P C.cB) (hm:P.follows .mixedOrders=true):∀ (c:Code) (K:Ex→St→Option (Ret × Mem)) (σ:St) (a:Act) (w:World) (Q:Exit→Act→World→Prop),runC N C c K σ=some r→Rel E C.n σ a w →
  (∀ e τ a w,K e τ=some r→Rel E C.n τ a w→Q (exOf e) a w)→c.wp P Q a w:=by
 intro c;induction c with
 | skip=>intro K σ a w Q h hr hK; exact wp_skip (hK .normal σ a w h hr)
 | label l=>intro K σ a w Q h hr hK; exact wp_label (hK .normal σ a w h hr)
 | scope x ih =>
  intro K σ a w Q h hr hK;exact wp_scope_straight (ih K σ a w _ h hr fun e τ a w hk hr'=>by cases e <;> exact hK _ τ a w hk hr')
 | ret=>intro K σ a w Q h hr hK; exact wp_ret (hK .ret σ a w h hr)
 | exit id=>intro K σ a w Q h hr hK; exact wp_exit (hK (.exit id) σ a w h hr)
 | region id ops d =>
  intro K σ a w Q h hr hK;cases d with
  | true =>
   simp only [runC,vYV] at h;exact wp_draw hm (sim_all hT hE hA hB) h hr (fun h=>h.grow (Grow.drew (Grow.refl _))) fun τ a w hk hr=>hK .normal τ a w hk hr
  | false =>
   simp only [runC,vYG] at h;exact wp_region_list (jQK (sim_all hT hE hA hB) (fun τ a w hk hr=>hK .normal τ a w hk hr) _ _ _ _ h hr)
 | seq x y ihx ihy =>
  intro K σ a w Q h hr hK;refine wp_seq (ihx _ σ a w _ h hr fun e τ a' w' hk hr' => ?_);cases e with
  | normal=>exact ihy K τ a' w' Q hk hr' hK
  | exit id=>exact hK (.exit id) τ a' w' hk hr'
  | ret=>exact hK .ret τ a' w' hk hr'
 | cond c x y ihx ihy =>
  intro K σ a w Q h hr hK;simp only [runC,vQQ] at h;obtain ⟨v,hv,h⟩:=h;have hr0:=hr;obtain ⟨ρ,F,hr'⟩:=hr;obtain ⟨u,u1,u2,u3⟩:=yV hr' hv;split at h
  ·rename_i t
   have:=qGU u2
   subst this;refine wp_cond (t:=t) (qYU hr' u1) ?_;cases t with
   | true=>exact ihx K σ a w Q h hr0 hK
   | false=>exact ihy K σ a w Q h hr0 hK
  ·cases h
 | block id x ih =>
  intro K σ a w Q h hr hK;refine wp_block (ih _ σ a w _ h hr fun e τ a' w' hk hr' => ?_);cases e with
  | normal=>exact hK .normal τ a' w' hk hr'
  | ret=>exact hK .ret τ a' w' hk hr'
  | exit id' =>
   simp only at hk;by_cases e:id'=id
   ·subst e;rw [Nat.beq_refl] at hk
    simpa [exOf,Exit.inBlock] using hK .normal τ a' w' hk hr'
   ·rw [qJW e] at hk
    simpa [exOf,Exit.inBlock,e] using hK (.exit id') τ a' w' hk hr'
 | loop x ih =>
  intro K σ a w Q h hr hK;simp only [runC] at h;have key:∀ M σ a w,zUX (fun again σ=>runC N C x (fun e σ=>match e with
   | .normal=>again σ
   | e=>K e (qJK (C.T.hint C.me (qG x)) σ)) (qXZ (C.T.hint C.me (qG x)) σ)) M σ=some r→Rel E C.n σ a w→Code.rounds P x Q M a w:=by
   intro M;induction M with
   | zero=>intro σ a w h; cases h
   | succ M ihM =>
    intro σ a w h hr;rw [rounds_succ];refine ih _ _ a w _ h (prune_rel hr) fun e τ a' w' hk hr' => ?_
    cases e with
    | normal=>exact ihM τ a' w' hk hr'
    | exit id=>exact hK (.exit id) _ a' w' hk (pruneX_rel hr')
    | ret=>exact hK .ret _ a' w' hk (pruneX_rel hr')
  exact wp_loop_rounds N (key N σ a w h hr)
 | _=>intro K σ a w Q h; simp only [runC] at h; cases h
end
end Go.Rx

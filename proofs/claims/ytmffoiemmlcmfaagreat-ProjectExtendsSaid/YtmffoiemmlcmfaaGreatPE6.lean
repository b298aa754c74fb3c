/- Part 6 of the texts behind the last one: rules and contracts. No condition. -/
import Derived.Test.YtmffoiemmlcmfaaGreatPE5
open Option renaming bind_eq_some_iff → vQQ, map_eq_some_iff → vZW, bind_some → vYQ
open Option.some renaming injEq → vQZ
open Prod.mk renaming injEq → vQY
open Bool renaming and_eq_true → vQJ
open List renaming getElem?_eq_getElem → vQK, mem_of_getElem? → vQG, mem_cons_of_mem → vQH, mem_cons_self → vZQ, getElem?_take → vZV
open Nat renaming eq_of_beq_eq_true → vQX, lt_of_lt_of_le → vZK, le_of_ble_eq_true → vZX
namespace Go.Rx
open Go.RowKit Go.Sx
def ArgB (F:Nat→Prop) (w:World) (b:Nat):HV→Value→Prop
 | .v x,v=>RP F w x v
 | .p _ off,v=>v=.pointer (some ⟨b,off,none⟩)
 | _,_=>False
def SndB (P:Program) (cB:kHU):Prop:=∀ g hs ps x ps',cB g hs ps=some (x,ps')→kH P g∧∀ (w:World) (F:Nat→Prop) (b:Nat) (vals us:List Value) (ty:TypeId),(∀ k,F k→k < w.heap.size)→¬ F b→b < w.heap.size →
 w.heap[b]? = some (.cells us.toArray ty)→Al (RP F w) ps us→(∀ u ∈ us,u.oneCell'=true)→(∀ h ∈ hs,∀ id off,h=.p id off→id=pid)→Al (ArgB F w b) hs vals →
 Calls P g vals.toArray w (fun e w'=>∃ v F' us' ty',e=.returned v∧GrowB (· = b) w w'∧(∀ k,F k→F' k)∧(∀ k,F' k→F k ∨ (w.heap.size≤k∧k < w'.heap.size))∧RP F' w' x v ∧
  w'.heap[b]? = some (.cells us'.toArray ty')∧Al (RP F' w') ps' us'∧∀ u ∈ us',u.oneCell'=true)
section
variable {P:Program} {E:Env} {C:Cx} {ρ:Own} {F:Nat→Prop} {σ:St} {a:Act} {w:World} {vs:List RV} {e:Eff}
variable {d:Option Tmp} {ty:TypeId} {pos:String} {af:Array Edge} {g:Option (Nat × Bool)}
theorem Rel'.setB {n:Nat} (h:Rel' E n ρ F σ a w) {id b:Nat} (hρ:ρ id=some (.blk b)) {F':Nat→Prop} {ent:Ent} {w':World} (g:GrowB (· = b) w w') (hF:∀ k,F k→F' k) (hF':∀ k,F' k→F k ∨ (w.heap.size≤k∧k < w'.heap.size)) (hent:EntOk ρ F' w' id ent) {x:HV} {v:Value} (hx:RH ρ F' w' x v) {dst:Option Nat} (hd:dstB n dst=true) :
  Rel' E n ρ F' (σ.apply (.set id ent x) dst) (a.put dst v) w':=by
 have hb:(Loc.blk b).bl=some b:=rfl;have hoff:=h.mem.off id _ b hρ hb;have fzb:∀ k,F k→w'.heap[k]? = w.heap[k]?:=fun k hk=>g.block k (h.mem.fz k hk).1 fun e=>by subst e; exact hoff.1 hk
 refine h.apply (.set id ent x) dst v (fun d e=>by subst e; simpa [dstB] using hd) ⟨fun k b hk=>hk,fun k L' hk _=>hk,fun k rows a' c' kk sz _ hs=>by simp [Eff.set,qQG] at hs,fun k hk=>⟨hF k hk,fzb k hk⟩⟩ hx
  (fun k L' b' hu hk hb' => ?_) (fun _ _=>rfl) (fun k hu=>rfl) (fun k y hu => ?_) h.mem.apart (fun k L' b' hk hb' => ?_) (fun k hk => ?_) ?_
 ·refine g.block b' (h.mem.off k L' b' hk hb').2.1 fun e => ?_
  subst e
  have:=h.mem.apart k id L' _ b' hk hρ hb' hb
  subst this;simp [Eff.set,zJU] at hu
 ·simp only [Eff.set,zJU] at hu;split at hu
  ·rename_i he; cases hu; subst he; exact hent
  ·cases hu
 ·have:=h.mem.off k L' b' hk hb'
  exact ⟨fun hf=>by rcases hF' b' hf with h1 | h1; exact this.1 h1; omega,vZK this.2.1 g.size,this.2.2⟩
 ·rcases hF' k hk with h1 | h1
  ·exact ⟨vZK (h.mem.fz k h1).1 g.size,(h.mem.fz k h1).2⟩
  ·exact ⟨h1.2,.inr (.inl (Nat.le_trans h.mem.grow.size h1.1))⟩
 ·refine ⟨g.os.trans h.mem.grow.os,g.tape.trans h.mem.grow.tape,g.output.trans h.mem.grow.output,Nat.le_trans h.mem.grow.size g.size,fun k hk hW => ?_⟩;rw [g.block k (vZK hk h.mem.grow.size) fun e => ?_]
  ·exact h.mem.grow.block k hk hW
  ·subst e;rcases hoff.2.2 with h1 | h1
   ·omega
   ·exact hW h1
theorem findP_mem:∀ {xs:List RV} {p:Nat × List CV},uQW xs=some p→∃ off,RV.p p.1 off p.2 ∈ xs
 | [],p,h=>by cases h
 | x :: xs,p,h=>by
  simp only [uQW] at h;split at h
  ·cases h; exact ⟨_,vZQ⟩
  ·obtain ⟨off,ho⟩:=findP_mem h; exact ⟨off,vQH _ ho⟩
theorem cv_pv {M:Mem} {hc:List HV} {cs:List CV} {ps:List PV} {us:List Value} (h:mapO (cvOf M) hc=some cs) (hal:Al (RH ρ F w) hc us) (hp:mapO CV.pv cs=some ps):Al (RP F w) ps us:=by
 have hcv:=zHJ h hal;have h1:=kW hp;refine ⟨by rw [← h1.1,hcv.1],fun i p v hpi hv => ?_⟩;have hil:=(List.getElem?_eq_some_iff.1 hpi).1;have hl:i < cs.length:=by rw [h1.1]; exact hil
 have hfz:=h1.2 i _ p (vQK hl) hpi;obtain ⟨hrh,ho⟩:=hcv.2 i _ v (vQK hl) hv;generalize cs[i]=c at hfz hrh ho;unfold CV.pv at hfz;split at hfz
 ·cases hfz; exact hrh
 ·cases hfz;have e:v=.slice none 0 0:=hrh;subst e;exact .zs
 ·cases hfz
theorem call_relB (hB:SndB P C.cB) (h:Rel' E C.n ρ F σ a w) {o:Oper} (hd:dstB C.n o.dst=true) {f:Nat} {args:List RV} {us:List Value} (hu:Al (fun r v=>RH ρ F w r.back v) args us) (hres:∀ r ∈ args,RRes σ.M r) (he:jXQ C.cB f args=some e)
  (hrun:kH P f→(execOp a.eval o).run P w=.ok (.enter f us.toArray) w):OK P E C σ a w e o:=by
 simp only [jXQ,vQQ,vQZ] at he;obtain ⟨⟨id,cs⟩,hp,ps,hps,hs,hhs,⟨x,ps'⟩,hr,rfl⟩:=he;obtain ⟨hent,hcall⟩:=hB f hs ps x ps' hr;obtain ⟨off,hmem⟩:=findP_mem hp;obtain ⟨hc,hlk,hcc⟩:=hres _ hmem;obtain ⟨b,cu,ty',hρ,hheap,hal,hone⟩:=h.mem.ent id _ hlk;have hpu:=cv_pv hcc hal hps;have hoff:=h.mem.off id _ b hρ rfl;have hrs:∀ y ∈ catR RV.regs args,∃ e sz,yK σ.M y.1=some (.reg e sz y.2):=fun y hy=>by
  obtain ⟨x,hx,hy'⟩:=mem_catR.1 hy;exact jHK (hres x hx) y hy'
 have hid:id ∉ (catR RV.regs args).map (·.1):=fun hm=>by
  obtain ⟨r,hr,hre⟩:=List.mem_map.1 hm;obtain ⟨e',sz,hl⟩:=hrs r hr;have hre':r.1=id:=hre;rw [hre',hlk] at hl; cases hl
 have h1:=h.froze (catR RV.regs args) hrs;generalize hFF:frzF (catR RV.regs args) ρ F=F1 at h1;have hF1:∀ k,F k→F1 k:=fun k hk=>by rw [← hFF]; exact .inl hk
 have hρ1:frzρ (catR RV.regs args) ρ id=some (.blk b):=by rw [frzρ_keep hid]; exact hρ
 have hmo:=kW hhs;unfold OK Goes;rw [hrun hent];simp only;refine Calls.mono (hcall w F1 b us cu ty' (fun k hk=>(h1.mem.fz k hk).1) (h1.mem.off id _ b hρ1 rfl).1 hoff.2.1 hheap (hpu.imp fun _ _ _ hx=>hx.mono fun k hk=>⟨hF1 k hk,rfl⟩) hone ?_ ?_) fun en w' ⟨v,F',us',ty2,hv,gr,f1,f2,hx,hb',hal',hone'⟩=>⟨v,hv,?_⟩
 ·intro hh hhm id' off' he';obtain ⟨i,hi⟩:=List.mem_iff_getElem?.1 hhm;have hil:=(List.getElem?_eq_some_iff.1 hi).1;have hl:i < args.length:=by rw [hmo.1]; exact hil
  have ht:=hmo.2 i _ hh (vQK hl) hi;rw [he'] at ht;generalize args[i]=r at ht;cases r <;> simp only [RV.toB] at ht
  case p id2 off2 c2 =>
   obtain ⟨_,ht⟩:=qH ht;cases ht; rfl
  all_goals
   obtain ⟨_,ht⟩:=qH ht;simp only [vQQ] at ht;obtain ⟨_,_,ht⟩:=ht;cases ht
 ·refine ⟨by rw [← hmo.1,hu.1],fun i hh v hi hv => ?_⟩;have hil:=(List.getElem?_eq_some_iff.1 hi).1;have hl:i < args.length:=by rw [hmo.1]; exact hil
  have ht:=hmo.2 i _ hh (vQK hl) hi;have hrv:=hu.2 i _ v (vQK hl) hv;have hmm:=List.getElem_mem hl;have hrr:=hres _ hmm;generalize args[i]=r at ht hrv hmm hrr;have gen:r.still=true→∀ y,r.fz=some y→RP F1 w y v:=fun hst y hy=>kGK h.mem hF1 hy hrv hrr (.inl ⟨hst,fun x hx L b hL hb=>by rw [← hFF]; exact .inr ⟨x.1,L,List.mem_map.2 ⟨x,catR_mem hmm hx,rfl⟩,hL,hb⟩⟩)
  cases r <;> simp only [RV.toB] at ht
  case p id2 off2 c2 =>
   obtain ⟨he2,ht⟩:=qH ht;cases ht
   have:=vQX he2
   subst this;obtain ⟨b2,hb2,rfl⟩:=hrv;rw [hρ] at hb2; cases hb2; rfl
  all_goals
   obtain ⟨hst,ht⟩:=qH ht;simp only [vQQ] at ht;obtain ⟨y,hy,ht⟩:=ht;cases ht;exact gen hst y hy
 ·have h2:=h1.setB (id:=id) hρ1 gr f1 f2 (ent:=.blk (ps'.map PV.toH)) ⟨b,us',ty2,hρ1,hb',Al.map_left (hal'.imp fun _ _ _ h=>yVX h),hone'⟩ (x:=.v x) (v:=v) hx hd;exact Rel.eqv ⟨_,_,h2⟩ (jQW (e:=.set id (.blk (ps'.map PV.toH)) (.v x)) rfl rfl hid)
theorem yVY {fx:Operand} {args:Array Operand} {ats:Array TypeId} {f:Nat} {fs us cs:List Value} (h:Rel' E C.n ρ F σ a w) (hf:ev (actS a) fx=some (.func (.func f) fs.toArray cs.toArray)) (hu:evs (actS a) args.toList=some us) (hent:kH P f) :
  (execOp a.eval ⟨d,.call ⟨.value fx,args,ats⟩,ty,pos,af,g⟩).run P w=.ok (.enter f (fs ++ us ++ cs).toArray) w:=by
 have e3:args.map a.eval=us.toArray:=by
  have h1:=(zZZ hu).1;have h2:=(zZZ hu).2
  have:args.toList.map a.eval=us:=by
   rw [← h1];refine List.map_congr_left fun x hx => ?_
   have:=h2 x hx
   cases hv:ev (actS a) x with
   | none=>rw [hv] at this; cases this
   | some v=>rw [qKH h hv,yY hv]
  apply Array.ext'; rw [Array.toList_map,this]
 simp [execOp,resolve,qKH h hf,Deferred.ofValue,invoke,e3]
 simpa using hent (fs ++ us ++ cs).toArray w
theorem al_v {ps:List PV} {us:List Value} (h:Al (RP F w) ps us):Al (fun r v=>RH ρ F w r.back v) (ps.map RV.v) us:=Al.map_left h
theorem ok_call {fx:Operand} {args:Array Operand} {ats:Array TypeId} (hA:SndA P C.cA) (hB:SndB P C.cB) (h:Rel' E C.n ρ F σ a w) (hd:dstB C.n d=true) (hvs:mapO (opv 0 σ) (#[fx] ++ args).toList=some vs) (he:yZ C.T C.cA C.cB C.me (d.getD 0) (.call ⟨.value fx,args,ats⟩) vs=some e) (hn:∀ i ∈ e.nw,yK σ.M i=none) :
  OK P E C σ a w e ⟨d,.call ⟨.value fx,args,ats⟩,ty,pos,af,g⟩:=by
 rw [show (#[fx] ++ args).toList=fx :: args.toList by simp] at hvs;simp only [mapO,vQQ,vQZ] at hvs;obtain ⟨rx,hrx,rs,hrs,rfl⟩:=hvs;obtain ⟨v,v1,v2,v3⟩:=kY h hrx;obtain ⟨us,u1,u2,u3⟩:=yXG h hrs;cases rx with
 | v p =>
  cases p with
  | f fn first cap =>
   simp only [yZ] at he;cases v2 with
   | f _ _ _ fs cs hl hm hf hc =>
    have hal:=((al_v (ρ:=ρ) ⟨hl,hf⟩).append u2).append (al_v ⟨hm,hc⟩);have hres:∀ r ∈ first.map RV.v ++ rs ++ cap.map RV.v,RRes σ.M r:=fun r hr=>by
     rcases List.mem_append.1 hr with hr | hr
     ·rcases List.mem_append.1 hr with hr | hr
      ·obtain ⟨_,_,rfl⟩:=List.mem_map.1 hr; trivial
      ·exact u3 r hr
     ·obtain ⟨_,_,rfl⟩:=List.mem_map.1 hr; trivial
    cases hrw:C.T.rw fn with
    | true=>rw [hrw] at he; exact call_relB hB h hd hal hres he fun hent=>yVY h v1 u1 hent
    | false=>rw [hrw] at he; exact call_rel hA h hd hal hres he hn fun hent=>yVY h v1 u1 hent
  | _=>simp only [yZ] at he; cases he
 | g fn first cap =>
  simp only [yZ] at he;obtain ⟨fs,cs,rfl,hf,hc⟩:=v2;have hal:=((al_v (ρ:=ρ) hf).append u2).append (Al.map_left (f:=fun c:RC=>(match c with | .v x=>RV.v x | .p id off cells=>RV.p id off cells)) (R:=fun r v=>RH ρ F w r.back v) (hc.map_left_inv.imp fun c v _ hh=>(by cases c <;> exact hh)));refine call_rel hA h hd hal (fun r hr => ?_) he hn fun hent=>yVY h v1 u1 hent
  rcases List.mem_append.1 hr with hr | hr
  ·rcases List.mem_append.1 hr with hr | hr
   ·obtain ⟨_,_,rfl⟩:=List.mem_map.1 hr; trivial
   ·exact u3 r hr
  ·obtain ⟨c,hcm,rfl⟩:=List.mem_map.1 hr
   have:=v3 c hcm
   cases c <;> exact this
 | _=>simp only [yZ] at he; cases he
theorem guard_wanted {ops:Array Oper} {o:Oper} {b:Bool} (h:Rel' E C.n ρ F σ a w) (hg:qUV ops σ o=some b):Region.wanted o (yielded ops a.tmps)=b:=by
 unfold qUV at hg;unfold Region.wanted;cases hgd:o.guard with
 | none=>rw [hgd] at hg; cases hg; rfl
 | some jb =>
  obtain ⟨j,c⟩:=jb;rw [hgd] at hg;simp only at hg ⊢;split at hg
  ·rename_i dd hdd;split at hg
   ·rename_i x hx;cases hg;obtain ⟨v,hv,hr⟩:=h.slots dd _ hx
    have:=zJY hr
    subst this;simp [yielded,hdd,Array.getD_eq_getD_getElem?,hv]
   ·rename_i hx;cases hg;obtain ⟨v,hv,hr⟩:=h.slots dd _ hx;cases hr with
    | t _ vs hl _ =>
     simp [yielded,hdd,hv]
   ·cases hg
  ·cases hg
theorem step_ok {op:Op} (hT:TabOk P C.T) (hA:SndA P C.cA) (hB:SndB P C.cB) (h:Rel' E C.n ρ F σ a w) (hd:dstB C.n d=true) (hvs:mapO (opv (mode op) σ) op.operands.toList=some vs) (he:yZ C.T C.cA C.cB C.me (d.getD 0) op vs=some e) (hn:∀ i ∈ e.nw,yK σ.M i=none) (hnd:∀ c,op ≠ .defer c) :
  OK P E C σ a w e ⟨d,op,ty,pos,af,g⟩:=by
 cases op with
 | defer c=>exact absurd rfl (hnd c)
 | move x=>exact ok_move h hd hvs he
 | assign x=>exact ok_assign h hd hvs he
 | pick c x y=>exact ok_pick h hd hvs he
 | alloc t=>exact ok_alloc hT h hd hvs he hn
 | box t x=>exact ok_box h hd hvs he hn
 | build t ps=>exact ok_build hT h hd hvs he
 | buildSlice t len ps=>exact ok_bslice hT h hd hvs he hn
 | load t x=>exact ok_load hT h hd hvs he
 | store t x y=>exact ok_store hT h hd hvs he
 | nilCheck x=>exact ok_nil h hd hvs he
 | binOp op t x y t'=>exact ok_bin hT h hd hvs he
 | unOp op t x =>
  cases op with
  | not=>exact ok_not h hd hvs he
  | neg=>exact ok_neg h hd hvs he
  | _=>simp only [yZ] at he; cases he
 | convert s t x=>exact ok_convert hT h hd hvs he
 | makeFunc fn first cap=>exact ok_makeFunc h hd hvs he
 | makeSlice t x y=>exact ok_make hT h hd hvs he hn
 | slice t x lo hi mx=>exact ok_slice hT h hd hvs he
 | fieldAddr t x f=>exact ok_fieldAddr hT h hd hvs he
 | field t x f=>exact ok_field hT h hd hvs he
 | indexAddr t x y=>exact ok_indexAddr hT h hd hvs he
 | index t x y=>exact ok_index hT h hd hvs he
 | range t x=>exact ok_range hT h hd hvs he hn
 | next x b=>exact ok_next h hd hvs he
 | extract x i=>exact ok_extract h hd hvs he
 | call c =>
  obtain ⟨callee,args,ats⟩:=c;cases callee with
  | value fx=>exact ok_call hA hB h hd hvs he hn
  | builtin b =>
   cases b with
   | len=>exact ok_len hT h hd hvs he
   | min=>exact ok_min h hd hvs he
   | max=>exact ok_max h hd hvs he
   | append=>exact ok_append hT h hd hvs he hn
   | _=>simp only [yZ] at he; cases he
  | _=>simp only [yZ] at he; cases he
 | _=>simp only [yZ] at he; cases he
theorem ok_defer (hT:TabOk P C.T) (hE:E.D=Harm P) (h:Rel' E C.n ρ F σ a w) {d:Option Tmp} {ty:TypeId} {pos:String} {af:Array Edge} {g:Option (Nat × Bool)} {c:Call} {vs:List RV} {e:Eff} (hd:dstB C.n d=true)
  (hvs:mapO (opv 0 σ) c.operands.toList=some vs) (he:yZ C.T C.cA C.cB C.me (d.getD 0) (.defer c) vs=some e):GoesD P E.D ⟨d,.defer c,ty,pos,af,g⟩ a w fun a' w'=>Rel E C.n (σ.apply e d) a' w':=by
 obtain ⟨callee,args,ats⟩:=c;cases callee with
 | value fx =>
  cases vs with
  | nil=>simp only [yZ] at he; cases he
  | cons x vs =>
   simp only [yZ] at he;obtain ⟨hargs,he1⟩:=qH he
   clear he
   have hargs0:args=#[]:=by simpa using hargs
   subst hargs0;have hvs':mapO (opv 0 σ) [fx]=some (x :: vs):=by simpa [Call.operands] using hvs
   obtain ⟨y,hy,hys⟩:=zVV hvs';cases hys;have key:∀ (f:Nat) (fs cs:List Value),a.eval fx=.func (.func f) fs.toArray cs.toArray→C.T.dd f=true→e=.val .un→GoesD P E.D ⟨d,.defer ⟨.value fx,#[],ats⟩,ty,pos,af,g⟩ a w fun a' w'=>Rel E C.n (σ.apply e d) a' w':=by
    intro f fs cs hev hdd he;subst he;obtain ⟨hent,hc⟩:=hT.dd f hdd;have hh:Harm P { target:=.fn (.func f) cs.toArray,args:=fs.toArray }:=⟨f,cs.toArray,rfl,hent,hc⟩
    refine .inr ⟨{ target:=.fn (.func f) cs.toArray,args:=fs.toArray },?_,by rw [hE]; exact hh,?_⟩
    ·simp [execOp,resolve,hev,Deferred.ofValue]
    ·have h':Rel' E C.n ρ F σ { a with defers:={ target:=.fn (.func f) cs.toArray,args:=fs.toArray } :: a.defers } w:=⟨h.size,fun d hd=>by
      rcases List.mem_cons.1 hd with rfl | hd
      ·rw [hE]; exact hh
      ·exact h.defers d hd,h.slots,h.mem⟩
     exact ⟨ρ,F,h'.val (x:=.un) (Grow.refl w) (fun _ h=>h) (fun _ h=>.inl h) trivial hd⟩
   cases x with
   | v p =>
    cases p with
    | f fn first cap =>
     simp only at he1;obtain ⟨hdd,he⟩:=qH he1;obtain ⟨v,v1,v2,v3⟩:=kY h hy;cases v2 with
     | f _ _ _ fs cs hl hm hf hc=>exact key fn fs cs (qKH h v1) hdd (by injection he with he; exact he.symm)
    | _=>simp only at he1; cases he1
   | g fn first cap =>
    simp only at he1;obtain ⟨hdd,he⟩:=qH he1;obtain ⟨v,v1,v2,v3⟩:=kY h hy;obtain ⟨fs,cs,rfl,hf,hc⟩:=v2;exact key fn fs cs (qKH h v1) hdd (by injection he with he; exact he.symm)
   | _=>simp only at he1; cases he1
 | _=>simp only [yZ] at he; cases he
theorem sim_all {ops:Array Oper} (hT:TabOk P C.T) (hE:E.D=Harm P) (hA:SndA P C.cA) (hB:SndB P C.cB):Sim P E C ops:=by
 intro o σ r a w hs hr;obtain ⟨ρ,F,h⟩:=hr;unfold zQX at hs;simp only [vQQ] at hs;obtain ⟨gb,hg,hs⟩:=hs;have hw:=guard_wanted h hg;obtain ⟨hd,hs⟩:=qH hs;cases gb with
 | true =>
  rw [if_pos hw];simp only [vYV,vQQ] at hs;obtain ⟨vs,hvs,e,he,hs⟩:=hs;obtain ⟨hn,hs⟩:=qH hs;cases hs;have hn':∀ i ∈ e.nw,yK σ.M i=none:=fun i hi=>by
   have:=List.all_eq_true.1 hn i hi
   simpa using this
  obtain ⟨d,op,ty,pos,af,g⟩:=o;by_cases hdf:∃ c,op=.defer c
  ·obtain ⟨c,rfl⟩:=hdf;exact ok_defer hT hE h hd hvs he
  ·exact .inl (step_ok hT hA hB h hd hvs he hn' (fun c hc=>hdf ⟨c,hc⟩))
 | false =>
  rw [if_neg (by rw [hw]; simp)];simp only [vYG,vQZ] at hs;subst hs;exact ⟨ρ,F,h.val (x:=.v (.t [])) (Grow.refl w) (fun _ h=>h) (fun _ h=>.inl h) (RP.t [] [] rfl fun i p v hp=>by simp at hp) hd⟩
end
end Go.Rx
namespace Go.Rx
open Go.RowKit Go.Sx
section
variable {P:Program} {E:Env} {n:Nat} {C:Cx} {ρ:Own} {F:Nat→Prop} {σ:St} {a:Act} {w:World}
theorem put_same {t:Nat} {v:Value} (h:a.tmps[t]? = some v):a.put (some t) v=a:=by
 have:a.tmps.setIfInBounds t v=a.tmps:=by
  refine Array.ext_getElem? fun i => ?_
  rw [Array.getElem?_setIfInBounds];split
  ·rename_i e;subst e;have hl:=(Array.getElem?_eq_some_iff.1 h).1;rw [if_pos hl,h]
  ·rfl
 simp [Act.put,this]
theorem dst_of (h:Rel' E n ρ F σ a w) {t:Nat} {v:Value} (hv:a.tmps[t]? = some v):dstB n (some t)=true:=by
 have hl:=(Array.getElem?_eq_some_iff.1 hv).1;rw [h.size] at hl
 simpa [dstB] using hl
theorem Rel'.tell (h:Rel' E n ρ F σ a w) {t:Nat} (ht:qYV σ.S t=some .nl):Rel' E n ρ F (σ.apply (.val (.v (.l []))) (some t)) a w:=by
 obtain ⟨v,hv,hr⟩:=h.slots t _ ht;have hr':v=.slice none 0 0:=hr;subst hr'
 have:=h.val (Grow.refl w) (fun _ h=>h) (fun _ h=>.inl h) (x:=.v (.l [])) (v:=.slice none 0 0) (RP.l0 _ _) (dst_of h hv)
 rwa [put_same hv] at this
theorem yZZ:∀ (l:List Nat) {σ:St},Rel E C.n σ a w→Rel E C.n (frzL l σ) a w
 | [],σ,h=>h
 | t :: l,σ,h=>by
  simp only [frzL];split
  ·rename_i hx;obtain ⟨ρ,F,h⟩:=h;exact yZZ l ⟨ρ,F,h.tell hx⟩
  ·rename_i id hx;split
   ·rename_i e sz rows hl;obtain ⟨ρ,F,h⟩:=h;exact yZZ l ⟨_,_,h.froze [(id,rows)] (fun r hr=>by simp only [List.mem_singleton] at hr; subst hr; exact ⟨e,sz,hl⟩)⟩
   ·exact yZZ l h
  ·exact yZZ l h
theorem yXW:∀ (l:List (Nat × Nat × Nat × Nat)) {σ:St},Rel E C.n σ a w→Rel E C.n (ownL l σ) a w
 | [],σ,h=>h
 | (t,id,e,sz) :: l,σ,h=>by
  simp only [ownL];split
  ·rename_i hx hl;cases hz:Nat.blt 0 sz with
   | false=>exact yXW l h
   | true =>
    have hz':0 < sz:=by rw [Nat.blt_eq] at hz; exact hz
    obtain ⟨ρ,F,h⟩:=h;obtain ⟨v,hv,hr⟩:=h.slots t _ hx;have hr':v=.slice none 0 0:=hr;subst hr'
    have:=h.adopt (id:=id) hl (ent:=.reg e sz (.l [])) (L:=.reg none 0 0 sz) (x:=.o id) (v:=.slice none 0 0) (Grow.refl w) (fun _ h=>h) (fun _ h=>.inl h) (fun b hb=>by cases hb)
     ⟨none,0,[],qQX _ _ _,hz',Al.nil,(fun r hr=>by cases hr),(fun r hr=>by cases hr),⟨by simp [Rows.len],.inl (by simp [Rows.len])⟩⟩ ⟨_,_,_,_,qQX _ _ _,rfl⟩ (dst_of h hv)
    rw [put_same hv] at this;exact yXW l ⟨_,_,this⟩
  ·exact yXW l h
def inI (ids:List Nat) (i:Nat):Bool:=ids.any (Nat.beq i)
theorem inI_iff {ids:List Nat} {i:Nat}:inI ids i=true ↔ i ∈ ids:=by
 simp only [inI,List.any_eq_true];constructor
 ·rintro ⟨x,hx,he⟩; rw [vQX he]; exact hx
 ·intro h; exact ⟨i,h,Nat.beq_refl i⟩
def jHX (ids:List Nat) (ρ:Own):Own:=fun id=>if id ∈ ids then ρ id else none
theorem zYH {ids:List Nat} {id:Nat} (h:id ∈ ids):jHX ids ρ id=ρ id:=by simp only [jHX,if_pos h]
theorem zVZ {ids:List Nat} {id:Nat} {L:Loc} (h:jHX ids ρ id=some L):id ∈ ids∧ρ id=some L:=by
 unfold jHX at h;split at h
 ·rename_i hm; exact ⟨hm,h⟩
 ·cases h
theorem only_rel {ids:List Nat} {x:HV} {v:Value} (h:RH ρ F w x v):RH (jHX ids ρ) F w (x.only ids) v:=by
 unfold HV.only;cases hc:x.every.all (fun i=>ids.any (Nat.beq i)) with
 | false=>trivial
 | true =>
  have hin:∀ i ∈ x.every,i ∈ ids:=fun i hi=>inI_iff.1 (List.all_eq_true.1 hc i hi)
  simp only [vYV];cases x with
  | v x=>exact h
  | nl=>exact h
  | un=>trivial
  | o id =>
   obtain ⟨ad,c,k,sz,h1,h2⟩:=h;exact ⟨ad,c,k,sz,by rw [zYH (hin id (by simp [HV.every]))]; exact h1,h2⟩
  | p id off =>
   obtain ⟨b,h1,h2⟩:=h;exact ⟨b,by rw [zYH (hin id (by simp [HV.every]))]; exact h1,h2⟩
  | q id j off =>
   obtain ⟨b,c,k,sz,h1,h2⟩:=h;exact ⟨b,c,k,sz,by rw [zYH (hin id (by simp [HV.every]))]; exact h1,h2⟩
  | g fn first cap =>
   obtain ⟨fs,cs,h1,h2,h3⟩:=h;refine ⟨fs,cs,h1,h2,h3.imp fun c v hm hr => ?_⟩;cases c with
   | v x=>exact hr
   | p id off =>
    obtain ⟨b,h4,h5⟩:=hr;exact ⟨b,by rw [zYH (hin id (mem_catL.2 ⟨_,hm,by simp [Cap.every]⟩))]; exact h4,h5⟩
theorem only_ent {ids:List Nat} {id:Nat} {e:Ent} (hid:id ∈ ids) (h:EntOk ρ F w id e):EntOk (jHX ids ρ) F w id (e.only ids):=by
 cases e with
 | blk cells =>
  obtain ⟨b,vs,ty,h1,h2,h3,h4⟩:=h;exact ⟨b,vs,ty,by rw [zYH hid]; exact h1,h2,Al.map_left (h3.imp fun _ _ _ h=>only_rel h),h4⟩
 | reg e sz rows =>
  obtain ⟨ad,c,vr,h1,h2⟩:=h;exact ⟨ad,c,vr,by rw [zYH hid]; exact h1,h2⟩
 | itr s pos =>
  obtain ⟨b,h1,h2⟩:=h;exact ⟨b,by rw [zYH hid]; exact h1,h2⟩
theorem keepI_look {M:Mem} {ids:List Nat} {i:Nat} {x:Ent} (h:yK (kZQ M ids) i=some x):i ∈ ids∧yK M i=some x:=by
 induction ids with
 | nil=>cases h
 | cons t ts ih =>
  simp only [kZQ] at h;split at h
  ·rename_i y hy;by_cases e:t=i
   ·subst e;simp only [yK,Nat.beq_refl,vYV,vQZ] at h;subst h;exact ⟨vZQ,hy⟩
   ·simp only [yK,qXW e,vYG] at h;exact ⟨vQH _ (ih h).1,(ih h).2⟩
  ·exact ⟨vQH _ (ih h).1,(ih h).2⟩
theorem keepI_mem {M:Mem} {ids:List Nat} {i:Nat} {x:Ent} (hm:i ∈ ids) (h:yK M i=some x):yK (kZQ M ids) i=some x:=by
 induction ids with
 | nil=>cases hm
 | cons t ts ih =>
  simp only [kZQ];by_cases e:t=i
  ·subst e; rw [h]; simp [yK]
  ·have hm':i ∈ ts:=by
    rcases List.mem_cons.1 hm with h | h
    ·exact absurd h.symm e
    ·exact h
   split
   ·simp only [yK,qXW e,vYG]; exact ih hm'
   ·exact ih hm'
theorem keepL_look {ts:List Nat} {t:Nat} {x:HV} (h:qYV (kGQ σ ts) t=some x):qYV σ.S t=some x:=by
 induction ts with
 | nil=>cases h
 | cons u ts ih =>
  simp only [kGQ] at h;split at h
  ·rename_i y hy;by_cases e:u=t
   ·subst e;rw [lookS_same] at h; cases h; exact hy
   ·rw [jKU e] at h; exact ih h
  ·exact ih h
theorem jUY:∀ (l:List (Nat × List PV)) {S:List (Nat × HV)} {M:Mem},Rel E C.n ⟨S,M⟩ a w→Rel E C.n ⟨S,funL l M⟩ a w
 | [],S,M,h=>h
 | (id,z) :: l,S,M,h=>by
  simp only [funL];split
  ·rename_i e sz rows hl;refine jUY l ?_;obtain ⟨ρ,F,h⟩:=h;refine ⟨ρ,F,h.size,h.defers,h.slots,⟨fun i x hx => ?_,fun i L hL => ?_,h.mem.apart,h.mem.off,h.mem.fz,h.mem.fz0,h.mem.grow,h.mem.pin⟩⟩
   ·rw [yHU] at hx;split at hx
    ·rename_i e1;cases hx;subst e1;obtain ⟨ad,c,vr,h1,h2,h3,h4,h5,h6⟩:=h.mem.ent id _ hl;have el:(rows.toF z).len=rows.len:=by rw [← Rows.len_L,Rows.toF_L,Rows.len_L]
     exact ⟨ad,c,vr,by rw [el]; exact h1,h2,by rw [Rows.toF_L]; exact h3,by rw [Rows.toF_L]; exact h4,h5,by rw [el]; exact h6⟩
    ·exact h.mem.ent i x hx
   ·obtain ⟨x,hx⟩:=h.mem.dom i L hL;show ∃ e,yK (putM id _ M) i=some e;rw [yHU];split
    ·exact ⟨_,rfl⟩
    ·exact ⟨x,hx⟩
  ·exact jUY l h
theorem prune_rel {hi:Hint} (h:Rel E C.n σ a w):Rel E C.n (qGJ hi σ) a w:=by
 have h1:=yXW (C:=C) hi.own (yZZ (C:=C) hi.frz h);unfold qGJ;generalize ownL hi.own (frzL hi.frz σ)=τ at h1;refine jUY (C:=C) hi.fun_ ?_;obtain ⟨ρ,F,h⟩:=h1;refine ⟨jHX (pid :: hi.ids) ρ,F,h.size,h.defers,fun t x hx => ?_,⟨fun id e hl => ?_,fun id L hL => ?_,fun id id' L L' b h1 h2 => ?_,fun id L b hL hb => ?_,h.mem.fz,h.mem.fz0,h.mem.grow,fun b hb => ?_⟩⟩
 ·simp only [lookS_map,vZW] at hx;obtain ⟨y,hy,rfl⟩:=hx;obtain ⟨v,hv,hr⟩:=h.slots t y (keepL_look hy);exact ⟨v,hv,only_rel hr⟩
 ·simp only [yHX,vZW] at hl;obtain ⟨y,hy,rfl⟩:=hl;obtain ⟨k1,k2⟩:=keepI_look hy;exact only_ent k1 (h.mem.ent id y k2)
 ·obtain ⟨k1,k2⟩:=zVZ hL;obtain ⟨e,he⟩:=h.mem.dom id L k2;exact ⟨_,by simp only [yHX]; rw [keepI_mem k1 he]; rfl⟩
 ·exact h.mem.apart id id' L L' b (zVZ h1).2 (zVZ h2).2
 ·exact h.mem.off id L b (zVZ hL).2 hb
 ·rw [zYH vZQ]; exact h.mem.pin b hb
def exOf:Ex→Exit
 | .normal=>.normal
 | .exit id=>.exit id
 | .ret=>.ret
theorem pruneX_rel {hi:Hint} (h:Rel E C.n σ a w):Rel E C.n (qUU hi σ) a w:=by
 unfold qUU;split
 ·exact h
 ·exact prune_rel h
theorem runC_sound {N:Nat} {r:Ret × Mem} (hT:TabOk P C.T) (hE:E.D=Harm P) (hA:SndA P C.cA) (hB:SndB P C.cB) (hm:P.follows .mixedOrders=true):∀ (c:Code) (K:Ex→St→Option (Ret × Mem)) (σ:St) (a:Act) (w:World) (Q:Exit→Act→World→Prop),runC N C c K σ=some r→Rel E C.n σ a w →
  (∀ e τ a w,K e τ=some r→Rel E C.n τ a w→Q (exOf e) a w)→c.wp P Q a w:=by
 intro c;induction c with
 | skip=>intro K σ a w Q h hr hK; exact wp_skip (hK .normal σ a w h hr)
 | label l=>intro K σ a w Q h hr hK; exact wp_label (hK .normal σ a w h hr)
 | scope x ih =>
  intro K σ a w Q h hr hK;exact wp_scope_straight (ih K σ a w _ h hr fun e τ a w hk hr'=>by cases e <;> exact hK _ τ a w hk hr')
 | ret=>intro K σ a w Q h hr hK; exact wp_ret (hK .ret σ a w h hr)
 | exit id=>intro K σ a w Q h hr hK; exact wp_exit (hK (.exit id) σ a w h hr)
 | region id ops d =>
  intro K σ a w Q h hr hK;cases d with
  | true =>
   simp only [runC,vYV] at h;exact wp_draw hm (sim_all hT hE hA hB) h hr (fun h=>h.grow (Grow.drew (Grow.refl _))) fun τ a w hk hr=>hK .normal τ a w hk hr
  | false =>
   simp only [runC,vYG] at h;exact wp_region_list (jGJ (sim_all hT hE hA hB) (fun τ a w hk hr=>hK .normal τ a w hk hr) _ _ _ _ h hr)
 | seq x y ihx ihy =>
  intro K σ a w Q h hr hK;refine wp_seq (ihx _ σ a w _ h hr fun e τ a' w' hk hr' => ?_);cases e with
  | normal=>exact ihy K τ a' w' Q hk hr' hK
  | exit id=>exact hK (.exit id) τ a' w' hk hr'
  | ret=>exact hK .ret τ a' w' hk hr'
 | cond c x y ihx ihy =>
  intro K σ a w Q h hr hK;simp only [runC,vQQ] at h;obtain ⟨v,hv,h⟩:=h;have hr0:=hr;obtain ⟨ρ,F,hr'⟩:=hr;obtain ⟨u,u1,u2,u3⟩:=kY hr' hv;split at h
  ·rename_i t
   have:=zJY u2
   subst this;refine wp_cond (t:=t) (qKH hr' u1) ?_;cases t with
   | true=>exact ihx K σ a w Q h hr0 hK
   | false=>exact ihy K σ a w Q h hr0 hK
  ·cases h
 | block id x ih =>
  intro K σ a w Q h hr hK;refine wp_block (ih _ σ a w _ h hr fun e τ a' w' hk hr' => ?_);cases e with
  | normal=>exact hK .normal τ a' w' hk hr'
  | ret=>exact hK .ret τ a' w' hk hr'
  | exit id' =>
   simp only at hk;by_cases e:id'=id
   ·subst e;rw [Nat.beq_refl] at hk
    simpa [exOf,Exit.inBlock] using hK .normal τ a' w' hk hr'
   ·rw [qXW e] at hk
    simpa [exOf,Exit.inBlock,e] using hK (.exit id') τ a' w' hk hr'
 | loop x ih =>
  intro K σ a w Q h hr hK;simp only [runC] at h;have key:∀ M σ a w,yKX (fun again σ=>runC N C x (fun e σ=>match e with
   | .normal=>again σ
   | e=>K e (qUU (C.T.hint C.me (zY x)) σ)) (qGJ (C.T.hint C.me (zY x)) σ)) M σ=some r→Rel E C.n σ a w→Code.rounds P x Q M a w:=by
   intro M;induction M with
   | zero=>intro σ a w h; cases h
   | succ M ihM =>
    intro σ a w h hr;rw [rounds_succ];refine ih _ _ a w _ h (prune_rel hr) fun e τ a' w' hk hr' => ?_
    cases e with
    | normal=>exact ihM τ a' w' hk hr'
    | exit id=>exact hK (.exit id) _ a' w' hk (pruneX_rel hr')
    | ret=>exact hK .ret _ a' w' hk (pruneX_rel hr')
  exact wp_loop_rounds N (key N σ a w h hr)
 | _=>intro K σ a w Q h; simp only [runC] at h; cases h
end
end Go.Rx
namespace Go.Rx
open Go.RowKit Go.Sx
section
variable {P:Program} {E:Env} {T:Tab} {ρ:Own} {F:Nat→Prop} {σ:St} {a:Act} {w:World}
theorem uJY {M:Mem} {cs:List CV} {ps:List PV} {us:List Value} {F':Nat→Prop} (hm:MemOk E ρ F M w) (hF:∀ k,F k→F' k) (hall:∀ id ad c k s b,ρ id=some (.reg ad c k s)→ad.map (·.block)=some b→F' b) (hcv:Al (fun c v=>RH ρ F w c.back v∧∀ id e sz rows,c=.o id e sz rows→yK M id=some (.reg e sz rows)) cs us) (hp:mapO CV.fz cs=some ps):Al (RP F' w) ps us:=by
 have h1:=kW hp;refine ⟨by rw [← h1.1,hcv.1],fun i p v hpi hv => ?_⟩;have hil:=(List.getElem?_eq_some_iff.1 hpi).1;have hl:i < cs.length:=by rw [h1.1]; exact hil
 have hfz:=h1.2 i _ p (vQK hl) hpi;obtain ⟨hrh,ho⟩:=hcv.2 i _ v (vQK hl) hv;generalize cs[i]=c at hfz hrh ho;unfold CV.fz at hfz;split at hfz
 ·cases hfz; exact RP.mono (fun k hk=>⟨hF k hk,rfl⟩) hrh
 ·cases hfz; have:v=.slice none 0 0:=hrh; subst this; exact .l0 _ _
 ·rename_i id e' sz rows;cases hfz;obtain ⟨ad,c',k,sz',hρ,rfl⟩:=hrh;exact (qJW (hm.ent id _ (ho _ _ _ _ rfl)) hF (fun L b hL hb=>by rw [hρ] at hL; cases hL; exact hall id _ _ _ _ b hρ hb) ad c' k sz' hρ).1
 ·cases hfz
def ResR (E:Env) (ρ:Own) (F:Nat→Prop) (M:Mem) (w:World) (r:RV) (v:Value):Prop :=
 (RH ρ F w r.back v∧RRes M r) ∨ (∃ p,r=.v p∧∀ F':Nat→Prop,(∀ k,F k→F' k)→(∀ id ad c k s b,ρ id=some (.reg ad c k s)→ad.map (·.block)=some b→F' b)→RP F' w p v)
theorem res_rel {n:Nat} (hT:TabOk P T) (h:Rel' E n ρ F σ a w) {x:ResultVar} {r:RV} (hx:kUK T σ x=some r):∃ v,(resF a.tmps x).run P w=.ok v w∧ResR E ρ F σ.M w r v:=by
 cases x with
 | tmp t =>
  simp only [kUK,vQQ] at hx;obtain ⟨y,hy,hr⟩:=hx;obtain ⟨v,hv,hrh⟩:=h.slots t y hy;obtain ⟨hb,hres⟩:=yXU hr;refine ⟨v,by simp [resF,Array.getD_eq_getD_getElem?,hv],.inl ⟨by rw [hb]; exact hrh,hres⟩⟩
 | cell x t =>
  simp only [kUK,vQQ] at hx;obtain ⟨y,hy,p,hp,⟨kb,k⟩,hk,hx⟩:=hx;obtain ⟨v,hv,hrh⟩:=h.slots x y hy;obtain ⟨hb,hres⟩:=yXU hp;rw [← hb] at hrh;obtain ⟨hty,hk1⟩:=hT.sz t kb k hk;cases p with
  | p id off cells =>
   obtain ⟨b,hρ,rfl⟩:=hrh;obtain ⟨hc,hlk,hcc⟩:=hres;obtain ⟨b2,us,ty',hρ2,hheap,hal,hone⟩:=h.mem.ent id _ hlk;rw [hρ] at hρ2;cases hρ2;cases kb with
   | false =>
    have hk1':=hk1 rfl;subst hk1';simp only [vYG,vQQ,vQZ] at hx;obtain ⟨c,hcs,q,hq,rfl⟩:=hx;have hcv:=zHJ hcc hal;obtain ⟨u,hu,hru⟩:=hcv.get hcs;have hr:=zUV (w:=w) hheap off;rw [hu] at hr;refine ⟨u,by simp [resF,Array.getD_eq_getD_getElem?,hv,asAddr,loadVar,zQZ hty,hr],.inr ⟨_,rfl,fun F' hF hall => ?_⟩⟩;exact (uJY h.mem hF hall (cs:=[c]) (us:=[u]) ⟨rfl,fun i c' u' hc' hu'=>by
     cases i with
     | zero=>simp at hc' hu'; subst hc' hu'; exact hru
     | succ i=>simp at hc'⟩ (ps:=[q]) (by simp [mapO,hq])).2 0 q u rfl rfl
   | true =>
   simp only [vYV,vQQ,vQZ] at hx;obtain ⟨cs,hcs,ps,hps,rfl⟩:=hx;obtain ⟨rfl,hle⟩:=zZU hcs;have hcv:=zHJ hcc hal;have hlen:cells.length=us.length:=hcv.1;have hr:=qHX (P:=P) (w:=w) (b:=b) (off:=off) (k:=k) (vs:=(us.drop off).take k) (fun i hi=>by
    rw [zUV hheap];simp [vZV,hi]) (by simp; omega)
   refine ⟨.agg ((us.drop off).take k).toArray,by simp [resF,Array.getD_eq_getD_getElem?,hv,asAddr,loadVar,zQZ hty,qWV hty,hr],.inr ⟨_,rfl,fun F' hF hall => ?_⟩⟩;exact yQZ (uJY h.mem hF hall ((hcv.drop off).take k) hps) fun u hu=>hone u (List.mem_of_mem_drop (List.mem_of_mem_take hu))
  | _=>simp only at hx; cases hx
theorem ress_rel {n:Nat} (hT:TabOk P T) (h:Rel' E n ρ F σ a w):∀ {xs:List ResultVar} {rs:List RV},mapO (kUK T σ) xs=some rs→∃ vs,(xs.mapM (resF a.tmps)).run P w=.ok vs w∧Al (ResR E ρ F σ.M w) rs vs
 | [],rs,hx=>by simp [mapO] at hx; subst hx; exact ⟨[],by simp,Al.nil⟩
 | x :: xs,rs,hx=>by
  simp only [mapO,vQQ,vQZ] at hx;obtain ⟨r,hr,rs',hrs,rfl⟩:=hx;obtain ⟨v,h1,h2⟩:=res_rel hT h hr;obtain ⟨vs,h3,h4⟩:=ress_rel hT h hrs;exact ⟨v :: vs,by simp [List.mapM_cons,Sem.run_bind,h1,h3],Al.cons h2 h4⟩
def outF (E:Env) (ρ:Own) (F:Nat→Prop):Nat→Prop:=fun k=>F k ∨ ∃ id L,ρ id=some L∧L.bl=some k∧¬ E.W k
theorem reg_W {M:Mem} (hm:MemOk E ρ F M w) {id:Nat} {ad:Option Addr} {c k s b:Nat} (h:ρ id=some (.reg ad c k s)) (hb:ad.map (·.block)=some b):¬ E.W b:=fun hw=>by
 have h1:=hm.pin b hw
 have:=hm.apart id pid _ _ b h h1 hb rfl
 subst this;rw [h] at h1; cases h1
theorem F_W {M:Mem} (hm:MemOk E ρ F M w) {k:Nat} (h:F k):E.F0 k ∨ E.w0.heap.size≤k:=by
 rcases (hm.fz k h).2 with h1 | h1 | h1
 ·exact .inl h1
 ·exact .inr h1
 ·exact absurd h (hm.off pid _ k (hm.pin k h1) rfl).1
theorem yXV {M:Mem} (hm:MemOk E ρ F M w) {k:Nat} (h:outF E ρ F k):E.F0 k ∨ (E.w0.heap.size≤k∧k < w.heap.size):=by
 rcases h with h | ⟨id,L,hL,hb,hW⟩
 ·rcases F_W hm h with h1 | h1
  ·exact .inl h1
  ·exact .inr ⟨h1,(hm.fz k h).1⟩
 ·have:=hm.off id L k hL hb
  rcases this.2.2 with h1 | h1
  ·exact .inr ⟨h1,this.2.1⟩
  ·exact absurd h1 hW
theorem resR_fz {M:Mem} (hm:MemOk E ρ F M w) {r:RV} {p:PV} {v:Value} (hr:ResR E ρ F M w r v) (hp:r.fz=some p) (hs:r.still=true ∨ ∀ k,¬ E.W k):RP (outF E ρ F) w p v:=by
 have hreg:∀ id ad c k s b,ρ id=some (.reg ad c k s)→ad.map (·.block)=some b→outF E ρ F b:=fun id ad c k s b h hb=>.inr ⟨id,_,h,hb,reg_W hm h hb⟩
 rcases hr with ⟨h1,h2⟩ | ⟨p',rfl,h1⟩
 ·refine kGK hm (fun k hk=>.inl hk) hp h1 h2 ?_;rcases hs with hs | hs
  ·refine .inl ⟨hs,fun x hx L b hL hb => ?_⟩;obtain ⟨e,sz,hl⟩:=jHK h2 x hx;obtain ⟨ad,c,vr,hρ,_⟩:=hm.ent x.1 _ hl;rw [hL] at hρ;cases hρ;exact hreg _ _ _ _ _ b hL hb
  ·exact .inr fun id L b hL hb=>.inr ⟨id,L,hL,hb,hs b⟩
 ·cases hp; exact h1 _ (fun k hk=>.inl hk) hreg
theorem ress_fz {M:Mem} (hm:MemOk E ρ F M w):∀ {rs:List RV} {ps:List PV} {vs:List Value},Al (ResR E ρ F M w) rs vs→mapO RV.fz rs=some ps→(rs.all RV.still=true ∨ ∀ k,¬ E.W k)→Al (RP (outF E ρ F) w) ps vs
 | [],ps,vs,hal,hp,_=>by cases hp; rw [hal.nil_left]; exact Al.nil
 | r :: rs,ps,vs,hal,hp,hs=>by
  simp only [mapO,vQQ,vQZ] at hp;obtain ⟨p,hp,ps',hps,rfl⟩:=hp;obtain ⟨v,vs',rfl,hr,hal'⟩:=hal.cons_left;have h1:r.still=true ∨ ∀ k,¬ E.W k:=hs.imp (fun h=>by simp only [List.all_cons,vQJ] at h; exact h.1) id;have h2:rs.all RV.still=true ∨ ∀ k,¬ E.W k:=hs.imp (fun h=>by simp only [List.all_cons,vQJ] at h; exact h.2) id;exact Al.cons (resR_fz hm hr hp h1) (ress_fz hm hal' hps h2)
theorem ret_o {M:Mem} (hm:MemOk E ρ F M w) {id e sz:Nat} {rows:Rows} {v:Value} (hr:ResR E ρ F M w (.o id e sz rows) v):RRet F E.w0 w (.ow e sz rows) v:=by
 rcases hr with ⟨h1,h2⟩ | ⟨p,hp,_⟩
 ·obtain ⟨ad,c,k,sz',hρ,rfl⟩:=h1;obtain ⟨ad2,c2,vr,hρ2,h0,hal,hrl,hone,hown⟩:=hm.ent id _ h2;rw [hρ] at hρ2;cases hρ2;refine ⟨ad,c,vr,rfl,h0,hal,hrl,hone,hown,fun b hb => ?_⟩
  have:=hm.off id _ b hρ hb
  refine ⟨this.1,?_,this.2.1⟩;rcases this.2.2 with h | h
  ·exact h
  ·exact absurd h (reg_W hm hρ hb)
 ·cases hp
def regF (ρ:Own) (F:Nat→Prop):Nat→Prop:=fun k=>F k ∨ ∃ id ad c n s,ρ id=some (.reg ad c n s)∧ad.map (·.block)=some k
theorem ret_p {M:Mem} (hm:MemOk E ρ F M w) {id:Nat} {cells:List CV} {ps:List PV} {v:Value} (hr:ResR E ρ F M w (.p id 0 cells) v) (hp:mapO CV.fz cells=some ps) (hW:∀ k,¬ E.W k):RRet (regF ρ F) E.w0 w (.pb ps) v:=by
 rcases hr with ⟨h1,h2⟩ | ⟨p,hp,_⟩
 ·obtain ⟨b,hρ,rfl⟩:=h1;obtain ⟨hc,hlk,hcc⟩:=h2;obtain ⟨b2,us,ty',hρ2,hheap,hal,hone⟩:=hm.ent id _ hlk;rw [hρ] at hρ2;cases hρ2;have hoff:=hm.off id _ b hρ rfl;refine ⟨b,us,ty',rfl,hheap,uJY hm (fun k hk=>.inl hk) (fun id ad c k s b h hb=>.inr ⟨id,ad,c,k,s,h,hb⟩) (zHJ hcc hal) hp,hone,fun hf => ?_,?_,hoff.2.1⟩
  ·rcases hf with hf | ⟨id',ad,c,k,s,h,hb⟩
   ·exact hoff.1 hf
   ·have:=hm.apart id id' _ _ b hρ h rfl hb
    subst this;rw [hρ] at h; cases h
  ·exact hoff.2.2.resolve_right (hW b)
 ·cases hp
theorem valOf_eq {xs:List ResultVar} {vs:List Value} {fn:Func} (hfn:fn.results=xs.toArray) (h:(xs.mapM (resF a.tmps)).run P w=.ok vs w):(results fn a.tmps).run P w=.ok (Sx.valOf vs) w:=by
 unfold results;rw [hfn];change Sem.run P (do let us ← xs.toArray.mapM (resF a.tmps); pure (if h:us.size=1 then us[0] else .tuple us)) w=_;simp only [Sem.run_bind,List.mapM_toArray,Sem.run_map,h,Result.andThen_ok]
 match vs with
 | []=>rfl
 | [v]=>rfl
 | v :: u :: vs=>simp [Sx.valOf]
theorem ret_all {M:Mem} (hm:MemOk E ρ F M w) {rs:List RV} {vs:List Value} {r:Ret} (hal:Al (ResR E ρ F M w) rs vs) (hr:kUJ rs=some r) (hs:rs.all RV.still=true ∨ ∀ k,¬ E.W k) :
  ∃ F',(∀ k,F k→F' k)∧(∀ k,F' k→E.F0 k ∨ (E.w0.heap.size≤k∧k < w.heap.size))∧RRet F' E.w0 w r (Sx.valOf vs):=by
 have gen:∀ ps,mapO RV.fz rs=some ps→Al (RP (outF E ρ F) w) ps vs:=fun ps hps=>ress_fz hm hal hps hs
 have tup:∀ ps,mapO RV.fz rs=some ps→Sx.valOf vs=.tuple vs.toArray→r=.v (.t ps)→∃ F',(∀ k,F k→F' k)∧(∀ k,F' k→E.F0 k ∨ (E.w0.heap.size≤k∧k < w.heap.size))∧RRet F' E.w0 w r (Sx.valOf vs):=fun ps hps hv hr=>by
  subst hr;rw [hv];exact ⟨outF E ρ F,fun k hk=>.inl hk,fun k hk=>yXV hm hk,.t ps vs (gen ps hps).1 (gen ps hps).2⟩
 have one:∀ x p v,rs=[x]→vs=[v]→x.fz=some p→r=.v p→∃ F',(∀ k,F k→F' k)∧(∀ k,F' k→E.F0 k ∨ (E.w0.heap.size≤k∧k < w.heap.size))∧RRet F' E.w0 w r (Sx.valOf vs):=fun x p v hx hv hp hr=>by
  subst hr hx hv
  have:=gen [p] (by simp [mapO,hp])
  exact ⟨outF E ρ F,fun k hk=>.inl hk,fun k hk=>yXV hm hk,this.2 0 p v rfl rfl⟩
 cases rs with
 | nil =>
  have:=hal.nil_left
  subst this;simp only [kUJ,mapO,vYQ,vQZ] at hr;exact tup [] rfl rfl hr.symm
 | cons x rs =>
  obtain ⟨v,vs',rfl,hx,hal'⟩:=hal.cons_left;cases rs with
  | nil =>
   have:=hal'.nil_left
   subst this;have oth:(x.fz.bind fun y=>some (Ret.v y))=some r→∃ F',(∀ k,F k→F' k)∧(∀ k,F' k→E.F0 k ∨ (E.w0.heap.size≤k∧k < w.heap.size))∧RRet F' E.w0 w r (Sx.valOf [v]):=fun hr=>by
    simp only [vQQ,vQZ] at hr;obtain ⟨y,hy,rfl⟩:=hr;exact one x y v rfl rfl hy rfl
   cases x with
   | o id e sz rows =>
    cases hr;exact ⟨F,fun k hk=>hk,fun k hk=>by
     rcases F_W hm hk with h | h
     ·exact .inl h
     ·exact .inr ⟨h,(hm.fz k hk).1⟩,ret_o hm hx⟩
   | p id off cells =>
    cases off with
    | zero =>
     simp only [kUJ,vQQ,vQZ] at hr;obtain ⟨cs,hcs,rfl⟩:=hr;have hW:∀ k,¬ E.W k:=hs.resolve_left (by simp [RV.still]);refine ⟨regF ρ F,fun k hk=>.inl hk,fun k hk => ?_,ret_p hm hx hcs hW⟩;rcases hk with hk | ⟨id',ad,c,n,s,h,hb⟩
     ·exact yXV hm (.inl hk)
     ·exact yXV hm (.inr ⟨id',_,h,hb,hW k⟩)
    | succ off=>exact oth hr
   | _=>exact oth hr
  | cons y rs =>
   obtain ⟨u,vs'',rfl,hy,hal''⟩:=hal'.cons_left;simp only [kUJ,vQQ,vQZ] at hr;obtain ⟨ys,hys,rfl⟩:=hr;exact tup ys hys rfl rfl
theorem lookS_init:∀ {hs:List HV} {k t:Nat} {x:HV},qYV (initS k hs) t=some x→k≤t∧hs[t - k]? = some x
 | [],k,t,x,h=>by cases h
 | y :: hs,k,t,x,h=>by
  simp only [initS] at h;by_cases e:k=t
  ·subst e; rw [lookS_same] at h; simpa using h
  ·rw [jKU e] at h;obtain ⟨h1,h2⟩:=lookS_init h;refine ⟨by omega,?_⟩;rw [show t - k=(t - (k + 1)) + 1 by omega]
   simpa using h2
theorem yWQ {N f:Nat} {orc:Orc} {hs:List HV} {M M':Mem} {r:Ret} {vals:List Value} (hT:TabOk P T) (hm:P.follows .mixedOrders=true) (hE:E.D=Harm P) (hA:SndA P (zKY orc (runF T orc N))) (hB:SndB P (zHU orc (runF T orc N)))
  (h:runF T orc (N + 1) f hs M=some (r,M')):kH P f∧∀ (hal:Al (RH ρ F w) hs vals) (hmem:MemOk E ρ F M w) (hW:M.isEmpty=true→∀ k,¬ E.W k),
   Calls P f vals.toArray w (fun e w'=>∃ v F' ρ' F1,e=.returned v∧GrowB E.W E.w0 w'∧MemOk E ρ' F1 M' w'∧(∀ k,F1 k→F' k)∧(∀ k,F' k→E.F0 k ∨ (E.w0.heap.size≤k∧k < w'.heap.size))∧RRet F' E.w0 w' r v):=by
 simp only [runF] at h;split at h
 ·cases h
 ·rename_i fi hfi;obtain ⟨hle,h⟩:=qH h;obtain ⟨hent,fn,hf,hb,hn,hres⟩:=hT.fn f fi hfi;refine ⟨hent,fun hal hmem hW=>calls_of_wp_defers hf hb ?_⟩;have hle':hs.length≤fi.ntmps:=vZX hle;have hl:vals.length=hs.length:=hal.1.symm;refine runC_sound (E:=E) (C:=⟨T,zKY orc (runF T orc N),zHU orc (runF T orc N),f,fi.ntmps⟩) hT hE hA hB hm fi.body _ _ _ _ _ h ⟨ρ,F,by simp [hn]; omega,fun d hd=>by simp at hd,fun t x hx => ?_,hmem⟩ fun e τ a' w' hk hr' => ?_
  ·obtain ⟨_,h2⟩:=lookS_init hx;simp only [Nat.sub_zero] at h2;obtain ⟨v,hv,hrv⟩:=hal.get h2;have hlt:=(List.getElem?_eq_some_iff.1 hv).1;refine ⟨v,?_,hrv⟩;rw [vQK hlt] at hv;simp [Array.getElem?_append,hlt]
   simpa using hv
  ·obtain ⟨ρ',F',hr'⟩:=hr';have key:∀ rs,mapO (kUK T τ) fi.results=some rs→∀ r',kUJ rs=some r'→(bif M.isEmpty || rs.all RV.still then some (r',τ.M) else none)=some (r,M')→Leaves P fn a'.tmps (fun e w'=>∃ v2 F' ρ' F1,e=.returned v2∧GrowB E.W E.w0 w'∧MemOk E ρ' F1 M' w'∧(∀ k,F1 k→F' k)∧(∀ k,F' k→E.F0 k ∨ (E.w0.heap.size≤k∧k < w'.heap.size))∧RRet F' E.w0 w' r v2) a'.defers .returning w':=by
    intro rs hrs r' hr2 hb2;obtain ⟨hor,hb2⟩:=qH hb2;cases hb2;obtain ⟨vs,h1,h2⟩:=ress_rel hT hr' hrs;have hst:rs.all RV.still=true ∨ ∀ k,¬ E.W k:=by
     rcases Bool.or_eq_true _ _ ▸ hor with h | h
     ·exact .inr (hW h)
     ·exact .inl h
    obtain ⟨F2,f1,f2,f3⟩:=ret_all hr'.mem h2 hr2 hst;exact harm_leaves (valOf_eq hres h1) ⟨Sx.valOf vs,F2,ρ',F',rfl,hr'.mem.grow,hr'.mem,f1,f2,f3⟩ a'.defers fun d hd=>by rw [← hE]; exact hr'.defers d hd
   cases e with
   | exit id=>simp only [endK] at hk; cases hk
   | normal =>
    simp only [endK,vQQ] at hk;obtain ⟨rs,hrs,r',hr2,hb2⟩:=hk;exact key rs hrs r' hr2 hb2
   | ret =>
    simp only [endK,vQQ] at hk;obtain ⟨rs,hrs,r',hr2,hb2⟩:=hk;exact key rs hrs r' hr2 hb2
theorem RRet.pv {w0:World} {r:Ret} {x:PV} {v:Value} (h:RRet F w0 w r v) (hx:uZW r=some x):∃ F2:Nat→Prop,(∀ k,F k→F2 k)∧(∀ k,F2 k→F k ∨ (w0.heap.size≤k∧k < w.heap.size))∧RP F2 w x v:=by
 cases r with
 | v y=>cases hx; exact ⟨F,fun _ h=>h,fun _ h=>.inl h,h⟩
 | ow e sz rows =>
  cases hx;obtain ⟨ad,c,vr,rfl,h0,hal,hrl,hone,hown,hb⟩:=h;refine ⟨fun k=>F k ∨ ad.map (·.block)=some k,fun k hk=>.inl hk,fun k hk => ?_,?_⟩
  ·rcases hk with hk | hk
   ·exact .inl hk
   ·exact .inr (hb k hk).2
  ·exact (qJW (ρ:=fun i=>if i=0 then some (.reg ad c rows.len sz) else none) (id:=0) (e:=e) (sz:=sz) (F:=F) ⟨ad,c,vr,by simp,h0,hal,hrl,hone,hown⟩ (fun k hk=>.inl hk) (fun L b hL hbl=>by simp at hL; subst hL; exact .inr hbl) ad c rows.len sz (by simp)).1
 | pb cells=>cases hx
def zH (P:Program) (g:Nat) (ps:List PV) (r:Ret):Prop:=kH P g∧∀ (w:World) (F:Nat→Prop) (vals:List Value),(∀ k,F k→k < w.heap.size)→Al (RP F w) ps vals →
 Calls P g vals.toArray w (fun e w'=>∃ v F',e=.returned v∧Grow w w'∧(∀ k,F k→F' k)∧(∀ k,F' k→F k ∨ (w.heap.size≤k∧k < w'.heap.size))∧RRet F' w w' r v)
def SndB1 (P:Program) (g:Nat) (hs:List HV) (ps:List PV) (x:PV) (ps':List PV):Prop:=kH P g∧∀ (w:World) (F:Nat→Prop) (b:Nat) (vals us:List Value) (ty:TypeId),(∀ k,F k→k < w.heap.size)→¬ F b→b < w.heap.size →
 w.heap[b]? = some (.cells us.toArray ty)→Al (RP F w) ps us→(∀ u ∈ us,u.oneCell'=true)→(∀ h ∈ hs,∀ id off,h=.p id off→id=pid)→Al (ArgB F w b) hs vals →
 Calls P g vals.toArray w (fun e w'=>∃ v F' us' ty',e=.returned v∧GrowB (· = b) w w'∧(∀ k,F k→F' k)∧(∀ k,F' k→F k ∨ (w.heap.size≤k∧k < w'.heap.size))∧RP F' w' x v ∧
  w'.heap[b]? = some (.cells us'.toArray ty')∧Al (RP F' w') ps' us'∧∀ u ∈ us',u.oneCell'=true)
structure OrcOk (P:Program) (orc:Orc):Prop where
 a:∀ g o,orc.a g=some o→∀ ps r,o ps=some r→zH P g ps r
 b:∀ g o,orc.b g=some o→∀ hs ps x ps',o hs ps=some (x,ps')→SndB1 P g hs ps x ps'
theorem fn_soundA {N f:Nat} {orc:Orc} {ps:List PV} {r:Ret} (hT:TabOk P T) (hm:P.follows .mixedOrders=true) (hA:SndA P (zKY orc (runF T orc N))) (hB:SndB P (zHU orc (runF T orc N)))
  (h:run T orc (N + 1) f ps=some r):zH P f ps r:=by
 simp only [run,vQQ,vQZ] at h;obtain ⟨⟨r',M'⟩,h,rfl⟩:=h;refine ⟨(yWQ (E:=⟨default,fun _=>False,fun _=>False,Harm P⟩) (ρ:=fun _=>none) (F:=fun _=>False) (w:=default) (vals:=[]) hT hm rfl hA hB h).1,fun w F vals hF hal => ?_⟩;refine Calls.mono ((yWQ (E:=⟨w,F,fun _=>False,Harm P⟩) (ρ:=fun _=>none) (F:=F) (w:=w) (vals:=vals) hT hm rfl hA hB h).2 (Al.map_left hal) ⟨(fun id e hl=>by cases hl),(fun id L hL=>by cases hL),(fun id id' L L' b h=>by cases h),(fun id L b h=>by cases h),fun k hk=>⟨hF k hk,.inl hk⟩,fun k hk=>hk,GrowB.refl _ _,fun b hb=>hb.elim⟩ (fun _ k hk=>hk)) ?_
 rintro e w' ⟨v,F',ρ',F1,rfl,g,hmem,f1,f2,hr⟩
 exact ⟨v,F',rfl,⟨g.os,g.tape,g.output,g.size,fun k hk=>g.block k hk (fun h=>h)⟩,fun k hk=>f1 k (hmem.fz0 k hk),f2,hr⟩
theorem fn_soundB {N f:Nat} {orc:Orc} {hs:List HV} {ps ps':List PV} {x:PV} (hT:TabOk P T) (hm:P.follows .mixedOrders=true) (hA:SndA P (zKY orc (runF T orc N))) (hB:SndB P (zHU orc (runF T orc N)))
  (h:runB T orc (N + 1) f hs ps=some (x,ps')):SndB1 P f hs ps x ps':=by
 simp only [runB,vQQ,vQZ,vQY] at h;obtain ⟨⟨r',M'⟩,h,ps2,hps,x2,hx2,rfl,rfl⟩:=h;refine ⟨(yWQ (E:=⟨default,fun _=>False,fun _=>False,Harm P⟩) (ρ:=fun _=>none) (F:=fun _=>False) (w:=default) (vals:=[]) hT hm rfl hA hB h).1,fun w F b vals us ty hF hFb hb hheap hpu hone hpid hal => ?_⟩
 let ρ:Own:=fun i=>if i=pid then some (.blk b) else none
 have hρ:ρ pid=some (.blk b):=if_pos rfl;have inv:∀ id L,ρ id=some L→id=pid∧L=.blk b:=fun id L hL=>by
  by_cases e:id=pid
  ·subst e; rw [hρ] at hL; cases hL; exact ⟨rfl,rfl⟩
  ·simp only [ρ,if_neg e] at hL; cases hL
 refine Calls.mono ((yWQ (E:=⟨w,F,(· = b),Harm P⟩) (ρ:=ρ) (F:=F) (w:=w) (vals:=vals) hT hm rfl hA hB h).2 ⟨hal.1,fun i y v hy hv => ?_⟩ ⟨fun id e hl => ?_,fun id L hL => ?_,fun id id' L L' b h1 h2 _ _ => ?_,fun id L b' hL hb' => ?_,fun k hk=>⟨hF k hk,.inl hk⟩,fun k hk=>hk,GrowB.refl _ _,fun b' hb' => ?_⟩ (fun h=>by cases h)) ?_
 ·have:=hal.2 i y v hy hv
  cases y with
  | v p=>exact this
  | p id off =>
   have hid:=hpid _ (vQG hy) id off rfl;subst hid;have hv':v=.pointer (some ⟨b,off,none⟩):=this;subst hv';exact ⟨b,hρ,rfl⟩
  | _=>exact this.elim
 ·by_cases e1:pid=id
  ·subst e1;simp only [yK,Nat.beq_refl,vYV,vQZ] at hl;subst hl;exact ⟨b,us,ty,hρ,hheap,Al.map_left (hpu.imp fun _ _ _ h=>yVX h),hone⟩
  ·simp only [yK,qXW e1,vYG] at hl; cases hl
 ·obtain ⟨rfl,rfl⟩:=inv id L hL;exact ⟨.blk (ps.map PV.toH),by simp only [yK,Nat.beq_refl,vYV]⟩
 ·rw [(inv id L h1).1,(inv id' L' h2).1]
 ·obtain ⟨rfl,rfl⟩:=inv id L hL;cases hb';exact ⟨hFb,hb,.inr rfl⟩
 ·have:b'=b:=hb'
  subst this; exact hρ
 ·rintro e w' ⟨v,F',ρ',F1,rfl,g,hmem,f1,f2,hr⟩
  obtain ⟨F2,f3,f4,hx⟩:=hr.pv hx2;unfold yVW at hps;split at hps
  ·rename_i hc hl;obtain ⟨b2,us',ty',hρ2,hheap',hal',hone'⟩:=hmem.ent pid _ hl
   have:=hmem.pin b rfl
   rw [hρ2] at this;cases this;have h1:=kW hps;have hbl:∀ id L k,ρ' id=some L→(∃ a c n sz,L=.reg a c n sz)→L.bl=some k→¬ F1 k∧w.heap.size≤k∧k < w'.heap.size:=fun id L k hL hreg hk=>by
    have ho:=hmem.off id L k hL hk;refine ⟨ho.1,?_,ho.2.1⟩;rcases ho.2.2 with h | h
    ·exact h
    ·have hp:=hmem.apart id pid L _ k hL hρ2 hk (by have hkb:k=b:=h; rw [hkb]; rfl);subst hp;rw [hρ2] at hL;obtain ⟨a,c,n,sz,rfl⟩:=hreg;cases hL
   let F3:Nat→Prop:=fun k=>F2 k ∨ ∃ id L,ρ' id=some L∧(∃ a c n sz,L=.reg a c n sz)∧L.bl=some k
   refine ⟨v,F3,us',ty',rfl,g,fun k hk=>.inl (f3 k (f1 k (hmem.fz0 k hk))),fun k hk => ?_,hx.mono fun k hk=>⟨.inl hk,rfl⟩,hheap',⟨by rw [← h1.1,hal'.1],fun i p u hp hu => ?_⟩,hone'⟩
   ·rcases hk with hk | ⟨id,L,hL,hreg,hk⟩
    ·rcases f4 k hk with h | h
     ·exact f2 k h
     ·exact .inr h
    ·exact .inr (hbl id L k hL hreg hk).2
   ·have hil:=(List.getElem?_eq_some_iff.1 hp).1;have hl2:i < hc.length:=by rw [h1.1]; exact hil
    have hpv:=h1.2 i _ p (vQK hl2) hp;have hrh:=hal'.2 i _ u (vQK hl2) hu;generalize hc[i]=y at hpv hrh;unfold HV.pz at hpv;split at hpv
    ·cases hpv; exact RP.mono (fun k hk=>⟨.inl (f3 k (f1 k hk)),rfl⟩) hrh
    ·cases hpv;have e:u=.slice none 0 0:=hrh;subst e;exact .zs
    ·rename_i id;split at hpv
     ·rename_i e sz rows hl3;cases hpv;obtain ⟨a,c,k,sz',hr1,rfl⟩:=hrh;exact (qJW (hmem.ent id _ hl3) (F':=F3) (fun k hk=>.inl (f3 k (f1 k hk))) (fun L b hL hb=>.inr ⟨id,L,hL,⟨_,_,_,_,by rw [hr1] at hL; cases hL; rfl⟩,hb⟩) a c k sz' hr1).1
     ·cases hpv
    ·cases hpv
  ·cases hps
theorem jGG {orc:Orc} (hT:TabOk P T) (hm:P.follows .mixedOrders=true) (hO:OrcOk P orc):∀ N,SndA P (zKY orc (runF T orc N))∧SndB P (zHU orc (runF T orc N))
 | 0=>by
  refine ⟨fun g ps r h => ?_,fun g hs ps x ps' h => ?_⟩
  ·unfold zKY at h;split at h
   ·rename_i o ho; exact hO.a g o ho ps r h
   ·cases h
  ·unfold zHU at h;split at h
   ·rename_i o ho; exact hO.b g o ho hs ps x ps' h
   ·cases h
 | N + 1=>by
  obtain ⟨hA,hB⟩:=jGG hT hm hO N;refine ⟨fun g ps r h => ?_,fun g hs ps x ps' h => ?_⟩
  ·unfold zKY at h;split at h
   ·rename_i o ho; exact hO.a g o ho ps r h
   ·exact fn_soundA hT hm hA hB h
  ·unfold zHU at h;split at h
   ·rename_i o ho; exact hO.b g o ho hs ps x ps' h
   ·exact fn_soundB hT hm hA hB h
theorem zXW {orc:Orc} {N f:Nat} {ps:List PV} {r:Ret} (hT:TabOk P T) (hm:P.follows .mixedOrders=true) (hO:OrcOk P orc) (h:run T orc N f ps=some r):zH P f ps r:=by
 cases N with
 | zero=>cases h
 | succ N=>exact fn_soundA hT hm (jGG hT hm hO N).1 (jGG hT hm hO N).2 h
end
end Go.Rx
namespace Go.Rx
open Go.RowKit Go.Sx
def asc {α:Type}:List (Nat × α)→Nat→Option α
 | [],_=>none
 | (k,x) :: l,i=>bif Nat.beq k i then some x else asc l i
theorem qVZ {α:Type} {l:List (Nat × α)} {i:Nat} {x:α} (h:asc l i=some x):(i,x) ∈ l:=by
 induction l with
 | nil=>cases h
 | cons y l ih =>
  obtain ⟨k,z⟩:=y;simp only [asc] at h;cases hc:Nat.beq k i with
  | true=>rw [hc] at h; cases h; rw [← vQX hc]; exact vZQ
  | false=>rw [hc] at h; exact vQH _ (ih h)
def inL:List Nat→Nat→Bool
 | [],_=>false
 | k :: l,i=>bif Nat.beq k i then true else inL l i
theorem kZY {l:List Nat} {i:Nat} (h:inL l i=true):i ∈ l:=by
 induction l with
 | nil=>cases h
 | cons k l ih =>
  simp only [inL] at h;cases hc:Nat.beq k i with
  | true=>rw [← vQX hc]; exact vZQ
  | false=>rw [hc] at h; exact vQH _ (ih h)
structure Tabs where
 sz:List (Nat × (Bool × Nat))
 zr:List (Nat × Value)
 fd:List (Nat × List Nat)
 fx:List (Nat × List (Nat × Bool × Nat))
 ar:List (Nat × (Nat × Nat × Bool))
 sl:List (Nat × (Nat × Nat × Nat))
 ly:List (Nat × List (Nat × Nat))
 ik:List (Nat × IntKind)
 str:List Nat
 bo:List Nat
 eq:List (Nat × List Kd)
 fn:List (Nat × Func)
 hint:List (Nat × List (Nat × Hint))
 rw:List Nat
 ow:List (Nat × List Nat)
 dd:List Nat
 ff:List Nat:=[]
def kZH:Value→Option HV
 | .slice none 0 0=>some .nl
 | v=>(yUJ v).bind fun p=>some (.v p)
def FnI.of (fn:Func):FnI:=⟨fn.body.getD .skip,fn.ntmps,fn.results.toList⟩
def Tabs.tab (t:Tabs):Tab where
 sz:=asc t.sz
 zr:=fun i=>(asc t.zr i).bind fun z=>mapO yUJ z.cells.toList
 zh:=fun i=>(asc t.zr i).bind fun z=>mapO kZH z.cells.toList
 fd:=fun i f=>(asc t.fd i).bind fun l=>l[f]?
 fx:=fun i f=>(asc t.fx i).bind fun l=>l[f]?
 ar:=asc t.ar
 sl:=fun i=>(asc t.sl i).bind fun x=>some (x.1,x.2.1)
 ly:=asc t.ly
 ik:=asc t.ik
 str:=inL t.str
 bo:=inL t.bo
 eqK:=asc t.eq
 fn:=fun i=>(asc t.fn i).bind fun f=>some (FnI.of f)
 hint:=fun f r=>match (asc t.hint f).bind fun l=>asc l r with | some h=>h | none=>{}
 rw:=inL t.rw
 ownR:=fun f d=>match asc t.ow f with | some l=>inL l d | none=>false
 dd:=inL t.dd
 ff:=inL t.ff
def allI {α:Type} (p:Nat→α→Bool):Nat→List α→Bool
 | _,[]=>true
 | i,x :: l=>p i x && allI p (i + 1) l
theorem jXJ {α:Type} {p:Nat→α→Bool}:∀ {l:List α} {k:Nat},allI p k l=true→∀ {i:Nat} {x:α},l[i]? = some x→p (k + i) x=true
 | [],_,_,i,x,hx=>by simp at hx
 | y :: l,k,h,i,x,hx=>by
  simp only [allI,vQJ] at h;cases i with
  | zero=>simp at hx; subst hx; exact h.1
  | succ i =>
   have:=jXJ h.2 (i:=i) (x:=x) (by simpa using hx)
   rw [show k + (i + 1)=k + 1 + i by omega]; exact this
def fxB (P:Program) (t:Nat) (f:Nat) (x:Nat × Bool × Nat):Bool :=
 match P.underlying t with
 | some (.struct fields)=>match fields[f]? with
  | some fld=>fld.offset == x.1 && tyB P fld.type x.2.1 x.2.2 && (x.2.1 || Nat.beq x.2.2 1)
  | none=>false
 | _=>false
def arX (P:Program) (t:Nat) (x:Nat × Nat × Bool):Bool :=
 arrB P t x.1 x.2.1 && match P.underlying t with
 | some (.array n e)=>n == x.1 && tyB P e x.2.2 x.2.1 && (x.2.2 || Nat.beq x.2.1 1)
 | _=>false
def KV1:Kd→Value→Prop
 | .i k,v=>∃ x,v=.int k x
 | .b,v=>∃ x,v=.bool x
 | .s,v=>∃ x,v=.string x
def KV:List Kd→List Value→Prop
 | [],vs=>vs=[]
 | k :: ks,vs=>∃ v us,vs=v :: us∧KV1 k v∧KV ks us
def AllP {α:Type} (p:α→Prop):List α→Prop
 | []=>True
 | x :: l=>p x∧AllP p l
theorem AllP.of {α:Type} {p:α→Prop}:∀ {l:List α},AllP p l→∀ {x},x ∈ l→p x
 | [],_,x,hx=>by simp at hx
 | y :: l,h,x,hx=>by
  rcases List.mem_cons.1 hx with rfl | hx
  ·exact h.1
  ·exact h.2.of hx
theorem kv_of:∀ {ks:List Kd} {ps:List PV} {vs:List Value} {F:Nat→Prop} {w:World},zGY ks ps=true→Al (RP F w) ps vs→KV ks vs
 | [],[],vs,_,_,_,h=>h.nil_left
 | k :: ks,p :: ps,vs,F,w,hk,h=>by
  simp only [zGY,vQJ] at hk;obtain ⟨v,us,rfl,hv,hu⟩:=h.cons_left;refine ⟨v,us,rfl,?_,kv_of hk.2 hu⟩
  have:=hk.1
  unfold kdIs at this;split at this
  ·rename_i k1 k2 x;have e:k1=k2:=by simpa using this
   subst e;cases hv; exact ⟨_,rfl⟩
  ·cases hv; exact ⟨_,rfl⟩
  ·cases hv; exact ⟨_,rfl⟩
  ·cases this
 | [],_ :: _,_,_,_,h,_=>by simp [zGY] at h
 | _ :: _,[],_,_,_,h,_=>by simp [zGY] at h
structure Tabs.Ok (P:Program) (t:Tabs):Prop where
 sz:t.sz.all (fun x=>tyB P x.1 x.2.1 x.2.2 && (x.2.1 || Nat.beq x.2.2 1))=true
 zr:t.zr.map (fun x=>(P.info? x.1).bind (·.zero))=t.zr.map (fun x=>some x.2)
 fd:t.fd.all (fun x=>allI (fun f o=>qVJ P x.1 f o) 0 x.2)=true
 fx:t.fx.all (fun x=>allI (fxB P x.1) 0 x.2)=true
 ar:t.ar.all (fun x=>arX P x.1 x.2)=true
 sl:t.sl.all (fun x=>slcB P x.1 x.2.1 x.2.2.1 && Nat.blt 0 x.2.2.1 && Nat.ble x.2.2.1 1000 && appB P x.1 x.2.1 x.2.2.1 x.2.2.2 && Nat.ble x.2.2.2 100000)=true
 ly:t.ly.map (fun x=>(qKJ P x.1).map (·.2))=t.ly.map (fun x=>some x.2)
 ik:t.ik.map (fun x=>P.underlying x.1)=t.ik.map (fun x=>some (.int x.2))
 str:t.str.map (fun x=>P.underlying x)=t.str.map (fun _=>some .string)
 bo:t.bo.map (fun x=>P.underlying x)=t.bo.map (fun _=>some .bool)
 eq:AllP (fun x:Nat × List Kd=>aggB P x.1=true∧∀ vs,KV x.2 vs→qWX P 12 x.1 vs=true) t.eq
 fn:AllP (fun x:Nat × Func=>P.funcs[x.1]? = some x.2) t.fn
 fn2:t.fn.all (fun x => !(x.2.name == "runtime.NumGoroutine") && !x.2.body.isNone)=true
 dd:∀ f ∈ t.dd,kH P f∧∀ (args:Array Value) (w:World),CallsD P f args .returning w fun e u w'=>(∃ v,e=.returned v)∧u=.returning∧w'=w
theorem yUW {α β:Type} {f g:α→β} {l:List α} (h:l.map f=l.map g) {x:α} (hx:x ∈ l):f x=g x:=by
 induction l with
 | nil=>simp at hx
 | cons y l ih =>
  simp only [List.map_cons,List.cons.injEq] at h;rcases List.mem_cons.1 hx with rfl | hx
  ·exact h.1
  ·exact ih h.2 hx
theorem Tabs.ok {P:Program} {t:Tabs} (h:t.Ok P):TabOk P t.tab where
 sz:=fun i b k hi=>by
  have:=List.all_eq_true.1 h.sz _ (qVZ hi)
  simp only [vQJ,Bool.or_eq_true] at this;refine ⟨this.1,fun hb => ?_⟩;rcases this.2 with h1 | h1
  ·rw [hb] at h1; cases h1
  ·exact vQX h1
 zr:=fun i ps hi=>by
  simp only [Tabs.tab,vQQ] at hi;obtain ⟨z,hz,hps⟩:=hi
  have:=yUW h.zr (qVZ hz)
  refine ⟨z,this,?_⟩;have h1:=kW hps;exact ⟨h1.1.symm,fun j p v hp hv=>⟨fun F w=>(qKK (F:=F) (w:=w) (h1.2 j v p hv hp)).1,(qKK (F:=fun _=>False) (w:=default) (h1.2 j v p hv hp)).2⟩⟩
 zh:=fun i hs hi=>by
  simp only [Tabs.tab,vQQ] at hi;obtain ⟨z,hz,hps⟩:=hi
  have:=yUW h.zr (qVZ hz)
  refine ⟨z,this,?_⟩;have h1:=kW hps;refine ⟨h1.1.symm,fun j p v hp hv => ?_⟩;have h2:kZH v=some p:=h1.2 j v p hv hp;unfold kZH at h2;split at h2
  ·cases h2; exact ⟨fun _ _ _=>rfl,rfl⟩
  ·simp only [vQQ,vQZ] at h2;obtain ⟨q,hq,rfl⟩:=h2;exact ⟨fun ρ F w=>(qKK (F:=F) (w:=w) hq).1,(qKK (F:=fun _=>False) (w:=default) hq).2⟩
 fd:=fun i f o hi=>by
  simp only [Tabs.tab,vQQ] at hi;obtain ⟨l,hl,ho⟩:=hi
  have:=jXJ (List.all_eq_true.1 h.fd _ (qVZ hl)) ho
  simpa using this
 fx:=fun i f o b k hi=>by
  simp only [Tabs.tab,vQQ] at hi;obtain ⟨l,hl,ho⟩:=hi
  have:=jXJ (List.all_eq_true.1 h.fx _ (qVZ hl)) ho
  rw [Nat.zero_add] at this;unfold fxB at this;split at this
  ·rename_i fields hu;split at this
   ·rename_i fld hf;simp only [vQJ,Bool.or_eq_true] at this;refine ⟨fields,fld,hu,hf,by simpa using this.1.1,this.1.2,fun hb => ?_⟩;rcases this.2 with h1 | h1
    ·rw [hb] at h1; cases h1
    ·exact vQX h1
   ·cases this
  ·cases this
 ar:=fun i n k b hi=>by
  have:=List.all_eq_true.1 h.ar _ (qVZ hi)
  simp only [arX,vQJ] at this;refine ⟨this.1,?_⟩;have h2:=this.2;split at h2
  ·rename_i m e hu;simp only [vQJ,Bool.or_eq_true] at h2;have hm:m=n:=by simpa using h2.1.1
   subst hm;refine ⟨e,hu,h2.1.2,fun hb => ?_⟩;rcases h2.2 with h1 | h1
   ·rw [hb] at h1; cases h1
   ·exact vQX h1
  ·cases h2
 sl:=fun i e k hi=>by
  simp only [Tabs.tab,vQQ,vQZ,vQY] at hi;obtain ⟨x,hx,rfl,rfl⟩:=hi
  have:=List.all_eq_true.1 h.sl _ (qVZ hx)
  simp only [vQJ] at this;exact ⟨this.1.1.1.1,by simpa [Nat.blt_eq] using this.1.1.1.2,vZX this.1.1.2,x.2.2,this.1.2,vZX this.2⟩
 ly:=fun i pl hi=>by
  have:=yUW h.ly (qVZ hi)
  simp only [vZW] at this;obtain ⟨⟨z,pl'⟩,hz,rfl⟩:=this;refine ⟨z,hz,fun ps hps => ?_⟩;simp only [Tabs.tab,vQQ] at hps;obtain ⟨z',hz',hps⟩:=hps;have h0:(P.info? i).bind (·.zero)=some z':=yUW h.zr (qVZ hz');have e:z=z'.cells.toList:=by
   unfold qKJ at hz;split at hz
   ·rename_i it n e hi _;rw [hi] at h0;simp only [vYQ] at h0;rw [h0] at hz;split at hz
    ·rename_i h1 _; cases h1; cases hz; rfl
    ·cases hz
   ·rename_i it fields hi _;rw [hi] at h0;simp only [vYQ] at h0;rw [h0] at hz;split at hz
    ·rename_i h1 _; cases h1; cases hz; rfl
    ·cases hz
   ·cases hz
  subst e;have h1:=kW hps;exact ⟨h1.1.symm,fun j p v hp hv=>⟨fun F w=>(qKK (F:=F) (w:=w) (h1.2 j v p hv hp)).1,(qKK (F:=fun _=>False) (w:=default) (h1.2 j v p hv hp)).2⟩⟩
 ik:=fun i k hi=>yUW h.ik (qVZ hi)
 str:=fun i hi=>yUW h.str (kZY hi)
 bo:=fun i hi=>yUW h.bo (kZY hi)
 eqK:=fun i ks hi=>by
  have:=h.eq.of (qVZ hi)
  exact ⟨this.1,fun vs ⟨ps,F,w,hk,hal⟩=>this.2 vs (kv_of hk hal)⟩
 dd:=fun f hf=>h.dd f (kZY hf)
 fn:=fun f fi hi=>by
  simp only [Tabs.tab,vQQ,vQZ] at hi;obtain ⟨fn,hfn,rfl⟩:=hi;have h1:=h.fn.of (qVZ hfn);have h2:=List.all_eq_true.1 h.fn2 _ (qVZ hfn);simp only [vQJ,Bool.not_eq_true'] at h2;simp only at h1 h2;refine ⟨zQ h1 h2.1 h2.2,fn,h1,?_,rfl,by simp [FnI.of]⟩;cases hb:fn.body with
  | none=>rw [hb] at h2; simp at h2
  | some b=>simp [FnI.of,hb]
end Go.Rx
namespace Go.Proofs.YtmffoiemmlcmfaaGreat.Rt
open Go.Rx Go.Sx
noncomputable def tabs:Tabs where
 sz:=[(1,false,1),
  (2,false,1),
  (3,false,1),
  (4,false,1),
  (5,false,1),
  (6,false,1),
  (7,true,4),
  (8,true,4),
  (9,false,1),
  (10,false,1),
  (11,false,1),
  (12,false,1),
  (13,true,2),
  (14,true,2),
  (15,false,1),
  (16,false,1),
  (17,false,1),
  (18,true,1),
  (19,true,1),
  (20,false,1),
  (21,false,1),
  (22,false,1),
  (23,false,1),
  (24,true,2),
  (25,true,2),
  (26,false,1),
  (27,false,1),
  (28,false,1),
  (29,false,1),
  (30,false,1),
  (31,false,1),
  (32,false,1),
  (33,false,1),
  (34,false,1),
  (35,false,1),
  (36,false,1),
  (38,false,1),
  (39,false,1),
  (40,false,1),
  (41,false,1),
  (42,false,1),
  (43,false,1),
  (44,false,1),
  (45,false,1),
  (47,false,1),
  (48,false,1),
  (49,false,1),
  (50,false,1),
  (51,false,1),
  (52,true,3),
  (53,true,3),
  (54,true,12),
  (55,true,12),
  (56,false,1),
  (57,false,1),
  (58,true,2),
  (59,true,2),
  (61,false,1),
  (62,true,10),
  (63,true,10),
  (64,false,1),
  (65,false,1),
  (66,false,1),
  (67,false,1),
  (68,false,1),
  (69,false,1),
  (70,false,1),
  (71,false,1),
  (72,true,2),
  (73,false,1),
  (74,false,1),
  (75,false,1),
  (76,false,1),
  (77,false,1),
  (78,true,5),
  (79,true,5),
  (80,true,2),
  (81,true,2),
  (82,false,1),
  (83,true,6),
  (84,true,18),
  (85,true,18),
  (86,true,6),
  (87,true,24),
  (88,true,24),
  (89,false,1),
  (90,false,1),
  (91,false,1),
  (92,false,1),
  (93,false,1),
  (95,false,1),
  (96,false,1),
  (97,false,1),
  (98,false,1),
  (99,false,1),
  (100,false,1),
  (101,false,1),
  (102,false,1),
  (103,false,1),
  (104,false,1),
  (105,false,1),
  (106,false,1),
  (107,false,1),
  (108,false,1),
  (109,false,1),
  (111,false,1),
  (112,true,8),
  (113,false,1),
  (114,false,1),
  (115,false,1),
  (116,false,1),
  (117,false,1),
  (118,false,1),
  (119,false,1),
  (120,false,1),
  (121,false,1),
  (122,false,1),
  (123,false,1),
  (124,false,1),
  (125,false,1),
  (126,false,1),
  (127,false,1),
  (128,true,6),
  (129,true,6),
  (130,false,1),
  (131,false,1),
  (132,false,1),
  (133,false,1),
  (134,false,1),
  (136,false,1),
  (137,false,1),
  (138,false,1),
  (139,false,1),
  (140,false,1),
  (141,false,1),
  (142,false,1),
  (143,false,1),
  (144,false,1),
  (145,false,1),
  (146,false,1),
  (147,false,1),
  (148,false,1),
  (149,false,1),
  (150,false,1),
  (151,false,1),
  (152,false,1),
  (153,false,1),
  (154,false,1),
  (155,false,1),
  (156,false,1),
  (157,false,1),
  (158,false,1),
  (159,false,1),
  (160,false,1),
  (161,false,1),
  (162,false,1),
  (163,true,1),
  (164,true,1),
  (165,false,1),
  (166,false,1),
  (167,false,1),
  (168,false,1),
  (169,false,1),
  (170,true,4),
  (171,false,1),
  (172,false,1),
  (173,false,1),
  (174,true,11),
  (176,false,1),
  (177,false,1),
  (178,false,1),
  (179,true,11),
  (181,false,1),
  (182,false,1),
  (183,false,1),
  (184,true,4),
  (185,true,4),
  (189,false,1),
  (190,false,1),
  (191,false,1),
  (192,false,1),
  (193,false,1),
  (194,false,1)]
 zr:=[(1,.nilFunc),
  (2,.int .i64 0),
  (3,.int .i64 0),
  (4,.bool false),
  (5,.int .u8 0),
  (6,.int .u8 0),
  (7,.agg #[.int .i64 0,.int .i64 0,.bool false,.int .u8 0]),
  (8,.agg #[.int .i64 0,.int .i64 0,.bool false,.int .u8 0]),
  (9,.string ByteArray.empty),
  (10,.string ByteArray.empty),
  (11,.string ByteArray.empty),
  (12,.int .u64 0),
  (13,.agg #[.string ByteArray.empty,.int .u64 0]),
  (14,.agg #[.string ByteArray.empty,.int .u64 0]),
  (15,.pointer none),
  (16,.pointer none),
  (17,.pointer none),
  (18,.agg #[.pointer none]),
  (19,.agg #[.pointer none]),
  (20,.nilIface),
  (21,.int .i32 0),
  (22,.slice none 0 0),
  (23,.slice none 0 0),
  (24,.agg #[.slice none 0 0,.slice none 0 0]),
  (25,.agg #[.slice none 0 0,.slice none 0 0]),
  (26,.slice none 0 0),
  (27,.slice none 0 0),
  (28,.slice none 0 0),
  (29,.nilFunc),
  (30,.nilFunc),
  (31,.nilFunc),
  (32,.nilFunc),
  (33,.nilFunc),
  (34,.nilFunc),
  (35,.nilFunc),
  (36,.slice none 0 0),
  (38,.nilFunc),
  (39,.nilFunc),
  (40,.slice none 0 0),
  (41,.nilFunc),
  (42,.nilFunc),
  (43,.nilFunc),
  (44,.nilFunc),
  (45,.nilFunc),
  (47,.nilFunc),
  (48,.nilFunc),
  (49,.nilFunc),
  (50,.pointer none),
  (51,.nilFunc),
  (52,.agg #[.int .i64 0,.int .i64 0,.int .i64 0]),
  (53,.agg #[.int .i64 0,.int .i64 0,.int .i64 0]),
  (54,.agg #[.string ByteArray.empty,.int .i64 0,.int .i64 0,.int .i64 0,.int .i64 0,.int .i64 0,.int .i64 0,.int .i64 0,.int .i64 0,.int .i64 0,.int .i64 0,.int .i64 0]),
  (55,.agg #[.string ByteArray.empty,.int .i64 0,.int .i64 0,.int .i64 0,.int .i64 0,.int .i64 0,.int .i64 0,.int .i64 0,.int .i64 0,.int .i64 0,.int .i64 0,.int .i64 0]),
  (56,.nilFunc),
  (57,.nilFunc),
  (58,.agg #[.int .i64 0,.int .i64 0]),
  (59,.agg #[.int .i64 0,.int .i64 0]),
  (61,.nilFunc),
  (62,.agg #[.int .i64 0,.int .i64 0,.int .i64 0,.int .i64 0,.int .i64 0,.int .i64 0,.int .i64 0,.int .i64 0,.int .i64 0,.int .i64 0]),
  (63,.agg #[.int .i64 0,.int .i64 0,.int .i64 0,.int .i64 0,.int .i64 0,.int .i64 0,.int .i64 0,.int .i64 0,.int .i64 0,.int .i64 0]),
  (64,.nilFunc),
  (65,.nilFunc),
  (66,.nilFunc),
  (67,.nilFunc),
  (68,.nilFunc),
  (69,.nilFunc),
  (70,.nilFunc),
  (71,.nilFunc),
  (72,.agg #[.int .i64 0,.int .i64 0]),
  (73,.int .i64 0),
  (74,.nilFunc),
  (75,.nilFunc),
  (76,.nilFunc),
  (77,.nilFunc),
  (78,.agg #[.int .i64 0,.int .i64 0,.int .i64 0,.int .i64 0,.int .i64 0]),
  (79,.agg #[.int .i64 0,.int .i64 0,.int .i64 0,.int .i64 0,.int .i64 0]),
  (80,.agg #[.slice none 0 0,.int .i64 0]),
  (81,.agg #[.slice none 0 0,.int .i64 0]),
  (82,.nilFunc),
  (83,.agg #[.int .i64 0,.int .i64 0,.int .i64 0,.int .i64 0,.int .i64 0,.int .i64 0]),
  (84,.agg #[.int .i64 0,.int .i64 0,.int .i64 0,.int .i64 0,.int .i64 0,.int .i64 0,.int .i64 0,.int .i64 0,.int .i64 0,.int .i64 0,.int .i64 0,.int .i64 0,.int .i64 0,.int .i64 0,.int .i64 0,.int .i64 0,.int .i64 0,.int .i64 0]),
  (85,.agg #[.int .i64 0,.int .i64 0,.int .i64 0,.int .i64 0,.int .i64 0,.int .i64 0,.int .i64 0,.int .i64 0,.int .i64 0,.int .i64 0,.int .i64 0,.int .i64 0,.int .i64 0,.int .i64 0,.int .i64 0,.int .i64 0,.int .i64 0,.int .i64 0]),
  (86,.agg #[.int .i64 0,.int .i64 0,.int .i64 0,.int .i64 0,.int .i64 0,.int .i64 0]),
  (87,.agg #[.int .i64 0,.int .i64 0,.int .i64 0,.int .i64 0,.int .i64 0,.int .i64 0,.int .i64 0,.int .i64 0,.int .i64 0,.int .i64 0,.int .i64 0,.int .i64 0,.int .i64 0,.int .i64 0,.int .i64 0,.int .i64 0,.int .i64 0,.int .i64 0,.int .i64 0,.int .i64 0,.int .i64 0,.int .i64 0,.int .i64 0,.int .i64 0]),
  (88,.agg #[.int .i64 0,.int .i64 0,.int .i64 0,.int .i64 0,.int .i64 0,.int .i64 0,.int .i64 0,.int .i64 0,.int .i64 0,.int .i64 0,.int .i64 0,.int .i64 0,.int .i64 0,.int .i64 0,.int .i64 0,.int .i64 0,.int .i64 0,.int .i64 0,.int .i64 0,.int .i64 0,.int .i64 0,.int .i64 0,.int .i64 0,.int .i64 0]),
  (89,.slice none 0 0),
  (90,.nilFunc),
  (91,.nilFunc),
  (92,.nilFunc),
  (93,.nilFunc),
  (95,.nilFunc),
  (96,.nilFunc),
  (97,.nilFunc),
  (98,.nilFunc),
  (99,.nilFunc),
  (100,.nilFunc),
  (101,.slice none 0 0),
  (102,.nilFunc),
  (103,.nilFunc),
  (104,.nilFunc),
  (105,.nilFunc),
  (106,.nilFunc),
  (107,.nilFunc),
  (108,.nilFunc),
  (109,.nilFunc),
  (111,.nilFunc),
  (112,.agg #[.int .i64 0,.int .i64 0,.int .i64 0,.int .i64 0,.int .i64 0,.int .i64 0,.int .i64 0,.int .i64 0]),
  (113,.nilFunc),
  (114,.nilFunc),
  (115,.nilFunc),
  (116,.nilFunc),
  (117,.nilFunc),
  (118,.nilFunc),
  (119,.nilFunc),
  (120,.nilFunc),
  (121,.nilFunc),
  (122,.nilFunc),
  (123,.nilFunc),
  (124,.nilFunc),
  (125,.nilFunc),
  (126,.nilFunc),
  (127,.nilFunc),
  (128,.agg #[.int .i64 0,.int .i64 0,.int .i64 0,.int .i64 0,.int .i64 0,.int .i64 0]),
  (129,.agg #[.int .i64 0,.int .i64 0,.int .i64 0,.int .i64 0,.int .i64 0,.int .i64 0]),
  (130,.nilFunc),
  (131,.nilFunc),
  (132,.nilFunc),
  (133,.nilFunc),
  (134,.nilFunc),
  (136,.nilFunc),
  (137,.nilFunc),
  (138,.nilFunc),
  (139,.nilFunc),
  (140,.nilFunc),
  (141,.nilFunc),
  (142,.nilFunc),
  (143,.nilFunc),
  (144,.nilFunc),
  (145,.int .u64 0),
  (146,.nilFunc),
  (147,.nilFunc),
  (148,.nilFunc),
  (149,.nilFunc),
  (150,.nilFunc),
  (151,.nilFunc),
  (152,.nilFunc),
  (153,.slice none 0 0),
  (154,.nilFunc),
  (155,.nilFunc),
  (156,.nilFunc),
  (157,.nilFunc),
  (158,.nilFunc),
  (159,.nilFunc),
  (160,.nilFunc),
  (161,.nilFunc),
  (162,.nilFunc),
  (163,.agg #[.nilFunc]),
  (164,.agg #[.nilFunc]),
  (165,.nilFunc),
  (166,.nilFunc),
  (167,.nilFunc),
  (168,.nilFunc),
  (169,.int .i64 0),
  (170,.agg #[.int .i64 0,.int .i64 0,.int .i64 0,.int .i64 0]),
  (171,.nilFunc),
  (172,.nilFunc),
  (173,.nilFunc),
  (174,.agg #[.int .i64 0,.int .i64 0,.int .i64 0,.int .i64 0,.int .i64 0,.int .i64 0,.int .i64 0,.int .i64 0,.int .i64 0,.int .i64 0,.int .i64 0]),
  (176,.nilFunc),
  (177,.nilFunc),
  (178,.nilFunc),
  (179,.agg #[.int .i64 0,.int .i64 0,.int .i64 0,.int .i64 0,.int .i64 0,.int .i64 0,.int .i64 0,.int .i64 0,.int .i64 0,.int .i64 0,.int .i64 0]),
  (181,.nilFunc),
  (182,.nilFunc),
  (183,.nilFunc),
  (184,.agg #[.pointer none,.pointer none,.pointer none,.string ByteArray.empty]),
  (185,.agg #[.pointer none,.pointer none,.pointer none,.string ByteArray.empty]),
  (186,.agg #[]),
  (187,.agg #[]),
  (188,.agg #[]),
  (189,.nilFunc),
  (190,.int .u32 0),
  (191,.int .u8 0),
  (192,.int .u8 0),
  (193,.nilFunc),
  (194,.pointer none)]
 fd:=[(7,[0,1,2,3]),
  (8,[0,1,2,3]),
  (13,[0,1]),
  (14,[0,1]),
  (18,[0]),
  (19,[0]),
  (24,[0,1]),
  (25,[0,1]),
  (54,[0,1,2,3,6,7,8,9,10,11]),
  (55,[0,1,2,3,6,7,8,9,10,11]),
  (58,[0,1]),
  (59,[0,1]),
  (62,[0,1,2,5,8,9]),
  (63,[0,1,2,5,8,9]),
  (72,[0,1]),
  (78,[0,1,2]),
  (79,[0,1,2]),
  (80,[0,1]),
  (81,[0,1]),
  (87,[0,18]),
  (88,[0,18]),
  (128,[0]),
  (129,[0]),
  (163,[0]),
  (164,[0]),
  (184,[0,1,2,3]),
  (185,[0,1,2,3])]
 fx:=[(7,[(0,false,1),(1,false,1),(2,false,1),(3,false,1)]),
  (8,[(0,false,1),(1,false,1),(2,false,1),(3,false,1)]),
  (13,[(0,false,1),(1,false,1)]),
  (14,[(0,false,1),(1,false,1)]),
  (18,[(0,false,1)]),
  (19,[(0,false,1)]),
  (24,[(0,false,1),(1,false,1)]),
  (25,[(0,false,1),(1,false,1)]),
  (54,[(0,false,1),(1,false,1),(2,false,1),(3,true,3),(6,false,1),(7,false,1),(8,false,1),(9,false,1),(10,false,1),(11,false,1)]),
  (55,[(0,false,1),(1,false,1),(2,false,1),(3,true,3),(6,false,1),(7,false,1),(8,false,1),(9,false,1),(10,false,1),(11,false,1)]),
  (58,[(0,false,1),(1,false,1)]),
  (59,[(0,false,1),(1,false,1)]),
  (62,[(0,false,1),(1,false,1),(2,true,3),(5,true,3),(8,false,1),(9,false,1)]),
  (63,[(0,false,1),(1,false,1),(2,true,3),(5,true,3),(8,false,1),(9,false,1)]),
  (72,[(0,false,1),(1,false,1)]),
  (78,[(0,false,1),(1,false,1),(2,true,3)]),
  (79,[(0,false,1),(1,false,1),(2,true,3)]),
  (80,[(0,false,1),(1,false,1)]),
  (81,[(0,false,1),(1,false,1)]),
  (87,[(0,true,18),(18,true,6)]),
  (88,[(0,true,18),(18,true,6)]),
  (128,[(0,true,6)]),
  (129,[(0,true,6)]),
  (163,[(0,false,1)]),
  (164,[(0,false,1)]),
  (184,[(0,false,1),(1,false,1),(2,false,1),(3,false,1)]),
  (185,[(0,false,1),(1,false,1),(2,false,1),(3,false,1)])]
 ar:=[(52,3,1,false),
  (53,3,1,false),
  (83,3,2,true),
  (84,3,6,true),
  (85,3,6,true),
  (86,3,2,true),
  (112,8,1,false),
  (170,4,1,false),
  (174,11,1,false),
  (179,11,1,false),
  (186,0,1,false)]
 sl:=[(22,55,12,104),
  (23,79,5,40),
  (26,63,10,80),
  (27,2,1,8),
  (28,3,1,8),
  (36,27,1,24),
  (40,72,2,16),
  (89,88,24,192),
  (101,59,2,16),
  (153,86,6,48)]
 ly:=[(7,[(0,1),(1,1),(2,1),(3,1)]),
  (8,[(0,1),(1,1),(2,1),(3,1)]),
  (13,[(0,1),(1,1)]),
  (14,[(0,1),(1,1)]),
  (18,[(0,1)]),
  (19,[(0,1)]),
  (24,[(0,1),(1,1)]),
  (25,[(0,1),(1,1)]),
  (52,[(0,1),(1,1),(2,1)]),
  (53,[(0,1),(1,1),(2,1)]),
  (54,[(0,1),(1,1),(2,1),(3,3),(6,1),(7,1),(8,1),(9,1),(10,1),(11,1)]),
  (55,[(0,1),(1,1),(2,1),(3,3),(6,1),(7,1),(8,1),(9,1),(10,1),(11,1)]),
  (58,[(0,1),(1,1)]),
  (59,[(0,1),(1,1)]),
  (62,[(0,1),(1,1),(2,3),(5,3),(8,1),(9,1)]),
  (63,[(0,1),(1,1),(2,3),(5,3),(8,1),(9,1)]),
  (72,[(0,1),(1,1)]),
  (78,[(0,1),(1,1),(2,3)]),
  (79,[(0,1),(1,1),(2,3)]),
  (80,[(0,1),(1,1)]),
  (81,[(0,1),(1,1)]),
  (83,[(0,2),(2,2),(4,2)]),
  (84,[(0,6),(6,6),(12,6)]),
  (85,[(0,6),(6,6),(12,6)]),
  (86,[(0,2),(2,2),(4,2)]),
  (87,[(0,18),(18,6)]),
  (88,[(0,18),(18,6)]),
  (112,[(0,1),(1,1),(2,1),(3,1),(4,1),(5,1),(6,1),(7,1)]),
  (128,[(0,6)]),
  (129,[(0,6)]),
  (163,[(0,1)]),
  (164,[(0,1)]),
  (170,[(0,1),(1,1),(2,1),(3,1)]),
  (174,[(0,1),(1,1),(2,1),(3,1),(4,1),(5,1),(6,1),(7,1),(8,1),(9,1),(10,1)]),
  (179,[(0,1),(1,1),(2,1),(3,1),(4,1),(5,1),(6,1),(7,1),(8,1),(9,1),(10,1)]),
  (184,[(0,1),(1,1),(2,1),(3,1)]),
  (185,[(0,1),(1,1),(2,1),(3,1)]),
  (186,[])]
 ik:=[(2,.i64),
  (3,.i64),
  (5,.u8),
  (6,.u8),
  (12,.u64),
  (21,.i32),
  (73,.i64),
  (145,.u64),
  (169,.i64),
  (190,.u32),
  (191,.u8),
  (192,.u8)]
 str:=[9,
  10,
  11]
 bo:=[4]
 eq:=[(53,[.i .i64,.i .i64,.i .i64])]
 fn:=[(3,Tryz.f3),
  (4,Tryz.f4),
  (5,Tryz.f5),
  (6,Tryz.f6),
  (7,Tryz.f7),
  (8,Tryz.f8),
  (9,Tryz.f9),
  (10,Tryz.f10),
  (11,Tryz.f11),
  (12,Tryz.f12),
  (13,Tryz.f13),
  (14,Tryz.f14),
  (15,Tryz.f15),
  (16,Tryz.f16),
  (17,Tryz.f17),
  (18,Tryz.f18),
  (19,Tryz.f19),
  (20,Tryz.f20),
  (21,Tryz.f21),
  (22,Tryz.f22),
  (23,Tryz.f23),
  (24,Tryz.f24),
  (25,Tryz.f25),
  (26,Tryz.f26),
  (27,Tryz.f27),
  (28,Tryz.f28),
  (29,Tryz.f29),
  (30,Tryz.f30),
  (31,Tryz.f31),
  (32,Tryz.f32),
  (33,Tryz.f33),
  (34,Tryz.f34),
  (35,Tryz.f35),
  (36,Tryz.f36),
  (37,Tryz.f37),
  (38,Tryz.f38),
  (39,Tryz.f39),
  (40,Tryz.f40),
  (41,Tryz.f41),
  (42,Tryz.f42),
  (43,Tryz.f43),
  (44,Tryz.f44),
  (45,Tryz.f45),
  (46,Tryz.f46),
  (47,Tryz.f47),
  (48,Tryz.f48),
  (49,Tryz.f49),
  (50,Tryz.f50),
  (51,Tryz.f51),
  (52,Tryz.f52),
  (53,Tryz.f53),
  (54,Tryz.f54),
  (55,Tryz.f55),
  (56,Tryz.f56),
  (57,Tryz.f57),
  (58,Tryz.f58),
  (59,Tryz.f59),
  (60,Tryz.f60),
  (61,Tryz.f61),
  (62,Tryz.f62),
  (63,Tryz.f63),
  (64,Tryz.f64),
  (65,Tryz.f65),
  (66,Tryz.f66),
  (67,Tryz.f67),
  (68,Tryz.f68),
  (69,Tryz.f69),
  (70,Tryz.f70),
  (71,Tryz.f71),
  (72,Tryz.f72),
  (73,Tryz.f73),
  (74,Tryz.f74),
  (75,Tryz.f75),
  (76,Tryz.f76),
  (77,Tryz.f77),
  (78,Tryz.f78),
  (79,Tryz.f79),
  (80,Tryz.f80),
  (81,Tryz.f81),
  (82,Tryz.f82),
  (83,Tryz.f83),
  (84,Tryz.f84),
  (85,Tryz.f85),
  (86,Tryz.f86),
  (87,Tryz.f87),
  (88,Tryz.f88),
  (89,Tryz.f89),
  (90,Tryz.f90),
  (91,Tryz.f91),
  (92,Tryz.f92),
  (93,Tryz.f93),
  (94,Tryz.f94),
  (95,Tryz.f95),
  (96,Tryz.f96),
  (97,Tryz.f97),
  (98,Tryz.f98),
  (99,Tryz.f99),
  (100,Tryz.f100),
  (101,Tryz.f101),
  (102,Tryz.f102),
  (103,Tryz.f103),
  (104,Tryz.f104),
  (105,Tryz.f105),
  (106,Tryz.f106),
  (107,Tryz.f107),
  (108,Tryz.f108),
  (109,Tryz.f109),
  (110,Tryz.f110),
  (111,Tryz.f111),
  (112,Tryz.f112),
  (113,Tryz.f113),
  (114,Tryz.f114),
  (115,Tryz.f115),
  (116,Tryz.f116),
  (117,Tryz.f117),
  (118,Tryz.f118),
  (119,Tryz.f119),
  (120,Tryz.f120),
  (121,Tryz.f121),
  (122,Tryz.f122),
  (123,Tryz.f123),
  (124,Tryz.f124),
  (125,Tryz.f125),
  (126,Tryz.f126),
  (127,Tryz.f127),
  (128,Tryz.f128),
  (129,Tryz.f129),
  (130,Tryz.f130),
  (131,Tryz.f131),
  (132,Tryz.f132),
  (133,Tryz.f133),
  (134,Tryz.f134),
  (135,Tryz.f135),
  (136,Tryz.f136),
  (137,Tryz.f137),
  (138,Tryz.f138),
  (139,Tryz.f139),
  (140,Tryz.f140),
  (141,Tryz.f141),
  (142,Tryz.f142),
  (143,Tryz.f143),
  (144,Tryz.f144),
  (145,Tryz.f145),
  (146,Tryz.f146),
  (147,Tryz.f147),
  (148,Tryz.f148),
  (149,Tryz.f149),
  (150,Tryz.f150),
  (151,Tryz.f151),
  (152,Tryz.f152),
  (153,Tryz.f153),
  (154,Tryz.f154),
  (155,Tryz.f155),
  (156,Tryz.f156),
  (157,Tryz.f157),
  (158,Tryz.f158),
  (159,Tryz.f159),
  (160,Tryz.f160),
  (161,Tryz.f161),
  (162,Tryz.f162),
  (163,Tryz.f163),
  (164,Tryz.f164),
  (165,Tryz.f165),
  (166,Tryz.f166),
  (167,Tryz.f167),
  (168,Tryz.f168),
  (169,Tryz.f169),
  (170,Tryz.f170),
  (171,Tryz.f171),
  (172,Tryz.f172),
  (173,Tryz.f173),
  (174,Tryz.f174),
  (175,Tryz.f175),
  (176,Tryz.f176),
  (177,Tryz.f177),
  (178,Tryz.f178),
  (179,Tryz.f179),
  (180,Tryz.f180),
  (181,Tryz.f181),
  (182,Tryz.f182),
  (183,Tryz.f183),
  (184,Tryz.f184),
  (185,Tryz.f185),
  (186,Tryz.f186),
  (187,Tryz.f187),
  (188,Tryz.f188),
  (189,Tryz.f189),
  (190,Tryz.f190),
  (191,Tryz.f191),
  (192,Tryz.f192),
  (193,Tryz.f193),
  (194,Tryz.f194)]
 hint:=[(4,[(11,{ keep:=[15,17,18,19,20,21,22],ids:=[15,25,31,37],out:=some ([14,17,19,20,21],[31]) })]),
  (7,[(4,{ keep:=[2,5,6,7],ids:=[2,11,43,49,55],out:=some ([6],[43,49,55]) })]),
  (8,[(4,{ keep:=[3,4,9,10,11],ids:=[4,17,19],out:=some ([9],[17]) })]),
  (11,[(7,{ keep:=[1,3,4,5,6,7,16,17],ids:=[7,69,71,111],out:=some ([14,15],[71,111]) })]),
  (12,[(4,{ keep:=[1,2,3,7],ids:=[3],out:=some ([6],[]) })]),
  (13,[(5,{ keep:=[0,3,4],ids:=[25],out:=some ([3],[25]),own:=[(3,25,72,2)] })]),
  (14,[(4,{ keep:=[0,1,5],ids:=[],out:=some ([4],[]) })]),
  (15,[(5,{ keep:=[1,2,3,7,8],ids:=[3],out:=some ([7],[]) })]),
  (16,[(3,{ keep:=[0,1,4,5,6],ids:=[4,5,24],out:=some ([4,5],[4,5,24]) })]),
  (17,[(5,{ keep:=[1,2,3,4,11],ids:=[4,34,58],out:=some ([3,8,9,10],[34,58]) }),(8,{ keep:=[1,2,3,4,11,40,41,42],ids:=[4,34,58],out:=some ([1,2,3,4,11],[4,34,58]) })]),
  (19,[(4,{ keep:=[0,2,3,4,5],ids:=[2,3,21,46],out:=some ([0,2,3,4],[2,3,21,46]) }),(8,{ keep:=[0,2,3,4,6],ids:=[2,3,21,24,46],out:=some ([2,3],[2,3,21,46]) })]),
  (22,[(3,{ keep:=[1,3,7,8],ids:=[3,11,64],out:=some ([8],[64]) })]),
  (25,[(4,{ keep:=[1,3,4,5,6,7,16],ids:=[7,63,136],out:=some ([14,15],[63,136]) }),(14,{ keep:=[1,3,4,5,6,7,16,17,18,19,20],ids:=[7,63,73,112,136],out:=some ([1,3,4,5,6,7,16,18,19],[7,63,73,112,136]),own:=[(19,112,2,1)] })]),
  (26,[(4,{ keep:=[0,1,5],ids:=[],out:=some ([4],[]) })]),
  (27,[(4,{ keep:=[2,17,18,19],ids:=[2],out:=some ([4],[]) }),(9,{ keep:=[2,6,17,18,19,45,46],ids:=[2,6],out:=some ([2,4,6,17,18,19],[2,6]) })]),
  (32,[(6,{ keep:=[1,2,8,40,41,42],ids:=[],out:=some ([8],[]) })]),
  (33,[(5,{ keep:=[0,1,2,3,9,20,21],ids:=[18],out:=some ([9],[18]) })]),
  (34,[(4,{ keep:=[1,2,5],ids:=[2],out:=some ([4],[]) })]),
  (36,[(2,{ keep:=[0,3],ids:=[],out:=some ([2],[]) })]),
  (37,[(4,{ keep:=[1,3],ids:=[1],out:=some ([1,2],[1,27]) }),(12,{ keep:=[1,5],ids:=[1],out:=some ([2],[27]) })]),
  (39,[(2,{ keep:=[2,3,9,10,11],ids:=[3],out:=some ([2],[]) })]),
  (40,[(4,{ keep:=[0,1,12,13],ids:=[],out:=some ([4],[]) })]),
  (43,[(5,{ keep:=[1,2,5,6],ids:=[2,54],out:=some ([5],[54]) })]),
  (46,[(3,{ keep:=[2,3,4,5,6],ids:=[2,3,4,5,34],out:=some ([4,5],[4,5,34]) })]),
  (47,[(5,{ keep:=[2,3,6,7,8],ids:=[2,3],out:=some ([6,7],[]) })]),
  (49,[(5,{ keep:=[1,2,3,4,11],ids:=[4],out:=some ([8,9,10],[]) }),(10,{ keep:=[1,2,3,4,11,12],ids:=[4],out:=some ([1,2,3,4,11],[4]) })]),
  (50,[(4,{ keep:=[1,17,18],ids:=[1],out:=some ([1,2],[1,23]) })]),
  (52,[(4,{ keep:=[1,2,14,15,16],ids:=[],out:=some ([6],[]) })]),
  (55,[(2,{ keep:=[1,7,8,9],ids:=[],out:=some ([4],[]) })]),
  (56,[(4,{ keep:=[7,8,21,22,23],ids:=[17,20,53],out:=some ([8],[20,53]) })]),
  (58,[(3,{ keep:=[1,5,11,12,13],ids:=[10,22],out:=some ([5],[10,22]) })]),
  (60,[(2,{ keep:=[1,2,5],ids:=[2],out:=some ([4],[]) })]),
  (62,[(4,{ keep:=[0,1,5],ids:=[],out:=some ([4],[]) })]),
  (63,[(5,{ keep:=[1,3,4],ids:=[1,30],out:=some ([3],[30]),own:=[(3,30,72,2)] })]),
  (64,[(5,{ keep:=[0,1,5,6],ids:=[5],out:=some ([1,4,5],[5]) })]),
  (66,[(9,{ keep:=[2,3,4,10,11,12,42,43,44],ids:=[3,4],out:=some ([2,3,4,10,11,12],[3,4]) }),(20,{ keep:=[2,10,12,16,17,80,81,82],ids:=[78],out:=some ([17],[78]) })]),
  (74,[(2,{ keep:=[1,3],ids:=[1],out:=some ([2],[]) })]),
  (75,[(4,{ keep:=[1,2,5],ids:=[2],out:=some ([4],[]) })]),
  (76,[(7,{ keep:=[2,3,4,8,10],ids:=[3,4],out:=some ([2,3,4,8,10],[3,4]) }),(11,{ keep:=[2,3,4,8,10,11,12],ids:=[3,4],out:=some ([2,3,4,8,10,11],[3,4]) }),(20,{ keep:=[2,3,8,10,11,13,14,15],ids:=[3,122],out:=some ([14],[122]),own:=[(14,122,2,1)] })]),
  (81,[(2,{ keep:=[5,6],ids:=[],out:=some ([2],[]) })]),
  (82,[(4,{ keep:=[1,2,14,15,16],ids:=[],out:=some ([6],[]) })]),
  (88,[(3,{ keep:=[1,2,3,5],ids:=[1,2,3,12],out:=some ([2,3],[2,3,12]) })]),
  (93,[(2,{ keep:=[0,3],ids:=[],out:=some ([2],[]) })]),
  (95,[(4,{ keep:=[0,3],ids:=[],out:=some ([2],[]) })]),
  (97,[(6,{ keep:=[2,3,4,8,9,33,34,35],ids:=[3,4,29,31],out:=some ([8],[29]) })]),
  (98,[(4,{ keep:=[0,4,5],ids:=[11],out:=some ([2,3],[11]) }),(6,{ keep:=[0,4,5,6,14,15,16],ids:=[11],out:=some ([0,4,5,6],[11]) })]),
  (104,[(3,{ keep:=[2,3,4,5,6],ids:=[2,3,4,5],out:=some ([4,5],[4,5]) }),(6,{ keep:=[2,3,4,5,6,7],ids:=[2,3,4,5],out:=some ([2,3,4,5,6],[2,3,4,5]) })]),
  (110,[(5,{ keep:=[2,3,4,8,9],ids:=[3,4,76],out:=some ([8],[76]),own:=[(8,76,2,1)] })]),
  (111,[(2,{ keep:=[0,1,5],ids:=[],out:=some ([4],[]) })]),
  (114,[(4,{ keep:=[18],ids:=[18],out:=some ([2],[]) })]),
  (115,[(2,{ keep:=[1,2,8,9],ids:=[2],out:=some ([4],[]) })]),
  (116,[(2,{ keep:=[5,6],ids:=[],out:=some ([2],[]) })]),
  (119,[(2,{ keep:=[0,1,7,8],ids:=[],out:=some ([4],[]) })]),
  (122,[(3,{ keep:=[1,5,13,14,15],ids:=[11,27,43],out:=some ([5],[11,27,43]) })]),
  (125,[(4,{ keep:=[15,16,17],ids:=[],out:=some ([2],[]) }),(7,{ keep:=[15,16,17,21,22],ids:=[],out:=some ([2,15,16,17],[]) })]),
  (126,[(3,{ keep:=[2,6,7,12,13],ids:=[2],out:=some ([6,7],[]) })]),
  (127,[(2,{ keep:=[0,1,7,8],ids:=[],out:=some ([4],[]) })]),
  (140,[(3,{ keep:=[2,3,4,5,8],ids:=[2,3,4,5,27],out:=some ([4,5],[4,5,27]) }),(6,{ keep:=[2,3,4,5,6,8,11],ids:=[2,3,4,5,27],out:=some ([2,3,4,5,8],[2,3,4,5,27]) })]),
  (145,[(2,{ keep:=[0,1,7,8],ids:=[],out:=some ([4],[]) })]),
  (149,[(3,{ keep:=[2,3,4,5,10],ids:=[2,3,4,5],out:=some ([4,5],[4,5]) }),(6,{ keep:=[2,3,4,5,6,10,13],ids:=[2,3,4,5],out:=some ([2,3,4,5,10],[2,3,4,5]) }),(10,{ keep:=[2,3,4,5,6,7,8,10,13,16],ids:=[2,3,4,5,8,31],out:=some ([2,3,4,5,6,7,8,10,13],[2,3,4,5,8,31]) })]),
  (151,[(6,{ keep:=[4,6,7,40,41],ids:=[4,53],out:=some ([4,6,7],[4,53]) })]),
  (155,[(3,{ keep:=[0,1,3],ids:=[0,1,8],out:=some ([0,1],[0,1,8]) })]),
  (160,[(3,{ keep:=[2,3,4,5,7],ids:=[2,3,4,5,17],out:=some ([4,5],[4,5,17]) })]),
  (175,[(5,{ keep:=[2,3,4,5,6],ids:=[2,3,4,5,9,13,27,37],out:=some ([2,3,4,5],[2,3,4,5,9,13,27,37]) })]),
  (191,[(6,{ keep:=[2,3,4,5,6],ids:=[2,3,4,5,11,15,29,39],out:=some ([2,3,4,5],[2,3,4,5,11,15,29,39]) })]),
  (192,[(3,{ keep:=[3,4,7,8,9],ids:=[],out:=some ([3],[]) })])]
 rw:=[19,
  21,
  24,
  41]
 ow:=[(8,[17]),
  (97,[31])]
 dd:=[]
theorem eq53:aggB Tryz.prog 53=true∧∀ vs,KV [.i .i64,.i .i64,.i .i64] vs→qWX Tryz.prog 12 53 vs=true:=by
 refine ⟨by kernel_rfl,fun vs h => ?_⟩;obtain ⟨v0,u0,rfl,⟨x0,rfl⟩,h0⟩:=h;obtain ⟨v1,u1,rfl,⟨x1,rfl⟩,h1⟩:=h0;obtain ⟨v2,u2,rfl,⟨x2,rfl⟩,h2⟩:=h1;obtain rfl:u2=[]:=h2
 kernel_rfl
theorem fns:AllP (fun x:Nat × Func=>Tryz.prog.funcs[x.1]? = some x.2) tabs.fn:=⟨Tryz.func3,Tryz.func4,Tryz.func5,Tryz.func6,Tryz.func7,Tryz.func8,Tryz.func9,Tryz.func10,Tryz.func11,Tryz.func12,Tryz.func13,Tryz.func14,Tryz.func15,Tryz.func16,Tryz.func17,Tryz.func18,Tryz.func19,Tryz.func20,Tryz.func21,Tryz.func22,Tryz.func23,Tryz.func24,Tryz.func25,Tryz.func26,Tryz.func27,Tryz.func28,Tryz.func29,Tryz.func30,Tryz.func31,Tryz.func32,Tryz.func33,Tryz.func34,Tryz.func35,Tryz.func36,Tryz.func37,Tryz.func38,Tryz.func39,Tryz.func40,Tryz.func41,Tryz.func42,Tryz.func43,Tryz.func44,Tryz.func45,Tryz.func46,Tryz.func47,Tryz.func48,Tryz.func49,Tryz.func50,Tryz.func51,Tryz.func52,Tryz.func53,Tryz.func54,Tryz.func55,Tryz.func56,Tryz.func57,Tryz.func58,Tryz.func59,Tryz.func60,Tryz.func61,Tryz.func62,Tryz.func63,Tryz.func64,Tryz.func65,Tryz.func66,Tryz.func67,Tryz.func68,Tryz.func69,Tryz.func70,Tryz.func71,Tryz.func72,Tryz.func73,Tryz.func74,Tryz.func75,Tryz.func76,Tryz.func77,Tryz.func78,Tryz.func79,Tryz.func80,Tryz.func81,Tryz.func82,Tryz.func83,Tryz.func84,Tryz.func85,Tryz.func86,Tryz.func87,Tryz.func88,Tryz.func89,Tryz.func90,Tryz.func91,Tryz.func92,Tryz.func93,Tryz.func94,Tryz.func95,Tryz.func96,Tryz.func97,Tryz.func98,Tryz.func99,Tryz.func100,Tryz.func101,Tryz.func102,Tryz.func103,Tryz.func104,Tryz.func105,Tryz.func106,Tryz.func107,Tryz.func108,Tryz.func109,Tryz.func110,Tryz.func111,Tryz.func112,Tryz.func113,Tryz.func114,Tryz.func115,Tryz.func116,Tryz.func117,Tryz.func118,Tryz.func119,Tryz.func120,Tryz.func121,Tryz.func122,Tryz.func123,Tryz.func124,Tryz.func125,Tryz.func126,Tryz.func127,Tryz.func128,Tryz.func129,Tryz.func130,Tryz.func131,Tryz.func132,Tryz.func133,Tryz.func134,Tryz.func135,Tryz.func136,Tryz.func137,Tryz.func138,Tryz.func139,Tryz.func140,Tryz.func141,Tryz.func142,Tryz.func143,Tryz.func144,Tryz.func145,Tryz.func146,Tryz.func147,Tryz.func148,Tryz.func149,Tryz.func150,Tryz.func151,Tryz.func152,Tryz.func153,Tryz.func154,Tryz.func155,Tryz.func156,Tryz.func157,Tryz.func158,Tryz.func159,Tryz.func160,Tryz.func161,Tryz.func162,Tryz.func163,Tryz.func164,Tryz.func165,Tryz.func166,Tryz.func167,Tryz.func168,Tryz.func169,Tryz.func170,Tryz.func171,Tryz.func172,Tryz.func173,Tryz.func174,Tryz.func175,Tryz.func176,Tryz.func177,Tryz.func178,Tryz.func179,Tryz.func180,Tryz.func181,Tryz.func182,Tryz.func183,Tryz.func184,Tryz.func185,Tryz.func186,Tryz.func187,Tryz.func188,Tryz.func189,Tryz.func190,Tryz.func191,Tryz.func192,Tryz.func193,Tryz.func194,trivial⟩
theorem ok_sz:tabs.sz.all (fun x=>tyB Tryz.prog x.1 x.2.1 x.2.2 && (x.2.1 || Nat.beq x.2.2 1))=true:=by kernel_rfl
theorem ok_zr:tabs.zr.map (fun x=>(Tryz.prog.info? x.1).bind (·.zero))=tabs.zr.map (fun x=>some x.2):=by kernel_rfl
theorem kHG:tabs.fd.all (fun x=>allI (fun f o=>qVJ Tryz.prog x.1 f o) 0 x.2)=true:=by kernel_rfl
theorem ok_fx:tabs.fx.all (fun x=>allI (fxB Tryz.prog x.1) 0 x.2)=true:=by kernel_rfl
theorem ok_ar:tabs.ar.all (fun x=>arX Tryz.prog x.1 x.2)=true:=by kernel_rfl
theorem kHV:tabs.sl.all (fun x=>slcB Tryz.prog x.1 x.2.1 x.2.2.1 && Nat.blt 0 x.2.2.1 && Nat.ble x.2.2.1 1000 && appB Tryz.prog x.1 x.2.1 x.2.2.1 x.2.2.2 && Nat.ble x.2.2.2 100000)=true:=by kernel_rfl
theorem ok_ly:tabs.ly.map (fun x=>(qKJ Tryz.prog x.1).map (·.2))=tabs.ly.map (fun x=>some x.2):=by kernel_rfl
theorem ok_ik:tabs.ik.map (fun x=>Tryz.prog.underlying x.1)=tabs.ik.map (fun x=>some (.int x.2)):=by kernel_rfl
theorem ok_str:tabs.str.map (fun x=>Tryz.prog.underlying x)=tabs.str.map (fun _=>some .string):=by kernel_rfl
theorem ok_bo:tabs.bo.map (fun x=>Tryz.prog.underlying x)=tabs.bo.map (fun _=>some .bool):=by kernel_rfl
theorem ok_fn2:tabs.fn.all (fun x => !(x.2.name == "runtime.NumGoroutine") && !x.2.body.isNone)=true:=by kernel_rfl
theorem ok:tabs.Ok Tryz.prog:=⟨ok_sz,ok_zr,kHG,ok_fx,ok_ar,kHV,ok_ly,ok_ik,ok_str,ok_bo,⟨eq53,trivial⟩,fns,ok_fn2,fun f hf=>by simp [tabs] at hf⟩
noncomputable def T:Tab:=tabs.tab
theorem yJ:TabOk Tryz.prog T:=Tabs.ok ok
theorem yQ:Tryz.prog.follows .mixedOrders=true:=by kernel_rfl
noncomputable def tabsF:Tabs:={ tabs with
 hint:=[(4,[(11,{ keep:=[15,17,18,19,20,21,22],ids:=[15,25,31,37],out:=some ([14,17,19,20,21],[31]) })]),
  (7,[(4,{ keep:=[2,5,6,7],ids:=[2,11,43,49,55],out:=some ([6],[43,49,55]) })]),
  (8,[(4,{ keep:=[3,4,9,10,11],ids:=[4,17,19],out:=some ([9],[17]) })]),
  (11,[(7,{ keep:=[1,3,4,5,6,7,16,17],ids:=[7,69,71,111],out:=some ([14,15],[71,111]),fun_:=[(71,[.zs]),(111,[.zs])] })]),
  (12,[(4,{ keep:=[1,2,3,7],ids:=[3],out:=some ([6],[]) })]),
  (13,[(5,{ keep:=[0,3,4],ids:=[25],out:=some ([3],[25]),own:=[(3,25,72,2)],fun_:=[(25,[.n .i64 0,.n .i64 0])] })]),
  (14,[(4,{ keep:=[0,1,5],ids:=[],out:=some ([4],[]) })]),
  (15,[(5,{ keep:=[1,2,3,7,8],ids:=[3],out:=some ([7],[]) })]),
  (16,[(3,{ keep:=[0,1,4,5,6],ids:=[4,5,24],out:=some ([4,5],[4,5,24]) })]),
  (17,[(5,{ keep:=[1,2,3,4,11],ids:=[4,34,58],out:=some ([3,8,9,10],[34,58]) }),(8,{ keep:=[1,2,3,4,11,40,41,42],ids:=[4,34,58],out:=some ([1,2,3,4,11],[4,34,58]) })]),
  (19,[(4,{ keep:=[0,2,3,4,5],ids:=[2,3,21,46],out:=some ([0,2,3,4],[2,3,21,46]) }),(8,{ keep:=[0,2,3,4,6],ids:=[2,3,21,24,46],out:=some ([2,3],[2,3,21,46]) })]),
  (22,[(3,{ keep:=[1,3,7,8],ids:=[3,11,64],out:=some ([8],[64]) })]),
  (25,[(4,{ keep:=[1,3,4,5,6,7,16],ids:=[7,63,136],out:=some ([14,15],[63,136]),fun_:=[(63,[.zs]),(136,[.zs])] }),(14,{ keep:=[1,3,4,5,6,7,16,17,18,19,20],ids:=[7,63,73,112,136],out:=some ([1,3,4,5,6,7,16,18,19],[7,63,73,112,136]),own:=[(19,112,2,1)],fun_:=[(63,[.zs]),(112,[.n .i64 0]),(136,[.zs])] })]),
  (26,[(4,{ keep:=[0,1,5],ids:=[],out:=some ([4],[]) })]),
  (27,[(4,{ keep:=[2,17,18,19],ids:=[2],out:=some ([4],[]) }),(9,{ keep:=[2,6,17,18,19,45,46],ids:=[2,6],out:=some ([2,4,6,17,18,19],[2,6]) })]),
  (32,[(6,{ keep:=[1,2,8,40,41,42],ids:=[],out:=some ([8],[]) })]),
  (33,[(5,{ keep:=[0,1,2,3,9,20,21],ids:=[18],out:=some ([9],[18]),fun_:=[(18,[.n .i64 0])] })]),
  (34,[(4,{ keep:=[1,2,5],ids:=[2],out:=some ([4],[]) })]),
  (36,[(2,{ keep:=[0,3],ids:=[],out:=some ([2],[]) })]),
  (37,[(4,{ keep:=[1,3],ids:=[1],out:=some ([1,2],[1,27]) }),(12,{ keep:=[1,5],ids:=[1],out:=some ([2],[27]) })]),
  (39,[(2,{ keep:=[2,3,9,10,11],ids:=[3],out:=some ([2],[]) })]),
  (40,[(4,{ keep:=[0,1,12,13],ids:=[],out:=some ([4],[]) })]),
  (43,[(5,{ keep:=[1,2,5,6],ids:=[2,54],out:=some ([5],[54]) })]),
  (46,[(3,{ keep:=[2,3,4,5,6],ids:=[2,3,4,5,34],out:=some ([4,5],[4,5,34]) })]),
  (47,[(5,{ keep:=[2,3,6,7,8],ids:=[2,3],out:=some ([6,7],[]) })]),
  (49,[(5,{ keep:=[1,2,3,4,11],ids:=[4],out:=some ([8,9,10],[]) }),(10,{ keep:=[1,2,3,4,11,12],ids:=[4],out:=some ([1,2,3,4,11],[4]) })]),
  (50,[(4,{ keep:=[1,17,18],ids:=[1],out:=some ([1,2],[1,23]) })]),
  (52,[(4,{ keep:=[1,2,14,15,16],ids:=[],out:=some ([6],[]) })]),
  (55,[(2,{ keep:=[1,7,8,9],ids:=[],out:=some ([4],[]) })]),
  (56,[(4,{ keep:=[7,8,21,22,23],ids:=[17,20,53],out:=some ([8],[20,53]) })]),
  (58,[(3,{ keep:=[1,5,11,12,13],ids:=[10,22],out:=some ([5],[10,22]),fun_:=[(10,[.n .i64 0,.n .i64 0])] })]),
  (60,[(2,{ keep:=[1,2,5],ids:=[2],out:=some ([4],[]) })]),
  (62,[(4,{ keep:=[0,1,5],ids:=[],out:=some ([4],[]) })]),
  (63,[(5,{ keep:=[1,3,4],ids:=[1,30],out:=some ([3],[30]),own:=[(3,30,72,2)] })]),
  (64,[(5,{ keep:=[0,1,5,6],ids:=[5],out:=some ([1,4,5],[5]) })]),
  (66,[(9,{ keep:=[2,3,4,10,11,12,42,43,44],ids:=[3,4],out:=some ([2,3,4,10,11,12],[3,4]) }),(20,{ keep:=[2,10,12,16,17,80,81,82],ids:=[78],out:=some ([17],[78]),fun_:=[(78,[.n .i64 0])] })]),
  (74,[(2,{ keep:=[1,3],ids:=[1],out:=some ([2],[]) })]),
  (75,[(4,{ keep:=[1,2,5],ids:=[2],out:=some ([4],[]) })]),
  (76,[(7,{ keep:=[2,3,4,8,10],ids:=[3,4],out:=some ([2,3,4,8,10],[3,4]) }),(11,{ keep:=[2,3,4,8,10,11,12],ids:=[3,4],out:=some ([2,3,4,8,10,11],[3,4]) }),(20,{ keep:=[2,3,8,10,11,13,14,15],ids:=[3,122],out:=some ([14],[122]),own:=[(14,122,2,1)],fun_:=[(122,[.n .i64 0])] })]),
  (81,[(2,{ keep:=[5,6],ids:=[],out:=some ([2],[]) })]),
  (82,[(4,{ keep:=[1,2,14,15,16],ids:=[],out:=some ([6],[]) })]),
  (88,[(3,{ keep:=[1,2,3,5],ids:=[1,2,3,12],out:=some ([2,3],[2,3,12]) })]),
  (93,[(2,{ keep:=[0,3],ids:=[],out:=some ([2],[]) })]),
  (95,[(4,{ keep:=[0,3],ids:=[],out:=some ([2],[]) })]),
  (97,[(6,{ keep:=[2,3,4,8,9,33,34,35],ids:=[3,4,29,31],out:=some ([8],[29]),fun_:=[(29,[.n .i64 0]),(31,[.n .i64 0])] })]),
  (98,[(4,{ keep:=[0,4,5],ids:=[11],out:=some ([2,3],[11]),fun_:=[(11,[.n .i64 0])] }),(6,{ keep:=[0,4,5,6,14,15,16],ids:=[11],out:=some ([0,4,5,6],[11]),fun_:=[(11,[.n .i64 0])] })]),
  (104,[(3,{ keep:=[2,3,4,5,6],ids:=[2,3,4,5],out:=some ([4,5],[4,5]) }),(6,{ keep:=[2,3,4,5,6,7],ids:=[2,3,4,5],out:=some ([2,3,4,5,6],[2,3,4,5]) })]),
  (110,[(5,{ keep:=[2,3,4,8,9],ids:=[3,4,76],out:=some ([8],[76]),own:=[(8,76,2,1)],fun_:=[(76,[.n .i64 0])] })]),
  (111,[(2,{ keep:=[0,1,5],ids:=[],out:=some ([4],[]) })]),
  (114,[(4,{ keep:=[18],ids:=[18],out:=some ([2],[]) })]),
  (115,[(2,{ keep:=[1,2,8,9],ids:=[2],out:=some ([4],[]) })]),
  (116,[(2,{ keep:=[5,6],ids:=[],out:=some ([2],[]) })]),
  (119,[(2,{ keep:=[0,1,7,8],ids:=[],out:=some ([4],[]) })]),
  (122,[(3,{ keep:=[1,5,13,14,15],ids:=[11,27,43],out:=some ([5],[11,27,43]) })]),
  (125,[(4,{ keep:=[15,16,17],ids:=[],out:=some ([2],[]) }),(7,{ keep:=[15,16,17,21,22],ids:=[],out:=some ([2,15,16,17],[]) })]),
  (126,[(3,{ keep:=[2,6,7,12,13],ids:=[2],out:=some ([6,7],[]) })]),
  (127,[(2,{ keep:=[0,1,7,8],ids:=[],out:=some ([4],[]) })]),
  (140,[(3,{ keep:=[2,3,4,5,8],ids:=[2,3,4,5,27],out:=some ([4,5],[4,5,27]) }),(6,{ keep:=[2,3,4,5,6,8,11],ids:=[2,3,4,5,27],out:=some ([2,3,4,5,8],[2,3,4,5,27]) })]),
  (145,[(2,{ keep:=[0,1,7,8],ids:=[],out:=some ([4],[]) })]),
  (149,[(3,{ keep:=[2,3,4,5,10],ids:=[2,3,4,5],out:=some ([4,5],[4,5]) }),(6,{ keep:=[2,3,4,5,6,10,13],ids:=[2,3,4,5],out:=some ([2,3,4,5,10],[2,3,4,5]) }),(10,{ keep:=[2,3,4,5,6,7,8,10,13,16],ids:=[2,3,4,5,8,31],out:=some ([2,3,4,5,6,7,8,10,13],[2,3,4,5,8,31]) })]),
  (151,[(6,{ keep:=[4,6,7,40,41],ids:=[4,53],out:=some ([4,6,7],[4,53]) })]),
  (155,[(3,{ keep:=[0,1,3],ids:=[0,1,8],out:=some ([0,1],[0,1,8]) })]),
  (160,[(3,{ keep:=[2,3,4,5,7],ids:=[2,3,4,5,17],out:=some ([4,5],[4,5,17]) })]),
  (175,[(5,{ keep:=[2,3,4,5,6],ids:=[2,3,4,5,9,13,27,37],out:=some ([2,3,4,5],[2,3,4,5,9,13,27,37]) })]),
  (191,[(6,{ keep:=[2,3,4,5,6],ids:=[2,3,4,5,11,15,29,39],out:=some ([2,3,4,5],[2,3,4,5,11,15,29,39]) })]),
  (192,[(3,{ keep:=[3,4,7,8,9],ids:=[],out:=some ([3],[]) })])]
 ff:=[11,
  13,
  17,
  25,
  31,
  33,
  49,
  58,
  66,
  76,
  97,
  98,
  110,
  132]
}
theorem okF:tabsF.Ok Tryz.prog:=⟨ok_sz,ok_zr,kHG,ok_fx,ok_ar,kHV,ok_ly,ok_ik,ok_str,ok_bo,⟨eq53,trivial⟩,fns,ok_fn2,fun f hf=>by simp [tabsF,tabs] at hf⟩
noncomputable def Tf:Tab:=tabsF.tab
theorem qVU:TabOk Tryz.prog Tf:=Tabs.ok okF
end Go.Proofs.YtmffoiemmlcmfaaGreat.Rt
namespace Go.Rx
open Go.RowKit Go.Sx
def kB:IntKind→IntKind→Bool
 | .i64,.i64=>true
 | .i32,.i32=>true
 | .u64,.u64=>true
 | .u8,.u8=>true
 | _,_=>false
theorem kB_eq {k k':IntKind} (h:kB k k'=true):k=k':=by cases k <;> cases k' <;> first | rfl | cases h
def eqP:Nat→PV→PV→Bool
 | 0,_,_=>false
 | _ + 1,.n k x,.n k' y=>kB k k' && decide (x=y)
 | _ + 1,.b x,.b y=>x == y
 | _ + 1,.s x,.s y=>decide (x.data.toList=y.data.toList)
 | n + 1,.a xs,.a ys=>eqL n xs ys
 | n + 1,.t xs,.t ys=>eqL n xs ys
 | n + 1,.l xs,.l ys=>eqLL n xs ys
 | n + 1,.z xs j o,.z ys j' o'=>eqLL n xs ys && Nat.beq j j' && Nat.beq o o'
 | n + 1,.c xs o,.c ys o'=>eqL n xs ys && Nat.beq o o'
 | n + 1,.f f fs cs,.f f' fs' cs'=>Nat.beq f f' && eqL n fs fs' && eqL n cs cs'
 | _ + 1,.ni,.ni=>true
 | _ + 1,.np,.np=>true
 | _ + 1,.nf,.nf=>true
 | _ + 1,_,_=>false
where
 eqL:Nat→List PV→List PV→Bool
 | 0,_,_=>false
 | _ + 1,[],[]=>true
 | n + 1,x :: xs,y :: ys=>eqP n x y && eqL n xs ys
 | _ + 1,_,_=>false
 eqLL:Nat→List (List PV)→List (List PV)→Bool
 | 0,_,_=>false
 | _ + 1,[],[]=>true
 | n + 1,x :: xs,y :: ys=>eqP.eqL n x y && eqLL n xs ys
 | _ + 1,_,_=>false
theorem bytes_eq {x y:ByteArray} (h:x.data.toList=y.data.toList):x=y:=by
 cases x; cases y
 congr 1
 exact Array.toList_inj.1 h
theorem eq_all:∀ n,(∀ p q,eqP n p q=true→p=q)∧(∀ p q,eqP.eqL n p q=true→p=q)∧(∀ p q,eqP.eqLL n p q=true→p=q)
 | 0=>⟨fun p q h=>by simp [eqP] at h,fun p q h=>by simp [eqP.eqL] at h,fun p q h=>by simp [eqP.eqLL] at h⟩
 | n + 1=>by
  obtain ⟨h1,h2,h3⟩:=eq_all n;refine ⟨fun p q h => ?_,fun p q h => ?_,fun p q h => ?_⟩
  ·cases p <;> cases q <;> simp only [eqP,vQJ,decide_eq_true_eq,beq_iff_eq] at h <;> first | (cases h; done) | skip
   ·rw [kB_eq h.1,h.2]
   ·rw [h]
   ·rw [bytes_eq h]
   ·rw [h2 _ _ h]
   ·rw [h2 _ _ h]
   ·rw [h3 _ _ h]
   ·rw [h3 _ _ h.1.1,vQX h.1.2,vQX h.2]
   ·rw [h2 _ _ h.1,vQX h.2]
   ·rw [vQX h.1.1,h2 _ _ h.1.2,h2 _ _ h.2]
   ·rfl
   ·rfl
   ·rfl
  ·cases p <;> cases q <;> simp only [eqP.eqL,vQJ] at h <;> first | (cases h; done) | skip
   ·rfl
   ·rw [h1 _ _ h.1,h2 _ _ h.2]
  ·cases p <;> cases q <;> simp only [eqP.eqLL,vQJ] at h <;> first | (cases h; done) | skip
   ·rfl
   ·rw [h2 _ _ h.1,h3 _ _ h.2]
abbrev Known:=List (Nat × List (List PV × Ret))
def kGX:List (List PV × Ret)→List PV→Option Ret
 | [],_=>none
 | (ps,r) :: l,qs=>bif eqP.eqL 200 ps qs then some r else kGX l qs
def Known.orc (t:Known):Orc:=⟨fun g=>(asc t g).bind fun l=>some (kGX l),fun _=>none⟩
def Known.Ok (P:Program) (t:Known):Prop:=∀ x ∈ t,∀ y ∈ x.2,zH P x.1 y.1 y.2
theorem findK_mem {l:List (List PV × Ret)} {qs:List PV} {r:Ret} (h:kGX l qs=some r):(qs,r) ∈ l:=by
 induction l with
 | nil=>cases h
 | cons y l ih =>
  obtain ⟨ps,r'⟩:=y;simp only [kGX] at h;cases hc:eqP.eqL 200 ps qs with
  | true=>rw [hc] at h; cases h; rw [(eq_all 200).2.1 _ _ hc]; exact vZQ
  | false=>rw [hc] at h; exact vQH _ (ih h)
theorem Known.ok {P:Program} {t:Known} (h:t.Ok P):OrcOk P t.orc:=by
 refine ⟨fun g o ho ps r hr => ?_,fun g o ho=>by simp [Known.orc] at ho⟩;simp only [Known.orc,vQQ,vQZ] at ho;obtain ⟨l,hl,rfl⟩:=ho;exact h _ (qVZ hl) _ (findK_mem hr)
theorem Known.nil (P:Program):Known.Ok P []:=fun x hx=>by simp at hx
theorem Known.add {P:Program} {T:Tab} {t:Known} {f:Nat} {l:List (List PV × Ret)} {N:Nat} (hT:TabOk P T) (hm:P.follows .mixedOrders=true) (ht:t.Ok P) (h:l.map (fun y=>run T t.orc N f y.1)=l.map (fun y=>some y.2)):Known.Ok P ((f,l) :: t):=fun x hx=>by
 rcases List.mem_cons.1 hx with rfl | hx
 ·exact fun y hy=>zXW hT hm (Known.ok ht) (yUW h hy)
 ·exact ht x hx
end Go.Rx

/- Part 7 of the texts behind the last one: rules and contracts. No condition. -/
import Derived.Test.YtklmegnpfhiibaaGreatBK6
open Option renaming bind_eq_some_iff → vQQ
open Option.some renaming injEq → vQZ
open Bool renaming and_eq_true → vQJ
open List renaming getElem?_eq_getElem → vQK, mem_of_getElem? → vQW, mem_cons_of_mem → vQV, mem_cons_self → vQG, getElem?_map → vQH
open Nat renaming eq_of_beq_eq_true → vQU, lt_of_lt_of_le → vZZ
namespace Go.Rx
open Go.RowKit Go.Sx
def Harm (P:Program) (d:Deferred):Prop:=∃ f cap,d.target=.fn (.func f) cap∧kJ P f∧∀ (args:Array Value) (w:World),CallsD P f args .returning w fun e u w'=>(∃ v,e=.returned v)∧u=.returning∧w'=w
theorem qXA {P:Program} {fn:Func} {tmps:Array Value} {R:Ending→World→Prop} {v:Value} {w:World} (hv:(results fn tmps).run P w=.ok v w) (hR:R (.returned v) w):∀ (ds:List Deferred),(∀ d ∈ ds,Harm P d)→Leaves P fn tmps R ds .returning w
 | [],_=>⟨v,hv,hR⟩
 | d :: ds,h=>by
  obtain ⟨f,cap,htar,hent,hc⟩:=h d vQG;refine ⟨by simp,.func f,cap,f,d.args ++ cap,htar,by rw [htar]; exact hent _ _,CallsD.mono (hc (d.args ++ cap) w) ?_⟩
  rintro e u' w' ⟨⟨x,rfl⟩,rfl,rfl⟩
  exact qXA hv hR ds fun d hd=>h d (vQV _ hd)
structure TabOk (P:Program) (T:Tab):Prop where
 sz:∀ t b k,T.sz t=some (b,k)→tyB P t b k=true∧(b=false→k=1)
 zr:∀ t ps,T.zr t=some ps→∃ z,qQW P t z∧Al (fun p v=>(∀ F w,RP F w p v)∧v.oneCell'=true) ps z.cells.toList
 zh:∀ t hs,T.zh t=some hs→∃ z,qQW P t z∧Al (fun x v=>(∀ ρ F w,RH ρ F w x v)∧v.oneCell'=true) hs z.cells.toList
 fd:∀ t f o,T.fd t f=some o→zXA P t f o=true
 fx:∀ t f o b k,T.fx t f=some (o,b,k)→∃ fields fld,P.underlying t=some (.struct fields)∧fields[f]? = some fld∧fld.offset=o∧tyB P fld.type b k=true∧(b=false→k=1)
 ar:∀ t n k b,T.ar t=some (n,k,b)→arrB P t n k=true∧∃ e,P.underlying t=some (.array n e)∧tyB P e b k=true∧(b=false→k=1)
 sl:∀ t e k,T.sl t=some (e,k)→slcB P t e k=true∧0 < k∧k≤1000∧∃ bytes,appB P t e k bytes=true∧bytes≤100000∧T.bd e * bytes≤140737488355328∧T.bd e≤17592186044416
 ly:∀ t pl,T.ly t=some pl→∃ z,qXG P t=some (z,pl)∧∀ ps,T.zr t=some ps→Al (fun p v=>(∀ F w,RP F w p v)∧v.oneCell'=true) ps z
 ik:∀ t k,T.ik t=some k→P.underlying t=some (.int k)
 str:∀ t,T.str t=true→P.underlying t=some .string
 bo:∀ t,T.bo t=true→P.underlying t=some .bool
 eqK:∀ t ks,T.eqK t=some ks→aggB P t=true∧∀ vs:List Value,(∃ ps F w,qVJ ks ps=true∧Al (RP F w) ps vs)→qZG P 12 t vs=true
 dd:∀ f,T.dd f=true→kJ P f∧∀ (args:Array Value) (w:World),CallsD P f args .returning w fun e u w'=>(∃ v,e=.returned v)∧u=.returning∧w'=w
 fn:∀ f fi,T.fn f=some fi→kJ P f∧∃ fn,P.funcs[f]? = some fn∧fn.body=some fi.body∧fn.ntmps=fi.ntmps∧fn.results=fi.results.toArray
def actS (a:Act):yY:=Sx.initS 0 a.tmps.toList
theorem look_init {vs:List Value} {k t:Nat} {v:Value} (h:vs[t]? = some v):Sx.look (Sx.initS k vs) (k + t)=some v:=by
 induction vs generalizing k t with
 | nil=>simp at h
 | cons u vs ih =>
  cases t with
  | zero=>simp at h; subst h; exact qQC _ _ _
  | succ t =>
   simp at h;simp only [Sx.initS];rw [qZU _ _ (by omega),show k + (t + 1)=(k + 1) + t by omega];exact ih h
theorem fits_act {n:Nat} {a:Act} (hs:a.tmps.size=n):Fits n (actS a) { a with defers:=[] }:=⟨hs,rfl,fun t v h=>by
 obtain ⟨_,h2⟩:=look_initS h
 simpa using h2⟩
theorem ev_act {a:Act} {t:Nat} {v:Value} (h:a.tmps[t]? = some v):ev (actS a) (.tmp t)=some v:=by
 have:=look_init (vs:=a.tmps.toList) (k:=0) (t:=t) (v:=v) (by simpa using h)
 rw [Nat.zero_add] at this;exact this
section
variable {P:Program} {E:Env} {n:Nat} {ρ:Own} {F:Nat→Prop} {σ:St} {a:Act} {w:World}
theorem zVJ (hs:a.tmps.size=n) {o:Oper} {v:Value} (h:OpV P ⟨w,[]⟩ (actS a) [] o v):Goes P o a w (fun u w'=>u=v∧Grow w w'):=by
 have hy:=h.run w (Knows.nil (Grow.refl w));unfold Goes;rw [show a.eval=({ a with defers:=[] }:Act).eval from rfl,qXJ (fits_act hs) h.known h.nosel];generalize (execOp (evD (actS a)) o).run P w=r at *;cases r with
 | ok x w' =>
  cases x <;> first | exact hy.elim | exact ⟨hy.2,hy.1⟩ | skip
  exact Calls.mono hy.2 fun e w'' ⟨v,he,hg,ht⟩=>⟨v,he,ht,hy.1.trans hg⟩
 | halt x w'=>exact hy.elim
theorem qXY {W:Nat→Prop} {w0 w w':World} (h:GrowB W w0 w) (g:Grow w w'):GrowB W w0 w':=h.trans (GrowB.of g)
theorem Rel'.val (h:Rel' E n ρ F σ a w) {F':Nat→Prop} {w':World} (g:Grow w w') (hF:∀ k,F k→F' k) (hF':∀ k,F' k→F k ∨ (w.heap.size≤k∧k < w'.heap.size)) {x:HV} {v:Value} (hx:RH ρ F' w' x v) {dst:Option Nat} (hd:dstB n dst=true) :
  Rel' E n ρ F' (σ.apply (.val x) dst) (a.put dst v) w':=by
 have hlt:∀ k,F k→k < w.heap.size:=fun k hk=>(h.mem.fz k hk).1
 refine h.apply (.val x) dst v (fun d e=>by subst e; simpa [dstB] using hd) ⟨fun id b h=>h,fun id L h _ _=>h,fun _ _ _ _ _ _ _ h _ _=>h,fun id rows a c k sz _ hs=>by simp [Eff.val,yK] at hs,fun k hk=>⟨hF k hk,g.block k (hlt k hk)⟩⟩ hx
  (fun id L b _ hL hb=>g.block b (h.mem.off id L b hL hb).2.1) (fun _ _=>rfl) (fun id x hu=>by simp [Eff.val,yZ] at hu) (fun _ _=>rfl) (fun id x hu=>by simp [Eff.val,yZ] at hu) h.mem.apart
  (fun id L b hL hb=>⟨fun hf => ?_,vZZ (h.mem.off id L b hL hb).2.1 g.size,(h.mem.off id L b hL hb).2.2⟩)
  (fun k hk => ?_) (qXY h.mem.grow g) (fun _ _=>rfl)
 ·have:=h.mem.off id L b hL hb
  rcases hF' b hf with h1 | h1
  ·exact this.1 h1
  ·omega
 ·rcases hF' k hk with h1 | h1
  ·exact ⟨vZZ (hlt k h1) g.size,(h.mem.fz k h1).2⟩
  ·exact ⟨h1.2,.inr (.inl (Nat.le_trans h.mem.grow.size h1.1))⟩
theorem zG (h:Rel' E n ρ F σ a w) {o:Oper} {x:HV} {v:Value} (hop:OpV P ⟨w,[]⟩ (actS a) [] o v) (hx:RH ρ F w x v) (hd:dstB n o.dst=true):Goes P o a w (fun u w'=>Rel E n (σ.apply (.val x) o.dst) (a.put o.dst u) w') :=
 (zVJ h.size hop).mono fun u w' ⟨hu,g⟩=>by
  subst hu;exact ⟨ρ,F,h.val g (fun _ h=>h) (fun _ h=>.inl h) (hx.mono (fun _ _ h=>h) fun k hk=>⟨hk,g.block k (h.mem.fz k hk).1⟩) hd⟩
theorem Rel'.grow (h:Rel' E n ρ F σ a w) {w':World} (g:Grow w w'):Rel' E n ρ F σ a w':=by
 have hF:∀ k,F k→F k∧w'.heap[k]? = w.heap[k]?:=fun k hk=>⟨hk,g.block k (h.mem.fz k hk).1⟩
 refine ⟨h.size,h.defers,fun t x hx => ?_,⟨fun id e hl => ?_,h.mem.dom,h.mem.ord,h.mem.inr,h.mem.apart,fun id L b hL hb=>⟨(h.mem.off id L b hL hb).1,vZZ (h.mem.off id L b hL hb).2.1 g.size,(h.mem.off id L b hL hb).2.2⟩,
  fun k hk=>⟨vZZ (h.mem.fz k hk).1 g.size,(h.mem.fz k hk).2⟩,h.mem.fz0,qXY h.mem.grow g,h.mem.pin,fun b hb=>⟨(h.mem.rd b hb).1,(g.block b (h.mem.off pid2 _ b (h.mem.rd b hb).1 rfl).2.1).trans (h.mem.rd b hb).2⟩⟩⟩
 ·obtain ⟨v,h1,h2⟩:=h.slots t x hx;exact ⟨v,h1,h2.mono (fun _ _ h=>h) hF⟩
 ·have:=EntOk.sub (sb:=[]) (ρ':=ρ) (F':=F) (w':=w') ⟨fun id b h=>h,fun id L h _ _=>h,fun _ _ _ _ _ _ _ h _ _=>h,fun id rows a c k sz _ hs=>by simp [yK] at hs,hF⟩ (h.mem.ent id e hl) rfl rfl (fun L b hL hb=>g.block b (h.mem.off id L b hL hb).2.1) (fun j L b hL hb=>g.block b (h.mem.off _ L b hL hb).2.1)
  rwa [Ent.sub_nil] at this
theorem Rel.grow (h:Rel E n σ a w) {w':World} (g:Grow w w'):Rel E n σ a w':=by
 obtain ⟨ρ,F,h⟩:=h; exact ⟨ρ,F,h.grow g⟩
def RCs (M:Mem):RC→Prop
 | .v _=>True
 | .p id _ cells=>∃ hc,qV M id=some (.blk hc)∧mapO (cvOf M) hc=some cells
def RRes (M:Mem):RV→Prop
 | .o id e sz rows=>qV M id=some (.reg e sz rows)
 | .p id _ cells=>∃ hc,qV M id=some (.blk hc)∧mapO (cvOf M) hc=some cells
 | .q id _ _ e sz rows=>qV M id=some (.reg e sz rows)
 | .i id _ s pos=>qV M id=some (.itr s pos)
 | .no id e n=>∃ ie isz rows pd,n=rows.len∧qV M id=some (.nst e ie isz rows pd)
 | .nq id _ _ e ie isz rows pd=>qV M id=some (.nst e ie isz rows pd)
 | .mi id _ e ie isz rows pd=>qV M id=some (.nst e ie isz rows pd)
 | .ld id i=>qV M id=some (.blk [.o i])
 | .g _ _ cap=>∀ c ∈ cap,RCs M c
 | _=>True
theorem qUW {M:Mem} {x:HV} {r:RV} (h:res M x=some r):r.back=x∧RRes M r:=by
 cases x with
 | o id =>
  simp only [res] at h;split at h
  ·rename_i e sz rows hl; cases h; exact ⟨rfl,hl⟩
  ·rename_i e ie isz rows pd hl; cases h; exact ⟨rfl,_,_,_,_,rfl,hl⟩
  ·cases h
 | m id j =>
  simp only [res] at h;split at h
  ·rename_i e ie isz rows pd hl; cases h; exact ⟨rfl,hl⟩
  ·cases h
 | mp id j=>cases h; exact ⟨rfl,trivial⟩
 | p id off =>
  simp only [res] at h;split at h
  ·rename_i cells hl;simp only [vQQ,vQZ] at h;obtain ⟨cs,hcs,rfl⟩:=h;exact ⟨rfl,cells,hl,hcs⟩
  ·rename_i s pos hl; cases h; exact ⟨rfl,hl⟩
  ·cases h
 | q id j off =>
  simp only [res] at h;split at h
  ·rename_i e sz rows hl; cases h; exact ⟨rfl,hl⟩
  ·rename_i e ie isz rows pd hl; cases h; exact ⟨rfl,hl⟩
  ·cases h
 | g fn first cap =>
  simp only [res,vQQ,vQZ] at h;obtain ⟨cs,hcs,rfl⟩:=h;have h1:=yJ hcs;refine ⟨?_,fun c hc => ?_⟩
  ·simp only [RV.back]
   congr 1
   refine List.ext_getElem? fun i => ?_
   rw [vQH];cases hi:cap[i]? with
   | none =>
    have:cs[i]? = none:=by rw [List.getElem?_eq_none_iff] at hi ⊢; rw [← h1.1]; exact hi
    rw [this]; rfl
   | some x =>
    obtain ⟨y,hy,hr⟩:=h1.get hi;rw [hy,Option.map_some]
    congr 1
    cases x with
    | v x=>simp only [rcOf,vQZ] at hr; subst hr; rfl
    | p id off =>
     simp only [rcOf] at hr;split at hr
     ·simp only [vQQ,vQZ] at hr; obtain ⟨_,_,rfl⟩:=hr; rfl
     ·cases hr
  ·obtain ⟨i,hi⟩:=List.mem_iff_getElem?.1 hc;have hil:=(List.getElem?_eq_some_iff.1 hi).1;have hcap:i < cap.length:=by rw [h1.1]; exact hil
   have hr:=h1.2 i _ c (vQK hcap) hi;generalize cap[i]=x at hr;cases x with
   | v x=>simp only [rcOf,vQZ] at hr; subst hr; trivial
   | p id off =>
    simp only [rcOf] at hr;split at hr
    ·rename_i cells hl;simp only [vQQ,vQZ] at hr;obtain ⟨cc,hcc,rfl⟩:=hr;exact ⟨cells,hl,hcc⟩
    ·cases hr
 | v x=>cases h; exact ⟨rfl,trivial⟩
 | nl=>cases h; exact ⟨rfl,trivial⟩
 | un=>cases h; exact ⟨rfl,trivial⟩
 | ag cs=>cases h; exact ⟨rfl,trivial⟩
theorem sh_spec (M:Mem) (x:HV):(sh x).back=x∧RRes M (sh x):=by cases x <;> exact ⟨rfl,trivial⟩
theorem resM_spec {m:Nat} {M:Mem} {x:HV} {r:RV} (h:resM m M x=some r):r.back=x∧RRes M r:=by
 match m with
 | 0=>exact qUW h
 | 1=>simp only [resM,vQZ] at h; subst h; exact sh_spec M x
 | 2 =>
  cases x with
  | o id=>exact qUW (by simpa only [resM] using h)
  | _=>simp only [resM,vQZ] at h; subst h; exact sh_spec M _
 | m + 3 =>
  cases x with
  | p id off =>
   cases off with
   | succ off=>exact qUW (by simpa only [resM] using h)
   | zero =>
    simp only [resM] at h;split at h
    ·rename_i i2 hl; cases h; exact ⟨rfl,hl⟩
    ·exact qUW h
  | _=>exact qUW (by simpa only [resM] using h)
theorem qQX {v:Value} {p:PV} (h:qHF v=some p):RP F w p v∧v.oneCell'=true:=by
 unfold qHF at h;split at h <;> first | (cases h; done) | (cases h; exact ⟨by constructor,rfl⟩)
theorem zZW {p:PV} {v:Value} (h:RP F w p v):RH ρ F w p.toH v:=by
 cases p with
 | zs=>cases h; rfl
 | _=>exact h
theorem yU (h:Rel' E n ρ F σ a w) {m:Nat} {x:Operand} {r:RV} (hx:opv m σ x=some r):∃ v,ev (actS a) x=some v∧RH ρ F w r.back v∧RRes σ.M r:=by
 cases x with
 | tmp t =>
  simp only [opv,vQQ] at hx;obtain ⟨z,hz,hr⟩:=hx;obtain ⟨v,hv,hrh⟩:=h.slots t z hz;obtain ⟨e,hres⟩:=resM_spec hr;exact ⟨v,ev_act hv,by rw [e]; exact hrh,hres⟩
 | const v =>
  refine ⟨v,rfl,?_⟩;simp only [opv] at hx;unfold zVW at hx;split at hx
  ·cases hx; exact ⟨rfl,trivial⟩
  ·rename_i cs;simp only [vQQ,vQZ] at hx;obtain ⟨l,hl,rfl⟩:=hx;have ha:=yJ hl;refine ⟨?_,trivial⟩;show RP F w (.a l) (.agg cs)
   have:=RP.a (F:=F) (w:=w) l cs.toList ha.1.symm (fun v hv => ?_) (fun i p v hp hv=>(qQX (ha.2 i v p hv hp)).1)
   ·simpa using this
   ·obtain ⟨i,hi⟩:=List.mem_iff_getElem?.1 hv;obtain ⟨y,hy,hr⟩:=ha.get hi;exact (qQX (F:=F) (w:=w) hr).2
  ·simp only [vQQ,vQZ] at hx;obtain ⟨y,hy,rfl⟩:=hx;exact ⟨(qQX hy).1,trivial⟩
 | func f =>
  simp only [opv,vQZ] at hx;subst hx;exact ⟨.func (.func f) #[] #[],rfl,.f f [] [] [] [] rfl rfl (fun i p v hp=>by simp at hp) (fun i p v hp=>by simp at hp),trivial⟩
 | global g=>cases hx
theorem zQD (h:Rel' E n ρ F σ a w) {m:Nat} {xs:List Operand} {rs:List RV} (hx:mapO (opv m σ) xs=some rs):∃ vs,evs (actS a) xs=some vs∧Al (fun r v=>RH ρ F w r.back v) rs vs∧∀ r ∈ rs,RRes σ.M r:=by
 induction xs generalizing rs with
 | nil=>simp [mapO] at hx; subst hx; exact ⟨[],rfl,Al.nil,fun r hr=>by cases hr⟩
 | cons x xs ih =>
  simp only [mapO,vQQ,vQZ] at hx;obtain ⟨r,hr,rs',hrs,rfl⟩:=hx;obtain ⟨v,h1,h2,h3⟩:=yU h hr;obtain ⟨vs,h4,h5,h6⟩:=ih hrs;refine ⟨v :: vs,by simp [evs,h1,h4,qXD],Al.cons h2 h5,fun r' hr' => ?_⟩;rcases List.mem_cons.1 hr' with rfl | hr'
  ·exact h3
  ·exact h6 r' hr'
end
end Go.Rx
namespace Go.Rx
open Go.RowKit Go.Sx
theorem qWI {α β:Type} {f:α→Option β} {x:α} {ys:List β} (h:mapO f [x]=some ys):∃ y,f x=some y∧ys=[y]:=by
 simp only [mapO,vQQ,vQZ] at h;obtain ⟨y,hy,zs,rfl,rfl⟩:=h;exact ⟨y,hy,rfl⟩
theorem zHB {α β:Type} {f:α→Option β} {x x':α} {ys:List β} (h:mapO f [x,x']=some ys):∃ y y',f x=some y∧f x'=some y'∧ys=[y,y']:=by
 simp only [mapO,vQQ,vQZ] at h;obtain ⟨y,hy,zs,⟨y',hy',zs',rfl,rfl⟩,rfl⟩:=h;exact ⟨y,y',hy,hy',rfl⟩
theorem mapO3 {α β:Type} {f:α→Option β} {x x' x'':α} {ys:List β} (h:mapO f [x,x',x'']=some ys):∃ y y' y'',f x=some y∧f x'=some y'∧f x''=some y''∧ys=[y,y',y'']:=by
 simp only [mapO,vQQ,vQZ] at h;obtain ⟨y,hy,zs,⟨y',hy',zs',⟨y'',hy'',zs'',rfl,rfl⟩,rfl⟩,rfl⟩:=h;exact ⟨y,y',y'',hy,hy',hy'',rfl⟩
theorem qQ {α:Type} {c:Bool} {x:Option α} {y:α} (h:(bif c then x else none)=some y):c=true∧x=some y:=by
 cases c with
 | true=>exact ⟨rfl,h⟩
 | false=>cases h
section
variable {P:Program} {E:Env} {C:Cx} {ρ:Own} {F:Nat→Prop} {σ:St} {a:Act} {w:World} {vs:List RV} {e:Eff}
variable {d:Option Tmp} {ty:TypeId} {pos:String} {af:Array Edge} {g:Option (Nat × Bool)}
theorem rp_lf_some {F:Nat→Prop} {w:World} {n:Nat} {f:Nat→List PV} {v:Value} (h:RP F w (.lf (n + 1) f) v):∃ ad c,v=.slice (some ad) (n + 1) c:=by
 obtain ⟨rows,hr,h1⟩:∃ rows,(List.range (n + 1)).map f=rows∧RP F w (.l rows) v:=by
  cases h with | lf _ _ _ h=>exact ⟨_,rfl,h⟩
 have hl:rows.length=n + 1:=by rw [← hr,List.length_map,List.length_range]
 cases h1 with
 | l0 ad c=>simp at hl
 | l _ b off n' c sz g hn=>exact ⟨_,c,by rw [hn,hl]⟩
def OK (P:Program) (E:Env) (C:Cx) (σ:St) (a:Act) (w:World) (e:Eff) (o:Oper):Prop:=Goes P o a w (fun u w'=>Rel E C.n (σ.apply e o.dst) (a.put o.dst u) w')
theorem ok_move {x:Operand} (h:Rel' E C.n ρ F σ a w) (hd:dstB C.n d=true) (hvs:mapO (opv 1 σ) [x]=some vs) (he:qU C.T C.cA C.cB C.me (d.getD 0) (.move x) vs=some e):OK P E C σ a w e ⟨d,.move x,ty,pos,af,g⟩:=by
 obtain ⟨r,hr,rfl⟩:=qWI hvs;obtain ⟨v,h1,h2,h3⟩:=yU h hr;cases he;exact zG h (yX h1) h2 hd
theorem ok_assign {x:Operand} (h:Rel' E C.n ρ F σ a w) (hd:dstB C.n d=true) (hvs:mapO (opv 1 σ) [x]=some vs) (he:qU C.T C.cA C.cB C.me (d.getD 0) (.assign x) vs=some e):OK P E C σ a w e ⟨d,.assign x,ty,pos,af,g⟩:=by
 obtain ⟨r,hr,rfl⟩:=qWI hvs;obtain ⟨v,h1,h2,h3⟩:=yU h hr;cases he;exact zG h (zK h1) h2 hd
theorem qUA {x:Bool} {v:Value} (h:RP F w (.b x) v):v=.bool x:=by cases h; rfl
theorem qQK {k:IntKind} {x:Int} {v:Value} (h:RP F w (.n k x) v):v=.int k x:=by cases h; rfl
theorem qVY {x:ByteArray} {v:Value} (h:RP F w (.s x) v):v=.string x:=by cases h; rfl
theorem qGZ {cs:List PV} {v:Value} (h:RP F w (.a cs) v):∃ vs:List Value,v=.agg vs.toArray∧Al (RP F w) cs vs∧∀ u ∈ vs,u.oneCell'=true:=by
 cases h with
 | a _ vs hl h1 h=>exact ⟨vs,rfl,⟨hl,h⟩,h1⟩
theorem rp_tup {cs:List PV} {v:Value} (h:RP F w (.t cs) v):∃ vs:List Value,v=.tuple vs.toArray∧Al (RP F w) cs vs:=by
 cases h with
 | t _ vs hl h=>exact ⟨vs,rfl,hl,h⟩
theorem ok_pick {c x y:Operand} (h:Rel' E C.n ρ F σ a w) (hd:dstB C.n d=true) (hvs:mapO (opv 1 σ) [c,x,y]=some vs) (he:qU C.T C.cA C.cB C.me (d.getD 0) (.pick c x y) vs=some e):OK P E C σ a w e ⟨d,.pick c x y,ty,pos,af,g⟩:=by
 obtain ⟨rc,rx,ry,hc,hx,hy,rfl⟩:=mapO3 hvs;obtain ⟨vc,c1,c2,_⟩:=yU h hc;obtain ⟨vx,x1,x2,_⟩:=yU h hx;obtain ⟨vy,y1,y2,_⟩:=yU h hy;cases rc with
 | v p =>
  cases p with
  | b t =>
   cases he;rw [qUA c2] at c1;cases t with
   | true=>exact zG h (opV_pick_t c1 rfl x1 y1) x2 hd
   | false=>exact zG h (opV_pick_f c1 rfl x1 y1) y2 hd
  | _=>cases he
 | _=>cases he
theorem ok_not {t:TypeId} {x:Operand} (h:Rel' E C.n ρ F σ a w) (hd:dstB C.n d=true) (hvs:mapO (opv 0 σ) [x]=some vs) (he:qU C.T C.cA C.cB C.me (d.getD 0) (.unOp .not t x) vs=some e):OK P E C σ a w e ⟨d,.unOp .not t x,ty,pos,af,g⟩:=by
 obtain ⟨r,hr,rfl⟩:=qWI hvs;obtain ⟨v,h1,h2,h3⟩:=yU h hr;cases r with
 | v p =>
  cases p with
  | b b =>
   cases he;rw [qUA h2] at h1;exact zG h (zWG h1) (.b _) hd
  | _=>cases he
 | _=>cases he
theorem ok_neg {t:TypeId} {x:Operand} (h:Rel' E C.n ρ F σ a w) (hd:dstB C.n d=true) (hvs:mapO (opv 0 σ) [x]=some vs) (he:qU C.T C.cA C.cB C.me (d.getD 0) (.unOp .neg t x) vs=some e):OK P E C σ a w e ⟨d,.unOp .neg t x,ty,pos,af,g⟩:=by
 obtain ⟨r,hr,rfl⟩:=qWI hvs;obtain ⟨v,h1,h2,h3⟩:=yU h hr;cases r with
 | v p =>
  cases p with
  | n k b =>
   cases he;rw [qQK h2] at h1;exact zG h (opV_neg h1 rfl) (.n _ _) hd
  | _=>cases he
 | _=>cases he
theorem opV_neqB {S:yY} {H:Heap} {w0:Base} {x y:Operand} {t t':TypeId} {p q:Bool} (hb:P.underlying t=some .bool) (hx:ev S x=some (.bool p)) (hy:ev S y=some (.bool q)):OpV P w0 S H ⟨d,.binOp .neq t x y t',ty,pos,af,g⟩ (.bool (!(p == q))) :=
 yG (by simp [yQ,Op.operands,hx,hy]) rfl fun w _=>by
  have:=run_neq_bool (P:=P) (w:=w) t p q hb
  simp [execOp,zQ hx,zQ hy,eqGuard,this]
theorem opV_neqS {S:yY} {H:Heap} {w0:Base} {x y:Operand} {t t':TypeId} {p q:ByteArray} (_:P.underlying t=some .string) (hx:ev S x=some (.string p)) (hy:ev S y=some (.string q)):OpV P w0 S H ⟨d,.binOp .neq t x y t',ty,pos,af,g⟩ (.bool (!(p.toList == q.toList))) :=
 yG (by simp [yQ,Op.operands,hx,hy]) rfl fun w _=>by simp [execOp,zQ hx,zQ hy,eqGuard,binOp,Op.stringOp]
theorem qHB {S:yY} {H:Heap} {w0:Base} {x y:Operand} {t t' el:TypeId} {ad:Option Addr} {n c:Nat} {op:BinOp} {r:Bool} (hu:P.underlying t=some (.slice el)) (hx:ev S x=some (.slice ad n c)) (hy:ev S y=some (.slice none 0 0)) (hop:(op=.eql∧r=ad.isNone) ∨ (op=.neq∧r = !ad.isNone)) :
  OpV P w0 S H ⟨d,.binOp op t x y t',ty,pos,af,g⟩ (.bool r) :=
 yG (by simp [yQ,Op.operands,hx,hy]) rfl fun w _=>by
  rcases hop with ⟨rfl,rfl⟩ | ⟨rfl,rfl⟩
  ·have:=run_equal_slice_nil (P:=P) w t el ad n c hu
   simp [execOp,zQ hx,zQ hy,eqGuard,binOp,this]
  ·have:=run_neq_slice_nil (P:=P) w t el ad n c hu
   simp [execOp,zQ hx,zQ hy,eqGuard,this]
theorem binI_spec {op:BinOp} {k:IntKind} {x y:Int} {r:PV} {S:yY} {H:Heap} {w0:Base} {p q:Operand} {t t':TypeId} (hr:binI op k x y=some r) (hx:ev S p=some (.int k x)) (hy:ev S q=some (.int k y)) :
  ∃ v,OpV P w0 S H ⟨d,.binOp op t p q t',ty,pos,af,g⟩ v∧RP F w r v:=by
 cases op <;> first | (cases hr; done) | skip
 all_goals first
  | (cases hr; exact ⟨_,zKU hx hy rfl,.n _ _⟩)
  | (cases hr; exact ⟨_,opV_sub hx hy rfl,.n _ _⟩)
  | (cases hr; exact ⟨_,opV_mul hx hy rfl,.n _ _⟩)
  | (cases hr; exact ⟨_,opV_and hx hy rfl,.n _ _⟩)
  | (cases hr; exact ⟨_,opV_lss hx hy,.b _⟩)
  | (cases hr; exact ⟨_,opV_leq hx hy,.b _⟩)
  | (cases hr; exact ⟨_,opV_gtr hx hy,.b _⟩)
  | (cases hr; exact ⟨_,opV_geq hx hy,.b _⟩)
  | (cases hr; exact ⟨_,opV_eql hx hy,.b _⟩)
  | (cases hr; exact ⟨_,opV_neq hx hy,.b _⟩)
  | (simp only [binI] at hr
     cases hz:decide (y=0) with
     | true=>rw [hz] at hr; cases hr
     | false =>
      rw [hz] at hr; cases hr
      have:y ≠ 0:=vYX hz
      first | exact ⟨_,opV_quo hx hy this rfl,.n _ _⟩ | exact ⟨_,opV_rem hx hy this rfl,.n _ _⟩)
theorem qVG {F:Nat→Prop} {w:World} {ks:List Kd}:∀ {xs ys:List PV} {us vs:List Value} {e:Bool},zYV xs ys=some e→Al (RP F w) xs us→Al (RP F w) ys vs→eqCells us vs=e
 | [],[],us,vs,e,h,hx,hy=>by rw [hx.nil_left,hy.nil_left]; cases h; rfl
 | x :: xs,y :: ys,us,vs,e,h,hx,hy=>by
  simp only [zYV,vQQ,vQZ] at h;obtain ⟨e1,h1,e2,h2,rfl⟩:=h;obtain ⟨u,us',rfl,hu,hx'⟩:=hx.cons_left;obtain ⟨v,vs',rfl,hv,hy'⟩:=hy.cons_left;simp only [eqCells,qVG (ks:=ks) h2 hx' hy']
  congr 1
  cases x <;> cases y <;> first | (cases h1; done) | skip
  ·rw [qQK hu,qQK hv]; cases h1; rfl
  ·rw [qUA hu,qUA hv]; cases h1; rfl
  ·rw [qVY hu,qVY hv]; cases h1; rfl
 | [],_ :: _,_,_,_,h,_,_=>by cases h
 | _ :: _,[],_,_,_,h,_,_=>by cases h
theorem ok_bin {op:BinOp} {t t':TypeId} {x y:Operand} (hT:TabOk P C.T) (h:Rel' E C.n ρ F σ a w) (hd:dstB C.n d=true) (hvs:mapO (opv 0 σ) [x,y]=some vs) (he:qU C.T C.cA C.cB C.me (d.getD 0) (.binOp op t x y t') vs=some e):OK P E C σ a w e ⟨d,.binOp op t x y t',ty,pos,af,g⟩:=by
 obtain ⟨rx,ry,hx,hy,rfl⟩:=zHB hvs;obtain ⟨vx,x1,x2,_⟩:=yU h hx;obtain ⟨vy,y1,y2,_⟩:=yU h hy;cases rx with
 | v p =>
  cases ry with
  | v q =>
   have he:((binP C.T op t p q).bind fun r=>some (Eff.val (.v r)))=some e:=he;simp only [vQQ,vQZ] at he;obtain ⟨r,hr,rfl⟩:=he;have x2:RP F w p vx:=x2;have y2:RP F w q vy:=y2
   suffices hs:∃ v,OpV P ⟨w,[]⟩ (actS a) [] ⟨d,.binOp op t x y t',ty,pos,af,g⟩ v∧RP F w r v by
    obtain ⟨v,h1,h2⟩:=hs;exact zG h h1 h2 hd
   unfold binP at hr;split at hr
   ·obtain ⟨hb,hr⟩:=qQ hr;cases hr;rw [qQK x2] at x1; rw [qQK y2] at y1;exact ⟨_,opV_shl x1 y1 (vYU hb) rfl,.n _ _⟩
   ·obtain ⟨hb,hr⟩:=qQ hr;cases hr;rw [qQK x2] at x1; rw [qQK y2] at y1;exact ⟨_,opV_shr x1 y1 (vYU hb) rfl,.n _ _⟩
   ·obtain ⟨hb,hr2⟩:=qQ hr
    have:=vYU hb
    subst this;rw [qQK x2] at x1; rw [qQK y2] at y1;exact binI_spec hr2 x1 y1
   ·obtain ⟨hb,hr⟩:=qQ hr;cases hr;rw [qVY x2] at x1; rw [qVY y2] at y1;exact ⟨_,opV_eqlS (hT.str t hb) x1 y1,.b _⟩
   ·obtain ⟨hb,hr⟩:=qQ hr;cases hr;rw [qVY x2] at x1; rw [qVY y2] at y1;exact ⟨_,opV_neqS (hT.str t hb) x1 y1,.b _⟩
   ·obtain ⟨hb,hr⟩:=qQ hr;cases hr;rw [qUA x2] at x1; rw [qUA y2] at y1;exact ⟨_,opV_eqlB (hT.bo t hb) x1 y1,.b _⟩
   ·obtain ⟨hb,hr⟩:=qQ hr;cases hr;rw [qUA x2] at x1; rw [qUA y2] at y1;exact ⟨_,opV_neqB (hT.bo t hb) x1 y1,.b _⟩
   ·simp only [vQQ] at hr;obtain ⟨ks,hks,hr⟩:=hr;obtain ⟨hb,hr⟩:=qQ hr;simp only [vQQ,vQZ] at hr;obtain ⟨b,hb2,rfl⟩:=hr;rw [vQJ] at hb;obtain ⟨us,rfl,hu,_⟩:=qGZ x2;obtain ⟨ws,rfl,hw,_⟩:=qGZ y2;obtain ⟨hag,hce⟩:=hT.eqK t ks hks;refine ⟨_,opV_eqA 12 rfl hag x1 y1 (hce us ⟨_,F,w,hb.1,hu⟩) (hce ws ⟨_,F,w,hb.2,hw⟩),?_⟩;rw [qVG (ks:=ks) hb2 hu hw]; exact .b _
   ·simp only [vQQ] at hr;obtain ⟨ks,hks,hr⟩:=hr;obtain ⟨hb,hr⟩:=qQ hr;simp only [vQQ,vQZ] at hr;obtain ⟨b,hb2,rfl⟩:=hr;rw [vQJ] at hb;obtain ⟨us,rfl,hu,_⟩:=qGZ x2;obtain ⟨ws,rfl,hw,_⟩:=qGZ y2;obtain ⟨hag,hce⟩:=hT.eqK t ks hks;refine ⟨_,opV_neA 12 rfl hag x1 y1 (hce us ⟨_,F,w,hb.1,hu⟩) (hce ws ⟨_,F,w,hb.2,hw⟩),?_⟩;rw [qVG (ks:=ks) hb2 hu hw]; exact .b _
   ·cases hr
  | nl =>
   simp only [qU,vQQ,vQZ] at he;obtain ⟨⟨el,sz⟩,hsl,r,hr,rfl⟩:=he;obtain ⟨hslc,_⟩:=hT.sl t el sz hsl;have hu:P.underlying t=some (.slice el):=by
    unfold slcB at hslc;split at hslc
    ·rename_i e' hu;rw [vQJ] at hslc
     have:e'=el:=by simpa using hslc.1
     rw [hu,this]
    ·cases hslc
   have y2:vy=.slice none 0 0:=y2;subst y2;have x2:RP F w p vx:=x2;unfold nilCmp at hr;split at hr
   ·cases hr;cases x2 with
    | l=>exact zG h (qHB hu x1 y1 (.inl ⟨rfl,rfl⟩)) (RP.b _) hd
   ·cases hr;cases x2 with
    | l=>exact zG h (qHB hu x1 y1 (.inr ⟨rfl,rfl⟩)) (RP.b _) hd
   ·cases hr;cases x2 with
    | nz=>exact zG h (qHB hu x1 y1 (.inl ⟨rfl,rfl⟩)) (RP.b _) hd
   ·cases hr;cases x2 with
    | ne=>exact zG h (qHB hu x1 y1 (.inl ⟨rfl,rfl⟩)) (RP.b _) hd
   ·cases hr;obtain ⟨ad,c,rfl⟩:=rp_lf_some x2;exact zG h (qHB hu x1 y1 (.inl ⟨rfl,rfl⟩)) (RP.b _) hd
   ·cases hr;obtain ⟨ad,c,rfl⟩:=rp_lf_some x2;exact zG h (qHB hu x1 y1 (.inr ⟨rfl,rfl⟩)) (RP.b _) hd
   ·cases hr
  | _=>cases he
 | _=>cases he
end
end Go.Rx
namespace Go.Sx
open Go.RowKit
theorem splice_take {ys rest vs:List Value} {p s:Nat} (h:p + s≤ys.length) (_:vs.length=s):((ys ++ rest).take p ++ vs ++ (ys ++ rest).drop (p + s)).take ys.length=ys.take p ++ vs ++ ys.drop (p + s):=by
 have e1:(ys ++ rest).take p=ys.take p:=List.take_append_of_le_length (by omega);have e2:(ys ++ rest).drop (p + s)=ys.drop (p + s) ++ rest:=List.drop_append_of_le_length h;have hl:(ys.take p ++ vs ++ ys.drop (p + s)).length=ys.length:=by simp; omega
 rw [e1,e2,← List.append_assoc,← hl,List.take_left]
section
variable {P:Program} {n:Nat} {w0:Base} {ops:Array Oper} {Q:Exit→Act→World→Prop} {S:yY} {H:Heap}
variable {ty:TypeId} {pos:String} {af:Array Edge} {g:Option (Nat × Bool)} {rest:List Oper}
end
end Go.Sx
namespace Go.Rx
open Go.RowKit Go.Sx
theorem takeL_spec {α:Type} {cs:List α} {k:Nat} {vs:List α} (h:zGH cs k=some vs):vs=cs.take k∧k≤cs.length:=by
 induction k generalizing cs vs with
 | zero=>simp [zGH] at h; simp [h]
 | succ k ih =>
  cases cs with
  | nil=>simp [zGH] at h
  | cons c cs =>
   simp only [zGH,vQQ,vQZ] at h;obtain ⟨ws,hw,rfl⟩:=h;obtain ⟨e,hl⟩:=ih hw;simp [← e,hl]
theorem qYL {α:Type} {cs:List α} {off k:Nat} {vs:List α} (h:qKG cs off k=some vs):vs=(cs.drop off).take k∧off + k≤cs.length:=by
 induction off generalizing cs with
 | zero =>
  have:=takeL_spec (by simpa [qKG] using h)
  simpa using this
 | succ off ih =>
  cases cs with
  | nil=>simp [qKG] at h
  | cons c cs =>
   have:=ih (by simpa [qKG] using h)
   simp [this.1]; omega
theorem qWY {α:Type} {cs:List α} {off:Nat} {vs cs':List α} (h:qZY cs off vs=some cs') :
  cs'=cs.take off ++ vs ++ cs.drop (off + vs.length)∧off + vs.length≤cs.length:=by
 induction cs generalizing off vs cs' with
 | nil =>
  cases off with
  | zero=>cases vs with
   | nil=>simp [qZY] at h; simp [h]
   | cons v vs=>simp [qZY] at h
  | succ off=>simp [qZY] at h
 | cons c cs ih =>
  cases off with
  | zero=>cases vs with
   | nil=>simp [qZY] at h; simp [h]
   | cons v vs =>
    simp only [qZY,vQQ,vQZ] at h;obtain ⟨ws,hw,rfl⟩:=h;obtain ⟨e,hl⟩:=ih hw;simp at e hl ⊢;exact ⟨e,hl⟩
  | succ off =>
   simp only [qZY,vQQ,vQZ] at h;obtain ⟨ws,hw,rfl⟩:=h;obtain ⟨e,hl⟩:=ih hw;simp [e,show off + 1 + vs.length=(off + vs.length) + 1 by omega]; omega
section
variable {P:Program} {E:Env} {C:Cx} {ρ:Own} {F:Nat→Prop} {σ:St} {a:Act} {w:World} {vs:List RV} {e:Eff}
variable {d:Option Tmp} {ty:TypeId} {pos:String} {af:Array Edge} {g:Option (Nat × Bool)}
theorem rp_z {rows:List (List PV)} {j o:Nat} {v:Value} (h:RP F w (.z rows j o) v):∃ (b off sz:Nat) (g:Nat→Nat→Value),v=.pointer (some ⟨b,off + (j * sz + o),none⟩)∧(∀ r ∈ rows,r.length=sz)∧F b ∧
  (∀ j t,j < rows.length→t < sz→w.cell? ⟨b,off + (j * sz + t),none⟩=some (g j t)∧(g j t).oneCell'=true)∧(∀ (j:Nat) r (t:Nat) p,rows[j]? = some r→r[t]? = some p→RP F w p (g j t)):=by
 cases h with
 | z _ b off sz _ _ g hs hF hc h=>exact ⟨b,off,sz,g,rfl,hs,hF,hc,h⟩
theorem rp_c {cells:List PV} {o:Nat} {v:Value} (h:RP F w (.c cells o) v):∃ b ty vs,v=.pointer (some ⟨b,o,none⟩)∧F b∧w.heap[b]? = some (.cells vs.toArray ty)∧Al (RP F w) cells vs∧∀ u ∈ vs,u.oneCell'=true:=by
 cases h with
 | c _ vs b _ ty hF hb hl h1 h=>exact ⟨b,ty,vs,rfl,hF,hb,⟨hl,h⟩,h1⟩
theorem qVX {rows:List (List PV)} {b off sz:Nat} {g:Nat→Nat→Value} (hs:∀ r ∈ rows,r.length=sz) (hF:F b)
  (hc:∀ j t,j < rows.length→t < sz→w.cell? ⟨b,off + (j * sz + t),none⟩=some (g j t)∧(g j t).oneCell'=true) (h:∀ (j:Nat) r (t:Nat) p,rows[j]? = some r→r[t]? = some p→RP F w p (g j t))
  {j o x:Nat} (hx:x=off + (j * sz + o)):RP F w (.z rows j o) (.pointer (some ⟨b,x,none⟩)):=by
 subst hx; exact .z rows b off sz j o g hs hF hc h
theorem zUC {n:Nat} {f:Nat→List PV} {v:Value} (h:RP F w (.lf n f) v):RP F w (.l ((List.range n).map f)) v:=by
 cases h with
 | lf _ _ _ h=>exact h
theorem zWX {n:Nat} {f:Nat→List PV} {j o:Nat} {v:Value} (h:RP F w (.zf n f j o) v):j < n∧∃ (b off sz:Nat) (g:Nat→Nat→Value),v=.pointer (some ⟨b,off + (j * sz + o),none⟩)∧(∀ r ∈ (List.range n).map f,r.length=sz)∧F b ∧
  (∀ j t,j < ((List.range n).map f).length→t < sz→w.cell? ⟨b,off + (j * sz + t),none⟩=some (g j t)∧(g j t).oneCell'=true)∧∀ (j:Nat) r (t:Nat) p,((List.range n).map f)[j]? = some r→r[t]? = some p→RP F w p (g j t):=by
 cases h with
 | zf _ _ _ _ _ hj h=>exact ⟨hj,rp_z h⟩
theorem opV_nilC {S:yY} {H:Heap} {w0:Base} {x:Operand} {ad:Addr} (hx:ev S x=some (.pointer (some ad))):OpV P w0 S H ⟨d,.nilCheck x,ty,pos,af,g⟩ (.pointer (some ad)):=opV_nilCheck hx
theorem ok_nil {x:Operand} (h:Rel' E C.n ρ F σ a w) (hd:dstB C.n d=true) (hvs:mapO (opv 1 σ) [x]=some vs) (he:qU C.T C.cA C.cB C.me (d.getD 0) (.nilCheck x) vs=some e):OK P E C σ a w e ⟨d,.nilCheck x,ty,pos,af,g⟩:=by
 obtain ⟨r,hr,rfl⟩:=qWI hvs;obtain ⟨v,h1,h2,h3⟩:=yU h hr
 suffices hs:∃ ad,v=.pointer (some ad)∧e=.val r.back by
  obtain ⟨ad,rfl,rfl⟩:=hs;exact zG h (opV_nilC h1) h2 hd
 cases r with
 | v p =>
  cases p with
  | z rows j o=>cases he; obtain ⟨b,off,sz,g,rfl,_⟩:=rp_z h2; exact ⟨_,rfl,rfl⟩
  | c cells o=>cases he; obtain ⟨b,ty,vs,rfl,_⟩:=rp_c h2; exact ⟨_,rfl,rfl⟩
  | zf n f j o=>cases he; obtain ⟨_,b,off,sz,g,rfl,_⟩:=zWX h2; exact ⟨_,rfl,rfl⟩
  | _=>cases he
 | w x =>
  cases x with
  | p id off=>cases he; obtain ⟨b,_,rfl⟩:=h2; exact ⟨_,rfl,rfl⟩
  | q id j off=>cases he; obtain ⟨b,c,k,sz,_,_,rfl⟩:=h2; exact ⟨_,rfl,rfl⟩
  | _=>cases he
 | _=>cases he
theorem ok_fieldAddr {t:TypeId} {f:Nat} {x:Operand} (hT:TabOk P C.T) (h:Rel' E C.n ρ F σ a w) (hd:dstB C.n d=true) (hvs:mapO (opv 1 σ) [x]=some vs) (he:qU C.T C.cA C.cB C.me (d.getD 0) (.fieldAddr t x f) vs=some e):OK P E C σ a w e ⟨d,.fieldAddr t x f,ty,pos,af,g⟩:=by
 obtain ⟨r,hr,rfl⟩:=qWI hvs;obtain ⟨v,h1,h2,h3⟩:=yU h hr;cases hf:C.T.fd t f with
 | none=>simp only [qU,hf] at he; cases he
 | some o =>
  have hF:=hT.fd t f o hf;cases r with
  | v p =>
   cases p with
   | z rows j off =>
    simp only [qU,hf] at he; cases he;obtain ⟨b,off0,sz,g,rfl,q1,q2,q3,q4⟩:=rp_z h2;exact zG h (qYE hF h1) (qVX q1 q2 q3 q4 (by omega)) hd
   | c cells off =>
    simp only [qU,hf] at he; cases he;obtain ⟨b,ty',vs,rfl,q1,q2,q3,q4⟩:=rp_c h2;exact zG h (qYE hF h1) (RP.c cells vs b _ ty' q1 q2 q3.1 q4 q3.2) hd
   | zf n f j off =>
    simp only [qU,hf] at he; cases he;obtain ⟨hj,b,off0,sz,g,rfl,q1,q2,q3,q4⟩:=zWX h2;exact zG h (qYE hF h1) (RP.zf _ _ _ _ _ hj (qVX q1 q2 q3 q4 (by omega))) hd
   | _=>simp only [qU,hf] at he; cases he
  | w x =>
   cases x with
   | p id off=>simp only [qU,hf] at he; cases he; obtain ⟨b,q,rfl⟩:=h2; exact zG h (qYE hF h1) ⟨b,q,rfl⟩ hd
   | q id j off=>simp only [qU,hf] at he; cases he; obtain ⟨b,c,k,sz,q,hj,rfl⟩:=h2; exact zG h (qYE hF h1) ⟨b,c,k,sz,q,hj,by rw [Nat.add_assoc]⟩ hd
   | _=>simp only [qU,hf] at he; cases he
  | _=>simp only [qU,hf] at he; cases he
theorem qJL {i:Int} {n:Nat} (h:inB i n=true):0≤i∧i < n:=by
 simp only [inB,vQJ,decide_eq_true_eq] at h; omega
theorem ok_indexAddr {t:TypeId} {x y:Operand} (hT:TabOk P C.T) (h:Rel' E C.n ρ F σ a w) (hd:dstB C.n d=true) (hvs:mapO (opv 2 σ) [x,y]=some vs) (he:qU C.T C.cA C.cB C.me (d.getD 0) (.indexAddr t x y) vs=some e):OK P E C σ a w e ⟨d,.indexAddr t x y,ty,pos,af,g⟩:=by
 obtain ⟨rx,ry,hx,hy,rfl⟩:=zHB hvs;obtain ⟨vx,x1,x2,x3⟩:=yU h hx;obtain ⟨vy,y1,y2,_⟩:=yU h hy;cases ry with
 | v py =>
  cases py with
  | n k i =>
   rw [qQK y2] at y1;have arr:∀ {b off len size:Nat} {x':HV},vx=.pointer (some ⟨b,off,none⟩)→arrB P t len size=true→inB i len=true→e=.val x'→RH ρ F w x' (.pointer (some ⟨b,off + i.toNat * size,none⟩))→OK P E C σ a w e ⟨d,.indexAddr t x y,ty,pos,af,g⟩:=by
    intro b off len size x' hv hA hi he hr;subst hv; subst he;obtain ⟨i0,i1⟩:=qJL hi;exact zG h (opV_indexAddr hA x1 y1 i0 i1) hr hd
   cases rx with
   | v p =>
    cases p with
    | c cells off =>
     simp only [qU,vQQ] at he;obtain ⟨kk,hk,he⟩:=he;obtain ⟨hi,he⟩:=qQ he;cases he;obtain ⟨b,ty',vs,hv,q1,q2,q3,q4⟩:=rp_c x2;exact arr hv (hT.ar t kk.1 kk.2.1 kk.2.2 hk).1 hi rfl (RP.c cells vs b _ ty' q1 q2 q3.1 q4 q3.2)
    | z rows j off =>
     simp only [qU,vQQ] at he;obtain ⟨kk,hk,he⟩:=he;obtain ⟨hi,he⟩:=qQ he;cases he;obtain ⟨b,off0,sz,g,hv,q1,q2,q3,q4⟩:=rp_z x2;exact arr hv (hT.ar t kk.1 kk.2.1 kk.2.2 hk).1 hi rfl (qVX q1 q2 q3 q4 (by omega))
    | zf n f j off =>
     simp only [qU,vQQ] at he;obtain ⟨kk,hk,he⟩:=he;obtain ⟨hi,he⟩:=qQ he;cases he;obtain ⟨hj,b,off0,sz,g,hv,q1,q2,q3,q4⟩:=zWX x2;exact arr hv (hT.ar t kk.1 kk.2.1 kk.2.2 hk).1 hi rfl (RP.zf _ _ _ _ _ hj (qVX q1 q2 q3 q4 (by omega)))
    | lf n f =>
     simp only [qU,vQQ] at he;obtain ⟨kk,hk,he⟩:=he;obtain ⟨hi,he⟩:=qQ he;cases he;rw [vQJ] at hi;obtain ⟨i0,i1⟩:=qJL hi.1;have hl:=vQU hi.2;have hr:((List.range n).map f)[i.toNat]? = some (f i.toNat):=by
      rw [vQH,List.getElem?_range (by omega)]; rfl
     have x3:=zUC x2;have hz:∀ v,RP F w (.z ((List.range n).map f) i.toNat 0) v→RP F w (.zf n f i.toNat 0) v:=fun v hv=>.zf _ _ _ _ _ (by omega) hv
     generalize (List.range n).map f=rows at hr x3 hz;have hlt:=(List.getElem?_eq_some_iff.1 hr).1;cases x3 with
     | l0=>simp at hr
     | l _ b off n c sz g hn hcap hs hF hc hh =>
      have hsz:sz=kk.2:=by rw [← hs _ (vQW hr)]; exact hl
      subst hn;refine zG h (qJJ (hT.sl t kk.1 kk.2 hk).1 x1 y1 i0 (by omega)) (hz _ (qVX hs hF (fun j t hj ht=>hc j t hj ht) hh (by rw [hsz]; omega))) hd
    | l rows =>
     simp only [qU,vQQ] at he;obtain ⟨kk,hk,r,hr,he⟩:=he;obtain ⟨hi,he⟩:=qQ he;cases he;simp only [vQJ,decide_eq_true_eq] at hi;obtain ⟨i0,hl⟩:=hi;have hl:=vQU hl;have hlt:=(List.getElem?_eq_some_iff.1 hr).1;cases x2 with
     | l0=>simp at hr
     | l _ b off n c sz g hn hcap hs hF hc hh =>
      have hsz:sz=kk.2:=by rw [← hs r (vQW hr)]; exact hl
      subst hn;refine zG h (qJJ (hT.sl t kk.1 kk.2 hk).1 x1 y1 i0 (by omega)) (qVX hs hF (fun j t hj ht=>hc j t hj ht) hh (by rw [hsz]; omega)) hd
    | _=>simp only [qU] at he; cases he
   | no id e' n =>
    simp only [qU,vQQ] at he;obtain ⟨kk,hk,he⟩:=he;obtain ⟨hi,he⟩:=qQ he;cases he;rw [vQJ] at hi;obtain ⟨i0,i1⟩:=qJL hi.1;have hsz:=vQU hi.2;obtain ⟨ad,c,k',sz',hρ,rfl⟩:=x2;obtain ⟨ie,isz,rows,pd,rfl,hl⟩:=x3;obtain ⟨ad2,c2,H,hρ2,h0,hown,_⟩:=h.mem.ent id _ hl;rw [hρ] at hρ2;simp only [vQZ,Loc.reg.injEq] at hρ2;obtain ⟨rfl,rfl,rfl,rfl⟩:=hρ2;rcases hown.2 with ⟨hnil,h00⟩ | ⟨gg,cap,cur,hsl,_⟩
    ·omega
    ·simp only [Value.slice.injEq] at hsl;obtain ⟨rfl,_,rfl⟩:=hsl;refine zG h (qJJ (hT.sl t kk.1 kk.2 hk).1 x1 y1 i0 i1) ⟨gg,c,rows.len,1,hρ,by omega,by rw [Nat.zero_add,Nat.add_zero,hsz]⟩ hd
   | o id e' sz rows =>
    simp only [qU,vQQ] at he;obtain ⟨kk,hk,he⟩:=he;obtain ⟨hi,he⟩:=qQ he;cases he;rw [vQJ] at hi;obtain ⟨i0,i1⟩:=qJL hi.1;have hsz:=vQU hi.2;obtain ⟨ad,c,k',sz',hρ,rfl⟩:=x2;obtain ⟨ad2,c2,vr,hρ2,h0,hal,hrl,hone,hown⟩:=h.mem.ent id _ x3;rw [hρ] at hρ2;simp only [vQZ,Loc.reg.injEq] at hρ2;obtain ⟨rfl,rfl,rfl,rfl⟩:=hρ2;rcases hown.2 with ⟨hnil,h00⟩ | ⟨gg,cap,cur,hsl,_⟩
    ·omega
    ·simp only [Value.slice.injEq] at hsl;obtain ⟨rfl,_,rfl⟩:=hsl;refine zG h (qJJ (hT.sl t kk.1 kk.2 hk).1 x1 y1 i0 i1) ⟨gg,c,rows.len,sz',hρ,by omega,by rw [Nat.zero_add,Nat.add_zero,hsz]⟩ hd
   | w xx =>
    cases xx with
    | p id off =>
     simp only [qU,vQQ] at he;obtain ⟨kk,hk,he⟩:=he;obtain ⟨hi,he⟩:=qQ he;cases he;obtain ⟨b,q,hv⟩:=x2;exact arr hv (hT.ar t kk.1 kk.2.1 kk.2.2 hk).1 hi rfl ⟨b,q,rfl⟩
    | q id j off =>
     simp only [qU,vQQ] at he;obtain ⟨kk,hk,he⟩:=he;obtain ⟨hi,he⟩:=qQ he;cases he;obtain ⟨b,c,k',sz,q,hj,hv⟩:=x2;exact arr hv (hT.ar t kk.1 kk.2.1 kk.2.2 hk).1 hi rfl ⟨b,c,k',sz,q,hj,by rw [Nat.add_assoc]⟩
    | _=>simp only [qU] at he; cases he
   | _=>simp only [qU] at he; cases he
  | _=>cases rx <;> (simp only [qU] at he; cases he)
 | _=>cases rx <;> (simp only [qU] at he; cases he)
theorem ok_extract {x:Operand} {i:Nat} (h:Rel' E C.n ρ F σ a w) (hd:dstB C.n d=true) (hvs:mapO (opv 0 σ) [x]=some vs) (he:qU C.T C.cA C.cB C.me (d.getD 0) (.extract x i) vs=some e):OK P E C σ a w e ⟨d,.extract x i,ty,pos,af,g⟩:=by
 obtain ⟨r,hr,rfl⟩:=qWI hvs;obtain ⟨v,h1,h2,h3⟩:=yU h hr;cases r with
 | v p =>
  cases p with
  | t cs =>
   simp only [qU,vQQ] at he;obtain ⟨c,hc,he⟩:=he;cases he;obtain ⟨us,rfl,hu⟩:=rp_tup h2;obtain ⟨u,hu1,hu2⟩:=hu.get hc;exact zG h (opV_extract h1 (by simpa using hu1)) (zZW hu2) hd
  | _=>simp only [qU] at he; cases he
 | _=>simp only [qU] at he; cases he
end
end Go.Rx

/- Part 2 of the texts behind the last one: rules and contracts. No condition. -/
import Derived.Test.YtgmbkkkbfbocnaaGreatKL1
open Option.some renaming injEq → vQZ
open Bool renaming and_eq_true → vQJ
open List renaming getElem?_eq_getElem → vQK, mem_of_getElem? → vQG, mem_cons_of_mem → vQH, mem_cons_self → vZQ, getElem?_take → vZV
open Nat renaming eq_of_beq_eq_true → vQX, le_of_ble_eq_true → vZX
open Array renaming getElem?_eq_getElem → vZU, all_eq_true_iff_forall_mem → vYY
namespace Go.Sx
open Go.RowKit
def Rets (v:Value) (w:World) (e:Ending) (w':World):Prop:=e=.returned v∧Grow w w'
def RetsT (T:Value→World→Prop) (w:World) (e:Ending) (w':World):Prop:=∃ v,e=.returned v∧Grow w w'∧T v w'
def kU (P:Program) (f:FuncId):Prop:=∀ args w,(callFunc f args).run P w=.ok (.enter f args) w
theorem qU {P:Program} {f:FuncId} {fn:Func} (hf:P.funcs[f]? = some fn) (h1:(fn.name == "runtime.NumGoroutine")=false) (h2:fn.body.isNone=false):kU P f:=by
 intro args w;have h1':¬ fn.name = "runtime.NumGoroutine" := by simpa using h1
 have h2':¬ fn.body=none:=fun e=>by simp [e] at h2
 simp only [callFunc,program,Sem.run_bind];simp [Sem.run,hf,h1',h2']
section
variable {P:Program} {n:Nat} {w0:Base} {ops:Array Oper} {Q:Exit→Act→World→Prop} {S:yZ} {H:Heap}
variable {d:Option Tmp} {ty:TypeId} {pos:String} {af:Array Edge} {g:Option (Nat × Bool)}
theorem zJQ {xs:List Operand} {vs:List Value} (h:evs S xs=some vs):xs.map (evD S)=vs∧∀ x ∈ xs,(ev S x).isSome=true:=by
 induction xs generalizing vs with
 | nil=>simp [evs] at h; simp [h]
 | cons x xs ih =>
  simp only [evs] at h;cases hx:ev S x with
  | none=>simp [hx] at h
  | some v =>
   simp only [hx] at h;obtain ⟨ws,hw,rfl⟩:=uK h;obtain ⟨e,ha⟩:=ih hw;refine ⟨by simp [zG hx,e],fun y hy => ?_⟩;rcases List.mem_cons.1 hy with rfl | hy
   ·simp [hx]
   ·exact ha y hy
theorem opT_call {f:FuncId} {xs:List Operand} {ats:Array TypeId} {vs:List Value} {T:Value→World→Prop} (he:kU P f) (ha:evs S xs=some vs)
  (hc:∀ w,Knows w0 H w→Calls P f vs.toArray w (RetsT T w)):OpT P w0 S H ⟨d,.call ⟨.value (.func f),xs.toArray,ats⟩,ty,pos,af,g⟩ T:=by
 obtain ⟨e,hk⟩:=zJQ ha;refine ⟨?_,rfl,fun w k => ?_⟩
 ·simp only [yK,Op.operands,Call.operands];rw [vYY];intro x hx;simp at hx;rcases hx with rfl | hx
  ·rfl
  ·exact hk x hx
 ·have hrun:(execOp (evD S) ⟨d,.call ⟨.value (.func f),xs.toArray,ats⟩,ty,pos,af,g⟩).run P w=.ok (.enter f vs.toArray) w:=by
   have h2:evD S (.func f)=.func (.func f) #[] #[]:=rfl;have h3:=he vs.toArray w;simp [execOp,resolve,h2,Deferred.ofValue,invoke,e,h3]
  rw [hrun];exact ⟨Grow.refl _,(hc w k).mono fun _ _ h=>h⟩
theorem jX {f:FuncId} {xs:List Operand} {ats:Array TypeId} {vs:List Value} {v:Value} (he:kU P f) (ha:evs S xs=some vs)
  (hc:∀ w,Knows w0 H w→Calls P f vs.toArray w (Rets v w)):OpV P w0 S H ⟨d,.call ⟨.value (.func f),xs.toArray,ats⟩,ty,pos,af,g⟩ v :=
 opT_call he ha fun w k=>(hc w k).mono fun _ _ h=>⟨v,h.1,h.2,rfl⟩
theorem doL_t {o:Oper} {rest:List Oper} {T:Value→World→Prop} {dd:Nat} (ho:OpT P w0 S H o T) (hw:uU ops S o=some true) (hd:o.dst=some dd) (hn:Nat.blt dd n=true)
  (next:∀ v a w,Fits n ((dd,v) :: S) a→Knows w0 H w→T v w→wpList P ops Q rest a w):DoL P n w0 ops Q (o :: rest) S H :=
 doL_op hw ho fun a w w' v f k gr ht=>by
  rw [hd];exact next v _ _ (f.put hn _) (k.next gr) ht
def initS:Nat→List Value→yZ
 | _,[]=>[]
 | k,v :: vs=>(k,v) :: initS (k + 1) vs
theorem look_initS {vs:List Value} {k t:Nat} {v:Value} (h:look (initS k vs) t=some v):k≤t∧vs[t - k]? = some v:=by
 induction vs generalizing k with
 | nil=>cases h
 | cons u vs ih =>
  simp only [initS] at h;by_cases e:k=t
  ·subst e; rw [uJ] at h; simpa using h
  ·rw [qQZ _ _ e] at h;obtain ⟨h1,h2⟩:=ih h;refine ⟨by omega,?_⟩;rw [show t - k=(t - (k + 1)) + 1 by omega]
   simpa using h2
theorem yG {f:FuncId} {fn:Func} {c:Code} {args:List Value} {w:World} {R:Ending→World→Prop} (hf:P.funcs[f]? = some fn) (hb:fn.body=some c) (hn:fn.ntmps=n)
  (hle:Nat.ble args.length n=true) (h:DoC P n ⟨w,[]⟩ (bodyPost P fn R) c (initS 0 args) []):Calls P f args.toArray w R:=by
 have hle':args.length≤n:=vZX hle;refine calls_of_wp hf hb (h _ _ ⟨by simp [hn]; omega,rfl,fun t v ht => ?_⟩ (Knows.nil (Grow.refl _)));obtain ⟨_,h2⟩:=look_initS ht;have hlt:=(List.getElem?_eq_some_iff.1 h2).1;simp at hlt;simp only [Nat.sub_zero] at h2;simp [Array.getElem?_append,hlt];rw [vQK hlt] at h2
 simpa using h2
def jHU (P:Program) (S:yZ) (H:Heap):ResultVar→Value→Prop
 | .tmp t,v=>look S t=some v
 | .cell a t,v=>∃ b cs ty id,look S a=some (.pointer (some ⟨b,0,none⟩))∧zZQ H id=some (b,cs,ty)∧tyB P t true cs.length=true∧v=.agg cs.toArray
def yJZ (P:Program) (S:yZ) (H:Heap):List ResultVar→List Value→Prop
 | [],[]=>True
 | r :: rs,v :: vs=>jHU P S H r v∧yJZ P S H rs vs
 | _,_=>False
theorem kG {t:Nat} {v:Value} (h:look S t=some v):jHU P S H (.tmp t) v:=h
theorem qUZ {a t b sz:Nat} {cs:List Value} {ty:TypeId} (id:Nat) (h:look S a=some (.pointer (some ⟨b,0,none⟩))) (hH:zZQ H id=some (b,cs,ty)) (hT:tyB P t true sz=true) (hl:Nat.beq cs.length sz=true) :
  jHU P S H (.cell a t) (.agg cs.toArray):=⟨b,cs,ty,id,h,hH,by rw [vQX hl]; exact hT,rfl⟩
theorem resN:yJZ P S H [] []:=trivial
theorem resC {r:ResultVar} {rs:List ResultVar} {v:Value} {vs:List Value} (h:jHU P S H r v) (hs:yJZ P S H rs vs):yJZ P S H (r :: rs) (v :: vs):=⟨h,hs⟩
def resF (tmps:Array Value):ResultVar→Sem Value
 | .tmp t=>pure (tmps.getD t undef)
 | .cell x t=>do loadVar t (← asAddr (tmps.getD x undef))
theorem run_res {a:Act} {w:World} (f:Fits n S a) (k:Knows w0 H w) {r:ResultVar} {v:Value} (h:jHU P S H r v):(resF a.tmps r).run P w=.ok v w:=by
 cases r with
 | tmp t =>
  have:=f.has t v h
  simp [resF,Array.getD_eq_getD_getElem?,this]
 | cell x t =>
  obtain ⟨b,cs,ty,id,h1,h2,h3,rfl⟩:=h
  have:=f.has _ _ h1
  have hr:=qXH (P:=P) (w:=w) (b:=b) (off:=0) (k:=cs.length) (vs:=cs) (fun i _=>by rw [zYK (k.at h2).2]; simp) rfl;simp [resF,Array.getD_eq_getD_getElem?,this,asAddr,loadVar,qVY h3,qUJ h3,hr]
theorem run_results {a:Act} {w:World} (f:Fits n S a) (k:Knows w0 H w):∀ {rs:List ResultVar} {vs:List Value},yJZ P S H rs vs →
  (rs.mapM (resF a.tmps)).run P w=.ok vs w
 | [],[],_=>by simp
 | r :: rs,v :: vs,h=>by
  have h1:=run_res f k h.1;have h2:=run_results f k h.2;simp [List.mapM_cons,Sem.run_bind,h1,h2]
 | [],_ :: _,h=>h.elim
 | _ :: _,[],h=>h.elim
def valOf:List Value→Value
 | [v]=>v
 | vs=>.tuple vs.toArray
theorem yUJ {fn:Func} {R:Ending→World→Prop} {rs:List ResultVar} {vs:List Value} {v:Value} (hr:fn.results=rs.toArray) (hv:yJZ P S H rs vs) (hval:valOf vs=v)
  (hR:∀ w,Knows w0 H w→R (.returned v) w):qWY n w0 (bodyPost P fn R) .ret S H:=by
 intro a w f k;refine ⟨f.defers,v,?_,hR w k⟩;have h:=run_results f k hv;unfold results;rw [hr];change Sem.run P (do let us ← rs.toArray.mapM (resF a.tmps); pure (if h:us.size=1 then us[0] else .tuple us)) w=_;simp only [Sem.run_bind,List.mapM_toArray,Sem.run_map,h,Result.andThen_ok];subst hval
 match vs with
 | []=>rfl
 | [v]=>rfl
 | v :: u :: vs=>simp [valOf]
theorem jW {fn:Func} {rs:List ResultVar} {vs:List Value} {v:Value} (hr:fn.results=rs.toArray) (hv:yJZ P S H rs vs) (hval:valOf vs=v) :
  qWY n w0 (bodyPost P fn (Rets v w0.w)) .ret S H:=yUJ hr hv hval fun _ k=>⟨rfl,k.grow⟩
def yYK (ks:List Nat):yZ→Option yZ
 | []=>some []
 | (k,v) :: S=>bif ks.any (Nat.beq k) then zZZ (k,v) (yYK (ks.filter fun x => !Nat.beq k x) S) else yYK ks S
theorem zVX {ks:List Nat} {S S':yZ} (h:yYK ks S=some S'):∀ t v,look S' t=some v→look S t=some v∧t ∈ ks:=by
 induction S generalizing ks S' with
 | nil=>simp [yYK] at h; subst h; intro t v ht; cases ht
 | cons x S ih =>
  obtain ⟨k,u⟩:=x;intro t v ht;simp only [yYK] at h;cases hb:ks.any (Nat.beq k) with
  | true =>
   rw [hb] at h;obtain ⟨S2,h2,rfl⟩:=uK h;by_cases e:k=t
   ·subst e;rw [uJ] at ht ⊢;obtain ⟨y,hy,he⟩:=List.any_eq_true.1 hb;rw [vQX he];exact ⟨ht,hy⟩
   ·rw [qQZ _ _ e] at ht ⊢;obtain ⟨h3,h4⟩:=ih h2 t v ht;exact ⟨h3,(List.mem_filter.1 h4).1⟩
  | false =>
   rw [hb] at h; simp at h;obtain ⟨h3,h4⟩:=ih h t v ht;have e:k ≠ t:=fun e=>by
    subst e
    have:=List.any_eq_false.1 hb k h4
    simp at this
   exact ⟨by rw [qQZ _ _ e]; exact h3,h4⟩
theorem Fits.keep {ks:List Nat} {S':yZ} {a:Act} (f:Fits n S a) (h:yYK ks S=some S'):Fits n S' a :=
 ⟨f.size,f.defers,fun t v ht=>f.has t v (zVX h t v ht).1⟩
def jYH (ks:List Nat):Heap→Option Heap
 | []=>some []
 | (k,x) :: H=>bif ks.any (Nat.beq k) then zZZ (k,x) (jYH ks H) else jYH ks H
theorem yYU {ks:List Nat} {H H':Heap} (h:jYH ks H=some H'):H'.Sublist H:=by
 induction H generalizing H' with
 | nil=>simp [jYH] at h; subst h; exact List.nil_sublist _
 | cons x H ih =>
  obtain ⟨k,x⟩:=x;simp only [jYH] at h;cases hb:ks.any (Nat.beq k) with
  | true =>
   rw [hb] at h;obtain ⟨H2,h2,rfl⟩:=uK h;exact (ih h2).cons_cons _
  | false=>rw [hb] at h; simp at h; exact (ih h).cons _
theorem Knows.keep {ks:List Nat} {H':Heap} {w:World} (k:Knows w0 H w) (h:jYH ks H=some H'):Knows w0 H' w :=
 ⟨k.grow,fun x hx=>k.has x ((yYU h).mem hx),((yYU h).map _).nodup k.nodup,fun F hF=>(k.facts F hF).heap fun x hx=>.inl ⟨x,(yYU h).mem hx,rfl⟩,k.apart⟩
end
end Go.Sx
namespace Go.Sx
open Go.RowKit
abbrev Pred:=Value→World→Prop
def jUV (T:Pred):Prop:=∀ v w w',T v w→Grow w w'→T v w'
def isV (v:Value):Pred:=fun u _=>u=v
theorem stable_isV (v:Value):jUV (isV v):=fun _ _ _ h _=>h
abbrev qQK:=List (Nat × Bool × Pred)
def yHZ:qQK→Nat→Option Pred
 | [],_=>none
 | (k,_,T) :: G,t=>bif Nat.beq k t then some T else yHZ G t
theorem lookG_cons_ne {k t:Nat} (m:Bool) (T:Pred) (G:qQK) (h:k ≠ t):yHZ ((k,m,T) :: G) t=yHZ G t:=by
 have:Nat.beq k t=false:=by
  cases hb:Nat.beq k t with
  | false=>rfl
  | true=>exact absurd (vQX hb) h
 simp [yHZ,this]
theorem lookG_cons_same (k:Nat) (m:Bool) (T:Pred) (G:qQK):yHZ ((k,m,T) :: G) k=some T:=by simp [yHZ]
section
variable {P:Program} {n:Nat} {w0:Base} {ops:Array Oper} {Q:Exit→Act→World→Prop} {H:Heap}
def yHH (S:yZ) (G:qQK) (a:Act) (w:World) (t:Nat):Prop :=
 (∀ v,look S t=some v→a.tmps[t]? = some v)∧(∀ T,yHZ G t=some T→∃ u,a.tmps[t]? = some u∧T u w)
def OpA (P:Program) (n:Nat) (w0:Base) (ops:Array Oper) (H:Heap) (S:yZ) (G:qQK) (o:Oper) (T:Pred):Prop :=
 ∀ a w,a.tmps.size=n→(∀ t ∈ o.looksAt ops,yHH S G a w t)→Knows w0 H w →
  (if Region.wanted o (yielded ops a.tmps) then Yields P w T ((execOp a.eval o).run P w) else T undef w)
def kQZ (P:Program) (n:Nat) (w0:Base) (ops:Array Oper) (H:Heap) (S:yZ) (G:qQK) (o:Oper):Prop :=
 ∀ a w,a.tmps.size=n→(∀ t ∈ o.looksAt ops,yHH S G a w t)→Knows w0 H w →
  Region.wanted o (yielded ops a.tmps)=true∧∃ ob,(execOp a.eval o).run P w=.ok (.value (.pointer (some ⟨w.heap.size,0,none⟩))) (w.alloc ob)
def kKJ (H:Heap) (T:Pred):Prop:=∀ u w,T u w→∃ b,u=.pointer (some ⟨b,0,none⟩)∧b < w.heap.size∧∀ x ∈ H,x.2.1 ≠ b
def DoG (P:Program) (n:Nat) (w0:Base) (ops:Array Oper) (H:Heap) (K:yZ→qQK→Prop):List Oper→yZ→qQK→Prop
 | [],S,G=>K S G
 | o :: l,S,G=>∃ d T,o.dst=some d∧d < n∧yZG o=true∧jUV T∧OpA P n w0 ops H S G o T ∧
   ((∃ v,T=isV v∧DoG P n w0 ops H K l ((d,v) :: S) G) ∨ (look S d=none∧DoG P n w0 ops H K l S ((d,false,T) :: G)) ∨
     (look S d=none∧kQZ P n w0 ops H S G o∧kKJ H T∧DoG P n w0 ops H K l S ((d,true,T) :: G)))
structure Cert where
 d:Nat
 T:Pred
 al:Bool
 S:yZ
 G:qQK
structure CertOk (P:Program) (n:Nat) (w0:Base) (ops:Array Oper) (H:Heap) (o:Oper) (c:Cert):Prop where
 dst:o.dst=some c.d
 lt:c.d < n
 nosel:yZG o=true
 stable:jUV c.T
 op:OpA P n w0 ops H c.S c.G o c.T
 al:c.al=true→kQZ P n w0 ops H c.S c.G o∧kKJ H c.T
structure Stems (S0:yZ) (cs:List Cert) (S:yZ) (G:qQK):Prop where
 slots:∀ t v,look S t=some v→(∃ c ∈ cs,c.d=t∧c.T=isV v) ∨ (look S0 t=some v∧∀ c ∈ cs,c.d ≠ t)
 ghosts:∀ t T,yHZ G t=some T→∃ c ∈ cs,c.d=t∧c.T=T
theorem doG_certs {K:yZ→qQK→Prop} {S0:yZ}:∀ (l:List Oper) (S:yZ) (G:qQK) (pre:List Cert),Stems S0 pre S G→DoG P n w0 ops H K l S G →
  ∃ cs:List Cert,cs.length=l.length∧(∀ i o c,l[i]? = some o→cs[i]? = some c→CertOk P n w0 ops H o c∧Stems S0 (pre ++ cs.take i) c.S c.G) ∧
   ∃ S' G',Stems S0 (pre ++ cs) S' G'∧K S' G'∧(∀ x ∈ G',x ∈ G ∨ ∃ c ∈ cs,x=(c.d,c.al,c.T))
 | [],S,G,pre,hs,h=>⟨[],rfl,fun i o c hi=>by simp at hi,S,G,by simpa using hs,h,fun x hx=>.inl hx⟩
 | o :: l,S,G,pre,hs,h=>by
  obtain ⟨d,T,hd,hn,hsel,hst,hop,hk⟩:=h;have main:∀ (c:Cert) (S1:yZ) (G1:qQK),c.S=S→c.G=G→CertOk P n w0 ops H o c→Stems S0 (pre ++ [c]) S1 G1→(∀ x ∈ G1,x ∈ G ∨ x=(c.d,c.al,c.T))→DoG P n w0 ops H K l S1 G1 →
    ∃ cs:List Cert,cs.length=(o :: l).length∧(∀ i o' c,(o :: l)[i]? = some o'→cs[i]? = some c→CertOk P n w0 ops H o' c∧Stems S0 (pre ++ cs.take i) c.S c.G) ∧
     ∃ S' G',Stems S0 (pre ++ cs) S' G'∧K S' G'∧(∀ x ∈ G',x ∈ G ∨ ∃ c ∈ cs,x=(c.d,c.al,c.T)):=by
   intro c S1 G1 e1 e2 hc hst1 hG1 hrest;obtain ⟨cs,hl,hall,S',G',h1,h2,h3⟩:=doG_certs l S1 G1 (pre ++ [c]) hst1 hrest;refine ⟨c :: cs,by simp [hl],fun i o' c' hi hc' => ?_,S',G',by simpa using h1,h2,fun x hx => ?_⟩
   ·cases i with
    | zero =>
     simp at hi hc';subst hi; subst hc';exact ⟨hc,by simpa [e1,e2] using hs⟩
    | succ i =>
     simp at hi hc';obtain ⟨q1,q2⟩:=hall i o' c' hi hc';exact ⟨q1,by simpa using q2⟩
   ·rcases h3 x hx with h | ⟨c',hc',he⟩
    ·rcases hG1 x h with h | h
     ·exact .inl h
     ·exact .inr ⟨c,by simp,h⟩
    ·exact .inr ⟨c',by simp [hc'],he⟩
  have gh:∀ (al:Bool),look S d=none→Stems S0 (pre ++ [⟨d,T,al,S,G⟩]) S ((d,al,T) :: G):=fun al hno=>⟨fun t u ht=>by
    have hdt:d ≠ t:=fun e=>by subst e; rw [hno] at ht; cases ht
    rcases hs.slots t u ht with ⟨c,hc,h⟩ | ⟨h,h'⟩
    ·exact .inl ⟨c,by simp [hc],h⟩
    ·refine .inr ⟨h,fun c hc => ?_⟩;rcases List.mem_append.1 hc with hc | hc
     ·exact h' c hc
     ·simp at hc; subst hc; exact hdt,fun t U ht=>by
    by_cases e:d=t
    ·subst e;rw [lookG_cons_same] at ht;cases ht;exact ⟨⟨d,T,al,S,G⟩,by simp,rfl,rfl⟩
    ·rw [lookG_cons_ne _ _ _ e] at ht;obtain ⟨c,hc,h⟩:=hs.ghosts t U ht;exact ⟨c,by simp [hc],h⟩⟩
  have gm:∀ (al:Bool),∀ x ∈ ((d,al,T) :: G:qQK),x ∈ G ∨ x=(d,al,T):=fun al x hx=>by
   rcases List.mem_cons.1 hx with h | h
   ·exact .inr h
   ·exact .inl h
  rcases hk with ⟨v,rfl,hrest⟩ | ⟨hno,hrest⟩ | ⟨hno,hal,hp,hrest⟩
  ·refine main ⟨d,isV v,false,S,G⟩ ((d,v) :: S) G rfl rfl ⟨hd,hn,hsel,hst,hop,fun h=>by cases h⟩ ⟨fun t u ht => ?_,fun t T ht => ?_⟩ (fun x hx=>.inl hx) hrest
   ·by_cases e:d=t
    ·subst e;rw [uJ] at ht;cases ht;exact .inl ⟨⟨d,isV v,false,S,G⟩,by simp,rfl,rfl⟩
    ·rw [qQZ _ _ e] at ht;rcases hs.slots t u ht with ⟨c,hc,h⟩ | ⟨h,h'⟩
     ·exact .inl ⟨c,by simp [hc],h⟩
     ·refine .inr ⟨h,fun c hc => ?_⟩;rcases List.mem_append.1 hc with hc | hc
      ·exact h' c hc
      ·simp at hc; subst hc; exact e
   ·obtain ⟨c,hc,h⟩:=hs.ghosts t T ht;exact ⟨c,by simp [hc],h⟩
  ·exact main ⟨d,T,false,S,G⟩ S ((d,false,T) :: G) rfl rfl ⟨hd,hn,hsel,hst,hop,fun h=>by cases h⟩ (gh false hno) (gm false) hrest
  ·exact main ⟨d,T,true,S,G⟩ S ((d,true,T) :: G) rfl rfl ⟨hd,hn,hsel,hst,hop,fun _=>⟨hal,hp⟩⟩ (gh true hno) (gm true) hrest
def qUY (listed:Array Bool):Nat→Nat
 | 0=>0
 | k + 1=>qUY listed k + (if listed.getD k true then 0 else 1)
theorem undone_set_ge {listed:Array Bool} {i:Nat}:∀ {N:Nat},N≤i→qUY (listed.setIfInBounds i true) N=qUY listed N
 | 0,_=>rfl
 | k + 1,h=>by
  simp only [qUY];rw [undone_set_ge (by omega),getD_set_ne true (by omega)]
theorem zXV {listed:Array Bool} {i:Nat} (hi:listed.getD i true=false):∀ {N:Nat},i < N→qUY listed N=qUY (listed.setIfInBounds i true) N + 1
 | 0,h=>by omega
 | k + 1,h=>by
  have hlt:i < listed.size:=by
   rcases Nat.lt_or_ge i listed.size with h' | h'
   ·exact h'
   ·simp [Array.getElem?_eq_none h'] at hi
  simp only [qUY];by_cases e:i=k
  ·subst e;rw [undone_set_ge (Nat.le_refl _),hi];simp [hlt]
  ·rw [zXV hi (show i < k by omega),getD_set_ne true e];omega
theorem qHZ {listed:Array Bool}:∀ {N:Nat},qUY listed N=0→∀ i,i < N→listed.getD i true=true
 | 0,_,i,hi=>by omega
 | k + 1,h,i,hi=>by
  simp only [qUY] at h;by_cases e:i=k
  ·subst e;cases hb:listed.getD i true with
   | true=>rfl
   | false=>rw [hb] at h; simp at h
  ·exact qHZ (N:=k) (by omega) i (by omega)
theorem zZU {listed:Array Bool}:∀ {N:Nat},qUY listed N ≠ 0→∃ i,i < N∧listed.getD i true=false∧∀ j,j < i→listed.getD j true=true
 | 0,h=>absurd rfl h
 | k + 1,h=>by
  by_cases hk:qUY listed k=0
  ·refine ⟨k,by omega,?_,fun j hj=>qHZ hk j hj⟩;simp only [qUY,hk] at h;cases hb:listed.getD k true with
   | false=>rfl
   | true=>rw [hb] at h; simp at h
  ·obtain ⟨i,hi,h1,h2⟩:=zZU hk;exact ⟨i,by omega,h1,h2⟩
def backB (ops:Array Oper):Bool:=(List.range ops.size).all fun i=>match ops[i]? with
 | some o=>o.after.all fun e => !Region.binds .any e || decide (e.on < i)
 | none=>true
def depB (ops:Array Oper) (N:Nat):Bool:=(List.range N).all fun i=>(List.range N).all fun j=>i == j ||
 match ops[i]?,ops[j]? with
 | some oi,some oj=>oi.dst != oj.dst && (match oi.dst with
   | some d => !(oj.looksAt ops).contains d || (decide (i < j) && Region.waitsFor .any ops j i)
   | none=>false)
 | _,_=>false
def kJK (ops:Array Oper) (N:Nat):Bool:=(List.range N).all fun i=>match ops[i]? with
 | some o=>(match o.dst with | some d => !(o.looksAt ops).contains d | none=>false)
 | none=>false
structure Inv (S0:yZ) (w0:Base) (n:Nat) (H:Heap) (cs:List Cert) (listed:Array Bool) (a:Act) (w:World):Prop where
 size:a.tmps.size=n
 defers:a.defers=[]
 old:∀ t v,look S0 t=some v→(∀ i c,cs[i]? = some c→c.d=t→listed.getD i false=false)→a.tmps[t]? = some v
 done:∀ i c,cs[i]? = some c→listed.getD i false=true→∃ u,a.tmps[c.d]? = some u∧c.T u w
 apart:∀ i j c c',cs[i]? = some c→cs[j]? = some c'→i ≠ j→c.al=true→c'.al=true→listed.getD i false=true→listed.getD j false=true→a.tmps[c.d]? ≠ a.tmps[c'.d]?
 knows:Knows w0 H w
theorem depB_spec {N:Nat} (h:depB ops N=true) {i j:Nat} (hi:i < N) (hj:j < N) (hne:i ≠ j) {oi oj:Oper} (ho:ops[i]? = some oi) (ho':ops[j]? = some oj) :
  oi.dst ≠ oj.dst∧∀ d,oi.dst=some d→d ∈ oj.looksAt ops→i < j∧Region.waitsFor .any ops j i=true:=by
 have h1:=List.all_eq_true.1 (List.all_eq_true.1 h i (List.mem_range.2 hi)) j (List.mem_range.2 hj);simp only [Bool.or_eq_true,beq_iff_eq,hne,false_or,ho,ho',vQJ,bne_iff_ne] at h1;refine ⟨h1.1,fun d hd hm => ?_⟩;have h2:=h1.2;rw [hd] at h2;simp only [Bool.or_eq_true,Bool.not_eq_true',vQJ,decide_eq_true_eq] at h2;rcases h2 with h2 | h2
 ·have hm':(oj.looksAt ops).contains d=true:=by simpa using hm
  rw [h2] at hm';cases hm'
 ·exact h2
theorem selfB_spec {N:Nat} (h:kJK ops N=true) {i:Nat} (hi:i < N) {o:Oper} (ho:ops[i]? = some o) {d:Nat} (hd:o.dst=some d):d ∉ o.looksAt ops:=by
 have h1:=List.all_eq_true.1 h i (List.mem_range.2 hi);simp only [ho,hd] at h1
 simpa using h1
variable {S0:yZ}
theorem step_inv {N:Nat} {cs:List Cert} {listed:Array Bool} {a:Act} {w:World} (hlen:cs.length=N) (hdep:depB ops N=true) (hself:kJK ops N=true)
  (hcs:∀ i o c,ops[i]? = some o→cs[i]? = some c→CertOk P n w0 ops H o c∧Stems S0 (cs.take i) c.S c.G)
  (inv:Inv S0 w0 n H cs listed a w) {i:Nat} (hi:i ∈ Region.ready .any ops listed) (hin:i < N) (hsz:listed.size=ops.size) (hops:N≤ops.size) :
  wpOp P ops Q i (fun a' w'=>Inv S0 w0 n H cs (listed.setIfInBounds i true) a' w') a w:=by
 obtain ⟨hun,o,ho,hall⟩:=mem_ready.1 hi;have hil:i < cs.length:=by omega
 obtain ⟨c,hc⟩:∃ c,cs[i]? = some c:=⟨cs[i],vQK hil⟩
 obtain ⟨ok,st⟩:=hcs i o c ho hc;have ops_at:∀ j c',cs[j]? = some c'→j < N∧∃ oj,ops[j]? = some oj∧oj.dst=some c'.d:=fun j c' hj=>by
  have hjl:=(List.getElem?_eq_some_iff.1 hj).1;have hjo:j < ops.size:=by omega
  exact ⟨by omega,ops[j],vZU hjo,(hcs j ops[j] c' (vZU hjo) hj).1.dst⟩
 have waits:∀ j c',cs[j]? = some c'→j ≠ i→c'.d ∈ o.looksAt ops→j < i∧listed.getD j false=true:=fun j c' hj hne hm=>by
  obtain ⟨hjN,oj,hoj,hdj⟩:=ops_at j c' hj;obtain ⟨h1,h2⟩:=(depB_spec hdep hjN hin hne hoj ho).2 c'.d hdj hm;refine ⟨h1,?_⟩;obtain ⟨o',ho',e,he,hb,hon⟩:=Region.waitsFor_spec h2;rw [ho] at ho';cases ho'
  have:=hall e he hb
  rwa [hon] at this
 have know:∀ t ∈ o.looksAt ops,yHH c.S c.G a w t:=fun t ht=>by
  have hself':c.d ≠ t:=fun e=>selfB_spec hself hin ho ok.dst (e ▸ ht)
  refine ⟨fun v hv => ?_,fun T hT => ?_⟩
  ·rcases st.slots t v hv with ⟨c',hm,hd,hTc⟩ | ⟨h0,hno⟩
   ·obtain ⟨j,hj⟩:=List.mem_iff_getElem?.1 hm;rw [vZV] at hj;split at hj
    ·rename_i hji;obtain ⟨_,hdone⟩:=waits j c' hj (by omega) (hd ▸ ht);obtain ⟨u,hu,hTu⟩:=inv.done j c' hj hdone;rw [hTc] at hTu;rw [← hd,hu];exact congrArg some hTu
    ·cases hj
   ·refine inv.old t v h0 fun j c' hj hd => ?_
    by_cases e:j=i
    ·subst e;rw [hc] at hj;cases hj;exact absurd hd hself'
    ·obtain ⟨hlt,_⟩:=waits j c' hj e (hd ▸ ht);exact absurd hd (hno c' (vQG (by rw [vZV,if_pos hlt]; exact hj)))
  ·obtain ⟨c',hm,hd,hTc⟩:=st.ghosts t T hT;obtain ⟨j,hj⟩:=List.mem_iff_getElem?.1 hm;rw [vZV] at hj;split at hj
   ·rename_i hji;obtain ⟨_,hdone⟩:=waits j c' hj (by omega) (hd ▸ ht);obtain ⟨u,hu,hTu⟩:=inv.done j c' hj hdone;exact ⟨u,by rw [← hd]; exact hu,hTc ▸ hTu⟩
   ·cases hj
 have hlt:i < listed.size:=by omega
 have put_ne:∀ (u:Value) (t:Nat),c.d ≠ t→(a.put (some c.d) u).tmps[t]? = a.tmps[t]?:=fun u t hne=>by simp [Act.put,Array.getElem?_setIfInBounds_ne hne]
 have put_eq:∀ (u:Value),(a.put (some c.d) u).tmps[c.d]? = some u:=fun u=>by
  have:=ok.lt
  have hs:=inv.size;simp [Act.put,hs,this]
 have done_iff:∀ j,j ≠ i→(listed.setIfInBounds i true).getD j false=listed.getD j false:=fun j hj=>getD_set_ne false (Ne.symm hj)
 have dne:∀ j c',cs[j]? = some c'→j ≠ i→c'.d ≠ c.d:=fun j c' hj hne e=>by
  obtain ⟨hjN,oj,hoj,hdj⟩:=ops_at j c' hj;exact (depB_spec hdep hjN hin hne hoj ho).1 (by rw [hdj,ok.dst,e])
 have next:∀ (u:Value) (w':World),Grow w w'→c.T u w'→(c.al=true→u=.pointer (some ⟨w.heap.size,0,none⟩)) →
   Inv S0 w0 n H cs (listed.setIfInBounds i true) (a.put o.dst u) w':=fun u w' gr hT hal=>by
  rw [ok.dst];refine ⟨by simp [Act.put,inv.size],inv.defers,fun t v hv hno => ?_,fun j c' hj hd => ?_,fun j k c' c'' hj hk hne h1 h2 hd1 hd2 => ?_,inv.knows.next gr⟩
  ·have hne:c.d ≠ t:=fun e=>by
    have:=hno i c hc e
    simp [hlt] at this
   rw [put_ne u t hne];refine inv.old t v hv fun j c' hj hd => ?_
   by_cases e:j=i
   ·subst e; rw [hc] at hj; cases hj; exact absurd hd hne
   ·rw [← done_iff j e]; exact hno j c' hj hd
  ·by_cases e:j=i
   ·subst e; rw [hc] at hj; cases hj;exact ⟨u,put_eq u,hT⟩
   ·rw [done_iff j e] at hd;obtain ⟨u',hu,hTu⟩:=inv.done j c' hj hd;obtain ⟨_,oj,hoj,_⟩:=ops_at j c' hj;exact ⟨u',by rw [put_ne u _ (Ne.symm (dne j c' hj e))]; exact hu,(hcs j oj c' hoj hj).1.stable _ _ _ hTu gr⟩
  ·have fresh:∀ j c',cs[j]? = some c'→j ≠ i→c'.al=true→listed.getD j false=true→a.tmps[c'.d]? ≠ some (.pointer (some ⟨w.heap.size,0,none⟩)):=fun j c' hj e ha hd he=>by
    obtain ⟨u',hu,hTu⟩:=inv.done j c' hj hd;obtain ⟨_,oj,hoj,_⟩:=ops_at j c' hj;obtain ⟨b,hb,hbl,_⟩:=((hcs j oj c' hoj hj).1.al ha).2 _ _ hTu;rw [hu,hb] at he;simp only [vQZ,Value.pointer.injEq,Addr.mk.injEq,and_true] at he;omega
   by_cases e1:j=i
   ·subst e1; rw [hc] at hj; cases hj;have e2:k ≠ j:=Ne.symm hne;rw [put_eq,put_ne u _ (Ne.symm (dne k c'' hk e2)),hal h1];rw [done_iff k e2] at hd2;exact Ne.symm (fresh k c'' hk e2 h2 hd2)
   ·by_cases e2:k=i
    ·subst e2; rw [hc] at hk; cases hk;rw [put_eq,put_ne u _ (Ne.symm (dne j c' hj e1)),hal h2];rw [done_iff j e1] at hd1;exact fresh j c' hj e1 h1 hd1
    ·rw [put_ne u _ (Ne.symm (dne j c' hj e1)),put_ne u _ (Ne.symm (dne k c'' hk e2))];rw [done_iff j e1] at hd1;rw [done_iff k e2] at hd2;exact inv.apart j k c' c'' hj hk hne h1 h2 hd1 hd2
 have hrun:=ok.op a w inv.size know inv.knows;unfold wpOp;simp only [ho];split
 ·rename_i hw;rw [if_pos hw] at hrun;refine .inl ?_;unfold Oper.wp;by_cases hal:c.al=true
  ·obtain ⟨_,ob,hr⟩:=(ok.al hal).1 a w inv.size know inv.knows;rw [hr] at hrun ⊢;simp only [Yields] at hrun;simp only [Oper.upon];exact next _ _ hrun.1 hrun.2 fun _=>rfl
  ·have hnal:c.al=true→∀ u:Value,u=.pointer (some ⟨w.heap.size,0,none⟩):=fun h=>absurd h hal
   generalize (execOp a.eval o).run P w=r at *;cases r with
   | ok x w' =>
    cases x <;> simp only [Yields] at hrun <;> simp only [Oper.upon]
    case value v=>exact next _ _ hrun.1 hrun.2 fun h=>hnal h _
    case skip=>exact next _ _ hrun.1 hrun.2 fun h=>hnal h _
    case enter fn args =>
     refine hrun.2.mono fun e w'' ⟨v,he,hg,ht⟩ => ?_
     subst he;exact next _ _ (hrun.1.trans hg) ht fun h=>hnal h _
   | halt x w'=>simp only [Yields] at hrun
 ·rename_i hw;rw [if_neg hw] at hrun;refine next _ _ (Grow.refl _) hrun fun hal => ?_
  have:=((ok.al hal).1 a w inv.size know inv.knows).1
  exact absurd this hw
def Tail (P:Program) (n:Nat) (w0:Base) (ops:Array Oper) (Q:Exit→Act→World→Prop) (tl:List Oper) (F:World→Prop) (S:yZ) (H:Heap) (G:qQK):Prop :=
 ∀ a w,Fits n S a→Knows w0 H w→(∀ x ∈ G,∃ u,a.tmps[x.1]? = some u∧x.2.2 u w) →
  (∀ x ∈ G,∀ y ∈ G,x.1 ≠ y.1→x.2.1=true→y.2.1=true→a.tmps[x.1]? ≠ a.tmps[y.1]?) →
  (∀ x ∈ G,x.2.1=true→∀ y ∈ H,a.tmps[x.1]? ≠ some (.pointer (some ⟨y.2.1,0,none⟩)))→F w→wpList P ops Q tl a w
def kYW (ops:Array Oper) (N:Nat):Bool :=
 depB ops N && kJK ops N && backB ops && decide (N < ops.size) && Region.sinkB .any ops N && Region.chainB .any ops N &&
  Region.seqB .any ops (ops.size - N) N (Array.replicate N true ++ Array.replicate (ops.size - N) false)
theorem wpAny_main {N:Nat} {cs:List Cert} {l:List Oper} {S':yZ} {G':qQK} (hB:kYW l.toArray N=true) (hlen:cs.length=N)
  (hcs:∀ i o c,l.toArray[i]? = some o→cs[i]? = some c→CertOk P n w0 l.toArray H o c∧Stems S0 (cs.take i) c.S c.G)
  (hst:Stems S0 cs S' G') (hG:∀ x ∈ G',∃ c ∈ cs,x=(c.d,c.al,c.T)) (hK:Tail P n w0 l.toArray Q (l.drop N) (fun _=>True) S' H G') :
  ∀ (f:Nat) (listed:Array Bool) (a:Act) (w:World),HeadInv .any l.toArray N listed→qUY listed N=f→Inv S0 w0 n H cs listed a w →
   wpAny P .any l.toArray Q (f + (l.toArray.size - N)) listed a w:=by
 simp only [kYW,vQJ,decide_eq_true_eq] at hB;obtain ⟨⟨⟨⟨⟨⟨hdep,hself⟩,hback⟩,hN⟩,hsink⟩,hchain⟩,hseq⟩:=hB;intro f;induction f with
 | zero =>
  intro listed a w hh hu inv;rw [Nat.zero_add];have hall:=qHZ hu;have hcan:listed=Array.replicate N true ++ Array.replicate (l.toArray.size - N) false:=by
   apply Array.ext
   ·simp [hh.size]; simp at hN; omega
   ·intro i h1 h2;rw [Array.getElem_append];split
    ·rename_i hi;simp at hi
     have:=hall i hi
     simp [h1] at this;simp [this]
    ·rename_i hi;simp at hi
     have:=hh.tail i hi (by rw [← hh.size]; exact h1)
     simp [h1] at this;simp [this]
  have hdone:∀ i,i < N→listed.getD i false=true:=fun i hi=>by
   have h1:=hall i hi
   have:i < listed.size:=by rw [hh.size]; omega
   simp [this] at h1 ⊢;exact h1
  have hcN:∀ i c,cs[i]? = some c→i < N:=fun i c hc=>by have:=(List.getElem?_eq_some_iff.1 hc).1; omega
  have fits:Fits n S' a:=⟨inv.size,inv.defers,fun t v ht=>by
   rcases hst.slots t v ht with ⟨c,hc,hd,hT⟩ | ⟨h0,hno⟩
   ·obtain ⟨i,hi⟩:=List.mem_iff_getElem?.1 hc;obtain ⟨u,hu,hTu⟩:=inv.done i c hi (hdone i (hcN i c hi));rw [hT] at hTu;rw [← hd,hu];exact congrArg some hTu
   ·exact inv.old t v h0 fun i c hi hd=>absurd hd (hno c (vQG hi))⟩
  have:=hK a w fits inv.knows (fun x hx=>by
    obtain ⟨c,hc,rfl⟩:=hG x hx;obtain ⟨i,hi⟩:=List.mem_iff_getElem?.1 hc;exact inv.done i c hi (hdone i (hcN i c hi)))
   (fun x hx y hy hne hx1 hy1=>by
    obtain ⟨c,hc,rfl⟩:=hG x hx;obtain ⟨c',hc',rfl⟩:=hG y hy;obtain ⟨i,hi⟩:=List.mem_iff_getElem?.1 hc;obtain ⟨j,hj⟩:=List.mem_iff_getElem?.1 hc';exact inv.apart i j c c' hi hj (fun e=>by subst e; rw [hi] at hj; cases hj; exact hne rfl) hx1 hy1 (hdone i (hcN i c hi)) (hdone j (hcN j c' hj)))
   (fun x hx hx1 y hy he=>by
    obtain ⟨c,hc,rfl⟩:=hG x hx;obtain ⟨i,hi⟩:=List.mem_iff_getElem?.1 hc;obtain ⟨u,hu,hTu⟩:=inv.done i c hi (hdone i (hcN i c hi));have hio:i < l.toArray.size:=by have:=hcN i c hi; omega
    obtain ⟨b,hb,_,hno⟩:=((hcs i _ c (vZU hio) hi).1.al hx1).2 _ _ hTu;rw [hu,hb] at he;simp only [vQZ,Value.pointer.injEq,Addr.mk.injEq,and_true] at he;exact hno y hy he.symm) trivial
  have hl:(l.drop N).length=l.toArray.size - N:=by simp
  rw [← hl];exact wpAny_of_seq (l.drop N) N listed a w (fun j=>by simp [List.getElem?_drop]) (by rw [hl,hcan]; exact hseq) this
 | succ f ih =>
  intro listed a w hh hu inv;rw [show f + 1 + (l.toArray.size - N)=(f + (l.toArray.size - N)) + 1 by omega];obtain ⟨i0,hi0,hun0,hbefore⟩:=zZU (listed:=listed) (N:=N) (by omega);have hready:i0 ∈ Region.ready .any l.toArray listed:=by
   have hlt:i0 < l.toArray.size:=by omega
   refine mem_ready.2 ⟨hun0,l.toArray[i0],vZU hlt,fun e he hb => ?_⟩;have h1:=List.all_eq_true.1 hback i0 (List.mem_range.2 hlt);simp only [vZU hlt] at h1;have h2:=Array.all_eq_true_iff_forall_mem.1 h1 e he;simp only [hb,Bool.not_true,Bool.false_or,decide_eq_true_eq] at h2;have h3:=hbefore e.on h2
   have:e.on < listed.size:=by rw [hh.size]; omega
   simp [this] at h3 ⊢;exact h3
  refine ⟨fun h0=>(by rw [h0] at hready; cases hready),fun i hi => ?_⟩;have hiN:i < N:=by
   rcases Nat.lt_or_ge i N with h | h
   ·exact h
   ·exact absurd hi (tail_waits hsink hchain hN hh _ i0 rfl hi0 hun0 i h)
  have hun:=(mem_ready.1 hi).1;refine wpOp_mono (fun a' w' h => ?_) (step_inv hlen hdep hself hcs inv hi hiN hh.size (by omega))
  have:=zXV hun hiN
  exact ih _ a' w' (hh.set hi hiN) (by omega) h
theorem qUV {S:yZ} {l:List Oper} {id:Nat} (N:Nat) (hm:P.follows .mixedOrders=true) (hB:kYW l.toArray N=true)
  (h:DoG P n w0 l.toArray H (fun S' G'=>Tail P n w0 l.toArray Q (l.drop N) (fun _=>True) S' H G') (l.take N) S []):DoC P n w0 Q (.region id l.toArray true) S H:=by
 intro a w fa ka;have hN:N < l.toArray.size:=by
  simp only [kYW,vQJ,decide_eq_true_eq] at hB;exact hB.1.1.1.2
 obtain ⟨cs,hlen,hcs,S',G',hst,hK,hG⟩:=doG_certs (S0:=S) (l.take N) S [] [] ⟨fun t v ht=>.inr ⟨ht,fun c hc=>by cases hc⟩,fun t T ht=>by cases ht⟩ h;have hlen':cs.length=N:=by rw [hlen]; simp; simp at hN; omega
 refine wp_region_any hm ?_;have inv0:HeadInv .any l.toArray N (Array.replicate l.toArray.size false) :=
  ⟨by simp,fun j oj _ hl=>(by rw [getD_replicate_false] at hl; cases hl),fun t _ ht=>getD_in (by simpa using ht) (getD_replicate_false _ _)⟩
 have hund:qUY (Array.replicate l.toArray.size false) N=N:=by
  have:∀ k,k≤l.toArray.size→qUY (Array.replicate l.toArray.size false) k=k:=by
   intro k;induction k with
   | zero=>intro _; rfl
   | succ k ih =>
    intro hk;have h1:=getD_in (listed:=Array.replicate l.toArray.size false) (i:=k) (by simp; simp at hk; omega) (getD_replicate_false _ _);simp only [qUY,ih (by omega),h1];rfl
  exact this N (by omega)
 have:=wpAny_main (P:=P) (n:=n) (w0:=w0) (H:=H) (S0:=S) (Q:=Q) hB hlen' (fun i o c hi hc=>by
   have hil:=(List.getElem?_eq_some_iff.1 hc).1
   have:=hcs i o c (by rw [vZV,if_pos (by omega)]; simpa using hi) hc
   simpa using this) (by simpa using hst) (fun x hx=>by
    rcases hG x hx with h | h
    ·cases h
    ·exact h) hK N _ a { w with drawn:=w.drawn + 1 } inv0 hund
   ⟨fa.size,fa.defers,fun t v ht _=>fa.has t v ht,fun i c _ hd=>(by rw [getD_replicate_false] at hd; cases hd),fun i j c c' _ _ _ _ _ hd=>(by rw [getD_replicate_false] at hd; cases hd),ka.next (Grow.refl w).drew⟩
 rwa [show N + (l.toArray.size - N)=l.toArray.size by omega] at this
variable {S:yZ} {G:qQK} {K:yZ→qQK→Prop} {o:Oper} {l:List Oper} {d:Nat}
theorem mem_looksAt {t:Nat} (h:Operand.tmp t ∈ o.op.operands):t ∈ o.looksAt ops :=
 List.mem_append_left _ (List.mem_filterMap.2 ⟨.tmp t,by simpa using h,rfl⟩)
theorem exec_know {a:Act} (hk:yK S o=true) (hs:yZG o=true) (h:∀ t ∈ o.looksAt ops,∀ v,look S t=some v→a.tmps[t]? = some v):execOp a.eval o=execOp (evD S) o:=by
 refine execOp_congr o (noSel_spec hs) fun x hx => ?_
 have:=Array.all_eq_true_iff_forall_mem.1 hk x hx
 obtain ⟨v,hv⟩:=Option.isSome_iff_exists.1 this;rw [zG hv];cases x with
 | tmp t=>simp [Act.eval,Array.getD_eq_getD_getElem?,h t (mem_looksAt hx) v hv]
 | const u=>simpa [Sx.ev,Act.eval] using hv
 | global g=>simpa [Sx.ev,Act.eval] using hv
 | func f=>simpa [Sx.ev,Act.eval] using hv
theorem wanted_know {a:Act} {b:Bool} (hw:uU ops S o=some b) (h:∀ t ∈ o.looksAt ops,∀ v,look S t=some v→a.tmps[t]? = some v):Region.wanted o (yielded ops a.tmps)=b:=by
 unfold uU at hw;unfold Region.wanted;cases hg:o.guard with
 | none=>simp [hg] at hw; simp [hw]
 | some gg =>
  obtain ⟨j,c⟩:=gg;simp only [hg] at hw ⊢;unfold yielded;cases hd:(ops[j]?).bind (·.dst) with
  | none=>simp [hd] at hw
  | some dd =>
   simp only [hd] at hw;cases hl:look S dd with
   | none=>simp [hl] at hw
   | some v =>
    rw [hl] at hw
    have:=h dd (by simp [Oper.looksAt,hg,hd]) v hl
    cases v <;> simp at hw
    simp [this,hw]
theorem opA_of_opT {T:Pred} (ho:OpT P w0 S H o T) (hw:uU ops S o=some true):OpA P n w0 ops H S G o T:=fun a w _ hk k=>by
 have h1:∀ t ∈ o.looksAt ops,∀ v,look S t=some v→a.tmps[t]? = some v:=fun t ht=>(hk t ht).1
 rw [wanted_know hw h1,if_pos rfl,exec_know ho.known ho.nosel h1];exact ho.run w k
theorem zQU (h:K S G):DoG P n w0 ops H K [] S G:=h
theorem yW {v:Value} (ho:OpV P w0 S H o v) (hw:uU ops S o=some true) (hd:o.dst=some d) (hn:Nat.blt d n=true) (next:DoG P n w0 ops H K l ((d,v) :: S) G) :
  DoG P n w0 ops H K (o :: l) S G :=
 ⟨d,isV v,hd,by simpa using hn,ho.nosel,stable_isV v,opA_of_opT ho hw,.inl ⟨v,rfl,next⟩⟩
def jQY (w0:Base) (H:Heap) (cs:List Value) (ty:TypeId):Pred:=fun u w =>
 ∃ b,u=.pointer (some ⟨b,0,none⟩)∧w0.w.heap.size≤b∧((∀ x ∈ H,x.2.1 ≠ b)∧∀ x ∈ w0.R,¬ x.2.1 b)∧w.heap[b]? = some (.cells cs.toArray ty)
theorem stable_allocT {cs:List Value} {ty:TypeId}:jUV (jQY w0 H cs ty):=fun _ _ _ ⟨b,h1,h2,h3,h4⟩ g=>⟨b,h1,h2,h3,by rw [g.block b (qZJ h4)]; exact h4⟩
theorem doG_new {cs:List Value} {ty':TypeId} (hk:yK S o=true) (hsel:yZG o=true) (hw:uU ops S o=some true) (hd:o.dst=some d) (hn:Nat.blt d n=true) (hno:look S d=none)
  (hrun:∀ w,(execOp (evD S) o).run P w=.ok (.value (.pointer (some ⟨w.heap.size,0,none⟩))) (w.alloc (.cells cs.toArray ty')))
  (next:DoG P n w0 ops H K l S ((d,true,jQY w0 H cs ty') :: G)):DoG P n w0 ops H K (o :: l) S G:=by
 have key:∀ a w,(∀ t ∈ o.looksAt ops,yHH S G a w t)→Region.wanted o (yielded ops a.tmps)=true ∧
   (execOp a.eval o).run P w=.ok (.value (.pointer (some ⟨w.heap.size,0,none⟩))) (w.alloc (.cells cs.toArray ty')):=fun a w hkn=>by
  have h1:∀ t ∈ o.looksAt ops,∀ v,look S t=some v→a.tmps[t]? = some v:=fun t ht=>(hkn t ht).1
  exact ⟨wanted_know hw h1,by rw [exec_know hk hsel h1]; exact hrun w⟩
 refine ⟨d,jQY w0 H cs ty',hd,by simpa using hn,hsel,stable_allocT,fun a w _ hkn k => ?_,.inr (.inr ⟨hno,fun a w _ hkn _=>⟨(key a w hkn).1,_,(key a w hkn).2⟩,?_,next⟩)⟩
 ·rw [(key a w hkn).1,if_pos rfl,(key a w hkn).2];refine ⟨(Grow.refl w).alloc _,w.heap.size,rfl,k.grow.size,⟨fun x hx e => ?_,fun x hx hd => ?_⟩,?_⟩
  ·have:=qZJ (k.has x hx).2
   omega
  ·have:=((k.facts x hx).at' _ hd).2.1
   omega
  ·show (w.heap.push _)[w.heap.size]? = _
   simp
 ·rintro u w ⟨b,h1,h2,h3,h4⟩
  exact ⟨b,h1,qZJ h4,h3.1⟩
theorem doG_alloc {t:TypeId} {ty:TypeId} {pos:String} {af:Array Edge} {g:Option (Nat × Bool)} {z:Value} {cs:List Value} (hz:qKZ P t z) (hc:jJU z.cells.toList=some cs)
  (hw:uU ops S ⟨some d,.alloc t,ty,pos,af,g⟩=some true) (hn:Nat.blt d n=true) (hno:look S d=none)
  (next:DoG P n w0 ops H K l S ((d,true,jQY w0 H cs t) :: G)):DoG P n w0 ops H K (⟨some d,.alloc t,ty,pos,af,g⟩ :: l) S G :=
 doG_new (by simp [yK,Op.operands]) rfl hw rfl hn hno (fun w=>by
  have:=zVH hc
  subst this;simp [execOp,Instr.alloc,zKH hz,newVar,newRow]) next
variable {tl:List Oper} {F:World→Prop}
theorem qWV (h:DoL P n w0 ops Q tl S H):Tail P n w0 ops Q tl F S H []:=fun a w f k _ _ _ _=>h a w f k
theorem fits_more {a:Act} {u:Value} (f:Fits n S a) (hu:a.tmps[d]? = some u):Fits n ((d,u) :: S) a:=⟨f.size,f.defers,fun t v ht=>by
 by_cases e:d=t
 ·subst e; rw [uJ] at ht; cases ht; exact hu
 ·rw [qQZ _ _ e] at ht; exact f.has t v ht⟩
theorem tail_alloc {H0:Heap} {cs:List Value} {ty:TypeId} (id:Nat) (hG:G.all (fun x => !Nat.beq x.1 d)=true)
  (h:∀ b,Tail P n w0 ops Q tl F ((d,.pointer (some ⟨b,0,none⟩)) :: S) ((id,b,cs,ty) :: H) G):Tail P n w0 ops Q tl F S H ((d,true,jQY w0 H0 cs ty) :: G):=fun a w f k hx hap hH hF=>by
 obtain ⟨u,hu,b,rfl,hb,⟨_,hbR⟩,hblk⟩:=hx _ vZQ;have hdne:∀ x ∈ G,x.1 ≠ d:=fun x hx e=>by
  have:=List.all_eq_true.1 hG x hx
  rw [e] at this;simp at this
 refine h b a w (fits_more f hu) ⟨k.grow,fun x hx => ?_,?_,fun F hF=>(k.facts F hF).heap fun x hx => ?_,k.apart⟩ (fun x hx'=>hx x (vQH _ hx')) (fun x hx' y hy=>hap x (vQH _ hx') y (vQH _ hy))
  (fun x hx' ha y hy => ?_) hF
 ·rcases List.mem_cons.1 hx with rfl | hx
  ·exact ⟨hb,hblk⟩
  ·exact k.has x hx
 ·rw [List.map_cons,List.nodup_cons];refine ⟨fun hm => ?_,k.nodup⟩;obtain ⟨y,hy,he⟩:=List.mem_map.1 hm;refine hH _ vZQ rfl y hy ?_;simp only at he;rw [hu,he]
 ·rcases List.mem_cons.1 hx with rfl | hx
  ·exact .inr (hbR F hF)
  ·exact .inl ⟨x,hx,rfl⟩
 ·rcases List.mem_cons.1 hy with rfl | hy
  ·have:=hap x (vQH _ hx') _ vZQ (hdne x hx') ha rfl
   rw [hu] at this;exact this
  ·exact hH x (vQH _ hx') ha y hy
end
end Go.Sx

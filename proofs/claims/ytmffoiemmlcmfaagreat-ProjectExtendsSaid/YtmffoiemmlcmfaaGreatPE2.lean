/- Part 2 of the texts behind the last one: rules and contracts. No condition. -/
import Derived.Test.YtmffoiemmlcmfaaGreatPE1
open Option renaming map_eq_some_iff → vZW
open Option.some renaming injEq → vQZ
open Prod.mk renaming injEq → vQY
open Bool renaming and_eq_true → vQJ
open List renaming getElem?_eq_getElem → vQK, mem_of_getElem? → vQG, mem_cons_of_mem → vQH, mem_cons_self → vZQ, getElem?_map → vZY, getElem?_take → vZV
open Nat renaming eq_of_beq_eq_true → vQX, lt_of_lt_of_le → vZK, le_of_ble_eq_true → vZX
open Array renaming getElem?_eq_getElem → vZU, all_eq_true_iff_forall_mem → vYY
namespace Go.Sx
open Go.RowKit Go.ChangeShapes Go.WideShapes
section
variable {P:Program} {W:World} {r:Reach} {base:Nat}
theorem yXH {t:TypeId} {v:Value} (hu:P.underlying t=some (.int .i64)) (h:Value.okWide P W r base t v):∃ n,v=.int .i64 n∧In64 n:=by
 simp only [Value.okWide,hu,Cell.okWide] at h;cases v <;> simp [Cell.ok,hu] at h
 obtain ⟨rfl,h1⟩:=h;exact ⟨_,rfl,by simpa [IntKind.has,IntKind.min,IntKind.max,IntKind.signed,IntKind.bits,In64] using h1⟩
variable {H:Type} {enc:TypeId × Value→H}
def uZV (P:Program) (ts:List TypeId):Bool:=ts.all fun t=>P.readableRec t && decide (t < P.types.size)
theorem trodAll_below (hl:laidOutB P=true) {W':World} (hb:Below W.heap.size W W'):∀ {ts:List TypeId} {vs:List Value} {ds:List (DataW H)} {ps:List MemPlace},uZV P ts=true →
  DataW.TrodAll enc P W 0 (fun _=>true) true ts vs ds ps→(∀ x ∈ ps,x.block < W.heap.size)→DataW.TrodAll enc P W' 0 (fun b=>decide (b < W.heap.size)) true ts vs ds ps
 | [],vs,ds,ps,_,h,_=>by
  obtain ⟨rfl,rfl,rfl⟩:=trodAll_nil h;exact trodAll_mk0
 | t :: ts,vs,ds,ps,hr,h,hlt=>by
  obtain ⟨v,vs',d,ds',p,q,rfl,rfl,rfl,h1,h2⟩:=trodAll_cons h;simp only [uZV,List.all_cons,vQJ,decide_eq_true_eq] at hr;exact trodAll_cons_mk (Below.trod hl hr.1.1 hr.1.2 h1 hb fun x hx=>hlt x (List.mem_append_left _ hx))
   (trodAll_below hl hb hr.2 h2 fun x hx=>hlt x (List.mem_append_right _ hx))
theorem law_post {f:Func} {s:ChangeSpec} {apart fresh handsOn:Bool} {W':World} {args:Array Value} {ds:List (DataW H)} {before:List MemPlace} {tb:TypeId}
  (hW:DataW.Whole enc P f.params.toList s.vars apart W args.toList ds [] before) (hvs:s.vars=[]) (hl:laidOutB P=true) (hr:uZV P f.params.toList=true) (hargs:(s.fn H (ds ++ [])).args=ds)
  (hres:(s.fn H (ds ++ [])).results=[.lit (.bool true)]) (hv:(s.fn H (ds ++ [])).vars=[]) (hrt:f.resultTypes=#[tb]) (hub:P.underlying tb=some .bool) (hb:Below W.heap.size W W') :
  s.post enc P f apart fresh handsOn false W args (.bool true) W':=by
 have hlt:∀ p ∈ before,p.block < W.heap.size:=fun p hp=>hW.lt p hp
 have hW2:=hW;obtain ⟨p,q,hA,hV,rfl,_,_⟩:=hW2;rw [hvs] at hV;obtain ⟨_,rfl⟩:=trodVars_none hV;refine ⟨ds,[],p ++ [],[],p,[],hW,?_,?_,?_,World.keptBut_mono (fun x hx=>⟨hx,Or.inr (Or.inl (by simpa using hx))⟩) (hb.frame (· ∈ p ++ [])),fun h=>by cases h⟩
 ·rw [hres,hrt];exact trodAll_mk1 (shut_bool hub true)
 ·rw [hargs];exact trodAll_below hl hb hr hA fun x hx=>hlt x (by simpa using hx)
 ·rw [hv,hvs];exact rfl
end
end Go.Sx
namespace Go.Sx
open Go.RowKit
structure GrowB (b:Nat→Prop) (w w':World):Prop where
 os:w'.os=w.os
 tape:w'.tape=w.tape
 output:w'.output=w.output
 size:w.heap.size≤w'.heap.size
 block:∀ k,k < w.heap.size→¬ b k→w'.heap[k]? = w.heap[k]?
theorem GrowB.of {b:Nat→Prop} {w w':World} (g:Grow w w'):GrowB b w w':=⟨g.os,g.tape,g.output,g.size,fun k hk _=>g.block k hk⟩
theorem GrowB.refl (b:Nat→Prop) (w:World):GrowB b w w:=.of (Grow.refl w)
theorem GrowB.trans {b:Nat→Prop} {x y z:World} (h:GrowB b x y) (k:GrowB b y z):GrowB b x z :=
 ⟨k.os.trans h.os,k.tape.trans h.tape,k.output.trans h.output,Nat.le_trans h.size k.size,fun i hi hb=>(k.block i (vZK hi h.size) hb).trans (h.block i hi hb)⟩
theorem GrowB.set (b:Nat) (w:World) (cs:Array Value):GrowB (· = b) w (w.setRow b cs):=⟨rfl,rfl,rfl,by simp,fun k _ hb=>setRow_other w b k cs hb⟩
def jQV (b:Nat→Prop) (T:Pred):Prop:=∀ v w w',T v w→GrowB b w w'→T v w'
theorem stableB_isV (b:Nat→Prop) (v:Value):jQV b (isV v):=fun _ _ _ h _=>h
section
variable {P:Program} {n:Nat} {ops:Array Oper} {Q:Exit→Act→World→Prop} {σ:Type}
def kYZ (P:Program) (b:Nat→Prop) (w:World) (T:Pred) (K:World→Prop):Result Next→Prop
 | .ok (.value v) w'=>GrowB b w w'∧T v w'∧K w'
 | .ok (.enter f args) w'=>GrowB b w w'∧Calls P f args w' (fun e w''=>∃ v,e=.returned v∧GrowB b w' w''∧T v w''∧K w'')
 | _=>False
def OpE (P:Program) (n:Nat) (ops:Array Oper) (K1 K2:World→Prop) (b:Nat→Prop) (S:yH) (G:qQK) (o:Oper) (T:Pred):Prop :=
 ∀ a w,a.tmps.size=n→(∀ t ∈ o.looksAt ops,jZY S G a w t)→K1 w →
  Region.wanted o (yielded ops a.tmps)=true∧kYZ P b w T K2 ((execOp a.eval o).run P w)
structure Fam (b:Nat→Prop) (w1:Base) (H0:Heap) (Wf:σ→Base) (Hf:σ→Heap):Prop where
 size:∀ s,(Wf s).w.heap.size=w1.w.heap.size
 told:∀ s,(Wf s).R=w1.R
 adr:∀ s,(Hf s).map (·.2.1)=H0.map (·.2.1)
 here:∀ k,b k→k < w1.w.heap.size ∨ k ∈ H0.map (·.2.1)
def PureAt (P:Program) (n:Nat) (ops:Array Oper) (Wf:σ→Base) (Hf:σ→Heap) (S:yH) (G:qQK) (o:Oper) (T:Pred):Prop:=∀ s',OpA P n (Wf s') ops (Hf s') S G o T
def DoM (P:Program) (n:Nat) (ops:Array Oper) (b:Nat→Prop) (Wf:σ→Base) (Hf:σ→Heap) (H0:Heap) (es:List Nat) (K:σ→yH→qQK→Prop):List Oper→Nat→σ→yH→qQK→Prop
 | [],_,s,S,G=>K s S G
 | o :: l,i,s,S,G=>∃ d T s2,o.dst=some d∧d < n∧yXQ o=true∧jQV b T ∧
   ((es.contains i=false∧s2=s∧PureAt P n ops Wf Hf S G o T) ∨ (es.contains i=true∧OpE P n ops (Knows (Wf s) (Hf s)) (Knows (Wf s2) (Hf s2)) b S G o T)) ∧
   ((∃ v,T=isV v∧DoM P n ops b Wf Hf H0 es K l (i + 1) s2 ((d,v) :: S) G) ∨ (look S d=none∧DoM P n ops b Wf Hf H0 es K l (i + 1) s2 S ((d,false,T) :: G)) ∨
     (look S d=none∧es.contains i=false∧(∀ s',kKG P n (Wf s') ops (Hf s') S G o)∧uZZ H0 T∧DoM P n ops b Wf Hf H0 es K l (i + 1) s2 S ((d,true,T) :: G)))
structure CertOkM (P:Program) (n:Nat) (ops:Array Oper) (b:Nat→Prop) (Wf:σ→Base) (Hf:σ→Heap) (H0:Heap) (es:List Nat) (i:Nat) (s s2:σ) (o:Oper) (c:Cert):Prop where
 dst:o.dst=some c.d
 lt:c.d < n
 nosel:yXQ o=true
 stable:jQV b c.T
 op:(es.contains i=false∧s2=s∧PureAt P n ops Wf Hf c.S c.G o c.T) ∨ (es.contains i=true∧OpE P n ops (Knows (Wf s) (Hf s)) (Knows (Wf s2) (Hf s2)) b c.S c.G o c.T)
 al:c.al=true→(es.contains i=false∧∀ s',kKG P n (Wf s') ops (Hf s') c.S c.G o)∧uZZ H0 c.T
variable {b:Nat→Prop} {Wf:σ→Base} {Hf:σ→Heap} {H0:Heap} {es:List Nat} {w1:Base}
theorem doM_certs {K:σ→yH→qQK→Prop} {S0:yH}:∀ (l:List Oper) (i0:Nat) (s:σ) (S:yH) (G:qQK) (pre:List Cert),Stems S0 pre S G→DoM P n ops b Wf Hf H0 es K l i0 s S G →
  ∃ (cs:List Cert) (ss:Nat→σ),cs.length=l.length∧ss i0=s∧(∀ i o c,l[i]? = some o→cs[i]? = some c→CertOkM P n ops b Wf Hf H0 es (i0 + i) (ss (i0 + i)) (ss (i0 + i + 1)) o c∧Stems S0 (pre ++ cs.take i) c.S c.G) ∧
   ∃ S' G',Stems S0 (pre ++ cs) S' G'∧K (ss (i0 + l.length)) S' G'∧(∀ x ∈ G',x ∈ G ∨ ∃ c ∈ cs,x=(c.d,c.al,c.T))
 | [],i0,s,S,G,pre,hs,h=>⟨[],fun _=>s,rfl,rfl,fun i o c hi=>by simp at hi,S,G,by simpa using hs,h,fun x hx=>.inl hx⟩
 | o :: l,i0,s,S,G,pre,hs,h=>by
  obtain ⟨d,T,s2,hd,hn,hsel,hst,hop,hk⟩:=h;have main:∀ (c:Cert) (S1:yH) (G1:qQK),c.S=S→c.G=G→CertOkM P n ops b Wf Hf H0 es i0 s s2 o c→Stems S0 (pre ++ [c]) S1 G1→(∀ x ∈ G1,x ∈ G ∨ x=(c.d,c.al,c.T))→DoM P n ops b Wf Hf H0 es K l (i0 + 1) s2 S1 G1 →
    ∃ (cs:List Cert) (ss:Nat→σ),cs.length=(o :: l).length∧ss i0=s∧(∀ i o' c,(o :: l)[i]? = some o'→cs[i]? = some c→CertOkM P n ops b Wf Hf H0 es (i0 + i) (ss (i0 + i)) (ss (i0 + i + 1)) o' c∧Stems S0 (pre ++ cs.take i) c.S c.G) ∧
     ∃ S' G',Stems S0 (pre ++ cs) S' G'∧K (ss (i0 + (o :: l).length)) S' G'∧(∀ x ∈ G',x ∈ G ∨ ∃ c ∈ cs,x=(c.d,c.al,c.T)):=by
   intro c S1 G1 e1 e2 hc hst1 hG1 hrest;obtain ⟨cs,ss,hl,h0,hall,S',G',h1,h2,h3⟩:=doM_certs l (i0 + 1) s2 S1 G1 (pre ++ [c]) hst1 hrest;have hss:∀ k,i0 < k→(if k=i0 then s else ss k)=ss k:=fun k hk=>if_neg (by omega)
   refine ⟨c :: cs,fun k=>if k=i0 then s else ss k,by simp [hl],if_pos rfl,fun i o' c' hi hc' => ?_,S',G',by simpa using h1,?_,fun x hx => ?_⟩
   ·cases i with
    | zero =>
     simp at hi hc';subst hi; subst hc';refine ⟨?_,by simpa [e1,e2] using hs⟩;show CertOkM P n ops b Wf Hf H0 es i0 (if i0=i0 then s else ss i0) (if i0 + 1=i0 then s else ss (i0 + 1)) o c;rw [if_pos rfl,hss _ (by omega),h0];exact hc
    | succ i =>
     simp at hi hc';obtain ⟨q1,q2⟩:=hall i o' c' hi hc';refine ⟨?_,by simpa using q2⟩;show CertOkM P n ops b Wf Hf H0 es (i0 + (i + 1)) (if i0 + (i + 1)=i0 then s else ss (i0 + (i + 1))) (if i0 + (i + 1) + 1=i0 then s else ss (i0 + (i + 1) + 1)) o' c';rw [hss _ (by omega),hss _ (by omega),show i0 + (i + 1)=i0 + 1 + i by omega];exact q1
   ·show K (if i0 + (o :: l).length=i0 then s else ss (i0 + (o :: l).length)) S' G';rw [hss _ (by simp),show i0 + (o :: l).length=i0 + 1 + l.length by simp; omega];exact h2
   ·rcases h3 x hx with h | ⟨c',hc',he⟩
    ·rcases hG1 x h with h | h
     ·exact .inl h
     ·exact .inr ⟨c,by simp,h⟩
    ·exact .inr ⟨c',by simp [hc'],he⟩
  have gh:∀ (al:Bool),look S d=none→Stems S0 (pre ++ [⟨d,T,al,S,G⟩]) S ((d,al,T) :: G):=fun al hno=>⟨fun t u ht=>by
    have hdt:d ≠ t:=fun e=>by subst e; rw [hno] at ht; cases ht
    rcases hs.slots t u ht with ⟨c,hc,h⟩ | ⟨h,h'⟩
    ·exact .inl ⟨c,by simp [hc],h⟩
    ·refine .inr ⟨h,fun c hc => ?_⟩;rcases List.mem_append.1 hc with hc | hc
     ·exact h' c hc
     ·simp at hc; subst hc; exact hdt,fun t U ht=>by
    by_cases e:d=t
    ·subst e;rw [lookG_cons_same] at ht;cases ht;exact ⟨⟨d,T,al,S,G⟩,by simp,rfl,rfl⟩
    ·rw [lookG_cons_ne _ _ _ e] at ht;obtain ⟨c,hc,h⟩:=hs.ghosts t U ht;exact ⟨c,by simp [hc],h⟩⟩
  have gm:∀ (al:Bool),∀ x ∈ ((d,al,T) :: G:qQK),x ∈ G ∨ x=(d,al,T):=fun al x hx=>by
   rcases List.mem_cons.1 hx with h | h
   ·exact .inr h
   ·exact .inl h
  rcases hk with ⟨v,rfl,hrest⟩ | ⟨hno,hrest⟩ | ⟨hno,hne,hal,hp,hrest⟩
  ·refine main ⟨d,isV v,false,S,G⟩ ((d,v) :: S) G rfl rfl ⟨hd,hn,hsel,hst,hop,fun h=>by cases h⟩ ⟨fun t u ht => ?_,fun t T ht => ?_⟩ (fun x hx=>.inl hx) hrest
   ·by_cases e:d=t
    ·subst e;rw [qZZ] at ht;cases ht;exact .inl ⟨⟨d,isV v,false,S,G⟩,by simp,rfl,rfl⟩
    ·rw [qYQ _ _ e] at ht;rcases hs.slots t u ht with ⟨c,hc,h⟩ | ⟨h,h'⟩
     ·exact .inl ⟨c,by simp [hc],h⟩
     ·refine .inr ⟨h,fun c hc => ?_⟩;rcases List.mem_append.1 hc with hc | hc
      ·exact h' c hc
      ·simp at hc; subst hc; exact e
   ·obtain ⟨c,hc,h⟩:=hs.ghosts t T ht;exact ⟨c,by simp [hc],h⟩
  ·exact main ⟨d,T,false,S,G⟩ S ((d,false,T) :: G) rfl rfl ⟨hd,hn,hsel,hst,hop,fun h=>by cases h⟩ (gh false hno) (gm false) hrest
  ·exact main ⟨d,T,true,S,G⟩ S ((d,true,T) :: G) rfl rfl ⟨hd,hn,hsel,hst,hop,fun _=>⟨⟨hne,hal⟩,hp⟩⟩ (gh true hno) (gm true) hrest
def kGW (ops:Array Oper):Nat→Nat→Nat→Bool
 | 0,_,_=>false
 | f + 1,i,j=>match ops[i]? with
  | some o=>o.after.any fun e=>Region.binds .any e && (e.on == j || kGW ops f e.on j)
  | none=>false
def esB (ops:Array Oper) (es:List Nat):Bool:=es.all fun i=>es.all fun j=>Nat.ble i j || kGW ops ops.size i j
theorem deps_listed {listed:Array Bool} (hcl:∀ j oj,ops[j]? = some oj→listed.getD j false=true→∀ e ∈ oj.after,Region.binds .any e=true→listed.getD e.on false=true) :
  ∀ f i j,kGW ops f i j=true→(∀ o,ops[i]? = some o→∀ e ∈ o.after,Region.binds .any e=true→listed.getD e.on false=true)→listed.getD j false=true
 | 0,_,_,h,_=>by cases h
 | f + 1,i,j,h,hi=>by
  unfold kGW at h;cases ho:ops[i]? with
  | none=>simp [ho] at h
  | some o =>
   simp only [ho] at h;obtain ⟨e,he,hb⟩:=Array.any_eq_true'.1 h;simp only [vQJ,Bool.or_eq_true,beq_iff_eq] at hb;have hl:=hi o ho e he hb.1;rcases hb.2 with h2 | h2
   ·rw [← h2]; exact hl
   ·exact deps_listed hcl f e.on j h2 fun o' ho' e' he' hb'=>hcl e.on o' ho' hl e' he' hb'
structure InvM (S0:yH) (Wf:σ→Base) (Hf:σ→Heap) (es:List Nat) (ss:Nat→σ) (N n:Nat) (cs:List Cert) (listed:Array Bool) (a:Act) (w:World):Prop where
 size:a.tmps.size=n
 defers:a.defers=[]
 old:∀ t v,look S0 t=some v→(∀ i c,cs[i]? = some c→c.d=t→listed.getD i false=false)→a.tmps[t]? = some v
 done:∀ i c,cs[i]? = some c→listed.getD i false=true→∃ u,a.tmps[c.d]? = some u∧c.T u w
 apart:∀ i j c c',cs[i]? = some c→cs[j]? = some c'→i ≠ j→c.al=true→c'.al=true→listed.getD i false=true→listed.getD j false=true→a.tmps[c.d]? ≠ a.tmps[c'.d]?
 knows:∃ m,m≤N∧Knows (Wf (ss m)) (Hf (ss m)) w∧∀ i,i < N→es.contains i=true→(listed.getD i false=true ↔ i < m)
variable {S0:yH}
theorem jGW {N:Nat} {ss:Nat→σ} (h:∀ i,i < N→es.contains i=false→ss (i + 1)=ss i):∀ (k m:Nat),m + k≤N→(∀ i,m≤i→i < m + k→es.contains i=false)→ss (m + k)=ss m
 | 0,_,_,_=>rfl
 | k + 1,m,hle,hno=>by
  rw [← Nat.add_assoc,h (m + k) (by omega) (hno _ (by omega) (by omega))];exact jGW h k m (by omega) fun i h1 h2=>hno i h1 (by omega)
theorem step_invM {N:Nat} {cs:List Cert} {ss:Nat→σ} {listed:Array Bool} {a:Act} {w:World} (hlen:cs.length=N) (hdep:depB ops N=true) (hself:kWZ ops N=true) (hes:esB ops es=true)
  (hcl:∀ j oj,ops[j]? = some oj→listed.getD j false=true→∀ e ∈ oj.after,Region.binds .any e=true→listed.getD e.on false=true)
  (hcs:∀ i o c,ops[i]? = some o→cs[i]? = some c→CertOkM P n ops b Wf Hf H0 es i (ss i) (ss (i + 1)) o c∧Stems S0 (cs.take i) c.S c.G)
  (inv:InvM S0 Wf Hf es ss N n cs listed a w) {i:Nat} (hi:i ∈ Region.ready .any ops listed) (hin:i < N) (hsz:listed.size=ops.size) (hops:N≤ops.size) :
  wpOp P ops Q i (fun a' w'=>InvM S0 Wf Hf es ss N n cs (listed.setIfInBounds i true) a' w') a w:=by
 obtain ⟨hun,o,ho,hall⟩:=mem_ready.1 hi;have hil:i < cs.length:=by omega
 obtain ⟨c,hc⟩:∃ c,cs[i]? = some c:=⟨cs[i],vQK hil⟩
 obtain ⟨ok,st⟩:=hcs i o c ho hc;have ops_at:∀ j c',cs[j]? = some c'→j < N∧∃ oj,ops[j]? = some oj∧oj.dst=some c'.d:=fun j c' hj=>by
  have hjl:=(List.getElem?_eq_some_iff.1 hj).1;have hjo:j < ops.size:=by omega
  exact ⟨by omega,ops[j],vZU hjo,(hcs j ops[j] c' (vZU hjo) hj).1.dst⟩
 have waits:∀ j c',cs[j]? = some c'→j ≠ i→c'.d ∈ o.looksAt ops→j < i∧listed.getD j false=true:=fun j c' hj hne hm=>by
  obtain ⟨hjN,oj,hoj,hdj⟩:=ops_at j c' hj;obtain ⟨h1,h2⟩:=(yZW hdep hjN hin hne hoj ho).2 c'.d hdj hm;refine ⟨h1,?_⟩;obtain ⟨o',ho',e,he,hb,hon⟩:=Region.waitsFor_spec h2;rw [ho] at ho';cases ho'
  have:=hall e he hb
  rwa [hon] at this
 have know:∀ t ∈ o.looksAt ops,jZY c.S c.G a w t:=fun t ht=>by
  have hself':c.d ≠ t:=fun e=>selfB_spec hself hin ho ok.dst (e ▸ ht)
  refine ⟨fun v hv => ?_,fun T hT => ?_⟩
  ·rcases st.slots t v hv with ⟨c',hm,hd,hTc⟩ | ⟨h0,hno⟩
   ·obtain ⟨j,hj⟩:=List.mem_iff_getElem?.1 hm;rw [vZV] at hj;split at hj
    ·rename_i hji;obtain ⟨_,hdone⟩:=waits j c' hj (by omega) (hd ▸ ht);obtain ⟨u,hu,hTu⟩:=inv.done j c' hj hdone;rw [hTc] at hTu;rw [← hd,hu];exact congrArg some hTu
    ·cases hj
   ·refine inv.old t v h0 fun j c' hj hd => ?_
    by_cases e:j=i
    ·subst e;rw [hc] at hj;cases hj;exact absurd hd hself'
    ·obtain ⟨hlt,_⟩:=waits j c' hj e (hd ▸ ht);exact absurd hd (hno c' (vQG (by rw [vZV,if_pos hlt]; exact hj)))
  ·obtain ⟨c',hm,hd,hTc⟩:=st.ghosts t T hT;obtain ⟨j,hj⟩:=List.mem_iff_getElem?.1 hm;rw [vZV] at hj;split at hj
   ·rename_i hji;obtain ⟨_,hdone⟩:=waits j c' hj (by omega) (hd ▸ ht);obtain ⟨u,hu,hTu⟩:=inv.done j c' hj hdone;exact ⟨u,by rw [← hd]; exact hu,hTc ▸ hTu⟩
   ·cases hj
 have hlt:i < listed.size:=by omega
 have put_ne:∀ (u:Value) (t:Nat),c.d ≠ t→(a.put (some c.d) u).tmps[t]? = a.tmps[t]?:=fun u t hne=>by simp [Act.put,Array.getElem?_setIfInBounds_ne hne]
 have put_eq:∀ (u:Value),(a.put (some c.d) u).tmps[c.d]? = some u:=fun u=>by
  have:=ok.lt
  have hs:=inv.size;simp [Act.put,hs,this]
 have done_iff:∀ j,j ≠ i→(listed.setIfInBounds i true).getD j false=listed.getD j false:=fun j hj=>getD_set_ne false (Ne.symm hj)
 have dne:∀ j c',cs[j]? = some c'→j ≠ i→c'.d ≠ c.d:=fun j c' hj hne e=>by
  obtain ⟨hjN,oj,hoj,hdj⟩:=ops_at j c' hj;exact (yZW hdep hjN hin hne hoj ho).1 (by rw [hdj,ok.dst,e])
 have next:∀ (u:Value) (w':World),GrowB b w w'→c.T u w'→(c.al=true→u=.pointer (some ⟨w.heap.size,0,none⟩)) →
   (∃ m,m≤N∧Knows (Wf (ss m)) (Hf (ss m)) w'∧∀ i',i' < N→es.contains i'=true→((listed.setIfInBounds i true).getD i' false=true ↔ i' < m)) →
   InvM S0 Wf Hf es ss N n cs (listed.setIfInBounds i true) (a.put o.dst u) w':=fun u w' gr hT hal hkn=>by
  rw [ok.dst];refine ⟨by simp [Act.put,inv.size],inv.defers,fun t v hv hno => ?_,fun j c' hj hd => ?_,fun j k c' c'' hj hk hne h1 h2 hd1 hd2 => ?_,hkn⟩
  ·have hne:c.d ≠ t:=fun e=>by
    have:=hno i c hc e
    simp [hlt] at this
   rw [put_ne u t hne];refine inv.old t v hv fun j c' hj hd => ?_
   by_cases e:j=i
   ·subst e; rw [hc] at hj; cases hj; exact absurd hd hne
   ·rw [← done_iff j e]; exact hno j c' hj hd
  ·by_cases e:j=i
   ·subst e; rw [hc] at hj; cases hj;exact ⟨u,put_eq u,hT⟩
   ·rw [done_iff j e] at hd;obtain ⟨u',hu,hTu⟩:=inv.done j c' hj hd;obtain ⟨_,oj,hoj,_⟩:=ops_at j c' hj;exact ⟨u',by rw [put_ne u _ (Ne.symm (dne j c' hj e))]; exact hu,(hcs j oj c' hoj hj).1.stable _ _ _ hTu gr⟩
  ·have fresh:∀ j c',cs[j]? = some c'→j ≠ i→c'.al=true→listed.getD j false=true→a.tmps[c'.d]? ≠ some (.pointer (some ⟨w.heap.size,0,none⟩)):=fun j c' hj e ha hd he=>by
    obtain ⟨u',hu,hTu⟩:=inv.done j c' hj hd;obtain ⟨_,oj,hoj,_⟩:=ops_at j c' hj;obtain ⟨bb,hb,hbl,_⟩:=((hcs j oj c' hoj hj).1.al ha).2 _ _ hTu;rw [hu,hb] at he;simp only [vQZ,Value.pointer.injEq,Addr.mk.injEq,and_true] at he;omega
   by_cases e1:j=i
   ·subst e1; rw [hc] at hj; cases hj;have e2:k ≠ j:=Ne.symm hne;rw [put_eq,put_ne u _ (Ne.symm (dne k c'' hk e2)),hal h1];rw [done_iff k e2] at hd2;exact Ne.symm (fresh k c'' hk e2 h2 hd2)
   ·by_cases e2:k=i
    ·subst e2; rw [hc] at hk; cases hk;rw [put_eq,put_ne u _ (Ne.symm (dne j c' hj e1)),hal h2];rw [done_iff j e1] at hd1;exact fresh j c' hj e1 h1 hd1
    ·rw [put_ne u _ (Ne.symm (dne j c' hj e1)),put_ne u _ (Ne.symm (dne k c'' hk e2))];rw [done_iff j e1] at hd1;rw [done_iff k e2] at hd2;exact inv.apart j k c' c'' hj hk hne h1 h2 hd1 hd2
 obtain ⟨m,hmN,hkm,hm⟩:=inv.knows;rcases ok.op with ⟨hpure,_,hop⟩ | ⟨heff,hop⟩
 ·have hrun:=hop _ a w inv.size know hkm;have kn:∀ w',Grow w w'→∃ m,m≤N∧Knows (Wf (ss m)) (Hf (ss m)) w'∧∀ i',i' < N→es.contains i'=true→((listed.setIfInBounds i true).getD i' false=true ↔ i' < m):=fun w' gr =>
   ⟨m,hmN,hkm.next gr,fun i' h1 h2=>by
    have:i' ≠ i:=fun e=>by rw [e,hpure] at h2; cases h2
    rw [done_iff i' this]; exact hm i' h1 h2⟩
  unfold wpOp;simp only [ho];split
  ·rename_i hw;rw [if_pos hw] at hrun;refine .inl ?_;unfold Oper.wp;by_cases hal:c.al=true
   ·obtain ⟨_,ob,hr⟩:=(ok.al hal).1.2 _ a w inv.size know hkm;rw [hr] at hrun ⊢;simp only [Yields] at hrun;simp only [Oper.upon];exact next _ _ (.of hrun.1) hrun.2 (fun _=>rfl) (kn _ hrun.1)
   ·have hnal:c.al=true→∀ u:Value,u=.pointer (some ⟨w.heap.size,0,none⟩):=fun h=>absurd h hal
    generalize (execOp a.eval o).run P w=r at *;cases r with
    | ok x w' =>
     cases x <;> simp only [Yields] at hrun <;> simp only [Oper.upon]
     case value v=>exact next _ _ (.of hrun.1) hrun.2 (fun h=>hnal h _) (kn _ hrun.1)
     case skip=>exact next _ _ (.of hrun.1) hrun.2 (fun h=>hnal h _) (kn _ hrun.1)
     case enter fn args =>
      refine hrun.2.mono fun e w'' ⟨v,he,hg,ht⟩ => ?_
      subst he;exact next _ _ (.of (hrun.1.trans hg)) ht (fun h=>hnal h _) (kn _ (hrun.1.trans hg))
    | halt x w'=>simp only [Yields] at hrun
  ·rename_i hw;rw [if_neg hw] at hrun;refine next _ _ (GrowB.refl _ _) hrun (fun hal => ?_) (kn _ (Grow.refl _))
   have:=((ok.al hal).1.2 _ a w inv.size know hkm).1
   exact absurd this hw
 ·have hnal:¬ c.al=true:=fun h=>by rw [(ok.al h).1.1] at heff; cases heff
  have hmi:m≤i:=by
   rcases Nat.lt_or_ge i m with h | h
   ·have:=(hm i hin heff).2 h
    rw [getD_both hun] at this;cases this
   ·exact h
  have before:∀ j,m≤j→j < i→es.contains j=false:=fun j h1 h2=>by
   cases hej:es.contains j with
   | false=>rfl
   | true =>
    have hd:kGW ops ops.size i j=true:=by
     have h3:=List.all_eq_true.1 (List.all_eq_true.1 hes i (by simpa using heff)) j (by simpa using hej);simp only [Bool.or_eq_true,Nat.ble_eq] at h3;rcases h3 with h3 | h3
     ·omega
     ·exact h3
    have hl:=deps_listed hcl _ i j hd fun o' ho' e he hb=>by
     rw [ho] at ho';cases ho';exact hall e he hb
    have:=(hm j (by omega) hej).1 hl
    omega
  have hpure':∀ j,j < N→es.contains j=false→ss (j + 1)=ss j:=fun j hj hno=>by
   have hjo:j < ops.size:=by omega
   have hjl:j < cs.length:=by omega
   rcases (hcs j ops[j] cs[j] (vZU hjo) (vQK hjl)).1.op with h | h
   ·exact h.2.1
   ·rw [hno] at h; cases h.1
  have hse:ss i=ss m:=by
   have:=jGW hpure' (i - m) m (by omega) fun j h1 h2=>before j h1 (by omega)
   rwa [show m + (i - m)=i by omega] at this
  rw [← hse] at hkm;obtain ⟨hw,hrun⟩:=hop a w inv.size know hkm;have kn:∀ w',Knows (Wf (ss (i + 1))) (Hf (ss (i + 1))) w'→∃ m,m≤N∧Knows (Wf (ss m)) (Hf (ss m)) w'∧∀ i',i' < N→es.contains i'=true→((listed.setIfInBounds i true).getD i' false=true ↔ i' < m):=fun w' hk' =>
   ⟨i + 1,by omega,hk',fun i' h1 h2=>by
    by_cases e:i'=i
    ·subst e;simp [hlt]
    ·rw [done_iff i' e,hm i' h1 h2];constructor
     ·intro h; omega
     ·intro h;rcases Nat.lt_or_ge i' m with h3 | h3
      ·exact h3
      ·rw [before i' h3 (by omega)] at h2; cases h2⟩
  unfold wpOp;simp only [ho,hw,if_true];refine .inl ?_;unfold Oper.wp;generalize (execOp a.eval o).run P w=r at *;cases r with
  | ok x w' =>
   cases x <;> simp only [kYZ] at hrun <;> simp only [Oper.upon]
   case value v=>exact next _ _ hrun.1 hrun.2.1 (fun h=>absurd h hnal) (kn _ hrun.2.2)
   case enter fn args =>
    refine hrun.2.mono fun e w'' ⟨v,he,hg,ht,hk'⟩ => ?_
    subst he;exact next _ _ (hrun.1.trans hg) ht (fun h=>absurd h hnal) (kn _ hk')
  | halt x w'=>simp only [kYZ] at hrun
theorem wpAny_mainM {N:Nat} {cs:List Cert} {ss:Nat→σ} {l:List Oper} {S':yH} {G':qQK} (fam:Fam b w1 H0 Wf Hf) (hB:jZK l.toArray N=true) (hes:esB l.toArray es=true) (hen:es.all (Nat.blt · N)=true) (hlen:cs.length=N)
  (hcs:∀ i o c,l.toArray[i]? = some o→cs[i]? = some c→CertOkM P n l.toArray b Wf Hf H0 es i (ss i) (ss (i + 1)) o c∧Stems S0 (cs.take i) c.S c.G)
  (hst:Stems S0 cs S' G') (hG:∀ x ∈ G',∃ c ∈ cs,x=(c.d,c.al,c.T)) (hK:Tail P n (Wf (ss N)) l.toArray Q (l.drop N) (fun _=>True) S' (Hf (ss N)) G') :
  ∀ (f:Nat) (listed:Array Bool) (a:Act) (w:World),HeadInv .any l.toArray N listed→qJX listed N=f→InvM S0 Wf Hf es ss N n cs listed a w →
   wpAny P .any l.toArray Q (f + (l.toArray.size - N)) listed a w:=by
 simp only [jZK,vQJ,decide_eq_true_eq] at hB;obtain ⟨⟨⟨⟨⟨⟨hdep,hself⟩,hback⟩,hN⟩,hsink⟩,hchain⟩,hseq⟩:=hB;intro f;induction f with
 | zero =>
  intro listed a w hh hu inv;rw [Nat.zero_add];have hall:=qGU hu;have hcan:listed=Array.replicate N true ++ Array.replicate (l.toArray.size - N) false:=by
   apply Array.ext
   ·simp [hh.size]; simp at hN; omega
   ·intro i h1 h2;rw [Array.getElem_append];split
    ·rename_i hi;simp at hi
     have:=hall i hi
     simp [h1] at this;simp [this]
    ·rename_i hi;simp at hi
     have:=hh.tail i hi (by rw [← hh.size]; exact h1)
     simp [h1] at this;simp [this]
  have hdone:∀ i,i < N→listed.getD i false=true:=fun i hi=>by
   have h1:=hall i hi
   have:i < listed.size:=by rw [hh.size]; omega
   simp [this] at h1 ⊢;exact h1
  have hcN:∀ i c,cs[i]? = some c→i < N:=fun i c hc=>by have:=(List.getElem?_eq_some_iff.1 hc).1; omega
  have fits:Fits n S' a:=⟨inv.size,inv.defers,fun t v ht=>by
   rcases hst.slots t v ht with ⟨c,hc,hd,hT⟩ | ⟨h0,hno⟩
   ·obtain ⟨i,hi⟩:=List.mem_iff_getElem?.1 hc;obtain ⟨u,hu,hTu⟩:=inv.done i c hi (hdone i (hcN i c hi));rw [hT] at hTu;rw [← hd,hu];exact congrArg some hTu
   ·exact inv.old t v h0 fun i c hi hd=>absurd hd (hno c (vQG hi))⟩
  have hkn:Knows (Wf (ss N)) (Hf (ss N)) w:=by
   obtain ⟨m,hmN,hkm,hm⟩:=inv.knows;have hpure':∀ j,j < N→es.contains j=false→ss (j + 1)=ss j:=fun j hj hno=>by
    have hjo:j < l.toArray.size:=by omega
    have hjl:j < cs.length:=by omega
    rcases (hcs j _ cs[j] (vZU hjo) (vQK hjl)).1.op with h | h
    ·exact h.2.1
    ·rw [hno] at h; cases h.1
   have:=jGW hpure' (N - m) m (by omega) fun j h1 h2=>by
    cases hej:es.contains j with
    | false=>rfl
    | true =>
     have:=(hm j (by omega) hej).1 (hdone j (by omega))
     omega
   rw [show m + (N - m)=N by omega] at this;rw [this];exact hkm
  have:=hK a w fits hkn (fun x hx=>by
    obtain ⟨c,hc,rfl⟩:=hG x hx;obtain ⟨i,hi⟩:=List.mem_iff_getElem?.1 hc;exact inv.done i c hi (hdone i (hcN i c hi)))
   (fun x hx y hy hne hx1 hy1=>by
    obtain ⟨c,hc,rfl⟩:=hG x hx;obtain ⟨c',hc',rfl⟩:=hG y hy;obtain ⟨i,hi⟩:=List.mem_iff_getElem?.1 hc;obtain ⟨j,hj⟩:=List.mem_iff_getElem?.1 hc';exact inv.apart i j c c' hi hj (fun e=>by subst e; rw [hi] at hj; cases hj; exact hne rfl) hx1 hy1 (hdone i (hcN i c hi)) (hdone j (hcN j c' hj)))
   (fun x hx hx1 y hy he=>by
    obtain ⟨c,hc,rfl⟩:=hG x hx;obtain ⟨i,hi⟩:=List.mem_iff_getElem?.1 hc;obtain ⟨u,hu,hTu⟩:=inv.done i c hi (hdone i (hcN i c hi));have hio:i < l.toArray.size:=by have:=hcN i c hi; omega
    obtain ⟨bb,hb,_,hno⟩:=((hcs i _ c (vZU hio) hi).1.al hx1).2 _ _ hTu;rw [hu,hb] at he;simp only [vQZ,Value.pointer.injEq,Addr.mk.injEq,and_true] at he;have hmem:y.2.1 ∈ (Hf (ss N)).map (·.2.1):=List.mem_map.2 ⟨y,hy,rfl⟩;rw [fam.adr] at hmem;obtain ⟨z,hz,hze⟩:=List.mem_map.1 hmem;exact hno z hz (by omega)) trivial
  have hl:(l.drop N).length=l.toArray.size - N:=by simp
  rw [← hl];exact wpAny_of_seq (l.drop N) N listed a w (fun j=>by simp [List.getElem?_drop]) (by rw [hl,hcan]; exact hseq) this
 | succ f ih =>
  intro listed a w hh hu inv;rw [show f + 1 + (l.toArray.size - N)=(f + (l.toArray.size - N)) + 1 by omega];obtain ⟨i0,hi0,hun0,hbefore⟩:=qHU (listed:=listed) (N:=N) (by omega);have hready:i0 ∈ Region.ready .any l.toArray listed:=by
   have hlt:i0 < l.toArray.size:=by omega
   refine mem_ready.2 ⟨hun0,l.toArray[i0],vZU hlt,fun e he hb => ?_⟩;have h1:=List.all_eq_true.1 hback i0 (List.mem_range.2 hlt);simp only [vZU hlt] at h1;have h2:=Array.all_eq_true_iff_forall_mem.1 h1 e he;simp only [hb,Bool.not_true,Bool.false_or,decide_eq_true_eq] at h2;have h3:=hbefore e.on h2
   have:e.on < listed.size:=by rw [hh.size]; omega
   simp [this] at h3 ⊢;exact h3
  refine ⟨fun h0=>(by rw [h0] at hready; cases hready),fun i hi => ?_⟩;have hiN:i < N:=by
   rcases Nat.lt_or_ge i N with h | h
   ·exact h
   ·exact absurd hi (tail_waits hsink hchain hN hh _ i0 rfl hi0 hun0 i h)
  have hun:=(mem_ready.1 hi).1;refine wpOp_mono (fun a' w' h => ?_) (step_invM hlen hdep hself hes hh.closed hcs inv hi hiN hh.size (by omega))
  have:=zJX hun hiN
  exact ih _ a' w' (hh.set hi hiN) (by omega) h
theorem doC_drawnM {S:yH} {l:List Oper} {id:Nat} (N:Nat) (es:List Nat) {s:σ} (fam:Fam b w1 H0 Wf Hf) (hm:P.follows .mixedOrders=true) (hB:(jZK l.toArray N && esB l.toArray es && es.all (Nat.blt · N))=true)
  (h:DoM P n l.toArray b Wf Hf H0 es (fun s' S' G'=>Tail P n (Wf s') l.toArray Q (l.drop N) (fun _=>True) S' (Hf s') G') (l.take N) 0 s S []):DoC P n (Wf s) Q (.region id l.toArray true) S (Hf s):=by
 intro a w fa ka;simp only [vQJ] at hB;obtain ⟨⟨hB,hes⟩,hen⟩:=hB;have hN:N < l.toArray.size:=by
  simp only [jZK,vQJ,decide_eq_true_eq] at hB;exact hB.1.1.1.2
 obtain ⟨cs,ss,hlen,h0,hcs,S',G',hst,hK,hG⟩:=doM_certs (S0:=S) (l.take N) 0 s S [] [] ⟨fun t v ht=>.inr ⟨ht,fun c hc=>by cases hc⟩,fun t T ht=>by cases ht⟩ h;have hlen':cs.length=N:=by rw [hlen]; simp; simp at hN; omega
 refine wp_region_any hm ?_;have inv0:HeadInv .any l.toArray N (Array.replicate l.toArray.size false) :=
  ⟨by simp,fun j oj _ hl=>(by rw [getD_replicate_false] at hl; cases hl),fun t _ ht=>getD_in (by simpa using ht) (getD_replicate_false _ _)⟩
 have hund:qJX (Array.replicate l.toArray.size false) N=N:=by
  have:∀ k,k≤l.toArray.size→qJX (Array.replicate l.toArray.size false) k=k:=by
   intro k;induction k with
   | zero=>intro _; rfl
   | succ k ih =>
    intro hk;have h1:=getD_in (listed:=Array.replicate l.toArray.size false) (i:=k) (by simp; simp at hk; omega) (getD_replicate_false _ _);simp only [qJX,ih (by omega),h1];rfl
  exact this N (by omega)
 have hK':Tail P n (Wf (ss N)) l.toArray Q (l.drop N) (fun _=>True) S' (Hf (ss N)) G':=by
  have e:0 + (l.take N).length=N:=by simp; simp at hN; omega
  rw [e] at hK;exact hK
 have:=wpAny_mainM (P:=P) (n:=n) (S0:=S) (Q:=Q) (ss:=ss) fam hB hes hen hlen' (fun i o c hi hc=>by
   have hil:=(List.getElem?_eq_some_iff.1 hc).1
   have:=hcs i o c (by rw [vZV,if_pos (by omega)]; simpa using hi) hc
   simpa using this) (by simpa using hst) (fun x hx=>by
    rcases hG x hx with h | h
    ·cases h
    ·exact h) hK' N _ a { w with drawn:=w.drawn + 1 } inv0 hund
   ⟨fa.size,fa.defers,fun t v ht _=>fa.has t v ht,fun i c _ hd=>(by rw [getD_replicate_false] at hd; cases hd),fun i j c c' _ _ _ _ _ hd=>(by rw [getD_replicate_false] at hd; cases hd),
    ⟨0,by omega,by rw [h0]; exact ka.next (Grow.refl w).drew,fun i _ _=>by rw [getD_replicate_false]; simp⟩⟩
 rwa [show N + (l.toArray.size - N)=l.toArray.size by omega] at this
variable {S:yH} {G:qQK} {K:σ→yH→qQK→Prop} {o:Oper} {l:List Oper} {d i:Nat} {s:σ}
theorem jUV (h:K s S G):DoM P n ops b Wf Hf H0 es K [] i s S G:=h
theorem qKZ {v:Value} (ho:∀ s',OpV P (Wf s') S (Hf s') o v) (hw:uZ ops S o=some true) (hd:o.dst=some d) (hn:Nat.blt d n=true) (he:es.contains i=false) (next:DoM P n ops b Wf Hf H0 es K l (i + 1) s ((d,v) :: S) G) :
  DoM P n ops b Wf Hf H0 es K (o :: l) i s S G :=
 ⟨d,isV v,s,hd,by simpa using hn,(ho s).nosel,stableB_isV b v,.inl ⟨he,rfl,fun s'=>opA_of_opT (ho s') hw⟩,.inl ⟨v,rfl,next⟩⟩
theorem doM_vg {α:Type} {F:α→Value} {x:α} (ho:∀ s',OpV P (Wf s') S (Hf s') o (F x)) (hw:uZ ops S o=some true) (hd:o.dst=some d) (hn:Nat.blt d n=true) (he:es.contains i=false)
  (next:∀ r,r=x→DoM P n ops b Wf Hf H0 es K l (i + 1) s ((d,F r) :: S) G):DoM P n ops b Wf Hf H0 es K (o :: l) i s S G:=qKZ ho hw hd hn he (next x rfl)
theorem stableB_allocT {cs:List Value} {ty:TypeId} (fam:Fam b w1 H0 Wf Hf):jQV b (yUG w1 H0 cs ty):=fun _ w w' ⟨bb,h1,h2,h3,h4⟩ g=>⟨bb,h1,h2,h3,by
 rw [g.block bb (qQV h4) fun e => ?_]
 ·exact h4
 ·rcases fam.here bb e with h | h
  ·omega
  ·obtain ⟨x,hx,he⟩:=List.mem_map.1 h;exact h3.1 x hx he⟩
theorem doM_alloc {t:TypeId} {ty:TypeId} {pos:String} {af:Array Edge} {g:Option (Nat × Bool)} {z:Value} {cs:List Value} (fam:Fam b w1 H0 Wf Hf) (hz:qYU P t z) (hc:jVU z.cells.toList=some cs)
  (hw:uZ ops S ⟨some d,.alloc t,ty,pos,af,g⟩=some true) (hn:Nat.blt d n=true) (hno:look S d=none) (he:es.contains i=false)
  (next:DoM P n ops b Wf Hf H0 es K l (i + 1) s S ((d,true,yUG w1 H0 cs t) :: G)):DoM P n ops b Wf Hf H0 es K (⟨some d,.alloc t,ty,pos,af,g⟩ :: l) i s S G:=by
 have hc':=zVW hc;have hk:jZ S ⟨some d,.alloc t,ty,pos,af,g⟩=true:=by simp [jZ,Op.operands]
 have key:∀ a w,(∀ t' ∈ Oper.looksAt ops ⟨some d,.alloc t,ty,pos,af,g⟩,jZY S G a w t')→Region.wanted ⟨some d,.alloc t,ty,pos,af,g⟩ (yielded ops a.tmps)=true ∧
   (execOp a.eval ⟨some d,.alloc t,ty,pos,af,g⟩).run P w=.ok (.value (.pointer (some ⟨w.heap.size,0,none⟩))) (w.alloc (.cells cs.toArray t)):=fun a w hkn=>by
  have h1:∀ t' ∈ Oper.looksAt ops ⟨some d,.alloc t,ty,pos,af,g⟩,∀ v,look S t'=some v→a.tmps[t']? = some v:=fun t' ht=>(hkn t' ht).1
  refine ⟨zZJ hw h1,?_⟩;rw [zWX hk rfl h1,hc'];simp [execOp,Instr.alloc,zWV hz,newVar,newRow]
 refine ⟨d,yUG w1 H0 cs t,s,rfl,by simpa using hn,rfl,stableB_allocT fam,.inl ⟨he,rfl,fun s' a w _ hkn k => ?_⟩,.inr (.inr ⟨hno,he,fun s' a w _ hkn _=>⟨(key a w hkn).1,_,(key a w hkn).2⟩,?_,next⟩)⟩
 ·rw [(key a w hkn).1,if_pos rfl,(key a w hkn).2];refine ⟨(Grow.refl w).alloc _,w.heap.size,rfl,by rw [← fam.size s']; exact k.grow.size,⟨fun x hx e => ?_,fun x hx hd => ?_⟩,?_⟩
  ·have hmem:x.2.1 ∈ H0.map (·.2.1):=List.mem_map.2 ⟨x,hx,rfl⟩;rw [← fam.adr s'] at hmem;obtain ⟨y,hy,hye⟩:=List.mem_map.1 hmem
   have:=qQV (k.has y hy).2
   omega
  ·rw [← fam.told s'] at hx
   have:=((k.facts x hx).at' _ hd).2.1
   omega
  ·show (w.heap.push _)[w.heap.size]? = _
   simp
 ·rintro u w ⟨bb,h1,h2,h3,h4⟩
  exact ⟨bb,h1,qQV h4,h3.1⟩
theorem doM_callE {α:Type} {F:α→Value} {x:α} {s2:σ} {f:FuncId} {xs:List Operand} {ats:Array TypeId} {ty:TypeId} {pos:String} {af:Array Edge} {g:Option (Nat × Bool)} {vs:List Value} (he:kH P f) (ha:evs S xs=some vs)
  (hc:∀ w,Knows (Wf s) (Hf s) w→Calls P f vs.toArray w (fun e w'=>e=.returned (F x)∧GrowB b w w'∧Knows (Wf s2) (Hf s2) w')) (hw:uZ ops S ⟨some d,.call ⟨.value (.func f),xs.toArray,ats⟩,ty,pos,af,g⟩=some true)
  (hn:Nat.blt d n=true) (hi:es.contains i=true) (next:∀ r,r=x→DoM P n ops b Wf Hf H0 es K l (i + 1) s2 ((d,F r) :: S) G) :
  DoM P n ops b Wf Hf H0 es K (⟨some d,.call ⟨.value (.func f),xs.toArray,ats⟩,ty,pos,af,g⟩ :: l) i s S G:=by
 refine ⟨d,isV (F x),s2,rfl,by simpa using hn,rfl,stableB_isV b _,.inr ⟨hi,fun a w _ hkn k => ?_⟩,.inl ⟨F x,rfl,next x rfl⟩⟩;obtain ⟨e,hk⟩:=zZZ ha;have hknown:jZ S ⟨some d,.call ⟨.value (.func f),xs.toArray,ats⟩,ty,pos,af,g⟩=true:=by
  simp only [jZ,Op.operands,Call.operands];rw [vYY];intro y hy;simp at hy;rcases hy with rfl | hy
  ·rfl
  ·exact hk y hy
 have h1:∀ t' ∈ Oper.looksAt ops ⟨some d,.call ⟨.value (.func f),xs.toArray,ats⟩,ty,pos,af,g⟩,∀ v,look S t'=some v→a.tmps[t']? = some v:=fun t' ht=>(hkn t' ht).1
 refine ⟨zZJ hw h1,?_⟩;rw [zWX hknown rfl h1];have hrun:(execOp (evD S) ⟨some d,.call ⟨.value (.func f),xs.toArray,ats⟩,ty,pos,af,g⟩).run P w=.ok (.enter f vs.toArray) w:=by
  have h2:evD S (.func f)=.func (.func f) #[] #[]:=rfl;have h3:=he vs.toArray w;simp [execOp,resolve,h2,Deferred.ofValue,invoke,e,h3]
 rw [hrun];exact ⟨GrowB.refl _ _,(hc w k).mono fun e w' ⟨h1,h2,h3⟩=>⟨F x,h1,h2,rfl,h3⟩⟩
end
end Go.Sx
namespace Go.Sx
section
variable {P:Program} {n:Nat} {w0:Base} {ops:Array Oper} {Q:Exit→Act→World→Prop} {S:yH} {H:Heap}
variable {d:Option Tmp} {ty:TypeId} {pos:String} {af:Array Edge} {g:Option (Nat × Bool)}
theorem zZV {t:Nat} {x y:Operand} {a i v:Value} (hx:ev S x=some a) (hy:ev S y=some i) (h:∀ w:World,(Instr.index t a i).run P w=.ok v w):OpV P w0 S H ⟨d,.index t x y,ty,pos,af,g⟩ v :=
 kU (by simp [jZ,Op.operands,hx,hy]) rfl fun w _=>by simp [execOp,yY hx,yY hy,h w]
end
end Go.Sx
namespace Go.Sx
open Go.RowKit
def yVU (len size:Nat):List (Nat × Nat):=(List.range len).map fun i=>(i * size,size)
def rowZ (zs:List Value):Nat→List Value
 | 0=>[]
 | k + 1=>zs ++ rowZ zs k
theorem rowZ_get {zs:List Value} (hz:0 < zs.length):∀ (len i:Nat),i < len * zs.length→(rowZ zs len)[i]? = zs[i % zs.length]?
 | 0,i,h=>by omega
 | k + 1,i,h=>by
  simp only [rowZ,List.getElem?_append];split
  ·rename_i hlt;rw [Nat.mod_eq_of_lt hlt]
  ·rename_i hge;rw [Nat.add_mul] at h;rw [rowZ_get hz k (i - zs.length) (by omega)]
   congr 1
   exact (Nat.mod_eq_sub_mod (by omega)).symm
theorem zGG (zs:List Value):∀ len,(rowZ zs len).length=len * zs.length
 | 0=>by simp [rowZ]
 | k + 1=>by simp [rowZ,zGG zs k,Nat.add_mul]; omega
section
variable {P:Program} {n:Nat} {w0:Base} {ops:Array Oper} {Q:Exit→Act→World→Prop} {S:yH} {H:Heap}
theorem zero_row (z:Value) (len:Nat) (hz:0 < z.cells.size):(Array.range (len * z.cells.size)).map (z.cells[· % z.cells.size]!)=(rowZ z.cells.toList len).toArray:=by
 apply Array.ext
 ·simp [zGG]
 ·intro i h1 h2;have hlt:i < len * z.cells.toList.length:=by simpa using h1
  have hg:=rowZ_get (zs:=z.cells.toList) (by simpa using hz) len i hlt;have hm:i % z.cells.size < z.cells.size:=Nat.mod_lt _ hz;simp only [Array.getElem_map,Array.getElem_range,List.getElem_toArray];have hlt':i < (rowZ z.cells.toList len).length:=by rw [zGG]; exact hlt
  rw [vQK hlt'] at hg;have e1:z.cells.toList[i % z.cells.toList.length]? = some z.cells[i % z.cells.size]:=by
   simp [hm]
  rw [e1] at hg;rw [Option.some.inj hg];simp [hm]
theorem run_bslice {t e size len:Nat} {z:Value} {parts:List (Nat × Value)} {cs:List Value} (hs:slcB P t e size=true) (hz:qYU P e z) (hzs:Nat.beq z.cells.size size=true) (h0:Nat.blt 0 size=true) (hl:Nat.ble (len * size) 16777216=true)
  (h1:Nat.blt 0 len=true) (hf:zWK (yVU len size) (rowZ z.cells.toList len) parts=some cs) (w:World) :
  (Instr.buildSlice t len parts.toArray).run P w=.ok (.slice (some ⟨w.heap.size,0,none⟩) len len) (w.alloc (.cells cs.toArray e)):=by
 have hzs':=vQX hzs;subst hzs';have h0':0 < z.cells.size:=by simpa using h0
 have h1':0 < len:=by simpa using h1
 have hl':len * z.cells.size≤16777216:=vZX hl;have hne:¬ len * z.cells.size=0:=by
  intro e;rcases Nat.mul_eq_zero.1 e with h | h <;> omega
 unfold slcB at hs;cases hu:P.underlying t with
 | none=>simp [hu] at hs
 | some ds =>
  cases ds <;> simp [hu] at hs
  rename_i e';obtain ⟨rfl,h2⟩:=hs;cases hi:P.info? e' with
  | none=>simp [hi] at h2
  | some inf =>
   simp [hi] at h2;have hfill:=jUK (place:=fun i=>some (i * z.cells.size,z.cells.size)) (pl:=yVU len z.cells.size) (fun i x hx=>by
    simp only [yVU,vZY,vZW] at hx;obtain ⟨j,hj,rfl⟩:=hx
    have:=(List.getElem?_eq_some_iff.1 hj)
    simp at this;simp [this.2]) parts (rowZ z.cells.toList len) cs hf
   rw [← zero_row z len h0'] at hfill;have hsz:(sizeOf e').run P w=.ok z.cells.size w:=by simp [sizeOf,typeInfo,hi,h2]
   simp only [Instr.buildSlice,Sem.run_bind,run_underlying hu,Result.andThen_ok,hsz,Sem.run_ite];rw [if_neg (by omega)];simp only [Sem.run_pure,Result.andThen_ok,if_neg hne,zWV hz,Sem.run_bind];simp [hfill,newRow,hne,zWV hz]
def RowT (w0:Base) (H:Heap) (cs:List Value) (e:TypeId) (len:Nat):Pred:=fun u w =>
 ∃ b,u=.slice (some ⟨b,0,none⟩) len len∧w0.w.heap.size≤b∧((∀ x ∈ H,x.2.1 ≠ b)∧∀ x ∈ w0.R,¬ x.2.1 b)∧w.heap[b]? = some (.cells cs.toArray e)
variable {d:Nat} {ty:TypeId} {pos:String} {af:Array Edge} {g:Option (Nat × Bool)}
theorem opT_bslice {t e size len:Nat} {z:Value} {parts:List (Nat × Operand)} {vs:List (Nat × Value)} {cs:List Value} (hs:slcB P t e size=true) (hz:qYU P e z) (hzs:Nat.beq z.cells.size size=true) (h0:Nat.blt 0 size=true)
  (hl:Nat.ble (len * size) 16777216=true) (h1:Nat.blt 0 len=true) (hp:evp S parts=some vs) (hf:zWK (yVU len size) (rowZ z.cells.toList len) vs=some cs) :
  OpT P w0 S H ⟨some d,.buildSlice t len parts.toArray,ty,pos,af,g⟩ (RowT w0 H cs e len):=by
 obtain ⟨e1,hk⟩:=jUX hp;refine ⟨?_,rfl,fun w k => ?_⟩
 ·simp only [jZ,Op.operands];rw [vYY];intro x hx;simp at hx;obtain ⟨i,hi⟩:=hx;exact hk _ hi
 ·have:=run_bslice (P:=P) hs hz hzs h0 hl h1 hf w
  have h2:(parts.toArray.map fun (x:Nat × Operand)=>(x.1,evD S x.2))=vs.toArray:=by rw [← e1]; simp
  simp only [execOp];rw [h2];simp only [Sem.run_bind,this,Result.andThen_ok,Sem.run_pure,Yields];refine ⟨(Grow.refl w).alloc _,w.heap.size,rfl,k.grow.size,⟨fun x hx e => ?_,fun x hx hd => ?_⟩,?_⟩
  ·have:=qQV (k.has x hx).2
   omega
  ·have:=((k.facts x hx).at' _ hd).2.1
   omega
  ·show (w.heap.push _)[w.heap.size]? = _
   simp
theorem qHQ {t e size len:Nat} {z:Value} {parts:List (Nat × Operand)} {vs:List (Nat × Value)} {cs:List Value} {l:List Oper} (id:Nat) (hs:slcB P t e size=true) (hz:qYU P e z) (hzs:Nat.beq z.cells.size size=true) (h0:Nat.blt 0 size=true)
  (hl:Nat.ble (len * size) 16777216=true) (h1:Nat.blt 0 len=true) (hp:evp S parts=some vs) (hf:zWK (yVU len size) (rowZ z.cells.toList len) vs=some cs)
  (hw:uZ ops S ⟨some d,.buildSlice t len parts.toArray,ty,pos,af,g⟩=some true) (hn:Nat.blt d n=true)
  (next:∀ b,DoL P n w0 ops Q l ((d,.slice (some ⟨b,0,none⟩) len len) :: S) ((id,b,cs,e) :: H)):DoL P n w0 ops Q (⟨some d,.buildSlice t len parts.toArray,ty,pos,af,g⟩ :: l) S H :=
 doL_t (opT_bslice hs hz hzs h0 hl h1 hp hf) hw rfl hn fun v a w f k ⟨b,hv,hb,⟨hno,hR⟩,hblk⟩=>by
  subst hv;refine next b a w f ⟨k.grow,fun x hx => ?_,?_,fun F hF=>(k.facts F hF).heap fun x hx => ?_,k.apart⟩
  ·rcases List.mem_cons.1 hx with rfl | hx
   ·exact ⟨hb,hblk⟩
   ·exact k.has x hx
  ·rw [List.map_cons,List.nodup_cons];refine ⟨fun hm => ?_,k.nodup⟩;obtain ⟨y,hy,he⟩:=List.mem_map.1 hm;exact hno y hy he
  ·rcases List.mem_cons.1 hx with rfl | hx
   ·exact .inr (hR F hF)
   ·exact .inl ⟨x,hx,rfl⟩
theorem known_call {f:FuncId} {dd:Option Tmp} {xs:List Operand} {ats:Array TypeId} (hk:∀ x ∈ xs,(ev S x).isSome=true):jZ S ⟨dd,.call ⟨.value (.func f),xs.toArray,ats⟩,ty,pos,af,g⟩=true:=by
 simp only [jZ,Op.operands,Call.operands];rw [vYY];intro x hx;simp at hx;rcases hx with rfl | hx
 ·rfl
 ·exact hk x hx
end
end Go.Sx
namespace Go.Sx
open Go.RowKit
structure IntsAt (w:World) (m:Nat) (sl:Value) (L:List Int):Prop where
 len:L.length≤9223372036854775807
 slice:∃ a cap,sl=.slice a L.length cap∧∀ j,j < L.length→∃ b off,a=some ⟨b,off,none⟩∧b < m∧w.cell? ⟨b,off + j,none⟩=some (.int .i64 (L.getD j 0))
def srcC (sl:Value) (L:List Int) (i:Nat):List Value:=[sl,.int .i64 ((min i L.length:Nat):Int)]
theorem srcC_zero (sl:Value) (L:List Int):srcC sl L 0=[sl,.int .i64 0]:=by simp [srcC]
def srcR (L:List Int) (i:Nat) (k:Int):Int:=L.getD i 0 % k
def srcS (L:List Int) (i:Nat) (k:Int):Int:=srcR L i (2 * k + 1) - k
theorem zQW (L:List Int) (i:Nat) {k:Int} (h:0 < k):0≤srcR L i k∧srcR L i k < k:=⟨Int.emod_nonneg _ (by omega),Int.emod_lt_of_pos _ h⟩
theorem srcS_bnd (L:List Int) (i:Nat) {k:Int} (h:0≤k) : -k≤srcS L i k∧srcS L i k≤k:=by
 have:=zQW L i (k:=2 * k + 1) (by omega)
 unfold srcS;omega
theorem uK {L:List Int} {i:Nat} {k r:Int} (e:r=srcR L i k) (h:0 < k):0≤r∧r < k:=e ▸ zQW L i h
theorem zVH {L:List Int} {i:Nat} {k r:Int} (e:r=srcS L i k) (h:0≤k) : -k≤r∧r≤k:=e ▸ srcS_bnd L i h
def srcW (w:World) (b:Nat) (sl:Value) (L:List Int) (i:Nat):World:=w.setRow b (srcC sl L i).toArray
def srcB (w0:Base) (b:Nat) (sl:Value) (L:List Int) (i:Nat):Base:=⟨srcW w0.w b sl L i,w0.R⟩
structure Src (w:World) (b:Nat) (sl:Value) (L:List Int) (i:Nat):Prop where
 blk:∃ ty,w.heap[b]? = some (.cells (srcC sl L i).toArray ty)
 ints:IntsAt w b sl L
theorem Src.lt {w:World} {b:Nat} {sl:Value} {L:List Int} {i:Nat} (h:Src w b sl L i):b < w.heap.size:=by
 obtain ⟨ty,h⟩:=h.blk;exact qQV h
theorem IntsAt.mono {w w':World} {m m':Nat} {sl:Value} {L:List Int} (h:IntsAt w m sl L) (hm:m≤m') (hw:∀ k,k < m→w'.heap[k]? = w.heap[k]?):IntsAt w' m' sl L:=by
 obtain ⟨h1,a,cap,h2,h3⟩:=h;refine ⟨h1,a,cap,h2,fun j hj => ?_⟩;obtain ⟨b,off,e,hb,hc⟩:=h3 j hj;refine ⟨b,off,e,by omega,?_⟩;rw [← hc];exact World.cell?_of_block (w:=w) (hw b hb)
theorem srcW_size (w:World) (b:Nat) (sl:Value) (L:List Int) (i:Nat):(srcW w b sl L i).heap.size=w.heap.size:=by simp [srcW]
theorem Src.w {w:World} {b:Nat} {sl:Value} {L:List Int} {i:Nat} (h:Src w b sl L i) (j:Nat):Src (srcW w b sl L j) b sl L j:=by
 obtain ⟨⟨ty,hb⟩,hi⟩:=h;exact ⟨⟨ty,setRow_heap w b _ _ ty _ hb⟩,hi.mono (Nat.le_refl _) fun k hk=>setRow_other w b k _ (by omega)⟩
theorem Src.grow {w w':World} {b:Nat} {sl:Value} {L:List Int} {i:Nat} (h:Src w b sl L i) (g:Grow w w'):Src w' b sl L i:=by
 have hlt:=h.lt;obtain ⟨⟨ty,hb⟩,hi⟩:=h;exact ⟨⟨ty,by rw [g.block b hlt]; exact hb⟩,hi.mono (Nat.le_refl _) fun k hk=>g.block k (by omega)⟩
theorem setRow_self {w:World} {b:Nat} {cs:Array Value} {ty:TypeId} (h:w.heap[b]? = some (.cells cs ty)):w.setRow b cs=w:=by
 have e:(w.setRow b cs).heap=w.heap:=by
  apply Array.ext_getElem?;intro k;by_cases hk:k=b
  ·subst hk;rw [setRow_heap w k _ cs ty _ h,h]
  ·exact setRow_other w b k cs hk
 show { w with heap:=(w.setRow b cs).heap }=w;rw [e]
theorem Src.self {w:World} {b:Nat} {sl:Value} {L:List Int} {i:Nat} (h:Src w b sl L i):srcW w b sl L i=w:=by
 obtain ⟨⟨ty,hb⟩,_⟩:=h;exact setRow_self hb
def Base.setRow (B:Base) (b:Nat) (cs:Array Value):Base:=⟨B.w.setRow b cs,B.R⟩
theorem zWZ {B:Base} {w':World} {H:Heap} {b:Nat} {c0 cs cs':Array Value} {ty:TypeId} (hb:B.w.heap[b]? = some (.cells c0 ty)) (k:Knows (B.setRow b cs) H w'):Knows (B.setRow b cs') H (w'.setRow b cs'):=by
 have hlt:=qQV hb;have hb1:w'.heap[b]? = some (.cells cs ty):=by
  rw [k.grow.block b (by simpa [Base.setRow] using hlt)];exact setRow_heap B.w b _ _ ty _ hb
 have hsz:=k.grow.size;simp only [Base.setRow,setRow_size] at hsz;refine ⟨⟨k.grow.os,k.grow.tape,k.grow.output,by simpa [Base.setRow] using hsz,fun i hi => ?_⟩,fun x hx => ?_,k.nodup,fun F hF => ?_,k.apart⟩
 ·by_cases e:i=b
  ·subst e;exact (setRow_heap w' i _ cs' ty _ hb1).trans (setRow_heap B.w i _ cs' ty _ hb).symm
  ·refine (setRow_other _ _ _ _ e).trans (Eq.trans ?_ (setRow_other B.w b i cs' e).symm)
   have:=k.grow.block i (by simpa [Base.setRow] using hi)
   exact this.trans (setRow_other B.w b i cs e)
 ·obtain ⟨h1,h2⟩:=k.has x hx;simp only [Base.setRow,setRow_size] at h1 ⊢;refine ⟨h1,?_⟩;rw [setRow_other _ _ _ _ (by omega)];exact h2
 ·obtain ⟨h1,h2,h3⟩:=k.facts F hF;have hbD:∀ i,F.2.1 i→i ≠ b:=fun i hi e=>by
   have:=(h2 i hi).1
   simp only [Base.setRow,setRow_size] at this;omega
  exact ⟨h1,fun i hi=>⟨by have:=(h2 i hi).1; simpa [Base.setRow] using this,by simpa using (h2 i hi).2.1,(h2 i hi).2.2⟩,h1 w' _ (fun i hi=>setRow_other _ _ _ _ (hbD i hi)) h3⟩
section
variable {P:Program} {n:Nat} {w0:Base} {ops:Array Oper} {Q:Exit→Act→World→Prop} {S:yH} {H:Heap}
variable {d:Nat} {ty:TypeId} {pos:String} {af:Array Edge} {g:Option (Nat × Bool)}
theorem qUX {dd:Option Tmp} {x:Operand} {a:Addr} (hx:ev S x=some (.pointer (some a))):OpV P w0 S H ⟨dd,.nilCheck x,ty,pos,af,g⟩ (.pointer (some a)) :=
 kU (by simp [jZ,Op.operands,hx]) rfl fun w _=>by simp [execOp,yY hx]
theorem run_eqB {t:TypeId} {p q:Bool} (hb:P.underlying t=some .bool) (w:World):(Op.equal t (.bool p) (.bool q)).run P w=.ok (p == q) w:=by
 unfold Op.equal;rw [show Op.maxDepth=9999 + 1 from rfl,Op.equalIn];simp [run_underlying hb]
theorem opV_eqlB {dd:Option Tmp} {x y:Operand} {t t':TypeId} {p q:Bool} (hb:P.underlying t=some .bool) (hx:ev S x=some (.bool p)) (hy:ev S y=some (.bool q)):OpV P w0 S H ⟨dd,.binOp .eql t x y t',ty,pos,af,g⟩ (.bool (p == q)) :=
 kU (by simp [jZ,Op.operands,hx,hy]) rfl fun w _=>by simp [execOp,yY hx,yY hy,eqGuard,binOp,run_eqB hb]
theorem base_cell {B:Base} {w':World} {b:Nat} {c0 cs:List Value} {t0:TypeId} (hb:B.w.heap[b]? = some (.cells c0.toArray t0)) (k:Knows (B.setRow b cs.toArray) H w') (off:Nat):w'.cell? ⟨b,off,none⟩=cs[off]?:=by
 have hlt:=qQV hb
 have:w'.heap[b]? = some (.cells cs.toArray t0):=by
  rw [k.grow.block b (by simpa [Base.setRow] using hlt)];exact setRow_heap B.w b _ _ t0 _ hb
 exact zUV this off
theorem qVG {dd:Option Tmp} {t:TypeId} {x:Operand} {B:Base} {b off:Nat} {c0 cs:List Value} {t0:TypeId} {v:Value} (hb:B.w.heap[b]? = some (.cells c0.toArray t0)) (hT:tyB P t false 1=true) (hx:ev S x=some (.pointer (some ⟨b,off,none⟩)))
  (hv:cs[off]? = some v):OpV P (B.setRow b cs.toArray) S H ⟨dd,.load t x,ty,pos,af,g⟩ v :=
 kU (by simp [jZ,Op.operands,hx]) rfl fun w' k=>by
  have:=base_cell hb k off
  simp [execOp,yY hx,Instr.loadAt,Instr.sureAddr,loadVar,zQZ hT,this,hv]
theorem doL_store_base {t:TypeId} {x y:Operand} {B:Base} {b off sz:Nat} {agg:Bool} {c0 cs cs':List Value} {t0:TypeId} {v:Value} {rest:List Oper} (hb:B.w.heap[b]? = some (.cells c0.toArray t0))
  (hT:tyB P t agg sz=true) (hx:ev S x=some (.pointer (some ⟨b,off,none⟩))) (hy:ev S y=some v)
  (hw:uZ ops S ⟨none,.store t x y,ty,pos,af,g⟩=some true) (hz:Nat.beq v.cells.size sz=true) (h1:v.cells.toList.all Value.oneCell'=true)
  (hs:qUJ cs off v.cells.toList=some cs') (next:DoL P n (B.setRow b cs'.toArray) ops Q rest S H) :
  DoL P n (B.setRow b cs.toArray) ops Q (⟨none,.store t x y,ty,pos,af,g⟩ :: rest) S H:=by
 intro a w' f k;unfold wpList;rw [qZU f hw,if_pos rfl];refine .inl ?_;have hlt:=qQV hb;have hb1:w'.heap[b]? = some (.cells cs.toArray t0):=by
  rw [k.grow.block b (by simpa [Base.setRow] using hlt)];exact setRow_heap B.w b _ _ t0 _ hb
 obtain ⟨e,hl⟩:=zXU hs;have hst:=run_storeCells_at P b off t0 v.cells.toList 0 cs.toArray w' hb1 (by simpa using hl) (fun u hu=>List.all_eq_true.1 h1 u hu);have hz':=vQX hz;have hrun:(execOp a.eval ⟨none,.store t x y,ty,pos,af,g⟩).run P w'=.ok .skip (w'.setRow b cs'.toArray):=by
  simp only [Nat.add_zero] at hst;rw [← e] at hst;simp [execOp,f.ev hx,f.ev hy,Instr.storeAt,Instr.sureAddr,storeVar,qWV hT,hz',hst]
 unfold Oper.wp;rw [hrun];exact next _ _ f (zWZ hb k)
variable {α:Type} {F:α→Value} {x:α} {f:FuncId} {xs:List Operand} {ats:Array TypeId} {vs:List Value} {rest:List Oper}
variable {B:Base} {b i0 i j:Nat} {sl:Value} {L:List Int}
theorem yWY {dd:Option Tmp} {w:World} (he:kH P f) (ha:evs S xs=some vs):(execOp (evD S) ⟨dd,.call ⟨.value (.func f),xs.toArray,ats⟩,ty,pos,af,g⟩).run P w=.ok (.enter f vs.toArray) w:=by
 obtain ⟨e,_⟩:=zZZ ha;have h2:evD S (.func f)=.func (.func f) #[] #[]:=rfl;have h3:=he vs.toArray w;simp [execOp,resolve,h2,Deferred.ofValue,invoke,e,h3]
theorem yQW {dd:Option Tmp} (ha:evs S xs=some vs):jZ S ⟨dd,.call ⟨.value (.func f),xs.toArray,ats⟩,ty,pos,af,g⟩=true:=known_call (zZZ ha).2
theorem jK (hs:Src B.w b sl L i0) (he:kH P f) (ha:evs S xs=some vs) (hc:∀ w',Src w' b sl L i→Calls P f vs.toArray w' (Rets (F x) (srcW w' b sl L j)))
  (hw:uZ ops S ⟨some d,.call ⟨.value (.func f),xs.toArray,ats⟩,ty,pos,af,g⟩=some true) (hn:Nat.blt d n=true)
  (next:∀ r,r=x→DoL P n (srcB B b sl L j) ops Q rest ((d,F r) :: S) H):DoL P n (srcB B b sl L i) ops Q (⟨some d,.call ⟨.value (.func f),xs.toArray,ats⟩,ty,pos,af,g⟩ :: rest) S H:=by
 intro a w' fi k;unfold wpList;rw [qZU fi hw,if_pos rfl];refine .inl ?_;unfold Oper.wp;rw [qHV fi (yQW ha) rfl,yWY he ha];simp only [Oper.upon];refine (hc w' ((hs.w i).grow k.grow)).mono fun e w'' ⟨he,hg⟩ => ?_
 subst he;obtain ⟨t0,hb⟩:=hs.blk;exact next x rfl _ _ (fi.put hn _) ((zWZ hb k).next hg)
theorem qGH {w':World} (hI:IntsAt w0.w w0.w.heap.size sl L) (g:Grow w0.w w') {m:Nat} (hm:w0.w.heap.size≤m):IntsAt w' m sl L:=hI.mono hm fun k hk=>g.block k hk
theorem yZX {H':Heap} {t0:TypeId} (id:Nat) (hI:IntsAt w0.w w0.w.heap.size sl L) (hH:qUH H id=some (b,srcC sl L i,t0)) (he:kH P f) (ha:evs S xs=some vs)
  (hc:∀ w',Src w' b sl L i→Calls P f vs.toArray w' (Rets (F x) (srcW w' b sl L j))) (hu:updH H id (srcC sl L j)=some H')
  (hw:uZ ops S ⟨some d,.call ⟨.value (.func f),xs.toArray,ats⟩,ty,pos,af,g⟩=some true) (hn:Nat.blt d n=true)
  (next:∀ r,r=x→DoL P n w0 ops Q rest ((d,F r) :: S) H'):DoL P n w0 ops Q (⟨some d,.call ⟨.value (.func f),xs.toArray,ats⟩,ty,pos,af,g⟩ :: rest) S H:=by
 intro a w' fi k;unfold wpList;rw [qZU fi hw,if_pos rfl];refine .inl ?_;unfold Oper.wp;rw [qHV fi (yQW ha) rfl,yWY he ha];simp only [Oper.upon];obtain ⟨h1,h2⟩:=k.at hH;refine (hc w' ⟨⟨t0,h2⟩,qGH hI k.grow h1⟩).mono fun e w'' ⟨he,hg⟩ => ?_
 subst he;exact next x rfl _ _ (fi.put hn _) ((k.set hH hu).next hg)
def NewT (w:World) (cs:List Value) (t:TypeId):Pred:=fun u w'=>∃ b,u=.pointer (some ⟨b,0,none⟩)∧w.heap.size≤b∧w'.heap[b]? = some (.cells cs.toArray t)
theorem zHY {cs:List Value} {t0:TypeId} (id:Nat) (he:kH P f) (ha:evs S xs=some vs) (hc:∀ w',Knows w0 H w'→Calls P f vs.toArray w' (uZQ (NewT w' cs t0) w'))
  (hw:uZ ops S ⟨some d,.call ⟨.value (.func f),xs.toArray,ats⟩,ty,pos,af,g⟩=some true) (hn:Nat.blt d n=true)
  (next:∀ b,DoL P n w0 ops Q rest ((d,.pointer (some ⟨b,0,none⟩)) :: S) ((id,b,cs,t0) :: H)):DoL P n w0 ops Q (⟨some d,.call ⟨.value (.func f),xs.toArray,ats⟩,ty,pos,af,g⟩ :: rest) S H:=by
 intro a w' fi k;unfold wpList;rw [qZU fi hw,if_pos rfl];refine .inl ?_;unfold Oper.wp;rw [qHV fi (yQW ha) rfl,yWY he ha];simp only [Oper.upon];refine (hc w' k).mono fun e w'' ⟨v,he,hg,bb,hv,hlt,hblk⟩ => ?_
 subst he; subst hv;have k2:=k.next hg;refine next bb _ _ (fi.put hn _) ⟨k2.grow,fun y hy => ?_,?_,fun F hF=>(k2.facts F hF).heap fun y hy => ?_,k.apart⟩
 ·rcases List.mem_cons.1 hy with rfl | hy
  ·exact ⟨Nat.le_trans k.grow.size hlt,hblk⟩
  ·exact k2.has y hy
 ·rw [List.map_cons,List.nodup_cons];refine ⟨fun hm => ?_,k.nodup⟩;obtain ⟨y,hy,hye⟩:=List.mem_map.1 hm
  have:=qQV (k.has y hy).2
  simp only at hye;omega
 ·rcases List.mem_cons.1 hy with rfl | hy
  ·exact .inr fun hd=>by have:=((k.facts F hF).at' _ hd).2.1; simp only at this; omega
  ·exact .inl ⟨y,hy,rfl⟩
theorem yYQ {w:World} {fn:Func} {c:Code} {args:List Value} {R:Ending→World→Prop} (hs:Src w b sl L i) (hf:P.funcs[f]? = some fn) (hb:fn.body=some c) (hn:fn.ntmps=n)
  (hle:Nat.ble args.length n=true) (h:DoC P n (srcB ⟨w,[]⟩ b sl L i) (bodyPost P fn R) c (initS 0 args) []):Calls P f args.toArray w R :=
 jY hf hb hn hle (by unfold srcB at h; rw [hs.self] at h; exact h)
theorem famA (hs:Src B.w b sl L i0) (H:Heap):Fam (· = b) B H (fun i=>srcB B b sl L i) (fun _=>H):=⟨fun s=>srcW_size _ _ _ _ _,fun _=>rfl,fun _=>rfl,fun k hk=>.inl (hk ▸ hs.lt)⟩
theorem doC_srcA {l:List Oper} {id:Nat} (N:Nat) (es:List Nat) (hs:Src B.w b sl L i0) (hm:P.follows .mixedOrders=true) (hB:(jZK l.toArray N && esB l.toArray es && es.all (Nat.blt · N))=true)
  (h:DoM P n l.toArray (· = b) (fun i=>srcB B b sl L i) (fun _=>H) H es (fun s' S' G'=>Tail P n (srcB B b sl L s') l.toArray Q (l.drop N) (fun _=>True) S' H G') (l.take N) 0 i S []) :
  DoC P n (srcB B b sl L i) Q (.region id l.toArray true) S H :=
 doC_drawnM (Wf:=fun i=>srcB B b sl L i) (Hf:=fun _=>H) N es (famA hs H) hm hB h
theorem yZU {l:List Oper} {ix:Nat} {es:List Nat} {G:qQK} {K:Nat→yH→qQK→Prop} (hs:Src B.w b sl L i0) (he:kH P f) (ha:evs S xs=some vs) (hc:∀ w',Src w' b sl L i→Calls P f vs.toArray w' (Rets (F x) (srcW w' b sl L j)))
  (hw:uZ ops S ⟨some d,.call ⟨.value (.func f),xs.toArray,ats⟩,ty,pos,af,g⟩=some true) (hn:Nat.blt d n=true) (hi:es.contains ix=true)
  (next:∀ r,r=x→DoM P n ops (· = b) (fun i=>srcB B b sl L i) (fun _=>H) H es K l (ix + 1) j ((d,F r) :: S) G) :
  DoM P n ops (· = b) (fun i=>srcB B b sl L i) (fun _=>H) H es K (⟨some d,.call ⟨.value (.func f),xs.toArray,ats⟩,ty,pos,af,g⟩ :: l) ix i S G :=
 doM_callE he ha (fun w' k=>(hc w' ((hs.w i).grow k.grow)).mono fun e w'' ⟨he,hg⟩=>by
  obtain ⟨t0,hb⟩:=hs.blk;exact ⟨he,(GrowB.set b w' _).trans (.of hg),(zWZ hb k).next hg⟩) hw hn hi next
def hfB (H:Heap) (id:Nat) (sl:Value) (L:List Int) (i:Nat):Heap:=(updH H id (srcC sl L i)).getD []
theorem updH_some {H:Heap} {id:Nat} {y:Nat × List Value × TypeId} (h:qUH H id=some y) (cs:List Value):∃ H',updH H id cs=some H':=by
 induction H with
 | nil=>cases h
 | cons x H ih =>
  obtain ⟨k,bb,c,t⟩:=x;simp only [qUH] at h;simp only [updH];cases hb:Nat.beq k id with
  | true=>exact ⟨_,rfl⟩
  | false =>
   rw [hb] at h;obtain ⟨H2,h2⟩:=ih h;exact ⟨_,by simp only [h2,zUW]; rfl⟩
theorem updH_self {H:Heap} {id bb:Nat} {cs:List Value} {t:TypeId} (h:qUH H id=some (bb,cs,t)):updH H id cs=some H:=by
 induction H with
 | nil=>cases h
 | cons x H ih =>
  obtain ⟨k,b1,c,t1⟩:=x;simp only [qUH] at h;simp only [updH];cases hb:Nat.beq k id with
  | true =>
   rw [hb] at h;simp at h;obtain ⟨rfl,rfl,rfl⟩:=h;rfl
  | false =>
   rw [hb] at h;simp only [vYG] at h ⊢;rw [ih h];rfl
theorem updH_look {H H':Heap} {id bb:Nat} {cs cs':List Value} {t:TypeId} (h:qUH H id=some (bb,cs,t)) (hu:updH H id cs'=some H'):qUH H' id=some (bb,cs',t):=by
 induction H generalizing H' with
 | nil=>cases h
 | cons x H ih =>
  obtain ⟨k,b1,c,t1⟩:=x;simp only [qUH] at h;simp only [updH] at hu;cases hb:Nat.beq k id with
  | true =>
   rw [hb] at h hu;simp at h hu;obtain ⟨rfl,rfl,rfl⟩:=h;subst hu;simp [qUH,hb]
  | false =>
   rw [hb] at h hu;obtain ⟨H2,h2,rfl⟩:=qQH hu;simp only [qUH,hb];exact ih h h2
theorem updH_updH {H H':Heap} {id:Nat} {cs cs':List Value} (hu:updH H id cs=some H'):updH H' id cs'=updH H id cs':=by
 induction H generalizing H' with
 | nil=>cases hu
 | cons x H ih =>
  obtain ⟨k,b1,c,t1⟩:=x;simp only [updH] at hu;cases hb:Nat.beq k id with
  | true =>
   rw [hb] at hu;simp at hu;subst hu;simp [updH,hb]
  | false =>
   rw [hb] at hu;obtain ⟨H2,h2,rfl⟩:=qQH hu;simp only [updH,hb,vYG,ih h2]
theorem jKH {t0:TypeId} {id:Nat} (hH:qUH H id=some (b,srcC sl L i0,t0)) (k:Nat):updH H id (srcC sl L k)=some (hfB H id sl L k)∧qUH (hfB H id sl L k) id=some (b,srcC sl L k,t0):=by
 obtain ⟨H',h⟩:=updH_some hH (srcC sl L k);have e:hfB H id sl L k=H':=by simp [hfB,h]
 rw [e];exact ⟨h,updH_look hH h⟩
theorem famB {t0:TypeId} {id:Nat} (hH:qUH H id=some (b,srcC sl L i0,t0)):Fam (· = b) w0 H (fun _:Nat=>w0) (hfB H id sl L) :=
 ⟨fun _=>rfl,fun _=>rfl,fun s=>(by
  obtain ⟨b2,cs2,t2,e1,e2,_⟩:=updH_spec (jKH hH s).1;exact e2),fun j hj=>.inr (by
  obtain ⟨k,hk⟩:=zWQ hH;exact List.mem_map.2 ⟨_,hk,hj.symm⟩)⟩
theorem doC_srcB {l:List Oper} {rid:Nat} {t0:TypeId} (id N:Nat) (es:List Nat) (hH:qUH H id=some (b,srcC sl L i,t0)) (hm:P.follows .mixedOrders=true) (hB:(jZK l.toArray N && esB l.toArray es && es.all (Nat.blt · N))=true)
  (h:DoM P n l.toArray (· = b) (fun _=>w0) (hfB H id sl L) H es (fun s' S' G'=>Tail P n w0 l.toArray Q (l.drop N) (fun _=>True) S' (hfB H id sl L s') G') (l.take N) 0 i S []) :
  DoC P n w0 Q (.region rid l.toArray true) S H:=by
 have:=doC_drawnM (Wf:=fun _:Nat=>w0) (Hf:=hfB H id sl L) (id:=rid) N es (famB hH) hm hB h
 have e:hfB H id sl L i=H:=by simp [hfB,updH_self hH]
 rw [e] at this;exact this
theorem zZY {H:Heap} {l:List Oper} {ix:Nat} {es:List Nat} {G:qQK} {K:Nat→yH→qQK→Prop} {t0:TypeId} (id:Nat) (hI:IntsAt w0.w w0.w.heap.size sl L) (hH:qUH H id=some (b,srcC sl L i0,t0)) (he:kH P f) (ha:evs S xs=some vs) (hc:∀ w',Src w' b sl L i→Calls P f vs.toArray w' (Rets (F x) (srcW w' b sl L j)))
  (hw:uZ ops S ⟨some d,.call ⟨.value (.func f),xs.toArray,ats⟩,ty,pos,af,g⟩=some true) (hn:Nat.blt d n=true) (hi:es.contains ix=true)
  (next:∀ r,r=x→DoM P n ops (· = b) (fun _=>w0) (hfB H id sl L) H es K l (ix + 1) j ((d,F r) :: S) G) :
  DoM P n ops (· = b) (fun _=>w0) (hfB H id sl L) H es K (⟨some d,.call ⟨.value (.func f),xs.toArray,ats⟩,ty,pos,af,g⟩ :: l) ix i S G :=
 doM_callE he ha (fun w' k=>by
  obtain ⟨h1,h2⟩:=jKH hH i;obtain ⟨h3,h4⟩:=k.at h2;refine (hc w' ⟨⟨t0,h4⟩,qGH hI k.grow h3⟩).mono fun e w'' ⟨he,hg⟩ => ?_
  have hu:updH (hfB H id sl L i) id (srcC sl L j)=some (hfB H id sl L j):=(updH_updH h1).trans (jKH hH j).1;exact ⟨he,(GrowB.set b w' _).trans (.of hg),(k.set h2 hu).next hg⟩) hw hn hi next
theorem tail_heap {H H':Heap} {G:qQK} {tl:List Oper} {Fw:World→Prop} {id k:Nat} (hu:updH H id (srcC sl L k)=some H') (h:Tail P n w0 ops Q tl Fw S H' G):Tail P n w0 ops Q tl Fw S (hfB H id sl L k) G:=by
 have e:hfB H id sl L k=H':=by simp [hfB,hu]
 rw [e];exact h
end
end Go.Sx
namespace Go.Sx
open Go.RowKit Go.ChangeShapes Go.WideShapes
section
variable {P:Program} {W:World} {H:Type} {enc:TypeId × Value→H}
theorem slice_of {t e:TypeId} {v:Value} (ht:P.underlying t=some (.slice e)) {r:Reach} {base:Nat} (h:Value.okWide P W r base t v):∃ a l c,v=.slice a l c:=by
 simp only [Value.okWide,ht,Cell.okWide] at h;cases v <;> simp [Cell.ok,ht] at h
 exact ⟨_,_,_,rfl⟩
end
end Go.Sx
namespace Go.Sx
open Go.RowKit
section
variable {P:Program} {n:Nat} {w0:Base} {ops:Array Oper} {Q:Exit→Act→World→Prop} {S:yH} {H:Heap}
variable {d:Nat} {ty:TypeId} {pos:String} {af:Array Edge} {g:Option (Nat × Bool)}
theorem opV_makeFunc {dd:Option Tmp} {fn:Fn} {xs ys:List Operand} {vs us:List Value} (h1:evs S xs=some vs) (h2:evs S ys=some us) :
  OpV P w0 S H ⟨dd,.makeFunc fn xs.toArray ys.toArray,ty,pos,af,g⟩ (.func fn vs.toArray us.toArray):=by
 obtain ⟨e1,k1⟩:=zZZ h1;obtain ⟨e2,k2⟩:=zZZ h2;refine kU ?_ rfl fun w _ => ?_
 ·simp only [jZ,Op.operands];rw [vYY];intro x hx;simp at hx;rcases hx with hx | hx
  ·exact k1 x hx
  ·exact k2 x hx
 ·simp [execOp,Instr.makeFunc,e1,e2]
variable {f:FuncId} {xs:List Operand} {ats:Array TypeId} {vs:List Value} {rest:List Oper}
variable {K:yH→qQK→Prop} {G:qQK}
end
end Go.Sx
namespace Go.Sx
open Go.RowKit
abbrev jGZ:=List (Nat × (Nat→Prop) × (World→Prop))
def zVG:jGZ→Nat→Option ((Nat→Prop) × (World→Prop))
 | [],_=>none
 | (k,x) :: R,i=>bif Nat.beq k i then some x else zVG R i
theorem lookR_mem {R:jGZ} {i:Nat} {x:(Nat→Prop) × (World→Prop)} (h:zVG R i=some x):∃ k,(k,x) ∈ R:=by
 induction R with
 | nil=>cases h
 | cons y R ih =>
  obtain ⟨k,y⟩:=y;simp only [zVG] at h;cases hb:Nat.beq k i with
  | true=>rw [hb] at h; simp at h; subst h; exact ⟨k,vZQ⟩
  | false=>rw [hb] at h; simp at h; obtain ⟨k',hk⟩:=ih h; exact ⟨k',vQH _ hk⟩
def updR:jGZ→Nat→(Nat→Prop)→(World→Prop)→Option jGZ
 | [],_,_,_=>none
 | (k,x) :: R,i,D,F=>bif Nat.beq k i then some ((k,D,F) :: R) else zUW (k,x) (updR R i D F)
theorem updR_spec {R R':jGZ} {i:Nat} {D:Nat→Prop} {F:World→Prop} (h:updR R i D F=some R'):∃ R1 R2 k x,R=R1 ++ (k,x) :: R2∧R'=R1 ++ (k,D,F) :: R2∧zVG R i=some x:=by
 induction R generalizing R' with
 | nil=>cases h
 | cons y R ih =>
  obtain ⟨k,y⟩:=y;simp only [updR] at h;cases hb:Nat.beq k i with
  | true=>rw [hb] at h; simp at h; subst h; exact ⟨[],R,k,y,rfl,rfl,by simp [zVG,hb]⟩
  | false =>
   rw [hb] at h;obtain ⟨R2,h2,rfl⟩:=qQH h;obtain ⟨A,B,k',x,e1,e2,e3⟩:=ih h2;exact ⟨(k,y) :: A,B,k',x,by rw [e1]; rfl,by rw [e2]; rfl,by simp [zVG,hb,e3]⟩
def Holds (w0:Base) (F:World→Prop):Prop:=∀ (H:Heap) (w:World),Knows w0 H w→F w
theorem zUK {w0:Base} {id:Nat} {D:Nat→Prop} {F:World→Prop} (h:zVG w0.R id=some (D,F)):Holds w0 F:=fun _ _ k=>by
 obtain ⟨j,hj⟩:=lookR_mem h;exact (k.facts _ hj).holds
theorem Holds.imp {w0:Base} {F G:World→Prop} (h:Holds w0 F) (hi:∀ w,F w→G w):Holds w0 G:=fun H w k=>hi w (h H w k)
def jXX {X:Type} (Φ:X→Prop) (V:X→Value) (F:X→World→Prop) (w:World) (e:Ending) (w':World):Prop:=∃ x,Φ x∧e=.returned (V x)∧Grow w w'∧Told w.heap.size (F x) w'
section
variable {P:Program} {n:Nat} {w0:Base} {ops:Array Oper} {Q:Exit→Act→World→Prop} {S:yH} {H:Heap}
variable {d:Nat} {ty:TypeId} {pos:String} {af:Array Edge} {g:Option (Nat × Bool)}
variable {f:FuncId} {xs:List Operand} {ats:Array TypeId} {vs:List Value} {rest:List Oper} {X:Type} {Φ:X→Prop} {V:X→Value} {F:X→World→Prop}
variable {B:Base} {b i0 i j:Nat} {sl:Value} {L:List Int}
theorem doL_toldB {H':Heap} {t0:TypeId} (id sid:Nat) (hI:IntsAt w0.w w0.w.heap.size sl L) (hH:qUH H sid=some (b,srcC sl L i,t0)) (he:kH P f) (ha:evs S xs=some vs)
  (hc:∀ w',Src w' b sl L i→Calls P f vs.toArray w' (jXX Φ V F (srcW w' b sl L j))) (hu:updH H sid (srcC sl L j)=some H')
  (hw:uZ ops S ⟨some d,.call ⟨.value (.func f),xs.toArray,ats⟩,ty,pos,af,g⟩=some true) (hn:Nat.blt d n=true)
  (next:∀ x D,Φ x→DoL P n ⟨w0.w,(id,D,F x) :: w0.R⟩ ops Q rest ((d,V x) :: S) H'):DoL P n w0 ops Q (⟨some d,.call ⟨.value (.func f),xs.toArray,ats⟩,ty,pos,af,g⟩ :: rest) S H:=by
 intro a w' fi k;unfold wpList;rw [qZU fi hw,if_pos rfl];refine .inl ?_;unfold Oper.wp;rw [qHV fi (yQW ha) rfl,yWY he ha];simp only [Oper.upon];obtain ⟨h1,h2⟩:=k.at hH;refine (hc w' ⟨⟨t0,h2⟩,qGH hI k.grow h1⟩).mono fun e w'' ⟨x,hx,he,hg,D,q1,q2,q3⟩ => ?_
 subst he;exact next x D hx _ _ (fi.put hn _) ((k.set hH hu).tell hg id q1 q2 q3)
def ownD (a:Option Addr):Nat→Prop:=fun k=>∃ ad,a=some ad∧ad.block=k
def OwnF (m:Nat) (e:TypeId) (size:Nat) (a:Option Addr) (cap k:Nat) (ys:List Value):World→Prop:=fun w=>w.ownsRow m e size (.slice a k cap) k ys
theorem yGQ (m:Nat) (e:TypeId) (size:Nat) (a:Option Addr) (cap k:Nat) (ys:List Value):zQU (ownD a) (OwnF m e size a cap k ys):=fun w w' h hF=>by
 obtain ⟨h1,h2⟩:=hF;refine ⟨h1,?_⟩;rcases h2 with h2 | ⟨gg,cp,cur,hv,h3,h4,h5⟩
 ·exact .inl h2
 ·refine .inr ⟨gg,cp,cur,hv,h3,?_,h5⟩;simp only [Value.slice.injEq] at hv;rw [h gg ⟨_,hv.1,rfl⟩];exact h4
theorem jUH {c:Code} (id:Nat) (e:TypeId) (size:Nat) (h:DoC P n ⟨w0.w,(id,ownD none,OwnF 0 e size none 0 0 []) :: w0.R⟩ Q c S H):DoC P n w0 Q c S H:=fun a w f k =>
 h a w f ⟨k.grow,k.has,k.nodup,fun x hx=>by
  rcases List.mem_cons.1 hx with rfl | hx
  ·exact ⟨yGQ _ _ _ _ _ _ _,fun j ⟨_,hj,_⟩=>(by cases hj),World.ownsRow_nil _ _ _ _⟩
  ·exact k.facts x hx,List.Pairwise.cons (fun y _ j ⟨_,hj,_⟩=>by cases hj) k.apart⟩
theorem doC_ownA {c:Code} (id:Nat) (e:TypeId) (size:Nat) (h:DoC P n (srcB ⟨B.w,(id,ownD none,OwnF 0 e size none 0 0 []) :: B.R⟩ b sl L i) Q c S H):DoC P n (srcB B b sl L i) Q c S H:=by
 exact jUH id e size h
def appB (P:Program) (t e size bytes:Nat):Bool :=
 match P.underlying t,P.info? e with
 | some (.slice e'),some i=>e' == e && i.size == size && i.bytes == bytes && Nat.blt 0 size && (match i.zero with | some z=>z.cells.size == size | none=>false)
 | _,_=>false
theorem zGU {w:World} {t e size bytes base:Nat} {ty:TypeId} (hB:appB P t e size bytes=true) {v:Value} {k:Nat} {ys:List Value} (hown:w.ownsRow base e size v k ys)
  {ad:Addr} {m c:Nat} {news:List Value} (hm:0 < m) (hl:news.length=m * size) (hnews:∀ j u,news[j]? = some u→w.cell? (ad.add j)=some u) (h1:∀ u ∈ news,u.oneCell'=true)
  (h63:k + m≤9223372036854775807) (hby:(k + m) * bytes≤140737488355328) (hbase:base≤w.heap.size) :
  ∃ gg cap w',(Builtin.append_ #[t,t] ty #[v,.slice (some ad) m c]).run P w=.ok (.slice (some ⟨gg,0,none⟩) (k + m) cap) w'∧w'.ownsRow base e size (.slice (some ⟨gg,0,none⟩) (k + m) cap) (k + m) (ys ++ news)∧w.grownBy w' v.ownBlock ∧
   (v.ownBlock=some gg ∨ w.heap.size≤gg):=by
 unfold appB at hB;cases hu:P.underlying t with
 | none=>simp [hu] at hB
 | some ds =>
  cases ds <;> simp [hu] at hB
  rename_i e';cases hi:P.info? e with
  | none=>simp [hi] at hB
  | some i =>
   simp [hi] at hB;obtain ⟨⟨⟨⟨rfl,h2⟩,h3⟩,h4⟩,h5⟩:=hB;cases hz:i.zero with
   | none=>simp [hz] at h5
   | some z =>
    simp [hz] at h5;have hmax:maxLen=9223372036854775807:=rfl;obtain ⟨v',w',hr,ho,hg,hiff⟩:=run_append_own (P:=P) w base t ty e' i z size bytes hu hi hz h2 h3 h5 h4 v k ys hown ad m c news hl hnews h1 (by omega) hby hbase;rcases ho.2 with ⟨rfl,h0⟩ | ⟨gg,cap,cur,rfl,hbg,hgg,_⟩
    ·omega
    ·refine ⟨gg,cap,w',hr,ho,hg,?_⟩;rcases Nat.lt_or_ge gg w.heap.size with hlt | hge
     ·left
      -- the block lay there before: it is the slice's own
      subst h2;rcases hown.2 with ⟨rfl,hk0⟩ | ⟨g0,cap0,cur0,rfl,hb0,hg0,hkc,hcm,hcs,htake⟩
      ·exfalso;have hr2:=run_append_nil (P:=P) w t ty e' i z hu hi hz ad m c news hl hnews hm (by omega) (by have:=hby; subst hk0; subst h3; rw [Nat.zero_add] at this; omega);rw [hr] at hr2;simp only [Result.ok.injEq,Value.slice.injEq,vQZ,Addr.mk.injEq] at hr2;omega
      ·by_cases hroom:k + m≤cap0
       ·have hfit:k * i.size + news.length≤cur0.size:=by rw [hl,hcs,← Nat.add_mul]; exact Nat.mul_le_mul_right _ hroom
        have hr2:=run_append_room (P:=P) w t ty e' i hu hi g0 k cap0 cur0 hg0 ad m c news hl hnews h1 hroom hfit;rw [hr] at hr2;simp only [Result.ok.injEq,Value.slice.injEq,vQZ,Addr.mk.injEq] at hr2;simp [Value.ownBlock,hr2.1.1.1]
       ·exfalso;have holds:∀ j u,ys[j]? = some u→w.cell? ((⟨g0,0,none⟩:Addr).add j)=some u:=hown.cells (g:=g0) rfl;subst h3;have hr2:=run_append_grow (P:=P) w t ty e' i z hu hi hz ⟨g0,0,none⟩ k cap0 ys hown.1 holds ad m c news hl hnews (by omega) (by omega) (growslice_fits (by omega) hby);rw [hr] at hr2;simp only [Result.ok.injEq,Value.slice.injEq,vQZ,Addr.mk.injEq] at hr2;omega
     ·exact .inr hge
theorem Knows.append {w w':World} {R':jGZ} {id e size cap cap' k m gg:Nat} {a:Option Addr} {ys news:List Value} (hk:Knows w0 H w) (hR:zVG w0.R id=some (ownD a,OwnF 0 e size a cap k ys))
  (ho:w'.ownsRow 0 e size (.slice (some ⟨gg,0,none⟩) (k + m) cap') (k + m) (ys ++ news)) (hg:w.grownBy w' (Value.slice a k cap).ownBlock)
  (hgg:(Value.slice a k cap).ownBlock=some gg ∨ w.heap.size≤gg) (hu:updR w0.R id (ownD (some ⟨gg,0,none⟩)) (OwnF 0 e size (some ⟨gg,0,none⟩) cap' (k + m) (ys ++ news))=some R'):Knows ⟨w0.w,R'⟩ H w':=by
 obtain ⟨R1,R2,kk,x,e1,e2,e3⟩:=updR_spec hu;rw [hR] at e3;cases e3;have hmem:(kk,ownD a,OwnF 0 e size a cap k ys) ∈ w0.R:=by rw [e1]; simp
 have hfa:=hk.facts _ hmem;have blk:∀ q,(Value.slice a k cap).ownBlock=some q→ownD a q:=fun q hq=>by
  cases a with
  | none=>simp [Value.ownBlock] at hq
  | some ad=>simp [Value.ownBlock] at hq; exact ⟨ad,rfl,hq⟩
 have hlow:∀ q,q < w.heap.size→¬ ownD a q→w'.heap[q]? = w.heap[q]?:=fun q hq hn=>hg.block q hq fun e=>hn (blk q e.symm)
 have hgt:gg < w'.heap.size:=by
  rcases ho.2 with ⟨h,_⟩ | ⟨g',c',cur,h,_,h4,_⟩
  ·simp at h
  ·simp only [Value.slice.injEq,vQZ,Addr.mk.injEq,and_true] at h;rw [h.1];exact qQV h4
 have hgm:w0.w.heap.size≤gg:=by
  rcases hgg with h | h
  ·exact (hfa.at' gg (blk gg h)).1
  ·exact Nat.le_trans hk.grow.size h
 have hap:=hk.apart;rw [e1] at hap;have hap1:=List.pairwise_append.1 hap;have hap2:=List.pairwise_cons.1 hap1.2.1
 -- the new block is none of another fact's
 have others:∀ y ∈ R1 ++ R2,¬ y.2.1 gg:=fun y hy hd=>by
  have hy0:y ∈ w0.R:=by
   rw [e1];rcases List.mem_append.1 hy with h | h
   ·exact List.mem_append_left _ h
   ·exact List.mem_append_right _ (vQH _ h)
  rcases hgg with h | h
  ·rcases List.mem_append.1 hy with h' | h'
   ·exact hap1.2.2 y h' _ vZQ gg hd (blk gg h)
   ·exact hap2.1 y h' gg (blk gg h) hd
  ·have:=((hk.facts y hy0).at' gg hd).2.1
   omega
 have keepF:∀ y ∈ R1 ++ R2,RFact w0.w.heap.size H y.2.1 y.2.2 w':=fun y hy=>by
  have hy0:y ∈ w0.R:=by
   rw [e1];rcases List.mem_append.1 hy with h | h
   ·exact List.mem_append_left _ h
   ·exact List.mem_append_right _ (vQH _ h)
  obtain ⟨q1,q2,q3⟩:=hk.facts y hy0;refine ⟨q1,fun q hq=>⟨(q2 q hq).1,vZK (q2 q hq).2.1 hg.size,(q2 q hq).2.2⟩,q1 w w' (fun q hq=>hlow q (q2 q hq).2.1 fun ho' => ?_) q3⟩;rcases List.mem_append.1 hy with h' | h'
  ·exact hap1.2.2 y h' _ vZQ q hq ho'
  ·exact hap2.1 y h' q ho' hq
 refine ⟨⟨hg.os.trans hk.grow.os,hg.tape.trans hk.grow.tape,hg.output.trans hk.grow.output,Nat.le_trans hk.grow.size hg.size,fun q hq => ?_⟩,fun y hy=>⟨(hk.has y hy).1,?_⟩,hk.nodup,fun y hy => ?_,?_⟩
 ·have hq':q < w0.w.heap.size:=hq;rw [hlow q (vZK hq' hk.grow.size) fun hd=>by have:=(hfa.at' q hd).1; omega];exact hk.grow.block q hq'
 ·rw [hlow _ (qQV (hk.has y hy).2) fun hd=>(hfa.at' _ hd).2.2 y hy rfl];exact (hk.has y hy).2
 ·rw [show (⟨w0.w,R'⟩:Base).R=R' from rfl,e2] at hy;rcases List.mem_append.1 hy with h | h
  ·exact keepF y (List.mem_append_left _ h)
  ·rcases List.mem_cons.1 h with rfl | h
   ·refine ⟨yGQ _ _ _ _ _ _ _,fun q ⟨ad,had,hq⟩ => ?_,ho⟩;simp only [vQZ] at had;subst had;simp only at hq;subst hq;refine ⟨hgm,hgt,fun y hy e => ?_⟩;rcases hgg with h | h
    ·exact (hfa.at' gg (blk gg h)).2.2 y hy e
    ·have:=hk.lt y hy
     omega
   ·exact keepF y (List.mem_append_right _ h)
 ·show R'.Pairwise _;rw [e2];refine List.pairwise_append.2 ⟨hap1.1,List.pairwise_cons.2 ⟨fun y hy q ⟨ad,had,hq⟩ hd => ?_,hap2.2⟩,fun y hy z hz q hyq hzq => ?_⟩
  ·simp only [vQZ] at had;subst had;simp only at hq;subst hq;exact others y (List.mem_append_right _ hy) hd
  ·rcases List.mem_cons.1 hz with rfl | hz
   ·obtain ⟨ad,had,hq⟩:=hzq;simp only [vQZ] at had;subst had;simp only at hq;subst hq;exact others y (List.mem_append_left _ hy) hyq
   ·exact hap1.2.2 y hy z (vQH _ hz) q hyq hzq
theorem append_step {t e size bytes id cap k m b2 c2:Nat} {e2:TypeId} {a:Option Addr} {ys news:List Value} {x y:Operand} {act:Act} {w:World} (hB:appB P t e size bytes=true) (hR:zVG w0.R id=some (ownD a,OwnF 0 e size a cap k ys))
  (hx:ev S x=some (.slice a k cap)) (hy:ev S y=some (.slice (some ⟨b2,0,none⟩) m c2)) (hblk:w.heap[b2]? = some (.cells news.toArray e2)) (hm:Nat.blt 0 m=true) (hl:Nat.beq news.length (m * size)=true) (h1:news.all Value.oneCell'=true)
  (h63:k + m≤9223372036854775807) (hby:(k + m) * bytes≤140737488355328) (fi:Fits n S act) (hk:Knows w0 H w)
  (hw:uZ ops S ⟨some d,.call ⟨.builtin .append,#[x,y],#[t,t]⟩,ty,pos,af,g⟩=some true) (hn:Nat.blt d n=true)
  (next:∀ a' cap' R' act' w',updR w0.R id (ownD a') (OwnF 0 e size a' cap' (k + m) (ys ++ news))=some R'→Fits n ((d,.slice a' (k + m) cap') :: S) act'→Knows ⟨w0.w,R'⟩ H w'→wpList P ops Q rest act' w') :
  wpList P ops Q (⟨some d,.call ⟨.builtin .append,#[x,y],#[t,t]⟩,ty,pos,af,g⟩ :: rest) act w:=by
 obtain ⟨kk,hmem⟩:=lookR_mem hR;have hown:w.ownsRow 0 e size (.slice a k cap) k ys:=(hk.facts _ hmem).holds;have hl':=vQX hl;have hm':0 < m:=by simpa using hm
 obtain ⟨gg,cap',w',hr,ho,hg,hgg⟩:=zGU (P:=P) (ty:=ty) hB hown (ad:=⟨b2,0,none⟩) (c:=c2) hm' hl' (fun j u hu=>by
   rw [qXJ,zUV hblk,Nat.zero_add]; exact hu) (fun u hu=>List.all_eq_true.1 h1 u hu) h63 hby (Nat.zero_le _)
 obtain ⟨R',hR'⟩:∃ R',updR w0.R id (ownD (some ⟨gg,0,none⟩)) (OwnF 0 e size (some ⟨gg,0,none⟩) cap' (k + m) (ys ++ news))=some R':=by
  have:∀ R:jGZ,zVG R id=some (ownD a,OwnF 0 e size a cap k ys)→∃ R',updR R id (ownD (some ⟨gg,0,none⟩)) (OwnF 0 e size (some ⟨gg,0,none⟩) cap' (k + m) (ys ++ news))=some R':=by
   intro R;induction R with
   | nil=>intro h; cases h
   | cons z R ih =>
    obtain ⟨q,z⟩:=z;intro h;simp only [zVG] at h;simp only [updR];cases hb:Nat.beq q id with
    | true=>exact ⟨_,rfl⟩
    | false =>
     rw [hb] at h;obtain ⟨R2,h2⟩:=ih h;exact ⟨_,by simp only [h2,zUW]; rfl⟩
  exact this _ hR
 unfold wpList;rw [qZU fi hw,if_pos rfl];refine .inl ?_;unfold Oper.wp;have hrun:(execOp act.eval ⟨some d,.call ⟨.builtin .append,#[x,y],#[t,t]⟩,ty,pos,af,g⟩).run P w=.ok (.value (.slice (some ⟨gg,0,none⟩) (k + m) cap')) w':=by
  simp [execOp,resolve,invoke,builtin,fi.ev hx,fi.ev hy,hr]
 rw [hrun];exact next _ _ R' _ _ hR' (fi.put hn _) (hk.append hR ho hg hgg hR')
theorem qHZ {t e size bytes id2 cap k m b2 c2:Nat} {e2:TypeId} {a:Option Addr} {ys news:List Value} {x y:Operand} (id:Nat) (hB:appB P t e size bytes=true) (hR:zVG w0.R id=some (ownD a,OwnF 0 e size a cap k ys))
  (hx:ev S x=some (.slice a k cap)) (hy:ev S y=some (.slice (some ⟨b2,0,none⟩) m c2)) (hH:qUH H id2=some (b2,news,e2)) (hm:Nat.blt 0 m=true) (hl:Nat.beq news.length (m * size)=true) (h1:news.all Value.oneCell'=true)
  (h63:k + m≤9223372036854775807) (hby:(k + m) * bytes≤140737488355328)
  (hw:uZ ops S ⟨some d,.call ⟨.builtin .append,#[x,y],#[t,t]⟩,ty,pos,af,g⟩=some true) (hn:Nat.blt d n=true)
  (next:∀ a' cap' R',updR w0.R id (ownD a') (OwnF 0 e size a' cap' (k + m) (ys ++ news))=some R'→DoL P n ⟨w0.w,R'⟩ ops Q rest ((d,.slice a' (k + m) cap') :: S) H) :
  DoL P n w0 ops Q (⟨some d,.call ⟨.builtin .append,#[x,y],#[t,t]⟩,ty,pos,af,g⟩ :: rest) S H:=fun act w fi hk =>
 append_step hB hR hx hy (hk.at hH).2 hm hl h1 h63 hby fi hk hw hn fun a' cap' R' act' w' h2 h3 h4=>next a' cap' R' h2 act' w' h3 h4
def AllIn (S:yH):yH→Prop
 | []=>True
 | (t,v) :: r=>look S t=some v∧AllIn S r
theorem Fits.all {S':yH} {a:Act} (f:Fits n S a) (h:AllIn S S'):Fits n S' a:=by
 refine ⟨f.size,f.defers,fun t v ht=>f.has t v ?_⟩;induction S' with
 | nil=>cases ht
 | cons x S' ih =>
  obtain ⟨k,u⟩:=x;by_cases e:k=t
  ·subst e;rw [qZZ] at ht;cases ht;exact h.1
  ·rw [qYQ _ _ e] at ht;exact ih h.2 ht
def jGY (H:Heap):Heap→Prop
 | []=>True
 | (k,x) :: r=>qUH H k=some x∧jGY H r
theorem lookH_at {H:Heap} {i:Nat} {x:Nat × List Value × TypeId} (h:qUH H i=some x):(i,x) ∈ H:=by
 induction H with
 | nil=>cases h
 | cons y H ih =>
  obtain ⟨k,y⟩:=y;simp only [qUH] at h;cases hb:Nat.beq k i with
  | true =>
   rw [hb] at h; simp at h; subst h;rw [vQX hb];exact vZQ
  | false=>rw [hb] at h; simp at h; exact vQH _ (ih h)
theorem heap_uniq:∀ {H:Heap},(H.map (·.2.1)).Nodup→∀ p ∈ H,∀ q ∈ H,p.2.1=q.2.1→p=q:=by
 intro H;induction H with
 | nil=>intro _ p hp; cases hp
 | cons z H ih =>
  intro nd p hp q hq e;rw [List.map_cons,List.nodup_cons] at nd;rcases List.mem_cons.1 hp with p1 | p1
  ·rcases List.mem_cons.1 hq with q1 | q1
   ·rw [p1,q1]
   ·exact absurd (List.mem_map.2 ⟨q,q1,by rw [← e,p1]⟩) nd.1
  ·rcases List.mem_cons.1 hq with q1 | q1
   ·exact absurd (List.mem_map.2 ⟨p,p1,by rw [e,q1]⟩) nd.1
   ·exact ih nd.2 p p1 q q1 e
def idsB:Heap→Bool
 | []=>true
 | (k,_) :: r => !(r.any fun x=>Nat.beq x.1 k) && idsB r
theorem Knows.all {w:World} {H':Heap} (k:Knows w0 H w) (h:jGY H H') (hp:idsB H'=true):Knows w0 H' w:=by
 have hm:∀ x ∈ H',qUH H x.1=some x.2:=by
  clear hp
  induction H' with
  | nil=>intro x hx; cases hx
  | cons z H' ih =>
   intro x hx;rcases List.mem_cons.1 hx with rfl | hx
   ·exact h.1
   ·exact ih h.2 x hx
 have nd:(H'.map (·.2.1)).Nodup:=by
  clear h
  induction H' with
  | nil=>exact List.nodup_nil
  | cons z H' ih =>
   obtain ⟨kz,z⟩:=z;simp only [idsB,vQJ,Bool.not_eq_true'] at hp;rw [List.map_cons,List.nodup_cons];refine ⟨fun hz => ?_,ih hp.2 fun x hx=>hm x (vQH _ hx)⟩;obtain ⟨y,hy,he⟩:=List.mem_map.1 hz;have h1:=lookH_at (hm _ vZQ);have h2:=lookH_at (hm _ (vQH _ hy));have h3:=heap_uniq k.nodup _ h2 _ h1 he;have h4:y.1=kz:=congrArg Prod.fst h3;have h5:=List.any_eq_false.1 hp.1 y hy;rw [h4] at h5;simp at h5
 refine ⟨k.grow,fun x hx => ?_,nd,fun F hF=>(k.facts F hF).heap fun x hx => ?_,k.apart⟩
 ·obtain ⟨kx,b,cs,t⟩:=x;exact k.at (hm _ hx)
 ·obtain ⟨l,hl⟩:=zWQ (hm x hx);exact .inl ⟨_,hl,rfl⟩
theorem AllIn.app {A C:yH} (h:AllIn S A) (h':AllIn S C):AllIn S (A ++ C):=by
 induction A with
 | nil=>exact h'
 | cons x A ih=>exact ⟨h.1,ih h.2⟩
theorem keepS_all {ks:List Nat} {S':yH} (h:yHW ks S=some S'):AllIn S S':=by
 have hs:=yKW h
 -- each entry of a kept list is looked up as itself
 have own:∀ (ks:List Nat) (S S':yH),yHW ks S=some S'→∀ A C t v,S'=A ++ (t,v) :: C→look S' t=some v:=by
  intro ks S;induction S generalizing ks with
  | nil=>intro S' h A C t v e; simp [yHW] at h; subst h; simp at e
  | cons x S ih =>
   obtain ⟨k,u⟩:=x;intro S' h A C t v e;simp only [yHW] at h;cases hb:ks.any (Nat.beq k) with
   | false=>rw [hb] at h; simp at h; exact ih ks S' h A C t v e
   | true =>
    rw [hb] at h;obtain ⟨S2,h2,rfl⟩:=qQH h;cases A with
    | nil =>
     simp only [List.nil_append,List.cons.injEq,vQY] at e;obtain ⟨⟨rfl,rfl⟩,_⟩:=e;exact qZZ _ _ _
    | cons y A =>
     simp only [List.cons_append,List.cons.injEq] at e;have h3:=ih _ S2 h2 A C t v e.2;have hne:k ≠ t:=fun hk=>by
      have:=(yKW h2 t v h3).2
      rw [List.mem_filter] at this;have h4:=this.2;rw [hk] at h4;simp at h4
     rw [qYQ _ _ hne];exact h3
 have all:∀ C:yH,(∀ A,S'=A ++ C→AllIn S C):=by
  intro C;induction C with
  | nil=>intro _ _; trivial
  | cons x C ih =>
   intro A e;obtain ⟨t,v⟩:=x;exact ⟨(hs t v (own ks S S' h A C t v e)).1,ih (A ++ [(t,v)]) (by rw [e]; simp)⟩
 exact all S' [] rfl
def uJK {α:Type} (n:Nat) (μ:α→Nat) (I:α→Prop) (Wb:α→Base) (St:α→yH) (He:α→Heap) (a:α):Act→World→Prop:=fun act w=>∃ a',I a'∧μ a' < μ a∧Fits n (St a') act∧Knows (Wb a') (He a') w
theorem doC_loop {α:Type} {c:Code} {μ:α→Nat} {I:α→Prop} {Wb:α→Base} {St:α→yH} {He:α→Heap}
  (h:∀ a,I a→DoC P n (Wb a) (Exit.then (uJK n μ I Wb St He a) Q) c (St a) (He a)):∀ a,I a→DoC P n (Wb a) Q (.loop c) (St a) (He a):=by
 have key:∀ (N:Nat) (a:α),I a→μ a < N→∀ act w,Fits n (St a) act→Knows (Wb a) (He a) w→Code.rounds P c Q N act w:=by
  intro N;induction N with
  | zero=>intro a _ hlt; omega
  | succ N ih =>
   intro a ha hlt act w hf hk;rw [rounds_succ];refine wp_mono (h a ha act w hf hk) fun e act' w' hq => ?_
   cases e with
   | normal =>
    obtain ⟨a',h1,h2,h3,h4⟩:=hq;exact ih a' h1 (by omega) act' w' h3 h4
   | _=>exact hq
 exact fun a ha act w hf hk=>wp_loop_rounds (μ a + 1) (key (μ a + 1) a ha (by omega) act w hf hk)
theorem qJV {α:Type} {μ:α→Nat} {I:α→Prop} {Wb:α→Base} {St:α→yH} {He:α→Heap} {a:α} {w1:Base} (a':α) (hI:I a') (hμ:μ a' < μ a) (hb:w1=Wb a') (hS:AllIn S (St a')) (hH:jGY H (He a')) (hid:idsB (He a')=true) :
  qGZ n w1 (Exit.then (uJK n μ I Wb St He a) Q) .normal S H:=fun act w f k=>by
 subst hb;exact ⟨a',hI,hμ,f.all hS,k.all hH hid⟩
theorem doC_sub {c:Code} {S':yH} {H':Heap} (hS:AllIn S S') (hH:jGY H H') (hid:idsB H'=true) (h:DoC P n w0 Q c S' H'):DoC P n w0 Q c S H:=fun a w f k=>h a w (f.all hS) (k.all hH hid)
theorem zKZ {α:Type} {c:Code} {Sf:yH} {Hf:Heap} (ks ids:List Nat) (μ:α→Nat) (I:α→Prop) (Wb:α→Base) (chg:α→yH) (chgH:α→Heap) (a0:α) (hK:yHW ks S=some Sf) (hKH:kZZ ids H=some Hf) (h0:I a0) (hb:w0=Wb a0) (hS:AllIn S (chg a0)) (hH:jGY H (chgH a0 ++ Hf)) (hid:idsB (chgH a0 ++ Hf)=true)
  (round:∀ a,I a→DoC P n (Wb a) (Exit.then (uJK n μ I Wb (fun x=>chg x ++ Sf) (fun x=>chgH x ++ Hf) a) Q) c (chg a ++ Sf) (chgH a ++ Hf)):DoC P n w0 Q (.loop c) S H:=by
 subst hb;exact doC_sub (AllIn.app hS (keepS_all hK)) hH hid (doC_loop round a0 h0)
theorem told_and {m:Nat} {F G:World→Prop} {w:World} (h:Told m F w) (k:Told m G w):Told m (fun w=>F w∧G w) w:=by
 obtain ⟨D,h1,h2,h3⟩:=h;obtain ⟨E,k1,k2,k3⟩:=k;exact ⟨fun q=>D q ∨ E q,fun w w' hq ⟨a,c⟩=>⟨h1 w w' (fun q hd=>hq q (.inl hd)) a,k1 w w' (fun q hd=>hq q (.inr hd)) c⟩,fun q hq=>hq.elim (h2 q) (k2 q),h3,k3⟩
theorem Told.imp {m:Nat} {D:Nat→Prop} {F G:World→Prop} {w:World} (hD:zQU D G) (hb:∀ q,D q→m≤q∧q < w.heap.size) (h:G w):Told m G w:=⟨D,hD,hb,h⟩
end
end Go.Sx
namespace Go.Sx
open Go.RowKit
def qJJ (sz:Nat) (a:Option Addr) (rows:List (List Value)) (w:World):Prop :=
 ∀ j r,rows[j]? = some r→r.length=sz∧∃ b off,a=some ⟨b,off,none⟩∧b < w.heap.size∧∀ k,k < sz→w.cell? ⟨b,off + j * sz + k,none⟩=r[k]?
theorem jGH (sz:Nat) (a:Option Addr) (rows:List (List Value)):zQU (ownD a) (qJJ sz a rows):=fun w w' h hS j r hj=>by
 obtain ⟨h1,b,off,ha,hb,hc⟩:=hS j r hj;have hw:=h b ⟨_,ha,rfl⟩;refine ⟨h1,b,off,ha,?_,fun k hk => ?_⟩
 ·have:w'.heap[b]? = some w.heap[b]:=by rw [hw]; exact vZU hb
  exact qQV this
 ·rw [← hc k hk];exact World.cell?_of_block (w:=w) hw
theorem slc_grow {sz:Nat} {a:Option Addr} {rows:List (List Value)} {w w':World} (h:qJJ sz a rows w) (g:Grow w w'):qJJ sz a rows w':=fun j r hj=>by
 obtain ⟨h1,b,off,ha,hb,hc⟩:=h j r hj;exact ⟨h1,b,off,ha,vZK hb g.size,fun k hk=>by rw [← hc k hk]; exact World.cell?_of_block (w:=w) (g.block b hb)⟩
theorem uJ {w0:Base} {sz:Nat} {a:Option Addr} {rows:List (List Value)} (h:qJJ sz a rows w0.w):Holds w0 (qJJ sz a rows):=fun _ _ k=>slc_grow h k.grow
theorem zVU {sz:Nat}:∀ (rows:List (List Value)),(∀ r ∈ rows,r.length=sz)→∀ j r,rows[j]? = some r→∀ k,k < sz→rows.flatten[j * sz + k]? = r[k]?
 | [],_,j,r,hj,_,_=>by simp at hj
 | q :: rows,hs,0,r,hj,k,hk=>by
  simp at hj;subst hj
  have:=hs q vZQ
  simp only [List.flatten_cons,Nat.zero_mul,Nat.zero_add];rw [List.getElem?_append_left (by omega)]
 | q :: rows,hs,j + 1,r,hj,k,hk=>by
  simp only [List.getElem?_cons_succ] at hj;have hq:=hs q vZQ
  have:=zVU rows (fun r hr=>hs r (vQH _ hr)) j r hj k hk
  simp only [List.flatten_cons];rw [List.getElem?_append_right (by rw [hq,Nat.add_mul]; omega),← this]
  congr 1
  rw [hq,Nat.add_mul];omega
theorem yJQ {m e sz cap:Nat} {a:Option Addr} {rows:List (List Value)} {w:World} (hs:∀ r ∈ rows,r.length=sz) (h:OwnF m e sz a cap rows.length rows.flatten w):qJJ sz a rows w:=fun j r hj=>by
 have hlt:=(List.getElem?_eq_some_iff.1 hj).1;have hr:=hs r (vQG hj);refine ⟨hr,?_⟩;rcases h.2 with ⟨h1,h2⟩ | ⟨gg,cp,cur,hv,hm,hg,hc1,hc2,hcs,htake⟩
 ·omega
 ·simp only [Value.slice.injEq] at hv;refine ⟨gg,0,hv.1,qQV hg,fun k hk => ?_⟩;have hlt2:j * sz + k < rows.length * sz:=by
   have h1:=Nat.mul_le_mul_right sz (show j + 1≤rows.length by omega);rw [Nat.add_mul] at h1;omega
  rw [← zVU rows hs j r hj k hk,← htake,vZV,if_pos hlt2];simp [World.cell?,hg]
def pAt (a:Option Addr) (k:Nat):Value:=match a with
 | some ad=>.pointer (some ⟨ad.block,ad.off + k,none⟩)
 | none=>undef
section
variable {P:Program} {n:Nat} {w0:Base} {ops:Array Oper} {Q:Exit→Act→World→Prop} {S:yH} {H:Heap}
variable {d:Option Tmp} {ty:TypeId} {pos:String} {af:Array Edge} {g:Option (Nat × Bool)}
variable {sz:Nat} {a:Option Addr} {rows:List (List Value)} {r:List Value}
theorem qYK {t e len cap j:Nat} {x y:Operand} {kd:IntKind} {i:Int} (hS:Holds w0 (qJJ sz a rows)) (hA:slcB P t e sz=true) (hx:ev S x=some (.slice a len cap)) (hy:ev S y=some (.int kd i)) (hi:i=(j:Int)) (hj:rows[j]? = some r) (hl:j < len) :
  OpV P w0 S H ⟨d,.indexAddr t x y,ty,pos,af,g⟩ (pAt a (j * sz)) :=
 kU (by simp [jZ,Op.operands,hx,hy]) rfl fun w k=>by
  obtain ⟨_,b,off,rfl,_⟩:=hS H w k j r hj;subst hi;unfold slcB at hA;cases hu:P.underlying t with
  | none=>simp [hu] at hA
  | some ds =>
   cases ds <;> simp [hu] at hA
   rename_i e';obtain ⟨rfl,h2⟩:=hA;cases hinf:P.info? e' with
   | none=>simp [hinf] at h2
   | some inf =>
    simp [hinf] at h2;subst h2;simp [execOp,yY hx,yY hy,Instr.indexAt,asIntOf,run_underlying hu,hl,sizeOf,typeInfo,hinf,qXJ,pAt]
theorem zVQ {s f off' j k:Nat} {x:Operand} (hS:Holds w0 (qJJ sz a rows)) (hj:rows[j]? = some r) (hF:qVJ P s f off'=true) (hx:ev S x=some (pAt a k)) :
  OpV P w0 S H ⟨d,.fieldAddr s x f,ty,pos,af,g⟩ (pAt a (k + off')) :=
 ⟨by simp [jZ,Op.operands,hx],rfl,fun w kn=>by
  obtain ⟨_,b,off,rfl,_⟩:=hS H w kn j r hj
  have:=(qU (P:=P) (w0:=w0) (S:=S) (H:=H) (d:=d) (ty:=ty) (pos:=pos) (af:=af) (g:=g) hF (x:=x) (b:=b) (off:=off + k) hx).run w kn
  rw [Nat.add_assoc] at this;exact this⟩
theorem zWH {t:TypeId} {x:Operand} {v:Value} (j o:Nat) (hS:Holds w0 (qJJ sz a rows)) (hj:rows[j]? = some r) (hT:tyB P t false 1=true) (hx:ev S x=some (pAt a (j * sz + o))) (hv:r[o]? = some v):OpV P w0 S H ⟨d,.load t x,ty,pos,af,g⟩ v :=
 kU (by simp [jZ,Op.operands,hx]) rfl fun w kn=>by
  obtain ⟨hr,b,off,rfl,_,hc⟩:=hS H w kn j r hj;have ho:o < sz:=by rw [← hr]; exact (List.getElem?_eq_some_iff.1 hv).1
  have:=hc o ho
  rw [hv,Nat.add_assoc] at this;simp [execOp,yY hx,pAt,Instr.loadAt,Instr.sureAddr,loadVar,zQZ hT,this]
theorem qGG {t:TypeId} {x:Operand} {vs:List Value} {sz2:Nat} (j o:Nat) (hS:Holds w0 (qJJ sz a rows)) (hj:rows[j]? = some r) (hT:tyB P t true sz2=true) (hx:ev S x=some (pAt a (j * sz + o))) (hv:yVZ r o sz2=some vs):OpV P w0 S H ⟨d,.load t x,ty,pos,af,g⟩ (.agg vs.toArray) :=
 kU (by simp [jZ,Op.operands,hx]) rfl fun w kn=>by
  obtain ⟨hr,b,off,rfl,_,hc⟩:=hS H w kn j r hj;obtain ⟨e,hl⟩:=sliceV_spec hv;have hrun:=qHX (P:=P) (w:=w) (b:=b) (off:=off + (j * sz + o)) (k:=sz2) (vs:=vs) (fun i hi=>by
   have:=hc (o + i) (by omega)
   rw [show off + (j * sz + o) + i=off + j * sz + (o + i) by omega,this,e,vZV,if_pos hi,List.getElem?_drop]) (by rw [e]; simp; omega)
  simp [execOp,yY hx,pAt,Instr.loadAt,Instr.sureAddr,loadVar,zQZ hT,qWV hT,hrun]
variable {X:Type} {Φ:X→Prop} {V:X→Value} {F:X→World→Prop}
end
end Go.Sx
namespace Go.Sx
open Go.RowKit
section
variable {P:Program} {n:Nat} {w0:Base} {ops:Array Oper} {Q:Exit→Act→World→Prop} {S:yH} {H:Heap}
variable {d:Nat} {ty:TypeId} {pos:String} {af:Array Edge} {g:Option (Nat × Bool)}
variable {X:Type} {Φ:X→Prop} {V:X→Value} {F:X→World→Prop}
variable {f:FuncId} {xs:List Operand} {ats:Array TypeId} {vs:List Value} {rest:List Oper} {G:qQK}
variable {σ:Type} {b:Nat→Prop} {w1:Base} {H0:Heap} {Wf:σ→Base} {Hf:σ→Heap} {es:List Nat} {K:σ→yH→qQK→Prop} {ix:Nat} {s s2:σ}
theorem Yields.mono {w:World} {T T':Pred} {r:Result Next} (h:Yields P w T r) (hT:∀ v w',Grow w w'→T v w'→T' v w'):Yields P w T' r:=by
 cases r with
 | ok x w' =>
  cases x <;> simp only [Yields] at h ⊢
  case value v=>exact ⟨h.1,hT v w' h.1 h.2⟩
  case skip=>exact ⟨h.1,hT undef w' h.1 h.2⟩
  case enter ff args=>exact ⟨h.1,h.2.mono fun e w'' ⟨v,h1,h2,h3⟩=>⟨v,h1,h2,hT v w'' (h.1.trans h2) h3⟩⟩
 | halt x w'=>simp only [Yields] at h
theorem stableB_rowT {cs:List Value} {e len:Nat} (fam:Fam b w1 H0 Wf Hf):jQV b (RowT w1 H0 cs e len):=fun u w w' ⟨bb,q1,q2,q3,q4⟩ gr =>
 ⟨bb,q1,q2,q3,by
  rw [gr.block bb (qQV q4) fun hb => ?_]
  ·exact q4
  ·rcases fam.here bb hb with h | h
   ·omega
   ·obtain ⟨y,hy,he⟩:=List.mem_map.1 h;exact q3.1 y hy he⟩
theorem doM_bslice {t e size len:Nat} {z:Value} {parts:List (Nat × Operand)} {vs:List (Nat × Value)} {cs:List Value} (fam:Fam b w1 H0 Wf Hf) (hs:slcB P t e size=true) (hz:qYU P e z) (hzs:Nat.beq z.cells.size size=true) (h0:Nat.blt 0 size=true)
  (hl:Nat.ble (len * size) 16777216=true) (h1:Nat.blt 0 len=true) (hp:evp S parts=some vs) (hf:zWK (yVU len size) (rowZ z.cells.toList len) vs=some cs)
  (hw:uZ ops S ⟨some d,.buildSlice t len parts.toArray,ty,pos,af,g⟩=some true) (hn:Nat.blt d n=true) (hno:look S d=none) (hi:es.contains ix=false)
  (next:DoM P n ops b Wf Hf H0 es K rest (ix + 1) s S ((d,false,RowT w1 H0 cs e len) :: G)):DoM P n ops b Wf Hf H0 es K (⟨some d,.buildSlice t len parts.toArray,ty,pos,af,g⟩ :: rest) ix s S G:=by
 refine ⟨d,RowT w1 H0 cs e len,s,rfl,by simpa using hn,rfl,stableB_rowT fam,.inl ⟨hi,rfl,fun s' a w _ hkn k => ?_⟩,.inr (.inl ⟨hno,next⟩)⟩;have hk1:∀ t' ∈ Oper.looksAt ops ⟨some d,.buildSlice t len parts.toArray,ty,pos,af,g⟩,∀ v',look S t'=some v'→a.tmps[t']? = some v':=fun t' ht'=>(hkn t' ht').1
 have op:=opT_bslice (P:=P) (w0:=Wf s') (H:=Hf s') (d:=d) (ty:=ty) (pos:=pos) (af:=af) (g:=g) hs hz hzs h0 hl h1 hp hf;rw [zZJ hw hk1,if_pos rfl,zWX op.known rfl hk1];refine (op.run w k).mono fun v w' gr ⟨bb,r1,r2,r3,r4⟩=>⟨bb,r1,by rw [← fam.size s']; exact r2,⟨fun y hy e => ?_,fun y hy hd=>r3.2 y (by rw [fam.told s']; exact hy) hd⟩,r4⟩
 have hmm:y.2.1 ∈ H0.map (·.2.1):=List.mem_map.2 ⟨y,hy,rfl⟩;rw [← fam.adr s'] at hmm;obtain ⟨zz,hzz,hze⟩:=List.mem_map.1 hmm;exact r3.1 zz hzz (hze.trans e)
variable {tl:List Oper} {Fw:World→Prop}
theorem tail_row {w1:Base} {H0:Heap} {cs:List Value} {e len:Nat} (h:∀ bb,Tail P n w0 ops Q tl (fun w=>w.heap[bb]? = some (.cells cs.toArray e)) ((d,.slice (some ⟨bb,0,none⟩) len len) :: S) H []) :
  Tail P n w0 ops Q tl Fw S H ((d,false,RowT w1 H0 cs e len) :: G):=fun a w f k hx _ _ hF=>by
 obtain ⟨u,hu,bb,hub,_,_,hblk⟩:=hx _ vZQ;subst hub;exact h bb a w (jQQ f hu) k (fun y hy=>by cases hy) (fun y hy=>by cases hy) (fun y hy=>by cases hy) hblk
theorem tail_append {t e size bytes cap k m bb c2:Nat} {e2:TypeId} {a:Option Addr} {ys news:List Value} {x y:Operand} (id:Nat) (hB:appB P t e size bytes=true) (hR:zVG w0.R id=some (ownD a,OwnF 0 e size a cap k ys))
  (hx:ev S x=some (.slice a k cap)) (hy:ev S y=some (.slice (some ⟨bb,0,none⟩) m c2)) (hm:Nat.blt 0 m=true) (hl:Nat.beq news.length (m * size)=true) (h1:news.all Value.oneCell'=true)
  (h63:k + m≤9223372036854775807) (hby:(k + m) * bytes≤140737488355328)
  (hw:uZ ops S ⟨some d,.call ⟨.builtin .append,#[x,y],#[t,t]⟩,ty,pos,af,g⟩=some true) (hn:Nat.blt d n=true)
  (next:∀ a' cap' R',updR w0.R id (ownD a') (OwnF 0 e size a' cap' (k + m) (ys ++ news))=some R'→DoL P n ⟨w0.w,R'⟩ ops Q tl ((d,.slice a' (k + m) cap') :: S) H) :
  Tail P n w0 ops Q (⟨some d,.call ⟨.builtin .append,#[x,y],#[t,t]⟩,ty,pos,af,g⟩ :: tl) (fun w=>w.heap[bb]? = some (.cells news.toArray e2)) S H []:=fun act w fi hk _ _ _ hblk =>
 append_step hB hR hx hy hblk hm hl h1 h63 hby fi hk hw hn fun a' cap' R' act' w' h2 h3 h4=>next a' cap' R' h2 act' w' h3 h4
variable {B:Base} {sb si:Nat} {sl:Value} {L:List Int}
theorem tail_appendA {t e size bytes cap k m bb c2:Nat} {e2:TypeId} {a:Option Addr} {ys news:List Value} {x y:Operand} (id:Nat) (hB:appB P t e size bytes=true) (hR:zVG B.R id=some (ownD a,OwnF 0 e size a cap k ys))
  (hx:ev S x=some (.slice a k cap)) (hy:ev S y=some (.slice (some ⟨bb,0,none⟩) m c2)) (hm:Nat.blt 0 m=true) (hl:Nat.beq news.length (m * size)=true) (h1:news.all Value.oneCell'=true)
  (h63:k + m≤9223372036854775807) (hby:(k + m) * bytes≤140737488355328)
  (hw:uZ ops S ⟨some d,.call ⟨.builtin .append,#[x,y],#[t,t]⟩,ty,pos,af,g⟩=some true) (hn:Nat.blt d n=true)
  (next:∀ a' cap' R',updR B.R id (ownD a') (OwnF 0 e size a' cap' (k + m) (ys ++ news))=some R'→DoL P n (srcB ⟨B.w,R'⟩ sb sl L si) ops Q tl ((d,.slice a' (k + m) cap') :: S) H) :
  Tail P n (srcB B sb sl L si) ops Q (⟨some d,.call ⟨.builtin .append,#[x,y],#[t,t]⟩,ty,pos,af,g⟩ :: tl) (fun w=>w.heap[bb]? = some (.cells news.toArray e2)) S H [] :=
 tail_append (w0:=srcB B sb sl L si) id hB hR hx hy hm hl h1 h63 hby hw hn next
end
end Go.Sx
namespace Go.Sx
open Go.RowKit
section
variable {P:Program} {n:Nat} {w0:Base} {ops:Array Oper} {Q:Exit→Act→World→Prop} {H:Heap} {S0:yH}
def allB (ops:Array Oper):Bool:=depB ops ops.size && kWZ ops ops.size && backB ops
theorem wpAny_all {cs:List Cert} {l:List Oper} {S':yH} {G':qQK} (hB:allB l.toArray=true) (hlen:cs.length=l.length)
  (hcs:∀ i o c,l.toArray[i]? = some o→cs[i]? = some c→CertOk P n w0 l.toArray H o c∧Stems S0 (cs.take i) c.S c.G)
  (hst:Stems S0 cs S' G') (hK:qGZ n w0 Q .normal S' H) :
  ∀ (f:Nat) (listed:Array Bool) (a:Act) (w:World),listed.size=l.toArray.size→qJX listed l.toArray.size=f→Inv S0 w0 n H cs listed a w →
   wpAny P .any l.toArray Q f listed a w:=by
 simp only [allB,vQJ] at hB;obtain ⟨⟨hdep,hself⟩,hback⟩:=hB;intro f;induction f with
 | zero =>
  intro listed a w hsz hu inv;have hall:=qGU hu;have hdone:∀ i,i < l.length→listed.getD i false=true:=fun i hi=>by
   have h1:=hall i (by simpa using hi)
   have:i < listed.size:=by rw [hsz]; simpa using hi
   simp [this] at h1 ⊢;exact h1
  have hcN:∀ i c,cs[i]? = some c→i < l.length:=fun i c hc=>by have:=(List.getElem?_eq_some_iff.1 hc).1; omega
  have fits:Fits n S' a:=⟨inv.size,inv.defers,fun t v ht=>by
   rcases hst.slots t v ht with ⟨c,hc,hd,hT⟩ | ⟨h0,hno⟩
   ·obtain ⟨i,hi⟩:=List.mem_iff_getElem?.1 hc;obtain ⟨u,hu,hTu⟩:=inv.done i c hi (hdone i (hcN i c hi));rw [hT] at hTu;rw [← hd,hu];exact congrArg some hTu
   ·exact inv.old t v h0 fun i c hi hd=>absurd hd (hno c (vQG hi))⟩
  refine ⟨List.eq_nil_iff_forall_not_mem.2 fun i hi => ?_,hK a w fits inv.knows⟩;obtain ⟨hun,o,ho,_⟩:=mem_ready.1 hi;have h1:=hall i (Array.getElem?_eq_some_iff.1 ho).1;rw [h1] at hun;cases hun
 | succ f ih =>
  intro listed a w hsz hu inv;obtain ⟨i0,hi0,hun0,hbefore⟩:=qHU (listed:=listed) (N:=l.toArray.size) (by omega);have hready:i0 ∈ Region.ready .any l.toArray listed:=by
   refine mem_ready.2 ⟨hun0,l.toArray[i0],vZU hi0,fun e he hb => ?_⟩;have h1:=List.all_eq_true.1 hback i0 (List.mem_range.2 hi0);simp only [vZU hi0] at h1;have h2:=Array.all_eq_true_iff_forall_mem.1 h1 e he;simp only [hb,Bool.not_true,Bool.false_or,decide_eq_true_eq] at h2;have h3:=hbefore e.on h2
   have:e.on < listed.size:=by rw [hsz]; omega
   simp [this] at h3 ⊢;exact h3
  refine ⟨fun h0=>(by rw [h0] at hready; cases hready),fun i hi => ?_⟩;have hiN:i < l.toArray.size:=by
   obtain ⟨_,o,ho,_⟩:=mem_ready.1 hi;exact (Array.getElem?_eq_some_iff.1 ho).1
  have hun:=(mem_ready.1 hi).1;refine wpOp_mono (fun a' w' h => ?_) (step_inv (by simpa using hlen) hdep hself hcs inv hi hiN hsz (Nat.le_refl _))
  have:=zJX hun hiN
  exact ih _ a' w' (by simpa using hsz) (by omega) h
theorem doC_all {S:yH} {l:List Oper} {id:Nat} (hm:P.follows .mixedOrders=true) (hB:allB l.toArray=true)
  (h:DoG P n w0 l.toArray H (fun S' _=>qGZ n w0 Q .normal S' H) l S []):DoC P n w0 Q (.region id l.toArray true) S H:=by
 intro a w fa ka;obtain ⟨cs,hlen,hcs,S',G',hst,hK,hG⟩:=jQZ (S0:=S) l S [] [] ⟨fun t v ht=>.inr ⟨ht,fun c hc=>by cases hc⟩,fun t T ht=>by cases ht⟩ h;refine wp_region_any hm ?_;have hund:qJX (Array.replicate l.toArray.size false) l.toArray.size=l.toArray.size:=by
  have:∀ k,k≤l.toArray.size→qJX (Array.replicate l.toArray.size false) k=k:=by
   intro k;induction k with
   | zero=>intro _; rfl
   | succ k ih =>
    intro hk;have h1:=getD_in (listed:=Array.replicate l.toArray.size false) (i:=k) (by simp; simp at hk; omega) (getD_replicate_false _ _);simp only [qJX,ih (by omega),h1];rfl
  exact this _ (Nat.le_refl _)
 exact wpAny_all (P:=P) (n:=n) (w0:=w0) (H:=H) (S0:=S) (Q:=Q) hB hlen (fun i o c hi hc=>by
   have:=hcs i o c (by simpa using hi) hc
   simpa using this) (by simpa using hst) hK _ _ a { w with drawn:=w.drawn + 1 } (by simp) hund
   ⟨fa.size,fa.defers,fun t v ht _=>fa.has t v ht,fun i c _ hd=>(by rw [getD_replicate_false] at hd; cases hd),fun i j c c' _ _ _ _ _ hd=>(by rw [getD_replicate_false] at hd; cases hd),ka.next (Grow.refl w).drew⟩
theorem doL_false {S:yH} {l:List Oper} (d:Nat) {b:Bool} (hb:look S d=some (.bool b)) (h:b=false) (next:DoL P n w0 ops Q l ((d,.bool false) :: S) H):DoL P n w0 ops Q l S H :=
 fun a w f k=>next a w (jUJ f hb h) k
end
end Go.Sx
namespace Go.Sx
open Go.RowKit
section
variable {P:Program} {n:Nat} {w0:Base} {ops:Array Oper} {Q:Exit→Act→World→Prop} {S:yH} {H:Heap}
variable {d:Nat} {ty:TypeId} {pos:String} {af:Array Edge} {g:Option (Nat × Bool)} {rest:List Oper}
theorem Knows.swap {w w':World} {R':jGZ} {id:Nat} {D D':Nat→Prop} {F F':World→Prop} (hk:Knows w0 H w) (hR:zVG w0.R id=some (D,F)) (hg:GrowB D w w') (hD:∀ q,D' q→D q)
  (hd:zQU D' F') (hF:F' w') (hu:updR w0.R id D' F'=some R'):Knows ⟨w0.w,R'⟩ H w':=by
 obtain ⟨R1,R2,kk,x,e1,e2,e3⟩:=updR_spec hu;rw [hR] at e3;cases e3;have hmem:(kk,D,F) ∈ w0.R:=by rw [e1]; simp
 have hfa:=hk.facts _ hmem;have hap:=hk.apart;rw [e1] at hap;have hap1:=List.pairwise_append.1 hap;have hap2:=List.pairwise_cons.1 hap1.2.1;have other:∀ y ∈ w0.R,(∀ q,y.2.1 q→¬ D q)→RFact w0.w.heap.size H y.2.1 y.2.2 w':=fun y hy hn=>by
  have hy2:=hk.facts y hy;exact ⟨hy2.dep,fun q hq=>⟨(hy2.at' q hq).1,vZK (hy2.at' q hq).2.1 hg.size,(hy2.at' q hq).2.2⟩,hy2.dep w w' (fun q hq=>hg.block q (hy2.at' q hq).2.1 (hn q hq)) hy2.holds⟩
 refine ⟨⟨hg.os.trans hk.grow.os,hg.tape.trans hk.grow.tape,hg.output.trans hk.grow.output,Nat.le_trans hk.grow.size hg.size,fun q hq => ?_⟩,fun y hy => ?_,hk.nodup,fun y hy => ?_,?_⟩
 ·rw [hg.block q (vZK hq hk.grow.size) fun h=>absurd (hfa.at' q h).1 (Nat.not_le_of_lt hq)];exact hk.grow.block q hq
 ·have h1:=hk.has y hy;exact ⟨h1.1,by rw [hg.block _ (qQV h1.2) fun h=>(hfa.at' _ h).2.2 y hy rfl]; exact h1.2⟩
 ·have hy':y ∈ R1 ++ (kk,D',F') :: R2:=by rw [← e2]; exact hy
  rcases List.mem_append.1 hy' with h | h
  ·exact other y (by rw [e1]; exact List.mem_append_left _ h) fun q hq=>hap1.2.2 y h _ vZQ q hq
  ·rcases List.mem_cons.1 h with rfl | h
   ·exact ⟨hd,fun q hq=>⟨(hfa.at' q (hD q hq)).1,vZK (hfa.at' q (hD q hq)).2.1 hg.size,(hfa.at' q (hD q hq)).2.2⟩,hF⟩
   ·exact other y (by rw [e1]; exact List.mem_append_right _ (vQH _ h)) fun q hq hD2=>hap2.1 y h q hD2 hq
 ·show R'.Pairwise _;rw [e2];refine List.pairwise_append.2 ⟨hap1.1,List.pairwise_cons.2 ⟨fun y hy q hq=>hap2.1 y hy q (hD q hq),hap2.2⟩,fun y hy z hz q hq => ?_⟩;rcases List.mem_cons.1 hz with rfl | hz
  ·exact fun h=>hap1.2.2 y hy _ vZQ q hq (hD q h)
  ·exact hap1.2.2 y hy z (vQH _ hz) q hq
theorem run_newObj (w:World) (o:Obj):(newObj o).run P w=.ok w.heap.size (w.alloc o):=rfl
theorem run_getIter {w:World} {b p:Nat} {s:ByteArray} (h:w.heap[b]? = some (.stringIter s p)):(getObj b).run P w=.ok (.stringIter s p) w:=by
 unfold getObj;simp [Sem.run,h]
theorem run_setIter {w:World} {b p:Nat} {s:ByteArray} (o:Obj) (h:w.heap[b]? = some (.stringIter s p)):(setObj b o).run P w=.ok () { w with heap:=w.heap.setIfInBounds b o }:=by
 unfold setObj;simp [Sem.run,h]
theorem setObj_growB {w:World} {b:Nat} {o:Obj}:GrowB (· = b) w { w with heap:=w.heap.setIfInBounds b o } :=
 ⟨rfl,rfl,rfl,by simp,fun k _ hk=>by simp [Array.getElem?_setIfInBounds_ne (Ne.symm hk)]⟩
end
end Go.Sx

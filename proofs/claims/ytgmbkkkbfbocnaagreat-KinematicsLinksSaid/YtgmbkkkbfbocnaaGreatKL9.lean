/- Part 9 of the texts behind the last one: rules and contracts. No condition. -/
import Derived.Test.YtgmbkkkbfbocnaaGreatKL8
open Option renaming bind_eq_some_iff → vQQ
open Option.some renaming injEq → vQZ
open Bool renaming and_eq_true → vQJ
open List renaming getElem?_eq_getElem → vQK, mem_cons_of_mem → vQH, mem_cons_self → vZQ, getElem?_map → vZY, getElem?_take → vZV
open Nat renaming lt_of_lt_of_le → vZK
open Array renaming getElem?_eq_getElem → vZU
namespace Go.Rx
open Go.RowKit Go.Sx
theorem Rel.eqv {E:Env} {n:Nat} {σ τ:St} {a:Act} {w:World} (h:Rel E n σ a w) (he:Eqv σ τ):Rel E n τ a w:=by
 obtain ⟨ρ,F,h⟩:=h;exact ⟨ρ,F,h.size,h.defers,fun t x hx=>h.slots t x (by rw [he.1]; exact hx),⟨fun id e hl=>h.mem.ent id e (by rw [he.2]; exact hl),fun id L hL=>by obtain ⟨e,h1⟩:=h.mem.dom id L hL; exact ⟨e,by rw [← he.2]; exact h1⟩,
  h.mem.apart,h.mem.off,h.mem.fz,h.mem.fz0,h.mem.grow,h.mem.pin⟩⟩
section
variable {C:Cx} {ops:Array Oper}
inductive Runs (C:Cx) (ops:Array Oper):List Done→St→St→Prop
 | nil (σ:St):Runs C ops [] σ σ
 | cons {x:Done} {o:Oper} {l:List Done} {σ τ:St} (ho:ops[x.1]? = some o) (hs:qXG C ops o σ=some x.2) (h:Runs C ops l (σ.apply x.2.1 o.dst) τ):Runs C ops (x :: l) σ τ
theorem Runs.eqv {l:List Done} {σ τ σ':St} (h:Runs C ops l σ τ) (he:Eqv σ σ'):∃ τ',Runs C ops l σ' τ'∧Eqv τ τ':=by
 induction h generalizing σ' with
 | nil σ=>exact ⟨σ',.nil σ',he⟩
 | cons ho hs _ ih =>
  obtain ⟨τ',h1,h2⟩:=ih (he.apply _ _);exact ⟨τ',.cons ho (step_eqv hs he) h1,h2⟩
theorem Runs.append {l l':List Done} {σ τ υ:St} (h:Runs C ops l σ τ) (h':Runs C ops l' τ υ):Runs C ops (l ++ l') σ υ:=by
 induction h with
 | nil σ=>exact h'
 | cons ho hs _ ih=>exact .cons ho hs (ih h')
theorem Runs.split {l l':List Done} {σ υ:St} (h:Runs C ops (l ++ l') σ υ):∃ τ,Runs C ops l σ τ∧Runs C ops l' τ υ:=by
 induction l generalizing σ with
 | nil=>exact ⟨σ,.nil σ,h⟩
 | cons x l ih =>
  cases h with
  | cons ho hs h =>
   obtain ⟨τ,h1,h2⟩:=ih h;exact ⟨τ,.cons ho hs h1,h2⟩
theorem Runs.det {l:List Done} {σ τ τ':St} (h:Runs C ops l σ τ) (h':Runs C ops l σ τ'):τ=τ':=by
 induction h with
 | nil σ=>cases h'; rfl
 | cons ho hs _ ih =>
  cases h' with
  | cons ho' hs' h' =>
   rw [ho] at ho'; cases ho';exact ih h'
def jUG (ops:Array Oper) (x y:Done):Prop:=∃ ox oy,ops[x.1]? = some ox∧ops[y.1]? = some oy∧Indep ops x y ox oy
theorem Runs.right {x:Done} {l:List Done} {σ τ:St} (h:Runs C ops (x :: l) σ τ) (hi:∀ y ∈ l,jUG ops x y):∃ τ',Runs C ops (l ++ [x]) σ τ'∧Eqv τ τ':=by
 induction l generalizing σ τ with
 | nil=>exact ⟨τ,h,Eqv.refl τ⟩
 | cons y l ih =>
  cases h with
  | cons ho hs h =>
   cases h with
   | cons ho2 hs2 h =>
    obtain ⟨ox,oy,h1,h2,ind⟩:=hi y vZQ;rw [ho] at h1; cases h1;rw [ho2] at h2; cases h2;obtain ⟨q1,q2,q3⟩:=swap ind hs hs2;obtain ⟨τ1,h3,h4⟩:=h.eqv q3;obtain ⟨τ2,h5,h6⟩:=ih (.cons ho q2 h3) (fun z hz=>hi z (vQH _ hz));exact ⟨τ2,.cons ho2 q1 h5,h4.trans h6⟩
theorem Runs.part {d:Done→Bool} {l:List Done} {σ τ:St} (h:Runs C ops l σ τ) (hp:l.Pairwise fun x y=>d x=false→d y=true→jUG ops x y) :
  ∃ τ',Runs C ops (l.filter d ++ l.filter (fun x => !d x)) σ τ'∧Eqv τ τ':=by
 induction l generalizing σ τ with
 | nil=>exact ⟨τ,h,Eqv.refl τ⟩
 | cons x l ih =>
  cases h with
  | cons ho hs h =>
   obtain ⟨hx,hl⟩:=List.pairwise_cons.1 hp;obtain ⟨τ1,h1,h2⟩:=ih h hl;cases hd:d x with
   | true =>
    simp only [List.filter_cons,hd,if_true,Bool.not_true,Bool.false_eq_true,if_false,List.cons_append];exact ⟨τ1,.cons ho hs h1,h2⟩
   | false =>
    simp only [List.filter_cons,hd,Bool.not_false,if_true,Bool.false_eq_true,if_false];obtain ⟨υ,h3,h4⟩:=h1.split;obtain ⟨υ',h5,h6⟩:=Runs.right (.cons ho hs h3) (fun y hy=>hx y (List.mem_filter.1 hy).1 hd (List.mem_filter.1 hy).2);obtain ⟨τ2,h7,h8⟩:=h4.eqv h6;refine ⟨τ2,?_,h2.trans h8⟩
    have:=h5.append h7
    simpa using this
def Goes (P:Program) (o:Oper) (a:Act) (w:World) (T:Value→World→Prop):Prop :=
 match (execOp a.eval o).run P w with
 | .ok (.value v) w'=>T v w'
 | .ok .skip w'=>T undef w'
 | .ok (.enter f args) w'=>Calls P f args w' (fun e w''=>∃ v,e=.returned v∧T v w'')
 | _=>False
theorem Goes.wp {P:Program} {o:Oper} {a:Act} {w:World} {T:Value→World→Prop} {K:Act→World→Prop} {Q:Exit→Act→World→Prop} (h:Goes P o a w T) (hK:∀ v w',T v w'→K (a.put o.dst v) w'):o.wp P a w K Q:=by
 unfold Goes at h;unfold Oper.wp;generalize (execOp a.eval o).run P w=r at *;cases r with
 | ok n w' =>
  cases n <;> first | exact h.elim | exact hK _ _ h | skip
  rename_i f args;exact Calls.mono h fun e w'' ⟨v,he,ht⟩=>by subst he; exact hK _ _ ht
 | halt x w'=>exact h.elim
theorem Goes.mono {P:Program} {o:Oper} {a:Act} {w:World} {T T':Value→World→Prop} (h:Goes P o a w T) (hT:∀ v w',T v w'→T' v w'):Goes P o a w T':=by
 unfold Goes at *;generalize (execOp a.eval o).run P w=r at *;cases r with
 | ok n w' =>
  cases n <;> first | exact h.elim | exact hT _ _ h | skip
  exact Calls.mono h fun e w'' ⟨v,he,ht⟩=>⟨v,he,hT _ _ ht⟩
 | halt x w'=>exact h.elim
def GoesD (P:Program) (D:Deferred→Prop) (o:Oper) (a:Act) (w:World) (K:Act→World→Prop):Prop :=
 Goes P o a w (fun v w'=>K (a.put o.dst v) w') ∨ ∃ d,(execOp a.eval o).run P w=.ok (.defer d) w∧D d∧K ({ a with defers:=d :: a.defers }.put o.dst undef) w
theorem GoesD.mono {P:Program} {D:Deferred→Prop} {o:Oper} {a:Act} {w:World} {K K':Act→World→Prop} (h:GoesD P D o a w K) (hK:∀ a w,K a w→K' a w):GoesD P D o a w K':=by
 rcases h with h | ⟨d,h1,h2,h3⟩
 ·exact .inl (h.mono fun v w'=>hK _ _)
 ·exact .inr ⟨d,h1,h2,hK _ _ h3⟩
theorem GoesD.wp {P:Program} {D:Deferred→Prop} {o:Oper} {a:Act} {w:World} {K:Act→World→Prop} {Q:Exit→Act→World→Prop} (h:GoesD P D o a w K):o.wp P a w K Q:=by
 rcases h with h | ⟨d,h1,_,h2⟩
 ·exact h.wp fun v w' ht=>ht
 ·unfold Oper.wp;rw [h1];exact h2
def Sim (P:Program) (E:Env) (C:Cx) (ops:Array Oper):Prop:=∀ (o:Oper) (σ:St) (r:Eff × List RV) (a:Act) (w:World),qXG C ops o σ=some r→Rel E C.n σ a w →
 (if Region.wanted o (yielded ops a.tmps) then GoesD P E.D o a w (fun a' w'=>Rel E C.n (σ.apply r.1 o.dst) a' w') else Rel E C.n (σ.apply r.1 o.dst) (a.put o.dst undef) w)
variable {P:Program} {E:Env} {Q:Exit→Act→World→Prop}
theorem sim_wpOp (hs:Sim P E C ops) {i:Nat} {o:Oper} {σ:St} {r:Eff × List RV} {a:Act} {w:World} (ho:ops[i]? = some o) (h:qXG C ops o σ=some r) (hr:Rel E C.n σ a w) :
  wpOp P ops Q i (fun a' w'=>Rel E C.n (σ.apply r.1 o.dst) a' w') a w:=by
 unfold wpOp;rw [ho]
 have:=hs o σ r a w h hr
 simp only;split
 ·rename_i hw;rw [if_pos hw] at this;exact .inl this.wp
 ·rename_i hw;rw [if_neg hw] at this;exact this
theorem jJJ {l:Array Bool} {i:Nat} (hl:i < l.size):l.getD i true=l.getD i false:=by simp [hl]
theorem waitsT_listed {ops:Array Oper} {listed:Array Bool} (hc:∀ i o,listed.getD i false=true→ops[i]? = some o→∀ e ∈ o.after,Region.binds .any e=true→listed.getD e.on false=true):∀ (n j i:Nat),yJH ops n j i=true→listed.getD j false=true→listed.getD i false=true:=by
 have direct:∀ j i,Region.waitsFor .any ops j i=true→listed.getD j false=true→listed.getD i false=true:=fun j i h hj=>by
  obtain ⟨o',ho',e,he,hb,hon⟩:=Region.waitsFor_spec h
  have:=hc j o' hj ho' e he hb
  rwa [hon] at this
 intro n;induction n with
 | zero=>exact direct
 | succ n ih =>
  intro j i h hj;simp only [yJH,Bool.or_eq_true] at h;rcases h with h | h
  ·exact direct j i h hj
  ·split at h
   ·rename_i o ho;obtain ⟨e,he,hb⟩:=Array.any_eq_true'.1 h;rw [vQJ] at hb;exact ih e.on i hb.2 (hc j o hj ho e he hb.1)
   ·cases h
theorem waitsU_listed {ops:Array Oper} {listed:Array Bool} (hc:∀ i o,listed.getD i false=true→ops[i]? = some o→∀ e ∈ o.after,Region.binds .any e=true→listed.getD e.on false=true) {j i:Nat} (h:yJG ops j i=true) (hj:listed.getD j false=true):listed.getD i false=true:=by
 unfold yJG at h;rw [Bool.or_eq_true] at h;rcases h with h | h
 ·exact waitsT_listed hc 3 _ _ h hj
 ·exact waitsT_listed hc 5 _ _ h hj
theorem region_any {L:List Done} {σ0 τ:St} (hs:Sim P E C ops) (hL:Runs C ops L σ0 τ) (hlen:L.length=ops.size) (hidx:∀ (i:Nat) (x:Done),L[i]? = some x→x.1=i) (hp:zGK ops L=true) (hback:backB ops=true)
  (hK:∀ a w,Rel E C.n τ a w→Q .normal a w) :
  ∀ (f:Nat) (listed:Array Bool) (a:Act) (w:World),listed.size=ops.size→qUY listed ops.size=f →
   (∀ i o,listed.getD i false=true→ops[i]? = some o→∀ e ∈ o.after,Region.binds .any e=true→listed.getD e.on false=true) →
   (∃ υ,Runs C ops (L.filter fun x=>listed.getD x.1 false) σ0 υ∧Rel E C.n υ a w)→wpAny P .any ops Q f listed a w:=by
 have hpw:L.Pairwise fun x y=>yJG ops y.1 x.1=true ∨ jUG ops x y:=by
  have ho:∀ x ∈ L,∃ o,ops[x.1]? = some o:=fun x hx=>by
   obtain ⟨i,hi⟩:=List.mem_iff_getElem?.1 hx;rw [hidx i x hi]
   have:=(List.getElem?_eq_some_iff.1 hi).1
   exact ⟨_,vZU (by omega)⟩
  clear hL hlen hidx
  induction L with
  | nil=>exact List.Pairwise.nil
  | cons x L ih =>
   simp only [zGK,vQJ] at hp;refine List.pairwise_cons.2 ⟨fun y hy => ?_,ih hp.2 fun z hz=>ho z (vQH _ hz)⟩
   have:=List.all_eq_true.1 hp.1 y hy
   rw [Bool.or_eq_true,Bool.or_eq_true] at this;rcases this with h | h | h
   ·exact .inl (by simp only [yJG,yJH,h,Bool.true_or])
   ·obtain ⟨ox,hox⟩:=ho x vZQ;obtain ⟨oy,hoy⟩:=ho y (vQH _ hy);exact .inr ⟨ox,oy,hox,hoy,indepB_spec hox hoy h⟩
   ·exact .inl h
 intro f;induction f with
 | zero =>
  intro listed a w hsz hu hcl ⟨υ,hr,hrel⟩;have hall:=qHZ hu;refine ⟨List.eq_nil_iff_forall_not_mem.2 fun i hi => ?_,hK a w ?_⟩
  ·obtain ⟨hun,o,ho,_⟩:=mem_ready.1 hi;rw [hall i (Array.getElem?_eq_some_iff.1 ho).1] at hun;cases hun
  ·have:L.filter (fun x=>listed.getD x.1 false)=L:=List.filter_eq_self.2 fun x hx=>by
    obtain ⟨i,hi⟩:=List.mem_iff_getElem?.1 hx;have hil:=(List.getElem?_eq_some_iff.1 hi).1;rw [hidx i x hi];have h1:=hall i (by omega)
    rwa [jJJ (by omega)] at h1
   rw [this] at hr;rw [← hr.det hL]; exact hrel
 | succ f ih =>
  intro listed a w hsz hu hcl ⟨υ,hr,hrel⟩;obtain ⟨i0,hi0,hun0,hbefore⟩:=zZU (listed:=listed) (N:=ops.size) (by omega);have hready:i0 ∈ Region.ready .any ops listed:=by
   refine mem_ready.2 ⟨hun0,ops[i0],vZU hi0,fun e he hb => ?_⟩;have h1:=List.all_eq_true.1 hback i0 (List.mem_range.2 hi0);simp only [vZU hi0] at h1;have h2:=Array.all_eq_true_iff_forall_mem.1 h1 e he;simp only [hb,Bool.not_true,Bool.false_or,decide_eq_true_eq] at h2;have h3:=hbefore e.on h2
   rwa [jJJ (by omega)] at h3
  refine ⟨fun h0=>(by rw [h0] at hready; cases hready),fun i hi => ?_⟩;obtain ⟨hun,o,ho,hpre⟩:=mem_ready.1 hi;have hiN:=(Array.getElem?_eq_some_iff.1 ho).1;have hil:i < L.length:=by omega
  have hLi:L[i]? = some L[i]:=vQK hil;generalize hx:L[i]=x at hLi;have hxi:x.1=i:=hidx i x hLi;have hun':listed.getD i false=false:=by rw [← jJJ (by omega)]; exact hun
  have hset:∀ j,(listed.setIfInBounds i true).getD j false=if i=j then true else listed.getD j false:=fun j=>by
   by_cases e:i=j
   ·subst e
    have:i < listed.size:=by omega
    simp [this]
   ·rw [if_neg e,getD_set_ne false e]
  -- the list, parted at i
  have hsplit:L=L.take i ++ x :: L.drop (i + 1):=by
   have:=List.take_append_drop i L
   rw [List.drop_eq_getElem_cons hil,hx] at this;exact this.symm
  have hlow:∀ y ∈ L.take i,y.1 ≠ i:=fun y hy=>by
   obtain ⟨k,hk⟩:=List.mem_iff_getElem?.1 hy;rw [vZV] at hk;split at hk
   ·rw [hidx k y hk]; omega
   ·cases hk
  have hhigh:∀ y ∈ L.drop (i + 1),y.1 ≠ i:=fun y hy=>by
   obtain ⟨k,hk⟩:=List.mem_iff_getElem?.1 hy;rw [List.getElem?_drop] at hk;rw [hidx _ y hk]; omega
  have hcl':∀ j o',(listed.setIfInBounds i true).getD j false=true→ops[j]? = some o'→∀ e ∈ o'.after,Region.binds .any e=true→(listed.setIfInBounds i true).getD e.on false=true:=fun j o' hj ho' e he hb=>by
   rw [hset] at hj ⊢;by_cases e1:i=e.on
   ·rw [if_pos e1]
   ·rw [if_neg e1];by_cases e2:i=j
    ·subst e2; rw [ho] at ho'; cases ho'; exact hpre e he hb
    ·rw [if_neg e2] at hj; exact hcl j o' hj ho' e he hb
  have hcly:∀ y:Done,(listed.setIfInBounds i true).getD y.1 false=true→∀ o',ops[y.1]? = some o'→∀ e ∈ o'.after,Region.binds .any e=true→(listed.setIfInBounds i true).getD e.on false=true:=fun y hy o' ho'=>hcl' y.1 o' hy ho'
  obtain ⟨τ',hp1,_⟩:=Runs.part (d:=fun x=>(listed.setIfInBounds i true).getD x.1 false) hL (hpw.imp fun {u v} h hu hv=>by
   rcases h with h | h
   ·have:=waitsU_listed hcl' h hv
    rw [hu] at this; cases this
   ·exact h)
  obtain ⟨υ',hD',_⟩:=hp1.split
  -- D' is D with i in its place
  have e1:L.filter (fun x=>(listed.setIfInBounds i true).getD x.1 false)=(L.take i).filter (fun x=>listed.getD x.1 false) ++ x :: (L.drop (i + 1)).filter (fun x=>listed.getD x.1 false):=by
   conv=>lhs; rw [hsplit]
   rw [List.filter_append,List.filter_cons];have hxt:(listed.setIfInBounds i true).getD x.1 false=true:=by rw [hset,hxi,if_pos rfl]
   rw [if_pos hxt]
   congr 1
   ·exact List.filter_congr fun y hy=>by rw [hset,if_neg (Ne.symm (hlow y hy))]
   ·congr 1
    exact List.filter_congr fun y hy=>by rw [hset,if_neg (Ne.symm (hhigh y hy))]
  have e2:L.filter (fun x=>listed.getD x.1 false)=(L.take i).filter (fun x=>listed.getD x.1 false) ++ (L.drop (i + 1)).filter (fun x=>listed.getD x.1 false):=by
   conv=>lhs; rw [hsplit]
   rw [List.filter_append,List.filter_cons];rw [if_neg (by rw [hxi,hun']; simp)]
  rw [e1] at hD';obtain ⟨α,hA,hB⟩:=hD'.split;have hpair:∀ y ∈ L.drop (i + 1),yJG ops y.1 x.1=true ∨ jUG ops x y:=by
   rw [hsplit] at hpw;exact (List.pairwise_cons.1 (List.pairwise_append.1 hpw).2.1).1
  obtain ⟨υ2,hB2,hev⟩:=Runs.right hB (fun y hy=>by
   obtain ⟨hy1,hy2⟩:=List.mem_filter.1 hy;rcases hpair y hy1 with h | h
   ·have:=waitsU_listed hcl h hy2
    rw [hxi,hun'] at this; cases this
   ·exact h)
  obtain ⟨β,hB3,hB4⟩:=hB2.split;have hυ:υ=β:=by
   rw [e2] at hr;exact hr.det (hA.append hB3)
  subst hυ;cases hB4 with
  | cons ho2 hs2 hn =>
   rw [hxi,ho] at ho2;cases ho2;cases hn;refine wpOp_mono (fun a' w' h => ?_) (sim_wpOp hs ho hs2 hrel)
   have:=zXV hun hiN
   refine ih _ a' w' (by simpa using hsz) (by omega) hcl' ⟨υ',?_,h.eqv hev.symm⟩;rw [e1]; exact hA.append hB
theorem runDraw_spec {K:St→Option (Ret × Mem)} {r:Ret × Mem}:∀ (l:List Oper) (i:Nat) (acc:List Done) (σ:St),qWK C ops i l acc K σ=some r→(∀ j o,l[j]? = some o→ops[i + j]? = some o) →
  ∃ L τ,Runs C ops L σ τ∧L.length=l.length∧(∀ (j:Nat) (x:Done),L[j]? = some x→x.1=i + j)∧zGK ops (acc.reverse ++ L)=true∧backB ops=true∧K τ=some r
 | [],i,acc,σ,h,_=>by
  simp only [qWK] at h;cases hb:(zGK ops acc.reverse && backB ops) with
  | false=>rw [hb] at h; simp at h
  | true =>
   rw [hb] at h;rw [vQJ] at hb;exact ⟨[],σ,.nil σ,rfl,fun j x hx=>by simp at hx,by simpa using hb.1,hb.2,h⟩
 | o :: l,i,acc,σ,h,ho=>by
  simp only [qWK,vQQ] at h;obtain ⟨x,hx,h⟩:=h;obtain ⟨L,τ,h1,h2,h3,h4,h5,h6⟩:=runDraw_spec l (i + 1) _ _ h (fun j o' hj=>by
   have:=ho (j + 1) o' (by simpa using hj)
   rw [show i + 1 + j=i + (j + 1) by omega]; exact this)
  refine ⟨(i,x) :: L,τ,.cons (by simpa using ho 0 o rfl) hx h1,by simp [h2],fun j y hy => ?_,by simpa using h4,h5,h6⟩;cases j with
  | zero=>simp at hy; subst hy; rfl
  | succ j=>simp at hy; rw [h3 j y hy]; omega
theorem wp_draw {id:Nat} {K:St→Option (Ret × Mem)} {r:Ret × Mem} {σ:St} {a:Act} {w:World} (hm:P.follows .mixedOrders=true) (hs:Sim P E C ops) (h:qWK C ops 0 ops.toList [] K σ=some r) (hr:Rel E C.n σ a w)
  (hd:∀ {σ a w},Rel E C.n σ a w→Rel E C.n σ a { w with drawn:=w.drawn + 1 }) (hK:∀ τ a w,K τ=some r→Rel E C.n τ a w→Q .normal a w):(Code.region id ops true).wp P Q a w:=by
 obtain ⟨L,τ,h1,h2,h3,h4,h5,h6⟩:=runDraw_spec ops.toList 0 [] σ h (fun j o hj=>by simpa using hj);refine wp_region_any hm (region_any hs h1 (by simpa using h2) (fun i x hx=>by simpa using h3 i x hx) (by simpa using h4) h5 (fun a w=>hK τ a w h6) ops.size _ a _ (by simp) ?_ (fun i o hi => ?_) ⟨σ,?_,hd hr⟩)
 ·have:∀ N,N≤ops.size→qUY (Array.replicate ops.size false) N=N:=by
   intro N;induction N with
   | zero=>intro _; rfl
   | succ N ih=>intro hN; simp only [qUY]; rw [ih (by omega)]; simp [show N < ops.size by omega]
  exact this _ (Nat.le_refl _)
 ·rcases Nat.lt_or_ge i ops.size with hl | hl <;> simp [hl] at hi
 ·have:L.filter (fun x=>(Array.replicate ops.size false).getD x.1 false)=[]:=List.filter_eq_nil_iff.2 fun x hx=>by
   rcases Nat.lt_or_ge x.1 ops.size with hl | hl <;> simp [hl]
  rw [this]; exact .nil σ
theorem jQK {K:St→Option (Ret × Mem)} {r:Ret × Mem} (hs:Sim P E C ops) (hK:∀ τ a w,K τ=some r→Rel E C.n τ a w→Q .normal a w):∀ (l:List Oper) (σ:St) (a:Act) (w:World),zGZ C ops l K σ=some r→Rel E C.n σ a w→wpList P ops Q l a w
 | [],σ,a,w,h,hr=>hK σ a w h hr
 | o :: l,σ,a,w,h,hr=>by
  simp only [zGZ,vQQ] at h;obtain ⟨x,hx,h⟩:=h
  have:=hs o σ x a w hx hr
  unfold wpList;split
  ·rename_i hw;rw [if_pos hw] at this;exact .inl (this.mono fun a' w' ht=>jQK hs hK l _ _ _ h ht).wp
  ·rename_i hw;rw [if_neg hw] at this;exact jQK hs hK l _ _ _ h this
end
end Go.Rx
namespace Go.Sx
open Go.RowKit
section
variable {P:Program} {w0:Base} {S:yZ} {H:Heap} {ty:TypeId} {pos:String} {af:Array Edge} {g:Option (Nat × Bool)}
theorem opV_eqlS {dd:Option Tmp} {x y:Operand} {t t':TypeId} {p q:ByteArray} (hb:P.underlying t=some .string) (hx:ev S x=some (.string p)) (hy:ev S y=some (.string q)):OpV P w0 S H ⟨dd,.binOp .eql t x y t',ty,pos,af,g⟩ (.bool (p.toList == q.toList)) :=
 jJ (by simp [yK,Op.operands,hx,hy]) rfl fun w _=>by simp [execOp,zG hx,zG hy,eqGuard,binOp,Op.stringOp]
end
end Go.Sx
namespace Go.Rx
open Go.RowKit Go.Sx
def Harm (P:Program) (d:Deferred):Prop:=∃ f cap,d.target=.fn (.func f) cap∧kU P f∧∀ (args:Array Value) (w:World),CallsD P f args .returning w fun e u w'=>(∃ v,e=.returned v)∧u=.returning∧w'=w
theorem harm_leaves {P:Program} {fn:Func} {tmps:Array Value} {R:Ending→World→Prop} {v:Value} {w:World} (hv:(results fn tmps).run P w=.ok v w) (hR:R (.returned v) w):∀ (ds:List Deferred),(∀ d ∈ ds,Harm P d)→Leaves P fn tmps R ds .returning w
 | [],_=>⟨v,hv,hR⟩
 | d :: ds,h=>by
  obtain ⟨f,cap,htar,hent,hc⟩:=h d vZQ;refine ⟨by simp,.func f,cap,f,d.args ++ cap,htar,by rw [htar]; exact hent _ _,CallsD.mono (hc (d.args ++ cap) w) ?_⟩
  rintro e u' w' ⟨⟨x,rfl⟩,rfl,rfl⟩
  exact harm_leaves hv hR ds fun d hd=>h d (vQH _ hd)
structure TabOk (P:Program) (T:Tab):Prop where
 sz:∀ t b k,T.sz t=some (b,k)→tyB P t b k=true∧(b=false→k=1)
 zr:∀ t ps,T.zr t=some ps→∃ z,qKZ P t z∧Al (fun p v=>(∀ F w,RP F w p v)∧v.oneCell'=true) ps z.cells.toList
 zh:∀ t hs,T.zh t=some hs→∃ z,qKZ P t z∧Al (fun x v=>(∀ ρ F w,RH ρ F w x v)∧v.oneCell'=true) hs z.cells.toList
 fd:∀ t f o,T.fd t f=some o→zJW P t f o=true
 fx:∀ t f o b k,T.fx t f=some (o,b,k)→∃ fields fld,P.underlying t=some (.struct fields)∧fields[f]? = some fld∧fld.offset=o∧tyB P fld.type b k=true∧(b=false→k=1)
 ar:∀ t n k b,T.ar t=some (n,k,b)→arrB P t n k=true∧∃ e,P.underlying t=some (.array n e)∧tyB P e b k=true∧(b=false→k=1)
 sl:∀ t e k,T.sl t=some (e,k)→slcB P t e k=true∧0 < k∧k≤1000∧∃ bytes,appB P t e k bytes=true∧bytes≤100000∧T.bd e * bytes≤140737488355328∧T.bd e≤8796093022208
 ly:∀ t pl,T.ly t=some pl→∃ z,qUX P t=some (z,pl)∧∀ ps,T.zr t=some ps→Al (fun p v=>(∀ F w,RP F w p v)∧v.oneCell'=true) ps z
 ik:∀ t k,T.ik t=some k→P.underlying t=some (.int k)
 str:∀ t,T.str t=true→P.underlying t=some .string
 bo:∀ t,T.bo t=true→P.underlying t=some .bool
 eqK:∀ t ks,T.eqK t=some ks→aggB P t=true∧∀ vs:List Value,(∃ ps F w,zJX ks ps=true∧Al (RP F w) ps vs)→qZU P 12 t vs=true
 dd:∀ f,T.dd f=true→kU P f∧∀ (args:Array Value) (w:World),CallsD P f args .returning w fun e u w'=>(∃ v,e=.returned v)∧u=.returning∧w'=w
 fn:∀ f fi,T.fn f=some fi→kU P f∧∃ fn,P.funcs[f]? = some fn∧fn.body=some fi.body∧fn.ntmps=fi.ntmps∧fn.results=fi.results.toArray
def actS (a:Act):yZ:=Sx.initS 0 a.tmps.toList
theorem look_init {vs:List Value} {k t:Nat} {v:Value} (h:vs[t]? = some v):Sx.look (Sx.initS k vs) (k + t)=some v:=by
 induction vs generalizing k t with
 | nil=>simp at h
 | cons u vs ih =>
  cases t with
  | zero=>simp at h; subst h; exact uJ _ _ _
  | succ t =>
   simp at h;simp only [Sx.initS];rw [qQZ _ _ (by omega),show k + (t + 1)=(k + 1) + t by omega];exact ih h
theorem fits_act {n:Nat} {a:Act} (hs:a.tmps.size=n):Fits n (actS a) { a with defers:=[] }:=⟨hs,rfl,fun t v h=>by
 obtain ⟨_,h2⟩:=look_initS h
 simpa using h2⟩
theorem ev_act {a:Act} {t:Nat} {v:Value} (h:a.tmps[t]? = some v):ev (actS a) (.tmp t)=some v:=by
 have:=look_init (vs:=a.tmps.toList) (k:=0) (t:=t) (v:=v) (by simpa using h)
 rw [Nat.zero_add] at this;exact this
section
variable {P:Program} {E:Env} {n:Nat} {ρ:Own} {F:Nat→Prop} {σ:St} {a:Act} {w:World}
theorem jJY (hs:a.tmps.size=n) {o:Oper} {v:Value} (h:OpV P ⟨w,[]⟩ (actS a) [] o v):Goes P o a w (fun u w'=>u=v∧Grow w w'):=by
 have hy:=h.run w (Knows.nil (Grow.refl w));unfold Goes;rw [show a.eval=({ a with defers:=[] }:Act).eval from rfl,zXZ (fits_act hs) h.known h.nosel];generalize (execOp (evD (actS a)) o).run P w=r at *;cases r with
 | ok x w' =>
  cases x <;> first | exact hy.elim | exact ⟨hy.2,hy.1⟩ | skip
  exact Calls.mono hy.2 fun e w'' ⟨v,he,hg,ht⟩=>⟨v,he,ht,hy.1.trans hg⟩
 | halt x w'=>exact hy.elim
theorem zYG {W:Nat→Prop} {w0 w w':World} (h:GrowB W w0 w) (g:Grow w w'):GrowB W w0 w':=h.trans (GrowB.of g)
theorem Rel'.val (h:Rel' E n ρ F σ a w) {F':Nat→Prop} {w':World} (g:Grow w w') (hF:∀ k,F k→F' k) (hF':∀ k,F' k→F k ∨ (w.heap.size≤k∧k < w'.heap.size)) {x:HV} {v:Value} (hx:RH ρ F' w' x v) {dst:Option Nat} (hd:dstB n dst=true) :
  Rel' E n ρ F' (σ.apply (.val x) dst) (a.put dst v) w':=by
 have hlt:∀ k,F k→k < w.heap.size:=fun k hk=>(h.mem.fz k hk).1
 refine h.apply (.val x) dst v (fun d e=>by subst e; simpa [dstB] using hd) ⟨fun id b h=>h,fun id L h _=>h,fun id rows a c k sz _ hs=>by simp [Eff.val,kK] at hs,fun k hk=>⟨hF k hk,g.block k (hlt k hk)⟩⟩ hx
  (fun id L b _ hL hb=>g.block b (h.mem.off id L b hL hb).2.1) (fun _ _=>rfl) (fun _ _=>rfl) (fun id x hu=>by simp [Eff.val,kZ] at hu) h.mem.apart
  (fun id L b hL hb=>⟨fun hf => ?_,vZK (h.mem.off id L b hL hb).2.1 g.size,(h.mem.off id L b hL hb).2.2⟩)
  (fun k hk => ?_) (zYG h.mem.grow g)
 ·have:=h.mem.off id L b hL hb
  rcases hF' b hf with h1 | h1
  ·exact this.1 h1
  ·omega
 ·rcases hF' k hk with h1 | h1
  ·exact ⟨vZK (hlt k h1) g.size,(h.mem.fz k h1).2⟩
  ·exact ⟨h1.2,.inr (.inl (Nat.le_trans h.mem.grow.size h1.1))⟩
theorem jY (h:Rel' E n ρ F σ a w) {o:Oper} {x:HV} {v:Value} (hop:OpV P ⟨w,[]⟩ (actS a) [] o v) (hx:RH ρ F w x v) (hd:dstB n o.dst=true):Goes P o a w (fun u w'=>Rel E n (σ.apply (.val x) o.dst) (a.put o.dst u) w') :=
 (jJY h.size hop).mono fun u w' ⟨hu,g⟩=>by
  subst hu;exact ⟨ρ,F,h.val g (fun _ h=>h) (fun _ h=>.inl h) (hx.mono (fun _ _ h=>h) fun k hk=>⟨hk,g.block k (h.mem.fz k hk).1⟩) hd⟩
theorem Rel'.grow (h:Rel' E n ρ F σ a w) {w':World} (g:Grow w w'):Rel' E n ρ F σ a w':=by
 have hF:∀ k,F k→F k∧w'.heap[k]? = w.heap[k]?:=fun k hk=>⟨hk,g.block k (h.mem.fz k hk).1⟩
 refine ⟨h.size,h.defers,fun t x hx => ?_,⟨fun id e hl => ?_,h.mem.dom,h.mem.apart,fun id L b hL hb=>⟨(h.mem.off id L b hL hb).1,vZK (h.mem.off id L b hL hb).2.1 g.size,(h.mem.off id L b hL hb).2.2⟩,
  fun k hk=>⟨vZK (h.mem.fz k hk).1 g.size,(h.mem.fz k hk).2⟩,h.mem.fz0,zYG h.mem.grow g,h.mem.pin⟩⟩
 ·obtain ⟨v,h1,h2⟩:=h.slots t x hx;exact ⟨v,h1,h2.mono (fun _ _ h=>h) hF⟩
 ·have:=EntOk.sub (sb:=[]) (ρ':=ρ) (F':=F) (w':=w') ⟨fun id b h=>h,fun id L h _=>h,fun id rows a c k sz _ hs=>by simp [kK] at hs,hF⟩ (h.mem.ent id e hl) rfl (fun L b hL hb=>g.block b (h.mem.off id L b hL hb).2.1)
  rwa [Ent.sub_nil] at this
theorem Rel.grow (h:Rel E n σ a w) {w':World} (g:Grow w w'):Rel E n σ a w':=by
 obtain ⟨ρ,F,h⟩:=h; exact ⟨ρ,F,h.grow g⟩
def RCs (M:Mem):RC→Prop
 | .v _=>True
 | .p id _ cells=>∃ hc,zH M id=some (.blk hc)∧mapO (cvOf M) hc=some cells
def RRes (M:Mem):RV→Prop
 | .o id e sz rows=>zH M id=some (.reg e sz rows)
 | .p id _ cells=>∃ hc,zH M id=some (.blk hc)∧mapO (cvOf M) hc=some cells
 | .q id _ _ e sz rows=>zH M id=some (.reg e sz rows)
 | .i id _ s pos=>zH M id=some (.itr s pos)
 | .g _ _ cap=>∀ c ∈ cap,RCs M c
 | _=>True
theorem zHY {M:Mem} {x:HV} {r:RV} (h:res M x=some r):r.back=x∧RRes M r:=by
 cases x with
 | o id =>
  simp only [res] at h;split at h
  ·rename_i e sz rows hl; cases h; exact ⟨rfl,hl⟩
  ·cases h
 | p id off =>
  simp only [res] at h;split at h
  ·rename_i cells hl;simp only [vQQ,vQZ] at h;obtain ⟨cs,hcs,rfl⟩:=h;exact ⟨rfl,cells,hl,hcs⟩
  ·rename_i s pos hl; cases h; exact ⟨rfl,hl⟩
  ·cases h
 | q id j off =>
  simp only [res] at h;split at h
  ·rename_i e sz rows hl; cases h; exact ⟨rfl,hl⟩
  ·cases h
 | g fn first cap =>
  simp only [res,vQQ,vQZ] at h;obtain ⟨cs,hcs,rfl⟩:=h;have h1:=jQ hcs;refine ⟨?_,fun c hc => ?_⟩
  ·simp only [RV.back]
   congr 1
   refine List.ext_getElem? fun i => ?_
   rw [vZY];cases hi:cap[i]? with
   | none =>
    have:cs[i]? = none:=by rw [List.getElem?_eq_none_iff] at hi ⊢; rw [← h1.1]; exact hi
    rw [this]; rfl
   | some x =>
    obtain ⟨y,hy,hr⟩:=h1.get hi;rw [hy,Option.map_some]
    congr 1
    cases x with
    | v x=>simp only [rcOf,vQZ] at hr; subst hr; rfl
    | p id off =>
     simp only [rcOf] at hr;split at hr
     ·simp only [vQQ,vQZ] at hr; obtain ⟨_,_,rfl⟩:=hr; rfl
     ·cases hr
  ·obtain ⟨i,hi⟩:=List.mem_iff_getElem?.1 hc;have hil:=(List.getElem?_eq_some_iff.1 hi).1;have hcap:i < cap.length:=by rw [h1.1]; exact hil
   have hr:=h1.2 i _ c (vQK hcap) hi;generalize cap[i]=x at hr;cases x with
   | v x=>simp only [rcOf,vQZ] at hr; subst hr; trivial
   | p id off =>
    simp only [rcOf] at hr;split at hr
    ·rename_i cells hl;simp only [vQQ,vQZ] at hr;obtain ⟨cc,hcc,rfl⟩:=hr;exact ⟨cells,hl,hcc⟩
    ·cases hr
 | v x=>cases h; exact ⟨rfl,trivial⟩
 | nl=>cases h; exact ⟨rfl,trivial⟩
 | un=>cases h; exact ⟨rfl,trivial⟩
theorem sh_spec (M:Mem) (x:HV):(sh x).back=x∧RRes M (sh x):=by cases x <;> exact ⟨rfl,trivial⟩
theorem resM_spec {m:Nat} {M:Mem} {x:HV} {r:RV} (h:resM m M x=some r):r.back=x∧RRes M r:=by
 match m with
 | 0=>exact zHY h
 | 1=>simp only [resM,vQZ] at h; subst h; exact sh_spec M x
 | m + 2 =>
  cases x with
  | o id=>exact zHY (by simpa only [resM] using h)
  | _=>simp only [resM,vQZ] at h; subst h; exact sh_spec M _
theorem qZG {v:Value} {p:PV} (h:zGQ v=some p):RP F w p v∧v.oneCell'=true:=by
 unfold zGQ at h;split at h <;> first | (cases h; done) | (cases h; exact ⟨by constructor,rfl⟩)
theorem yQV {p:PV} {v:Value} (h:RP F w p v):RH ρ F w p.toH v:=by
 cases p with
 | zs=>cases h; rfl
 | _=>exact h
theorem yV (h:Rel' E n ρ F σ a w) {m:Nat} {x:Operand} {r:RV} (hx:opv m σ x=some r):∃ v,ev (actS a) x=some v∧RH ρ F w r.back v∧RRes σ.M r:=by
 cases x with
 | tmp t =>
  simp only [opv,vQQ] at hx;obtain ⟨z,hz,hr⟩:=hx;obtain ⟨v,hv,hrh⟩:=h.slots t z hz;obtain ⟨e,hres⟩:=resM_spec hr;exact ⟨v,ev_act hv,by rw [e]; exact hrh,hres⟩
 | const v =>
  refine ⟨v,rfl,?_⟩;simp only [opv] at hx;unfold jJX at hx;split at hx
  ·cases hx; exact ⟨rfl,trivial⟩
  ·rename_i cs;simp only [vQQ,vQZ] at hx;obtain ⟨l,hl,rfl⟩:=hx;have ha:=jQ hl;refine ⟨?_,trivial⟩;show RP F w (.a l) (.agg cs)
   have:=RP.a (F:=F) (w:=w) l cs.toList ha.1.symm (fun v hv => ?_) (fun i p v hp hv=>(qZG (ha.2 i v p hv hp)).1)
   ·simpa using this
   ·obtain ⟨i,hi⟩:=List.mem_iff_getElem?.1 hv;obtain ⟨y,hy,hr⟩:=ha.get hi;exact (qZG (F:=F) (w:=w) hr).2
  ·simp only [vQQ,vQZ] at hx;obtain ⟨y,hy,rfl⟩:=hx;exact ⟨(qZG hy).1,trivial⟩
 | func f =>
  simp only [opv,vQZ] at hx;subst hx;exact ⟨.func (.func f) #[] #[],rfl,.f f [] [] [] [] rfl rfl (fun i p v hp=>by simp at hp) (fun i p v hp=>by simp at hp),trivial⟩
 | global g=>cases hx
theorem zHX (h:Rel' E n ρ F σ a w) {m:Nat} {xs:List Operand} {rs:List RV} (hx:mapO (opv m σ) xs=some rs):∃ vs,evs (actS a) xs=some vs∧Al (fun r v=>RH ρ F w r.back v) rs vs∧∀ r ∈ rs,RRes σ.M r:=by
 induction xs generalizing rs with
 | nil=>simp [mapO] at hx; subst hx; exact ⟨[],rfl,Al.nil,fun r hr=>by cases hr⟩
 | cons x xs ih =>
  simp only [mapO,vQQ,vQZ] at hx;obtain ⟨r,hr,rs',hrs,rfl⟩:=hx;obtain ⟨v,h1,h2,h3⟩:=yV h hr;obtain ⟨vs,h4,h5,h6⟩:=ih hrs;refine ⟨v :: vs,by simp [evs,h1,h4,zZZ],Al.cons h2 h5,fun r' hr' => ?_⟩;rcases List.mem_cons.1 hr' with rfl | hr'
  ·exact h3
  ·exact h6 r' hr'
end
end Go.Rx

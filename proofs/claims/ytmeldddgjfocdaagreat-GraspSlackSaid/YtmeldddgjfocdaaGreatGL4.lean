/- Part 4 of the texts behind the last one: rules and contracts. No condition. -/
import Derived.Test.YtmeldddgjfocdaaGreatGL3
open Option renaming bind_eq_some_iff → vQQ, map_eq_some_iff → vZW
open Option.some renaming injEq → vQZ
open Prod.mk renaming injEq → vQY
open Bool renaming and_eq_true → vQJ
open List renaming getElem?_eq_getElem → vQK, mem_of_getElem? → vQG, mem_cons_of_mem → vQH, mem_cons_self → vZQ, getElem?_map → vZY, getElem?_take → vZV, getD_eq_getElem?_getD → vZG, mem_cons → vYZ
open Nat renaming eq_of_beq_eq_true → vQX, lt_of_lt_of_le → vZK
open Array renaming getElem?_eq_getElem → vZU
namespace Go.Rx
open Go.RowKit Go.Sx
theorem Rel.eqv {E:Env} {n:Nat} {σ τ:St} {a:Act} {w:World} (h:Rel E n σ a w) (he:Eqv σ τ):Rel E n τ a w:=by
 obtain ⟨ρ,F,h⟩:=h;exact ⟨ρ,F,h.size,h.defers,fun t x hx=>h.slots t x (by rw [he.1]; exact hx),⟨fun id e hl=>h.mem.ent id e (by rw [he.2]; exact hl),fun id L hL=>by obtain ⟨e,h1⟩:=h.mem.dom id L hL; exact ⟨e,by rw [← he.2]; exact h1⟩,
  h.mem.apart,h.mem.off,h.mem.fz,h.mem.fz0,h.mem.grow,h.mem.pin⟩⟩
section
variable {C:Cx} {ops:Array Oper}
inductive Runs (C:Cx) (ops:Array Oper):List Done→St→St→Prop
 | nil (σ:St):Runs C ops [] σ σ
 | cons {x:Done} {o:Oper} {l:List Done} {σ τ:St} (ho:ops[x.1]? = some o) (hs:qKJ C ops o σ=some x.2) (h:Runs C ops l (σ.apply x.2.1 o.dst) τ):Runs C ops (x :: l) σ τ
theorem Runs.eqv {l:List Done} {σ τ σ':St} (h:Runs C ops l σ τ) (he:Eqv σ σ'):∃ τ',Runs C ops l σ' τ'∧Eqv τ τ':=by
 induction h generalizing σ' with
 | nil σ=>exact ⟨σ',.nil σ',he⟩
 | cons ho hs _ ih =>
  obtain ⟨τ',h1,h2⟩:=ih (he.apply _ _);exact ⟨τ',.cons ho (kYX hs he) h1,h2⟩
theorem Runs.append {l l':List Done} {σ τ υ:St} (h:Runs C ops l σ τ) (h':Runs C ops l' τ υ):Runs C ops (l ++ l') σ υ:=by
 induction h with
 | nil σ=>exact h'
 | cons ho hs _ ih=>exact .cons ho hs (ih h')
theorem Runs.split {l l':List Done} {σ υ:St} (h:Runs C ops (l ++ l') σ υ):∃ τ,Runs C ops l σ τ∧Runs C ops l' τ υ:=by
 induction l generalizing σ with
 | nil=>exact ⟨σ,.nil σ,h⟩
 | cons x l ih =>
  cases h with
  | cons ho hs h =>
   obtain ⟨τ,h1,h2⟩:=ih h;exact ⟨τ,.cons ho hs h1,h2⟩
theorem Runs.det {l:List Done} {σ τ τ':St} (h:Runs C ops l σ τ) (h':Runs C ops l σ τ'):τ=τ':=by
 induction h with
 | nil σ=>cases h'; rfl
 | cons ho hs _ ih =>
  cases h' with
  | cons ho' hs' h' =>
   rw [ho] at ho'; cases ho';exact ih h'
def jYX (ops:Array Oper) (x y:Done):Prop:=∃ ox oy,ops[x.1]? = some ox∧ops[y.1]? = some oy∧Indep ops x y ox oy
theorem Runs.right {x:Done} {l:List Done} {σ τ:St} (h:Runs C ops (x :: l) σ τ) (hi:∀ y ∈ l,jYX ops x y):∃ τ',Runs C ops (l ++ [x]) σ τ'∧Eqv τ τ':=by
 induction l generalizing σ τ with
 | nil=>exact ⟨τ,h,Eqv.refl τ⟩
 | cons y l ih =>
  cases h with
  | cons ho hs h =>
   cases h with
   | cons ho2 hs2 h =>
    obtain ⟨ox,oy,h1,h2,ind⟩:=hi y vZQ;rw [ho] at h1; cases h1;rw [ho2] at h2; cases h2;obtain ⟨q1,q2,q3⟩:=swap ind hs hs2;obtain ⟨τ1,h3,h4⟩:=h.eqv q3;obtain ⟨τ2,h5,h6⟩:=ih (.cons ho q2 h3) (fun z hz=>hi z (vQH _ hz));exact ⟨τ2,.cons ho2 q1 h5,h4.trans h6⟩
theorem Runs.part {d:Done→Bool} {l:List Done} {σ τ:St} (h:Runs C ops l σ τ) (hp:l.Pairwise fun x y=>d x=false→d y=true→jYX ops x y) :
  ∃ τ',Runs C ops (l.filter d ++ l.filter (fun x => !d x)) σ τ'∧Eqv τ τ':=by
 induction l generalizing σ τ with
 | nil=>exact ⟨τ,h,Eqv.refl τ⟩
 | cons x l ih =>
  cases h with
  | cons ho hs h =>
   obtain ⟨hx,hl⟩:=List.pairwise_cons.1 hp;obtain ⟨τ1,h1,h2⟩:=ih h hl;cases hd:d x with
   | true =>
    simp only [List.filter_cons,hd,if_true,Bool.not_true,Bool.false_eq_true,if_false,List.cons_append];exact ⟨τ1,.cons ho hs h1,h2⟩
   | false =>
    simp only [List.filter_cons,hd,Bool.not_false,if_true,Bool.false_eq_true,if_false];obtain ⟨υ,h3,h4⟩:=h1.split;obtain ⟨υ',h5,h6⟩:=Runs.right (.cons ho hs h3) (fun y hy=>hx y (List.mem_filter.1 hy).1 hd (List.mem_filter.1 hy).2);obtain ⟨τ2,h7,h8⟩:=h4.eqv h6;refine ⟨τ2,?_,h2.trans h8⟩
    have:=h5.append h7
    simpa using this
def Goes (P:Program) (o:Oper) (a:Act) (w:World) (T:Value→World→Prop):Prop :=
 match (execOp a.eval o).run P w with
 | .ok (.value v) w'=>T v w'
 | .ok .skip w'=>T undef w'
 | .ok (.enter f args) w'=>Calls P f args w' (fun e w''=>∃ v,e=.returned v∧T v w'')
 | _=>False
theorem Goes.wp {P:Program} {o:Oper} {a:Act} {w:World} {T:Value→World→Prop} {K:Act→World→Prop} {Q:Exit→Act→World→Prop} (h:Goes P o a w T) (hK:∀ v w',T v w'→K (a.put o.dst v) w'):o.wp P a w K Q:=by
 unfold Goes at h;unfold Oper.wp;generalize (execOp a.eval o).run P w=r at *;cases r with
 | ok n w' =>
  cases n <;> first | exact h.elim | exact hK _ _ h | skip
  rename_i f args;exact Calls.mono h fun e w'' ⟨v,he,ht⟩=>by subst he; exact hK _ _ ht
 | halt x w'=>exact h.elim
theorem Goes.mono {P:Program} {o:Oper} {a:Act} {w:World} {T T':Value→World→Prop} (h:Goes P o a w T) (hT:∀ v w',T v w'→T' v w'):Goes P o a w T':=by
 unfold Goes at *;generalize (execOp a.eval o).run P w=r at *;cases r with
 | ok n w' =>
  cases n <;> first | exact h.elim | exact hT _ _ h | skip
  exact Calls.mono h fun e w'' ⟨v,he,ht⟩=>⟨v,he,hT _ _ ht⟩
 | halt x w'=>exact h.elim
def GoesD (P:Program) (D:Deferred→Prop) (o:Oper) (a:Act) (w:World) (K:Act→World→Prop):Prop :=
 Goes P o a w (fun v w'=>K (a.put o.dst v) w') ∨ ∃ d,(execOp a.eval o).run P w=.ok (.defer d) w∧D d∧K ({ a with defers:=d :: a.defers }.put o.dst undef) w
theorem GoesD.mono {P:Program} {D:Deferred→Prop} {o:Oper} {a:Act} {w:World} {K K':Act→World→Prop} (h:GoesD P D o a w K) (hK:∀ a w,K a w→K' a w):GoesD P D o a w K':=by
 rcases h with h | ⟨d,h1,h2,h3⟩
 ·exact .inl (h.mono fun v w'=>hK _ _)
 ·exact .inr ⟨d,h1,h2,hK _ _ h3⟩
theorem GoesD.wp {P:Program} {D:Deferred→Prop} {o:Oper} {a:Act} {w:World} {K:Act→World→Prop} {Q:Exit→Act→World→Prop} (h:GoesD P D o a w K):o.wp P a w K Q:=by
 rcases h with h | ⟨d,h1,_,h2⟩
 ·exact h.wp fun v w' ht=>ht
 ·unfold Oper.wp;rw [h1];exact h2
def Sim (P:Program) (E:Env) (C:Cx) (ops:Array Oper):Prop:=∀ (o:Oper) (σ:St) (r:Eff × List RV) (a:Act) (w:World),qKJ C ops o σ=some r→Rel E C.n σ a w →
 (if Region.wanted o (yielded ops a.tmps) then GoesD P E.D o a w (fun a' w'=>Rel E C.n (σ.apply r.1 o.dst) a' w') else Rel E C.n (σ.apply r.1 o.dst) (a.put o.dst undef) w)
variable {P:Program} {E:Env} {Q:Exit→Act→World→Prop}
theorem kKU (hs:Sim P E C ops) {i:Nat} {o:Oper} {σ:St} {r:Eff × List RV} {a:Act} {w:World} (ho:ops[i]? = some o) (h:qKJ C ops o σ=some r) (hr:Rel E C.n σ a w) :
  wpOp P ops Q i (fun a' w'=>Rel E C.n (σ.apply r.1 o.dst) a' w') a w:=by
 unfold wpOp;rw [ho]
 have:=hs o σ r a w h hr
 simp only;split
 ·rename_i hw;rw [if_pos hw] at this;exact .inl this.wp
 ·rename_i hw;rw [if_neg hw] at this;exact this
theorem yVL {l:Array Bool} {i:Nat} (hl:i < l.size):l.getD i true=l.getD i false:=by simp [hl]
theorem qXH {ops:Array Oper} {listed:Array Bool} (hc:∀ i o,listed.getD i false=true→ops[i]? = some o→∀ e ∈ o.after,Region.binds .any e=true→listed.getD e.on false=true):∀ (n j i:Nat),zKE ops n j i=true→listed.getD j false=true→listed.getD i false=true:=by
 have direct:∀ j i,Region.waitsFor .any ops j i=true→listed.getD j false=true→listed.getD i false=true:=fun j i h hj=>by
  obtain ⟨o',ho',e,he,hb,hon⟩:=Region.waitsFor_spec h
  have:=hc j o' hj ho' e he hb
  rwa [hon] at this
 intro n;induction n with
 | zero=>exact direct
 | succ n ih =>
  intro j i h hj;simp only [zKE,Bool.or_eq_true] at h;rcases h with h | h
  ·exact direct j i h hj
  ·split at h
   ·rename_i o ho;obtain ⟨e,he,hb⟩:=Array.any_eq_true'.1 h;rw [vQJ] at hb;exact ih e.on i hb.2 (hc j o hj ho e he hb.1)
   ·cases h
theorem qGI {ops:Array Oper} {listed:Array Bool} (hc:∀ i o,listed.getD i false=true→ops[i]? = some o→∀ e ∈ o.after,Region.binds .any e=true→listed.getD e.on false=true) {j i:Nat} (h:zWL ops j i=true) (hj:listed.getD j false=true):listed.getD i false=true:=by
 unfold zWL at h;rw [Bool.or_eq_true,Bool.or_eq_true] at h;rcases h with (h | h) | h
 ·exact qXH hc 3 _ _ h hj
 ·exact qXH hc 5 _ _ h hj
 ·exact qXH hc 9 _ _ h hj
theorem jJG {L:List Done} {σ0 τ:St} (hs:Sim P E C ops) (hL:Runs C ops L σ0 τ) (hlen:L.length=ops.size) (hidx:∀ (i:Nat) (x:Done),L[i]? = some x→x.1=i) (hp:zJY ops L=true) (hback:backB ops=true)
  (hK:∀ a w,Rel E C.n τ a w→Q .normal a w) :
  ∀ (f:Nat) (listed:Array Bool) (a:Act) (w:World),listed.size=ops.size→qJC listed ops.size=f →
   (∀ i o,listed.getD i false=true→ops[i]? = some o→∀ e ∈ o.after,Region.binds .any e=true→listed.getD e.on false=true) →
   (∃ υ,Runs C ops (L.filter fun x=>listed.getD x.1 false) σ0 υ∧Rel E C.n υ a w)→wpAny P .any ops Q f listed a w:=by
 have hpw:L.Pairwise fun x y=>zWL ops y.1 x.1=true ∨ jYX ops x y:=by
  have ho:∀ x ∈ L,∃ o,ops[x.1]? = some o:=fun x hx=>by
   obtain ⟨i,hi⟩:=List.mem_iff_getElem?.1 hx;rw [hidx i x hi]
   have:=(List.getElem?_eq_some_iff.1 hi).1
   exact ⟨_,vZU (by omega)⟩
  clear hL hlen hidx
  induction L with
  | nil=>exact List.Pairwise.nil
  | cons x L ih =>
   simp only [zJY,vQJ] at hp;refine List.pairwise_cons.2 ⟨fun y hy => ?_,ih hp.2 fun z hz=>ho z (vQH _ hz)⟩
   have:=List.all_eq_true.1 hp.1 y hy
   rw [Bool.or_eq_true,Bool.or_eq_true] at this;rcases this with h | h | h
   ·exact .inl (by simp only [zWL,zKE,h,Bool.true_or])
   ·obtain ⟨ox,hox⟩:=ho x vZQ;obtain ⟨oy,hoy⟩:=ho y (vQH _ hy);exact .inr ⟨ox,oy,hox,hoy,yVD hox hoy h⟩
   ·exact .inl h
 intro f;induction f with
 | zero =>
  intro listed a w hsz hu hcl ⟨υ,hr,hrel⟩;have hall:=qXA hu;refine ⟨List.eq_nil_iff_forall_not_mem.2 fun i hi => ?_,hK a w ?_⟩
  ·obtain ⟨hun,o,ho,_⟩:=mem_ready.1 hi;rw [hall i (Array.getElem?_eq_some_iff.1 ho).1] at hun;cases hun
  ·have:L.filter (fun x=>listed.getD x.1 false)=L:=List.filter_eq_self.2 fun x hx=>by
    obtain ⟨i,hi⟩:=List.mem_iff_getElem?.1 hx;have hil:=(List.getElem?_eq_some_iff.1 hi).1;rw [hidx i x hi];have h1:=hall i (by omega)
    rwa [yVL (by omega)] at h1
   rw [this] at hr;rw [← hr.det hL]; exact hrel
 | succ f ih =>
  intro listed a w hsz hu hcl ⟨υ,hr,hrel⟩;obtain ⟨i0,hi0,hun0,hbefore⟩:=qWL (listed:=listed) (N:=ops.size) (by omega);have hready:i0 ∈ Region.ready .any ops listed:=by
   refine mem_ready.2 ⟨hun0,ops[i0],vZU hi0,fun e he hb => ?_⟩;have h1:=List.all_eq_true.1 hback i0 (List.mem_range.2 hi0);simp only [vZU hi0] at h1;have h2:=Array.all_eq_true_iff_forall_mem.1 h1 e he;simp only [hb,Bool.not_true,Bool.false_or,decide_eq_true_eq] at h2;have h3:=hbefore e.on h2
   rwa [yVL (by omega)] at h3
  refine ⟨fun h0=>(by rw [h0] at hready; cases hready),fun i hi => ?_⟩;obtain ⟨hun,o,ho,hpre⟩:=mem_ready.1 hi;have hiN:=(Array.getElem?_eq_some_iff.1 ho).1;have hil:i < L.length:=by omega
  have hLi:L[i]? = some L[i]:=vQK hil;generalize hx:L[i]=x at hLi;have hxi:x.1=i:=hidx i x hLi;have hun':listed.getD i false=false:=by rw [← yVL (by omega)]; exact hun
  have hset:∀ j,(listed.setIfInBounds i true).getD j false=if i=j then true else listed.getD j false:=fun j=>by
   by_cases e:i=j
   ·subst e
    have:i < listed.size:=by omega
    simp [this]
   ·rw [if_neg e,getD_set_ne false e]
  -- the list, parted at i
  have hsplit:L=L.take i ++ x :: L.drop (i + 1):=by
   have:=List.take_append_drop i L
   rw [List.drop_eq_getElem_cons hil,hx] at this;exact this.symm
  have hlow:∀ y ∈ L.take i,y.1 ≠ i:=fun y hy=>by
   obtain ⟨k,hk⟩:=List.mem_iff_getElem?.1 hy;rw [vZV] at hk;split at hk
   ·rw [hidx k y hk]; omega
   ·cases hk
  have hhigh:∀ y ∈ L.drop (i + 1),y.1 ≠ i:=fun y hy=>by
   obtain ⟨k,hk⟩:=List.mem_iff_getElem?.1 hy;rw [List.getElem?_drop] at hk;rw [hidx _ y hk]; omega
  have hcl':∀ j o',(listed.setIfInBounds i true).getD j false=true→ops[j]? = some o'→∀ e ∈ o'.after,Region.binds .any e=true→(listed.setIfInBounds i true).getD e.on false=true:=fun j o' hj ho' e he hb=>by
   rw [hset] at hj ⊢;by_cases e1:i=e.on
   ·rw [if_pos e1]
   ·rw [if_neg e1];by_cases e2:i=j
    ·subst e2; rw [ho] at ho'; cases ho'; exact hpre e he hb
    ·rw [if_neg e2] at hj; exact hcl j o' hj ho' e he hb
  have hcly:∀ y:Done,(listed.setIfInBounds i true).getD y.1 false=true→∀ o',ops[y.1]? = some o'→∀ e ∈ o'.after,Region.binds .any e=true→(listed.setIfInBounds i true).getD e.on false=true:=fun y hy o' ho'=>hcl' y.1 o' hy ho'
  obtain ⟨τ',hp1,_⟩:=Runs.part (d:=fun x=>(listed.setIfInBounds i true).getD x.1 false) hL (hpw.imp fun {u v} h hu hv=>by
   rcases h with h | h
   ·have:=qGI hcl' h hv
    rw [hu] at this; cases this
   ·exact h)
  obtain ⟨υ',hD',_⟩:=hp1.split
  -- D' is D with i in its place
  have e1:L.filter (fun x=>(listed.setIfInBounds i true).getD x.1 false)=(L.take i).filter (fun x=>listed.getD x.1 false) ++ x :: (L.drop (i + 1)).filter (fun x=>listed.getD x.1 false):=by
   conv=>lhs; rw [hsplit]
   rw [List.filter_append,List.filter_cons];have hxt:(listed.setIfInBounds i true).getD x.1 false=true:=by rw [hset,hxi,if_pos rfl]
   rw [if_pos hxt]
   congr 1
   ·exact List.filter_congr fun y hy=>by rw [hset,if_neg (Ne.symm (hlow y hy))]
   ·congr 1
    exact List.filter_congr fun y hy=>by rw [hset,if_neg (Ne.symm (hhigh y hy))]
  have e2:L.filter (fun x=>listed.getD x.1 false)=(L.take i).filter (fun x=>listed.getD x.1 false) ++ (L.drop (i + 1)).filter (fun x=>listed.getD x.1 false):=by
   conv=>lhs; rw [hsplit]
   rw [List.filter_append,List.filter_cons];rw [if_neg (by rw [hxi,hun']; simp)]
  rw [e1] at hD';obtain ⟨α,hA,hB⟩:=hD'.split;have hpair:∀ y ∈ L.drop (i + 1),zWL ops y.1 x.1=true ∨ jYX ops x y:=by
   rw [hsplit] at hpw;exact (List.pairwise_cons.1 (List.pairwise_append.1 hpw).2.1).1
  obtain ⟨υ2,hB2,hev⟩:=Runs.right hB (fun y hy=>by
   obtain ⟨hy1,hy2⟩:=List.mem_filter.1 hy;rcases hpair y hy1 with h | h
   ·have:=qGI hcl h hy2
    rw [hxi,hun'] at this; cases this
   ·exact h)
  obtain ⟨β,hB3,hB4⟩:=hB2.split;have hυ:υ=β:=by
   rw [e2] at hr;exact hr.det (hA.append hB3)
  subst hυ;cases hB4 with
  | cons ho2 hs2 hn =>
   rw [hxi,ho] at ho2;cases ho2;cases hn;refine wpOp_mono (fun a' w' h => ?_) (kKU hs ho hs2 hrel)
   have:=zZZ hun hiN
   refine ih _ a' w' (by simpa using hsz) (by omega) hcl' ⟨υ',?_,h.eqv hev.symm⟩;rw [e1]; exact hA.append hB
theorem zJQ {K:St→Option (Ret × Mem)} {r:Ret × Mem}:∀ (l:List Oper) (i:Nat) (acc:List Done) (σ:St),qKA C ops i l acc K σ=some r→(∀ j o,l[j]? = some o→ops[i + j]? = some o) →
  ∃ L τ,Runs C ops L σ τ∧L.length=l.length∧(∀ (j:Nat) (x:Done),L[j]? = some x→x.1=i + j)∧zJY ops (acc.reverse ++ L)=true∧backB ops=true∧K τ=some r
 | [],i,acc,σ,h,_=>by
  simp only [qKA] at h;cases hb:(zJY ops acc.reverse && backB ops) with
  | false=>rw [hb] at h; simp at h
  | true =>
   rw [hb] at h;rw [vQJ] at hb;exact ⟨[],σ,.nil σ,rfl,fun j x hx=>by simp at hx,by simpa using hb.1,hb.2,h⟩
 | o :: l,i,acc,σ,h,ho=>by
  simp only [qKA,vQQ] at h;obtain ⟨x,hx,h⟩:=h;obtain ⟨L,τ,h1,h2,h3,h4,h5,h6⟩:=zJQ l (i + 1) _ _ h (fun j o' hj=>by
   have:=ho (j + 1) o' (by simpa using hj)
   rw [show i + 1 + j=i + (j + 1) by omega]; exact this)
  refine ⟨(i,x) :: L,τ,.cons (by simpa using ho 0 o rfl) hx h1,by simp [h2],fun j y hy => ?_,by simpa using h4,h5,h6⟩;cases j with
  | zero=>simp at hy; subst hy; rfl
  | succ j=>simp at hy; rw [h3 j y hy]; omega
theorem uYG {id:Nat} {K:St→Option (Ret × Mem)} {r:Ret × Mem} {σ:St} {a:Act} {w:World} (hm:P.follows .mixedOrders=true) (hs:Sim P E C ops) (h:qKA C ops 0 ops.toList [] K σ=some r) (hr:Rel E C.n σ a w)
  (hd:∀ {σ a w},Rel E C.n σ a w→Rel E C.n σ a { w with drawn:=w.drawn + 1 }) (hK:∀ τ a w,K τ=some r→Rel E C.n τ a w→Q .normal a w):(Code.region id ops true).wp P Q a w:=by
 obtain ⟨L,τ,h1,h2,h3,h4,h5,h6⟩:=zJQ ops.toList 0 [] σ h (fun j o hj=>by simpa using hj);refine wp_region_any hm (jJG hs h1 (by simpa using h2) (fun i x hx=>by simpa using h3 i x hx) (by simpa using h4) h5 (fun a w=>hK τ a w h6) ops.size _ a _ (by simp) ?_ (fun i o hi => ?_) ⟨σ,?_,hd hr⟩)
 ·have:∀ N,N≤ops.size→qJC (Array.replicate ops.size false) N=N:=by
   intro N;induction N with
   | zero=>intro _; rfl
   | succ N ih=>intro hN; simp only [qJC]; rw [ih (by omega)]; simp [show N < ops.size by omega]
  exact this _ (Nat.le_refl _)
 ·rcases Nat.lt_or_ge i ops.size with hl | hl <;> simp [hl] at hi
 ·have:L.filter (fun x=>(Array.replicate ops.size false).getD x.1 false)=[]:=List.filter_eq_nil_iff.2 fun x hx=>by
   rcases Nat.lt_or_ge x.1 ops.size with hl | hl <;> simp [hl]
  rw [this]; exact .nil σ
theorem yUD {K:St→Option (Ret × Mem)} {r:Ret × Mem} (hs:Sim P E C ops) (hK:∀ τ a w,K τ=some r→Rel E C.n τ a w→Q .normal a w):∀ (l:List Oper) (σ:St) (a:Act) (w:World),zYI C ops l K σ=some r→Rel E C.n σ a w→wpList P ops Q l a w
 | [],σ,a,w,h,hr=>hK σ a w h hr
 | o :: l,σ,a,w,h,hr=>by
  simp only [zYI,vQQ] at h;obtain ⟨x,hx,h⟩:=h
  have:=hs o σ x a w hx hr
  unfold wpList;split
  ·rename_i hw;rw [if_pos hw] at this;exact .inl (this.mono fun a' w' ht=>yUD hs hK l _ _ _ h ht).wp
  ·rename_i hw;rw [if_neg hw] at this;exact yUD hs hK l _ _ _ h this
end
end Go.Rx
namespace Go.Sx
open Go.RowKit
section
variable {P:Program} {w0:Base} {S:yV} {H:Heap} {ty:TypeId} {pos:String} {af:Array Edge} {g:Option (Nat × Bool)}
theorem kUA {dd:Option Tmp} {x y:Operand} {t t':TypeId} {p q:ByteArray} (_:P.underlying t=some .string) (hx:ev S x=some (.string p)) (hy:ev S y=some (.string q)):OpV P w0 S H ⟨dd,.binOp .eql t x y t',ty,pos,af,g⟩ (.bool (p.toList == q.toList)) :=
 kY (by simp [yH,Op.operands,hx,hy]) rfl fun w _=>by simp [execOp,yY hx,yY hy,eqGuard,binOp,Op.stringOp]
end
end Go.Sx
namespace Go.Rx
open Go.RowKit Go.Sx
def Harm (P:Program) (d:Deferred):Prop:=∃ f cap,d.target=.fn (.func f) cap∧uV P f∧∀ (args:Array Value) (w:World),CallsD P f args .returning w fun e u w'=>(∃ v,e=.returned v)∧u=.returning∧w'=w
theorem zXF {P:Program} {fn:Func} {tmps:Array Value} {R:Ending→World→Prop} {v:Value} {w:World} (hv:(results fn tmps).run P w=.ok v w) (hR:R (.returned v) w):∀ (ds:List Deferred),(∀ d ∈ ds,Harm P d)→Leaves P fn tmps R ds .returning w
 | [],_=>⟨v,hv,hR⟩
 | d :: ds,h=>by
  obtain ⟨f,cap,htar,hent,hc⟩:=h d vZQ;refine ⟨by simp,.func f,cap,f,d.args ++ cap,htar,by rw [htar]; exact hent _ _,CallsD.mono (hc (d.args ++ cap) w) ?_⟩
  rintro e u' w' ⟨⟨x,rfl⟩,rfl,rfl⟩
  exact zXF hv hR ds fun d hd=>h d (vQH _ hd)
structure TabOk (P:Program) (T:Tab):Prop where
 sz:∀ t b k,T.sz t=some (b,k)→tyB P t b k=true∧(b=false→k=1)
 zr:∀ t ps,T.zr t=some ps→∃ z,qJY P t z∧Al (fun p v=>(∀ F w,RP F w p v)∧v.oneCell'=true) ps z.cells.toList
 zh:∀ t hs,T.zh t=some hs→∃ z,qJY P t z∧Al (fun x v=>(∀ ρ F w,RH ρ F w x v)∧v.oneCell'=true) hs z.cells.toList
 fd:∀ t f o,T.fd t f=some o→qGW P t f o=true
 fx:∀ t f o b k,T.fx t f=some (o,b,k)→∃ fields fld,P.underlying t=some (.struct fields)∧fields[f]? = some fld∧fld.offset=o∧tyB P fld.type b k=true∧(b=false→k=1)
 ar:∀ t n k b,T.ar t=some (n,k,b)→arrB P t n k=true∧∃ e,P.underlying t=some (.array n e)∧tyB P e b k=true∧(b=false→k=1)
 sl:∀ t e k,T.sl t=some (e,k)→slcB P t e k=true∧0 < k∧k≤1000∧∃ bytes,appB P t e k bytes=true∧bytes≤100000∧T.bd e * bytes≤140737488355328∧T.bd e≤8796093022208
 ly:∀ t pl,T.ly t=some pl→∃ z,qKL P t=some (z,pl)∧∀ ps,T.zr t=some ps→Al (fun p v=>(∀ F w,RP F w p v)∧v.oneCell'=true) ps z
 ik:∀ t k,T.ik t=some k→P.underlying t=some (.int k)
 str:∀ t,T.str t=true→P.underlying t=some .string
 bo:∀ t,T.bo t=true→P.underlying t=some .bool
 eqK:∀ t ks,T.eqK t=some ks→aggB P t=true∧∀ vs:List Value,(∃ ps F w,qGX ks ps=true∧Al (RP F w) ps vs)→qZI P 12 t vs=true
 dd:∀ f,T.dd f=true→uV P f∧∀ (args:Array Value) (w:World),CallsD P f args .returning w fun e u w'=>(∃ v,e=.returned v)∧u=.returning∧w'=w
 fn:∀ f fi,T.fn f=some fi→uV P f∧∃ fn,P.funcs[f]? = some fn∧fn.body=some fi.body∧fn.ntmps=fi.ntmps∧fn.results=fi.results.toArray
def actS (a:Act):yV:=Sx.initS 0 a.tmps.toList
theorem jGD {vs:List Value} {k t:Nat} {v:Value} (h:vs[t]? = some v):Sx.look (Sx.initS k vs) (k + t)=some v:=by
 induction vs generalizing k t with
 | nil=>simp at h
 | cons u vs ih =>
  cases t with
  | zero=>simp at h; subst h; exact qQA _ _ _
  | succ t =>
   simp at h;simp only [Sx.initS];rw [qZZ _ _ (by omega),show k + (t + 1)=(k + 1) + t by omega];exact ih h
theorem jZX {n:Nat} {a:Act} (hs:a.tmps.size=n):Fits n (actS a) { a with defers:=[] }:=⟨hs,rfl,fun t v h=>by
 obtain ⟨_,h2⟩:=zVL h
 simpa using h2⟩
theorem xGV {a:Act} {t:Nat} {v:Value} (h:a.tmps[t]? = some v):ev (actS a) (.tmp t)=some v:=by
 have:=jGD (vs:=a.tmps.toList) (k:=0) (t:=t) (v:=v) (by simpa using h)
 rw [Nat.zero_add] at this;exact this
section
variable {P:Program} {E:Env} {n:Nat} {ρ:Own} {F:Nat→Prop} {σ:St} {a:Act} {w:World}
theorem yVI (hs:a.tmps.size=n) {o:Oper} {v:Value} (h:OpV P ⟨w,[]⟩ (actS a) [] o v):Goes P o a w (fun u w'=>u=v∧Grow w w'):=by
 have hy:=h.run w (Knows.nil (Grow.refl w));unfold Goes;rw [show a.eval=({ a with defers:=[] }:Act).eval from rfl,zQG (jZX hs) h.known h.nosel];generalize (execOp (evD (actS a)) o).run P w=r at *;cases r with
 | ok x w' =>
  cases x <;> first | exact hy.elim | exact ⟨hy.2,hy.1⟩ | skip
  exact Calls.mono hy.2 fun e w'' ⟨v,he,hg,ht⟩=>⟨v,he,ht,hy.1.trans hg⟩
 | halt x w'=>exact hy.elim
theorem qVE {W:Nat→Prop} {w0 w w':World} (h:GrowB W w0 w) (g:Grow w w'):GrowB W w0 w':=h.trans (GrowB.of g)
theorem Rel'.val (h:Rel' E n ρ F σ a w) {F':Nat→Prop} {w':World} (g:Grow w w') (hF:∀ k,F k→F' k) (hF':∀ k,F' k→F k ∨ (w.heap.size≤k∧k < w'.heap.size)) {x:HV} {v:Value} (hx:RH ρ F' w' x v) {dst:Option Nat} (hd:dstB n dst=true) :
  Rel' E n ρ F' (σ.apply (.val x) dst) (a.put dst v) w':=by
 have hlt:∀ k,F k→k < w.heap.size:=fun k hk=>(h.mem.fz k hk).1
 refine h.apply (.val x) dst v (fun d e=>by subst e; simpa [dstB] using hd) ⟨fun id b h=>h,fun id L h _=>h,fun id rows a c k sz _ hs=>by simp [Eff.val,uJ] at hs,fun k hk=>⟨hF k hk,g.block k (hlt k hk)⟩⟩ hx
  (fun id L b _ hL hb=>g.block b (h.mem.off id L b hL hb).2.1) (fun _ _=>rfl) (fun _ _=>rfl) (fun id x hu=>by simp [Eff.val,uQ] at hu) h.mem.apart
  (fun id L b hL hb=>⟨fun hf => ?_,vZK (h.mem.off id L b hL hb).2.1 g.size,(h.mem.off id L b hL hb).2.2⟩)
  (fun k hk => ?_) (qVE h.mem.grow g)
 ·have:=h.mem.off id L b hL hb
  rcases hF' b hf with h1 | h1
  ·exact this.1 h1
  ·omega
 ·rcases hF' k hk with h1 | h1
  ·exact ⟨vZK (hlt k h1) g.size,(h.mem.fz k h1).2⟩
  ·exact ⟨h1.2,.inr (.inl (Nat.le_trans h.mem.grow.size h1.1))⟩
theorem jU (h:Rel' E n ρ F σ a w) {o:Oper} {x:HV} {v:Value} (hop:OpV P ⟨w,[]⟩ (actS a) [] o v) (hx:RH ρ F w x v) (hd:dstB n o.dst=true):Goes P o a w (fun u w'=>Rel E n (σ.apply (.val x) o.dst) (a.put o.dst u) w') :=
 (yVI h.size hop).mono fun u w' ⟨hu,g⟩=>by
  subst hu;exact ⟨ρ,F,h.val g (fun _ h=>h) (fun _ h=>.inl h) (hx.mono (fun _ _ h=>h) fun k hk=>⟨hk,g.block k (h.mem.fz k hk).1⟩) hd⟩
theorem Rel'.grow (h:Rel' E n ρ F σ a w) {w':World} (g:Grow w w'):Rel' E n ρ F σ a w':=by
 have hF:∀ k,F k→F k∧w'.heap[k]? = w.heap[k]?:=fun k hk=>⟨hk,g.block k (h.mem.fz k hk).1⟩
 refine ⟨h.size,h.defers,fun t x hx => ?_,⟨fun id e hl => ?_,h.mem.dom,h.mem.apart,fun id L b hL hb=>⟨(h.mem.off id L b hL hb).1,vZK (h.mem.off id L b hL hb).2.1 g.size,(h.mem.off id L b hL hb).2.2⟩,
  fun k hk=>⟨vZK (h.mem.fz k hk).1 g.size,(h.mem.fz k hk).2⟩,h.mem.fz0,qVE h.mem.grow g,h.mem.pin⟩⟩
 ·obtain ⟨v,h1,h2⟩:=h.slots t x hx;exact ⟨v,h1,h2.mono (fun _ _ h=>h) hF⟩
 ·have:=EntOk.sub (sb:=[]) (ρ':=ρ) (F':=F) (w':=w') ⟨fun id b h=>h,fun id L h _=>h,fun id rows a c k sz _ hs=>by simp [uJ] at hs,hF⟩ (h.mem.ent id e hl) rfl (fun L b hL hb=>g.block b (h.mem.off id L b hL hb).2.1)
  rwa [Ent.sub_nil] at this
theorem Rel.grow (h:Rel E n σ a w) {w':World} (g:Grow w w'):Rel E n σ a w':=by
 obtain ⟨ρ,F,h⟩:=h; exact ⟨ρ,F,h.grow g⟩
def RCs (M:Mem):RC→Prop
 | .v _=>True
 | .p id _ cells=>∃ hc,yK M id=some (.blk hc)∧mapO (cvOf M) hc=some cells
def RRes (M:Mem):RV→Prop
 | .o id e sz rows=>yK M id=some (.reg e sz rows)
 | .p id _ cells=>∃ hc,yK M id=some (.blk hc)∧mapO (cvOf M) hc=some cells
 | .q id _ _ e sz rows=>yK M id=some (.reg e sz rows)
 | .i id _ s pos=>yK M id=some (.itr s pos)
 | .g _ _ cap=>∀ c ∈ cap,RCs M c
 | _=>True
theorem zJF {M:Mem} {x:HV} {r:RV} (h:res M x=some r):r.back=x∧RRes M r:=by
 cases x with
 | o id =>
  simp only [res] at h;split at h
  ·rename_i e sz rows hl; cases h; exact ⟨rfl,hl⟩
  ·cases h
 | p id off =>
  simp only [res] at h;split at h
  ·rename_i cells hl;simp only [vQQ,vQZ] at h;obtain ⟨cs,hcs,rfl⟩:=h;exact ⟨rfl,cells,hl,hcs⟩
  ·rename_i s pos hl; cases h; exact ⟨rfl,hl⟩
  ·cases h
 | q id j off =>
  simp only [res] at h;split at h
  ·rename_i e sz rows hl; cases h; exact ⟨rfl,hl⟩
  ·cases h
 | g fn first cap =>
  simp only [res,vQQ,vQZ] at h;obtain ⟨cs,hcs,rfl⟩:=h;have h1:=kJ hcs;refine ⟨?_,fun c hc => ?_⟩
  ·simp only [RV.back]
   congr 1
   refine List.ext_getElem? fun i => ?_
   rw [vZY];cases hi:cap[i]? with
   | none =>
    have:cs[i]? = none:=by rw [List.getElem?_eq_none_iff] at hi ⊢; rw [← h1.1]; exact hi
    rw [this]; rfl
   | some x =>
    obtain ⟨y,hy,hr⟩:=h1.get hi;rw [hy,Option.map_some]
    congr 1
    cases x with
    | v x=>simp only [rcOf,vQZ] at hr; subst hr; rfl
    | p id off =>
     simp only [rcOf] at hr;split at hr
     ·simp only [vQQ,vQZ] at hr; obtain ⟨_,_,rfl⟩:=hr; rfl
     ·cases hr
  ·obtain ⟨i,hi⟩:=List.mem_iff_getElem?.1 hc;have hil:=(List.getElem?_eq_some_iff.1 hi).1;have hcap:i < cap.length:=by rw [h1.1]; exact hil
   have hr:=h1.2 i _ c (vQK hcap) hi;generalize cap[i]=x at hr;cases x with
   | v x=>simp only [rcOf,vQZ] at hr; subst hr; trivial
   | p id off =>
    simp only [rcOf] at hr;split at hr
    ·rename_i cells hl;simp only [vQQ,vQZ] at hr;obtain ⟨cc,hcc,rfl⟩:=hr;exact ⟨cells,hl,hcc⟩
    ·cases hr
 | v x=>cases h; exact ⟨rfl,trivial⟩
 | nl=>cases h; exact ⟨rfl,trivial⟩
 | un=>cases h; exact ⟨rfl,trivial⟩
 | ag cs=>cases h; exact ⟨rfl,trivial⟩
theorem jXQ (M:Mem) (x:HV):(sh x).back=x∧RRes M (sh x):=by cases x <;> exact ⟨rfl,trivial⟩
theorem jXE {m:Nat} {M:Mem} {x:HV} {r:RV} (h:resM m M x=some r):r.back=x∧RRes M r:=by
 match m with
 | 0=>exact zJF h
 | 1=>simp only [resM,vQZ] at h; subst h; exact jXQ M x
 | m + 2 =>
  cases x with
  | o id=>exact zJF (by simpa only [resM] using h)
  | _=>simp only [resM,vQZ] at h; subst h; exact jXQ M _
theorem qZL {v:Value} {p:PV} (h:zYA v=some p):RP F w p v∧v.oneCell'=true:=by
 unfold zYA at h;split at h <;> first | (cases h; done) | (cases h; exact ⟨by constructor,rfl⟩)
theorem zUB {p:PV} {v:Value} (h:RP F w p v):RH ρ F w p.toH v:=by
 cases p with
 | zs=>cases h; rfl
 | _=>exact h
theorem jW (h:Rel' E n ρ F σ a w) {m:Nat} {x:Operand} {r:RV} (hx:opv m σ x=some r):∃ v,ev (actS a) x=some v∧RH ρ F w r.back v∧RRes σ.M r:=by
 cases x with
 | tmp t =>
  simp only [opv,vQQ] at hx;obtain ⟨z,hz,hr⟩:=hx;obtain ⟨v,hv,hrh⟩:=h.slots t z hz;obtain ⟨e,hres⟩:=jXE hr;exact ⟨v,xGV hv,by rw [e]; exact hrh,hres⟩
 | const v =>
  refine ⟨v,rfl,?_⟩;simp only [opv] at hx;unfold yGZ at hx;split at hx
  ·cases hx; exact ⟨rfl,trivial⟩
  ·rename_i cs;simp only [vQQ,vQZ] at hx;obtain ⟨l,hl,rfl⟩:=hx;have ha:=kJ hl;refine ⟨?_,trivial⟩;show RP F w (.a l) (.agg cs)
   have:=RP.a (F:=F) (w:=w) l cs.toList ha.1.symm (fun v hv => ?_) (fun i p v hp hv=>(qZL (ha.2 i v p hv hp)).1)
   ·simpa using this
   ·obtain ⟨i,hi⟩:=List.mem_iff_getElem?.1 hv;obtain ⟨y,hy,hr⟩:=ha.get hi;exact (qZL (F:=F) (w:=w) hr).2
  ·simp only [vQQ,vQZ] at hx;obtain ⟨y,hy,rfl⟩:=hx;exact ⟨(qZL hy).1,trivial⟩
 | func f =>
  simp only [opv,vQZ] at hx;subst hx;exact ⟨.func (.func f) #[] #[],rfl,.f f [] [] [] [] rfl rfl (fun i p v hp=>by simp at hp) (fun i p v hp=>by simp at hp),trivial⟩
 | global g=>cases hx
theorem zKQ (h:Rel' E n ρ F σ a w) {m:Nat} {xs:List Operand} {rs:List RV} (hx:mapO (opv m σ) xs=some rs):∃ vs,evs (actS a) xs=some vs∧Al (fun r v=>RH ρ F w r.back v) rs vs∧∀ r ∈ rs,RRes σ.M r:=by
 induction xs generalizing rs with
 | nil=>simp [mapO] at hx; subst hx; exact ⟨[],rfl,Al.nil,fun r hr=>by cases hr⟩
 | cons x xs ih =>
  simp only [mapO,vQQ,vQZ] at hx;obtain ⟨r,hr,rs',hrs,rfl⟩:=hx;obtain ⟨v,h1,h2,h3⟩:=jW h hr;obtain ⟨vs,h4,h5,h6⟩:=ih hrs;refine ⟨v :: vs,by simp [evs,h1,h4,qWD],Al.cons h2 h5,fun r' hr' => ?_⟩;rcases List.mem_cons.1 hr' with rfl | hr'
  ·exact h3
  ·exact h6 r' hr'
end
end Go.Rx
namespace Go.Rx
open Go.RowKit Go.Sx
theorem qGY {α β:Type} {f:α→Option β} {x:α} {ys:List β} (h:mapO f [x]=some ys):∃ y,f x=some y∧ys=[y]:=by
 simp only [mapO,vQQ,vQZ] at h;obtain ⟨y,hy,zs,rfl,rfl⟩:=h;exact ⟨y,hy,rfl⟩
theorem jKQ {α β:Type} {f:α→Option β} {x x':α} {ys:List β} (h:mapO f [x,x']=some ys):∃ y y',f x=some y∧f x'=some y'∧ys=[y,y']:=by
 simp only [mapO,vQQ,vQZ] at h;obtain ⟨y,hy,zs,⟨y',hy',zs',rfl,rfl⟩,rfl⟩:=h;exact ⟨y,y',hy,hy',rfl⟩
theorem fXX {α β:Type} {f:α→Option β} {x x' x'':α} {ys:List β} (h:mapO f [x,x',x'']=some ys):∃ y y' y'',f x=some y∧f x'=some y'∧f x''=some y''∧ys=[y,y',y'']:=by
 simp only [mapO,vQQ,vQZ] at h;obtain ⟨y,hy,zs,⟨y',hy',zs',⟨y'',hy'',zs'',rfl,rfl⟩,rfl⟩,rfl⟩:=h;exact ⟨y,y',y'',hy,hy',hy'',rfl⟩
theorem qQ {α:Type} {c:Bool} {x:Option α} {y:α} (h:(bif c then x else none)=some y):c=true∧x=some y:=by
 cases c with
 | true=>exact ⟨rfl,h⟩
 | false=>cases h
section
variable {P:Program} {E:Env} {C:Cx} {ρ:Own} {F:Nat→Prop} {σ:St} {a:Act} {w:World} {vs:List RV} {e:Eff}
variable {d:Option Tmp} {ty:TypeId} {pos:String} {af:Array Edge} {g:Option (Nat × Bool)}
theorem zVW {F:Nat→Prop} {w:World} {n:Nat} {f:Nat→List PV} {v:Value} (h:RP F w (.lf (n + 1) f) v):∃ ad c,v=.slice (some ad) (n + 1) c:=by
 obtain ⟨rows,hr,h1⟩:∃ rows,(List.range (n + 1)).map f=rows∧RP F w (.l rows) v:=by
  cases h with | lf _ _ _ h=>exact ⟨_,rfl,h⟩
 have hl:rows.length=n + 1:=by rw [← hr,List.length_map,List.length_range]
 cases h1 with
 | l0 ad c=>simp at hl
 | l _ b off n' c sz g hn=>exact ⟨_,c,by rw [hn,hl]⟩
def OK (P:Program) (E:Env) (C:Cx) (σ:St) (a:Act) (w:World) (e:Eff) (o:Oper):Prop:=Goes P o a w (fun u w'=>Rel E C.n (σ.apply e o.dst) (a.put o.dst u) w')
theorem uWL {x:Operand} (h:Rel' E C.n ρ F σ a w) (hd:dstB C.n d=true) (hvs:mapO (opv 1 σ) [x]=some vs) (he:zH C.T C.cA C.cB C.me (d.getD 0) (.move x) vs=some e):OK P E C σ a w e ⟨d,.move x,ty,pos,af,g⟩:=by
 obtain ⟨r,hr,rfl⟩:=qGY hvs;obtain ⟨v,h1,h2,h3⟩:=jW h hr;cases he;exact jU h (qV h1) h2 hd
theorem jVU {x:Operand} (h:Rel' E C.n ρ F σ a w) (hd:dstB C.n d=true) (hvs:mapO (opv 1 σ) [x]=some vs) (he:zH C.T C.cA C.cB C.me (d.getD 0) (.assign x) vs=some e):OK P E C σ a w e ⟨d,.assign x,ty,pos,af,g⟩:=by
 obtain ⟨r,hr,rfl⟩:=qGY hvs;obtain ⟨v,h1,h2,h3⟩:=jW h hr;cases he;exact jU h (zJ h1) h2 hd
theorem qXZ {x:Bool} {v:Value} (h:RP F w (.b x) v):v=.bool x:=by cases h; rfl
theorem qYA {k:IntKind} {x:Int} {v:Value} (h:RP F w (.n k x) v):v=.int k x:=by cases h; rfl
theorem qGU {x:ByteArray} {v:Value} (h:RP F w (.s x) v):v=.string x:=by cases h; rfl
theorem qHG {cs:List PV} {v:Value} (h:RP F w (.a cs) v):∃ vs:List Value,v=.agg vs.toArray∧Al (RP F w) cs vs∧∀ u ∈ vs,u.oneCell'=true:=by
 cases h with
 | a _ vs hl h1 h=>exact ⟨vs,rfl,⟨hl,h⟩,h1⟩
theorem xJZ {cs:List PV} {v:Value} (h:RP F w (.t cs) v):∃ vs:List Value,v=.tuple vs.toArray∧Al (RP F w) cs vs:=by
 cases h with
 | t _ vs hl h=>exact ⟨vs,rfl,hl,h⟩
theorem uWE {c x y:Operand} (h:Rel' E C.n ρ F σ a w) (hd:dstB C.n d=true) (hvs:mapO (opv 1 σ) [c,x,y]=some vs) (he:zH C.T C.cA C.cB C.me (d.getD 0) (.pick c x y) vs=some e):OK P E C σ a w e ⟨d,.pick c x y,ty,pos,af,g⟩:=by
 obtain ⟨rc,rx,ry,hc,hx,hy,rfl⟩:=fXX hvs;obtain ⟨vc,c1,c2,_⟩:=jW h hc;obtain ⟨vx,x1,x2,_⟩:=jW h hx;obtain ⟨vy,y1,y2,_⟩:=jW h hy;cases rc with
 | v p =>
  cases p with
  | b t =>
   cases he;rw [qXZ c2] at c1;cases t with
   | true=>exact jU h (zVB c1 rfl x1 y1) x2 hd
   | false=>exact jU h (zZH c1 rfl x1 y1) y2 hd
  | _=>cases he
 | _=>cases he
theorem xXH {t:TypeId} {x:Operand} (h:Rel' E C.n ρ F σ a w) (hd:dstB C.n d=true) (hvs:mapO (opv 0 σ) [x]=some vs) (he:zH C.T C.cA C.cB C.me (d.getD 0) (.unOp .not t x) vs=some e):OK P E C σ a w e ⟨d,.unOp .not t x,ty,pos,af,g⟩:=by
 obtain ⟨r,hr,rfl⟩:=qGY hvs;obtain ⟨v,h1,h2,h3⟩:=jW h hr;cases r with
 | v p =>
  cases p with
  | b b =>
   cases he;rw [qXZ h2] at h1;exact jU h (zUL h1) (.b _) hd
  | _=>cases he
 | _=>cases he
theorem xXB {t:TypeId} {x:Operand} (h:Rel' E C.n ρ F σ a w) (hd:dstB C.n d=true) (hvs:mapO (opv 0 σ) [x]=some vs) (he:zH C.T C.cA C.cB C.me (d.getD 0) (.unOp .neg t x) vs=some e):OK P E C σ a w e ⟨d,.unOp .neg t x,ty,pos,af,g⟩:=by
 obtain ⟨r,hr,rfl⟩:=qGY hvs;obtain ⟨v,h1,h2,h3⟩:=jW h hr;cases r with
 | v p =>
  cases p with
  | n k b =>
   cases he;rw [qYA h2] at h1;exact jU h (uWK h1 rfl) (.n _ _) hd
  | _=>cases he
 | _=>cases he
theorem kUW {S:yV} {H:Heap} {w0:Base} {x y:Operand} {t t':TypeId} {p q:Bool} (hb:P.underlying t=some .bool) (hx:ev S x=some (.bool p)) (hy:ev S y=some (.bool q)):OpV P w0 S H ⟨d,.binOp .neq t x y t',ty,pos,af,g⟩ (.bool (!(p == q))) :=
 kY (by simp [yH,Op.operands,hx,hy]) rfl fun w _=>by
  have:=run_neq_bool (P:=P) (w:=w) t p q hb
  simp [execOp,yY hx,yY hy,eqGuard,this]
theorem kUX {S:yV} {H:Heap} {w0:Base} {x y:Operand} {t t':TypeId} {p q:ByteArray} (_:P.underlying t=some .string) (hx:ev S x=some (.string p)) (hy:ev S y=some (.string q)):OpV P w0 S H ⟨d,.binOp .neq t x y t',ty,pos,af,g⟩ (.bool (!(p.toList == q.toList))) :=
 kY (by simp [yH,Op.operands,hx,hy]) rfl fun w _=>by simp [execOp,yY hx,yY hy,eqGuard,binOp,Op.stringOp]
theorem zZA {S:yV} {H:Heap} {w0:Base} {x y:Operand} {t t' el:TypeId} {ad:Option Addr} {n c:Nat} {op:BinOp} {r:Bool} (hu:P.underlying t=some (.slice el)) (hx:ev S x=some (.slice ad n c)) (hy:ev S y=some (.slice none 0 0)) (hop:(op=.eql∧r=ad.isNone) ∨ (op=.neq∧r = !ad.isNone)) :
  OpV P w0 S H ⟨d,.binOp op t x y t',ty,pos,af,g⟩ (.bool r) :=
 kY (by simp [yH,Op.operands,hx,hy]) rfl fun w _=>by
  rcases hop with ⟨rfl,rfl⟩ | ⟨rfl,rfl⟩
  ·have:=run_equal_slice_nil (P:=P) w t el ad n c hu
   simp [execOp,yY hx,yY hy,eqGuard,binOp,this]
  ·have:=run_neq_slice_nil (P:=P) w t el ad n c hu
   simp [execOp,yY hx,yY hy,eqGuard,this]
theorem kQL {op:BinOp} {k:IntKind} {x y:Int} {r:PV} {S:yV} {H:Heap} {w0:Base} {p q:Operand} {t t':TypeId} (hr:binI op k x y=some r) (hx:ev S p=some (.int k x)) (hy:ev S q=some (.int k y)) :
  ∃ v,OpV P w0 S H ⟨d,.binOp op t p q t',ty,pos,af,g⟩ v∧RP F w r v:=by
 cases op <;> first | (cases hr; done) | skip
 all_goals first
  | (cases hr; exact ⟨_,qJQ hx hy rfl,.n _ _⟩)
  | (cases hr; exact ⟨_,zUI hx hy rfl,.n _ _⟩)
  | (cases hr; exact ⟨_,qXI hx hy rfl,.n _ _⟩)
  | (cases hr; exact ⟨_,jWH hx hy rfl,.n _ _⟩)
  | (cases hr; exact ⟨_,qKB hx hy,.b _⟩)
  | (cases hr; exact ⟨_,jWW hx hy,.b _⟩)
  | (cases hr; exact ⟨_,jWG hx hy,.b _⟩)
  | (cases hr; exact ⟨_,uWX hx hy,.b _⟩)
  | (cases hr; exact ⟨_,uWW hx hy,.b _⟩)
  | (cases hr; exact ⟨_,zXQ hx hy,.b _⟩)
  | (simp only [binI] at hr
     cases hz:decide (y=0) with
     | true=>rw [hz] at hr; cases hr
     | false =>
      rw [hz] at hr; cases hr
      have:y ≠ 0:=vJY hz
      first | exact ⟨_,zHH hx hy this rfl,.n _ _⟩ | exact ⟨_,zZG hx hy this rfl,.n _ _⟩)
theorem qGF {F:Nat→Prop} {w:World} {ks:List Kd}:∀ {xs ys:List PV} {us vs:List Value} {e:Bool},zWU xs ys=some e→Al (RP F w) xs us→Al (RP F w) ys vs→eqCells us vs=e
 | [],[],us,vs,e,h,hx,hy=>by rw [hx.nil_left,hy.nil_left]; cases h; rfl
 | x :: xs,y :: ys,us,vs,e,h,hx,hy=>by
  simp only [zWU,vQQ,vQZ] at h;obtain ⟨e1,h1,e2,h2,rfl⟩:=h;obtain ⟨u,us',rfl,hu,hx'⟩:=hx.cons_left;obtain ⟨v,vs',rfl,hv,hy'⟩:=hy.cons_left;simp only [eqCells,qGF (ks:=ks) h2 hx' hy']
  congr 1
  cases x <;> cases y <;> first | (cases h1; done) | skip
  ·rw [qYA hu,qYA hv]; cases h1; rfl
  ·rw [qXZ hu,qXZ hv]; cases h1; rfl
  ·rw [qGU hu,qGU hv]; cases h1; rfl
 | [],_ :: _,_,_,_,h,_,_=>by cases h
 | _ :: _,[],_,_,_,h,_,_=>by cases h
theorem xWF {op:BinOp} {t t':TypeId} {x y:Operand} (hT:TabOk P C.T) (h:Rel' E C.n ρ F σ a w) (hd:dstB C.n d=true) (hvs:mapO (opv 0 σ) [x,y]=some vs) (he:zH C.T C.cA C.cB C.me (d.getD 0) (.binOp op t x y t') vs=some e):OK P E C σ a w e ⟨d,.binOp op t x y t',ty,pos,af,g⟩:=by
 obtain ⟨rx,ry,hx,hy,rfl⟩:=jKQ hvs;obtain ⟨vx,x1,x2,_⟩:=jW h hx;obtain ⟨vy,y1,y2,_⟩:=jW h hy;cases rx with
 | v p =>
  cases ry with
  | v q =>
   have he:((binP C.T op t p q).bind fun r=>some (Eff.val (.v r)))=some e:=he;simp only [vQQ,vQZ] at he;obtain ⟨r,hr,rfl⟩:=he;have x2:RP F w p vx:=x2;have y2:RP F w q vy:=y2
   suffices hs:∃ v,OpV P ⟨w,[]⟩ (actS a) [] ⟨d,.binOp op t x y t',ty,pos,af,g⟩ v∧RP F w r v by
    obtain ⟨v,h1,h2⟩:=hs;exact jU h h1 h2 hd
   unfold binP at hr;split at hr
   ·obtain ⟨hb,hr⟩:=qQ hr;cases hr;rw [qYA x2] at x1; rw [qYA y2] at y1;exact ⟨_,jWX x1 y1 (vJZ hb) rfl,.n _ _⟩
   ·obtain ⟨hb,hr⟩:=qQ hr;cases hr;rw [qYA x2] at x1; rw [qYA y2] at y1;exact ⟨_,yXI x1 y1 (vJZ hb) rfl,.n _ _⟩
   ·obtain ⟨hb,hr2⟩:=qQ hr
    have:=vJZ hb
    subst this;rw [qYA x2] at x1; rw [qYA y2] at y1;exact kQL hr2 x1 y1
   ·obtain ⟨hb,hr⟩:=qQ hr;cases hr;rw [qGU x2] at x1; rw [qGU y2] at y1;exact ⟨_,kUA (hT.str t hb) x1 y1,.b _⟩
   ·obtain ⟨hb,hr⟩:=qQ hr;cases hr;rw [qGU x2] at x1; rw [qGU y2] at y1;exact ⟨_,kUX (hT.str t hb) x1 y1,.b _⟩
   ·obtain ⟨hb,hr⟩:=qQ hr;cases hr;rw [qXZ x2] at x1; rw [qXZ y2] at y1;exact ⟨_,kUB (hT.bo t hb) x1 y1,.b _⟩
   ·obtain ⟨hb,hr⟩:=qQ hr;cases hr;rw [qXZ x2] at x1; rw [qXZ y2] at y1;exact ⟨_,kUW (hT.bo t hb) x1 y1,.b _⟩
   ·simp only [vQQ] at hr;obtain ⟨ks,hks,hr⟩:=hr;obtain ⟨hb,hr⟩:=qQ hr;simp only [vQQ,vQZ] at hr;obtain ⟨b,hb2,rfl⟩:=hr;rw [vQJ] at hb;obtain ⟨us,rfl,hu,_⟩:=qHG x2;obtain ⟨ws,rfl,hw,_⟩:=qHG y2;obtain ⟨hag,hce⟩:=hT.eqK t ks hks;refine ⟨_,uWV 12 rfl hag x1 y1 (hce us ⟨_,F,w,hb.1,hu⟩) (hce ws ⟨_,F,w,hb.2,hw⟩),?_⟩;rw [qGF (ks:=ks) hb2 hu hw]; exact .b _
   ·simp only [vQQ] at hr;obtain ⟨ks,hks,hr⟩:=hr;obtain ⟨hb,hr⟩:=qQ hr;simp only [vQQ,vQZ] at hr;obtain ⟨b,hb2,rfl⟩:=hr;rw [vQJ] at hb;obtain ⟨us,rfl,hu,_⟩:=qHG x2;obtain ⟨ws,rfl,hw,_⟩:=qHG y2;obtain ⟨hag,hce⟩:=hT.eqK t ks hks;refine ⟨_,uWU 12 rfl hag x1 y1 (hce us ⟨_,F,w,hb.1,hu⟩) (hce ws ⟨_,F,w,hb.2,hw⟩),?_⟩;rw [qGF (ks:=ks) hb2 hu hw]; exact .b _
   ·cases hr
  | nl =>
   simp only [zH,vQQ,vQZ] at he;obtain ⟨⟨el,sz⟩,hsl,r,hr,rfl⟩:=he;obtain ⟨hslc,_⟩:=hT.sl t el sz hsl;have hu:P.underlying t=some (.slice el):=by
    unfold slcB at hslc;split at hslc
    ·rename_i e' hu;rw [vQJ] at hslc
     have:e'=el:=by simpa using hslc.1
     rw [hu,this]
    ·cases hslc
   have y2:vy=.slice none 0 0:=y2;subst y2;have x2:RP F w p vx:=x2;unfold uZB at hr;split at hr
   ·cases hr;cases x2 with
    | l=>exact jU h (zZA hu x1 y1 (.inl ⟨rfl,rfl⟩)) (RP.b _) hd
   ·cases hr;cases x2 with
    | l=>exact jU h (zZA hu x1 y1 (.inr ⟨rfl,rfl⟩)) (RP.b _) hd
   ·cases hr;cases x2 with
    | nz=>exact jU h (zZA hu x1 y1 (.inl ⟨rfl,rfl⟩)) (RP.b _) hd
   ·cases hr;cases x2 with
    | ne=>exact jU h (zZA hu x1 y1 (.inl ⟨rfl,rfl⟩)) (RP.b _) hd
   ·cases hr;obtain ⟨ad,c,rfl⟩:=zVW x2;exact jU h (zZA hu x1 y1 (.inl ⟨rfl,rfl⟩)) (RP.b _) hd
   ·cases hr;obtain ⟨ad,c,rfl⟩:=zVW x2;exact jU h (zZA hu x1 y1 (.inr ⟨rfl,rfl⟩)) (RP.b _) hd
   ·cases hr
  | _=>cases he
 | _=>cases he
end
end Go.Rx
namespace Go.Sx
open Go.RowKit
theorem yXQ {ys rest vs:List Value} {p s:Nat} (h:p + s≤ys.length) (_:vs.length=s):((ys ++ rest).take p ++ vs ++ (ys ++ rest).drop (p + s)).take ys.length=ys.take p ++ vs ++ ys.drop (p + s):=by
 have e1:(ys ++ rest).take p=ys.take p:=List.take_append_of_le_length (by omega);have e2:(ys ++ rest).drop (p + s)=ys.drop (p + s) ++ rest:=List.drop_append_of_le_length h;have hl:(ys.take p ++ vs ++ ys.drop (p + s)).length=ys.length:=by simp; omega
 rw [e1,e2,← List.append_assoc,← hl,List.take_left]
section
variable {P:Program} {n:Nat} {w0:Base} {ops:Array Oper} {Q:Exit→Act→World→Prop} {S:yV} {H:Heap}
variable {ty:TypeId} {pos:String} {af:Array Edge} {g:Option (Nat × Bool)} {rest:List Oper}
end
end Go.Sx
namespace Go.Rx
open Go.RowKit Go.Sx
theorem jYH {α:Type} {cs:List α} {k:Nat} {vs:List α} (h:jYA cs k=some vs):vs=cs.take k∧k≤cs.length:=by
 induction k generalizing cs vs with
 | zero=>simp [jYA] at h; simp [h]
 | succ k ih =>
  cases cs with
  | nil=>simp [jYA] at h
  | cons c cs =>
   simp only [jYA,vQQ,vQZ] at h;obtain ⟨ws,hw,rfl⟩:=h;obtain ⟨e,hl⟩:=ih hw;simp [← e,hl]
theorem qUX {α:Type} {cs:List α} {off k:Nat} {vs:List α} (h:qUI cs off k=some vs):vs=(cs.drop off).take k∧off + k≤cs.length:=by
 induction off generalizing cs with
 | zero =>
  have:=jYH (by simpa [qUI] using h)
  simpa using this
 | succ off ih =>
  cases cs with
  | nil=>simp [qUI] at h
  | cons c cs =>
   have:=ih (by simpa [qUI] using h)
   simp [this.1]; omega
theorem qVQ {α:Type} {cs:List α} {off:Nat} {vs cs':List α} (h:qYC cs off vs=some cs') :
  cs'=cs.take off ++ vs ++ cs.drop (off + vs.length)∧off + vs.length≤cs.length:=by
 induction cs generalizing off vs cs' with
 | nil =>
  cases off with
  | zero=>cases vs with
   | nil=>simp [qYC] at h; simp [h]
   | cons v vs=>simp [qYC] at h
  | succ off=>simp [qYC] at h
 | cons c cs ih =>
  cases off with
  | zero=>cases vs with
   | nil=>simp [qYC] at h; simp [h]
   | cons v vs =>
    simp only [qYC,vQQ,vQZ] at h;obtain ⟨ws,hw,rfl⟩:=h;obtain ⟨e,hl⟩:=ih hw;simp at e hl ⊢;exact ⟨e,hl⟩
  | succ off =>
   simp only [qYC,vQQ,vQZ] at h;obtain ⟨ws,hw,rfl⟩:=h;obtain ⟨e,hl⟩:=ih hw;simp [e,show off + 1 + vs.length=(off + vs.length) + 1 by omega]; omega
section
variable {P:Program} {E:Env} {C:Cx} {ρ:Own} {F:Nat→Prop} {σ:St} {a:Act} {w:World} {vs:List RV} {e:Eff}
variable {d:Option Tmp} {ty:TypeId} {pos:String} {af:Array Edge} {g:Option (Nat × Bool)}
theorem rp_z {rows:List (List PV)} {j o:Nat} {v:Value} (h:RP F w (.z rows j o) v):∃ (b off sz:Nat) (g:Nat→Nat→Value),v=.pointer (some ⟨b,off + (j * sz + o),none⟩)∧(∀ r ∈ rows,r.length=sz)∧F b ∧
  (∀ j t,j < rows.length→t < sz→w.cell? ⟨b,off + (j * sz + t),none⟩=some (g j t)∧(g j t).oneCell'=true)∧(∀ (j:Nat) r (t:Nat) p,rows[j]? = some r→r[t]? = some p→RP F w p (g j t)):=by
 cases h with
 | z _ b off sz _ _ g hs hF hc h=>exact ⟨b,off,sz,g,rfl,hs,hF,hc,h⟩
theorem rp_c {cells:List PV} {o:Nat} {v:Value} (h:RP F w (.c cells o) v):∃ b ty vs,v=.pointer (some ⟨b,o,none⟩)∧F b∧w.heap[b]? = some (.cells vs.toArray ty)∧Al (RP F w) cells vs∧∀ u ∈ vs,u.oneCell'=true:=by
 cases h with
 | c _ vs b _ ty hF hb hl h1 h=>exact ⟨b,ty,vs,rfl,hF,hb,⟨hl,h⟩,h1⟩
theorem qGA {rows:List (List PV)} {b off sz:Nat} {g:Nat→Nat→Value} (hs:∀ r ∈ rows,r.length=sz) (hF:F b)
  (hc:∀ j t,j < rows.length→t < sz→w.cell? ⟨b,off + (j * sz + t),none⟩=some (g j t)∧(g j t).oneCell'=true) (h:∀ (j:Nat) r (t:Nat) p,rows[j]? = some r→r[t]? = some p→RP F w p (g j t))
  {j o x:Nat} (hx:x=off + (j * sz + o)):RP F w (.z rows j o) (.pointer (some ⟨b,x,none⟩)):=by
 subst hx; exact .z rows b off sz j o g hs hF hc h
theorem yYH {n:Nat} {f:Nat→List PV} {v:Value} (h:RP F w (.lf n f) v):RP F w (.l ((List.range n).map f)) v:=by
 cases h with
 | lf _ _ _ h=>exact h
theorem yXA {n:Nat} {f:Nat→List PV} {j o:Nat} {v:Value} (h:RP F w (.zf n f j o) v):j < n∧∃ (b off sz:Nat) (g:Nat→Nat→Value),v=.pointer (some ⟨b,off + (j * sz + o),none⟩)∧(∀ r ∈ (List.range n).map f,r.length=sz)∧F b ∧
  (∀ j t,j < ((List.range n).map f).length→t < sz→w.cell? ⟨b,off + (j * sz + t),none⟩=some (g j t)∧(g j t).oneCell'=true)∧∀ (j:Nat) r (t:Nat) p,((List.range n).map f)[j]? = some r→r[t]? = some p→RP F w p (g j t):=by
 cases h with
 | zf _ _ _ _ _ hj h=>exact ⟨hj,rp_z h⟩
theorem kUU {S:yV} {H:Heap} {w0:Base} {x:Operand} {ad:Addr} (hx:ev S x=some (.pointer (some ad))):OpV P w0 S H ⟨d,.nilCheck x,ty,pos,af,g⟩ (.pointer (some ad)):=yJU hx
theorem xXA {x:Operand} (h:Rel' E C.n ρ F σ a w) (hd:dstB C.n d=true) (hvs:mapO (opv 1 σ) [x]=some vs) (he:zH C.T C.cA C.cB C.me (d.getD 0) (.nilCheck x) vs=some e):OK P E C σ a w e ⟨d,.nilCheck x,ty,pos,af,g⟩:=by
 obtain ⟨r,hr,rfl⟩:=qGY hvs;obtain ⟨v,h1,h2,h3⟩:=jW h hr
 suffices hs:∃ ad,v=.pointer (some ad)∧e=.val r.back by
  obtain ⟨ad,rfl,rfl⟩:=hs;exact jU h (kUU h1) h2 hd
 cases r with
 | v p =>
  cases p with
  | z rows j o=>cases he; obtain ⟨b,off,sz,g,rfl,_⟩:=rp_z h2; exact ⟨_,rfl,rfl⟩
  | c cells o=>cases he; obtain ⟨b,ty,vs,rfl,_⟩:=rp_c h2; exact ⟨_,rfl,rfl⟩
  | zf n f j o=>cases he; obtain ⟨_,b,off,sz,g,rfl,_⟩:=yXA h2; exact ⟨_,rfl,rfl⟩
  | _=>cases he
 | w x =>
  cases x with
  | p id off=>cases he; obtain ⟨b,_,rfl⟩:=h2; exact ⟨_,rfl,rfl⟩
  | q id j off=>cases he; obtain ⟨b,c,k,sz,_,_,rfl⟩:=h2; exact ⟨_,rfl,rfl⟩
  | _=>cases he
 | _=>cases he
theorem yJC {t:TypeId} {f:Nat} {x:Operand} (hT:TabOk P C.T) (h:Rel' E C.n ρ F σ a w) (hd:dstB C.n d=true) (hvs:mapO (opv 1 σ) [x]=some vs) (he:zH C.T C.cA C.cB C.me (d.getD 0) (.fieldAddr t x f) vs=some e):OK P E C σ a w e ⟨d,.fieldAddr t x f,ty,pos,af,g⟩:=by
 obtain ⟨r,hr,rfl⟩:=qGY hvs;obtain ⟨v,h1,h2,h3⟩:=jW h hr;cases hf:C.T.fd t f with
 | none=>simp only [zH,hf] at he; cases he
 | some o =>
  have hF:=hT.fd t f o hf;cases r with
  | v p =>
   cases p with
   | z rows j off =>
    simp only [zH,hf] at he; cases he;obtain ⟨b,off0,sz,g,rfl,q1,q2,q3,q4⟩:=rp_z h2;exact jU h (zV hF h1) (qGA q1 q2 q3 q4 (by omega)) hd
   | c cells off =>
    simp only [zH,hf] at he; cases he;obtain ⟨b,ty',vs,rfl,q1,q2,q3,q4⟩:=rp_c h2;exact jU h (zV hF h1) (RP.c cells vs b _ ty' q1 q2 q3.1 q4 q3.2) hd
   | zf n f j off =>
    simp only [zH,hf] at he; cases he;obtain ⟨hj,b,off0,sz,g,rfl,q1,q2,q3,q4⟩:=yXA h2;exact jU h (zV hF h1) (RP.zf _ _ _ _ _ hj (qGA q1 q2 q3 q4 (by omega))) hd
   | _=>simp only [zH,hf] at he; cases he
  | w x =>
   cases x with
   | p id off=>simp only [zH,hf] at he; cases he; obtain ⟨b,q,rfl⟩:=h2; exact jU h (zV hF h1) ⟨b,q,rfl⟩ hd
   | q id j off=>simp only [zH,hf] at he; cases he; obtain ⟨b,c,k,sz,q,hj,rfl⟩:=h2; exact jU h (zV hF h1) ⟨b,c,k,sz,q,hj,by rw [Nat.add_assoc]⟩ hd
   | _=>simp only [zH,hf] at he; cases he
  | _=>simp only [zH,hf] at he; cases he
theorem qXQ {i:Int} {n:Nat} (h:inB i n=true):0≤i∧i < n:=by
 simp only [inB,vQJ,decide_eq_true_eq] at h; omega
theorem yJB {t:TypeId} {x y:Operand} (hT:TabOk P C.T) (h:Rel' E C.n ρ F σ a w) (hd:dstB C.n d=true) (hvs:mapO (opv 2 σ) [x,y]=some vs) (he:zH C.T C.cA C.cB C.me (d.getD 0) (.indexAddr t x y) vs=some e):OK P E C σ a w e ⟨d,.indexAddr t x y,ty,pos,af,g⟩:=by
 obtain ⟨rx,ry,hx,hy,rfl⟩:=jKQ hvs;obtain ⟨vx,x1,x2,x3⟩:=jW h hx;obtain ⟨vy,y1,y2,_⟩:=jW h hy;cases ry with
 | v py =>
  cases py with
  | n k i =>
   rw [qYA y2] at y1;have arr:∀ {b off len size:Nat} {x':HV},vx=.pointer (some ⟨b,off,none⟩)→arrB P t len size=true→inB i len=true→e=.val x'→RH ρ F w x' (.pointer (some ⟨b,off + i.toNat * size,none⟩))→OK P E C σ a w e ⟨d,.indexAddr t x y,ty,pos,af,g⟩:=by
    intro b off len size x' hv hA hi he hr;subst hv; subst he;obtain ⟨i0,i1⟩:=qXQ hi;exact jU h (qWY hA x1 y1 i0 i1) hr hd
   cases rx with
   | v p =>
    cases p with
    | c cells off =>
     simp only [zH,vQQ] at he;obtain ⟨kk,hk,he⟩:=he;obtain ⟨hi,he⟩:=qQ he;cases he;obtain ⟨b,ty',vs,hv,q1,q2,q3,q4⟩:=rp_c x2;exact arr hv (hT.ar t kk.1 kk.2.1 kk.2.2 hk).1 hi rfl (RP.c cells vs b _ ty' q1 q2 q3.1 q4 q3.2)
    | z rows j off =>
     simp only [zH,vQQ] at he;obtain ⟨kk,hk,he⟩:=he;obtain ⟨hi,he⟩:=qQ he;cases he;obtain ⟨b,off0,sz,g,hv,q1,q2,q3,q4⟩:=rp_z x2;exact arr hv (hT.ar t kk.1 kk.2.1 kk.2.2 hk).1 hi rfl (qGA q1 q2 q3 q4 (by omega))
    | zf n f j off =>
     simp only [zH,vQQ] at he;obtain ⟨kk,hk,he⟩:=he;obtain ⟨hi,he⟩:=qQ he;cases he;obtain ⟨hj,b,off0,sz,g,hv,q1,q2,q3,q4⟩:=yXA x2;exact arr hv (hT.ar t kk.1 kk.2.1 kk.2.2 hk).1 hi rfl (RP.zf _ _ _ _ _ hj (qGA q1 q2 q3 q4 (by omega)))
    | lf n f =>
     simp only [zH,vQQ] at he;obtain ⟨kk,hk,he⟩:=he;obtain ⟨hi,he⟩:=qQ he;cases he;rw [vQJ] at hi;obtain ⟨i0,i1⟩:=qXQ hi.1;have hl:=vQX hi.2;have hr:((List.range n).map f)[i.toNat]? = some (f i.toNat):=by
      rw [vZY,List.getElem?_range (by omega)]; rfl
     have x3:=yYH x2;have hz:∀ v,RP F w (.z ((List.range n).map f) i.toNat 0) v→RP F w (.zf n f i.toNat 0) v:=fun v hv=>.zf _ _ _ _ _ (by omega) hv
     generalize (List.range n).map f=rows at hr x3 hz;have hlt:=(List.getElem?_eq_some_iff.1 hr).1;cases x3 with
     | l0=>simp at hr
     | l _ b off n c sz g hn hcap hs hF hc hh =>
      have hsz:sz=kk.2:=by rw [← hs _ (vQG hr)]; exact hl
      subst hn;refine jU h (qXY (hT.sl t kk.1 kk.2 hk).1 x1 y1 i0 (by omega)) (hz _ (qGA hs hF (fun j t hj ht=>hc j t hj ht) hh (by rw [hsz]; omega))) hd
    | l rows =>
     simp only [zH,vQQ] at he;obtain ⟨kk,hk,r,hr,he⟩:=he;obtain ⟨hi,he⟩:=qQ he;cases he;simp only [vQJ,decide_eq_true_eq] at hi;obtain ⟨i0,hl⟩:=hi;have hl:=vQX hl;have hlt:=(List.getElem?_eq_some_iff.1 hr).1;cases x2 with
     | l0=>simp at hr
     | l _ b off n c sz g hn hcap hs hF hc hh =>
      have hsz:sz=kk.2:=by rw [← hs r (vQG hr)]; exact hl
      subst hn;refine jU h (qXY (hT.sl t kk.1 kk.2 hk).1 x1 y1 i0 (by omega)) (qGA hs hF (fun j t hj ht=>hc j t hj ht) hh (by rw [hsz]; omega)) hd
    | _=>simp only [zH] at he; cases he
   | o id e' sz rows =>
    simp only [zH,vQQ] at he;obtain ⟨kk,hk,he⟩:=he;obtain ⟨hi,he⟩:=qQ he;cases he;rw [vQJ] at hi;obtain ⟨i0,i1⟩:=qXQ hi.1;have hsz:=vQX hi.2;obtain ⟨ad,c,k',sz',hρ,rfl⟩:=x2;obtain ⟨ad2,c2,vr,hρ2,h0,hal,hrl,hone,hown⟩:=h.mem.ent id _ x3;rw [hρ] at hρ2;simp only [vQZ,Loc.reg.injEq] at hρ2;obtain ⟨rfl,rfl,rfl,rfl⟩:=hρ2;rcases hown.2 with ⟨hnil,h00⟩ | ⟨gg,cap,cur,hsl,_⟩
    ·omega
    ·simp only [Value.slice.injEq] at hsl;obtain ⟨rfl,_,rfl⟩:=hsl;refine jU h (qXY (hT.sl t kk.1 kk.2 hk).1 x1 y1 i0 i1) ⟨gg,c,rows.len,sz',hρ,by omega,by rw [Nat.zero_add,Nat.add_zero,hsz]⟩ hd
   | w xx =>
    cases xx with
    | p id off =>
     simp only [zH,vQQ] at he;obtain ⟨kk,hk,he⟩:=he;obtain ⟨hi,he⟩:=qQ he;cases he;obtain ⟨b,q,hv⟩:=x2;exact arr hv (hT.ar t kk.1 kk.2.1 kk.2.2 hk).1 hi rfl ⟨b,q,rfl⟩
    | q id j off =>
     simp only [zH,vQQ] at he;obtain ⟨kk,hk,he⟩:=he;obtain ⟨hi,he⟩:=qQ he;cases he;obtain ⟨b,c,k',sz,q,hj,hv⟩:=x2;exact arr hv (hT.ar t kk.1 kk.2.1 kk.2.2 hk).1 hi rfl ⟨b,c,k',sz,q,hj,by rw [Nat.add_assoc]⟩
    | _=>simp only [zH] at he; cases he
   | _=>simp only [zH] at he; cases he
  | _=>cases rx <;> (simp only [zH] at he; cases he)
 | _=>cases rx <;> (simp only [zH] at he; cases he)
theorem jJD {x:Operand} {i:Nat} (h:Rel' E C.n ρ F σ a w) (hd:dstB C.n d=true) (hvs:mapO (opv 0 σ) [x]=some vs) (he:zH C.T C.cA C.cB C.me (d.getD 0) (.extract x i) vs=some e):OK P E C σ a w e ⟨d,.extract x i,ty,pos,af,g⟩:=by
 obtain ⟨r,hr,rfl⟩:=qGY hvs;obtain ⟨v,h1,h2,h3⟩:=jW h hr;cases r with
 | v p =>
  cases p with
  | t cs =>
   simp only [zH,vQQ] at he;obtain ⟨c,hc,he⟩:=he;cases he;obtain ⟨us,rfl,hu⟩:=xJZ h2;obtain ⟨u,hu1,hu2⟩:=hu.get hc;exact jU h (yXL h1 (by simpa using hu1)) (zUB hu2) hd
  | _=>simp only [zH] at he; cases he
 | _=>simp only [zH] at he; cases he
end
end Go.Rx
namespace Go.Rx
open Go.RowKit Go.Sx
theorem mem_catR {α:Type} {f:α→Regs} {xs:List α} {i:Nat × Rows}:i ∈ catR f xs ↔ ∃ x ∈ xs,i ∈ f x:=by
 induction xs with
 | nil=>simp [catR]
 | cons x xs ih =>
  have:catR f (x :: xs)=f x ++ catR f xs:=by simp only [catR]; cases f x <;> simp
  simp [this,ih]
def frzρ (rs:Regs) (ρ:Own):Own:=fun id=>if id ∈ rs.map (·.1) then none else ρ id
def frzF (rs:Regs) (ρ:Own) (F:Nat→Prop):Nat→Prop:=fun k=>F k ∨ ∃ id L,id ∈ rs.map (·.1)∧ρ id=some L∧L.bl=some k
section
variable {P:Program} {E:Env} {n:Nat} {ρ:Own} {F:Nat→Prop} {σ:St} {a:Act} {w:World}
theorem jKI {sz:Nat} {rows:List (List PV)} {vr:List (List Value)} (hal:Al (Al (RP F w)) rows vr) (hr:∀ r ∈ rows,r.length=sz):∀ r ∈ vr,r.length=sz:=fun r hrv=>by
 obtain ⟨i,hi⟩:=List.mem_iff_getElem?.1 hrv;have hil:=(List.getElem?_eq_some_iff.1 hi).1;have hl:i < rows.length:=by rw [hal.1]; exact hil
 have:=hal.2 i _ r (vQK hl) hi
 rw [← this.1]; exact hr _ (List.getElem_mem hl)
theorem yXC {id e sz:Nat} {rows:Rows} (h:EntOk ρ F w id (.reg e sz rows)) {F':Nat→Prop} (hF:∀ k,F k→F' k) (hb:∀ L b,ρ id=some L→L.bl=some b→F' b) :
  ∀ a c k sz',ρ id=some (.reg a c k sz')→RP F' w (.l rows.L) (.slice a k c)∧∀ b j off,a=some ⟨b,0,none⟩→RP F' w (.z rows.L j off) (.pointer (some ⟨b,j * sz' + off,none⟩)):=by
 intro a' c' k' sz' hρ;obtain ⟨a,c,vr,h1,h2,h3,h4,h5,h6⟩:=h;rw [← Rows.len_L] at h1 h6;generalize rows.L=rows at *;rw [hρ] at h1;simp only [vQZ,Loc.reg.injEq] at h1;obtain ⟨rfl,rfl,rfl,rfl⟩:=h1;have hvr:=jKI h3 h4;have hlen:=h3.1;have hslc:qJA sz' a' vr w:=by
  have:OwnF 0 e sz' a' c' vr.length vr.flatten w:=by unfold OwnF; rw [← hlen]; exact h6
  exact zHV hvr this
 have cells:∀ (b:Nat),a'=some ⟨b,0,none⟩→(∀ j t,j < rows.length→t < sz'→w.cell? ⟨b,0 + (j * sz' + t),none⟩=some (((vr.getD j []).getD t undef))∧(((vr.getD j []).getD t undef)).oneCell'=true):=by
  intro b hab j t hj ht;have hjv:j < vr.length:=by omega
  have hg:vr[j]? = some vr[j]:=vQK hjv;obtain ⟨hl,b2,off2,he,_,hc⟩:=hslc j _ hg;rw [hab] at he;simp only [vQZ,Addr.mk.injEq,and_true] at he;obtain ⟨rfl,rfl⟩:=he
  have:=hc t ht
  have ht2:t < vr[j].length:=by rw [hl]; exact ht
  rw [vQK ht2] at this;have e1:(vr.getD j []).getD t undef=vr[j][t]:=by simp [vZG,hg,vQK ht2]
  rw [e1];refine ⟨by rw [← Nat.add_assoc]; exact this,h5 _ (List.getElem_mem hjv) _ (List.getElem_mem ht2)⟩
 have vals:∀ (j:Nat) r (t:Nat) p,rows[j]? = some r→r[t]? = some p→RP F' w p ((vr.getD j []).getD t undef):=by
  intro j r t p hj ht;obtain ⟨u,hu,hru⟩:=h3.get hj;obtain ⟨v,hv,hrv⟩:=hru.get ht;have e1:(vr.getD j []).getD t undef=v:=by simp [vZG,hu,hv]
  rw [e1];exact hrv.mono fun k hk=>⟨hF k hk,rfl⟩
 refine ⟨?_,fun b j off hab => ?_⟩
 ·rcases h6.2 with ⟨hnil,h0⟩ | ⟨gg,cap,cur,hsl,_⟩
  ·have:rows=[]:=List.eq_nil_of_length_eq_zero h0
   subst this;exact .l0 _ _
  ·rename_i hrest;simp only [Value.slice.injEq] at hsl;obtain ⟨rfl,_,rfl⟩:=hsl;exact .l rows gg 0 rows.length _ sz' (fun j t=>(vr.getD j []).getD t undef) rfl hrest.2.2.1 h4 (hb _ gg hρ rfl) (cells gg rfl) vals
 ·subst hab;exact qGA (off:=0) h4 (hb _ b hρ rfl) (cells b rfl) vals (by omega)
theorem fZB {rows:Rows} {F:Nat→Prop} {v:Value} (h:RP F w (.l rows.L) v):RP F w rows.pv v:=by
 cases rows with
 | l rows=>exact h
 | fo n f=>exact .lf _ _ _ h
theorem fZA {rows:Rows} {j off:Nat} {F:Nat→Prop} {v:Value} (hj:j < rows.len) (h:RP F w (.z rows.L j off) v):RP F w (rows.pz j off) v:=by
 cases rows with
 | l rows=>exact h
 | fo n f=>exact .zf _ _ _ _ _ hj h
theorem qZA {id e sz:Nat} {rows:Rows} (h:EntOk ρ F w id (.reg e sz rows)) {F':Nat→Prop} (hF:∀ k,F k→F' k) (hb:∀ L b,ρ id=some L→L.bl=some b→F' b) :
  ∀ a c k sz',ρ id=some (.reg a c k sz')→RP F' w rows.pv (.slice a k c)∧∀ b j off,a=some ⟨b,0,none⟩→j < k→RP F' w (rows.pz j off) (.pointer (some ⟨b,j * sz' + off,none⟩)):=by
 intro a c k sz' hρ;obtain ⟨h1,h2⟩:=yXC h hF hb a c k sz' hρ;obtain ⟨a2,c2,vr,q1,_⟩:=h;rw [hρ] at q1;simp only [vQZ,Loc.reg.injEq] at q1;obtain ⟨_,_,rfl,_⟩:=q1;exact ⟨fZB h1,fun b j off e hj=>fZA hj (h2 b j off e)⟩
theorem kYK {rs:Regs} {id:Nat} {x:Option Rows} (h:uJ (rs.map fun r=>(r.1,some r.2)) id=some x):∃ rows,x=some rows∧(id,rows) ∈ rs:=by
 induction rs with
 | nil=>simp [uJ] at h
 | cons r rs ih =>
  simp only [List.map_cons,uJ] at h;by_cases e:r.1=id
  ·subst e; simp at h; subst h; exact ⟨r.2,rfl,vZQ⟩
  ·rw [qYI e,vYG] at h;obtain ⟨rows,h1,h2⟩:=ih h;exact ⟨rows,h1,vQH _ h2⟩
theorem sub_find_none {rs:Regs} {id:Nat}:uJ (rs.map fun r=>(r.1,some r.2)) id=none ↔ id ∉ rs.map (·.1):=by
 induction rs with
 | nil=>simp [uJ]
 | cons r rs ih =>
  simp only [List.map_cons,uJ,vYZ,not_or];by_cases e:r.1=id
  ·subst e; simp
  ·rw [qYI e,vYG,ih]; simp [Ne.symm e]
theorem jUK {rs:Regs} {id:Nat} {x:Option Ent} (h:uQ (rs.map fun r=>(r.1,none)) id=some x):x=none∧id ∈ rs.map (·.1):=by
 have:=zQL h
 obtain ⟨r,hr,he⟩:=List.mem_map.1 this;simp only [vQY] at he;exact ⟨he.2.symm,List.mem_map.2 ⟨r,hr,he.1⟩⟩
theorem up_none_iff {rs:Regs} {id:Nat}:uQ (rs.map fun r=>(r.1,(none:Option Ent))) id=none ↔ id ∉ rs.map (·.1):=by
 rw [upFind_none]; simp
variable (rs:Regs)
theorem jHE (h:Rel' E n ρ F σ a w) (hrs:∀ r ∈ rs,∃ e sz,yK σ.M r.1=some (.reg e sz r.2)):Turns (rs.map fun r=>(r.1,some r.2)) ρ (frzρ rs ρ) F (frzF rs ρ F) w w:=by
 refine ⟨fun id b hb => ?_,fun id L hL hs => ?_,fun id rows a' c k sz hρ hs => ?_,fun k hk=>⟨.inl hk,rfl⟩⟩
 ·unfold frzρ;rw [if_neg fun hm => ?_]
  ·exact hb
  ·obtain ⟨r,hr,rfl⟩:=List.mem_map.1 hm;obtain ⟨e,sz,hl⟩:=hrs r hr;obtain ⟨a2,c2,vr,h1,_⟩:=h.mem.ent r.1 _ hl;rw [hb] at h1; cases h1
 ·unfold frzρ;rw [if_neg (sub_find_none.1 hs)]; exact hL
 ·obtain ⟨rows',he,hm⟩:=kYK hs;cases he;obtain ⟨e,sz2,hl⟩:=hrs _ hm;exact qZA (h.mem.ent id _ hl) (fun k hk=>.inl hk) (fun L b hL hb=>.inr ⟨id,L,List.mem_map.2 ⟨_,hm,rfl⟩,hL,hb⟩) a' c k sz hρ
theorem Rel'.frz (h:Rel' E n ρ F σ a w) (hrs:∀ r ∈ rs,∃ e sz,yK σ.M r.1=some (.reg e sz r.2)) {x:HV} {v:Value} {dst:Option Nat} (hd:dstB n dst=true) (hx:RH (frzρ rs ρ) (frzF rs ρ F) w x v) :
  Rel' E n (frzρ rs ρ) (frzF rs ρ F) (σ.apply (.frz rs x) dst) (a.put dst v) w:=by
 have ht:=jHE rs h hrs;have e1:(Eff.frz rs x).up=rs.map fun r=>(r.1,none):=by cases rs <;> rfl
 have e2:(Eff.frz rs x).sb=rs.map fun r=>(r.1,some r.2):=by cases rs <;> rfl
 have e3:(Eff.frz rs x).x=x:=by cases rs <;> rfl
 have hsome:∀ id L,frzρ rs ρ id=some L→id ∉ rs.map (·.1)∧ρ id=some L:=fun id L hL=>by
  unfold frzρ at hL;split at hL
  ·cases hL
  ·rename_i hn; exact ⟨hn,hL⟩
 refine h.apply (.frz rs x) dst v (fun d e=>by subst e; simpa [dstB] using hd) (by rw [e2]; exact ht) (by rw [e3]; exact hx) (fun _ _ _ _ _ _=>rfl) (fun id hu => ?_) (fun id hu => ?_) (fun id y hu => ?_) (fun id id' L L' b hL hL' => ?_) (fun id L b hL hb => ?_) (fun k hk => ?_) h.mem.grow
 ·rw [e1,up_none_iff] at hu; rw [e2]; exact sub_find_none.2 hu
 ·rw [e1,up_none_iff] at hu; unfold frzρ; rw [if_neg hu]
 ·rw [e1] at hu;obtain ⟨rfl,hm⟩:=jUK hu;simp only [frzρ,if_pos hm]
 ·exact h.mem.apart id id' L L' b (hsome id L hL).2 (hsome id' L' hL').2
 ·obtain ⟨hn,hL⟩:=hsome id L hL
  have:=h.mem.off id L b hL hb
  refine ⟨fun hf => ?_,this.2⟩;rcases hf with hf | ⟨id',L',hm,hL',hb'⟩
  ·exact this.1 hf
  ·exact hn ((h.mem.apart id id' L L' b hL hL' hb hb') ▸ hm)
 ·rcases hk with hk | ⟨id,L,hm,hL,hb⟩
  ·exact h.mem.fz k hk
  ·have:=(h.mem.off id L k hL hb).2; exact ⟨this.1,.inr this.2⟩
theorem jUI {o:Oper} (h:Rel' E n ρ F σ a w) (hrs:∀ r ∈ rs,∃ e sz,yK σ.M r.1=some (.reg e sz r.2)) {x:HV} {v:Value} (hop:OpV P ⟨w,[]⟩ (actS a) [] o v) (hx:RH (frzρ rs ρ) (frzF rs ρ F) w x v) (hd:dstB n o.dst=true) :
  Goes P o a w (fun u w'=>Rel E n (σ.apply (.frz rs x) o.dst) (a.put o.dst u) w') :=
 (yVI h.size hop).mono fun u w' ⟨hu,g⟩=>by
  subst hu;have hb:∀ k,frzF rs ρ F k→frzF rs ρ F k∧w'.heap[k]? = w.heap[k]?:=fun k hk=>⟨hk,g.block k (by
   rcases hk with hk | ⟨id,L,_,hL,hb⟩
   ·exact (h.mem.fz k hk).1
   ·exact (h.mem.off id L k hL hb).2.1)⟩
  exact ⟨_,_,(h.grow g).frz rs hrs hd (hx.mono (fun _ _ h=>h) hb)⟩
end
section
variable {P:Program} {E:Env} {C:Cx} {ρ:Own} {F:Nat→Prop} {σ:St} {a:Act} {w:World} {vs:List RV} {e:Eff}
variable {d:Option Tmp} {ty:TypeId} {pos:String} {af:Array Edge} {g:Option (Nat × Bool)}
def At (w:World) (b base:Nat) (vr:List Value):Prop:=∀ (i:Nat) v,vr[i]? = some v→w.cell? ⟨b,base + i,none⟩=some v
theorem jQL {t:TypeId} {x:Operand} {b base o:Nat} {vr:List Value} {v:Value} (hT:tyB P t false 1=true) (hx:ev (actS a) x=some (.pointer (some ⟨b,base + o,none⟩))) (hb:b < w.heap.size) (hA:At w b base vr) (hv:vr[o]? = some v) :
  OpV P ⟨w,[]⟩ (actS a) [] ⟨d,.load t x,ty,pos,af,g⟩ v:=zHB hT hx hb (hA o v hv)
theorem yKZ {t:TypeId} {x:Operand} {b base o k:Nat} {vr:List Value} (hT:tyB P t true k=true) (hx:ev (actS a) x=some (.pointer (some ⟨b,base + o,none⟩))) (hb:b < w.heap.size) (hA:At w b base vr) (_:o + k≤vr.length) :
  OpV P ⟨w,[]⟩ (actS a) [] ⟨d,.load t x,ty,pos,af,g⟩ (.agg ((vr.drop o).take k).toArray) :=
 zHA hT hx hb (by simp; omega) fun i hi=>by
  rw [vZV,if_pos hi,List.getElem?_drop];have hlt:o + i < vr.length:=by omega
  rw [vQK hlt,Nat.add_assoc];exact hA (o + i) _ (vQK hlt)
theorem yZC {R:PV→Value→Prop} {r:List PV} {vr:List Value} {o k:Nat} (h:Al R r vr):Al R ((r.drop o).take k) ((vr.drop o).take k):=(h.drop o).take k
theorem qHV {cs:List PV} {vs:List Value} (h:Al (RP F w) cs vs) (h1:∀ u ∈ vs,u.oneCell'=true):RP F w (.a cs) (.agg vs.toArray):=.a cs vs h.1 h1 h.2
theorem zHC {t:TypeId} {x:Operand} {k:Bool × Nat} {b base off:Nat} {r:List PV} {vr:List Value} (hT:TabOk P C.T) (h:Rel' E C.n ρ F σ a w) (hd:dstB C.n d=true) (hk:C.T.sz t=some k)
  (hx:ev (actS a) x=some (.pointer (some ⟨b,base + off,none⟩))) (hb:b < w.heap.size) (hA:At w b base vr) (hal:Al (RP F w) r vr) (h1:∀ u ∈ vr,u.oneCell'=true)
  (he:(bif k.1 then (qUI r off k.2).bind fun cs=>some (Eff.val (.v (.a cs))) else (r[off]?).bind fun c=>some (Eff.val c.toH))=some e):OK P E C σ a w e ⟨d,.load t x,ty,pos,af,g⟩:=by
 obtain ⟨kb,kn⟩:=k;obtain ⟨hty,hone⟩:=hT.sz t kb kn hk;cases kb with
 | true =>
  simp only [vYV,vQQ,vQZ] at he;obtain ⟨cs,hcs,rfl⟩:=he;obtain ⟨rfl,hl⟩:=qUX hcs;exact jU h (yKZ hty hx hb hA (by rw [← hal.1]; exact hl)) (qHV (yZC hal) fun u hu=>h1 u (List.mem_of_mem_drop (List.mem_of_mem_take hu))) hd
 | false =>
  simp only [vYG,vQQ,vQZ] at he;obtain ⟨c,hc,rfl⟩:=he;obtain ⟨v,hv,hr⟩:=hal.get hc;rw [hone rfl] at hty;exact jU h (jQL hty hx hb hA hv) (zUB hr) hd
theorem kZQ {b:Nat} {vs:List Value} {ty':TypeId} (h:w.heap[b]? = some (.cells vs.toArray ty')):At w b 0 vs:=fun i v hv=>by
 rw [Nat.zero_add,qVG h,hv]
theorem zYG {M:Mem} {hc:List HV} {cs:List CV} {vs:List Value} (h:mapO (cvOf M) hc=some cs) (hal:Al (RH ρ F w) hc vs):Al (fun c v=>RH ρ F w c.back v∧∀ id e sz rows,c=.o id e sz rows→yK M id=some (.reg e sz rows)) cs vs:=by
 have h1:=kJ h;refine ⟨by rw [← h1.1,hal.1],fun i c v hc' hv => ?_⟩;have hil:=(List.getElem?_eq_some_iff.1 hc').1;have hl:i < hc.length:=by rw [h1.1]; exact hil
 have hcv:=h1.2 i _ c (vQK hl) hc';have hrh:=hal.2 i _ v (vQK hl) hv;generalize hc[i]=x at hcv hrh;cases x with
 | o id =>
  simp only [cvOf] at hcv;split at hcv
  ·rename_i e' sz rows hlk;cases hcv;refine ⟨hrh,fun id' e2 sz2 fZC heq => ?_⟩;cases heq; exact hlk
  ·cases hcv
 | _=>simp only [cvOf,vQZ] at hcv; subst hcv; exact ⟨hrh,fun id e sz rows heq=>by cases heq⟩
theorem kQF (h:Rel' E C.n ρ F σ a w) (rs:Regs) {c:CV} {p:PV} {v:Value} (hp:c.fz=some p) (hc:RH ρ F w c.back v) (ho:∀ id e sz rows,c=.o id e sz rows→yK σ.M id=some (.reg e sz rows)) (hin:∀ r ∈ c.regs,r ∈ rs):RP (frzF rs ρ F) w p v:=by
 unfold CV.fz at hp;split at hp
 ·cases hp; exact RP.mono (fun k hk=>⟨.inl hk,rfl⟩) hc
 ·cases hp
  have:v=.slice none 0 0:=hc
  subst this; exact .l0 _ _
 ·rename_i id e sz rows;cases hp;obtain ⟨a',c',k',sz',hρ,rfl⟩:=hc;exact (qZA (h.mem.ent id _ (ho id e sz rows rfl)) (fun k hk=>.inl hk) (fun L b hL hb=>.inr ⟨id,L,List.mem_map.2 ⟨(id,rows),hin _ (by simp [CV.regs]),rfl⟩,hL,hb⟩) a' c' k' sz' hρ).1
 ·cases hp
theorem uVY {t:TypeId} {x:Operand} (hT:TabOk P C.T) (h:Rel' E C.n ρ F σ a w) (hd:dstB C.n d=true) (hvs:mapO (opv 0 σ) [x]=some vs) (he:zH C.T C.cA C.cB C.me (d.getD 0) (.load t x) vs=some e):OK P E C σ a w e ⟨d,.load t x,ty,pos,af,g⟩:=by
 obtain ⟨r,hr,rfl⟩:=qGY hvs;obtain ⟨v,h1,h2,h3⟩:=jW h hr;simp only [zH,vQQ] at he;obtain ⟨k,hk,he⟩:=he;cases r with
 | v p =>
  cases p with
  | z rows j off =>
   simp only at he;obtain ⟨b,off0,sz,g',rfl,q1,q2,q3,q4⟩:=rp_z h2;simp only [vQQ] at he;obtain ⟨r,hr',he⟩:=he;have hjl:=(List.getElem?_eq_some_iff.1 hr').1;have hrl:=q1 r (vQG hr');refine zHC (base:=off0 + j * sz) (vr:=(List.range sz).map (g' j)) hT h hd hk (by rw [Nat.add_assoc]; exact h1) (h.mem.fz b q2).1 (fun i v hv => ?_) ⟨by simp [hrl],fun i p v hp hv => ?_⟩ (fun u hu => ?_) he
   ·rw [vZY,vZW] at hv;obtain ⟨m,hm,rfl⟩:=hv;have hm2:=List.getElem?_eq_some_iff.1 hm;obtain ⟨hm3,hm4⟩:=hm2;simp at hm3 hm4;subst hm4;rw [Nat.add_assoc]; exact (q3 j i hjl hm3).1
   ·rw [vZY,vZW] at hv;obtain ⟨m,hm,rfl⟩:=hv;have hm2:=List.getElem?_eq_some_iff.1 hm;obtain ⟨hm3,hm4⟩:=hm2;simp at hm3 hm4;subst hm4;exact q4 j r i p hr' hp
   ·obtain ⟨m,hm,rfl⟩:=List.mem_map.1 hu;exact (q3 j m hjl (List.mem_range.1 hm)).2
  | zf n f j off =>
   simp only at he;obtain ⟨hj,b,off0,sz,g',rfl,q1,q2,q3,q4⟩:=yXA h2;have hr':((List.range n).map f)[j]? = some (f j):=by rw [vZY,List.getElem?_range hj]; rfl
   generalize hrows:(List.range n).map f=rows at q1 q3 q4 hr';generalize f j=r at he hr';have hjl:=(List.getElem?_eq_some_iff.1 hr').1;have hrl:=q1 r (vQG hr');refine zHC (base:=off0 + j * sz) (vr:=(List.range sz).map (g' j)) hT h hd hk (by rw [Nat.add_assoc]; exact h1) (h.mem.fz b q2).1 (fun i v hv => ?_) ⟨by simp [hrl],fun i p v hp hv => ?_⟩ (fun u hu => ?_) he
   ·rw [vZY,vZW] at hv;obtain ⟨m,hm,rfl⟩:=hv;have hm2:=List.getElem?_eq_some_iff.1 hm;obtain ⟨hm3,hm4⟩:=hm2;simp at hm3 hm4;subst hm4;rw [Nat.add_assoc]; exact (q3 j i hjl hm3).1
   ·rw [vZY,vZW] at hv;obtain ⟨m,hm,rfl⟩:=hv;have hm2:=List.getElem?_eq_some_iff.1 hm;obtain ⟨hm3,hm4⟩:=hm2;simp at hm3 hm4;subst hm4;exact q4 j r i p hr' hp
   ·obtain ⟨m,hm,rfl⟩:=List.mem_map.1 hu;exact (q3 j m hjl (List.mem_range.1 hm)).2
  | c cells off =>
   simp only at he;obtain ⟨b,ty',us,rfl,q1,q2,q3,q4⟩:=rp_c h2;exact zHC (base:=0) hT h hd hk (by rw [Nat.zero_add]; exact h1) (h.mem.fz b q1).1 (kZQ q2) q3 q4 he
  | _=>simp only at he; cases he
 | q id j off e' sz rows =>
  simp only at he;obtain ⟨b,c',k',sz',hρ,hjk,rfl⟩:=h2;obtain ⟨a2,c2,vr,hρ2,h0,hal,hrl,hone,hown⟩:=h.mem.ent id _ h3;rw [hρ] at hρ2;simp only [vQZ,Loc.reg.injEq] at hρ2;obtain ⟨rfl,rfl,rfl,rfl⟩:=hρ2;simp only [vQQ] at he;obtain ⟨r,hr',he⟩:=he;have hr':=Rows.at_L hr' hjk;obtain ⟨u,hu,hru⟩:=hal.get hr';have hvr:=jKI hal hrl;have hslc:qJA sz' (some ⟨b,0,none⟩) vr w:=by
   have:OwnF 0 e' sz' (some ⟨b,0,none⟩) c' vr.length vr.flatten w:=by unfold OwnF; rw [← hal.1,Rows.len_L]; exact hown
   exact zHV hvr this
  obtain ⟨hul,b2,off2,heq,hb2,hcell⟩:=hslc j u hu;simp only [vQZ,Addr.mk.injEq,and_true] at heq;obtain ⟨rfl,rfl⟩:=heq;refine zHC (base:=j * sz') hT h hd hk h1 hb2 (fun i v hv => ?_) hru (fun y hy=>hone u (vQG hu) y hy) he;have hlt:=(List.getElem?_eq_some_iff.1 hv).1
  have:=hcell i (by omega)
  rw [Nat.zero_add] at this;rw [this,hv]
 | p id off cells =>
  simp only at he;obtain ⟨hc,hlk,hcs⟩:=h3;obtain ⟨b,hρ,rfl⟩:=h2;obtain ⟨b2,us,ty',hρ2,hheap,hal,hone⟩:=h.mem.ent id _ hlk;rw [hρ] at hρ2;cases hρ2;have hcv:=zYG hcs hal;have hb:b < w.heap.size:=(h.mem.off id _ b hρ rfl).2.1;obtain ⟨kb,kn⟩:=k;obtain ⟨hty,hone1⟩:=hT.sz t kb kn hk;cases kb with
  | false =>
   simp only [vYG,vQQ,vQZ] at he;obtain ⟨c,hc',rfl⟩:=he;obtain ⟨v,hv,hr',_⟩:=hcv.get hc';rw [hone1 rfl] at hty;exact jU h (jQL (base:=0) hty (by rw [Nat.zero_add]; exact h1) hb (kZQ hheap) hv) hr' hd
  | true =>
   simp only [vYV,vQQ,vQZ] at he;obtain ⟨cs,hsl,ps,hps,rfl⟩:=he;obtain ⟨rfl,hl⟩:=qUX hsl;have hal2:=(hcv.drop off).take kn;have hp:=kJ hps;refine jUI _ h (fun r hr => ?_) (yKZ (base:=0) hty (by rw [Nat.zero_add]; exact h1) hb (kZQ hheap) (by rw [← hcv.1]; exact hl)) ?_ hd
   ·obtain ⟨c,hc',hin⟩:=mem_catR.1 hr;obtain ⟨i,hi⟩:=List.mem_iff_getElem?.1 hc';obtain ⟨v,_,_,ho⟩:=hal2.get hi;cases c with
    | h x=>simp [CV.regs] at hin
    | o id' e' sz' rows'=>simp only [CV.regs,List.mem_singleton] at hin; subst hin; exact ⟨e',sz',ho _ _ _ _ rfl⟩
   ·refine qHV ⟨by rw [← hp.1,hal2.1],fun i p v hpi hv => ?_⟩ fun u hu=>hone u (List.mem_of_mem_drop (List.mem_of_mem_take hu))
    have hil:=(List.getElem?_eq_some_iff.1 hpi).1;have hcl:i < ((cells.drop off).take kn).length:=by rw [hp.1]; exact hil
    have hci:=vQK hcl;have hfz:=hp.2 i _ p hci hpi;obtain ⟨hrh,ho⟩:=hal2.2 i _ v hci hv;exact kQF h _ hfz hrh ho fun r hr=>mem_catR.2 ⟨_,vQG hci,hr⟩
 | _=>simp only at he; cases he
end
end Go.Rx
namespace Go.Rx
open Go.RowKit Go.Sx
section
variable {P:Program} {E:Env} {C:Cx} {ρ:Own} {F:Nat→Prop} {σ:St} {a:Act} {w:World} {vs:List RV} {e:Eff}
variable {d:Option Tmp} {ty:TypeId} {pos:String} {af:Array Edge} {g:Option (Nat × Bool)}
theorem yYV {t:TypeId} {us:List Value} {o:Nat} {v:Value} (w:World) (hT:tyB P t false 1=true) (hv:us[o]? = some v):(part t us.toArray o).run P w=.ok v w:=by
 simp [part,qUU hT,hv]
theorem yYW {t:TypeId} {us:List Value} {o k:Nat} (w:World) (hT:tyB P t true k=true):(part t us.toArray o).run P w=.ok (.agg ((us.drop o).take k).toArray) w:=by
 simp only [part,Sem.run_bind,qUU hT,Result.andThen_ok,Sem.run_ite,if_true,qJD hT,Sem.run_pure];simp [List.extract_eq_take_drop]
theorem yJW {S:yV} {H:Heap} {w0:Base} {t f:Nat} {x:Operand} {us:List Value} {v:Value} {fields:Array Field} {fld:Field} (hu:P.underlying t=some (.struct fields)) (hf:fields[f]? = some fld) (hx:ev S x=some (.agg us.toArray))
  (hp:∀ w,(part fld.type us.toArray fld.offset).run P w=.ok v w):OpV P w0 S H ⟨d,.field t x f,ty,pos,af,g⟩ v :=
 kY (by simp [yH,Op.operands,hx]) rfl fun w _=>by
  simp [execOp,yY hx,Instr.field,run_underlying hu,hf,asAgg,hp w]
theorem kXA {t:TypeId} {x:Operand} {f:Nat} (hT:TabOk P C.T) (h:Rel' E C.n ρ F σ a w) (hd:dstB C.n d=true) (hvs:mapO (opv 0 σ) [x]=some vs) (he:zH C.T C.cA C.cB C.me (d.getD 0) (.field t x f) vs=some e):OK P E C σ a w e ⟨d,.field t x f,ty,pos,af,g⟩:=by
 obtain ⟨r,hr,rfl⟩:=qGY hvs;obtain ⟨v,h1,h2,h3⟩:=jW h hr;cases r with
 | v p =>
  cases p with
  | a cs =>
   simp only [zH,vQQ] at he;obtain ⟨⟨o,b,k⟩,ho,he⟩:=he;obtain ⟨fields,fld,hu,hf,rfl,hty,hone⟩:=hT.fx t f o b k ho;obtain ⟨us,rfl,hus,hu1⟩:=qHG h2;cases b with
   | true =>
    simp only [vYV,vQQ,vQZ] at he;obtain ⟨r,hr,rfl⟩:=he;obtain ⟨rfl,hl⟩:=qUX hr;exact jU h (yJW hu hf h1 fun w=>yYW w hty) (qHV (yZC hus) fun u hu=>hu1 u (List.mem_of_mem_drop (List.mem_of_mem_take hu))) hd
   | false =>
    simp only [vYG,vQQ,vQZ] at he;obtain ⟨r,hr,rfl⟩:=he;obtain ⟨u,hu',hru⟩:=hus.get hr;rw [hone rfl] at hty;exact jU h (yJW hu hf h1 fun w=>yYV w hty hu') (zUB hru) hd
  | _=>simp only [zH] at he; cases he
 | _=>simp only [zH] at he; cases he
theorem kXG {t:TypeId} {x y:Operand} (hT:TabOk P C.T) (h:Rel' E C.n ρ F σ a w) (hd:dstB C.n d=true) (hvs:mapO (opv 0 σ) [x,y]=some vs) (he:zH C.T C.cA C.cB C.me (d.getD 0) (.index t x y) vs=some e):OK P E C σ a w e ⟨d,.index t x y,ty,pos,af,g⟩:=by
 obtain ⟨rx,ry,hx,hy,rfl⟩:=jKQ hvs;obtain ⟨vx,x1,x2,x3⟩:=jW h hx;obtain ⟨vy,y1,y2,_⟩:=jW h hy;cases ry with
 | v py =>
  cases py with
  | n kk i =>
   rw [qYA y2] at y1;cases rx with
   | v p =>
    cases p with
    | a cs =>
     simp only [zH,vQQ] at he;obtain ⟨⟨n,k,b⟩,ho,he⟩:=he;obtain ⟨hi,he⟩:=qQ he;obtain ⟨i0,i1⟩:=qXQ hi;obtain ⟨_,el,hu,hty,hone⟩:=hT.ar t n k b ho;obtain ⟨us,rfl,hus,hu1⟩:=qHG x2;have run:∀ (v:Value),(∀ w,(part el us.toArray (i.toNat * k)).run P w=.ok v w)→OpV P ⟨w,[]⟩ (actS a) [] ⟨d,.index t x y,ty,pos,af,g⟩ v:=fun v hp =>
      qXW x1 y1 fun w=>by
       simp only [Instr.index,asIntOf,Sem.run_bind,Sem.run_pure,Result.andThen_ok,run_underlying hu];have i1':i < (n:Int):=i1;simp [i0,i1',qJD hty,hp w]
     cases b with
     | true =>
      simp only [vYV,vQQ,vQZ] at he;obtain ⟨r,hr,rfl⟩:=he;obtain ⟨rfl,hl⟩:=qUX hr;exact jU h (run _ fun w=>yYW w hty) (qHV (yZC hus) fun u hu=>hu1 u (List.mem_of_mem_drop (List.mem_of_mem_take hu))) hd
     | false =>
      simp only [vYG,vQQ,vQZ] at he;obtain ⟨r,hr,rfl⟩:=he;obtain ⟨u,hu',hru⟩:=hus.get hr;have hk:=hone rfl;rw [hk] at hty;exact jU h (run _ fun w=>yYV w hty (by rw [hk,Nat.mul_one]; exact hu')) (zUB hru) hd
    | s s =>
     simp only [zH] at he;obtain ⟨hi,he⟩:=qQ he;rw [vQJ,decide_eq_true_eq] at hi;simp only [vQQ,vQZ] at he;obtain ⟨b,hb,rfl⟩:=he;rw [qGU x2] at x1;have hs:=hT.str t hi.1;exact jU h (qXW x1 y1 fun w=>by
      simp only [Instr.index,asIntOf,Sem.run_bind,Sem.run_pure,Result.andThen_ok,run_underlying hs];simp [hi.2,hb]) (.n _ _) hd
    | _=>simp only [zH] at he; cases he
   | _=>simp only [zH] at he; cases he
  | _=>cases rx <;> (simp only [zH] at he; cases he)
 | _=>cases rx <;> (simp only [zH] at he; cases he)
theorem jJE {s t:TypeId} {x:Operand} (hT:TabOk P C.T) (h:Rel' E C.n ρ F σ a w) (hd:dstB C.n d=true) (hvs:mapO (opv 0 σ) [x]=some vs) (he:zH C.T C.cA C.cB C.me (d.getD 0) (.convert s t x) vs=some e):OK P E C σ a w e ⟨d,.convert s t x,ty,pos,af,g⟩:=by
 obtain ⟨r,hr,rfl⟩:=qGY hvs;obtain ⟨v,h1,h2,h3⟩:=jW h hr;cases r with
 | v p =>
  cases p with
  | n k i =>
   simp only [zH,vQQ] at he;obtain ⟨k1,hk1,k2,hk2,he⟩:=he;obtain ⟨hb,he⟩:=qQ he;cases he;rw [qYA h2] at h1;have hs:=hT.ik s k1 hk1;have ht:=hT.ik t k2 hk2;have hkind:P.intKind t=k2:=by simp [Program.intKind,ht]
   refine jU h (kY (by simp [yH,Op.operands,h1]) rfl fun w _ => ?_) (.n k2 _) hd
   have:=Go.run_convert_int (P:=P) (w:=w) s t k i (by rw [hs]; rfl) (by rw [hkind]; exact ht)
   rw [hkind] at this;simp [execOp,yY h1,this]
  | _=>simp only [zH] at he; cases he
 | _=>simp only [zH] at he; cases he
theorem uZW {rs:List RV} {ps:List PV} {us:List Value} (h:mapO RV.pv rs=some ps) (hr:Al (fun r v=>RH ρ F w r.back v) rs us):Al (RP F w) ps us:=by
 have h1:=kJ h;refine ⟨by rw [← h1.1,hr.1],fun i p v hp hv => ?_⟩;have hil:=(List.getElem?_eq_some_iff.1 hp).1;have hl:i < rs.length:=by rw [h1.1]; exact hil
 have e1:=h1.2 i _ p (vQK hl) hp;have e2:=hr.2 i _ v (vQK hl) hv;generalize rs[i]=r at e1 e2;cases r with
 | v x=>simp only [RV.pv,vQZ] at e1; subst e1; exact e2
 | _=>cases e1
theorem uGL {rs:List RV} {ps:List Cap} {us:List Value} (h:mapO kGL rs=some ps) (hr:Al (fun r v=>RH ρ F w r.back v) rs us):Al (RCp ρ F w) ps us:=by
 have h1:=kJ h;refine ⟨by rw [← h1.1,hr.1],fun i p v hp hv => ?_⟩;have hil:=(List.getElem?_eq_some_iff.1 hp).1;have hl:i < rs.length:=by rw [h1.1]; exact hil
 have e1:=h1.2 i _ p (vQK hl) hp;have e2:=hr.2 i _ v (vQK hl) hv;generalize rs[i]=r at e1 e2;cases r with
 | v x=>simp only [kGL,vQZ] at e1; subst e1; exact e2
 | w x =>
  cases x with
  | p id off=>simp only [kGL,vQZ] at e1; subst e1; exact e2
  | _=>cases e1
 | _=>cases e1
theorem kQW {S:yV} {xs ys:List Operand} {us:List Value} (h:evs S (xs ++ ys)=some us):evs S xs=some (us.take xs.length)∧evs S ys=some (us.drop xs.length):=by
 induction xs generalizing us with
 | nil=>exact ⟨rfl,h⟩
 | cons x xs ih =>
  simp only [List.cons_append,evs] at h;cases hx:ev S x with
  | none=>rw [hx] at h; cases h
  | some v =>
   rw [hx] at h;obtain ⟨l,hl,rfl⟩:=qQC h;obtain ⟨h1,h2⟩:=ih hl;refine ⟨by simp [evs,hx,h1,qWD],by simpa using h2⟩
theorem yWG {fn:Fn} {xs ys:Array Operand} (h:Rel' E C.n ρ F σ a w) (hd:dstB C.n d=true) (hvs:mapO (opv 1 σ) (xs ++ ys).toList=some vs) (he:zH C.T C.cA C.cB C.me (d.getD 0) (.makeFunc fn xs ys) vs=some e):OK P E C σ a w e ⟨d,.makeFunc fn xs ys,ty,pos,af,g⟩:=by
 obtain ⟨us,h1,h2,_⟩:=zKQ h hvs;rw [Array.toList_append] at h1;obtain ⟨h3,h4⟩:=kQW h1;cases fn with
 | func f =>
  simp only [zH,vQQ] at he;obtain ⟨fs,hfs,he⟩:=he;have e1:=uZW hfs (h2.take _);have hop:OpV P ⟨w,[]⟩ (actS a) [] ⟨d,.makeFunc (.func f) xs ys,ty,pos,af,g⟩ (.func (.func f) (us.take xs.size).toArray (us.drop xs.size).toArray):=by
   have:=yJX (P:=P) (w0:=⟨w,[]⟩) (H:=[]) (dd:=d) (ty:=ty) (pos:=pos) (af:=af) (g:=g) (fn:=.func f) h3 h4
   simpa using this
  split at he
  ·rename_i cs hcs;cases he;have e2:=uZW hcs (h2.drop _);exact jU h hop (RP.f f fs cs _ _ e1.1 e2.1 e1.2 e2.2) hd
  ·simp only [vQQ,vQZ] at he;obtain ⟨cs,hcs,rfl⟩:=he;have e2:=uGL hcs (h2.drop _);exact jU h hop ⟨_,_,rfl,e1,e2⟩ hd
 | _=>simp only [zH] at he; cases he
end
end Go.Rx

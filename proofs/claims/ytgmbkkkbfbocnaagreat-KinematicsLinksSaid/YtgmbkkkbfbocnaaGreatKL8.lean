/- Part 8 of the texts behind the last one: rules and contracts. No condition. -/
import Derived.Test.YtgmbkkkbfbocnaaGreatKL7
open Option renaming bind_eq_some_iff → vQQ, bind_some → vYQ
open Option.some renaming injEq → vQZ
open Bool renaming and_eq_true → vQJ
open List renaming getElem?_eq_getElem → vQK, mem_of_getElem? → vQG, mem_cons_of_mem → vQH, mem_cons_self → vZQ, all_eq_true → vZZ, mem_cons → vYZ
namespace Go.Rx
open Go.RowKit Go.Sx
def Eqv (σ τ:St):Prop:=(∀ t,uG σ.S t=uG τ.S t)∧(∀ i,zH σ.M i=zH τ.M i)
theorem Eqv.refl (σ:St):Eqv σ σ:=⟨fun _=>rfl,fun _=>rfl⟩
theorem Eqv.symm {σ τ:St} (h:Eqv σ τ):Eqv τ σ:=⟨fun t=>(h.1 t).symm,fun i=>(h.2 i).symm⟩
theorem Eqv.trans {σ τ υ:St} (h:Eqv σ τ) (k:Eqv τ υ):Eqv σ υ:=⟨fun t=>(h.1 t).trans (k.1 t),fun i=>(h.2 i).trans (k.2 i)⟩
theorem Eqv.apply {σ τ:St} (h:Eqv σ τ) (e:Eff) (d:Option Nat):Eqv (σ.apply e d) (τ.apply e d):=⟨fun t=>by rw [qKH,qKH,h.1],fun i=>by rw [qYX,qYX,h.2]⟩
theorem jQ {α β:Type} {f:α→Option β} {xs:List α} {ys:List β} (h:mapO f xs=some ys):Al (fun x y=>f x=some y) xs ys:=by
 induction xs generalizing ys with
 | nil=>simp [mapO] at h; subst h; exact Al.nil
 | cons x xs ih =>
  simp only [mapO,vQQ,vQZ] at h;obtain ⟨y,hy,zs,hz,rfl⟩:=h;exact Al.cons hy (ih hz)
theorem jYV {α β:Type} {f:α→Option β} {xs:List α} {ys:List β} (h:Al (fun x y=>f x=some y) xs ys):mapO f xs=some ys:=by
 induction xs generalizing ys with
 | nil=>rw [h.nil_left]; rfl
 | cons x xs ih =>
  obtain ⟨y,zs,rfl,h1,h2⟩:=h.cons_left;simp [mapO,h1,ih h2]
theorem mem_catL {α:Type} {f:α→List Nat} {xs:List α} {i:Nat}:i ∈ catL f xs ↔ ∃ x ∈ xs,i ∈ f x:=by
 induction xs with
 | nil=>simp [catL]
 | cons x xs ih =>
  have:catL f (x :: xs)=f x ++ catL f xs:=by
   simp only [catL]; cases f x <;> simp
  simp [this,ih]
theorem cv_local {M M':Mem} {x:HV} {c:CV} (h:cvOf M x=some c) (he:∀ id ∈ c.fol,zH M' id=zH M id):cvOf M' x=some c:=by
 cases x with
 | o id =>
  simp only [cvOf] at h ⊢;split at h
  ·rename_i e sz rows hl;cases h;rw [he id (by simp [CV.fol]),hl]
  ·cases h
 | _=>exact h
theorem cv_ids {M:Mem} {x:HV} {c:CV} (h:cvOf M x=some c):∀ id ∈ x.ids,id ∈ c.ids:=by
 cases x with
 | o id =>
  simp only [cvOf] at h;split at h
  ·cases h; exact fun _ h=>h
  ·cases h
 | _=>simp only [cvOf,vQZ] at h; subst h; exact fun _ h=>h
theorem cv_fol {c:CV}:∀ id ∈ c.fol,id ∈ c.ids:=by
 cases c with
 | h x=>intro id h; cases h
 | o id e sz rows=>exact fun _ h=>h
theorem cv_deep {M:Mem} {x:HV} {c:CV} (h:cvOf M x=some c):∀ id ∈ c.fol,∀ e,zH M id=some e→e.ids=[]:=by
 cases x with
 | o id =>
  simp only [cvOf] at h;split at h
  ·rename_i e sz rows hl;cases h;intro i hi e he;simp only [CV.fol,List.mem_singleton] at hi;subst hi;rw [hl] at he; cases he; rfl
  ·cases h
 | _=>simp only [cvOf,vQZ] at h; subst h; intro i hi; cases hi
section
variable {M M':Mem} {cells:List HV} {cs:List CV}
theorem cvs_local (h:mapO (cvOf M) cells=some cs) (he:∀ id ∈ catL CV.fol cs,zH M' id=zH M id):mapO (cvOf M') cells=some cs:=by
 have h1:=jQ h;refine jYV ⟨h1.1,fun i x y hx hy=>cv_local (h1.2 i x y hx hy) fun id hid=>he id (mem_catL.2 ⟨y,vQG hy,hid⟩)⟩
theorem cvs_ids (h:mapO (cvOf M) cells=some cs):∀ id ∈ catL HV.ids cells,id ∈ catL CV.ids cs:=by
 have h1:=jQ h;intro id hid;obtain ⟨x,hx,hi⟩:=mem_catL.1 hid;obtain ⟨i,hi2⟩:=List.mem_iff_getElem?.1 hx;obtain ⟨y,hy,hr⟩:=h1.get hi2;exact mem_catL.2 ⟨y,vQG hy,cv_ids hr id hi⟩
theorem cvs_fol:∀ id ∈ catL CV.fol cs,id ∈ catL CV.ids cs:=fun id hid=>by
 obtain ⟨x,hx,hi⟩:=mem_catL.1 hid;exact mem_catL.2 ⟨x,hx,cv_fol id hi⟩
theorem cvs_deep (h:mapO (cvOf M) cells=some cs):∀ id ∈ catL CV.fol cs,∀ e,zH M id=some e→e.ids=[]:=by
 have h1:=jQ h;intro id hid e he;obtain ⟨y,hy,hi⟩:=mem_catL.1 hid;obtain ⟨i,hi2⟩:=List.mem_iff_getElem?.1 hy;have hil:=(List.getElem?_eq_some_iff.1 hi2).1;have hc:i < cells.length:=by rw [h1.1]; exact hil
 exact cv_deep (h1.2 i _ y (vQK hc) hi2) id hi e he
end
theorem rc_local {M M':Mem} {x:Cap} {c:RC} (h:rcOf M x=some c) (he:∀ id ∈ c.fol,zH M' id=zH M id):rcOf M' x=some c:=by
 cases x with
 | v x=>exact h
 | p id off =>
  simp only [rcOf] at h ⊢;split at h
  ·rename_i cells hl;simp only [vQQ,vQZ] at h;obtain ⟨cc,hcc,rfl⟩:=h;rw [he id (by simp [RC.fol]),hl];simp only [cvs_local hcc fun id hid=>he id (by simp [RC.fol,hid])];rfl
  ·cases h
theorem rc_fol {c:RC}:∀ id ∈ c.fol,id ∈ c.ids:=by
 cases c with
 | v x=>intro id h; cases h
 | p id off cells =>
  intro i hi;simp only [RC.fol,RC.ids,vYZ] at hi ⊢;exact hi.imp (fun h=>h) (cvs_fol i)
theorem rc_deep {M:Mem} {x:Cap} {c:RC} (h:rcOf M x=some c):∀ i ∈ c.fol,∀ e,zH M i=some e→∀ id ∈ e.ids,id ∈ c.ids:=by
 cases x with
 | v x=>simp only [rcOf,vQZ] at h; subst h; intro i hi; cases hi
 | p id off =>
  simp only [rcOf] at h;split at h
  ·rename_i cells hl;simp only [vQQ,vQZ] at h;obtain ⟨cc,hcc,rfl⟩:=h;intro i hi e he k hk;simp only [RC.fol,vYZ] at hi;rcases hi with rfl | hi
   ·rw [hl] at he; cases he;simp only [RC.ids,vYZ];exact .inr (cvs_ids hcc k hk)
   ·rw [cvs_deep hcc i hi e he] at hk; cases hk
  ·cases h
theorem res_local {M M':Mem} {x:HV} {r:RV} (h:res M x=some r) (he:∀ id ∈ r.fol,zH M' id=zH M id):res M' x=some r:=by
 cases x with
 | o id =>
  simp only [res] at h ⊢;split at h
  ·rename_i e sz rows hl; cases h; rw [he id (by simp [RV.fol]),hl]
  ·cases h
 | p id off =>
  simp only [res] at h ⊢;split at h
  ·rename_i cells hl;simp only [vQQ,vQZ] at h;obtain ⟨cs,hcs,rfl⟩:=h;rw [he id (by simp [RV.fol]),hl];simp only [cvs_local hcs fun id hid=>he id (by simp [RV.fol,hid])];rfl
  ·rename_i s pos hl; cases h; rw [he id (by simp [RV.fol]),hl]
  ·cases h
 | q id j off =>
  simp only [res] at h ⊢;split at h
  ·rename_i e sz rows hl; cases h; rw [he id (by simp [RV.fol]),hl]
  ·cases h
 | g fn first cap =>
  simp only [res,vQQ,vQZ] at h ⊢;obtain ⟨cs,hcs,rfl⟩:=h;have h1:=jQ hcs;exact ⟨cs,jYV ⟨h1.1,fun i x y hx hy=>rc_local (h1.2 i x y hx hy) fun id hid=>he id (mem_catL.2 ⟨_,vQG hy,hid⟩)⟩,rfl⟩
 | _=>exact h
theorem res_ids {M:Mem} {x:HV} {r:RV} (h:res M x=some r):∀ id ∈ x.ids,id ∈ r.ids:=by
 cases x with
 | o id =>
  simp only [res] at h;split at h
  ·cases h; exact fun _ h=>h
  ·cases h
 | q id j off =>
  simp only [res] at h;split at h
  ·cases h; exact fun _ h=>h
  ·cases h
 | _=>intro id hid; simp [HV.ids] at hid
theorem res_deep {M:Mem} {x:HV} {r:RV} (h:res M x=some r):(∀ i ∈ r.fol,i ∈ r.ids)∧∀ i ∈ r.fol,∀ e,zH M i=some e→∀ id ∈ e.ids,id ∈ r.ids:=by
 cases x with
 | o id =>
  simp only [res] at h;split at h
  ·rename_i e sz rows hl;cases h;refine ⟨fun _ h=>h,fun i hi e he k hk => ?_⟩;simp only [RV.fol,List.mem_singleton] at hi;subst hi;rw [hl] at he; cases he; cases hk
  ·cases h
 | p id off =>
  simp only [res] at h;split at h
  ·rename_i cells hl;simp only [vQQ,vQZ] at h;obtain ⟨cs,hcs,rfl⟩:=h;refine ⟨fun i hi => ?_,fun i hi e he k hk => ?_⟩
   ·simp only [RV.fol,RV.ids,vYZ] at hi ⊢;exact hi.imp (fun h=>h) (cvs_fol i)
   ·simp only [RV.fol,vYZ] at hi;rcases hi with rfl | hi
    ·rw [hl] at he; cases he;simp only [RV.ids,vYZ];exact .inr (cvs_ids hcs k hk)
    ·rw [cvs_deep hcs i hi e he] at hk; cases hk
  ·rename_i s pos hl;cases h;refine ⟨fun _ h=>h,fun i hi e he k hk => ?_⟩;simp only [RV.fol,List.mem_singleton] at hi;subst hi;rw [hl] at he; cases he; cases hk
  ·cases h
 | q id j off =>
  simp only [res] at h;split at h
  ·rename_i e sz rows hl;cases h;refine ⟨fun _ h=>h,fun i hi e he k hk => ?_⟩;simp only [RV.fol,List.mem_singleton] at hi;subst hi;rw [hl] at he; cases he; cases hk
  ·cases h
 | g fn first cap =>
  simp only [res,vQQ,vQZ] at h;obtain ⟨cs,hcs,rfl⟩:=h;have h1:=jQ hcs;refine ⟨fun i hi => ?_,fun i hi e he k hk => ?_⟩
  ·obtain ⟨c,hc,hin⟩:=mem_catL.1 hi;exact mem_catL.2 ⟨c,hc,rc_fol i hin⟩
  ·obtain ⟨c,hc,hin⟩:=mem_catL.1 hi;obtain ⟨m,hm⟩:=List.mem_iff_getElem?.1 hc;have hml:=(List.getElem?_eq_some_iff.1 hm).1;have hcap:m < cap.length:=by rw [h1.1]; exact hml
   exact mem_catL.2 ⟨c,hc,rc_deep (h1.2 m _ c (vQK hcap) hm) i hin e he k hk⟩
 | v x=>cases h; exact ⟨fun i hi=>(by cases hi),fun i hi=>(by cases hi)⟩
 | nl=>cases h; exact ⟨fun i hi=>(by cases hi),fun i hi=>(by cases hi)⟩
 | un=>cases h; exact ⟨fun i hi=>(by cases hi),fun i hi=>(by cases hi)⟩
theorem jWV (x:HV):(∀ id ∈ x.ids,id ∈ (sh x).ids)∧(sh x).fol=[]:=by
 cases x <;> exact ⟨fun _ h=>h,rfl⟩
theorem resM_local {m:Nat} {M M':Mem} {x:HV} {r:RV} (h:resM m M x=some r) (he:∀ id ∈ r.fol,zH M' id=zH M id):resM m M' x=some r:=by
 match m with
 | 0=>exact res_local h he
 | 1=>exact h
 | m + 2 =>
  cases x with
  | o id=>simp only [resM] at h ⊢; exact res_local h he
  | _=>exact h
theorem resM_ids {m:Nat} {M:Mem} {x:HV} {r:RV} (h:resM m M x=some r):∀ id ∈ x.ids,id ∈ r.ids:=by
 match m with
 | 0=>exact res_ids h
 | 1=>simp only [resM,vQZ] at h; subst h; exact (jWV x).1
 | m + 2 =>
  cases x with
  | o id=>exact res_ids (by simpa only [resM] using h)
  | _=>simp only [resM,vQZ] at h; subst h; exact (jWV _).1
theorem resM_deep {m:Nat} {M:Mem} {x:HV} {r:RV} (h:resM m M x=some r):(∀ i ∈ r.fol,i ∈ r.ids)∧∀ i ∈ r.fol,∀ e,zH M i=some e→∀ id ∈ e.ids,id ∈ r.ids:=by
 have shd:∀ x:HV,(∀ i ∈ (sh x).fol,i ∈ (sh x).ids)∧∀ i ∈ (sh x).fol,∀ e,zH M i=some e→∀ id ∈ e.ids,id ∈ (sh x).ids:=fun x=>by
  rw [(jWV x).2]; exact ⟨fun i hi=>(by cases hi),fun i hi=>(by cases hi)⟩
 match m with
 | 0=>exact res_deep h
 | 1=>simp only [resM,vQZ] at h; subst h; exact shd x
 | m + 2 =>
  cases x with
  | o id=>exact res_deep (by simpa only [resM] using h)
  | _=>simp only [resM,vQZ] at h; subst h; exact shd _
theorem yKH {sb:List (Nat × Option Rows)} {x:HV} (h:∀ id ∈ x.ids,kK sb id=none):x.sub sb=x:=by
 cases x with
 | o id=>simp [HV.sub,h id (by simp [HV.ids])]
 | q id j off=>simp [HV.sub,h id (by simp [HV.ids])]
 | _=>rfl
theorem ent_keep {sb:List (Nat × Option Rows)} {x:Ent} (h:∀ id ∈ x.ids,kK sb id=none):x.sub sb=x:=by
 cases x with
 | blk cells =>
  simp only [Ent.sub]
  congr 1
  exact (List.map_congr_left fun a ha=>yKH fun id hid=>h id (mem_catL.2 ⟨a,ha,hid⟩)).trans (List.map_id _)
 | _=>rfl
theorem subFind_none {l:List (Nat × Option Rows)} {id:Nat} (h:id ∉ l.map (·.1)):kK l id=none:=by
 induction l with
 | nil=>rfl
 | cons x l ih =>
  obtain ⟨k,x⟩:=x;simp only [List.map_cons,vYZ,not_or] at h;simp only [kK,qJW (Ne.symm h.1),vYG];exact ih h.2
theorem upFind_none {l:List (Nat × Option Ent)} {id:Nat}:kZ l id=none ↔ id ∉ l.map (·.1):=by
 induction l with
 | nil=>simp [kZ]
 | cons x l ih =>
  obtain ⟨k,x⟩:=x;simp only [kZ,List.map_cons,vYZ,not_or];cases hu:kZ l id with
  | some y =>
   simp only [reduceCtorEq,false_iff,not_and];intro _ hn;rw [ih.2 hn] at hu; cases hu
  | none =>
   by_cases e:k=id
   ·subst e; simp
   ·simp [qJW e,Ne.symm e,ih.1 hu]
theorem zXW {l:List (Nat × Option Ent)} {id:Nat} {x:Option Ent} (h:kZ l id=some x):(id,x) ∈ l:=by
 induction l with
 | nil=>simp [kZ] at h
 | cons y l ih =>
  obtain ⟨k,y⟩:=y;simp only [kZ] at h;cases hu:kZ l id with
  | some z=>rw [hu] at h; cases h; exact vQH _ (ih hu)
  | none =>
   rw [hu] at h;by_cases e:k=id
   ·subst e; simp at h; subst h; exact vZQ
   ·simp [qJW e] at h
theorem yYV {xs ys:List Nat} (h:disj xs ys=true):∀ x ∈ xs,x ∉ ys:=by
 induction xs with
 | nil=>intro x hx; cases hx
 | cons a xs ih =>
  simp only [disj,vQJ,Bool.not_eq_true'] at h;intro x hx;rcases List.mem_cons.1 hx with rfl | hx
  ·intro hm
   have:=List.any_eq_false.1 h.1 x hm
   simp at this
  ·exact ih h.2 x hx
structure Indep (ops:Array Oper) (x y:Done) (ox oy:Oper):Prop where
 sb:x.2.1.sb=[]
 d1:∀ d,ox.dst=some d→d ∉ oy.looksAt ops
 d2:∀ d,oy.dst=some d→d ∉ ox.looksAt ops
 d3:∀ d,ox.dst=some d→oy.dst ≠ some d
 w1:∀ i ∈ x.2.1.wr,i ∉ catL RV.ids y.2.2∧i ∉ y.2.1.all
 w2:∀ i ∈ y.2.1.wr,i ∉ catL RV.ids x.2.2∧i ∉ x.2.1.all
theorem any_beq {d:Nat} {l:List Nat} (h:(!(l.any (Nat.beq d)))=true):d ∉ l:=fun hm=>by
 rw [Bool.not_eq_true'] at h
 have:=List.any_eq_false.1 h d hm
 simp at this
theorem indepB_spec {ops:Array Oper} {x y:Done} {ox oy:Oper} (hx:ops[x.1]? = some ox) (hy:ops[y.1]? = some oy) (h:jGV ops x y=true):Indep ops x y ox oy:=by
 unfold jGV at h;simp only [hx,hy,vQJ] at h;obtain ⟨⟨⟨⟨⟨h1,h2⟩,h3⟩,h4⟩,h5⟩,h6⟩:=h;refine ⟨?_,fun d hd => ?_,fun d hd => ?_,fun d hd he => ?_,fun i hi => ?_,fun i hi => ?_⟩
 ·cases hs:x.2.1.sb with
  | nil=>rfl
  | cons a b=>rw [hs] at h1; cases h1
 ·rw [hd] at h2; exact any_beq h2
 ·rw [hd] at h3; exact any_beq h3
 ·rw [hd,he] at h4; simp at h4
 ·have:=yYV h5 i hi; simpa [not_or] using this
 ·have:=yYV h6 i hi; simpa [not_or] using this
theorem look_mem {ops:Array Oper} {o:Oper} {t:Nat} (h:Operand.tmp t ∈ o.op.operands.toList):t ∈ o.looksAt ops:=by
 unfold Oper.looksAt;refine List.mem_append.2 (.inl (List.mem_filterMap.2 ⟨_,h,rfl⟩))
theorem look_guard {ops:Array Oper} {o:Oper} {j:Nat} {b:Bool} {d:Nat} (hg:o.guard=some (j,b)) (hd:(ops[j]?).bind (·.dst)=some d):d ∈ o.looksAt ops:=by
 unfold Oper.looksAt;refine List.mem_append.2 (.inr ?_);simp [hg,hd]
theorem opv_deep {m:Nat} {σ:St} {x:Operand} {r:RV} (h:opv m σ x=some r):(∀ i ∈ r.fol,i ∈ r.ids)∧∀ i ∈ r.fol,∀ e,zH σ.M i=some e→∀ id ∈ e.ids,id ∈ r.ids:=by
 have nofol:r.fol=[]→(∀ i ∈ r.fol,i ∈ r.ids)∧∀ i ∈ r.fol,∀ e,zH σ.M i=some e→∀ id ∈ e.ids,id ∈ r.ids:=fun h=>by
  rw [h]; exact ⟨fun i hi=>(by cases hi),fun i hi=>(by cases hi)⟩
 cases x with
 | tmp t =>
  simp only [opv,vQQ] at h;obtain ⟨z,_,hr⟩:=h;exact resM_deep hr
 | const v =>
  simp only [opv] at h;unfold jJX at h;split at h
  ·cases h; exact nofol rfl
  ·simp only [vQQ,vQZ] at h; obtain ⟨_,_,rfl⟩:=h; exact nofol rfl
  ·simp only [vQQ,vQZ] at h; obtain ⟨_,_,rfl⟩:=h; exact nofol rfl
 | func f=>simp only [opv,vQZ] at h; subst h; exact nofol rfl
 | global g=>cases h
section
variable {C:Cx} {ops:Array Oper}
theorem guard_local {o:Oper} {σ τ:St} {g:Bool} (h:uH ops σ o=some g) (hS:∀ t c,t ∈ o.looksAt ops→uG σ.S t=some (.v c)→uG τ.S t=some (.v c)):uH ops τ o=some g:=by
 unfold uH at h ⊢;cases hg:o.guard with
 | none=>rw [hg] at h; exact h
 | some gd =>
  obtain ⟨j,b⟩:=gd;rw [hg] at h;simp only at h ⊢;cases hd:(ops[j]?).bind (·.dst) with
  | none=>rw [hd] at h; exact h
  | some d =>
   rw [hd] at h;simp only at h ⊢;cases hl:uG σ.S d with
   | none=>rw [hl] at h; simp at h
   | some x =>
    rw [hl] at h;cases x with
    | v p =>
     rw [hS d p (look_guard hg hd) hl]; exact h
    | _=>simp at h
theorem zXG {o:Oper} {σ:St} {r:Eff × List RV} (h:qXG C ops o σ=some r):dstB C.n o.dst=true∧((uH ops σ o=some false∧r=(.val (.v (.t [])),[])) ∨
  (uH ops σ o=some true∧mapO (opv (mode o.op) σ) o.op.operands.toList=some r.2∧zV C.T C.cA C.cB C.me (o.dst.getD 0) o.op r.2=some r.1∧∀ i ∈ r.1.nw,zH σ.M i=none)):=by
 unfold qXG at h;cases hgo:uH ops σ o with
 | none=>rw [hgo] at h; simp at h
 | some g =>
  rw [hgo] at h;simp only [vYQ] at h;cases hdd:dstB C.n o.dst with
  | false=>rw [hdd] at h; simp at h
  | true =>
   rw [hdd] at h;refine ⟨rfl,?_⟩;cases g with
   | false=>simp at h; exact .inl ⟨rfl,h.symm⟩
   | true =>
    simp only [vYV,vQQ] at h;obtain ⟨vs',hvs,e',he,hh⟩:=h;cases hn:e'.nw.all (fun id=>(zH σ.M id).isNone) with
    | false=>rw [hn] at hh; simp at hh
    | true =>
     rw [hn] at hh;simp only [vYV,vQZ] at hh;subst hh;refine .inr ⟨rfl,hvs,he,fun i hi => ?_⟩
     have:=List.all_eq_true.1 hn i hi
     simpa using this
theorem zKG {o:Oper} {σ:St} {r:Eff × List RV} (hd:dstB C.n o.dst=true) (h:(uH ops σ o=some false∧r=(.val (.v (.t [])),[])) ∨
  (uH ops σ o=some true∧mapO (opv (mode o.op) σ) o.op.operands.toList=some r.2∧zV C.T C.cA C.cB C.me (o.dst.getD 0) o.op r.2=some r.1∧∀ i ∈ r.1.nw,zH σ.M i=none)):qXG C ops o σ=some r:=by
 unfold qXG;rcases h with ⟨h1,rfl⟩ | ⟨h1,h2,h3,h4⟩
 ·simp [h1,hd]
 ·have:r.1.nw.all (fun id=>(zH σ.M id).isNone)=true:=by
   rw [vZZ]; intro i hi; simp [h4 i hi]
  simp [h1,hd,h2,h3,this]
theorem zXH {o:Oper} {σ τ:St} {r:Eff × List RV} (h:qXG C ops o σ=some r) (hG:∀ t c,t ∈ o.looksAt ops→uG σ.S t=some (.v c)→uG τ.S t=some (.v c))
  (hS:∀ t x,t ∈ o.looksAt ops→uG σ.S t=some x→(∀ id ∈ x.ids,id ∈ catL RV.ids r.2)→uG τ.S t=some x) (hM:∀ i ∈ catL RV.fol r.2,zH τ.M i=zH σ.M i)
  (hN:∀ i ∈ r.1.nw,zH τ.M i=zH σ.M i):qXG C ops o τ=some r:=by
 obtain ⟨hd,h⟩:=zXG h;refine zKG hd ?_;rcases h with ⟨h1,h2⟩ | ⟨h1,h2,h3,h4⟩
 ·exact .inl ⟨guard_local h1 hG,h2⟩
 ·refine .inr ⟨guard_local h1 hG,?_,h3,fun i hi=>by rw [hN i hi]; exact h4 i hi⟩;have ha:=jQ h2;refine jYV ⟨ha.1,fun i x y hx hy => ?_⟩;have h5:=ha.2 i x y hx hy;cases x with
  | tmp t =>
   simp only [opv,vQQ] at h5 ⊢;obtain ⟨z,hz,hr⟩:=h5;exact ⟨z,hS t z (look_mem (vQG hx)) hz fun id hid=>mem_catL.2 ⟨y,vQG hy,resM_ids hr id hid⟩,resM_local hr fun id hid=>hM id (mem_catL.2 ⟨y,vQG hy,hid⟩)⟩
  | _=>exact h5
theorem step_eqv {o:Oper} {σ τ:St} {r:Eff × List RV} (h:qXG C ops o σ=some r) (he:Eqv σ τ):qXG C ops o τ=some r :=
 zXH h (fun t c _ h=>by rw [← he.1]; exact h) (fun t x _ h _=>by rw [← he.1]; exact h) (fun i _=>(he.2 i).symm) (fun i _=>(he.2 i).symm)
theorem fol_both {o:Oper} {σ:St} {r:Eff × List RV} (h:qXG C ops o σ=some r):∀ i ∈ catL RV.fol r.2,i ∈ catL RV.ids r.2∧∀ e,zH σ.M i=some e→∀ id ∈ e.ids,id ∈ catL RV.ids r.2:=by
 obtain ⟨hd,hh⟩:=zXG h;rcases hh with ⟨_,hr⟩ | ⟨_,hr,_,_⟩
 ·intro i hi; rw [hr] at hi; simp [catL] at hi
 ·intro i hi;obtain ⟨rv,hrv,hin⟩:=mem_catL.1 hi;obtain ⟨k,hk⟩:=List.mem_iff_getElem?.1 hrv;have ha:=jQ hr;have hkl:=(List.getElem?_eq_some_iff.1 hk).1;have hko:k < o.op.operands.toList.length:=by rw [ha.1]; exact hkl
  have hop:=opv_deep (ha.2 k _ rv (vQK hko) hk);exact ⟨mem_catL.2 ⟨rv,hrv,hop.1 i hin⟩,fun e he id hid=>mem_catL.2 ⟨rv,hrv,hop.2 i hin e he id hid⟩⟩
theorem fol_all {o:Oper} {σ:St} {r:Eff × List RV} (h:qXG C ops o σ=some r):∀ i ∈ catL RV.fol r.2,i ∈ catL RV.ids r.2:=fun i hi=>(fol_both h i hi).1
theorem fol_deep {o:Oper} {σ:St} {r:Eff × List RV} (h:qXG C ops o σ=some r):∀ i ∈ catL RV.fol r.2,∀ e,zH σ.M i=some e→∀ id ∈ e.ids,id ∈ catL RV.ids r.2:=fun i hi=>(fol_both h i hi).2
theorem swap {x y:Done} {ox oy:Oper} {σ:St} (ind:Indep ops x y ox oy) (h1:qXG C ops ox σ=some x.2) (h2:qXG C ops oy (σ.apply x.2.1 ox.dst)=some y.2) :
  qXG C ops oy σ=some y.2∧qXG C ops ox (σ.apply y.2.1 oy.dst)=some x.2∧Eqv ((σ.apply x.2.1 ox.dst).apply y.2.1 oy.dst) ((σ.apply y.2.1 oy.dst).apply x.2.1 ox.dst):=by
 have sid:∀ z:Option HV,z.map (HV.sub x.2.1.sb)=z:=fun z=>by rw [ind.sb]; cases z <;> simp [HV.sub_nil]
 have eid:∀ z:Option Ent,z.map (Ent.sub x.2.1.sb)=z:=fun z=>by rw [ind.sb]; cases z <;> simp [Ent.sub_nil]
 have xw:∀ i,i ∉ x.2.1.wr→kZ x.2.1.up i=none:=fun i hi=>upFind_none.2 fun h=>hi (List.mem_append.2 (.inl h))
 have yw:∀ i,i ∉ y.2.1.wr→kZ y.2.1.up i=none:=fun i hi=>upFind_none.2 fun h=>hi (List.mem_append.2 (.inl h))
 have ys:∀ i,i ∉ y.2.1.wr→kK y.2.1.sb i=none:=fun i hi=>subFind_none fun h=>hi (List.mem_append.2 (.inr h))
 have xall:∀ i,(i ∈ catL RV.ids x.2.2 ∨ i ∈ x.2.1.all)→i ∉ y.2.1.wr:=fun i hi hw=>by
  have:=ind.w2 i hw
  rcases hi with h | h
  ·exact this.1 h
  ·exact this.2 h
 have yall:∀ i,(i ∈ catL RV.ids y.2.2 ∨ i ∈ y.2.1.all)→i ∉ x.2.1.wr:=fun i hi hw=>by
  have:=ind.w1 i hw
  rcases hi with h | h
  ·exact this.1 h
  ·exact this.2 h
 have nwx:∀ i ∈ x.2.1.nw,i ∈ x.2.1.all:=fun i hi=>List.mem_append.2 (.inr hi)
 have nwy:∀ i ∈ y.2.1.nw,i ∈ y.2.1.all:=fun i hi=>List.mem_append.2 (.inr hi)
 have S1:∀ t,t ∈ oy.looksAt ops→uG (σ.apply x.2.1 ox.dst).S t=uG σ.S t:=fun t ht=>by
  rw [qKH,if_neg (fun e=>ind.d1 t e ht),sid]
 have M1:∀ i,i ∉ x.2.1.wr→zH (σ.apply x.2.1 ox.dst).M i=zH σ.M i:=fun i hi=>by
  rw [qYX,xw i hi]; exact eid _
 refine ⟨zXH h2 (fun t c ht h=>by rw [← S1 t ht]; exact h) (fun t x ht h _=>by rw [← S1 t ht]; exact h) (fun i hi=>(M1 i (yall i (.inl (fol_all h2 i hi)))).symm) (fun i hi=>(M1 i (yall i (.inr (nwy i hi)))).symm),?_,?_⟩
 ·have S2:∀ t z,t ∈ ox.looksAt ops→uG σ.S t=some z→(∀ id ∈ z.ids,id ∉ y.2.1.wr)→uG (σ.apply y.2.1 oy.dst).S t=some z:=fun t z ht hz hi=>by
   rw [qKH,if_neg (fun e=>ind.d2 t e ht),hz,Option.map_some,yKH fun id hid=>ys id (hi id hid)]
  have hMM:∀ i,i ∉ y.2.1.wr→(∀ e,zH σ.M i=some e→∀ id ∈ e.ids,id ∉ y.2.1.wr)→zH (σ.apply y.2.1 oy.dst).M i=zH σ.M i:=fun i hi he=>by
   rw [qYX,yw i hi];cases hl:zH σ.M i with
   | none=>rfl
   | some e=>simp only [Option.map_some]; rw [ent_keep fun id hid=>ys id (he e hl id hid)]
  refine zXH h1 (fun t c ht h=>S2 t _ ht h fun id hid=>by simp [HV.ids] at hid) (fun t z ht h hi=>S2 t z ht h fun id hid=>xall id (.inl (hi id hid))) (fun i hi=>hMM i (xall i (.inl (fol_all h1 i hi))) fun e he id hid=>xall id (.inl (fol_deep h1 i hi e he id hid))) (fun i hi => ?_)
  ·obtain ⟨hd,hh⟩:=zXG h1;rcases hh with ⟨_,hr⟩ | ⟨_,_,_,hn⟩
   ·rw [hr] at hi; cases hi
   ·refine hMM i (xall i (.inr (nwx i hi))) fun e he => ?_
    rw [hn i hi] at he; cases he
 ·refine ⟨fun t => ?_,fun i => ?_⟩
  ·rw [qKH,qKH,qKH,qKH];by_cases e1:oy.dst=some t
   ·have e2:¬ ox.dst=some t:=fun e=>ind.d3 t e e1
    rw [if_pos e1,if_neg e2,if_pos e1,sid]
   ·rw [if_neg e1,if_neg e1];by_cases e2:ox.dst=some t
    ·rw [if_pos e2,if_pos e2,Option.map_some,yKH fun id hid=>ys id (xall id (.inr (List.mem_append.2 (.inl (List.mem_append.2 (.inr hid))))))]
    ·rw [if_neg e2,if_neg e2,sid,sid]
  ·rw [qYX,qYX,qYX,qYX];cases hy:kZ y.2.1.up i with
   | some z =>
    have:kZ x.2.1.up i=none:=xw i (yall i (.inr (List.mem_append.2 (.inl (List.mem_append.2 (.inl (mem_catL.2 ⟨(i,z),zXW hy,by unfold kJJ; cases z <;> simp⟩)))))))
    rw [this]; exact (eid _).symm
   | none =>
    cases hx:kZ x.2.1.up i with
    | some z =>
     simp only;cases z with
     | none=>rfl
     | some ent =>
      simp only [Option.map_some];rw [ent_keep fun id hid=>ys id (xall id (.inr (List.mem_append.2 (.inl (List.mem_append.2 (.inl (mem_catL.2 ⟨(i,some ent),zXW hx,by simp [kJJ,hid]⟩)))))))]
    | none =>
     simp only;rw [eid,eid]
end
end Go.Rx

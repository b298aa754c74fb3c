/- Part 6 of the texts behind the last one: rules and contracts. No condition. -/
import Derived.Test.YtklmegnpfhiibaaGreatBK5
open Option renaming bind_eq_some_iff → vQQ, bind_some → vZV
open Option.some renaming injEq → vQZ
open Bool renaming and_eq_true → vQJ
open List renaming getElem?_eq_getElem → vQK, mem_of_getElem? → vQW, mem_cons_of_mem → vQV, mem_cons_self → vQG, getElem?_take → vZU, mem_cons → vZG
open Array renaming getElem?_eq_getElem → vZY
namespace Go.Rx
open Go.RowKit Go.Sx
def Eqv (σ τ:St):Prop:=(∀ t,kH σ.S t=kH τ.S t)∧(∀ i,qV σ.M i=qV τ.M i)
theorem Eqv.refl (σ:St):Eqv σ σ:=⟨fun _=>rfl,fun _=>rfl⟩
theorem Eqv.symm {σ τ:St} (h:Eqv σ τ):Eqv τ σ:=⟨fun t=>(h.1 t).symm,fun i=>(h.2 i).symm⟩
theorem Eqv.trans {σ τ υ:St} (h:Eqv σ τ) (k:Eqv τ υ):Eqv σ υ:=⟨fun t=>(h.1 t).trans (k.1 t),fun i=>(h.2 i).trans (k.2 i)⟩
theorem Eqv.apply {σ τ:St} (h:Eqv σ τ) (e:Eff) (d:Option Nat):Eqv (σ.apply e d) (τ.apply e d):=⟨fun t=>by rw [qYV,qYV,h.1],fun i=>by rw [qQY,qQY,h.2]⟩
theorem yJ {α β:Type} {f:α→Option β} {xs:List α} {ys:List β} (h:mapO f xs=some ys):Al (fun x y=>f x=some y) xs ys:=by
 induction xs generalizing ys with
 | nil=>simp [mapO] at h; subst h; exact Al.nil
 | cons x xs ih =>
  simp only [mapO,vQQ,vQZ] at h;obtain ⟨y,hy,zs,hz,rfl⟩:=h;exact Al.cons hy (ih hz)
theorem zWE {α β:Type} {f:α→Option β} {xs:List α} {ys:List β} (h:Al (fun x y=>f x=some y) xs ys):mapO f xs=some ys:=by
 induction xs generalizing ys with
 | nil=>rw [h.nil_left]; rfl
 | cons x xs ih =>
  obtain ⟨y,zs,rfl,h1,h2⟩:=h.cons_left;simp [mapO,h1,ih h2]
theorem mem_catL {α:Type} {f:α→List Nat} {xs:List α} {i:Nat}:i ∈ catL f xs ↔ ∃ x ∈ xs,i ∈ f x:=by
 induction xs with
 | nil=>simp [catL]
 | cons x xs ih =>
  have:catL f (x :: xs)=f x ++ catL f xs:=by
   simp only [catL]; cases f x <;> simp
  simp [this,ih]
theorem cv_local {M M':Mem} {x:HV} {c:CV} (h:cvOf M x=some c) (he:∀ id ∈ c.fol,qV M' id=qV M id):cvOf M' x=some c:=by
 cases x with
 | o id =>
  simp only [cvOf] at h ⊢;split at h
  ·rename_i e sz rows hl;cases h;rw [he id (by simp [CV.fol]),hl]
  ·cases h
 | _=>exact h
theorem cv_ids {M:Mem} {x:HV} {c:CV} (h:cvOf M x=some c):∀ id ∈ x.ids,id ∈ c.ids:=by
 cases x with
 | o id =>
  simp only [cvOf] at h;split at h
  ·cases h; exact fun _ h=>h
  ·cases h
 | _=>simp only [cvOf,vQZ] at h; subst h; exact fun _ h=>h
theorem cv_fol {c:CV}:∀ id ∈ c.fol,id ∈ c.ids:=by
 cases c with
 | h x=>intro id h; cases h
 | o id e sz rows=>exact fun _ h=>h
theorem cv_deep {M:Mem} {x:HV} {c:CV} (h:cvOf M x=some c):∀ id ∈ c.fol,∀ e,qV M id=some e→e.ids=[]:=by
 cases x with
 | o id =>
  simp only [cvOf] at h;split at h
  ·rename_i e sz rows hl;cases h;intro i hi e he;simp only [CV.fol,List.mem_singleton] at hi;subst hi;rw [hl] at he; cases he; rfl
  ·cases h
 | _=>simp only [cvOf,vQZ] at h; subst h; intro i hi; cases hi
section
variable {M M':Mem} {cells:List HV} {cs:List CV}
theorem cvs_local (h:mapO (cvOf M) cells=some cs) (he:∀ id ∈ catL CV.fol cs,qV M' id=qV M id):mapO (cvOf M') cells=some cs:=by
 have h1:=yJ h;refine zWE ⟨h1.1,fun i x y hx hy=>cv_local (h1.2 i x y hx hy) fun id hid=>he id (mem_catL.2 ⟨y,vQW hy,hid⟩)⟩
theorem cvs_ids (h:mapO (cvOf M) cells=some cs):∀ id ∈ catL HV.ids cells,id ∈ catL CV.ids cs:=by
 have h1:=yJ h;intro id hid;obtain ⟨x,hx,hi⟩:=mem_catL.1 hid;obtain ⟨i,hi2⟩:=List.mem_iff_getElem?.1 hx;obtain ⟨y,hy,hr⟩:=h1.get hi2;exact mem_catL.2 ⟨y,vQW hy,cv_ids hr id hi⟩
theorem cvs_fol:∀ id ∈ catL CV.fol cs,id ∈ catL CV.ids cs:=fun id hid=>by
 obtain ⟨x,hx,hi⟩:=mem_catL.1 hid;exact mem_catL.2 ⟨x,hx,cv_fol id hi⟩
theorem cvs_deep (h:mapO (cvOf M) cells=some cs):∀ id ∈ catL CV.fol cs,∀ e,qV M id=some e→e.ids=[]:=by
 have h1:=yJ h;intro id hid e he;obtain ⟨y,hy,hi⟩:=mem_catL.1 hid;obtain ⟨i,hi2⟩:=List.mem_iff_getElem?.1 hy;have hil:=(List.getElem?_eq_some_iff.1 hi2).1;have hc:i < cells.length:=by rw [h1.1]; exact hil
 exact cv_deep (h1.2 i _ y (vQK hc) hi2) id hi e he
end
theorem rc_local {M M':Mem} {x:Cap} {c:RC} (h:rcOf M x=some c) (he:∀ id ∈ c.fol,qV M' id=qV M id):rcOf M' x=some c:=by
 cases x with
 | v x=>exact h
 | p id off =>
  simp only [rcOf] at h ⊢;split at h
  ·rename_i cells hl;simp only [vQQ,vQZ] at h;obtain ⟨cc,hcc,rfl⟩:=h;rw [he id (by simp [RC.fol]),hl];simp only [cvs_local hcc fun id hid=>he id (by simp [RC.fol,hid])];rfl
  ·cases h
theorem rc_fol {c:RC}:∀ id ∈ c.fol,id ∈ c.ids:=by
 cases c with
 | v x=>intro id h; cases h
 | p id off cells =>
  intro i hi;simp only [RC.fol,RC.ids,vZG] at hi ⊢;exact hi.imp (fun h=>h) (cvs_fol i)
theorem rc_deep {M:Mem} {x:Cap} {c:RC} (h:rcOf M x=some c):∀ i ∈ c.fol,∀ e,qV M i=some e→∀ id ∈ e.ids,id ∈ c.ids:=by
 cases x with
 | v x=>simp only [rcOf,vQZ] at h; subst h; intro i hi; cases hi
 | p id off =>
  simp only [rcOf] at h;split at h
  ·rename_i cells hl;simp only [vQQ,vQZ] at h;obtain ⟨cc,hcc,rfl⟩:=h;intro i hi e he k hk;simp only [RC.fol,vZG] at hi;rcases hi with rfl | hi
   ·rw [hl] at he; cases he;simp only [RC.ids,vZG];exact .inr (cvs_ids hcc k hk)
   ·rw [cvs_deep hcc i hi e he] at hk; cases hk
  ·cases h
theorem qWU {M M':Mem} {x:HV} {r:RV} (h:res M x=some r) (he:∀ id ∈ r.fol,qV M' id=qV M id):res M' x=some r:=by
 cases x with
 | o id =>
  simp only [res] at h ⊢;split at h
  ·rename_i e sz rows hl; cases h; rw [he id (by simp [RV.fol]),hl]
  ·rename_i e ie isz rows pd hl; cases h; rw [he id (by simp [RV.fol]),hl]
  ·cases h
 | m id j =>
  simp only [res] at h ⊢;split at h
  ·rename_i e ie isz rows pd hl; cases h; rw [he id (by simp [RV.fol]),hl]
  ·cases h
 | p id off =>
  simp only [res] at h ⊢;split at h
  ·rename_i cells hl;simp only [vQQ,vQZ] at h;obtain ⟨cs,hcs,rfl⟩:=h;rw [he id (by simp [RV.fol]),hl];simp only [cvs_local hcs fun id hid=>he id (by simp [RV.fol,hid])];rfl
  ·rename_i s pos hl; cases h; rw [he id (by simp [RV.fol]),hl]
  ·cases h
 | q id j off =>
  simp only [res] at h ⊢;split at h
  ·rename_i e sz rows hl; cases h; rw [he id (by simp [RV.fol]),hl]
  ·rename_i e ie isz rows pd hl; cases h; rw [he id (by simp [RV.fol]),hl]
  ·cases h
 | g fn first cap =>
  simp only [res,vQQ,vQZ] at h ⊢;obtain ⟨cs,hcs,rfl⟩:=h;have h1:=yJ hcs;exact ⟨cs,zWE ⟨h1.1,fun i x y hx hy=>rc_local (h1.2 i x y hx hy) fun id hid=>he id (mem_catL.2 ⟨_,vQW hy,hid⟩)⟩,rfl⟩
 | _=>exact h
theorem zZH {M:Mem} {x:HV} {r:RV} (h:res M x=some r):∀ id ∈ x.ids,id ∈ r.ids:=by
 cases x with
 | o id =>
  simp only [res] at h;split at h
  ·cases h; exact fun _ h=>h
  ·cases h; exact fun _ h=>h
  ·cases h
 | q id j off =>
  simp only [res] at h;split at h
  ·cases h; exact fun _ h=>h
  ·cases h; exact fun _ h=>h
  ·cases h
 | m id j =>
  simp only [res] at h;split at h
  ·cases h; exact fun _ h=>h
  ·cases h
 | mp id j=>cases h; exact fun _ h=>h
 | ag cs=>cases h; exact fun _ h=>h
 | _=>intro id hid; simp [HV.ids] at hid
theorem qGY {M:Mem} {x:HV} {r:RV} (h:res M x=some r):(∀ i ∈ r.fol,i ∈ r.ids)∧∀ i ∈ r.fol,∀ e,qV M i=some e→∀ id ∈ e.ids,id ∈ r.ids:=by
 cases x with
 | o id =>
  simp only [res] at h;split at h
  ·rename_i e sz rows hl;cases h;refine ⟨fun _ h=>h,fun i hi e he k hk => ?_⟩;simp only [RV.fol,List.mem_singleton] at hi;subst hi;rw [hl] at he; cases he; cases hk
  ·rename_i e ie isz rows pd hl;cases h;refine ⟨fun _ h=>h,fun i hi e he k hk => ?_⟩;simp only [RV.fol,List.mem_singleton] at hi;subst hi;rw [hl] at he; cases he; cases hk
  ·cases h
 | m id j =>
  simp only [res] at h;split at h
  ·rename_i e ie isz rows pd hl;cases h;refine ⟨fun i hi=>(by simp only [RV.fol,List.mem_singleton] at hi; subst hi; simp [RV.ids]),fun i hi e he k hk => ?_⟩;simp only [RV.fol,List.mem_singleton] at hi;subst hi;rw [hl] at he; cases he; cases hk
  ·cases h
 | mp id j=>cases h; exact ⟨fun i hi=>(by cases hi),fun i hi=>(by cases hi)⟩
 | p id off =>
  simp only [res] at h;split at h
  ·rename_i cells hl;simp only [vQQ,vQZ] at h;obtain ⟨cs,hcs,rfl⟩:=h;refine ⟨fun i hi => ?_,fun i hi e he k hk => ?_⟩
   ·simp only [RV.fol,RV.ids,vZG] at hi ⊢;exact hi.imp (fun h=>h) (cvs_fol i)
   ·simp only [RV.fol,vZG] at hi;rcases hi with rfl | hi
    ·rw [hl] at he; cases he;simp only [RV.ids,vZG];exact .inr (cvs_ids hcs k hk)
    ·rw [cvs_deep hcs i hi e he] at hk; cases hk
  ·rename_i s pos hl;cases h;refine ⟨fun _ h=>h,fun i hi e he k hk => ?_⟩;simp only [RV.fol,List.mem_singleton] at hi;subst hi;rw [hl] at he; cases he; cases hk
  ·cases h
 | q id j off =>
  simp only [res] at h;split at h
  ·rename_i e sz rows hl;cases h;refine ⟨fun _ h=>h,fun i hi e he k hk => ?_⟩;simp only [RV.fol,List.mem_singleton] at hi;subst hi;rw [hl] at he; cases he; cases hk
  ·rename_i e ie isz rows pd hl;cases h;refine ⟨fun _ h=>h,fun i hi e he k hk => ?_⟩;simp only [RV.fol,List.mem_singleton] at hi;subst hi;rw [hl] at he; cases he; cases hk
  ·cases h
 | g fn first cap =>
  simp only [res,vQQ,vQZ] at h;obtain ⟨cs,hcs,rfl⟩:=h;have h1:=yJ hcs;refine ⟨fun i hi => ?_,fun i hi e he k hk => ?_⟩
  ·obtain ⟨c,hc,hin⟩:=mem_catL.1 hi;exact mem_catL.2 ⟨c,hc,rc_fol i hin⟩
  ·obtain ⟨c,hc,hin⟩:=mem_catL.1 hi;obtain ⟨m,hm⟩:=List.mem_iff_getElem?.1 hc;have hml:=(List.getElem?_eq_some_iff.1 hm).1;have hcap:m < cap.length:=by rw [h1.1]; exact hml
   exact mem_catL.2 ⟨c,hc,rc_deep (h1.2 m _ c (vQK hcap) hm) i hin e he k hk⟩
 | v x=>cases h; exact ⟨fun i hi=>(by cases hi),fun i hi=>(by cases hi)⟩
 | nl=>cases h; exact ⟨fun i hi=>(by cases hi),fun i hi=>(by cases hi)⟩
 | un=>cases h; exact ⟨fun i hi=>(by cases hi),fun i hi=>(by cases hi)⟩
 | ag cs=>cases h; exact ⟨fun i hi=>(by cases hi),fun i hi=>(by cases hi)⟩
theorem yQZ (x:HV):(∀ id ∈ x.ids,id ∈ (sh x).ids)∧(sh x).fol=[]:=by
 cases x <;> exact ⟨fun _ h=>h,rfl⟩
theorem resM_local {m:Nat} {M M':Mem} {x:HV} {r:RV} (h:resM m M x=some r) (he:∀ id ∈ r.fol,qV M' id=qV M id):resM m M' x=some r:=by
 match m with
 | 0=>exact qWU h he
 | 1=>exact h
 | 2 =>
  cases x with
  | o id=>simp only [resM] at h ⊢; exact qWU h he
  | _=>exact h
 | m + 3 =>
  cases x with
  | p id off =>
   cases off with
   | succ off=>simp only [resM] at h ⊢; exact qWU h he
   | zero =>
    have hid:qV M' id=qV M id:=by
     simp only [resM] at h;split at h
     ·cases h; exact he id (by simp [RV.fol])
     ·simp only [res] at h;split at h
      ·simp only [vQQ,vQZ] at h;obtain ⟨cs,_,rfl⟩:=h;exact he id (by simp [RV.fol])
      ·cases h; exact he id (by simp [RV.fol])
      ·cases h
    simp only [resM] at h ⊢;rw [hid];split at h
    ·exact h
    ·exact qWU h he
  | _=>simp only [resM] at h ⊢; exact qWU h he
theorem resM_ids {m:Nat} {M:Mem} {x:HV} {r:RV} (h:resM m M x=some r):∀ id ∈ x.ids,id ∈ r.ids:=by
 match m with
 | 0=>exact zZH h
 | 1=>simp only [resM,vQZ] at h; subst h; exact (yQZ x).1
 | 2 =>
  cases x with
  | o id=>exact zZH (by simpa only [resM] using h)
  | _=>simp only [resM,vQZ] at h; subst h; exact (yQZ _).1
 | m + 3 =>
  cases x with
  | p id off =>
   cases off with
   | succ off=>exact zZH (by simpa only [resM] using h)
   | zero =>
    simp only [resM] at h;split at h
    ·cases h; intro i hi; simp [HV.ids] at hi
    ·exact zZH h
  | _=>exact zZH (by simpa only [resM] using h)
theorem resM_deep {m:Nat} {M:Mem} {x:HV} {r:RV} (h:resM m M x=some r):(∀ i ∈ r.fol,i ∈ r.ids)∧∀ i ∈ r.fol,∀ e,qV M i=some e→∀ id ∈ e.ids,id ∈ r.ids:=by
 have shd:∀ x:HV,(∀ i ∈ (sh x).fol,i ∈ (sh x).ids)∧∀ i ∈ (sh x).fol,∀ e,qV M i=some e→∀ id ∈ e.ids,id ∈ (sh x).ids:=fun x=>by
  rw [(yQZ x).2]; exact ⟨fun i hi=>(by cases hi),fun i hi=>(by cases hi)⟩
 match m with
 | 0=>exact qGY h
 | 1=>simp only [resM,vQZ] at h; subst h; exact shd x
 | 2 =>
  cases x with
  | o id=>exact qGY (by simpa only [resM] using h)
  | _=>simp only [resM,vQZ] at h; subst h; exact shd _
 | m + 3 =>
  cases x with
  | p id off =>
   cases off with
   | succ off=>exact qGY (by simpa only [resM] using h)
   | zero =>
    simp only [resM] at h;split at h
    ·rename_i i2 hl;cases h;refine ⟨fun i hi => ?_,fun i hi e he j hj => ?_⟩
     ·simp only [RV.fol,List.mem_singleton] at hi; subst hi; simp [RV.ids]
     ·simp only [RV.fol,List.mem_singleton] at hi;subst hi;rw [hl] at he;cases he
      simpa [Ent.ids,catL,HV.ids,RV.ids] using Or.inr hj
    ·exact qGY h
  | _=>exact qGY (by simpa only [resM] using h)
theorem zJC {sb:List (Nat × Option Rows)} {x:HV} (h:∀ id ∈ x.ids,yK sb id=none):x.sub sb=x:=by
 cases x with
 | o id=>simp [HV.sub,h id (by simp [HV.ids])]
 | q id j off=>simp [HV.sub,h id (by simp [HV.ids])]
 | m id j=>simp [HV.sub,h id (by simp [HV.ids]),h (mid id) (by simp [HV.ids])]
 | mp id j=>simp [HV.sub,h id (by simp [HV.ids]),h (mid id) (by simp [HV.ids])]
 | ag cs =>
  refine congrArg HV.ag ((List.map_congr_left fun c hc => ?_).trans (List.map_id cs));cases c with
  | o id=>simp [HC.sub,h id (mem_catL.2 ⟨_,hc,List.mem_singleton.2 rfl⟩)]
  | _=>rfl
 | _=>rfl
theorem ent_keep {sb:List (Nat × Option Rows)} {x:Ent} (h:∀ id ∈ x.ids,yK sb id=none):x.sub sb=x:=by
 cases x with
 | blk cells =>
  simp only [Ent.sub]
  congr 1
  exact (List.map_congr_left fun a ha=>zJC fun id hid=>h id (mem_catL.2 ⟨a,ha,hid⟩)).trans (List.map_id _)
 | _=>rfl
theorem subFind_none {l:List (Nat × Option Rows)} {id:Nat} (h:id ∉ l.map (·.1)):yK l id=none:=by
 induction l with
 | nil=>rfl
 | cons x l ih =>
  obtain ⟨k,x⟩:=x;simp only [List.map_cons,vZG,not_or] at h;simp only [yK,uW (Ne.symm h.1),vYY];exact ih h.2
theorem upFind_none {l:List (Nat × Option Ent)} {id:Nat}:yZ l id=none ↔ id ∉ l.map (·.1):=by
 induction l with
 | nil=>simp [yZ]
 | cons x l ih =>
  obtain ⟨k,x⟩:=x;simp only [yZ,List.map_cons,vZG,not_or];cases hu:yZ l id with
  | some y =>
   simp only [reduceCtorEq,false_iff,not_and];intro _ hn;rw [ih.2 hn] at hu; cases hu
  | none =>
   by_cases e:k=id
   ·subst e; simp
   ·simp [uW e,Ne.symm e,ih.1 hu]
theorem qHZ {l:List (Nat × Option Ent)} {id:Nat} {x:Option Ent} (h:yZ l id=some x):(id,x) ∈ l:=by
 induction l with
 | nil=>simp [yZ] at h
 | cons y l ih =>
  obtain ⟨k,y⟩:=y;simp only [yZ] at h;cases hu:yZ l id with
  | some z=>rw [hu] at h; cases h; exact vQV _ (ih hu)
  | none =>
   rw [hu] at h;by_cases e:k=id
   ·subst e; simp at h; subst h; exact vQG
   ·simp [uW e] at h
theorem qGD {xs ys:List Nat} (h:disj xs ys=true):∀ x ∈ xs,x ∉ ys:=by
 induction xs with
 | nil=>intro x hx; cases hx
 | cons a xs ih =>
  simp only [disj,vQJ,Bool.not_eq_true'] at h;intro x hx;rcases List.mem_cons.1 hx with rfl | hx
  ·intro hm
   have:=List.any_eq_false.1 h.1 x hm
   simp at this
  ·exact ih h.2 x hx
structure Indep (ops:Array Oper) (x y:Done) (ox oy:Oper):Prop where
 sb:x.2.1.sb=[]
 d1:∀ d,ox.dst=some d→d ∉ oy.looksAt ops
 d2:∀ d,oy.dst=some d→d ∉ ox.looksAt ops
 d3:∀ d,ox.dst=some d→oy.dst ≠ some d
 w1:∀ i ∈ x.2.1.wr,i ∉ catL RV.ids y.2.2∧i ∉ y.2.1.all
 w2:∀ i ∈ y.2.1.up.map (·.1),i ∉ catL RV.fol x.2.2∧i ∉ x.2.1.nw
 w3:∀ i ∈ y.2.1.sb.map (·.1),i ∉ catL RV.ids x.2.2∧i ∉ x.2.1.all
theorem any_beq {d:Nat} {l:List Nat} (h:(!(l.any (Nat.beq d)))=true):d ∉ l:=fun hm=>by
 rw [Bool.not_eq_true'] at h
 have:=List.any_eq_false.1 h d hm
 simp at this
theorem indepB_spec {ops:Array Oper} {x y:Done} {ox oy:Oper} (hx:ops[x.1]? = some ox) (hy:ops[y.1]? = some oy) (h:yQH ops x y=true):Indep ops x y ox oy:=by
 unfold yQH at h;simp only [hx,hy,vQJ] at h;obtain ⟨⟨⟨⟨⟨h1,h2⟩,h3⟩,h4⟩,h5⟩,h6,h7⟩:=h;refine ⟨?_,fun d hd => ?_,fun d hd => ?_,fun d hd he => ?_,fun i hi => ?_,fun i hi => ?_,fun i hi => ?_⟩
 ·cases hs:x.2.1.sb with
  | nil=>rfl
  | cons a b=>rw [hs] at h1; cases h1
 ·rw [hd] at h2; exact any_beq h2
 ·rw [hd] at h3; exact any_beq h3
 ·rw [hd,he] at h4; simp at h4
 ·have:=qGD h5 i hi; simpa [not_or] using this
 ·have:=qGD h6 i hi; simpa [not_or] using this
 ·have:=qGD h7 i hi; simpa [not_or] using this
theorem look_mem {ops:Array Oper} {o:Oper} {t:Nat} (h:Operand.tmp t ∈ o.op.operands.toList):t ∈ o.looksAt ops:=by
 unfold Oper.looksAt;refine List.mem_append.2 (.inl (List.mem_filterMap.2 ⟨_,h,rfl⟩))
theorem look_guard {ops:Array Oper} {o:Oper} {j:Nat} {b:Bool} {d:Nat} (hg:o.guard=some (j,b)) (hd:(ops[j]?).bind (·.dst)=some d):d ∈ o.looksAt ops:=by
 unfold Oper.looksAt;refine List.mem_append.2 (.inr ?_);simp [hg,hd]
theorem zZZ {M:Mem} {i:Nat} (h:((qV M i).isNone && Nat.blt i 2000000)=true):qJB M i:=by
 rw [vQJ,Nat.blt_eq] at h;exact ⟨by simpa using h.1,h.2⟩
theorem fresh_to {M:Mem} {i:Nat} (h:qJB M i):((qV M i).isNone && Nat.blt i 2000000)=true:=by
 rw [vQJ,Nat.blt_eq,h.1];exact ⟨rfl,h.2⟩
theorem opv_deep {m:Nat} {σ:St} {x:Operand} {r:RV} (h:opv m σ x=some r):(∀ i ∈ r.fol,i ∈ r.ids)∧∀ i ∈ r.fol,∀ e,qV σ.M i=some e→∀ id ∈ e.ids,id ∈ r.ids:=by
 have nofol:r.fol=[]→(∀ i ∈ r.fol,i ∈ r.ids)∧∀ i ∈ r.fol,∀ e,qV σ.M i=some e→∀ id ∈ e.ids,id ∈ r.ids:=fun h=>by
  rw [h]; exact ⟨fun i hi=>(by cases hi),fun i hi=>(by cases hi)⟩
 cases x with
 | tmp t =>
  simp only [opv,vQQ] at h;obtain ⟨z,_,hr⟩:=h;exact resM_deep hr
 | const v =>
  simp only [opv] at h;unfold zVW at h;split at h
  ·cases h; exact nofol rfl
  ·simp only [vQQ,vQZ] at h; obtain ⟨_,_,rfl⟩:=h; exact nofol rfl
  ·simp only [vQQ,vQZ] at h; obtain ⟨_,_,rfl⟩:=h; exact nofol rfl
 | func f=>simp only [opv,vQZ] at h; subst h; exact nofol rfl
 | global g=>cases h
section
variable {C:Cx} {ops:Array Oper}
theorem guard_local {o:Oper} {σ τ:St} {g:Bool} (h:uK ops σ o=some g) (hS:∀ t c,t ∈ o.looksAt ops→kH σ.S t=some (.v c)→kH τ.S t=some (.v c)):uK ops τ o=some g:=by
 unfold uK at h ⊢;cases hg:o.guard with
 | none=>rw [hg] at h; exact h
 | some gd =>
  obtain ⟨j,b⟩:=gd;rw [hg] at h;simp only at h ⊢;cases hd:(ops[j]?).bind (·.dst) with
  | none=>rw [hd] at h; exact h
  | some d =>
   rw [hd] at h;simp only at h ⊢;cases hl:kH σ.S d with
   | none=>rw [hl] at h; simp at h
   | some x =>
    rw [hl] at h;cases x with
    | v p =>
     rw [hS d p (look_guard hg hd) hl]; exact h
    | _=>simp at h
theorem qHY {o:Oper} {σ:St} {r:Eff × List RV} (h:qJK C ops o σ=some r):dstB C.n o.dst=true∧((uK ops σ o=some false∧r=(.val (.v (.t [])),[])) ∨
  (uK ops σ o=some true∧mapO (opv (mode o.op) σ) o.op.operands.toList=some r.2∧qU C.T C.cA C.cB C.me (o.dst.getD 0) o.op r.2=some r.1∧∀ i ∈ r.1.nw,qJB σ.M i)):=by
 unfold qJK at h;cases hgo:uK ops σ o with
 | none=>rw [hgo] at h; simp at h
 | some g =>
  rw [hgo] at h;simp only [vZV] at h;cases hdd:dstB C.n o.dst with
  | false=>rw [hdd] at h; simp at h
  | true =>
   rw [hdd] at h;refine ⟨rfl,?_⟩;cases g with
   | false=>simp at h; exact .inl ⟨rfl,h.symm⟩
   | true =>
    simp only [vYZ,vQQ] at h;obtain ⟨vs',hvs,e',he,hh⟩:=h;cases hn:e'.nw.all (fun id=>(qV σ.M id).isNone && Nat.blt id 2000000) with
    | false=>rw [hn] at hh; simp at hh
    | true =>
     rw [hn] at hh;simp only [vYZ,vQZ] at hh;subst hh;refine .inr ⟨rfl,hvs,he,fun i hi => ?_⟩;exact zZZ (List.all_eq_true.1 hn i hi)
theorem qVB {o:Oper} {σ:St} {r:Eff × List RV} (hd:dstB C.n o.dst=true) (h:(uK ops σ o=some false∧r=(.val (.v (.t [])),[])) ∨
  (uK ops σ o=some true∧mapO (opv (mode o.op) σ) o.op.operands.toList=some r.2∧qU C.T C.cA C.cB C.me (o.dst.getD 0) o.op r.2=some r.1∧∀ i ∈ r.1.nw,qJB σ.M i)):qJK C ops o σ=some r:=by
 unfold qJK;rcases h with ⟨h1,rfl⟩ | ⟨h1,h2,h3,h4⟩
 ·simp [h1,hd]
 ·have:r.1.nw.all (fun id=>(qV σ.M id).isNone && Nat.blt id 2000000)=true:=by
   rw [List.all_eq_true]; intro i hi; exact fresh_to (h4 i hi)
  simp [h1,hd,h2,h3,this]
theorem qHJ {o:Oper} {σ τ:St} {r:Eff × List RV} (h:qJK C ops o σ=some r) (hG:∀ t c,t ∈ o.looksAt ops→kH σ.S t=some (.v c)→kH τ.S t=some (.v c))
  (hS:∀ t x,t ∈ o.looksAt ops→kH σ.S t=some x→(∀ id ∈ x.ids,id ∈ catL RV.ids r.2)→kH τ.S t=some x) (hM:∀ i ∈ catL RV.fol r.2,qV τ.M i=qV σ.M i)
  (hN:∀ i ∈ r.1.nw,qV τ.M i=qV σ.M i):qJK C ops o τ=some r:=by
 obtain ⟨hd,h⟩:=qHY h;refine qVB hd ?_;rcases h with ⟨h1,h2⟩ | ⟨h1,h2,h3,h4⟩
 ·exact .inl ⟨guard_local h1 hG,h2⟩
 ·refine .inr ⟨guard_local h1 hG,?_,h3,fun i hi=>⟨by rw [hN i hi]; exact (h4 i hi).1,(h4 i hi).2⟩⟩;have ha:=yJ h2;refine zWE ⟨ha.1,fun i x y hx hy => ?_⟩;have h5:=ha.2 i x y hx hy;cases x with
  | tmp t =>
   simp only [opv,vQQ] at h5 ⊢;obtain ⟨z,hz,hr⟩:=h5;exact ⟨z,hS t z (look_mem (vQW hx)) hz fun id hid=>mem_catL.2 ⟨y,vQW hy,resM_ids hr id hid⟩,resM_local hr fun id hid=>hM id (mem_catL.2 ⟨y,vQW hy,hid⟩)⟩
  | _=>exact h5
theorem step_eqv {o:Oper} {σ τ:St} {r:Eff × List RV} (h:qJK C ops o σ=some r) (he:Eqv σ τ):qJK C ops o τ=some r :=
 qHJ h (fun t c _ h=>by rw [← he.1]; exact h) (fun t x _ h _=>by rw [← he.1]; exact h) (fun i _=>(he.2 i).symm) (fun i _=>(he.2 i).symm)
theorem fol_both {o:Oper} {σ:St} {r:Eff × List RV} (h:qJK C ops o σ=some r):∀ i ∈ catL RV.fol r.2,i ∈ catL RV.ids r.2∧∀ e,qV σ.M i=some e→∀ id ∈ e.ids,id ∈ catL RV.ids r.2:=by
 obtain ⟨hd,hh⟩:=qHY h;rcases hh with ⟨_,hr⟩ | ⟨_,hr,_,_⟩
 ·intro i hi; rw [hr] at hi; simp [catL] at hi
 ·intro i hi;obtain ⟨rv,hrv,hin⟩:=mem_catL.1 hi;obtain ⟨k,hk⟩:=List.mem_iff_getElem?.1 hrv;have ha:=yJ hr;have hkl:=(List.getElem?_eq_some_iff.1 hk).1;have hko:k < o.op.operands.toList.length:=by rw [ha.1]; exact hkl
  have hop:=opv_deep (ha.2 k _ rv (vQK hko) hk);exact ⟨mem_catL.2 ⟨rv,hrv,hop.1 i hin⟩,fun e he id hid=>mem_catL.2 ⟨rv,hrv,hop.2 i hin e he id hid⟩⟩
theorem fol_all {o:Oper} {σ:St} {r:Eff × List RV} (h:qJK C ops o σ=some r):∀ i ∈ catL RV.fol r.2,i ∈ catL RV.ids r.2:=fun i hi=>(fol_both h i hi).1
theorem fol_deep {o:Oper} {σ:St} {r:Eff × List RV} (h:qJK C ops o σ=some r):∀ i ∈ catL RV.fol r.2,∀ e,qV σ.M i=some e→∀ id ∈ e.ids,id ∈ catL RV.ids r.2:=fun i hi=>(fol_both h i hi).2
theorem swap {x y:Done} {ox oy:Oper} {σ:St} (ind:Indep ops x y ox oy) (h1:qJK C ops ox σ=some x.2) (h2:qJK C ops oy (σ.apply x.2.1 ox.dst)=some y.2) :
  qJK C ops oy σ=some y.2∧qJK C ops ox (σ.apply y.2.1 oy.dst)=some x.2∧Eqv ((σ.apply x.2.1 ox.dst).apply y.2.1 oy.dst) ((σ.apply y.2.1 oy.dst).apply x.2.1 ox.dst):=by
 have sid:∀ z:Option HV,z.map (HV.sub x.2.1.sb)=z:=fun z=>by rw [ind.sb]; cases z <;> simp [HV.sub_nil]
 have eid:∀ z:Option Ent,z.map (Ent.sub x.2.1.sb)=z:=fun z=>by rw [ind.sb]; cases z <;> simp [Ent.sub_nil]
 have xw:∀ i,i ∉ x.2.1.wr→yZ x.2.1.up i=none:=fun i hi=>upFind_none.2 fun h=>hi (List.mem_append.2 (.inl h))
 have yw:∀ i,(i ∈ catL RV.fol x.2.2 ∨ i ∈ x.2.1.nw)→yZ y.2.1.up i=none:=fun i hi=>upFind_none.2 fun h=>(by
  have:=ind.w2 i h
  rcases hi with h | h
  ·exact this.1 h
  ·exact this.2 h)
 have ys:∀ i,i ∉ y.2.1.sb.map (·.1)→yK y.2.1.sb i=none:=fun i hi=>subFind_none hi
 have xall:∀ i,(i ∈ catL RV.ids x.2.2 ∨ i ∈ x.2.1.all)→i ∉ y.2.1.sb.map (·.1):=fun i hi hw=>by
  have:=ind.w3 i hw
  rcases hi with h | h
  ·exact this.1 h
  ·exact this.2 h
 have yall:∀ i,(i ∈ catL RV.ids y.2.2 ∨ i ∈ y.2.1.all)→i ∉ x.2.1.wr:=fun i hi hw=>by
  have:=ind.w1 i hw
  rcases hi with h | h
  ·exact this.1 h
  ·exact this.2 h
 have nwx:∀ i ∈ x.2.1.nw,i ∈ x.2.1.all:=fun i hi=>List.mem_append.2 (.inr hi)
 have nwy:∀ i ∈ y.2.1.nw,i ∈ y.2.1.all:=fun i hi=>List.mem_append.2 (.inr hi)
 have S1:∀ t,t ∈ oy.looksAt ops→kH (σ.apply x.2.1 ox.dst).S t=kH σ.S t:=fun t ht=>by
  rw [qYV,if_neg (fun e=>ind.d1 t e ht),sid]
 have M1:∀ i,i ∉ x.2.1.wr→qV (σ.apply x.2.1 ox.dst).M i=qV σ.M i:=fun i hi=>by
  rw [qQY,xw i hi]; exact eid _
 refine ⟨qHJ h2 (fun t c ht h=>by rw [← S1 t ht]; exact h) (fun t x ht h _=>by rw [← S1 t ht]; exact h) (fun i hi=>(M1 i (yall i (.inl (fol_all h2 i hi)))).symm) (fun i hi=>(M1 i (yall i (.inr (nwy i hi)))).symm),?_,?_⟩
 ·have S2:∀ t z,t ∈ ox.looksAt ops→kH σ.S t=some z→(∀ id ∈ z.ids,id ∉ y.2.1.sb.map (·.1))→kH (σ.apply y.2.1 oy.dst).S t=some z:=fun t z ht hz hi=>by
   rw [qYV,if_neg (fun e=>ind.d2 t e ht),hz,Option.map_some,zJC fun id hid=>ys id (hi id hid)]
  have hMM:∀ i,(i ∈ catL RV.fol x.2.2 ∨ i ∈ x.2.1.nw)→(∀ e,qV σ.M i=some e→∀ id ∈ e.ids,id ∉ y.2.1.sb.map (·.1))→qV (σ.apply y.2.1 oy.dst).M i=qV σ.M i:=fun i hi he=>by
   rw [qQY,yw i hi];cases hl:qV σ.M i with
   | none=>rfl
   | some e=>simp only [Option.map_some]; rw [ent_keep fun id hid=>ys id (he e hl id hid)]
  refine qHJ h1 (fun t c ht h=>S2 t _ ht h fun id hid=>by simp [HV.ids] at hid) (fun t z ht h hi=>S2 t z ht h fun id hid=>xall id (.inl (hi id hid))) (fun i hi=>hMM i (.inl hi) fun e he id hid=>xall id (.inl (fol_deep h1 i hi e he id hid))) (fun i hi => ?_)
  ·obtain ⟨hd,hh⟩:=qHY h1;rcases hh with ⟨_,hr⟩ | ⟨_,_,_,hn⟩
   ·rw [hr] at hi; cases hi
   ·refine hMM i (.inr hi) fun e he => ?_
    rw [(hn i hi).1] at he; cases he
 ·refine ⟨fun t => ?_,fun i => ?_⟩
  ·rw [qYV,qYV,qYV,qYV];by_cases e1:oy.dst=some t
   ·have e2:¬ ox.dst=some t:=fun e=>ind.d3 t e e1
    rw [if_pos e1,if_neg e2,if_pos e1,sid]
   ·rw [if_neg e1,if_neg e1];by_cases e2:ox.dst=some t
    ·rw [if_pos e2,if_pos e2,Option.map_some,zJC fun id hid=>ys id (xall id (.inr (List.mem_append.2 (.inl (List.mem_append.2 (.inr hid))))))]
    ·rw [if_neg e2,if_neg e2,sid,sid]
  ·rw [qQY,qQY,qQY,qQY];cases hy:yZ y.2.1.up i with
   | some z =>
    have:yZ x.2.1.up i=none:=xw i (yall i (.inr (List.mem_append.2 (.inl (List.mem_append.2 (.inl (mem_catL.2 ⟨(i,z),qHZ hy,by unfold yYI; cases z <;> simp⟩)))))))
    rw [this]; exact (eid _).symm
   | none =>
    cases hx:yZ x.2.1.up i with
    | some z =>
     simp only;cases z with
     | none=>rfl
     | some ent =>
      simp only [Option.map_some];rw [ent_keep fun id hid=>ys id (xall id (.inr (List.mem_append.2 (.inl (List.mem_append.2 (.inl (mem_catL.2 ⟨(i,some ent),qHZ hx,by simp [yYI,hid]⟩)))))))]
    | none =>
     simp only;rw [eid,eid]
end
end Go.Rx
namespace Go.Rx
open Go.RowKit Go.Sx
theorem Rel.eqv {E:Env} {n:Nat} {σ τ:St} {a:Act} {w:World} (h:Rel E n σ a w) (he:Eqv σ τ):Rel E n τ a w:=by
 obtain ⟨ρ,F,h⟩:=h;exact ⟨ρ,F,h.size,h.defers,fun t x hx=>h.slots t x (by rw [he.1]; exact hx),⟨fun id e hl=>h.mem.ent id e (by rw [he.2]; exact hl),fun id L hL hi=>by obtain ⟨e,h1⟩:=h.mem.dom id L hL hi; exact ⟨e,by rw [← he.2]; exact h1⟩,
  fun id e hl=>h.mem.ord id e (by rw [he.2]; exact hl),h.mem.inr,h.mem.apart,h.mem.off,h.mem.fz,h.mem.fz0,h.mem.grow,h.mem.pin,h.mem.rd⟩⟩
section
variable {C:Cx} {ops:Array Oper}
inductive Runs (C:Cx) (ops:Array Oper):List Done→St→St→Prop
 | nil (σ:St):Runs C ops [] σ σ
 | cons {x:Done} {o:Oper} {l:List Done} {σ τ:St} (ho:ops[x.1]? = some o) (hs:qJK C ops o σ=some x.2) (h:Runs C ops l (σ.apply x.2.1 o.dst) τ):Runs C ops (x :: l) σ τ
theorem Runs.eqv {l:List Done} {σ τ σ':St} (h:Runs C ops l σ τ) (he:Eqv σ σ'):∃ τ',Runs C ops l σ' τ'∧Eqv τ τ':=by
 induction h generalizing σ' with
 | nil σ=>exact ⟨σ',.nil σ',he⟩
 | cons ho hs _ ih =>
  obtain ⟨τ',h1,h2⟩:=ih (he.apply _ _);exact ⟨τ',.cons ho (step_eqv hs he) h1,h2⟩
theorem Runs.append {l l':List Done} {σ τ υ:St} (h:Runs C ops l σ τ) (h':Runs C ops l' τ υ):Runs C ops (l ++ l') σ υ:=by
 induction h with
 | nil σ=>exact h'
 | cons ho hs _ ih=>exact .cons ho hs (ih h')
theorem Runs.split {l l':List Done} {σ υ:St} (h:Runs C ops (l ++ l') σ υ):∃ τ,Runs C ops l σ τ∧Runs C ops l' τ υ:=by
 induction l generalizing σ with
 | nil=>exact ⟨σ,.nil σ,h⟩
 | cons x l ih =>
  cases h with
  | cons ho hs h =>
   obtain ⟨τ,h1,h2⟩:=ih h;exact ⟨τ,.cons ho hs h1,h2⟩
theorem Runs.det {l:List Done} {σ τ τ':St} (h:Runs C ops l σ τ) (h':Runs C ops l σ τ'):τ=τ':=by
 induction h with
 | nil σ=>cases h'; rfl
 | cons ho hs _ ih =>
  cases h' with
  | cons ho' hs' h' =>
   rw [ho] at ho'; cases ho';exact ih h'
def zGW (ops:Array Oper) (x y:Done):Prop:=∃ ox oy,ops[x.1]? = some ox∧ops[y.1]? = some oy∧Indep ops x y ox oy
theorem Runs.right {x:Done} {l:List Done} {σ τ:St} (h:Runs C ops (x :: l) σ τ) (hi:∀ y ∈ l,zGW ops x y):∃ τ',Runs C ops (l ++ [x]) σ τ'∧Eqv τ τ':=by
 induction l generalizing σ τ with
 | nil=>exact ⟨τ,h,Eqv.refl τ⟩
 | cons y l ih =>
  cases h with
  | cons ho hs h =>
   cases h with
   | cons ho2 hs2 h =>
    obtain ⟨ox,oy,h1,h2,ind⟩:=hi y vQG;rw [ho] at h1; cases h1;rw [ho2] at h2; cases h2;obtain ⟨q1,q2,q3⟩:=swap ind hs hs2;obtain ⟨τ1,h3,h4⟩:=h.eqv q3;obtain ⟨τ2,h5,h6⟩:=ih (.cons ho q2 h3) (fun z hz=>hi z (vQV _ hz));exact ⟨τ2,.cons ho2 q1 h5,h4.trans h6⟩
theorem Runs.part {d:Done→Bool} {l:List Done} {σ τ:St} (h:Runs C ops l σ τ) (hp:l.Pairwise fun x y=>d x=false→d y=true→zGW ops x y) :
  ∃ τ',Runs C ops (l.filter d ++ l.filter (fun x => !d x)) σ τ'∧Eqv τ τ':=by
 induction l generalizing σ τ with
 | nil=>exact ⟨τ,h,Eqv.refl τ⟩
 | cons x l ih =>
  cases h with
  | cons ho hs h =>
   obtain ⟨hx,hl⟩:=List.pairwise_cons.1 hp;obtain ⟨τ1,h1,h2⟩:=ih h hl;cases hd:d x with
   | true =>
    simp only [List.filter_cons,hd,if_true,Bool.not_true,Bool.false_eq_true,if_false,List.cons_append];exact ⟨τ1,.cons ho hs h1,h2⟩
   | false =>
    simp only [List.filter_cons,hd,Bool.not_false,if_true,Bool.false_eq_true,if_false];obtain ⟨υ,h3,h4⟩:=h1.split;obtain ⟨υ',h5,h6⟩:=Runs.right (.cons ho hs h3) (fun y hy=>hx y (List.mem_filter.1 hy).1 hd (List.mem_filter.1 hy).2);obtain ⟨τ2,h7,h8⟩:=h4.eqv h6;refine ⟨τ2,?_,h2.trans h8⟩
    have:=h5.append h7
    simpa using this
def Goes (P:Program) (o:Oper) (a:Act) (w:World) (T:Value→World→Prop):Prop :=
 match (execOp a.eval o).run P w with
 | .ok (.value v) w'=>T v w'
 | .ok .skip w'=>T undef w'
 | .ok (.enter f args) w'=>Calls P f args w' (fun e w''=>∃ v,e=.returned v∧T v w'')
 | _=>False
theorem Goes.wp {P:Program} {o:Oper} {a:Act} {w:World} {T:Value→World→Prop} {K:Act→World→Prop} {Q:Exit→Act→World→Prop} (h:Goes P o a w T) (hK:∀ v w',T v w'→K (a.put o.dst v) w'):o.wp P a w K Q:=by
 unfold Goes at h;unfold Oper.wp;generalize (execOp a.eval o).run P w=r at *;cases r with
 | ok n w' =>
  cases n <;> first | exact h.elim | exact hK _ _ h | skip
  rename_i f args;exact Calls.mono h fun e w'' ⟨v,he,ht⟩=>by subst he; exact hK _ _ ht
 | halt x w'=>exact h.elim
theorem Goes.mono {P:Program} {o:Oper} {a:Act} {w:World} {T T':Value→World→Prop} (h:Goes P o a w T) (hT:∀ v w',T v w'→T' v w'):Goes P o a w T':=by
 unfold Goes at *;generalize (execOp a.eval o).run P w=r at *;cases r with
 | ok n w' =>
  cases n <;> first | exact h.elim | exact hT _ _ h | skip
  exact Calls.mono h fun e w'' ⟨v,he,ht⟩=>⟨v,he,hT _ _ ht⟩
 | halt x w'=>exact h.elim
def GoesD (P:Program) (D:Deferred→Prop) (o:Oper) (a:Act) (w:World) (K:Act→World→Prop):Prop :=
 Goes P o a w (fun v w'=>K (a.put o.dst v) w') ∨ ∃ d,(execOp a.eval o).run P w=.ok (.defer d) w∧D d∧K ({ a with defers:=d :: a.defers }.put o.dst undef) w
theorem GoesD.mono {P:Program} {D:Deferred→Prop} {o:Oper} {a:Act} {w:World} {K K':Act→World→Prop} (h:GoesD P D o a w K) (hK:∀ a w,K a w→K' a w):GoesD P D o a w K':=by
 rcases h with h | ⟨d,h1,h2,h3⟩
 ·exact .inl (h.mono fun v w'=>hK _ _)
 ·exact .inr ⟨d,h1,h2,hK _ _ h3⟩
theorem GoesD.wp {P:Program} {D:Deferred→Prop} {o:Oper} {a:Act} {w:World} {K:Act→World→Prop} {Q:Exit→Act→World→Prop} (h:GoesD P D o a w K):o.wp P a w K Q:=by
 rcases h with h | ⟨d,h1,_,h2⟩
 ·exact h.wp fun v w' ht=>ht
 ·unfold Oper.wp;rw [h1];exact h2
def Sim (P:Program) (E:Env) (C:Cx) (ops:Array Oper):Prop:=∀ (o:Oper) (σ:St) (r:Eff × List RV) (a:Act) (w:World),qJK C ops o σ=some r→Rel E C.n σ a w →
 (if Region.wanted o (yielded ops a.tmps) then GoesD P E.D o a w (fun a' w'=>Rel E C.n (σ.apply r.1 o.dst) a' w') else Rel E C.n (σ.apply r.1 o.dst) (a.put o.dst undef) w)
variable {P:Program} {E:Env} {Q:Exit→Act→World→Prop}
theorem sim_wpOp (hs:Sim P E C ops) {i:Nat} {o:Oper} {σ:St} {r:Eff × List RV} {a:Act} {w:World} (ho:ops[i]? = some o) (h:qJK C ops o σ=some r) (hr:Rel E C.n σ a w) :
  wpOp P ops Q i (fun a' w'=>Rel E C.n (σ.apply r.1 o.dst) a' w') a w:=by
 unfold wpOp;rw [ho]
 have:=hs o σ r a w h hr
 simp only;split
 ·rename_i hw;rw [if_pos hw] at this;exact .inl this.wp
 ·rename_i hw;rw [if_neg hw] at this;exact this
theorem zVK {l:Array Bool} {i:Nat} (hl:i < l.size):l.getD i true=l.getD i false:=by simp [hl]
theorem qXX {ops:Array Oper} {listed:Array Bool} (hc:∀ i o,listed.getD i false=true→ops[i]? = some o→∀ e ∈ o.after,Region.binds .any e=true→listed.getD e.on false=true):∀ (n j i:Nat),zZJ ops n j i=true→listed.getD j false=true→listed.getD i false=true:=by
 have direct:∀ j i,Region.waitsFor .any ops j i=true→listed.getD j false=true→listed.getD i false=true:=fun j i h hj=>by
  obtain ⟨o',ho',e,he,hb,hon⟩:=Region.waitsFor_spec h
  have:=hc j o' hj ho' e he hb
  rwa [hon] at this
 intro n;induction n with
 | zero=>exact direct
 | succ n ih =>
  intro j i h hj;simp only [zZJ,Bool.or_eq_true] at h;rcases h with h | h
  ·exact direct j i h hj
  ·split at h
   ·rename_i o ho;obtain ⟨e,he,hb⟩:=Array.any_eq_true'.1 h;rw [vQJ] at hb;exact ih e.on i hb.2 (hc j o hj ho e he hb.1)
   ·cases h
theorem waitsU_listed {ops:Array Oper} {listed:Array Bool} (hc:∀ i o,listed.getD i false=true→ops[i]? = some o→∀ e ∈ o.after,Region.binds .any e=true→listed.getD e.on false=true) {j i:Nat} (h:zYD ops j i=true) (hj:listed.getD j false=true):listed.getD i false=true:=by
 unfold zYD at h;rw [Bool.or_eq_true,Bool.or_eq_true] at h;rcases h with (h | h) | h
 ·exact qXX hc 3 _ _ h hj
 ·exact qXX hc 5 _ _ h hj
 ·exact qXX hc 9 _ _ h hj
theorem region_any {L:List Done} {σ0 τ:St} (hs:Sim P E C ops) (hL:Runs C ops L σ0 τ) (hlen:L.length=ops.size) (hidx:∀ (i:Nat) (x:Done),L[i]? = some x→x.1=i) (hp:zQZ ops L=true) (hback:backB ops=true)
  (hK:∀ a w,Rel E C.n τ a w→Q .normal a w) :
  ∀ (f:Nat) (listed:Array Bool) (a:Act) (w:World),listed.size=ops.size→qKX listed ops.size=f →
   (∀ i o,listed.getD i false=true→ops[i]? = some o→∀ e ∈ o.after,Region.binds .any e=true→listed.getD e.on false=true) →
   (∃ υ,Runs C ops (L.filter fun x=>listed.getD x.1 false) σ0 υ∧Rel E C.n υ a w)→wpAny P .any ops Q f listed a w:=by
 have hpw:L.Pairwise fun x y=>zYD ops y.1 x.1=true ∨ zGW ops x y:=by
  have ho:∀ x ∈ L,∃ o,ops[x.1]? = some o:=fun x hx=>by
   obtain ⟨i,hi⟩:=List.mem_iff_getElem?.1 hx;rw [hidx i x hi]
   have:=(List.getElem?_eq_some_iff.1 hi).1
   exact ⟨_,vZY (by omega)⟩
  clear hL hlen hidx
  induction L with
  | nil=>exact List.Pairwise.nil
  | cons x L ih =>
   simp only [zQZ,vQJ] at hp;refine List.pairwise_cons.2 ⟨fun y hy => ?_,ih hp.2 fun z hz=>ho z (vQV _ hz)⟩
   have:=List.all_eq_true.1 hp.1 y hy
   rw [Bool.or_eq_true,Bool.or_eq_true] at this;rcases this with h | h | h
   ·exact .inl (by simp only [zYD,zZJ,h,Bool.true_or])
   ·obtain ⟨ox,hox⟩:=ho x vQG;obtain ⟨oy,hoy⟩:=ho y (vQV _ hy);exact .inr ⟨ox,oy,hox,hoy,indepB_spec hox hoy h⟩
   ·exact .inl h
 intro f;induction f with
 | zero =>
  intro listed a w hsz hu hcl ⟨υ,hr,hrel⟩;have hall:=qVK hu;refine ⟨List.eq_nil_iff_forall_not_mem.2 fun i hi => ?_,hK a w ?_⟩
  ·obtain ⟨hun,o,ho,_⟩:=mem_ready.1 hi;rw [hall i (Array.getElem?_eq_some_iff.1 ho).1] at hun;cases hun
  ·have:L.filter (fun x=>listed.getD x.1 false)=L:=List.filter_eq_self.2 fun x hx=>by
    obtain ⟨i,hi⟩:=List.mem_iff_getElem?.1 hx;have hil:=(List.getElem?_eq_some_iff.1 hi).1;rw [hidx i x hi];have h1:=hall i (by omega)
    rwa [zVK (by omega)] at h1
   rw [this] at hr;rw [← hr.det hL]; exact hrel
 | succ f ih =>
  intro listed a w hsz hu hcl ⟨υ,hr,hrel⟩;obtain ⟨i0,hi0,hun0,hbefore⟩:=undone_first (listed:=listed) (N:=ops.size) (by omega);have hready:i0 ∈ Region.ready .any ops listed:=by
   refine mem_ready.2 ⟨hun0,ops[i0],vZY hi0,fun e he hb => ?_⟩;have h1:=List.all_eq_true.1 hback i0 (List.mem_range.2 hi0);simp only [vZY hi0] at h1;have h2:=Array.all_eq_true_iff_forall_mem.1 h1 e he;simp only [hb,Bool.not_true,Bool.false_or,decide_eq_true_eq] at h2;have h3:=hbefore e.on h2
   rwa [zVK (by omega)] at h3
  refine ⟨fun h0=>(by rw [h0] at hready; cases hready),fun i hi => ?_⟩;obtain ⟨hun,o,ho,hpre⟩:=mem_ready.1 hi;have hiN:=(Array.getElem?_eq_some_iff.1 ho).1;have hil:i < L.length:=by omega
  have hLi:L[i]? = some L[i]:=vQK hil;generalize hx:L[i]=x at hLi;have hxi:x.1=i:=hidx i x hLi;have hun':listed.getD i false=false:=by rw [← zVK (by omega)]; exact hun
  have hset:∀ j,(listed.setIfInBounds i true).getD j false=if i=j then true else listed.getD j false:=fun j=>by
   by_cases e:i=j
   ·subst e
    have:i < listed.size:=by omega
    simp [this]
   ·rw [if_neg e,getD_set_ne false e]
  -- the list, parted at i
  have hsplit:L=L.take i ++ x :: L.drop (i + 1):=by
   have:=List.take_append_drop i L
   rw [List.drop_eq_getElem_cons hil,hx] at this;exact this.symm
  have hlow:∀ y ∈ L.take i,y.1 ≠ i:=fun y hy=>by
   obtain ⟨k,hk⟩:=List.mem_iff_getElem?.1 hy;rw [vZU] at hk;split at hk
   ·rw [hidx k y hk]; omega
   ·cases hk
  have hhigh:∀ y ∈ L.drop (i + 1),y.1 ≠ i:=fun y hy=>by
   obtain ⟨k,hk⟩:=List.mem_iff_getElem?.1 hy;rw [List.getElem?_drop] at hk;rw [hidx _ y hk]; omega
  have hcl':∀ j o',(listed.setIfInBounds i true).getD j false=true→ops[j]? = some o'→∀ e ∈ o'.after,Region.binds .any e=true→(listed.setIfInBounds i true).getD e.on false=true:=fun j o' hj ho' e he hb=>by
   rw [hset] at hj ⊢;by_cases e1:i=e.on
   ·rw [if_pos e1]
   ·rw [if_neg e1];by_cases e2:i=j
    ·subst e2; rw [ho] at ho'; cases ho'; exact hpre e he hb
    ·rw [if_neg e2] at hj; exact hcl j o' hj ho' e he hb
  have hcly:∀ y:Done,(listed.setIfInBounds i true).getD y.1 false=true→∀ o',ops[y.1]? = some o'→∀ e ∈ o'.after,Region.binds .any e=true→(listed.setIfInBounds i true).getD e.on false=true:=fun y hy o' ho'=>hcl' y.1 o' hy ho'
  obtain ⟨τ',hp1,_⟩:=Runs.part (d:=fun x=>(listed.setIfInBounds i true).getD x.1 false) hL (hpw.imp fun {u v} h hu hv=>by
   rcases h with h | h
   ·have:=waitsU_listed hcl' h hv
    rw [hu] at this; cases this
   ·exact h)
  obtain ⟨υ',hD',_⟩:=hp1.split
  -- D' is D with i in its place
  have e1:L.filter (fun x=>(listed.setIfInBounds i true).getD x.1 false)=(L.take i).filter (fun x=>listed.getD x.1 false) ++ x :: (L.drop (i + 1)).filter (fun x=>listed.getD x.1 false):=by
   conv=>lhs; rw [hsplit]
   rw [List.filter_append,List.filter_cons];have hxt:(listed.setIfInBounds i true).getD x.1 false=true:=by rw [hset,hxi,if_pos rfl]
   rw [if_pos hxt]
   congr 1
   ·exact List.filter_congr fun y hy=>by rw [hset,if_neg (Ne.symm (hlow y hy))]
   ·congr 1
    exact List.filter_congr fun y hy=>by rw [hset,if_neg (Ne.symm (hhigh y hy))]
  have e2:L.filter (fun x=>listed.getD x.1 false)=(L.take i).filter (fun x=>listed.getD x.1 false) ++ (L.drop (i + 1)).filter (fun x=>listed.getD x.1 false):=by
   conv=>lhs; rw [hsplit]
   rw [List.filter_append,List.filter_cons];rw [if_neg (by rw [hxi,hun']; simp)]
  rw [e1] at hD';obtain ⟨α,hA,hB⟩:=hD'.split;have hpair:∀ y ∈ L.drop (i + 1),zYD ops y.1 x.1=true ∨ zGW ops x y:=by
   rw [hsplit] at hpw;exact (List.pairwise_cons.1 (List.pairwise_append.1 hpw).2.1).1
  obtain ⟨υ2,hB2,hev⟩:=Runs.right hB (fun y hy=>by
   obtain ⟨hy1,hy2⟩:=List.mem_filter.1 hy;rcases hpair y hy1 with h | h
   ·have:=waitsU_listed hcl h hy2
    rw [hxi,hun'] at this; cases this
   ·exact h)
  obtain ⟨β,hB3,hB4⟩:=hB2.split;have hυ:υ=β:=by
   rw [e2] at hr;exact hr.det (hA.append hB3)
  subst hυ;cases hB4 with
  | cons ho2 hs2 hn =>
   rw [hxi,ho] at ho2;cases ho2;cases hn;refine wpOp_mono (fun a' w' h => ?_) (sim_wpOp hs ho hs2 hrel)
   have:=undone_set hun hiN
   refine ih _ a' w' (by simpa using hsz) (by omega) hcl' ⟨υ',?_,h.eqv hev.symm⟩;rw [e1]; exact hA.append hB
theorem runDraw_spec {K:St→Option (Ret × Mem)} {r:Ret × Mem}:∀ (l:List Oper) (i:Nat) (acc:List Done) (σ:St),qZA C ops i l acc K σ=some r→(∀ j o,l[j]? = some o→ops[i + j]? = some o) →
  ∃ L τ,Runs C ops L σ τ∧L.length=l.length∧(∀ (j:Nat) (x:Done),L[j]? = some x→x.1=i + j)∧zQZ ops (acc.reverse ++ L)=true∧backB ops=true∧K τ=some r
 | [],i,acc,σ,h,_=>by
  simp only [qZA] at h;cases hb:(zQZ ops acc.reverse && backB ops) with
  | false=>rw [hb] at h; simp at h
  | true =>
   rw [hb] at h;rw [vQJ] at hb;exact ⟨[],σ,.nil σ,rfl,fun j x hx=>by simp at hx,by simpa using hb.1,hb.2,h⟩
 | o :: l,i,acc,σ,h,ho=>by
  simp only [qZA,vQQ] at h;obtain ⟨x,hx,h⟩:=h;obtain ⟨L,τ,h1,h2,h3,h4,h5,h6⟩:=runDraw_spec l (i + 1) _ _ h (fun j o' hj=>by
   have:=ho (j + 1) o' (by simpa using hj)
   rw [show i + 1 + j=i + (j + 1) by omega]; exact this)
  refine ⟨(i,x) :: L,τ,.cons (by simpa using ho 0 o rfl) hx h1,by simp [h2],fun j y hy => ?_,by simpa using h4,h5,h6⟩;cases j with
  | zero=>simp at hy; subst hy; rfl
  | succ j=>simp at hy; rw [h3 j y hy]; omega
theorem wp_draw {id:Nat} {K:St→Option (Ret × Mem)} {r:Ret × Mem} {σ:St} {a:Act} {w:World} (hm:P.follows .mixedOrders=true) (hs:Sim P E C ops) (h:qZA C ops 0 ops.toList [] K σ=some r) (hr:Rel E C.n σ a w)
  (hd:∀ {σ a w},Rel E C.n σ a w→Rel E C.n σ a { w with drawn:=w.drawn + 1 }) (hK:∀ τ a w,K τ=some r→Rel E C.n τ a w→Q .normal a w):(Code.region id ops true).wp P Q a w:=by
 obtain ⟨L,τ,h1,h2,h3,h4,h5,h6⟩:=runDraw_spec ops.toList 0 [] σ h (fun j o hj=>by simpa using hj);refine wp_region_any hm (region_any hs h1 (by simpa using h2) (fun i x hx=>by simpa using h3 i x hx) (by simpa using h4) h5 (fun a w=>hK τ a w h6) ops.size _ a _ (by simp) ?_ (fun i o hi => ?_) ⟨σ,?_,hd hr⟩)
 ·have:∀ N,N≤ops.size→qKX (Array.replicate ops.size false) N=N:=by
   intro N;induction N with
   | zero=>intro _; rfl
   | succ N ih=>intro hN; simp only [qKX]; rw [ih (by omega)]; simp [show N < ops.size by omega]
  exact this _ (Nat.le_refl _)
 ·rcases Nat.lt_or_ge i ops.size with hl | hl <;> simp [hl] at hi
 ·have:L.filter (fun x=>(Array.replicate ops.size false).getD x.1 false)=[]:=List.filter_eq_nil_iff.2 fun x hx=>by
   rcases Nat.lt_or_ge x.1 ops.size with hl | hl <;> simp [hl]
  rw [this]; exact .nil σ
theorem zXL {K:St→Option (Ret × Mem)} {r:Ret × Mem} (hs:Sim P E C ops) (hK:∀ τ a w,K τ=some r→Rel E C.n τ a w→Q .normal a w):∀ (l:List Oper) (σ:St) (a:Act) (w:World),qXF C ops l K σ=some r→Rel E C.n σ a w→wpList P ops Q l a w
 | [],σ,a,w,h,hr=>hK σ a w h hr
 | o :: l,σ,a,w,h,hr=>by
  simp only [qXF,vQQ] at h;obtain ⟨x,hx,h⟩:=h
  have:=hs o σ x a w hx hr
  unfold wpList;split
  ·rename_i hw;rw [if_pos hw] at this;exact .inl (this.mono fun a' w' ht=>zXL hs hK l _ _ _ h ht).wp
  ·rename_i hw;rw [if_neg hw] at this;exact zXL hs hK l _ _ _ h this
end
end Go.Rx
namespace Go.Sx
open Go.RowKit
section
variable {P:Program} {w0:Base} {S:yY} {H:Heap} {ty:TypeId} {pos:String} {af:Array Edge} {g:Option (Nat × Bool)}
theorem opV_eqlS {dd:Option Tmp} {x y:Operand} {t t':TypeId} {p q:ByteArray} (_:P.underlying t=some .string) (hx:ev S x=some (.string p)) (hy:ev S y=some (.string q)):OpV P w0 S H ⟨dd,.binOp .eql t x y t',ty,pos,af,g⟩ (.bool (p.toList == q.toList)) :=
 yG (by simp [yQ,Op.operands,hx,hy]) rfl fun w _=>by simp [execOp,zQ hx,zQ hy,eqGuard,binOp,Op.stringOp]
end
end Go.Sx

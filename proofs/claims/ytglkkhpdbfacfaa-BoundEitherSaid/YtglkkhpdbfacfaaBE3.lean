/- Part 3 of the texts behind the last one: rules and contracts. No condition. -/
import Derived.Test.YtglkkhpdbfacfaaBE2
open Option renaming bind_eq_some_iff → vQQ, bind_some → vZV
open Option.some renaming injEq → vQZ
open Bool renaming and_eq_true → vQJ
open List renaming getElem?_eq_getElem → vQK, mem_of_getElem? → vQW, mem_cons_of_mem → vQV, mem_cons_self → vQG, getElem?_map → vQH, getElem?_take → vZU, mem_cons → vZG
open Nat renaming eq_of_beq_eq_true → vQU, lt_of_lt_of_le → vZZ
open Array renaming getElem?_eq_getElem → vZY
namespace Go.Rx
open Go.RowKit Go.Sx
def Eqv (σ τ:St):Prop:=(∀ t,jJ σ.S t=jJ τ.S t)∧(∀ i,qX σ.M i=qX τ.M i)
theorem Eqv.refl (σ:St):Eqv σ σ:=⟨fun _=>rfl,fun _=>rfl⟩
theorem Eqv.symm {σ τ:St} (h:Eqv σ τ):Eqv τ σ:=⟨fun t=>(h.1 t).symm,fun i=>(h.2 i).symm⟩
theorem Eqv.trans {σ τ υ:St} (h:Eqv σ τ) (k:Eqv τ υ):Eqv σ υ:=⟨fun t=>(h.1 t).trans (k.1 t),fun i=>(h.2 i).trans (k.2 i)⟩
theorem Eqv.apply {σ τ:St} (h:Eqv σ τ) (e:Eff) (d:Option Nat):Eqv (σ.apply e d) (τ.apply e d):=⟨fun t=>by rw [qQQ,qQQ,h.1],fun i=>by rw [jH,jH,h.2]⟩
theorem zK {α β:Type} {f:α→Option β} {xs:List α} {ys:List β} (h:mapO f xs=some ys):Al (fun x y=>f x=some y) xs ys:=by
 induction xs generalizing ys with
 | nil=>simp [mapO] at h; subst h; exact Al.nil
 | cons x xs ih =>
  simp only [mapO,vQQ,vQZ] at h;obtain ⟨y,hy,zs,hz,rfl⟩:=h;exact Al.cons hy (ih hz)
theorem zWC {α β:Type} {f:α→Option β} {xs:List α} {ys:List β} (h:Al (fun x y=>f x=some y) xs ys):mapO f xs=some ys:=by
 induction xs generalizing ys with
 | nil=>rw [h.nil_left]; rfl
 | cons x xs ih =>
  obtain ⟨y,zs,rfl,h1,h2⟩:=h.cons_left;simp [mapO,h1,ih h2]
theorem mem_catL {α:Type} {f:α→List Nat} {xs:List α} {i:Nat}:i ∈ catL f xs ↔ ∃ x ∈ xs,i ∈ f x:=by
 induction xs with
 | nil=>simp [catL]
 | cons x xs ih =>
  have:catL f (x :: xs)=f x ++ catL f xs:=by
   simp only [catL]; cases f x <;> simp
  simp [this,ih]
theorem yGL {M M':Mem} {x:HV} {c:CV} (h:cvOf M x=some c) (he:∀ id ∈ c.fol,qX M' id=qX M id):cvOf M' x=some c:=by
 cases x with
 | o id =>
  simp only [cvOf] at h ⊢;split at h
  ·rename_i e sz rows hl;cases h;rw [he id (by simp [CV.fol]),hl]
  ·cases h
 | _=>exact h
theorem jVI {M:Mem} {x:HV} {c:CV} (h:cvOf M x=some c):∀ id ∈ x.ids,id ∈ c.ids:=by
 cases x with
 | o id =>
  simp only [cvOf] at h;split at h
  ·cases h; exact fun _ h=>h
  ·cases h
 | _=>simp only [cvOf,vQZ] at h; subst h; exact fun _ h=>h
theorem jVL {c:CV}:∀ id ∈ c.fol,id ∈ c.ids:=by
 cases c with
 | h x=>intro id h; cases h
 | o id e sz rows=>exact fun _ h=>h
theorem jKZ {M:Mem} {x:HV} {c:CV} (h:cvOf M x=some c):∀ id ∈ c.fol,∀ e,qX M id=some e→e.ids=[]:=by
 cases x with
 | o id =>
  simp only [cvOf] at h;split at h
  ·rename_i e sz rows hl;cases h;intro i hi e he;simp only [CV.fol,List.mem_singleton] at hi;subst hi;rw [hl] at he; cases he; rfl
  ·cases h
 | _=>simp only [cvOf,vQZ] at h; subst h; intro i hi; cases hi
section
variable {M M':Mem} {cells:List HV} {cs:List CV}
theorem zUD (h:mapO (cvOf M) cells=some cs) (he:∀ id ∈ catL CV.fol cs,qX M' id=qX M id):mapO (cvOf M') cells=some cs:=by
 have h1:=zK h;refine zWC ⟨h1.1,fun i x y hx hy=>yGL (h1.2 i x y hx hy) fun id hid=>he id (mem_catL.2 ⟨y,vQW hy,hid⟩)⟩
theorem yUK (h:mapO (cvOf M) cells=some cs):∀ id ∈ catL HV.ids cells,id ∈ catL CV.ids cs:=by
 have h1:=zK h;intro id hid;obtain ⟨x,hx,hi⟩:=mem_catL.1 hid;obtain ⟨i,hi2⟩:=List.mem_iff_getElem?.1 hx;obtain ⟨y,hy,hr⟩:=h1.get hi2;exact mem_catL.2 ⟨y,vQW hy,jVI hr id hi⟩
theorem yUU:∀ id ∈ catL CV.fol cs,id ∈ catL CV.ids cs:=fun id hid=>by
 obtain ⟨x,hx,hi⟩:=mem_catL.1 hid;exact mem_catL.2 ⟨x,hx,jVL id hi⟩
theorem zGD (h:mapO (cvOf M) cells=some cs):∀ id ∈ catL CV.fol cs,∀ e,qX M id=some e→e.ids=[]:=by
 have h1:=zK h;intro id hid e he;obtain ⟨y,hy,hi⟩:=mem_catL.1 hid;obtain ⟨i,hi2⟩:=List.mem_iff_getElem?.1 hy;have hil:=(List.getElem?_eq_some_iff.1 hi2).1;have hc:i < cells.length:=by rw [h1.1]; exact hil
 exact jKZ (h1.2 i _ y (vQK hc) hi2) id hi e he
end
theorem yXA {M M':Mem} {x:Cap} {c:RC} (h:rcOf M x=some c) (he:∀ id ∈ c.fol,qX M' id=qX M id):rcOf M' x=some c:=by
 cases x with
 | v x=>exact h
 | p id off =>
  simp only [rcOf] at h ⊢;split at h
  ·rename_i cells hl;simp only [vQQ,vQZ] at h;obtain ⟨cc,hcc,rfl⟩:=h;rw [he id (by simp [RC.fol]),hl];simp only [zUD hcc fun id hid=>he id (by simp [RC.fol,hid])];rfl
  ·cases h
theorem jXY {c:RC}:∀ id ∈ c.fol,id ∈ c.ids:=by
 cases c with
 | v x=>intro id h; cases h
 | p id off cells =>
  intro i hi;simp only [RC.fol,RC.ids,vZG] at hi ⊢;exact hi.imp (fun h=>h) (yUU i)
theorem jZB {M:Mem} {x:Cap} {c:RC} (h:rcOf M x=some c):∀ i ∈ c.fol,∀ e,qX M i=some e→∀ id ∈ e.ids,id ∈ c.ids:=by
 cases x with
 | v x=>simp only [rcOf,vQZ] at h; subst h; intro i hi; cases hi
 | p id off =>
  simp only [rcOf] at h;split at h
  ·rename_i cells hl;simp only [vQQ,vQZ] at h;obtain ⟨cc,hcc,rfl⟩:=h;intro i hi e he k hk;simp only [RC.fol,vZG] at hi;rcases hi with rfl | hi
   ·rw [hl] at he; cases he;simp only [RC.ids,vZG];exact .inr (yUK hcc k hk)
   ·rw [zGD hcc i hi e he] at hk; cases hk
  ·cases h
theorem qJK {M M':Mem} {x:HV} {r:RV} (h:res M x=some r) (he:∀ id ∈ r.fol,qX M' id=qX M id):res M' x=some r:=by
 cases x with
 | o id =>
  simp only [res] at h ⊢;split at h
  ·rename_i e sz rows hl; cases h; rw [he id (by simp [RV.fol]),hl]
  ·rename_i e ie isz rows pd hl; cases h; rw [he id (by simp [RV.fol]),hl]
  ·cases h
 | m id j =>
  simp only [res] at h ⊢;split at h
  ·rename_i e ie isz rows pd hl; cases h; rw [he id (by simp [RV.fol]),hl]
  ·cases h
 | p id off =>
  simp only [res] at h ⊢;split at h
  ·rename_i cells hl;simp only [vQQ,vQZ] at h;obtain ⟨cs,hcs,rfl⟩:=h;rw [he id (by simp [RV.fol]),hl];simp only [zUD hcs fun id hid=>he id (by simp [RV.fol,hid])];rfl
  ·rename_i s pos hl; cases h; rw [he id (by simp [RV.fol]),hl]
  ·cases h
 | q id j off =>
  simp only [res] at h ⊢;split at h
  ·rename_i e sz rows hl; cases h; rw [he id (by simp [RV.fol]),hl]
  ·rename_i e ie isz rows pd hl; cases h; rw [he id (by simp [RV.fol]),hl]
  ·cases h
 | g fn first cap =>
  simp only [res,vQQ,vQZ] at h ⊢;obtain ⟨cs,hcs,rfl⟩:=h;have h1:=zK hcs;exact ⟨cs,zWC ⟨h1.1,fun i x y hx hy=>yXA (h1.2 i x y hx hy) fun id hid=>he id (mem_catL.2 ⟨_,vQW hy,hid⟩)⟩,rfl⟩
 | _=>exact h
theorem qGX {M:Mem} {x:HV} {r:RV} (h:res M x=some r):∀ id ∈ x.ids,id ∈ r.ids:=by
 cases x with
 | o id =>
  simp only [res] at h;split at h
  ·cases h; exact fun _ h=>h
  ·cases h; exact fun _ h=>h
  ·cases h
 | q id j off =>
  simp only [res] at h;split at h
  ·cases h; exact fun _ h=>h
  ·cases h; exact fun _ h=>h
  ·cases h
 | m id j =>
  simp only [res] at h;split at h
  ·cases h; exact fun _ h=>h
  ·cases h
 | mp id j=>cases h; exact fun _ h=>h
 | ag cs=>cases h; exact fun _ h=>h
 | _=>intro id hid; simp [HV.ids] at hid
theorem qKI {M:Mem} {x:HV} {r:RV} (h:res M x=some r):(∀ i ∈ r.fol,i ∈ r.ids)∧∀ i ∈ r.fol,∀ e,qX M i=some e→∀ id ∈ e.ids,id ∈ r.ids:=by
 cases x with
 | o id =>
  simp only [res] at h;split at h
  ·rename_i e sz rows hl;cases h;refine ⟨fun _ h=>h,fun i hi e he k hk => ?_⟩;simp only [RV.fol,List.mem_singleton] at hi;subst hi;rw [hl] at he; cases he; cases hk
  ·rename_i e ie isz rows pd hl;cases h;refine ⟨fun _ h=>h,fun i hi e he k hk => ?_⟩;simp only [RV.fol,List.mem_singleton] at hi;subst hi;rw [hl] at he; cases he; cases hk
  ·cases h
 | m id j =>
  simp only [res] at h;split at h
  ·rename_i e ie isz rows pd hl;cases h;refine ⟨fun i hi=>(by simp only [RV.fol,List.mem_singleton] at hi; subst hi; simp [RV.ids]),fun i hi e he k hk => ?_⟩;simp only [RV.fol,List.mem_singleton] at hi;subst hi;rw [hl] at he; cases he; cases hk
  ·cases h
 | mp id j=>cases h; exact ⟨fun i hi=>(by cases hi),fun i hi=>(by cases hi)⟩
 | p id off =>
  simp only [res] at h;split at h
  ·rename_i cells hl;simp only [vQQ,vQZ] at h;obtain ⟨cs,hcs,rfl⟩:=h;refine ⟨fun i hi => ?_,fun i hi e he k hk => ?_⟩
   ·simp only [RV.fol,RV.ids,vZG] at hi ⊢;exact hi.imp (fun h=>h) (yUU i)
   ·simp only [RV.fol,vZG] at hi;rcases hi with rfl | hi
    ·rw [hl] at he; cases he;simp only [RV.ids,vZG];exact .inr (yUK hcs k hk)
    ·rw [zGD hcs i hi e he] at hk; cases hk
  ·rename_i s pos hl;cases h;refine ⟨fun _ h=>h,fun i hi e he k hk => ?_⟩;simp only [RV.fol,List.mem_singleton] at hi;subst hi;rw [hl] at he; cases he; cases hk
  ·cases h
 | q id j off =>
  simp only [res] at h;split at h
  ·rename_i e sz rows hl;cases h;refine ⟨fun _ h=>h,fun i hi e he k hk => ?_⟩;simp only [RV.fol,List.mem_singleton] at hi;subst hi;rw [hl] at he; cases he; cases hk
  ·rename_i e ie isz rows pd hl;cases h;refine ⟨fun _ h=>h,fun i hi e he k hk => ?_⟩;simp only [RV.fol,List.mem_singleton] at hi;subst hi;rw [hl] at he; cases he; cases hk
  ·cases h
 | g fn first cap =>
  simp only [res,vQQ,vQZ] at h;obtain ⟨cs,hcs,rfl⟩:=h;have h1:=zK hcs;refine ⟨fun i hi => ?_,fun i hi e he k hk => ?_⟩
  ·obtain ⟨c,hc,hin⟩:=mem_catL.1 hi;exact mem_catL.2 ⟨c,hc,jXY i hin⟩
  ·obtain ⟨c,hc,hin⟩:=mem_catL.1 hi;obtain ⟨m,hm⟩:=List.mem_iff_getElem?.1 hc;have hml:=(List.getElem?_eq_some_iff.1 hm).1;have hcap:m < cap.length:=by rw [h1.1]; exact hml
   exact mem_catL.2 ⟨c,hc,jZB (h1.2 m _ c (vQK hcap) hm) i hin e he k hk⟩
 | v x=>cases h; exact ⟨fun i hi=>(by cases hi),fun i hi=>(by cases hi)⟩
 | nl=>cases h; exact ⟨fun i hi=>(by cases hi),fun i hi=>(by cases hi)⟩
 | un=>cases h; exact ⟨fun i hi=>(by cases hi),fun i hi=>(by cases hi)⟩
 | ag cs=>cases h; exact ⟨fun i hi=>(by cases hi),fun i hi=>(by cases hi)⟩
theorem yYZ (x:HV):(∀ id ∈ x.ids,id ∈ (sh x).ids)∧(sh x).fol=[]:=by
 cases x <;> exact ⟨fun _ h=>h,rfl⟩
theorem zHL {m:Nat} {M M':Mem} {x:HV} {r:RV} (h:resM m M x=some r) (he:∀ id ∈ r.fol,qX M' id=qX M id):resM m M' x=some r:=by
 match m with
 | 0=>exact qJK h he
 | 1=>exact h
 | 2 =>
  cases x with
  | o id=>simp only [resM] at h ⊢; exact qJK h he
  | _=>exact h
 | m + 3 =>
  cases x with
  | p id off =>
   cases off with
   | succ off=>simp only [resM] at h ⊢; exact qJK h he
   | zero =>
    have hid:qX M' id=qX M id:=by
     simp only [resM] at h;split at h
     ·cases h; exact he id (by simp [RV.fol])
     ·simp only [res] at h;split at h
      ·simp only [vQQ,vQZ] at h;obtain ⟨cs,_,rfl⟩:=h;exact he id (by simp [RV.fol])
      ·cases h; exact he id (by simp [RV.fol])
      ·cases h
    simp only [resM] at h ⊢;rw [hid];split at h
    ·exact h
    ·exact qJK h he
  | _=>simp only [resM] at h ⊢; exact qJK h he
theorem yXH {m:Nat} {M:Mem} {x:HV} {r:RV} (h:resM m M x=some r):∀ id ∈ x.ids,id ∈ r.ids:=by
 match m with
 | 0=>exact qGX h
 | 1=>simp only [resM,vQZ] at h; subst h; exact (yYZ x).1
 | 2 =>
  cases x with
  | o id=>exact qGX (by simpa only [resM] using h)
  | _=>simp only [resM,vQZ] at h; subst h; exact (yYZ _).1
 | m + 3 =>
  cases x with
  | p id off =>
   cases off with
   | succ off=>exact qGX (by simpa only [resM] using h)
   | zero =>
    simp only [resM] at h;split at h
    ·cases h; intro i hi; simp [HV.ids] at hi
    ·exact qGX h
  | _=>exact qGX (by simpa only [resM] using h)
theorem yYA {m:Nat} {M:Mem} {x:HV} {r:RV} (h:resM m M x=some r):(∀ i ∈ r.fol,i ∈ r.ids)∧∀ i ∈ r.fol,∀ e,qX M i=some e→∀ id ∈ e.ids,id ∈ r.ids:=by
 have shd:∀ x:HV,(∀ i ∈ (sh x).fol,i ∈ (sh x).ids)∧∀ i ∈ (sh x).fol,∀ e,qX M i=some e→∀ id ∈ e.ids,id ∈ (sh x).ids:=fun x=>by
  rw [(yYZ x).2]; exact ⟨fun i hi=>(by cases hi),fun i hi=>(by cases hi)⟩
 match m with
 | 0=>exact qKI h
 | 1=>simp only [resM,vQZ] at h; subst h; exact shd x
 | 2 =>
  cases x with
  | o id=>exact qKI (by simpa only [resM] using h)
  | _=>simp only [resM,vQZ] at h; subst h; exact shd _
 | m + 3 =>
  cases x with
  | p id off =>
   cases off with
   | succ off=>exact qKI (by simpa only [resM] using h)
   | zero =>
    simp only [resM] at h;split at h
    ·rename_i i2 hl;cases h;refine ⟨fun i hi => ?_,fun i hi e he j hj => ?_⟩
     ·simp only [RV.fol,List.mem_singleton] at hi; subst hi; simp [RV.ids]
     ·simp only [RV.fol,List.mem_singleton] at hi;subst hi;rw [hl] at he;cases he
      simpa [Ent.ids,catL,HV.ids,RV.ids] using Or.inr hj
    ·exact qKI h
  | _=>exact qKI (by simpa only [resM] using h)
theorem zQL {sb:List (Nat × Option Rows)} {x:HV} (h:∀ id ∈ x.ids,zZ sb id=none):x.sub sb=x:=by
 cases x with
 | o id=>simp [HV.sub,h id (by simp [HV.ids])]
 | q id j off=>simp [HV.sub,h id (by simp [HV.ids])]
 | m id j=>simp [HV.sub,h id (by simp [HV.ids]),h (mid id) (by simp [HV.ids])]
 | mp id j=>simp [HV.sub,h id (by simp [HV.ids]),h (mid id) (by simp [HV.ids])]
 | ag cs =>
  refine congrArg HV.ag ((List.map_congr_left fun c hc => ?_).trans (List.map_id cs));cases c with
  | o id=>simp [HC.sub,h id (mem_catL.2 ⟨_,hc,List.mem_singleton.2 rfl⟩)]
  | _=>rfl
 | _=>rfl
theorem zGC {sb:List (Nat × Option Rows)} {x:Ent} (h:∀ id ∈ x.ids,zZ sb id=none):x.sub sb=x:=by
 cases x with
 | blk cells =>
  simp only [Ent.sub]
  congr 1
  exact (List.map_congr_left fun a ha=>zQL fun id hid=>h id (mem_catL.2 ⟨a,ha,hid⟩)).trans (List.map_id _)
 | _=>rfl
theorem zJJ {l:List (Nat × Option Rows)} {id:Nat} (h:id ∉ l.map (·.1)):zZ l id=none:=by
 induction l with
 | nil=>rfl
 | cons x l ih =>
  obtain ⟨k,x⟩:=x;simp only [List.map_cons,vZG,not_or] at h;simp only [zZ,jY (Ne.symm h.1),vYZ];exact ih h.2
theorem upFind_none {l:List (Nat × Option Ent)} {id:Nat}:zQ l id=none ↔ id ∉ l.map (·.1):=by
 induction l with
 | nil=>simp [zQ]
 | cons x l ih =>
  obtain ⟨k,x⟩:=x;simp only [zQ,List.map_cons,vZG,not_or];cases hu:zQ l id with
  | some y =>
   simp only [reduceCtorEq,false_iff,not_and];intro _ hn;rw [ih.2 hn] at hu; cases hu
  | none =>
   by_cases e:k=id
   ·subst e; simp
   ·simp [jY e,Ne.symm e,ih.1 hu]
theorem qXQ {l:List (Nat × Option Ent)} {id:Nat} {x:Option Ent} (h:zQ l id=some x):(id,x) ∈ l:=by
 induction l with
 | nil=>simp [zQ] at h
 | cons y l ih =>
  obtain ⟨k,y⟩:=y;simp only [zQ] at h;cases hu:zQ l id with
  | some z=>rw [hu] at h; cases h; exact vQV _ (ih hu)
  | none =>
   rw [hu] at h;by_cases e:k=id
   ·subst e; simp at h; subst h; exact vQG
   ·simp [jY e] at h
theorem qUE {xs ys:List Nat} (h:disj xs ys=true):∀ x ∈ xs,x ∉ ys:=by
 induction xs with
 | nil=>intro x hx; cases hx
 | cons a xs ih =>
  simp only [disj,vQJ,Bool.not_eq_true'] at h;intro x hx;rcases List.mem_cons.1 hx with rfl | hx
  ·intro hm
   have:=List.any_eq_false.1 h.1 x hm
   simp at this
  ·exact ih h.2 x hx
structure Indep (ops:Array Oper) (x y:Done) (ox oy:Oper):Prop where
 sb:x.2.1.sb=[]
 d1:∀ d,ox.dst=some d→d ∉ oy.looksAt ops
 d2:∀ d,oy.dst=some d→d ∉ ox.looksAt ops
 d3:∀ d,ox.dst=some d→oy.dst ≠ some d
 w1:∀ i ∈ x.2.1.wr,i ∉ catL RV.ids y.2.2∧i ∉ y.2.1.all
 w2:∀ i ∈ y.2.1.up.map (·.1),i ∉ catL RV.fol x.2.2∧i ∉ x.2.1.nw
 w3:∀ i ∈ y.2.1.sb.map (·.1),i ∉ catL RV.ids x.2.2∧i ∉ x.2.1.all
theorem yUA {d:Nat} {l:List Nat} (h:(!(l.any (Nat.beq d)))=true):d ∉ l:=fun hm=>by
 rw [Bool.not_eq_true'] at h
 have:=List.any_eq_false.1 h d hm
 simp at this
theorem zWE {ops:Array Oper} {x y:Done} {ox oy:Oper} (hx:ops[x.1]? = some ox) (hy:ops[y.1]? = some oy) (h:yJD ops x y=true):Indep ops x y ox oy:=by
 unfold yJD at h;simp only [hx,hy,vQJ] at h;obtain ⟨⟨⟨⟨⟨h1,h2⟩,h3⟩,h4⟩,h5⟩,h6,h7⟩:=h;refine ⟨?_,fun d hd => ?_,fun d hd => ?_,fun d hd he => ?_,fun i hi => ?_,fun i hi => ?_,fun i hi => ?_⟩
 ·cases hs:x.2.1.sb with
  | nil=>rfl
  | cons a b=>rw [hs] at h1; cases h1
 ·rw [hd] at h2; exact yUA h2
 ·rw [hd] at h3; exact yUA h3
 ·rw [hd,he] at h4; simp at h4
 ·have:=qUE h5 i hi; simpa [not_or] using this
 ·have:=qUE h6 i hi; simpa [not_or] using this
 ·have:=qUE h7 i hi; simpa [not_or] using this
theorem yVE {ops:Array Oper} {o:Oper} {t:Nat} (h:Operand.tmp t ∈ o.op.operands.toList):t ∈ o.looksAt ops:=by
 unfold Oper.looksAt;refine List.mem_append.2 (.inl (List.mem_filterMap.2 ⟨_,h,rfl⟩))
theorem yQL {ops:Array Oper} {o:Oper} {j:Nat} {b:Bool} {d:Nat} (hg:o.guard=some (j,b)) (hd:(ops[j]?).bind (·.dst)=some d):d ∈ o.looksAt ops:=by
 unfold Oper.looksAt;refine List.mem_append.2 (.inr ?_);simp [hg,hd]
theorem zYG {M:Mem} {i:Nat} (h:((qX M i).isNone && Nat.blt i 2000000)=true):qQI M i:=by
 rw [vQJ,Nat.blt_eq] at h;exact ⟨by simpa using h.1,h.2⟩
theorem yGZ {M:Mem} {i:Nat} (h:qQI M i):((qX M i).isNone && Nat.blt i 2000000)=true:=by
 rw [vQJ,Nat.blt_eq,h.1];exact ⟨rfl,h.2⟩
theorem yXC {m:Nat} {σ:St} {x:Operand} {r:RV} (h:opv m σ x=some r):(∀ i ∈ r.fol,i ∈ r.ids)∧∀ i ∈ r.fol,∀ e,qX σ.M i=some e→∀ id ∈ e.ids,id ∈ r.ids:=by
 have nofol:r.fol=[]→(∀ i ∈ r.fol,i ∈ r.ids)∧∀ i ∈ r.fol,∀ e,qX σ.M i=some e→∀ id ∈ e.ids,id ∈ r.ids:=fun h=>by
  rw [h]; exact ⟨fun i hi=>(by cases hi),fun i hi=>(by cases hi)⟩
 cases x with
 | tmp t =>
  simp only [opv,vQQ] at h;obtain ⟨z,_,hr⟩:=h;exact yYA hr
 | const v =>
  simp only [opv] at h;unfold zVY at h;split at h
  ·cases h; exact nofol rfl
  ·simp only [vQQ,vQZ] at h; obtain ⟨_,_,rfl⟩:=h; exact nofol rfl
  ·simp only [vQQ,vQZ] at h; obtain ⟨_,_,rfl⟩:=h; exact nofol rfl
 | func f=>simp only [opv,vQZ] at h; subst h; exact nofol rfl
 | global g=>cases h
section
variable {C:Cx} {ops:Array Oper}
theorem qGF {o:Oper} {σ τ:St} {g:Bool} (h:uY ops σ o=some g) (hS:∀ t c,t ∈ o.looksAt ops→jJ σ.S t=some (.v c)→jJ τ.S t=some (.v c)):uY ops τ o=some g:=by
 unfold uY at h ⊢;cases hg:o.guard with
 | none=>rw [hg] at h; exact h
 | some gd =>
  obtain ⟨j,b⟩:=gd;rw [hg] at h;simp only at h ⊢;cases hd:(ops[j]?).bind (·.dst) with
  | none=>rw [hd] at h; exact h
  | some d =>
   rw [hd] at h;simp only at h ⊢;cases hl:jJ σ.S d with
   | none=>rw [hl] at h; simp at h
   | some x =>
    rw [hl] at h;cases x with
    | v p =>
     rw [hS d p (yQL hg hd) hl]; exact h
    | _=>simp at h
theorem qXY {o:Oper} {σ:St} {r:Eff × List RV} (h:qQL C ops o σ=some r):dstB C.n o.dst=true∧((uY ops σ o=some false∧r=(.val (.v (.t [])),[])) ∨
  (uY ops σ o=some true∧mapO (opv (mode o.op) σ) o.op.operands.toList=some r.2∧qK C.T C.cA C.cB C.me (o.dst.getD 0) o.op r.2=some r.1∧∀ i ∈ r.1.nw,qQI σ.M i)):=by
 unfold qQL at h;cases hgo:uY ops σ o with
 | none=>rw [hgo] at h; simp at h
 | some g =>
  rw [hgo] at h;simp only [vZV] at h;cases hdd:dstB C.n o.dst with
  | false=>rw [hdd] at h; simp at h
  | true =>
   rw [hdd] at h;refine ⟨rfl,?_⟩;cases g with
   | false=>simp at h; exact .inl ⟨rfl,h.symm⟩
   | true =>
    simp only [vYQ,vQQ] at h;obtain ⟨vs',hvs,e',he,hh⟩:=h;cases hn:e'.nw.all (fun id=>(qX σ.M id).isNone && Nat.blt id 2000000) with
    | false=>rw [hn] at hh; simp at hh
    | true =>
     rw [hn] at hh;simp only [vYQ,vQZ] at hh;subst hh;refine .inr ⟨rfl,hvs,he,fun i hi => ?_⟩;exact zYG (List.all_eq_true.1 hn i hi)
theorem qVL {o:Oper} {σ:St} {r:Eff × List RV} (hd:dstB C.n o.dst=true) (h:(uY ops σ o=some false∧r=(.val (.v (.t [])),[])) ∨
  (uY ops σ o=some true∧mapO (opv (mode o.op) σ) o.op.operands.toList=some r.2∧qK C.T C.cA C.cB C.me (o.dst.getD 0) o.op r.2=some r.1∧∀ i ∈ r.1.nw,qQI σ.M i)):qQL C ops o σ=some r:=by
 unfold qQL;rcases h with ⟨h1,rfl⟩ | ⟨h1,h2,h3,h4⟩
 ·simp [h1,hd]
 ·have:r.1.nw.all (fun id=>(qX σ.M id).isNone && Nat.blt id 2000000)=true:=by
   rw [List.all_eq_true]; intro i hi; exact yGZ (h4 i hi)
  simp [h1,hd,h2,h3,this]
theorem qXJ {o:Oper} {σ τ:St} {r:Eff × List RV} (h:qQL C ops o σ=some r) (hG:∀ t c,t ∈ o.looksAt ops→jJ σ.S t=some (.v c)→jJ τ.S t=some (.v c))
  (hS:∀ t x,t ∈ o.looksAt ops→jJ σ.S t=some x→(∀ id ∈ x.ids,id ∈ catL RV.ids r.2)→jJ τ.S t=some x) (hM:∀ i ∈ catL RV.fol r.2,qX τ.M i=qX σ.M i)
  (hN:∀ i ∈ r.1.nw,qX τ.M i=qX σ.M i):qQL C ops o τ=some r:=by
 obtain ⟨hd,h⟩:=qXY h;refine qVL hd ?_;rcases h with ⟨h1,h2⟩ | ⟨h1,h2,h3,h4⟩
 ·exact .inl ⟨qGF h1 hG,h2⟩
 ·refine .inr ⟨qGF h1 hG,?_,h3,fun i hi=>⟨by rw [hN i hi]; exact (h4 i hi).1,(h4 i hi).2⟩⟩;have ha:=zK h2;refine zWC ⟨ha.1,fun i x y hx hy => ?_⟩;have h5:=ha.2 i x y hx hy;cases x with
  | tmp t =>
   simp only [opv,vQQ] at h5 ⊢;obtain ⟨z,hz,hr⟩:=h5;exact ⟨z,hS t z (yVE (vQW hx)) hz fun id hid=>mem_catL.2 ⟨y,vQW hy,yXH hr id hid⟩,zHL hr fun id hid=>hM id (mem_catL.2 ⟨y,vQW hy,hid⟩)⟩
  | _=>exact h5
theorem yXY {o:Oper} {σ τ:St} {r:Eff × List RV} (h:qQL C ops o σ=some r) (he:Eqv σ τ):qQL C ops o τ=some r :=
 qXJ h (fun t c _ h=>by rw [← he.1]; exact h) (fun t x _ h _=>by rw [← he.1]; exact h) (fun i _=>(he.2 i).symm) (fun i _=>(he.2 i).symm)
theorem zGX {o:Oper} {σ:St} {r:Eff × List RV} (h:qQL C ops o σ=some r):∀ i ∈ catL RV.fol r.2,i ∈ catL RV.ids r.2∧∀ e,qX σ.M i=some e→∀ id ∈ e.ids,id ∈ catL RV.ids r.2:=by
 obtain ⟨hd,hh⟩:=qXY h;rcases hh with ⟨_,hr⟩ | ⟨_,hr,_,_⟩
 ·intro i hi; rw [hr] at hi; simp [catL] at hi
 ·intro i hi;obtain ⟨rv,hrv,hin⟩:=mem_catL.1 hi;obtain ⟨k,hk⟩:=List.mem_iff_getElem?.1 hrv;have ha:=zK hr;have hkl:=(List.getElem?_eq_some_iff.1 hk).1;have hko:k < o.op.operands.toList.length:=by rw [ha.1]; exact hkl
  have hop:=yXC (ha.2 k _ rv (vQK hko) hk);exact ⟨mem_catL.2 ⟨rv,hrv,hop.1 i hin⟩,fun e he id hid=>mem_catL.2 ⟨rv,hrv,hop.2 i hin e he id hid⟩⟩
theorem jJF {o:Oper} {σ:St} {r:Eff × List RV} (h:qQL C ops o σ=some r):∀ i ∈ catL RV.fol r.2,i ∈ catL RV.ids r.2:=fun i hi=>(zGX h i hi).1
theorem yGY {o:Oper} {σ:St} {r:Eff × List RV} (h:qQL C ops o σ=some r):∀ i ∈ catL RV.fol r.2,∀ e,qX σ.M i=some e→∀ id ∈ e.ids,id ∈ catL RV.ids r.2:=fun i hi=>(zGX h i hi).2
theorem swap {x y:Done} {ox oy:Oper} {σ:St} (ind:Indep ops x y ox oy) (h1:qQL C ops ox σ=some x.2) (h2:qQL C ops oy (σ.apply x.2.1 ox.dst)=some y.2) :
  qQL C ops oy σ=some y.2∧qQL C ops ox (σ.apply y.2.1 oy.dst)=some x.2∧Eqv ((σ.apply x.2.1 ox.dst).apply y.2.1 oy.dst) ((σ.apply y.2.1 oy.dst).apply x.2.1 ox.dst):=by
 have sid:∀ z:Option HV,z.map (HV.sub x.2.1.sb)=z:=fun z=>by rw [ind.sb]; cases z <;> simp [HV.sub_nil]
 have eid:∀ z:Option Ent,z.map (Ent.sub x.2.1.sb)=z:=fun z=>by rw [ind.sb]; cases z <;> simp [Ent.sub_nil]
 have xw:∀ i,i ∉ x.2.1.wr→zQ x.2.1.up i=none:=fun i hi=>upFind_none.2 fun h=>hi (List.mem_append.2 (.inl h))
 have yw:∀ i,(i ∈ catL RV.fol x.2.2 ∨ i ∈ x.2.1.nw)→zQ y.2.1.up i=none:=fun i hi=>upFind_none.2 fun h=>(by
  have:=ind.w2 i h
  rcases hi with h | h
  ·exact this.1 h
  ·exact this.2 h)
 have ys:∀ i,i ∉ y.2.1.sb.map (·.1)→zZ y.2.1.sb i=none:=fun i hi=>zJJ hi
 have xall:∀ i,(i ∈ catL RV.ids x.2.2 ∨ i ∈ x.2.1.all)→i ∉ y.2.1.sb.map (·.1):=fun i hi hw=>by
  have:=ind.w3 i hw
  rcases hi with h | h
  ·exact this.1 h
  ·exact this.2 h
 have yall:∀ i,(i ∈ catL RV.ids y.2.2 ∨ i ∈ y.2.1.all)→i ∉ x.2.1.wr:=fun i hi hw=>by
  have:=ind.w1 i hw
  rcases hi with h | h
  ·exact this.1 h
  ·exact this.2 h
 have nwx:∀ i ∈ x.2.1.nw,i ∈ x.2.1.all:=fun i hi=>List.mem_append.2 (.inr hi)
 have nwy:∀ i ∈ y.2.1.nw,i ∈ y.2.1.all:=fun i hi=>List.mem_append.2 (.inr hi)
 have S1:∀ t,t ∈ oy.looksAt ops→jJ (σ.apply x.2.1 ox.dst).S t=jJ σ.S t:=fun t ht=>by
  rw [qQQ,if_neg (fun e=>ind.d1 t e ht),sid]
 have M1:∀ i,i ∉ x.2.1.wr→qX (σ.apply x.2.1 ox.dst).M i=qX σ.M i:=fun i hi=>by
  rw [jH,xw i hi]; exact eid _
 refine ⟨qXJ h2 (fun t c ht h=>by rw [← S1 t ht]; exact h) (fun t x ht h _=>by rw [← S1 t ht]; exact h) (fun i hi=>(M1 i (yall i (.inl (jJF h2 i hi)))).symm) (fun i hi=>(M1 i (yall i (.inr (nwy i hi)))).symm),?_,?_⟩
 ·have S2:∀ t z,t ∈ ox.looksAt ops→jJ σ.S t=some z→(∀ id ∈ z.ids,id ∉ y.2.1.sb.map (·.1))→jJ (σ.apply y.2.1 oy.dst).S t=some z:=fun t z ht hz hi=>by
   rw [qQQ,if_neg (fun e=>ind.d2 t e ht),hz,Option.map_some,zQL fun id hid=>ys id (hi id hid)]
  have hMM:∀ i,(i ∈ catL RV.fol x.2.2 ∨ i ∈ x.2.1.nw)→(∀ e,qX σ.M i=some e→∀ id ∈ e.ids,id ∉ y.2.1.sb.map (·.1))→qX (σ.apply y.2.1 oy.dst).M i=qX σ.M i:=fun i hi he=>by
   rw [jH,yw i hi];cases hl:qX σ.M i with
   | none=>rfl
   | some e=>simp only [Option.map_some]; rw [zGC fun id hid=>ys id (he e hl id hid)]
  refine qXJ h1 (fun t c ht h=>S2 t _ ht h fun id hid=>by simp [HV.ids] at hid) (fun t z ht h hi=>S2 t z ht h fun id hid=>xall id (.inl (hi id hid))) (fun i hi=>hMM i (.inl hi) fun e he id hid=>xall id (.inl (yGY h1 i hi e he id hid))) (fun i hi => ?_)
  ·obtain ⟨hd,hh⟩:=qXY h1;rcases hh with ⟨_,hr⟩ | ⟨_,_,_,hn⟩
   ·rw [hr] at hi; cases hi
   ·refine hMM i (.inr hi) fun e he => ?_
    rw [(hn i hi).1] at he; cases he
 ·refine ⟨fun t => ?_,fun i => ?_⟩
  ·rw [qQQ,qQQ,qQQ,qQQ];by_cases e1:oy.dst=some t
   ·have e2:¬ ox.dst=some t:=fun e=>ind.d3 t e e1
    rw [if_pos e1,if_neg e2,if_pos e1,sid]
   ·rw [if_neg e1,if_neg e1];by_cases e2:ox.dst=some t
    ·rw [if_pos e2,if_pos e2,Option.map_some,zQL fun id hid=>ys id (xall id (.inr (List.mem_append.2 (.inl (List.mem_append.2 (.inr hid))))))]
    ·rw [if_neg e2,if_neg e2,sid,sid]
  ·rw [jH,jH,jH,jH];cases hy:zQ y.2.1.up i with
   | some z =>
    have:zQ x.2.1.up i=none:=xw i (yall i (.inr (List.mem_append.2 (.inl (List.mem_append.2 (.inl (mem_catL.2 ⟨(i,z),qXQ hy,by unfold jQX; cases z <;> simp⟩)))))))
    rw [this]; exact (eid _).symm
   | none =>
    cases hx:zQ x.2.1.up i with
    | some z =>
     simp only;cases z with
     | none=>rfl
     | some ent =>
      simp only [Option.map_some];rw [zGC fun id hid=>ys id (xall id (.inr (List.mem_append.2 (.inl (List.mem_append.2 (.inl (mem_catL.2 ⟨(i,some ent),qXQ hx,by simp [jQX,hid]⟩)))))))]
    | none =>
     simp only;rw [eid,eid]
end
end Go.Rx
namespace Go.Rx
open Go.RowKit Go.Sx
theorem Rel.eqv {E:Env} {n:Nat} {σ τ:St} {a:Act} {w:World} (h:Rel E n σ a w) (he:Eqv σ τ):Rel E n τ a w:=by
 obtain ⟨ρ,F,h⟩:=h;exact ⟨ρ,F,h.size,h.defers,fun t x hx=>h.slots t x (by rw [he.1]; exact hx),⟨fun id e hl=>h.mem.ent id e (by rw [he.2]; exact hl),fun id L hL hi=>by obtain ⟨e,h1⟩:=h.mem.dom id L hL hi; exact ⟨e,by rw [← he.2]; exact h1⟩,
  fun id e hl=>h.mem.ord id e (by rw [he.2]; exact hl),h.mem.inr,h.mem.apart,h.mem.off,h.mem.fz,h.mem.fz0,h.mem.grow,h.mem.pin,h.mem.rd⟩⟩
section
variable {C:Cx} {ops:Array Oper}
inductive Runs (C:Cx) (ops:Array Oper):List Done→St→St→Prop
 | nil (σ:St):Runs C ops [] σ σ
 | cons {x:Done} {o:Oper} {l:List Done} {σ τ:St} (ho:ops[x.1]? = some o) (hs:qQL C ops o σ=some x.2) (h:Runs C ops l (σ.apply x.2.1 o.dst) τ):Runs C ops (x :: l) σ τ
theorem Runs.eqv {l:List Done} {σ τ σ':St} (h:Runs C ops l σ τ) (he:Eqv σ σ'):∃ τ',Runs C ops l σ' τ'∧Eqv τ τ':=by
 induction h generalizing σ' with
 | nil σ=>exact ⟨σ',.nil σ',he⟩
 | cons ho hs _ ih =>
  obtain ⟨τ',h1,h2⟩:=ih (he.apply _ _);exact ⟨τ',.cons ho (yXY hs he) h1,h2⟩
theorem Runs.append {l l':List Done} {σ τ υ:St} (h:Runs C ops l σ τ) (h':Runs C ops l' τ υ):Runs C ops (l ++ l') σ υ:=by
 induction h with
 | nil σ=>exact h'
 | cons ho hs _ ih=>exact .cons ho hs (ih h')
theorem Runs.split {l l':List Done} {σ υ:St} (h:Runs C ops (l ++ l') σ υ):∃ τ,Runs C ops l σ τ∧Runs C ops l' τ υ:=by
 induction l generalizing σ with
 | nil=>exact ⟨σ,.nil σ,h⟩
 | cons x l ih =>
  cases h with
  | cons ho hs h =>
   obtain ⟨τ,h1,h2⟩:=ih h;exact ⟨τ,.cons ho hs h1,h2⟩
theorem Runs.det {l:List Done} {σ τ τ':St} (h:Runs C ops l σ τ) (h':Runs C ops l σ τ'):τ=τ':=by
 induction h with
 | nil σ=>cases h'; rfl
 | cons ho hs _ ih =>
  cases h' with
  | cons ho' hs' h' =>
   rw [ho] at ho'; cases ho';exact ih h'
def zHU (ops:Array Oper) (x y:Done):Prop:=∃ ox oy,ops[x.1]? = some ox∧ops[y.1]? = some oy∧Indep ops x y ox oy
theorem Runs.right {x:Done} {l:List Done} {σ τ:St} (h:Runs C ops (x :: l) σ τ) (hi:∀ y ∈ l,zHU ops x y):∃ τ',Runs C ops (l ++ [x]) σ τ'∧Eqv τ τ':=by
 induction l generalizing σ τ with
 | nil=>exact ⟨τ,h,Eqv.refl τ⟩
 | cons y l ih =>
  cases h with
  | cons ho hs h =>
   cases h with
   | cons ho2 hs2 h =>
    obtain ⟨ox,oy,h1,h2,ind⟩:=hi y vQG;rw [ho] at h1; cases h1;rw [ho2] at h2; cases h2;obtain ⟨q1,q2,q3⟩:=swap ind hs hs2;obtain ⟨τ1,h3,h4⟩:=h.eqv q3;obtain ⟨τ2,h5,h6⟩:=ih (.cons ho q2 h3) (fun z hz=>hi z (vQV _ hz));exact ⟨τ2,.cons ho2 q1 h5,h4.trans h6⟩
theorem Runs.part {d:Done→Bool} {l:List Done} {σ τ:St} (h:Runs C ops l σ τ) (hp:l.Pairwise fun x y=>d x=false→d y=true→zHU ops x y) :
  ∃ τ',Runs C ops (l.filter d ++ l.filter (fun x => !d x)) σ τ'∧Eqv τ τ':=by
 induction l generalizing σ τ with
 | nil=>exact ⟨τ,h,Eqv.refl τ⟩
 | cons x l ih =>
  cases h with
  | cons ho hs h =>
   obtain ⟨hx,hl⟩:=List.pairwise_cons.1 hp;obtain ⟨τ1,h1,h2⟩:=ih h hl;cases hd:d x with
   | true =>
    simp only [List.filter_cons,hd,if_true,Bool.not_true,Bool.false_eq_true,if_false,List.cons_append];exact ⟨τ1,.cons ho hs h1,h2⟩
   | false =>
    simp only [List.filter_cons,hd,Bool.not_false,if_true,Bool.false_eq_true,if_false];obtain ⟨υ,h3,h4⟩:=h1.split;obtain ⟨υ',h5,h6⟩:=Runs.right (.cons ho hs h3) (fun y hy=>hx y (List.mem_filter.1 hy).1 hd (List.mem_filter.1 hy).2);obtain ⟨τ2,h7,h8⟩:=h4.eqv h6;refine ⟨τ2,?_,h2.trans h8⟩
    have:=h5.append h7
    simpa using this
def Goes (P:Program) (o:Oper) (a:Act) (w:World) (T:Value→World→Prop):Prop :=
 match (execOp a.eval o).run P w with
 | .ok (.value v) w'=>T v w'
 | .ok .skip w'=>T undef w'
 | .ok (.enter f args) w'=>Calls P f args w' (fun e w''=>∃ v,e=.returned v∧T v w'')
 | _=>False
theorem Goes.wp {P:Program} {o:Oper} {a:Act} {w:World} {T:Value→World→Prop} {K:Act→World→Prop} {Q:Exit→Act→World→Prop} (h:Goes P o a w T) (hK:∀ v w',T v w'→K (a.put o.dst v) w'):o.wp P a w K Q:=by
 unfold Goes at h;unfold Oper.wp;generalize (execOp a.eval o).run P w=r at *;cases r with
 | ok n w' =>
  cases n <;> first | exact h.elim | exact hK _ _ h | skip
  rename_i f args;exact Calls.mono h fun e w'' ⟨v,he,ht⟩=>by subst he; exact hK _ _ ht
 | halt x w'=>exact h.elim
theorem Goes.mono {P:Program} {o:Oper} {a:Act} {w:World} {T T':Value→World→Prop} (h:Goes P o a w T) (hT:∀ v w',T v w'→T' v w'):Goes P o a w T':=by
 unfold Goes at *;generalize (execOp a.eval o).run P w=r at *;cases r with
 | ok n w' =>
  cases n <;> first | exact h.elim | exact hT _ _ h | skip
  exact Calls.mono h fun e w'' ⟨v,he,ht⟩=>⟨v,he,hT _ _ ht⟩
 | halt x w'=>exact h.elim
def GoesD (P:Program) (D:Deferred→Prop) (o:Oper) (a:Act) (w:World) (K:Act→World→Prop):Prop :=
 Goes P o a w (fun v w'=>K (a.put o.dst v) w') ∨ ∃ d,(execOp a.eval o).run P w=.ok (.defer d) w∧D d∧K ({ a with defers:=d :: a.defers }.put o.dst undef) w
theorem GoesD.mono {P:Program} {D:Deferred→Prop} {o:Oper} {a:Act} {w:World} {K K':Act→World→Prop} (h:GoesD P D o a w K) (hK:∀ a w,K a w→K' a w):GoesD P D o a w K':=by
 rcases h with h | ⟨d,h1,h2,h3⟩
 ·exact .inl (h.mono fun v w'=>hK _ _)
 ·exact .inr ⟨d,h1,h2,hK _ _ h3⟩
theorem GoesD.wp {P:Program} {D:Deferred→Prop} {o:Oper} {a:Act} {w:World} {K:Act→World→Prop} {Q:Exit→Act→World→Prop} (h:GoesD P D o a w K):o.wp P a w K Q:=by
 rcases h with h | ⟨d,h1,_,h2⟩
 ·exact h.wp fun v w' ht=>ht
 ·unfold Oper.wp;rw [h1];exact h2
def Sim (P:Program) (E:Env) (C:Cx) (ops:Array Oper):Prop:=∀ (o:Oper) (σ:St) (r:Eff × List RV) (a:Act) (w:World),qQL C ops o σ=some r→Rel E C.n σ a w →
 (if Region.wanted o (yielded ops a.tmps) then GoesD P E.D o a w (fun a' w'=>Rel E C.n (σ.apply r.1 o.dst) a' w') else Rel E C.n (σ.apply r.1 o.dst) (a.put o.dst undef) w)
variable {P:Program} {E:Env} {Q:Exit→Act→World→Prop}
theorem yXW (hs:Sim P E C ops) {i:Nat} {o:Oper} {σ:St} {r:Eff × List RV} {a:Act} {w:World} (ho:ops[i]? = some o) (h:qQL C ops o σ=some r) (hr:Rel E C.n σ a w) :
  wpOp P ops Q i (fun a' w'=>Rel E C.n (σ.apply r.1 o.dst) a' w') a w:=by
 unfold wpOp;rw [ho]
 have:=hs o σ r a w h hr
 simp only;split
 ·rename_i hw;rw [if_pos hw] at this;exact .inl this.wp
 ·rename_i hw;rw [if_neg hw] at this;exact this
theorem zWL {l:Array Bool} {i:Nat} (hl:i < l.size):l.getD i true=l.getD i false:=by simp [hl]
theorem qYU {ops:Array Oper} {listed:Array Bool} (hc:∀ i o,listed.getD i false=true→ops[i]? = some o→∀ e ∈ o.after,Region.binds .any e=true→listed.getD e.on false=true):∀ (n j i:Nat),qVF ops n j i=true→listed.getD j false=true→listed.getD i false=true:=by
 have direct:∀ j i,Region.waitsFor .any ops j i=true→listed.getD j false=true→listed.getD i false=true:=fun j i h hj=>by
  obtain ⟨o',ho',e,he,hb,hon⟩:=Region.waitsFor_spec h
  have:=hc j o' hj ho' e he hb
  rwa [hon] at this
 intro n;induction n with
 | zero=>exact direct
 | succ n ih =>
  intro j i h hj;simp only [qVF,Bool.or_eq_true] at h;rcases h with h | h
  ·exact direct j i h hj
  ·split at h
   ·rename_i o ho;obtain ⟨e,he,hb⟩:=Array.any_eq_true'.1 h;rw [vQJ] at hb;exact ih e.on i hb.2 (hc j o hj ho e he hb.1)
   ·cases h
theorem qKV {ops:Array Oper} {listed:Array Bool} (hc:∀ i o,listed.getD i false=true→ops[i]? = some o→∀ e ∈ o.after,Region.binds .any e=true→listed.getD e.on false=true) {j i:Nat} (h:qHD ops j i=true) (hj:listed.getD j false=true):listed.getD i false=true:=by
 unfold qHD at h;rw [Bool.or_eq_true,Bool.or_eq_true] at h;rcases h with (h | h) | h
 ·exact qYU hc 3 _ _ h hj
 ·exact qYU hc 5 _ _ h hj
 ·exact qYU hc 9 _ _ h hj
theorem yQQ {L:List Done} {σ0 τ:St} (hs:Sim P E C ops) (hL:Runs C ops L σ0 τ) (hlen:L.length=ops.size) (hidx:∀ (i:Nat) (x:Done),L[i]? = some x→x.1=i) (hp:qGH ops L=true) (hback:backB ops=true)
  (hK:∀ a w,Rel E C.n τ a w→Q .normal a w) :
  ∀ (f:Nat) (listed:Array Bool) (a:Act) (w:World),listed.size=ops.size→qZY listed ops.size=f →
   (∀ i o,listed.getD i false=true→ops[i]? = some o→∀ e ∈ o.after,Region.binds .any e=true→listed.getD e.on false=true) →
   (∃ υ,Runs C ops (L.filter fun x=>listed.getD x.1 false) σ0 υ∧Rel E C.n υ a w)→wpAny P .any ops Q f listed a w:=by
 have hpw:L.Pairwise fun x y=>qHD ops y.1 x.1=true ∨ zHU ops x y:=by
  have ho:∀ x ∈ L,∃ o,ops[x.1]? = some o:=fun x hx=>by
   obtain ⟨i,hi⟩:=List.mem_iff_getElem?.1 hx;rw [hidx i x hi]
   have:=(List.getElem?_eq_some_iff.1 hi).1
   exact ⟨_,vZY (by omega)⟩
  clear hL hlen hidx
  induction L with
  | nil=>exact List.Pairwise.nil
  | cons x L ih =>
   simp only [qGH,vQJ] at hp;refine List.pairwise_cons.2 ⟨fun y hy => ?_,ih hp.2 fun z hz=>ho z (vQV _ hz)⟩
   have:=List.all_eq_true.1 hp.1 y hy
   rw [Bool.or_eq_true,Bool.or_eq_true] at this;rcases this with h | h | h
   ·exact .inl (by simp only [qHD,qVF,h,Bool.true_or])
   ·obtain ⟨ox,hox⟩:=ho x vQG;obtain ⟨oy,hoy⟩:=ho y (vQV _ hy);exact .inr ⟨ox,oy,hox,hoy,zWE hox hoy h⟩
   ·exact .inl h
 intro f;induction f with
 | zero =>
  intro listed a w hsz hu hcl ⟨υ,hr,hrel⟩;have hall:=qJC hu;refine ⟨List.eq_nil_iff_forall_not_mem.2 fun i hi => ?_,hK a w ?_⟩
  ·obtain ⟨hun,o,ho,_⟩:=mem_ready.1 hi;rw [hall i (Array.getElem?_eq_some_iff.1 ho).1] at hun;cases hun
  ·have:L.filter (fun x=>listed.getD x.1 false)=L:=List.filter_eq_self.2 fun x hx=>by
    obtain ⟨i,hi⟩:=List.mem_iff_getElem?.1 hx;have hil:=(List.getElem?_eq_some_iff.1 hi).1;rw [hidx i x hi];have h1:=hall i (by omega)
    rwa [zWL (by omega)] at h1
   rw [this] at hr;rw [← hr.det hL]; exact hrel
 | succ f ih =>
  intro listed a w hsz hu hcl ⟨υ,hr,hrel⟩;obtain ⟨i0,hi0,hun0,hbefore⟩:=qXL (listed:=listed) (N:=ops.size) (by omega);have hready:i0 ∈ Region.ready .any ops listed:=by
   refine mem_ready.2 ⟨hun0,ops[i0],vZY hi0,fun e he hb => ?_⟩;have h1:=List.all_eq_true.1 hback i0 (List.mem_range.2 hi0);simp only [vZY hi0] at h1;have h2:=Array.all_eq_true_iff_forall_mem.1 h1 e he;simp only [hb,Bool.not_true,Bool.false_or,decide_eq_true_eq] at h2;have h3:=hbefore e.on h2
   rwa [zWL (by omega)] at h3
  refine ⟨fun h0=>(by rw [h0] at hready; cases hready),fun i hi => ?_⟩;obtain ⟨hun,o,ho,hpre⟩:=mem_ready.1 hi;have hiN:=(Array.getElem?_eq_some_iff.1 ho).1;have hil:i < L.length:=by omega
  have hLi:L[i]? = some L[i]:=vQK hil;generalize hx:L[i]=x at hLi;have hxi:x.1=i:=hidx i x hLi;have hun':listed.getD i false=false:=by rw [← zWL (by omega)]; exact hun
  have hset:∀ j,(listed.setIfInBounds i true).getD j false=if i=j then true else listed.getD j false:=fun j=>by
   by_cases e:i=j
   ·subst e
    have:i < listed.size:=by omega
    simp [this]
   ·rw [if_neg e,getD_set_ne false e]
  -- the list, parted at i
  have hsplit:L=L.take i ++ x :: L.drop (i + 1):=by
   have:=List.take_append_drop i L
   rw [List.drop_eq_getElem_cons hil,hx] at this;exact this.symm
  have hlow:∀ y ∈ L.take i,y.1 ≠ i:=fun y hy=>by
   obtain ⟨k,hk⟩:=List.mem_iff_getElem?.1 hy;rw [vZU] at hk;split at hk
   ·rw [hidx k y hk]; omega
   ·cases hk
  have hhigh:∀ y ∈ L.drop (i + 1),y.1 ≠ i:=fun y hy=>by
   obtain ⟨k,hk⟩:=List.mem_iff_getElem?.1 hy;rw [List.getElem?_drop] at hk;rw [hidx _ y hk]; omega
  have hcl':∀ j o',(listed.setIfInBounds i true).getD j false=true→ops[j]? = some o'→∀ e ∈ o'.after,Region.binds .any e=true→(listed.setIfInBounds i true).getD e.on false=true:=fun j o' hj ho' e he hb=>by
   rw [hset] at hj ⊢;by_cases e1:i=e.on
   ·rw [if_pos e1]
   ·rw [if_neg e1];by_cases e2:i=j
    ·subst e2; rw [ho] at ho'; cases ho'; exact hpre e he hb
    ·rw [if_neg e2] at hj; exact hcl j o' hj ho' e he hb
  have hcly:∀ y:Done,(listed.setIfInBounds i true).getD y.1 false=true→∀ o',ops[y.1]? = some o'→∀ e ∈ o'.after,Region.binds .any e=true→(listed.setIfInBounds i true).getD e.on false=true:=fun y hy o' ho'=>hcl' y.1 o' hy ho'
  obtain ⟨τ',hp1,_⟩:=Runs.part (d:=fun x=>(listed.setIfInBounds i true).getD x.1 false) hL (hpw.imp fun {u v} h hu hv=>by
   rcases h with h | h
   ·have:=qKV hcl' h hv
    rw [hu] at this; cases this
   ·exact h)
  obtain ⟨υ',hD',_⟩:=hp1.split
  -- D' is D with i in its place
  have e1:L.filter (fun x=>(listed.setIfInBounds i true).getD x.1 false)=(L.take i).filter (fun x=>listed.getD x.1 false) ++ x :: (L.drop (i + 1)).filter (fun x=>listed.getD x.1 false):=by
   conv=>lhs; rw [hsplit]
   rw [List.filter_append,List.filter_cons];have hxt:(listed.setIfInBounds i true).getD x.1 false=true:=by rw [hset,hxi,if_pos rfl]
   rw [if_pos hxt]
   congr 1
   ·exact List.filter_congr fun y hy=>by rw [hset,if_neg (Ne.symm (hlow y hy))]
   ·congr 1
    exact List.filter_congr fun y hy=>by rw [hset,if_neg (Ne.symm (hhigh y hy))]
  have e2:L.filter (fun x=>listed.getD x.1 false)=(L.take i).filter (fun x=>listed.getD x.1 false) ++ (L.drop (i + 1)).filter (fun x=>listed.getD x.1 false):=by
   conv=>lhs; rw [hsplit]
   rw [List.filter_append,List.filter_cons];rw [if_neg (by rw [hxi,hun']; simp)]
  rw [e1] at hD';obtain ⟨α,hA,hB⟩:=hD'.split;have hpair:∀ y ∈ L.drop (i + 1),qHD ops y.1 x.1=true ∨ zHU ops x y:=by
   rw [hsplit] at hpw;exact (List.pairwise_cons.1 (List.pairwise_append.1 hpw).2.1).1
  obtain ⟨υ2,hB2,hev⟩:=Runs.right hB (fun y hy=>by
   obtain ⟨hy1,hy2⟩:=List.mem_filter.1 hy;rcases hpair y hy1 with h | h
   ·have:=qKV hcl h hy2
    rw [hxi,hun'] at this; cases this
   ·exact h)
  obtain ⟨β,hB3,hB4⟩:=hB2.split;have hυ:υ=β:=by
   rw [e2] at hr;exact hr.det (hA.append hB3)
  subst hυ;cases hB4 with
  | cons ho2 hs2 hn =>
   rw [hxi,ho] at ho2;cases ho2;cases hn;refine wpOp_mono (fun a' w' h => ?_) (yXW hs ho hs2 hrel)
   have:=qHF hun hiN
   refine ih _ a' w' (by simpa using hsz) (by omega) hcl' ⟨υ',?_,h.eqv hev.symm⟩;rw [e1]; exact hA.append hB
theorem qWK {K:St→Option (Ret × Mem)} {r:Ret × Mem}:∀ (l:List Oper) (i:Nat) (acc:List Done) (σ:St),qZF C ops i l acc K σ=some r→(∀ j o,l[j]? = some o→ops[i + j]? = some o) →
  ∃ L τ,Runs C ops L σ τ∧L.length=l.length∧(∀ (j:Nat) (x:Done),L[j]? = some x→x.1=i + j)∧qGH ops (acc.reverse ++ L)=true∧backB ops=true∧K τ=some r
 | [],i,acc,σ,h,_=>by
  simp only [qZF] at h;cases hb:(qGH ops acc.reverse && backB ops) with
  | false=>rw [hb] at h; simp at h
  | true =>
   rw [hb] at h;rw [vQJ] at hb;exact ⟨[],σ,.nil σ,rfl,fun j x hx=>by simp at hx,by simpa using hb.1,hb.2,h⟩
 | o :: l,i,acc,σ,h,ho=>by
  simp only [qZF,vQQ] at h;obtain ⟨x,hx,h⟩:=h;obtain ⟨L,τ,h1,h2,h3,h4,h5,h6⟩:=qWK l (i + 1) _ _ h (fun j o' hj=>by
   have:=ho (j + 1) o' (by simpa using hj)
   rw [show i + 1 + j=i + (j + 1) by omega]; exact this)
  refine ⟨(i,x) :: L,τ,.cons (by simpa using ho 0 o rfl) hx h1,by simp [h2],fun j y hy => ?_,by simpa using h4,h5,h6⟩;cases j with
  | zero=>simp at hy; subst hy; rfl
  | succ j=>simp at hy; rw [h3 j y hy]; omega
theorem jQK {id:Nat} {K:St→Option (Ret × Mem)} {r:Ret × Mem} {σ:St} {a:Act} {w:World} (hm:P.follows .mixedOrders=true) (hs:Sim P E C ops) (h:qZF C ops 0 ops.toList [] K σ=some r) (hr:Rel E C.n σ a w)
  (hd:∀ {σ a w},Rel E C.n σ a w→Rel E C.n σ a { w with drawn:=w.drawn + 1 }) (hK:∀ τ a w,K τ=some r→Rel E C.n τ a w→Q .normal a w):(Code.region id ops true).wp P Q a w:=by
 obtain ⟨L,τ,h1,h2,h3,h4,h5,h6⟩:=qWK ops.toList 0 [] σ h (fun j o hj=>by simpa using hj);refine wp_region_any hm (yQQ hs h1 (by simpa using h2) (fun i x hx=>by simpa using h3 i x hx) (by simpa using h4) h5 (fun a w=>hK τ a w h6) ops.size _ a _ (by simp) ?_ (fun i o hi => ?_) ⟨σ,?_,hd hr⟩)
 ·have:∀ N,N≤ops.size→qZY (Array.replicate ops.size false) N=N:=by
   intro N;induction N with
   | zero=>intro _; rfl
   | succ N ih=>intro hN; simp only [qZY]; rw [ih (by omega)]; simp [show N < ops.size by omega]
  exact this _ (Nat.le_refl _)
 ·rcases Nat.lt_or_ge i ops.size with hl | hl <;> simp [hl] at hi
 ·have:L.filter (fun x=>(Array.replicate ops.size false).getD x.1 false)=[]:=List.filter_eq_nil_iff.2 fun x hx=>by
   rcases Nat.lt_or_ge x.1 ops.size with hl | hl <;> simp [hl]
  rw [this]; exact .nil σ
theorem zXJ {K:St→Option (Ret × Mem)} {r:Ret × Mem} (hs:Sim P E C ops) (hK:∀ τ a w,K τ=some r→Rel E C.n τ a w→Q .normal a w):∀ (l:List Oper) (σ:St) (a:Act) (w:World),qGJ C ops l K σ=some r→Rel E C.n σ a w→wpList P ops Q l a w
 | [],σ,a,w,h,hr=>hK σ a w h hr
 | o :: l,σ,a,w,h,hr=>by
  simp only [qGJ,vQQ] at h;obtain ⟨x,hx,h⟩:=h
  have:=hs o σ x a w hx hr
  unfold wpList;split
  ·rename_i hw;rw [if_pos hw] at this;exact .inl (this.mono fun a' w' ht=>zXJ hs hK l _ _ _ h ht).wp
  ·rename_i hw;rw [if_neg hw] at this;exact zXJ hs hK l _ _ _ h this
end
end Go.Rx
namespace Go.Sx
open Go.RowKit
section
variable {P:Program} {w0:Base} {S:zW} {H:Heap} {ty:TypeId} {pos:String} {af:Array Edge} {g:Option (Nat × Bool)}
theorem yWY {dd:Option Tmp} {x y:Operand} {t t':TypeId} {p q:ByteArray} (_:P.underlying t=some .string) (hx:ev S x=some (.string p)) (hy:ev S y=some (.string q)):OpV P w0 S H ⟨dd,.binOp .eql t x y t',ty,pos,af,g⟩ (.bool (p.toList == q.toList)) :=
 zG (by simp [zV,Op.operands,hx,hy]) rfl fun w _=>by simp [execOp,qV hx,qV hy,eqGuard,binOp,Op.stringOp]
end
end Go.Sx
namespace Go.Rx
open Go.RowKit Go.Sx
def Harm (P:Program) (d:Deferred):Prop:=∃ f cap,d.target=.fn (.func f) cap∧kH P f∧∀ (args:Array Value) (w:World),CallsD P f args .returning w fun e u w'=>(∃ v,e=.returned v)∧u=.returning∧w'=w
theorem qKK {P:Program} {fn:Func} {tmps:Array Value} {R:Ending→World→Prop} {v:Value} {w:World} (hv:(results fn tmps).run P w=.ok v w) (hR:R (.returned v) w):∀ (ds:List Deferred),(∀ d ∈ ds,Harm P d)→Leaves P fn tmps R ds .returning w
 | [],_=>⟨v,hv,hR⟩
 | d :: ds,h=>by
  obtain ⟨f,cap,htar,hent,hc⟩:=h d vQG;refine ⟨by simp,.func f,cap,f,d.args ++ cap,htar,by rw [htar]; exact hent _ _,CallsD.mono (hc (d.args ++ cap) w) ?_⟩
  rintro e u' w' ⟨⟨x,rfl⟩,rfl,rfl⟩
  exact qKK hv hR ds fun d hd=>h d (vQV _ hd)
structure TabOk (P:Program) (T:Tab):Prop where
 sz:∀ t b k,T.sz t=some (b,k)→tyB P t b k=true∧(b=false→k=1)
 zr:∀ t ps,T.zr t=some ps→∃ z,qJH P t z∧Al (fun p v=>(∀ F w,RP F w p v)∧v.oneCell'=true) ps z.cells.toList
 zh:∀ t hs,T.zh t=some hs→∃ z,qJH P t z∧Al (fun x v=>(∀ ρ F w,RH ρ F w x v)∧v.oneCell'=true) hs z.cells.toList
 fd:∀ t f o,T.fd t f=some o→zUC P t f o=true
 fx:∀ t f o b k,T.fx t f=some (o,b,k)→∃ fields fld,P.underlying t=some (.struct fields)∧fields[f]? = some fld∧fld.offset=o∧tyB P fld.type b k=true∧(b=false→k=1)
 ar:∀ t n k b,T.ar t=some (n,k,b)→arrB P t n k=true∧∃ e,P.underlying t=some (.array n e)∧tyB P e b k=true∧(b=false→k=1)
 sl:∀ t e k,T.sl t=some (e,k)→slcB P t e k=true∧0 < k∧k≤1000∧∃ bytes,appB P t e k bytes=true∧bytes≤100000∧T.bd e * bytes≤140737488355328∧T.bd e≤17592186044416
 ly:∀ t pl,T.ly t=some pl→∃ z,qYB P t=some (z,pl)∧∀ ps,T.zr t=some ps→Al (fun p v=>(∀ F w,RP F w p v)∧v.oneCell'=true) ps z
 ik:∀ t k,T.ik t=some k→P.underlying t=some (.int k)
 str:∀ t,T.str t=true→P.underlying t=some .string
 bo:∀ t,T.bo t=true→P.underlying t=some .bool
 eqK:∀ t ks,T.eqK t=some ks→aggB P t=true∧∀ vs:List Value,(∃ ps F w,qJB ks ps=true∧Al (RP F w) ps vs)→uV P 12 t vs=true
 dd:∀ f,T.dd f=true→kH P f∧∀ (args:Array Value) (w:World),CallsD P f args .returning w fun e u w'=>(∃ v,e=.returned v)∧u=.returning∧w'=w
 fn:∀ f fi,T.fn f=some fi→kH P f∧∃ fn,P.funcs[f]? = some fn∧fn.body=some fi.body∧fn.ntmps=fi.ntmps∧fn.results=fi.results.toArray
def actS (a:Act):zW:=Sx.initS 0 a.tmps.toList
theorem yJJ {vs:List Value} {k t:Nat} {v:Value} (h:vs[t]? = some v):Sx.look (Sx.initS k vs) (k + t)=some v:=by
 induction vs generalizing k t with
 | nil=>simp at h
 | cons u vs ih =>
  cases t with
  | zero=>simp at h; subst h; exact uW _ _ _
  | succ t =>
   simp at h;simp only [Sx.initS];rw [qQZ _ _ (by omega),show k + (t + 1)=(k + 1) + t by omega];exact ih h
theorem zGH {n:Nat} {a:Act} (hs:a.tmps.size=n):Fits n (actS a) { a with defers:=[] }:=⟨hs,rfl,fun t v h=>by
 obtain ⟨_,h2⟩:=yQI h
 simpa using h2⟩
theorem jVD {a:Act} {t:Nat} {v:Value} (h:a.tmps[t]? = some v):ev (actS a) (.tmp t)=some v:=by
 have:=yJJ (vs:=a.tmps.toList) (k:=0) (t:=t) (v:=v) (by simpa using h)
 rw [Nat.zero_add] at this;exact this
section
variable {P:Program} {E:Env} {n:Nat} {ρ:Own} {F:Nat→Prop} {σ:St} {a:Act} {w:World}
theorem zWI (hs:a.tmps.size=n) {o:Oper} {v:Value} (h:OpV P ⟨w,[]⟩ (actS a) [] o v):Goes P o a w (fun u w'=>u=v∧Grow w w'):=by
 have hy:=h.run w (Knows.nil (Grow.refl w));unfold Goes;rw [show a.eval=({ a with defers:=[] }:Act).eval from rfl,yKW (zGH hs) h.known h.nosel];generalize (execOp (evD (actS a)) o).run P w=r at *;cases r with
 | ok x w' =>
  cases x <;> first | exact hy.elim | exact ⟨hy.2,hy.1⟩ | skip
  exact Calls.mono hy.2 fun e w'' ⟨v,he,hg,ht⟩=>⟨v,he,ht,hy.1.trans hg⟩
 | halt x w'=>exact hy.elim
theorem qYJ {W:Nat→Prop} {w0 w w':World} (h:GrowB W w0 w) (g:Grow w w'):GrowB W w0 w':=h.trans (GrowB.of g)
theorem Rel'.val (h:Rel' E n ρ F σ a w) {F':Nat→Prop} {w':World} (g:Grow w w') (hF:∀ k,F k→F' k) (hF':∀ k,F' k→F k ∨ (w.heap.size≤k∧k < w'.heap.size)) {x:HV} {v:Value} (hx:RH ρ F' w' x v) {dst:Option Nat} (hd:dstB n dst=true) :
  Rel' E n ρ F' (σ.apply (.val x) dst) (a.put dst v) w':=by
 have hlt:∀ k,F k→k < w.heap.size:=fun k hk=>(h.mem.fz k hk).1
 refine h.apply (.val x) dst v (fun d e=>by subst e; simpa [dstB] using hd) ⟨fun id b h=>h,fun id L h _ _=>h,fun _ _ _ _ _ _ _ h _ _=>h,fun id rows a c k sz _ hs=>by simp [Eff.val,zZ] at hs,fun k hk=>⟨hF k hk,g.block k (hlt k hk)⟩⟩ hx
  (fun id L b _ hL hb=>g.block b (h.mem.off id L b hL hb).2.1) (fun _ _=>rfl) (fun id x hu=>by simp [Eff.val,zQ] at hu) (fun _ _=>rfl) (fun id x hu=>by simp [Eff.val,zQ] at hu) h.mem.apart
  (fun id L b hL hb=>⟨fun hf => ?_,vZZ (h.mem.off id L b hL hb).2.1 g.size,(h.mem.off id L b hL hb).2.2⟩)
  (fun k hk => ?_) (qYJ h.mem.grow g) (fun _ _=>rfl)
 ·have:=h.mem.off id L b hL hb
  rcases hF' b hf with h1 | h1
  ·exact this.1 h1
  ·omega
 ·rcases hF' k hk with h1 | h1
  ·exact ⟨vZZ (hlt k h1) g.size,(h.mem.fz k h1).2⟩
  ·exact ⟨h1.2,.inr (.inl (Nat.le_trans h.mem.grow.size h1.1))⟩
theorem qH (h:Rel' E n ρ F σ a w) {o:Oper} {x:HV} {v:Value} (hop:OpV P ⟨w,[]⟩ (actS a) [] o v) (hx:RH ρ F w x v) (hd:dstB n o.dst=true):Goes P o a w (fun u w'=>Rel E n (σ.apply (.val x) o.dst) (a.put o.dst u) w') :=
 (zWI h.size hop).mono fun u w' ⟨hu,g⟩=>by
  subst hu;exact ⟨ρ,F,h.val g (fun _ h=>h) (fun _ h=>.inl h) (hx.mono (fun _ _ h=>h) fun k hk=>⟨hk,g.block k (h.mem.fz k hk).1⟩) hd⟩
theorem Rel'.grow (h:Rel' E n ρ F σ a w) {w':World} (g:Grow w w'):Rel' E n ρ F σ a w':=by
 have hF:∀ k,F k→F k∧w'.heap[k]? = w.heap[k]?:=fun k hk=>⟨hk,g.block k (h.mem.fz k hk).1⟩
 refine ⟨h.size,h.defers,fun t x hx => ?_,⟨fun id e hl => ?_,h.mem.dom,h.mem.ord,h.mem.inr,h.mem.apart,fun id L b hL hb=>⟨(h.mem.off id L b hL hb).1,vZZ (h.mem.off id L b hL hb).2.1 g.size,(h.mem.off id L b hL hb).2.2⟩,
  fun k hk=>⟨vZZ (h.mem.fz k hk).1 g.size,(h.mem.fz k hk).2⟩,h.mem.fz0,qYJ h.mem.grow g,h.mem.pin,fun b hb=>⟨(h.mem.rd b hb).1,(g.block b (h.mem.off pid2 _ b (h.mem.rd b hb).1 rfl).2.1).trans (h.mem.rd b hb).2⟩⟩⟩
 ·obtain ⟨v,h1,h2⟩:=h.slots t x hx;exact ⟨v,h1,h2.mono (fun _ _ h=>h) hF⟩
 ·have:=EntOk.sub (sb:=[]) (ρ':=ρ) (F':=F) (w':=w') ⟨fun id b h=>h,fun id L h _ _=>h,fun _ _ _ _ _ _ _ h _ _=>h,fun id rows a c k sz _ hs=>by simp [zZ] at hs,hF⟩ (h.mem.ent id e hl) rfl rfl (fun L b hL hb=>g.block b (h.mem.off id L b hL hb).2.1) (fun j L b hL hb=>g.block b (h.mem.off _ L b hL hb).2.1)
  rwa [Ent.sub_nil] at this
theorem Rel.grow (h:Rel E n σ a w) {w':World} (g:Grow w w'):Rel E n σ a w':=by
 obtain ⟨ρ,F,h⟩:=h; exact ⟨ρ,F,h.grow g⟩
def RCs (M:Mem):RC→Prop
 | .v _=>True
 | .p id _ cells=>∃ hc,qX M id=some (.blk hc)∧mapO (cvOf M) hc=some cells
def RRes (M:Mem):RV→Prop
 | .o id e sz rows=>qX M id=some (.reg e sz rows)
 | .p id _ cells=>∃ hc,qX M id=some (.blk hc)∧mapO (cvOf M) hc=some cells
 | .q id _ _ e sz rows=>qX M id=some (.reg e sz rows)
 | .i id _ s pos=>qX M id=some (.itr s pos)
 | .no id e n=>∃ ie isz rows pd,n=rows.len∧qX M id=some (.nst e ie isz rows pd)
 | .nq id _ _ e ie isz rows pd=>qX M id=some (.nst e ie isz rows pd)
 | .mi id _ e ie isz rows pd=>qX M id=some (.nst e ie isz rows pd)
 | .ld id i=>qX M id=some (.blk [.o i])
 | .g _ _ cap=>∀ c ∈ cap,RCs M c
 | _=>True
theorem qYH {M:Mem} {x:HV} {r:RV} (h:res M x=some r):r.back=x∧RRes M r:=by
 cases x with
 | o id =>
  simp only [res] at h;split at h
  ·rename_i e sz rows hl; cases h; exact ⟨rfl,hl⟩
  ·rename_i e ie isz rows pd hl; cases h; exact ⟨rfl,_,_,_,_,rfl,hl⟩
  ·cases h
 | m id j =>
  simp only [res] at h;split at h
  ·rename_i e ie isz rows pd hl; cases h; exact ⟨rfl,hl⟩
  ·cases h
 | mp id j=>cases h; exact ⟨rfl,trivial⟩
 | p id off =>
  simp only [res] at h;split at h
  ·rename_i cells hl;simp only [vQQ,vQZ] at h;obtain ⟨cs,hcs,rfl⟩:=h;exact ⟨rfl,cells,hl,hcs⟩
  ·rename_i s pos hl; cases h; exact ⟨rfl,hl⟩
  ·cases h
 | q id j off =>
  simp only [res] at h;split at h
  ·rename_i e sz rows hl; cases h; exact ⟨rfl,hl⟩
  ·rename_i e ie isz rows pd hl; cases h; exact ⟨rfl,hl⟩
  ·cases h
 | g fn first cap =>
  simp only [res,vQQ,vQZ] at h;obtain ⟨cs,hcs,rfl⟩:=h;have h1:=zK hcs;refine ⟨?_,fun c hc => ?_⟩
  ·simp only [RV.back]
   congr 1
   refine List.ext_getElem? fun i => ?_
   rw [vQH];cases hi:cap[i]? with
   | none =>
    have:cs[i]? = none:=by rw [List.getElem?_eq_none_iff] at hi ⊢; rw [← h1.1]; exact hi
    rw [this]; rfl
   | some x =>
    obtain ⟨y,hy,hr⟩:=h1.get hi;rw [hy,Option.map_some]
    congr 1
    cases x with
    | v x=>simp only [rcOf,vQZ] at hr; subst hr; rfl
    | p id off =>
     simp only [rcOf] at hr;split at hr
     ·simp only [vQQ,vQZ] at hr; obtain ⟨_,_,rfl⟩:=hr; rfl
     ·cases hr
  ·obtain ⟨i,hi⟩:=List.mem_iff_getElem?.1 hc;have hil:=(List.getElem?_eq_some_iff.1 hi).1;have hcap:i < cap.length:=by rw [h1.1]; exact hil
   have hr:=h1.2 i _ c (vQK hcap) hi;generalize cap[i]=x at hr;cases x with
   | v x=>simp only [rcOf,vQZ] at hr; subst hr; trivial
   | p id off =>
    simp only [rcOf] at hr;split at hr
    ·rename_i cells hl;simp only [vQQ,vQZ] at hr;obtain ⟨cc,hcc,rfl⟩:=hr;exact ⟨cells,hl,hcc⟩
    ·cases hr
 | v x=>cases h; exact ⟨rfl,trivial⟩
 | nl=>cases h; exact ⟨rfl,trivial⟩
 | un=>cases h; exact ⟨rfl,trivial⟩
 | ag cs=>cases h; exact ⟨rfl,trivial⟩
theorem qGZ (M:Mem) (x:HV):(sh x).back=x∧RRes M (sh x):=by cases x <;> exact ⟨rfl,trivial⟩
theorem yYH {m:Nat} {M:Mem} {x:HV} {r:RV} (h:resM m M x=some r):r.back=x∧RRes M r:=by
 match m with
 | 0=>exact qYH h
 | 1=>simp only [resM,vQZ] at h; subst h; exact qGZ M x
 | 2 =>
  cases x with
  | o id=>exact qYH (by simpa only [resM] using h)
  | _=>simp only [resM,vQZ] at h; subst h; exact qGZ M _
 | m + 3 =>
  cases x with
  | p id off =>
   cases off with
   | succ off=>exact qYH (by simpa only [resM] using h)
   | zero =>
    simp only [resM] at h;split at h
    ·rename_i i2 hl; cases h; exact ⟨rfl,hl⟩
    ·exact qYH h
  | _=>exact qYH (by simpa only [resM] using h)
theorem kK {v:Value} {p:PV} (h:qXD v=some p):RP F w p v∧v.oneCell'=true:=by
 unfold qXD at h;split at h <;> first | (cases h; done) | (cases h; exact ⟨by constructor,rfl⟩)
theorem qGU {p:PV} {v:Value} (h:RP F w p v):RH ρ F w p.toH v:=by
 cases p with
 | zs=>cases h; rfl
 | _=>exact h
theorem zJ (h:Rel' E n ρ F σ a w) {m:Nat} {x:Operand} {r:RV} (hx:opv m σ x=some r):∃ v,ev (actS a) x=some v∧RH ρ F w r.back v∧RRes σ.M r:=by
 cases x with
 | tmp t =>
  simp only [opv,vQQ] at hx;obtain ⟨z,hz,hr⟩:=hx;obtain ⟨v,hv,hrh⟩:=h.slots t z hz;obtain ⟨e,hres⟩:=yYH hr;exact ⟨v,jVD hv,by rw [e]; exact hrh,hres⟩
 | const v =>
  refine ⟨v,rfl,?_⟩;simp only [opv] at hx;unfold zVY at hx;split at hx
  ·cases hx; exact ⟨rfl,trivial⟩
  ·rename_i cs;simp only [vQQ,vQZ] at hx;obtain ⟨l,hl,rfl⟩:=hx;have ha:=zK hl;refine ⟨?_,trivial⟩;show RP F w (.a l) (.agg cs)
   have:=RP.a (F:=F) (w:=w) l cs.toList ha.1.symm (fun v hv => ?_) (fun i p v hp hv=>(kK (ha.2 i v p hv hp)).1)
   ·simpa using this
   ·obtain ⟨i,hi⟩:=List.mem_iff_getElem?.1 hv;obtain ⟨y,hy,hr⟩:=ha.get hi;exact (kK (F:=F) (w:=w) hr).2
  ·simp only [vQQ,vQZ] at hx;obtain ⟨y,hy,rfl⟩:=hx;exact ⟨(kK hy).1,trivial⟩
 | func f =>
  simp only [opv,vQZ] at hx;subst hx;exact ⟨.func (.func f) #[] #[],rfl,.f f [] [] [] [] rfl rfl (fun i p v hp=>by simp at hp) (fun i p v hp=>by simp at hp),trivial⟩
 | global g=>cases hx
theorem qVW (h:Rel' E n ρ F σ a w) {m:Nat} {xs:List Operand} {rs:List RV} (hx:mapO (opv m σ) xs=some rs):∃ vs,evs (actS a) xs=some vs∧Al (fun r v=>RH ρ F w r.back v) rs vs∧∀ r ∈ rs,RRes σ.M r:=by
 induction xs generalizing rs with
 | nil=>simp [mapO] at hx; subst hx; exact ⟨[],rfl,Al.nil,fun r hr=>by cases hr⟩
 | cons x xs ih =>
  simp only [mapO,vQQ,vQZ] at hx;obtain ⟨r,hr,rs',hrs,rfl⟩:=hx;obtain ⟨v,h1,h2,h3⟩:=zJ h hr;obtain ⟨vs,h4,h5,h6⟩:=ih hrs;refine ⟨v :: vs,by simp [evs,h1,h4,qKX],Al.cons h2 h5,fun r' hr' => ?_⟩;rcases List.mem_cons.1 hr' with rfl | hr'
  ·exact h3
  ·exact h6 r' hr'
end
end Go.Rx
namespace Go.Rx
open Go.RowKit Go.Sx
theorem qJG {α β:Type} {f:α→Option β} {x:α} {ys:List β} (h:mapO f [x]=some ys):∃ y,f x=some y∧ys=[y]:=by
 simp only [mapO,vQQ,vQZ] at h;obtain ⟨y,hy,zs,rfl,rfl⟩:=h;exact ⟨y,hy,rfl⟩
theorem yQF {α β:Type} {f:α→Option β} {x x':α} {ys:List β} (h:mapO f [x,x']=some ys):∃ y y',f x=some y∧f x'=some y'∧ys=[y,y']:=by
 simp only [mapO,vQQ,vQZ] at h;obtain ⟨y,hy,zs,⟨y',hy',zs',rfl,rfl⟩,rfl⟩:=h;exact ⟨y,y',hy,hy',rfl⟩
theorem kZQ {α β:Type} {f:α→Option β} {x x' x'':α} {ys:List β} (h:mapO f [x,x',x'']=some ys):∃ y y' y'',f x=some y∧f x'=some y'∧f x''=some y''∧ys=[y,y',y'']:=by
 simp only [mapO,vQQ,vQZ] at h;obtain ⟨y,hy,zs,⟨y',hy',zs',⟨y'',hy'',zs'',rfl,rfl⟩,rfl⟩,rfl⟩:=h;exact ⟨y,y',y'',hy,hy',hy'',rfl⟩
theorem qZ {α:Type} {c:Bool} {x:Option α} {y:α} (h:(bif c then x else none)=some y):c=true∧x=some y:=by
 cases c with
 | true=>exact ⟨rfl,h⟩
 | false=>cases h
section
variable {P:Program} {E:Env} {C:Cx} {ρ:Own} {F:Nat→Prop} {σ:St} {a:Act} {w:World} {vs:List RV} {e:Eff}
variable {d:Option Tmp} {ty:TypeId} {pos:String} {af:Array Edge} {g:Option (Nat × Bool)}
theorem zQZ {F:Nat→Prop} {w:World} {n:Nat} {f:Nat→List PV} {v:Value} (h:RP F w (.lf (n + 1) f) v):∃ ad c,v=.slice (some ad) (n + 1) c:=by
 obtain ⟨rows,hr,h1⟩:∃ rows,(List.range (n + 1)).map f=rows∧RP F w (.l rows) v:=by
  cases h with | lf _ _ _ h=>exact ⟨_,rfl,h⟩
 have hl:rows.length=n + 1:=by rw [← hr,List.length_map,List.length_range]
 cases h1 with
 | l0 ad c=>simp at hl
 | l _ b off n' c sz g hn=>exact ⟨_,c,by rw [hn,hl]⟩
def OK (P:Program) (E:Env) (C:Cx) (σ:St) (a:Act) (w:World) (e:Eff) (o:Oper):Prop:=Goes P o a w (fun u w'=>Rel E C.n (σ.apply e o.dst) (a.put o.dst u) w')
theorem jJY {x:Operand} (h:Rel' E C.n ρ F σ a w) (hd:dstB C.n d=true) (hvs:mapO (opv 1 σ) [x]=some vs) (he:qK C.T C.cA C.cB C.me (d.getD 0) (.move x) vs=some e):OK P E C σ a w e ⟨d,.move x,ty,pos,af,g⟩:=by
 obtain ⟨r,hr,rfl⟩:=qJG hvs;obtain ⟨v,h1,h2,h3⟩:=zJ h hr;cases he;exact qH h (yXI h1) h2 hd
theorem yYE {x:Operand} (h:Rel' E C.n ρ F σ a w) (hd:dstB C.n d=true) (hvs:mapO (opv 1 σ) [x]=some vs) (he:qK C.T C.cA C.cB C.me (d.getD 0) (.assign x) vs=some e):OK P E C σ a w e ⟨d,.assign x,ty,pos,af,g⟩:=by
 obtain ⟨r,hr,rfl⟩:=qJG hvs;obtain ⟨v,h1,h2,h3⟩:=zJ h hr;cases he;exact qH h (yQJ h1) h2 hd
theorem qZI {x:Bool} {v:Value} (h:RP F w (.b x) v):v=.bool x:=by cases h; rfl
theorem kZ {k:IntKind} {x:Int} {v:Value} (h:RP F w (.n k x) v):v=.int k x:=by cases h; rfl
theorem qJA {x:ByteArray} {v:Value} (h:RP F w (.s x) v):v=.string x:=by cases h; rfl
theorem qKF {cs:List PV} {v:Value} (h:RP F w (.a cs) v):∃ vs:List Value,v=.agg vs.toArray∧Al (RP F w) cs vs∧∀ u ∈ vs,u.oneCell'=true:=by
 cases h with
 | a _ vs hl h1 h=>exact ⟨vs,rfl,⟨hl,h⟩,h1⟩
theorem jXQ {cs:List PV} {v:Value} (h:RP F w (.t cs) v):∃ vs:List Value,v=.tuple vs.toArray∧Al (RP F w) cs vs:=by
 cases h with
 | t _ vs hl h=>exact ⟨vs,rfl,hl,h⟩
theorem jJQ {c x y:Operand} (h:Rel' E C.n ρ F σ a w) (hd:dstB C.n d=true) (hvs:mapO (opv 1 σ) [c,x,y]=some vs) (he:qK C.T C.cA C.cB C.me (d.getD 0) (.pick c x y) vs=some e):OK P E C σ a w e ⟨d,.pick c x y,ty,pos,af,g⟩:=by
 obtain ⟨rc,rx,ry,hc,hx,hy,rfl⟩:=kZQ hvs;obtain ⟨vc,c1,c2,_⟩:=zJ h hc;obtain ⟨vx,x1,x2,_⟩:=zJ h hx;obtain ⟨vy,y1,y2,_⟩:=zJ h hy;cases rc with
 | v p =>
  cases p with
  | b t =>
   cases he;rw [qZI c2] at c1;cases t with
   | true=>exact qH h (yQZ c1 rfl x1 y1) x2 hd
   | false=>exact qH h (yQY c1 rfl x1 y1) y2 hd
  | _=>cases he
 | _=>cases he
theorem jXA {t:TypeId} {x:Operand} (h:Rel' E C.n ρ F σ a w) (hd:dstB C.n d=true) (hvs:mapO (opv 0 σ) [x]=some vs) (he:qK C.T C.cA C.cB C.me (d.getD 0) (.unOp .not t x) vs=some e):OK P E C σ a w e ⟨d,.unOp .not t x,ty,pos,af,g⟩:=by
 obtain ⟨r,hr,rfl⟩:=qJG hvs;obtain ⟨v,h1,h2,h3⟩:=zJ h hr;cases r with
 | v p =>
  cases p with
  | b b =>
   cases he;rw [qZI h2] at h1;exact qH h (jYU h1) (.b _) hd
  | _=>cases he
 | _=>cases he
theorem jXC {t:TypeId} {x:Operand} (h:Rel' E C.n ρ F σ a w) (hd:dstB C.n d=true) (hvs:mapO (opv 0 σ) [x]=some vs) (he:qK C.T C.cA C.cB C.me (d.getD 0) (.unOp .neg t x) vs=some e):OK P E C σ a w e ⟨d,.unOp .neg t x,ty,pos,af,g⟩:=by
 obtain ⟨r,hr,rfl⟩:=qJG hvs;obtain ⟨v,h1,h2,h3⟩:=zJ h hr;cases r with
 | v p =>
  cases p with
  | n k b =>
   cases he;rw [kZ h2] at h1;exact qH h (jYW h1 rfl) (.n _ _) hd
  | _=>cases he
 | _=>cases he
theorem yXF {S:zW} {H:Heap} {w0:Base} {x y:Operand} {t t':TypeId} {p q:Bool} (hb:P.underlying t=some .bool) (hx:ev S x=some (.bool p)) (hy:ev S y=some (.bool q)):OpV P w0 S H ⟨d,.binOp .neq t x y t',ty,pos,af,g⟩ (.bool (!(p == q))) :=
 zG (by simp [zV,Op.operands,hx,hy]) rfl fun w _=>by
  have:=run_neq_bool (P:=P) (w:=w) t p q hb
  simp [execOp,qV hx,qV hy,eqGuard,this]
theorem yXE {S:zW} {H:Heap} {w0:Base} {x y:Operand} {t t':TypeId} {p q:ByteArray} (_:P.underlying t=some .string) (hx:ev S x=some (.string p)) (hy:ev S y=some (.string q)):OpV P w0 S H ⟨d,.binOp .neq t x y t',ty,pos,af,g⟩ (.bool (!(p.toList == q.toList))) :=
 zG (by simp [zV,Op.operands,hx,hy]) rfl fun w _=>by simp [execOp,qV hx,qV hy,eqGuard,binOp,Op.stringOp]
theorem qXH {S:zW} {H:Heap} {w0:Base} {x y:Operand} {t t' el:TypeId} {ad:Option Addr} {n c:Nat} {op:BinOp} {r:Bool} (hu:P.underlying t=some (.slice el)) (hx:ev S x=some (.slice ad n c)) (hy:ev S y=some (.slice none 0 0)) (hop:(op=.eql∧r=ad.isNone) ∨ (op=.neq∧r = !ad.isNone)) :
  OpV P w0 S H ⟨d,.binOp op t x y t',ty,pos,af,g⟩ (.bool r) :=
 zG (by simp [zV,Op.operands,hx,hy]) rfl fun w _=>by
  rcases hop with ⟨rfl,rfl⟩ | ⟨rfl,rfl⟩
  ·have:=run_equal_slice_nil (P:=P) w t el ad n c hu
   simp [execOp,qV hx,qV hy,eqGuard,binOp,this]
  ·have:=run_neq_slice_nil (P:=P) w t el ad n c hu
   simp [execOp,qV hx,qV hy,eqGuard,this]
theorem yUH {op:BinOp} {k:IntKind} {x y:Int} {r:PV} {S:zW} {H:Heap} {w0:Base} {p q:Operand} {t t':TypeId} (hr:binI op k x y=some r) (hx:ev S p=some (.int k x)) (hy:ev S q=some (.int k y)) :
  ∃ v,OpV P w0 S H ⟨d,.binOp op t p q t',ty,pos,af,g⟩ v∧RP F w r v:=by
 cases op <;> first | (cases hr; done) | skip
 all_goals first
  | (cases hr; exact ⟨_,jYI hx hy rfl,.n _ _⟩)
  | (cases hr; exact ⟨_,jYQ hx hy rfl,.n _ _⟩)
  | (cases hr; exact ⟨_,jYG hx hy rfl,.n _ _⟩)
  | (cases hr; exact ⟨_,jYF hx hy rfl,.n _ _⟩)
  | (cases hr; exact ⟨_,jYH hx hy,.b _⟩)
  | (cases hr; exact ⟨_,jYA hx hy,.b _⟩)
  | (cases hr; exact ⟨_,jYB hx hy,.b _⟩)
  | (cases hr; exact ⟨_,jYC hx hy,.b _⟩)
  | (cases hr; exact ⟨_,jYD hx hy,.b _⟩)
  | (cases hr; exact ⟨_,jYX hx hy,.b _⟩)
  | (simp only [binI] at hr
     cases hz:decide (y=0) with
     | true=>rw [hz] at hr; cases hr
     | false =>
      rw [hz] at hr; cases hr
      have:y ≠ 0:=vYU hz
      first | exact ⟨_,jYK hx hy this rfl,.n _ _⟩ | exact ⟨_,jYJ hx hy this rfl,.n _ _⟩)
theorem qKW {F:Nat→Prop} {w:World} {ks:List Kd}:∀ {xs ys:List PV} {us vs:List Value} {e:Bool},qHK xs ys=some e→Al (RP F w) xs us→Al (RP F w) ys vs→eqCells us vs=e
 | [],[],us,vs,e,h,hx,hy=>by rw [hx.nil_left,hy.nil_left]; cases h; rfl
 | x :: xs,y :: ys,us,vs,e,h,hx,hy=>by
  simp only [qHK,vQQ,vQZ] at h;obtain ⟨e1,h1,e2,h2,rfl⟩:=h;obtain ⟨u,us',rfl,hu,hx'⟩:=hx.cons_left;obtain ⟨v,vs',rfl,hv,hy'⟩:=hy.cons_left;simp only [eqCells,qKW (ks:=ks) h2 hx' hy']
  congr 1
  cases x <;> cases y <;> first | (cases h1; done) | skip
  ·rw [kZ hu,kZ hv]; cases h1; rfl
  ·rw [qZI hu,qZI hv]; cases h1; rfl
  ·rw [qJA hu,qJA hv]; cases h1; rfl
 | [],_ :: _,_,_,_,h,_,_=>by cases h
 | _ :: _,[],_,_,_,h,_,_=>by cases h
theorem jWH {op:BinOp} {t t':TypeId} {x y:Operand} (hT:TabOk P C.T) (h:Rel' E C.n ρ F σ a w) (hd:dstB C.n d=true) (hvs:mapO (opv 0 σ) [x,y]=some vs) (he:qK C.T C.cA C.cB C.me (d.getD 0) (.binOp op t x y t') vs=some e):OK P E C σ a w e ⟨d,.binOp op t x y t',ty,pos,af,g⟩:=by
 obtain ⟨rx,ry,hx,hy,rfl⟩:=yQF hvs;obtain ⟨vx,x1,x2,_⟩:=zJ h hx;obtain ⟨vy,y1,y2,_⟩:=zJ h hy;cases rx with
 | v p =>
  cases ry with
  | v q =>
   have he:((binP C.T op t p q).bind fun r=>some (Eff.val (.v r)))=some e:=he;simp only [vQQ,vQZ] at he;obtain ⟨r,hr,rfl⟩:=he;have x2:RP F w p vx:=x2;have y2:RP F w q vy:=y2
   suffices hs:∃ v,OpV P ⟨w,[]⟩ (actS a) [] ⟨d,.binOp op t x y t',ty,pos,af,g⟩ v∧RP F w r v by
    obtain ⟨v,h1,h2⟩:=hs;exact qH h h1 h2 hd
   unfold binP at hr;split at hr
   ·obtain ⟨hb,hr⟩:=qZ hr;cases hr;rw [kZ x2] at x1; rw [kZ y2] at y1;exact ⟨_,jYY x1 y1 (vYK hb) rfl,.n _ _⟩
   ·obtain ⟨hb,hr⟩:=qZ hr;cases hr;rw [kZ x2] at x1; rw [kZ y2] at y1;exact ⟨_,jYZ x1 y1 (vYK hb) rfl,.n _ _⟩
   ·obtain ⟨hb,hr2⟩:=qZ hr
    have:=vYK hb
    subst this;rw [kZ x2] at x1; rw [kZ y2] at y1;exact yUH hr2 x1 y1
   ·obtain ⟨hb,hr⟩:=qZ hr;cases hr;rw [qJA x2] at x1; rw [qJA y2] at y1;exact ⟨_,yWY (hT.str t hb) x1 y1,.b _⟩
   ·obtain ⟨hb,hr⟩:=qZ hr;cases hr;rw [qJA x2] at x1; rw [qJA y2] at y1;exact ⟨_,yXE (hT.str t hb) x1 y1,.b _⟩
   ·obtain ⟨hb,hr⟩:=qZ hr;cases hr;rw [qZI x2] at x1; rw [qZI y2] at y1;exact ⟨_,yWJ (hT.bo t hb) x1 y1,.b _⟩
   ·obtain ⟨hb,hr⟩:=qZ hr;cases hr;rw [qZI x2] at x1; rw [qZI y2] at y1;exact ⟨_,yXF (hT.bo t hb) x1 y1,.b _⟩
   ·simp only [vQQ] at hr;obtain ⟨ks,hks,hr⟩:=hr;obtain ⟨hb,hr⟩:=qZ hr;simp only [vQQ,vQZ] at hr;obtain ⟨b,hb2,rfl⟩:=hr;rw [vQJ] at hb;obtain ⟨us,rfl,hu,_⟩:=qKF x2;obtain ⟨ws,rfl,hw,_⟩:=qKF y2;obtain ⟨hag,hce⟩:=hT.eqK t ks hks;refine ⟨_,jYE 12 rfl hag x1 y1 (hce us ⟨_,F,w,hb.1,hu⟩) (hce ws ⟨_,F,w,hb.2,hw⟩),?_⟩;rw [qKW (ks:=ks) hb2 hu hw]; exact .b _
   ·simp only [vQQ] at hr;obtain ⟨ks,hks,hr⟩:=hr;obtain ⟨hb,hr⟩:=qZ hr;simp only [vQQ,vQZ] at hr;obtain ⟨b,hb2,rfl⟩:=hr;rw [vQJ] at hb;obtain ⟨us,rfl,hu,_⟩:=qKF x2;obtain ⟨ws,rfl,hw,_⟩:=qKF y2;obtain ⟨hag,hce⟩:=hT.eqK t ks hks;refine ⟨_,jYV 12 rfl hag x1 y1 (hce us ⟨_,F,w,hb.1,hu⟩) (hce ws ⟨_,F,w,hb.2,hw⟩),?_⟩;rw [qKW (ks:=ks) hb2 hu hw]; exact .b _
   ·cases hr
  | nl =>
   simp only [qK,vQQ,vQZ] at he;obtain ⟨⟨el,sz⟩,hsl,r,hr,rfl⟩:=he;obtain ⟨hslc,_⟩:=hT.sl t el sz hsl;have hu:P.underlying t=some (.slice el):=by
    unfold slcB at hslc;split at hslc
    ·rename_i e' hu;rw [vQJ] at hslc
     have:e'=el:=by simpa using hslc.1
     rw [hu,this]
    ·cases hslc
   have y2:vy=.slice none 0 0:=y2;subst y2;have x2:RP F w p vx:=x2;unfold yHH at hr;split at hr
   ·cases hr;cases x2 with
    | l=>exact qH h (qXH hu x1 y1 (.inl ⟨rfl,rfl⟩)) (RP.b _) hd
   ·cases hr;cases x2 with
    | l=>exact qH h (qXH hu x1 y1 (.inr ⟨rfl,rfl⟩)) (RP.b _) hd
   ·cases hr;cases x2 with
    | nz=>exact qH h (qXH hu x1 y1 (.inl ⟨rfl,rfl⟩)) (RP.b _) hd
   ·cases hr;cases x2 with
    | ne=>exact qH h (qXH hu x1 y1 (.inl ⟨rfl,rfl⟩)) (RP.b _) hd
   ·cases hr;obtain ⟨ad,c,rfl⟩:=zQZ x2;exact qH h (qXH hu x1 y1 (.inl ⟨rfl,rfl⟩)) (RP.b _) hd
   ·cases hr;obtain ⟨ad,c,rfl⟩:=zQZ x2;exact qH h (qXH hu x1 y1 (.inr ⟨rfl,rfl⟩)) (RP.b _) hd
   ·cases hr
  | _=>cases he
 | _=>cases he
end
end Go.Rx
namespace Go.Sx
open Go.RowKit
theorem zXX {ys rest vs:List Value} {p s:Nat} (h:p + s≤ys.length) (_:vs.length=s):((ys ++ rest).take p ++ vs ++ (ys ++ rest).drop (p + s)).take ys.length=ys.take p ++ vs ++ ys.drop (p + s):=by
 have e1:(ys ++ rest).take p=ys.take p:=List.take_append_of_le_length (by omega);have e2:(ys ++ rest).drop (p + s)=ys.drop (p + s) ++ rest:=List.drop_append_of_le_length h;have hl:(ys.take p ++ vs ++ ys.drop (p + s)).length=ys.length:=by simp; omega
 rw [e1,e2,← List.append_assoc,← hl,List.take_left]
section
variable {P:Program} {n:Nat} {w0:Base} {ops:Array Oper} {Q:Exit→Act→World→Prop} {S:zW} {H:Heap}
variable {ty:TypeId} {pos:String} {af:Array Edge} {g:Option (Nat × Bool)} {rest:List Oper}
end
end Go.Sx
namespace Go.Rx
open Go.RowKit Go.Sx
theorem zHX {α:Type} {cs:List α} {k:Nat} {vs:List α} (h:zHW cs k=some vs):vs=cs.take k∧k≤cs.length:=by
 induction k generalizing cs vs with
 | zero=>simp [zHW] at h; simp [h]
 | succ k ih =>
  cases cs with
  | nil=>simp [zHW] at h
  | cons c cs =>
   simp only [zHW,vQQ,vQZ] at h;obtain ⟨ws,hw,rfl⟩:=h;obtain ⟨e,hl⟩:=ih hw;simp [← e,hl]
theorem qZJ {α:Type} {cs:List α} {off k:Nat} {vs:List α} (h:qZC cs off k=some vs):vs=(cs.drop off).take k∧off + k≤cs.length:=by
 induction off generalizing cs with
 | zero =>
  have:=zHX (by simpa [qZC] using h)
  simpa using this
 | succ off ih =>
  cases cs with
  | nil=>simp [qZC] at h
  | cons c cs =>
   have:=ih (by simpa [qZC] using h)
   simp [this.1]; omega
theorem qJJ {α:Type} {cs:List α} {off:Nat} {vs cs':List α} (h:uQ cs off vs=some cs') :
  cs'=cs.take off ++ vs ++ cs.drop (off + vs.length)∧off + vs.length≤cs.length:=by
 induction cs generalizing off vs cs' with
 | nil =>
  cases off with
  | zero=>cases vs with
   | nil=>simp [uQ] at h; simp [h]
   | cons v vs=>simp [uQ] at h
  | succ off=>simp [uQ] at h
 | cons c cs ih =>
  cases off with
  | zero=>cases vs with
   | nil=>simp [uQ] at h; simp [h]
   | cons v vs =>
    simp only [uQ,vQQ,vQZ] at h;obtain ⟨ws,hw,rfl⟩:=h;obtain ⟨e,hl⟩:=ih hw;simp at e hl ⊢;exact ⟨e,hl⟩
  | succ off =>
   simp only [uQ,vQQ,vQZ] at h;obtain ⟨ws,hw,rfl⟩:=h;obtain ⟨e,hl⟩:=ih hw;simp [e,show off + 1 + vs.length=(off + vs.length) + 1 by omega]; omega
section
variable {P:Program} {E:Env} {C:Cx} {ρ:Own} {F:Nat→Prop} {σ:St} {a:Act} {w:World} {vs:List RV} {e:Eff}
variable {d:Option Tmp} {ty:TypeId} {pos:String} {af:Array Edge} {g:Option (Nat × Bool)}
theorem rp_z {rows:List (List PV)} {j o:Nat} {v:Value} (h:RP F w (.z rows j o) v):∃ (b off sz:Nat) (g:Nat→Nat→Value),v=.pointer (some ⟨b,off + (j * sz + o),none⟩)∧(∀ r ∈ rows,r.length=sz)∧F b ∧
  (∀ j t,j < rows.length→t < sz→w.cell? ⟨b,off + (j * sz + t),none⟩=some (g j t)∧(g j t).oneCell'=true)∧(∀ (j:Nat) r (t:Nat) p,rows[j]? = some r→r[t]? = some p→RP F w p (g j t)):=by
 cases h with
 | z _ b off sz _ _ g hs hF hc h=>exact ⟨b,off,sz,g,rfl,hs,hF,hc,h⟩
theorem rp_c {cells:List PV} {o:Nat} {v:Value} (h:RP F w (.c cells o) v):∃ b ty vs,v=.pointer (some ⟨b,o,none⟩)∧F b∧w.heap[b]? = some (.cells vs.toArray ty)∧Al (RP F w) cells vs∧∀ u ∈ vs,u.oneCell'=true:=by
 cases h with
 | c _ vs b _ ty hF hb hl h1 h=>exact ⟨b,ty,vs,rfl,hF,hb,⟨hl,h⟩,h1⟩
theorem qJE {rows:List (List PV)} {b off sz:Nat} {g:Nat→Nat→Value} (hs:∀ r ∈ rows,r.length=sz) (hF:F b)
  (hc:∀ j t,j < rows.length→t < sz→w.cell? ⟨b,off + (j * sz + t),none⟩=some (g j t)∧(g j t).oneCell'=true) (h:∀ (j:Nat) r (t:Nat) p,rows[j]? = some r→r[t]? = some p→RP F w p (g j t))
  {j o x:Nat} (hx:x=off + (j * sz + o)):RP F w (.z rows j o) (.pointer (some ⟨b,x,none⟩)):=by
 subst hx; exact .z rows b off sz j o g hs hF hc h
theorem zJD {n:Nat} {f:Nat→List PV} {v:Value} (h:RP F w (.lf n f) v):RP F w (.l ((List.range n).map f)) v:=by
 cases h with
 | lf _ _ _ h=>exact h
theorem zXC {n:Nat} {f:Nat→List PV} {j o:Nat} {v:Value} (h:RP F w (.zf n f j o) v):j < n∧∃ (b off sz:Nat) (g:Nat→Nat→Value),v=.pointer (some ⟨b,off + (j * sz + o),none⟩)∧(∀ r ∈ (List.range n).map f,r.length=sz)∧F b ∧
  (∀ j t,j < ((List.range n).map f).length→t < sz→w.cell? ⟨b,off + (j * sz + t),none⟩=some (g j t)∧(g j t).oneCell'=true)∧∀ (j:Nat) r (t:Nat) p,((List.range n).map f)[j]? = some r→r[t]? = some p→RP F w p (g j t):=by
 cases h with
 | zf _ _ _ _ _ hj h=>exact ⟨hj,rp_z h⟩
theorem yXD {S:zW} {H:Heap} {w0:Base} {x:Operand} {ad:Addr} (hx:ev S x=some (.pointer (some ad))):OpV P w0 S H ⟨d,.nilCheck x,ty,pos,af,g⟩ (.pointer (some ad)):=zKV hx
theorem jXB {x:Operand} (h:Rel' E C.n ρ F σ a w) (hd:dstB C.n d=true) (hvs:mapO (opv 1 σ) [x]=some vs) (he:qK C.T C.cA C.cB C.me (d.getD 0) (.nilCheck x) vs=some e):OK P E C σ a w e ⟨d,.nilCheck x,ty,pos,af,g⟩:=by
 obtain ⟨r,hr,rfl⟩:=qJG hvs;obtain ⟨v,h1,h2,h3⟩:=zJ h hr
 suffices hs:∃ ad,v=.pointer (some ad)∧e=.val r.back by
  obtain ⟨ad,rfl,rfl⟩:=hs;exact qH h (yXD h1) h2 hd
 cases r with
 | v p =>
  cases p with
  | z rows j o=>cases he; obtain ⟨b,off,sz,g,rfl,_⟩:=rp_z h2; exact ⟨_,rfl,rfl⟩
  | c cells o=>cases he; obtain ⟨b,ty,vs,rfl,_⟩:=rp_c h2; exact ⟨_,rfl,rfl⟩
  | zf n f j o=>cases he; obtain ⟨_,b,off,sz,g,rfl,_⟩:=zXC h2; exact ⟨_,rfl,rfl⟩
  | _=>cases he
 | w x =>
  cases x with
  | p id off=>cases he; obtain ⟨b,_,rfl⟩:=h2; exact ⟨_,rfl,rfl⟩
  | q id j off=>cases he; obtain ⟨b,c,k,sz,_,_,rfl⟩:=h2; exact ⟨_,rfl,rfl⟩
  | _=>cases he
 | _=>cases he
theorem zUQ {t:TypeId} {f:Nat} {x:Operand} (hT:TabOk P C.T) (h:Rel' E C.n ρ F σ a w) (hd:dstB C.n d=true) (hvs:mapO (opv 1 σ) [x]=some vs) (he:qK C.T C.cA C.cB C.me (d.getD 0) (.fieldAddr t x f) vs=some e):OK P E C σ a w e ⟨d,.fieldAddr t x f,ty,pos,af,g⟩:=by
 obtain ⟨r,hr,rfl⟩:=qJG hvs;obtain ⟨v,h1,h2,h3⟩:=zJ h hr;cases hf:C.T.fd t f with
 | none=>simp only [qK,hf] at he; cases he
 | some o =>
  have hF:=hT.fd t f o hf;cases r with
  | v p =>
   cases p with
   | z rows j off =>
    simp only [qK,hf] at he; cases he;obtain ⟨b,off0,sz,g,rfl,q1,q2,q3,q4⟩:=rp_z h2;exact qH h (qQX hF h1) (qJE q1 q2 q3 q4 (by omega)) hd
   | c cells off =>
    simp only [qK,hf] at he; cases he;obtain ⟨b,ty',vs,rfl,q1,q2,q3,q4⟩:=rp_c h2;exact qH h (qQX hF h1) (RP.c cells vs b _ ty' q1 q2 q3.1 q4 q3.2) hd
   | zf n f j off =>
    simp only [qK,hf] at he; cases he;obtain ⟨hj,b,off0,sz,g,rfl,q1,q2,q3,q4⟩:=zXC h2;exact qH h (qQX hF h1) (RP.zf _ _ _ _ _ hj (qJE q1 q2 q3 q4 (by omega))) hd
   | _=>simp only [qK,hf] at he; cases he
  | w x =>
   cases x with
   | p id off=>simp only [qK,hf] at he; cases he; obtain ⟨b,q,rfl⟩:=h2; exact qH h (qQX hF h1) ⟨b,q,rfl⟩ hd
   | q id j off=>simp only [qK,hf] at he; cases he; obtain ⟨b,c,k,sz,q,hj,rfl⟩:=h2; exact qH h (qQX hF h1) ⟨b,c,k,sz,q,hj,by rw [Nat.add_assoc]⟩ hd
   | _=>simp only [qK,hf] at he; cases he
  | _=>simp only [qK,hf] at he; cases he
theorem qYC {i:Int} {n:Nat} (h:inB i n=true):0≤i∧i < n:=by
 simp only [inB,vQJ,decide_eq_true_eq] at h; omega
theorem zKL {t:TypeId} {x y:Operand} (hT:TabOk P C.T) (h:Rel' E C.n ρ F σ a w) (hd:dstB C.n d=true) (hvs:mapO (opv 2 σ) [x,y]=some vs) (he:qK C.T C.cA C.cB C.me (d.getD 0) (.indexAddr t x y) vs=some e):OK P E C σ a w e ⟨d,.indexAddr t x y,ty,pos,af,g⟩:=by
 obtain ⟨rx,ry,hx,hy,rfl⟩:=yQF hvs;obtain ⟨vx,x1,x2,x3⟩:=zJ h hx;obtain ⟨vy,y1,y2,_⟩:=zJ h hy;cases ry with
 | v py =>
  cases py with
  | n k i =>
   rw [kZ y2] at y1;have arr:∀ {b off len size:Nat} {x':HV},vx=.pointer (some ⟨b,off,none⟩)→arrB P t len size=true→inB i len=true→e=.val x'→RH ρ F w x' (.pointer (some ⟨b,off + i.toNat * size,none⟩))→OK P E C σ a w e ⟨d,.indexAddr t x y,ty,pos,af,g⟩:=by
    intro b off len size x' hv hA hi he hr;subst hv; subst he;obtain ⟨i0,i1⟩:=qYC hi;exact qH h (zZD hA x1 y1 i0 i1) hr hd
   cases rx with
   | v p =>
    cases p with
    | c cells off =>
     simp only [qK,vQQ] at he;obtain ⟨kk,hk,he⟩:=he;obtain ⟨hi,he⟩:=qZ he;cases he;obtain ⟨b,ty',vs,hv,q1,q2,q3,q4⟩:=rp_c x2;exact arr hv (hT.ar t kk.1 kk.2.1 kk.2.2 hk).1 hi rfl (RP.c cells vs b _ ty' q1 q2 q3.1 q4 q3.2)
    | z rows j off =>
     simp only [qK,vQQ] at he;obtain ⟨kk,hk,he⟩:=he;obtain ⟨hi,he⟩:=qZ he;cases he;obtain ⟨b,off0,sz,g,hv,q1,q2,q3,q4⟩:=rp_z x2;exact arr hv (hT.ar t kk.1 kk.2.1 kk.2.2 hk).1 hi rfl (qJE q1 q2 q3 q4 (by omega))
    | zf n f j off =>
     simp only [qK,vQQ] at he;obtain ⟨kk,hk,he⟩:=he;obtain ⟨hi,he⟩:=qZ he;cases he;obtain ⟨hj,b,off0,sz,g,hv,q1,q2,q3,q4⟩:=zXC x2;exact arr hv (hT.ar t kk.1 kk.2.1 kk.2.2 hk).1 hi rfl (RP.zf _ _ _ _ _ hj (qJE q1 q2 q3 q4 (by omega)))
    | lf n f =>
     simp only [qK,vQQ] at he;obtain ⟨kk,hk,he⟩:=he;obtain ⟨hi,he⟩:=qZ he;cases he;rw [vQJ] at hi;obtain ⟨i0,i1⟩:=qYC hi.1;have hl:=vQU hi.2;have hr:((List.range n).map f)[i.toNat]? = some (f i.toNat):=by
      rw [vQH,List.getElem?_range (by omega)]; rfl
     have x3:=zJD x2;have hz:∀ v,RP F w (.z ((List.range n).map f) i.toNat 0) v→RP F w (.zf n f i.toNat 0) v:=fun v hv=>.zf _ _ _ _ _ (by omega) hv
     generalize (List.range n).map f=rows at hr x3 hz;have hlt:=(List.getElem?_eq_some_iff.1 hr).1;cases x3 with
     | l0=>simp at hr
     | l _ b off n c sz g hn hcap hs hF hc hh =>
      have hsz:sz=kk.2:=by rw [← hs _ (vQW hr)]; exact hl
      subst hn;refine qH h (qQA (hT.sl t kk.1 kk.2 hk).1 x1 y1 i0 (by omega)) (hz _ (qJE hs hF (fun j t hj ht=>hc j t hj ht) hh (by rw [hsz]; omega))) hd
    | l rows =>
     simp only [qK,vQQ] at he;obtain ⟨kk,hk,r,hr,he⟩:=he;obtain ⟨hi,he⟩:=qZ he;cases he;simp only [vQJ,decide_eq_true_eq] at hi;obtain ⟨i0,hl⟩:=hi;have hl:=vQU hl;have hlt:=(List.getElem?_eq_some_iff.1 hr).1;cases x2 with
     | l0=>simp at hr
     | l _ b off n c sz g hn hcap hs hF hc hh =>
      have hsz:sz=kk.2:=by rw [← hs r (vQW hr)]; exact hl
      subst hn;refine qH h (qQA (hT.sl t kk.1 kk.2 hk).1 x1 y1 i0 (by omega)) (qJE hs hF (fun j t hj ht=>hc j t hj ht) hh (by rw [hsz]; omega)) hd
    | _=>simp only [qK] at he; cases he
   | no id e' n =>
    simp only [qK,vQQ] at he;obtain ⟨kk,hk,he⟩:=he;obtain ⟨hi,he⟩:=qZ he;cases he;rw [vQJ] at hi;obtain ⟨i0,i1⟩:=qYC hi.1;have hsz:=vQU hi.2;obtain ⟨ad,c,k',sz',hρ,rfl⟩:=x2;obtain ⟨ie,isz,rows,pd,rfl,hl⟩:=x3;obtain ⟨ad2,c2,H,hρ2,h0,hown,_⟩:=h.mem.ent id _ hl;rw [hρ] at hρ2;simp only [vQZ,Loc.reg.injEq] at hρ2;obtain ⟨rfl,rfl,rfl,rfl⟩:=hρ2;rcases hown.2 with ⟨hnil,h00⟩ | ⟨gg,cap,cur,hsl,_⟩
    ·omega
    ·simp only [Value.slice.injEq] at hsl;obtain ⟨rfl,_,rfl⟩:=hsl;refine qH h (qQA (hT.sl t kk.1 kk.2 hk).1 x1 y1 i0 i1) ⟨gg,c,rows.len,1,hρ,by omega,by rw [Nat.zero_add,Nat.add_zero,hsz]⟩ hd
   | o id e' sz rows =>
    simp only [qK,vQQ] at he;obtain ⟨kk,hk,he⟩:=he;obtain ⟨hi,he⟩:=qZ he;cases he;rw [vQJ] at hi;obtain ⟨i0,i1⟩:=qYC hi.1;have hsz:=vQU hi.2;obtain ⟨ad,c,k',sz',hρ,rfl⟩:=x2;obtain ⟨ad2,c2,vr,hρ2,h0,hal,hrl,hone,hown⟩:=h.mem.ent id _ x3;rw [hρ] at hρ2;simp only [vQZ,Loc.reg.injEq] at hρ2;obtain ⟨rfl,rfl,rfl,rfl⟩:=hρ2;rcases hown.2 with ⟨hnil,h00⟩ | ⟨gg,cap,cur,hsl,_⟩
    ·omega
    ·simp only [Value.slice.injEq] at hsl;obtain ⟨rfl,_,rfl⟩:=hsl;refine qH h (qQA (hT.sl t kk.1 kk.2 hk).1 x1 y1 i0 i1) ⟨gg,c,rows.len,sz',hρ,by omega,by rw [Nat.zero_add,Nat.add_zero,hsz]⟩ hd
   | w xx =>
    cases xx with
    | p id off =>
     simp only [qK,vQQ] at he;obtain ⟨kk,hk,he⟩:=he;obtain ⟨hi,he⟩:=qZ he;cases he;obtain ⟨b,q,hv⟩:=x2;exact arr hv (hT.ar t kk.1 kk.2.1 kk.2.2 hk).1 hi rfl ⟨b,q,rfl⟩
    | q id j off =>
     simp only [qK,vQQ] at he;obtain ⟨kk,hk,he⟩:=he;obtain ⟨hi,he⟩:=qZ he;cases he;obtain ⟨b,c,k',sz,q,hj,hv⟩:=x2;exact arr hv (hT.ar t kk.1 kk.2.1 kk.2.2 hk).1 hi rfl ⟨b,c,k',sz,q,hj,by rw [Nat.add_assoc]⟩
    | _=>simp only [qK] at he; cases he
   | _=>simp only [qK] at he; cases he
  | _=>cases rx <;> (simp only [qK] at he; cases he)
 | _=>cases rx <;> (simp only [qK] at he; cases he)
theorem yQC {x:Operand} {i:Nat} (h:Rel' E C.n ρ F σ a w) (hd:dstB C.n d=true) (hvs:mapO (opv 0 σ) [x]=some vs) (he:qK C.T C.cA C.cB C.me (d.getD 0) (.extract x i) vs=some e):OK P E C σ a w e ⟨d,.extract x i,ty,pos,af,g⟩:=by
 obtain ⟨r,hr,rfl⟩:=qJG hvs;obtain ⟨v,h1,h2,h3⟩:=zJ h hr;cases r with
 | v p =>
  cases p with
  | t cs =>
   simp only [qK,vQQ] at he;obtain ⟨c,hc,he⟩:=he;cases he;obtain ⟨us,rfl,hu⟩:=jXQ h2;obtain ⟨u,hu1,hu2⟩:=hu.get hc;exact qH h (zXL h1 (by simpa using hu1)) (qGU hu2) hd
  | _=>simp only [qK] at he; cases he
 | _=>simp only [qK] at he; cases he
end
end Go.Rx

/- Part 14 of the texts behind the last one: rules and contracts. No condition. -/
import Derived.Test.YtklmegnpfhiibaaGreatBK13
open Option renaming bind_eq_some_iff → vQQ, map_eq_some_iff → vZK
open Option.some renaming injEq → vQZ
open Bool renaming and_eq_true → vQJ
open List renaming mem_cons_of_mem → vQV, mem_cons_self → vQG, getElem?_map → vQH
open Nat renaming eq_of_beq_eq_true → vQU
open Classical renaming propDecidable → vYQ
namespace Go.Rx
open Go.RowKit Go.Sx
section
variable {P:Program} {E:Env} {n:Nat} {C:Cx} {ρ:Own} {F:Nat→Prop} {σ:St} {a:Act} {w:World}
theorem put_same {t:Nat} {v:Value} (h:a.tmps[t]? = some v):a.put (some t) v=a:=by
 have:a.tmps.setIfInBounds t v=a.tmps:=by
  refine Array.ext_getElem? fun i => ?_
  rw [Array.getElem?_setIfInBounds];split
  ·rename_i e;subst e;have hl:=(Array.getElem?_eq_some_iff.1 h).1;rw [if_pos hl,h]
  ·rfl
 simp [Act.put,this]
theorem dst_of (h:Rel' E n ρ F σ a w) {t:Nat} {v:Value} (hv:a.tmps[t]? = some v):dstB n (some t)=true:=by
 have hl:=(Array.getElem?_eq_some_iff.1 hv).1;rw [h.size] at hl
 simpa [dstB] using hl
theorem Rel'.tell (h:Rel' E n ρ F σ a w) {t:Nat} (ht:kH σ.S t=some .nl):Rel' E n ρ F (σ.apply (.val (.v (.l []))) (some t)) a w:=by
 obtain ⟨v,hv,hr⟩:=h.slots t _ ht;have hr':v=.slice none 0 0:=hr;subst hr'
 have:=h.val (Grow.refl w) (fun _ h=>h) (fun _ h=>.inl h) (x:=.v (.l [])) (v:=.slice none 0 0) (RP.l0 _ _) (dst_of h hv)
 rwa [put_same hv] at this
theorem qGB:∀ (l:List Nat) {σ:St},Rel E C.n σ a w→Rel E C.n (frzL l σ) a w
 | [],σ,h=>h
 | t :: l,σ,h=>by
  simp only [frzL];split
  ·rename_i hx;obtain ⟨ρ,F,h⟩:=h;exact qGB l ⟨ρ,F,h.tell hx⟩
  ·rename_i id hx;split
   ·rename_i e sz rows hl;obtain ⟨ρ,F,h⟩:=h;exact qGB l ⟨_,_,h.froze [(id,rows)] (fun r hr=>by simp only [List.mem_singleton] at hr; subst hr; exact ⟨e,sz,hl⟩)⟩
   ·exact qGB l h
  ·exact qGB l h
theorem qWV:∀ (l:List (Nat × Nat)) {σ:St},Rel E C.n σ a w→Rel E C.n (zXH l σ) a w
 | [],σ,h=>h
 | (b,k) :: l,σ,h=>by
  simp only [zXH];split
  ·split
   ·rename_i id _;split
    ·rename_i e sz rows hl;obtain ⟨ρ,F,h⟩:=h;exact qWV l ⟨_,_,h.froze [(id,rows)] (fun r hr=>by simp only [List.mem_singleton] at hr; subst hr; exact ⟨e,sz,hl⟩)⟩
    ·exact qWV l h
   ·exact qWV l h
  ·exact qWV l h
theorem zQA:∀ (l:List (Nat × Nat × Nat × Nat)) {σ:St},Rel E C.n σ a w→Rel E C.n (ownL l σ) a w
 | [],σ,h=>h
 | (t,id,e,sz) :: l,σ,h=>by
  simp only [ownL];split
  ·rename_i hx hl;cases hz:Nat.blt 0 sz && Nat.blt id 2000000 with
   | false=>exact zQA l h
   | true =>
    rw [vQJ,Nat.blt_eq,Nat.blt_eq] at hz;obtain ⟨hz',hid⟩:=hz;obtain ⟨ρ,F,h⟩:=h;obtain ⟨v,hv,hr⟩:=h.slots t _ hx;have hr':v=.slice none 0 0:=hr;subst hr'
    have:=h.adopt (id:=id) ⟨hl,hid⟩ (ent:=.reg e sz (.l [])) (L:=.reg none 0 0 sz) (x:=.o id) (v:=.slice none 0 0) (Grow.refl w) (fun _ h=>h) (fun _ h=>.inl h) (fun b hb=>by cases hb)
     ⟨none,0,[],yW _ _ _,hz',Al.nil,(fun r hr=>by cases hr),(fun r hr=>by cases hr),⟨by simp [Rows.len],.inl (by simp [Rows.len])⟩⟩ ⟨_,_,_,_,yW _ _ _,rfl⟩ (dst_of h hv)
    rw [put_same hv] at this;exact zQA l ⟨_,_,this⟩
  ·exact zQA l h
theorem qWX:∀ (l:List (Nat × Nat × Nat × Nat × Nat)) {σ:St},Rel E C.n σ a w→Rel E C.n (zUE l σ) a w
 | [],σ,h=>h
 | (b,k,id,e,sz) :: l,σ,h=>by
  simp only [zUE];split
  ·rename_i cells hb hl;split
   ·rename_i hc;cases hz:Nat.blt 0 sz && Nat.blt id 2000000 with
    | false=>exact qWX l h
    | true =>
     rw [vQJ,Nat.blt_eq,Nat.blt_eq] at hz;obtain ⟨hz',hid⟩:=hz;rw [vYZ];refine qWX l ?_;obtain ⟨ρ,F,h⟩:=h;have hnone:ρ id=none:=h.mem.fresh ⟨hl,hid⟩;have hne:b ≠ id:=fun e=>by rw [e,hl] at hb; cases hb
     have old:∀ k L',ρ k=some L'→updO ρ id (.reg none 0 0 sz) k=some L':=fun k L' hk=>by
      rw [qYA (fun e=>by subst e; rw [hnone] at hk; cases hk)]; exact hk
     have inv:∀ k L',updO ρ id (.reg none 0 0 sz) k=some L'→(k=id∧L'=.reg none 0 0 sz) ∨ (k ≠ id∧ρ k=some L'):=fun k L' hk=>by
      by_cases e:k=id
      ·subst e; rw [yW] at hk; cases hk; exact .inl ⟨rfl,rfl⟩
      ·rw [qYA e] at hk; exact .inr ⟨e,hk⟩
     have hF:∀ k,F k→F k∧w.heap[k]? = w.heap[k]?:=fun k hk=>⟨hk,rfl⟩
     have ht:Turns [] ρ (updO ρ id (.reg none 0 0 sz)) F F w w:=⟨fun k b hk=>old k _ hk,fun k L' hk _ _=>old k _ hk,fun k j a' c' kk s _ hk _ _=>old _ _ hk,fun k rows a' c' kk sz _ hs=>by simp [yK] at hs,hF⟩
     refine ⟨updO ρ id (.reg none 0 0 sz),F,h.size,h.defers,fun t x hx => ?_,⟨fun k y hk => ?_,fun k L hk hi => ?_,fun k y hk => ?_,fun k L hk hi => ?_,fun k k' L L' b' h1 h2 h3 h4 => ?_,fun k L b' hk hb' => ?_,h.mem.fz,h.mem.fz0,h.mem.grow,fun b' hb' => ?_,fun b' hb' => ?_⟩⟩
     ·obtain ⟨v,hv,hr⟩:=h.slots t x hx;exact ⟨v,hv,hr.mono old hF⟩
     ·simp only [qUQ] at hk;split at hk
      ·rename_i e1;cases hk;subst e1;exact ⟨none,0,[],yW _ _ _,hz',Al.nil,(fun r hr=>by cases hr),(fun r hr=>by cases hr),⟨by simp [Rows.len],.inl (by simp [Rows.len])⟩⟩
      ·split at hk
       ·rename_i e2;cases hk;subst e2;obtain ⟨bb,vs,ty,h1,h2,h3,h4⟩:=h.mem.ent _ _ hb;obtain ⟨v,hv,hr⟩:=h3.get hc;have hr':v=.slice none 0 0:=hr;subst hr';refine ⟨bb,vs,ty,old _ _ h1,h2,?_,h4⟩;have h5:=(h3.imp (R':=RH (updO ρ id (.reg none 0 0 sz)) F w) fun x v _ hx=>hx.mono old hF).set (x:=.o id) (y:=.slice none 0 0) ⟨none,0,0,sz,yW _ _ _,rfl⟩ k;have e3:vs.set k (.slice none 0 0)=vs:=by
         refine List.ext_getElem? fun i => ?_
         rw [List.getElem?_set];split
         ·rename_i e4;subst e4;have hlt:=(List.getElem?_eq_some_iff.1 hv).1;rw [if_pos hlt,hv]
         ·rfl
        rw [e3] at h5;exact h5
       ·have:=(h.mem.ent k y hk).sub ht (by simp [yK]) (by simp [yK]) (fun _ _ _ _=>rfl) (fun _ _ _ _ _=>rfl)
        rw [Ent.sub_nil] at this;exact this
     ·simp only [qUQ];rcases inv k L hk with ⟨rfl,_⟩ | ⟨h1,h2⟩
      ·exact ⟨_,if_pos rfl⟩
      ·obtain ⟨y,hy⟩:=h.mem.dom k L h2 hi;rw [if_neg (Ne.symm h1)];split
       ·exact ⟨_,rfl⟩
       ·exact ⟨y,hy⟩
     ·simp only [qUQ] at hk;split at hk
      ·rename_i e1; rw [← e1]; exact hid
      ·split at hk
       ·rename_i e2; rw [← e2]; exact h.mem.ord _ _ hb
       ·exact h.mem.ord k y hk
     ·rcases inv k L hk with ⟨rfl,rfl⟩ | ⟨_,h2⟩
      ·cases hi
      ·exact h.mem.inr k L h2 hi
     ·rcases inv k L h1 with ⟨rfl,rfl⟩ | ⟨a1,a2⟩
      ·cases h3
      ·rcases inv k' L' h2 with ⟨rfl,rfl⟩ | ⟨b1,b2⟩
       ·cases h4
       ·exact h.mem.apart k k' L L' b' a2 b2 h3 h4
     ·rcases inv k L hk with ⟨rfl,rfl⟩ | ⟨a1,a2⟩
      ·cases hb'
      ·exact h.mem.off k L b' a2 hb'
     ·exact (h.mem.pin b' hb').imp (old _ _) fun h=>h
     ·exact ⟨old _ _ (h.mem.rd b' hb').1,(h.mem.rd b' hb').2⟩
   ·exact qWX l h
  ·exact qWX l h
def inI (ids:List Nat) (i:Nat):Bool:=ids.any (Nat.beq i)
theorem inI_iff {ids:List Nat} {i:Nat}:inI ids i=true ↔ i ∈ ids:=by
 simp only [inI,List.any_eq_true];constructor
 ·rintro ⟨x,hx,he⟩; rw [vQU he]; exact hx
 ·intro h; exact ⟨i,h,Nat.beq_refl i⟩
def inK (ids:List Nat) (id:Nat):Prop:=id ∈ ids ∨ ∃ k j,id=nid k j∧k ∈ ids
noncomputable def zKW (ids:List Nat) (ρ:Own):Own:=fun id => @ite _ (inK ids id) (vYQ _) (ρ id) none
theorem qZV {ids:List Nat} {id:Nat} (h:id ∈ ids):zKW ids ρ id=ρ id:=by
 unfold zKW; rw [if_pos (.inl h)]
theorem zKX {ids:List Nat} {id:Nat} (h:id ∈ ids) (j:Nat):zKW ids ρ (nid id j)=ρ (nid id j):=by
 unfold zKW; rw [if_pos (.inr ⟨id,j,rfl,h⟩)]
theorem qUL {ids:List Nat} {id:Nat} {L:Loc} (h:zKW ids ρ id=some L):inK ids id∧ρ id=some L:=by
 unfold zKW at h;split at h
 ·rename_i hm; exact ⟨hm,h⟩
 ·cases h
theorem only_rel {ids:List Nat} {x:HV} {v:Value} (h:RH ρ F w x v):RH (zKW ids ρ) F w (x.only ids) v:=by
 unfold HV.only;cases hc:x.every.all (fun i=>ids.any (Nat.beq i)) with
 | false=>trivial
 | true =>
  have hin:∀ i ∈ x.every,i ∈ ids:=fun i hi=>inI_iff.1 (List.all_eq_true.1 hc i hi)
  simp only [vYZ];cases x with
  | v x=>exact h
  | nl=>exact h
  | un=>trivial
  | o id =>
   obtain ⟨ad,c,k,sz,h1,h2⟩:=h;exact ⟨ad,c,k,sz,by rw [qZV (hin id (by simp [HV.every]))]; exact h1,h2⟩
  | p id off =>
   obtain ⟨b,h1,h2⟩:=h;exact ⟨b,by rw [qZV (hin id (by simp [HV.every]))]; exact h1,h2⟩
  | q id j off =>
   obtain ⟨b,c,k,sz,h1,h2⟩:=h;exact ⟨b,c,k,sz,by rw [qZV (hin id (by simp [HV.every]))]; exact h1,h2⟩
  | g fn first cap =>
   obtain ⟨fs,cs,h1,h2,h3⟩:=h;refine ⟨fs,cs,h1,h2,h3.imp fun c v hm hr => ?_⟩;cases c with
   | v x=>exact hr
   | p id off =>
    obtain ⟨b,h4,h5⟩:=hr;exact ⟨b,by rw [qZV (hin id (mem_catL.2 ⟨_,hm,by simp [Cap.every]⟩))]; exact h4,h5⟩
  | m id j =>
   obtain ⟨ad,c,k,sz,⟨h1,h2⟩,h3,a0,c0,k0,s0,h4,h5⟩:=h;have hi:=hin id (by simp [HV.every]);exact ⟨ad,c,k,sz,⟨by rw [zKX hi]; exact h1,h2⟩,h3,a0,c0,k0,s0,by rw [qZV hi]; exact h4,h5⟩
  | mp id j =>
   obtain ⟨ad,c,k,sz,⟨h1,h2⟩,h3,a0,c0,k0,s0,h4,h5⟩:=h;have hi:=hin id (by simp [HV.every]);exact ⟨ad,c,k,sz,⟨by rw [zKX hi]; exact h1,h2⟩,h3,a0,c0,k0,s0,by rw [qZV hi]; exact h4,h5⟩
  | ag cs =>
   obtain ⟨vs,h1,h2,h3⟩:=h;refine ⟨vs,h1,h2.imp fun c v hm hr => ?_,h3⟩;cases c with
   | o id =>
    obtain ⟨ad,c,k,sz,h4,h5⟩:=hr;exact ⟨ad,c,k,sz,by rw [qZV (hin id (mem_catL.2 ⟨_,hm,by simp [HC.ids]⟩))]; exact h4,h5⟩
   | v x=>exact hr
   | nl=>exact hr
   | un=>trivial
theorem only_ent {ids:List Nat} {id:Nat} {e:Ent} (hid:id ∈ ids) (h:EntOk ρ F w id e):EntOk (zKW ids ρ) F w id (e.only ids):=by
 cases e with
 | blk cells =>
  obtain ⟨b,vs,ty,h1,h2,h3,h4⟩:=h;exact ⟨b,vs,ty,by rw [qZV hid]; exact h1,h2,Al.map_left (h3.imp fun _ _ _ h=>only_rel h),h4⟩
 | reg e sz rows =>
  obtain ⟨ad,c,vr,h1,h2⟩:=h;exact ⟨ad,c,vr,by rw [qZV hid]; exact h1,h2⟩
 | itr s pos =>
  obtain ⟨b,h1,h2⟩:=h;exact ⟨b,by rw [qZV hid]; exact h1,h2⟩
 | nst e ie isz rows pd =>
  obtain ⟨a,c,H,h1,h2,h3,h4,h5,h6⟩:=h;refine ⟨a,c,H,by rw [qZV hid]; exact h1,h2,h3,h4,h5,fun v hv => ?_⟩;obtain ⟨r,av,cv,vr,q1,q2,q3⟩:=h6 v hv;exact ⟨r,av,cv,vr,q1,by rw [zKX hid]; exact q2,q3⟩
theorem keepI_look {M:Mem} {ids:List Nat} {i:Nat} {x:Ent} (h:qV (zWF M ids) i=some x):i ∈ ids∧qV M i=some x:=by
 induction ids with
 | nil=>cases h
 | cons t ts ih =>
  simp only [zWF] at h;split at h
  ·rename_i y hy;by_cases e:t=i
   ·subst e;simp only [qV,Nat.beq_refl,vYZ,vQZ] at h;subst h;exact ⟨vQG,hy⟩
   ·simp only [qV,uW e,vYY] at h;exact ⟨vQV _ (ih h).1,(ih h).2⟩
  ·exact ⟨vQV _ (ih h).1,(ih h).2⟩
theorem keepI_mem {M:Mem} {ids:List Nat} {i:Nat} {x:Ent} (hm:i ∈ ids) (h:qV M i=some x):qV (zWF M ids) i=some x:=by
 induction ids with
 | nil=>cases hm
 | cons t ts ih =>
  simp only [zWF];by_cases e:t=i
  ·subst e; rw [h]; simp [qV]
  ·have hm':i ∈ ts:=by
    rcases List.mem_cons.1 hm with h | h
    ·exact absurd h.symm e
    ·exact h
   split
   ·simp only [qV,uW e,vYY]; exact ih hm'
   ·exact ih hm'
theorem keepL_look {ts:List Nat} {t:Nat} {x:HV} (h:kH (yQV σ ts) t=some x):kH σ.S t=some x:=by
 induction ts with
 | nil=>cases h
 | cons u ts ih =>
  simp only [yQV] at h;split at h
  ·rename_i y hy;by_cases e:u=t
   ·subst e;rw [lookS_same] at h; cases h; exact hy
   ·rw [zKA e] at h; exact ih h
  ·exact ih h
theorem zUQ:∀ (l:List (Nat × List PV)) {S:List (Nat × HV)} {M:Mem},Rel E C.n ⟨S,M⟩ a w→Rel E C.n ⟨S,funL l M⟩ a w
 | [],S,M,h=>h
 | (id,z) :: l,S,M,h=>by
  simp only [funL];split
  ·rename_i e sz rows hl;refine zUQ l ?_;obtain ⟨ρ,F,h⟩:=h;refine ⟨ρ,F,h.size,h.defers,h.slots,⟨fun i x hx => ?_,fun i L hL hi => ?_,fun i x hx => ?_,h.mem.inr,h.mem.apart,h.mem.off,h.mem.fz,h.mem.fz0,h.mem.grow,h.mem.pin,h.mem.rd⟩⟩
   ·rw [qUQ] at hx;split at hx
    ·rename_i e1;cases hx;subst e1;obtain ⟨ad,c,vr,h1,h2,h3,h4,h5,h6⟩:=h.mem.ent id _ hl;have el:(rows.toF z).len=rows.len:=by rw [← Rows.len_L,Rows.toF_L,Rows.len_L]
     exact ⟨ad,c,vr,by rw [el]; exact h1,h2,by rw [Rows.toF_L]; exact h3,by rw [Rows.toF_L]; exact h4,h5,by rw [el]; exact h6⟩
    ·exact h.mem.ent i x hx
   ·obtain ⟨x,hx⟩:=h.mem.dom i L hL hi;show ∃ e,qV (putM id _ M) i=some e;rw [qUQ];split
    ·exact ⟨_,rfl⟩
    ·exact ⟨x,hx⟩
   ·rw [qUQ] at hx;split at hx
    ·rename_i e1; rw [← e1]; exact h.mem.ord id _ hl
    ·exact h.mem.ord i x hx
  ·exact zUQ l h
theorem zZB {hi:Hint} (h:Rel E C.n σ a w):Rel E C.n (qZB hi σ) a w:=by
 have h1:=qWX (C:=C) hi.ownB (zQA (C:=C) hi.own (qGB (C:=C) hi.frz (qWV (C:=C) hi.frzB h)));unfold qZB;generalize zUE hi.ownB (ownL hi.own (frzL hi.frz (zXH hi.frzB σ)))=τ at h1;refine zUQ (C:=C) hi.fun_ ?_;obtain ⟨ρ,F,h⟩:=h1;refine ⟨zKW (pid :: pid2 :: hi.ids) ρ,F,h.size,h.defers,fun t x hx => ?_,⟨fun id e hl => ?_,fun id L hL hi => ?_,fun id e hl => ?_,fun id L hL hi=>h.mem.inr id L (qUL hL).2 hi,fun id id' L L' b h1 h2 => ?_,fun id L b hL hb => ?_,h.mem.fz,h.mem.fz0,h.mem.grow,fun b hb => ?_,fun b hb => ?_⟩⟩
 ·simp only [lookS_map,vZK] at hx;obtain ⟨y,hy,rfl⟩:=hx;obtain ⟨v,hv,hr⟩:=h.slots t y (keepL_look hy);exact ⟨v,hv,only_rel hr⟩
 ·simp only [qGV,vZK] at hl;obtain ⟨y,hy,rfl⟩:=hl;obtain ⟨k1,k2⟩:=keepI_look hy;exact only_ent k1 (h.mem.ent id y k2)
 ·obtain ⟨k1,k2⟩:=qUL hL;obtain ⟨e,he⟩:=h.mem.dom id L k2 hi;have hlt:=h.mem.ord id e he;rcases k1 with k1 | ⟨k,j,rfl,_⟩
  ·exact ⟨_,by simp only [qGV]; rw [keepI_mem k1 he]; rfl⟩
  ·have:=qKI k j; omega
 ·simp only [qGV,vZK] at hl;obtain ⟨y,hy,rfl⟩:=hl;exact h.mem.ord id y (keepI_look hy).2
 ·exact h.mem.apart id id' L L' b (qUL h1).2 (qUL h2).2
 ·exact h.mem.off id L b (qUL hL).2 hb
 ·rw [qZV vQG]; exact h.mem.pin b hb
 ·rw [qZV (vQV _ vQG)]; exact h.mem.rd b hb
noncomputable def unnρ (id:Nat) (ρ:Own):Own:=fun k => @ite _ (∃ j,k=nid id j) (vYQ _) none (ρ k)
theorem zWY {id k:Nat} (h:∀ j,k ≠ nid id j):unnρ id ρ k=ρ k:=by unfold unnρ; rw [if_neg fun ⟨j,e⟩=>h j e]
theorem unnρ_in (id j:Nat):unnρ id ρ (nid id j)=none:=by unfold unnρ; rw [if_pos ⟨j,rfl⟩]
theorem qWZ {id k:Nat} {L:Loc} (h:unnρ id ρ k=some L):(∀ j,k ≠ nid id j)∧ρ k=some L:=by
 by_cases hc:∃ j,k=nid id j
 ·obtain ⟨j,rfl⟩:=hc; rw [unnρ_in] at h; cases h
 ·have h2:∀ j,k ≠ nid id j:=fun j e=>hc ⟨j,e⟩
  rw [zWY h2] at h; exact ⟨h2,h⟩
theorem NR.rows_len (rows:NR):rows.rows.len=rows.len:=by cases rows <;> simp [NR.rows,NR.len,Rows.len]
theorem NR.rows_L (rows:NR) (v:Nat):rows.rows.L[v]? = if v < rows.len then (rows.at v).map fun r=>[r.pv] else none:=by
 cases rows with
 | l rows =>
  show (rows.map fun r=>[r.pv])[v]? = _;rw [vQH];by_cases hv:v < rows.length
  ·rw [if_pos (by exact hv)]; rfl
  ·rw [if_neg (by exact hv),List.getElem?_eq_none (by omega)]; rfl
 | fo n f =>
  show ((List.range n).map fun v=>[(f v).pv])[v]? = _;by_cases hv:v < n
  ·rw [uU _ hv,if_pos (by exact hv)]; rfl
  ·rw [List.getElem?_eq_none (by simp; omega),if_neg (by exact hv)]
theorem Rel'.unn (h:Rel' E n ρ F σ a w) {id e ie isz:Nat} {rows:NR} (hl:qV σ.M id=some (.nst e ie isz rows none)) :
  Rel' E n (unnρ id ρ) (fun k=>F k ∨ ∃ j L,ρ (nid id j)=some L∧L.bl=some k) (σ.apply ⟨[(id,some (.reg e 1 rows.rows))],[(mid id,none)],.un,[]⟩ none) a w:=by
 have hlt:=h.mem.ord id _ hl;have old:∀ k L1,ρ k=some L1→L1.inner=false→unnρ id ρ k=some L1:=fun k L1 hk hi=>by
  rw [zWY fun j e=>by have h1:=h.mem.lt hk hi; have h2:=qKI id j; omega]; exact hk
 obtain ⟨a0,c0,H,q1,q2,q3,q4,_,q6⟩:=h.mem.ent id _ hl;have hrel:=h.apply2 (ρ':=unnρ id ρ) (F':=fun k=>F k ∨ ∃ j L,ρ (nid id j)=some L∧L.bl=some k) (w':=w) ⟨[(id,some (.reg e 1 rows.rows))],[(mid id,none)],.un,[]⟩ none undef (fun d e=>by cases e)
  ⟨fun k b hk=>old k _ hk rfl,fun k L' hk _ hi=>old k L' hk hi,fun k i a' c' kk s hk2 hk _ hs2 => ?_,fun k rows a' c' kk sz _ hs=>(by simp only [qQU] at hs; split at hs <;> cases hs),fun k hk=>⟨.inl hk,rfl⟩⟩ trivial
  (fun _ _ _ _ _ _ _=>rfl) (fun k hk _ => ?_) (fun k hk hu => ?_) (fun k y hu => ?_) (fun k L' _ hL _=>(qWZ hL).2) (fun k y hu => ?_) (fun k L' hL hi=>h.mem.inr k L' (qWZ hL).2 hi) (fun k k' L1 L2 b' h1 h2=>h.mem.apart k k' L1 L2 b' (qWZ h1).2 (qWZ h2).2) (fun k L' b' hk hb' => ?_) (fun k hk => ?_) h.mem.grow (fun b hb=>zYG (qHW q1 hb))
 ·rwa [put_none] at hrel
 ·have hne:k ≠ id:=fun e=>by subst e; simp [qQU] at hs2
  rw [zWY fun j e=>hne (zZI hk2 hlt e).1]; exact hk
 ·simp only [qQU]; rw [if_neg (by unfold mid; omega)]
 ·simp only [jX] at hu;simp only [qQU];split at hu
  ·cases hu
  ·rename_i hne; rw [if_neg (by unfold mid; omega)]
 ·simp only [jX] at hu;split at hu
  ·rename_i e; rw [← e]; exact hlt
  ·cases hu
 ·simp only [jX] at hu;split at hu
  ·rename_i he;cases hu;subst he;refine ⟨a0,c0,(List.range rows.len).map fun v=>[H v],by rw [NR.rows_len]; exact old id _ q1 rfl,Nat.zero_lt_one,⟨?_,fun v x y hx hy => ?_⟩,fun x hx => ?_,fun x hx u hu => ?_,?_⟩
   ·rw [Rows.len_L,NR.rows_len]; simp
   ·rw [NR.rows_L] at hx;split at hx
    ·rename_i hv;rw [vQH,List.getElem?_range hv] at hy;cases hy;obtain ⟨r,av,cv,vr,p1,p2,p3,p4,p5,p6,p7⟩:=q6 v hv;have p1':rows.at v=some r:=p1;rw [p1'] at hx;cases hx;refine Al.cons ?_ Al.nil;have hv2:H v=.slice av r.len cv:=p3 (fun r' hr'=>by cases hr');rw [hv2];exact (uZ (ρ:=fun i=>if i=0 then some (.reg av cv r.len isz) else none) (id:=0) (e:=ie) (sz:=isz) (F:=F) ⟨av,cv,vr,by simp,q2.2,p4,p5,p6,p7⟩ (fun k hk=>.inl hk) (fun L b hL hbl=>by simp at hL; subst hL; exact .inr ⟨v,_,p2,hbl⟩) av cv r.len isz (by simp)).1
    ·cases hx
   ·obtain ⟨v,hv⟩:=List.mem_iff_getElem?.1 hx;rw [NR.rows_L] at hv;split at hv
    ·cases hr:rows.at v with
     | none=>rw [hr] at hv; cases hv
     | some r=>rw [hr] at hv; cases hv; rfl
    ·cases hv
   ·obtain ⟨v,hv,rfl⟩:=List.mem_map.1 hx;simp only [List.mem_singleton] at hu;subst hu;exact q4 v (List.mem_range.1 hv)
   ·rw [NR.rows_len,flat_one]; exact q3
  ·cases hu
 ·obtain ⟨h1,h2⟩:=qWZ hk
  have:=h.mem.off k L' b' h2 hb'
  refine ⟨fun hf => ?_,this.2⟩;rcases hf with hf | ⟨j,L,hL,hb⟩
  ·exact this.1 hf
  ·exact h1 j (h.mem.apart k (nid id j) L' L b' h2 hL hb' hb)
 ·rcases hk with hk | ⟨j,L,hL,hb⟩
  ·exact h.mem.fz k hk
  ·have:=(h.mem.off _ L k hL hb).2; exact ⟨this.1,.inr this.2⟩
theorem zJB:∀ (l:List Nat) {σ:St},Rel E C.n σ a w→Rel E C.n (unnL l σ) a w
 | [],σ,h=>h
 | id :: l,σ,h=>by
  simp only [unnL];split
  ·rename_i e ie isz rows hl;obtain ⟨ρ,F,h⟩:=h;exact zJB l ⟨_,_,h.unn hl⟩
  ·exact zJB l h
def exOf:Ex→Exit
 | .normal=>.normal
 | .exit id=>.exit id
 | .ret=>.ret
theorem pruneX_rel {hi:Hint} (h:Rel E C.n σ a w):Rel E C.n (qQE hi σ) a w:=by
 unfold qQE;split
 ·exact h
 ·exact zZB (zJB (C:=C) _ h)
theorem preR_rel {id:Nat} (h:Rel E C.n σ a w):Rel E C.n (preR C id σ) a w:=by
 unfold preR; split
 ·exact h
 ·exact zZB h
theorem runC_sound {N:Nat} {r:Ret × Mem} (hT:TabOk P C.T) (hE:E.D=Harm P) (hA:SndA P C.cA) (hB:SndB P C.T C.cB) (hm:P.follows .mixedOrders=true):∀ (c:Code) (K:Ex→St→Option (Ret × Mem)) (σ:St) (a:Act) (w:World) (Q:Exit→Act→World→Prop),runC N C c K σ=some r→Rel E C.n σ a w →
  (∀ e τ a w,K e τ=some r→Rel E C.n τ a w→Q (exOf e) a w)→c.wp P Q a w:=by
 intro c;induction c with
 | skip=>intro K σ a w Q h hr hK; exact wp_skip (hK .normal σ a w h hr)
 | label l=>intro K σ a w Q h hr hK; exact wp_label (hK .normal σ a w h hr)
 | scope x ih =>
  intro K σ a w Q h hr hK;exact wp_scope_straight (ih K σ a w _ h hr fun e τ a w hk hr'=>by cases e <;> exact hK _ τ a w hk hr')
 | ret=>intro K σ a w Q h hr hK; exact wp_ret (hK .ret σ a w h hr)
 | exit id=>intro K σ a w Q h hr hK; exact wp_exit (hK (.exit id) σ a w h hr)
 | region id ops d =>
  intro K σ a w Q h hr hK;have hr:=preR_rel (id:=id) hr;cases d with
  | true =>
   simp only [runC,preK_eq,vYZ] at h;exact wp_draw hm (sim_all hT hE hA hB) h hr (fun h=>h.grow (Grow.drew (Grow.refl _))) fun τ a w hk hr=>hK .normal τ a w hk hr
  | false =>
   simp only [runC,preK_eq,vYY] at h;exact wp_region_list (zXL (sim_all hT hE hA hB) (fun τ a w hk hr=>hK .normal τ a w hk hr) _ _ _ _ h hr)
 | seq x y ihx ihy =>
  intro K σ a w Q h hr hK;refine wp_seq (ihx _ σ a w _ h hr fun e τ a' w' hk hr' => ?_);cases e with
  | normal=>exact ihy K τ a' w' Q hk hr' hK
  | exit id=>exact hK (.exit id) τ a' w' hk hr'
  | ret=>exact hK .ret τ a' w' hk hr'
 | cond c x y ihx ihy =>
  intro K σ a w Q h hr hK;simp only [runC,vQQ] at h;obtain ⟨v,hv,h⟩:=h;have hr0:=hr;obtain ⟨ρ,F,hr'⟩:=hr;obtain ⟨u,u1,u2,u3⟩:=yU hr' hv;split at h
  ·rename_i t
   have:=qUA u2
   subst this;refine wp_cond (t:=t) (uQ hr' u1) ?_;cases t with
   | true=>exact ihx K σ a w Q h hr0 hK
   | false=>exact ihy K σ a w Q h hr0 hK
  ·cases h
 | block id x ih =>
  intro K σ a w Q h hr hK;refine wp_block (ih _ σ a w _ h hr fun e τ a' w' hk hr' => ?_);cases e with
  | normal=>exact hK .normal τ a' w' hk hr'
  | ret=>exact hK .ret τ a' w' hk hr'
  | exit id' =>
   simp only at hk;by_cases e:id'=id
   ·subst e;rw [Nat.beq_refl] at hk
    simpa [exOf,Exit.inBlock] using hK .normal τ a' w' hk hr'
   ·rw [uW e] at hk
    simpa [exOf,Exit.inBlock,e] using hK (.exit id') τ a' w' hk hr'
 | loop x ih =>
  intro K σ a w Q h hr hK;simp only [runC] at h;have key:∀ M σ a w,qWL (fun again σ=>runC N C x (fun e σ=>match e with
   | .normal=>again σ
   | e=>K e (qQE (C.T.hint C.me (zZ x)) σ)) (qZB (C.T.hint C.me (zZ x)) σ)) M σ=some r→Rel E C.n σ a w→Code.rounds P x Q M a w:=by
   intro M;induction M with
   | zero=>intro σ a w h; cases h
   | succ M ihM =>
    intro σ a w h hr;rw [rounds_succ];refine ih _ _ a w _ h (zZB hr) fun e τ a' w' hk hr' => ?_
    cases e with
    | normal=>exact ihM τ a' w' hk hr'
    | exit id=>exact hK (.exit id) _ a' w' hk (pruneX_rel hr')
    | ret=>exact hK .ret _ a' w' hk (pruneX_rel hr')
  exact wp_loop_rounds N (key N σ a w h hr)
 | _=>intro K σ a w Q h; simp only [runC] at h; cases h
end
end Go.Rx

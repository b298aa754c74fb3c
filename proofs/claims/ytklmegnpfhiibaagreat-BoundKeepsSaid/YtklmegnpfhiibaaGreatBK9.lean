/- Part 9 of the texts behind the last one: rules and contracts. No condition. -/
import Derived.Test.YtklmegnpfhiibaaGreatBK8
open Option renaming bind_eq_some_iff → vQQ, bind_some → vZV
open Option.some renaming injEq → vQZ
open Bool renaming and_eq_true → vQJ
open List renaming getElem?_eq_getElem → vQK, length_cons → vQX, mem_cons_of_mem → vQV, mem_cons_self → vQG, getElem?_map → vQH
open Nat renaming eq_of_beq_eq_true → vQU, lt_of_lt_of_le → vZZ
open Classical renaming propDecidable → vYQ
namespace Go.Rx
open Go.RowKit Go.Sx
def updO (ρ:Own) (id:Nat) (L:Loc):Own:=fun k=>if k=id then some L else ρ k
theorem yW (ρ:Own) (id:Nat) (L:Loc):updO ρ id L id=some L:=by simp [updO]
theorem qYA {ρ:Own} {id k:Nat} {L:Loc} (h:k ≠ id):updO ρ id L k=ρ k:=by simp [updO,h]
theorem jX {id k:Nat} {e:Option Ent}:yZ [(id,e)] k=if id=k then some e else none:=by
 simp only [yZ];by_cases h:id=k
 ·subst h; simp
 ·simp [uW h,h]
theorem zYG {id k:Nat} {x:Option Ent} (h:id ≠ k):yZ [(id,x)] k=none:=by rw [jX,if_neg h]
theorem qHW {ρ:Own} {id:Nat} {a:Option Addr} {c k s b:Nat} (h:ρ id=some (.reg a c k s)) (hb:ρ pid2=some (.blk b)):id ≠ pid2:=fun e=>by rw [e,hb] at h; cases h
theorem zKH {ρ:Own} {id b:Nat} (h:ρ id=none) (hb:ρ pid2=some (.blk b)):id ≠ pid2:=fun e=>by rw [e,hb] at h; cases h
section
variable {P:Program} {E:Env} {n:Nat} {ρ:Own} {F:Nat→Prop} {σ:St} {a:Act} {w:World}
theorem Rel'.new (h:Rel' E n ρ F σ a w) {id:Nat} (hid:qJB σ.M id) {ent:Ent} {L:Loc} {w':World} (g:Grow w w') (hb:∀ b,L.bl=some b→w.heap.size≤b∧b < w'.heap.size) (hent:EntOk (updO ρ id L) F w' id ent)
  {x:HV} {v:Value} (hx:RH (updO ρ id L) F w' x v) {dst:Option Nat} (hd:dstB n dst=true):Rel' E n (updO ρ id L) F (σ.apply (.new id ent x) dst) (a.put dst v) w':=by
 have hnone:ρ id=none:=h.mem.fresh hid;have old:∀ k L',ρ k=some L'→updO ρ id L k=some L':=fun k L' hk=>by
  rw [qYA (fun e=>by subst e; rw [hnone] at hk; cases hk)]; exact hk
 have inv:∀ k L',updO ρ id L k=some L'→(k=id∧L'=L) ∨ (k ≠ id∧ρ k=some L'):=fun k L' hk=>by
  by_cases e:k=id
  ·subst e; rw [yW] at hk; cases hk; exact .inl ⟨rfl,rfl⟩
  ·rw [qYA e] at hk; exact .inr ⟨e,hk⟩
 have blk:∀ k L' b,ρ k=some L'→L'.bl=some b→b < w.heap.size:=fun k L' b hk hb'=>(h.mem.off k L' b hk hb').2.1
 refine h.apply (.new id ent x) dst v (fun d e=>by subst e; simpa [dstB] using hd) ⟨fun k b hk=>old k _ hk,fun k L' hk _ _=>old k L' hk,fun k j a' c' kk s _ hk _ _=>old _ _ hk,fun k rows a' c' kk sz _ hs=>by simp [Eff.new,yK] at hs,fun k hk=>⟨hk,g.block k (h.mem.fz k hk).1⟩⟩ hx
  (fun k L' b _ hk hb'=>g.block b (blk k L' b hk hb')) (fun _ _=>rfl) (fun k y hu => ?_) (fun k hu => ?_) (fun k y hu => ?_) (fun k k' L1 L2 b h1 h2 hb1 hb2 => ?_) (fun k L' b hk hb' => ?_) (fun k hk=>⟨vZZ (h.mem.fz k hk).1 g.size,(h.mem.fz k hk).2⟩) (qXY h.mem.grow g) (fun b hb=>zYG (zKH hnone hb))
 ·simp only [Eff.new,jX] at hu;split at hu
  ·rename_i e; rw [← e]; exact hid.2
  ·cases hu
 ·simp only [Eff.new,jX] at hu;split at hu
  ·cases hu
  ·rename_i hne; exact qYA (Ne.symm hne)
 ·simp only [Eff.new,jX] at hu;split at hu
  ·rename_i he; cases hu; subst he; exact hent
  ·cases hu
 ·rcases inv k L1 h1 with ⟨e1,e2⟩ | ⟨n1,h1'⟩ <;> rcases inv k' L2 h2 with ⟨e3,e4⟩ | ⟨n2,h2'⟩
  ·rw [e1,e3]
  ·rw [e2] at hb1; have:=(hb b hb1).1; have:=blk k' L2 b h2' hb2; omega
  ·rw [e4] at hb2; have:=(hb b hb2).1; have:=blk k L1 b h1' hb1; omega
  ·exact h.mem.apart k k' L1 L2 b h1' h2' hb1 hb2
 ·rcases inv k L' hk with ⟨rfl,rfl⟩ | ⟨_,hk⟩
  ·have:=hb b hb'
   exact ⟨fun hf=>by have:=(h.mem.fz b hf).1; omega,this.2,.inl (Nat.le_trans h.mem.grow.size this.1)⟩
  ·have:=h.mem.off k L' b hk hb'
   exact ⟨this.1,vZZ this.2.1 g.size,this.2.2⟩
theorem Rel'.set (h:Rel' E n ρ F σ a w) {id b:Nat} {L:Loc} (hρ:ρ id=some L) (hb:L.bl=some b) {ent:Ent} {w':World} (g:GrowB (· = b) w w') (hent:EntOk ρ F w' id ent) {x:HV} {v:Value} (hx:RH ρ F w' x v) {dst:Option Nat} (hd:dstB n dst=true) (hni:L.inner=false:=by rfl) (h2:id ≠ pid2 ∨ ∃ a c k s,L=.reg a c k s:=by first | exact .inr ⟨_,_,_,_,rfl⟩ | exact .inl (by assumption)) :
  Rel' E n ρ F (σ.apply (.set id ent x) dst) (a.put dst v) w':=by
 have hoff:=h.mem.off id L b hρ hb;have fzb:∀ k,F k→w'.heap[k]? = w.heap[k]?:=fun k hk=>g.block k (h.mem.fz k hk).1 fun e=>by subst e; exact hoff.1 hk
 refine h.apply (.set id ent x) dst v (fun d e=>by subst e; simpa [dstB] using hd) ⟨fun k b hk=>hk,fun k L' hk _ _=>hk,fun _ _ _ _ _ _ _ hk _ _=>hk,fun k rows a' c' kk sz _ hs=>by simp [Eff.set,yK] at hs,fun k hk=>⟨hk,fzb k hk⟩⟩ hx
  (fun k L' b' hu hk hb' => ?_) (fun _ _=>rfl) (fun k y hu => ?_) (fun k hu=>rfl) (fun k y hu => ?_) h.mem.apart (fun k L' b' hk hb' => ?_) (fun k hk=>⟨vZZ (h.mem.fz k hk).1 g.size,(h.mem.fz k hk).2⟩) ?_ (fun b2 hb2=>zYG (by
   rcases h2 with h2 | ⟨_,_,_,_,e2⟩
   ·exact h2
   ·rw [e2] at hρ; exact qHW hρ hb2))
 ·refine g.block b' (h.mem.off k L' b' hk hb').2.1 fun e => ?_
  subst e
  have:=h.mem.apart k id L' L b' hk hρ hb' hb
  subst this;simp [Eff.set,jX] at hu
 ·simp only [Eff.set,jX] at hu;split at hu
  ·rename_i he; rw [← he]; exact h.mem.lt hρ hni
  ·cases hu
 ·simp only [Eff.set,jX] at hu;split at hu
  ·rename_i he; cases hu; subst he; exact hent
  ·cases hu
 ·have:=h.mem.off k L' b' hk hb'
  exact ⟨this.1,vZZ this.2.1 g.size,this.2.2⟩
 ·refine ⟨g.os.trans h.mem.grow.os,g.tape.trans h.mem.grow.tape,g.output.trans h.mem.grow.output,Nat.le_trans h.mem.grow.size g.size,fun k hk hW => ?_⟩;rw [g.block k (vZZ hk h.mem.grow.size) fun e => ?_]
  ·exact h.mem.grow.block k hk hW
  ·subst e;rcases hoff.2.2 with h1 | h1
   ·omega
   ·exact hW h1
theorem Rel'.app (h:Rel' E n ρ F σ a w) {id:Nat} {L L':Loc} (hρ:ρ id=some L) (hreg:∃ a c k s,L=.reg a c k s) {ent:Ent} {w':World} (g:GrowB (fun k=>L.bl=some k) w w') (hb:∀ b,L'.bl=some b→L.bl=some b ∨ (w.heap.size≤b∧b < w'.heap.size))
  (hent:EntOk (updO ρ id L') F w' id ent) {x:HV} {v:Value} (hx:RH (updO ρ id L') F w' x v) {dst:Option Nat} (hd:dstB n dst=true):Rel' E n (updO ρ id L') F (σ.apply (.app id ent x) dst) (a.put dst v) w':=by
 have hoff:=fun b hb=>h.mem.off id L b hρ hb
 have fzb:∀ k,F k→w'.heap[k]? = w.heap[k]?:=fun k hk=>g.block k (h.mem.fz k hk).1 fun e=>(hoff k e).1 hk
 have sub1:∀ k,yK [(id,(none:Option Rows))] k=if id=k then some none else none:=fun k=>by
  simp only [yK];by_cases e:id=k
  ·subst e; simp
  ·simp [uW e,e]
 have old:∀ k L1,ρ k=some L1→k ≠ id→updO ρ id L' k=some L1:=fun k L1 hk hne=>by rw [qYA hne]; exact hk
 have inv:∀ k L1,updO ρ id L' k=some L1→(k=id∧L1=L') ∨ (k ≠ id∧ρ k=some L1):=fun k L1 hk=>by
  by_cases e:k=id
  ·subst e; rw [yW] at hk; cases hk; exact .inl ⟨rfl,rfl⟩
  ·rw [qYA e] at hk; exact .inr ⟨e,hk⟩
 obtain ⟨ra,rc,rk,rs,rfl⟩:=hreg;have blkne:∀ k b,ρ k=some (.blk b)→k ≠ id:=fun k b hk e=>by subst e; rw [hρ] at hk; cases hk
 have offs:∀ k L1 b,ρ k=some L1→L1.bl=some b→k ≠ id→Loc.bl (.reg ra rc rk rs) ≠ some b:=fun k L1 b hk hb1 hne he=>hne (h.mem.apart k id L1 _ b hk hρ hb1 he)
 refine h.apply (.app id ent x) dst v (fun d e=>by subst e; simpa [dstB] using hd)
  ⟨fun k b hk=>old k _ hk (blkne k b hk),fun k L1 hk hs _=>old k L1 hk fun e=>by subst e; simp [Eff.app,sub1] at hs,fun k j a' c' kk s _ hk _ _=>old _ _ hk fun e=>by have h1:=h.mem.lt hρ rfl; have h2:=qKI k j; omega,fun k rows a' c' kk sz _ hs=>(by simp only [Eff.app,sub1] at hs; split at hs <;> cases hs),fun k hk=>⟨hk,fzb k hk⟩⟩ hx
  (fun k L1 b' hu hk hb' => ?_) (fun k hu => ?_) (fun k y hu => ?_) (fun k hu => ?_) (fun k y hu => ?_) (fun k k' L1 L2 b h1 h2 hb1 hb2 => ?_) (fun k L1 b' hk hb' => ?_) (fun k hk=>⟨vZZ (h.mem.fz k hk).1 g.size,(h.mem.fz k hk).2⟩) ?_ (fun b hb=>zYG (qHW hρ hb))
 ·simp only [Eff.app,jX] at hu;split at hu
  ·cases hu
  ·rename_i hne;exact g.block b' (h.mem.off k L1 b' hk hb').2.1 (offs k L1 b' hk hb' (Ne.symm hne))
 ·simp only [Eff.app,jX] at hu;split at hu
  ·cases hu
  ·rename_i hne; simp only [Eff.app,sub1,if_neg hne]
 ·simp only [Eff.app,jX] at hu;split at hu
  ·rename_i he; rw [← he]; exact h.mem.lt hρ rfl
  ·cases hu
 ·simp only [Eff.app,jX] at hu;split at hu
  ·cases hu
  ·rename_i hne; exact qYA (Ne.symm hne)
 ·simp only [Eff.app,jX] at hu;split at hu
  ·rename_i he; cases hu; subst he; exact hent
  ·cases hu
 ·have cross:∀ k L1 b,k ≠ id→ρ k=some L1→L1.bl=some b→L'.bl=some b→False:=fun k L1 b hne hk hb1 hb2=>by
   rcases hb b hb2 with h3 | h3
   ·exact offs k L1 b hk hb1 hne h3
   ·have:=(h.mem.off k L1 b hk hb1).2.1; omega
  rcases inv k L1 h1 with ⟨e1,e2⟩ | ⟨n1,h1'⟩ <;> rcases inv k' L2 h2 with ⟨e3,e4⟩ | ⟨n2,h2'⟩
  ·rw [e1,e3]
  ·rw [e2] at hb1; exact (cross k' L2 b n2 h2' hb2 hb1).elim
  ·rw [e4] at hb2; exact (cross k L1 b n1 h1' hb1 hb2).elim
  ·exact h.mem.apart k k' L1 L2 b h1' h2' hb1 hb2
 ·rcases inv k L1 hk with ⟨rfl,rfl⟩ | ⟨_,hk⟩
  ·rcases hb b' hb' with h3 | h3
   ·have:=hoff b' h3; exact ⟨this.1,vZZ this.2.1 g.size,this.2.2⟩
   ·exact ⟨fun hf=>by have:=(h.mem.fz b' hf).1; omega,h3.2,.inl (Nat.le_trans h.mem.grow.size h3.1)⟩
  ·have:=h.mem.off k L1 b' hk hb'
   exact ⟨this.1,vZZ this.2.1 g.size,this.2.2⟩
 ·refine ⟨g.os.trans h.mem.grow.os,g.tape.trans h.mem.grow.tape,g.output.trans h.mem.grow.output,Nat.le_trans h.mem.grow.size g.size,fun k hk hW => ?_⟩;rw [g.block k (vZZ hk h.mem.grow.size) fun e => ?_]
  ·exact h.mem.grow.block k hk hW
  ·rcases (hoff k e).2.2 with h1 | h1
   ·omega
   ·exact hW h1
end
section
variable {P:Program} {E:Env} {C:Cx} {ρ:Own} {F:Nat→Prop} {σ:St} {a:Act} {w:World} {vs:List RV} {e:Eff}
variable {d:Option Tmp} {ty:TypeId} {pos:String} {af:Array Edge} {g:Option (Nat × Bool)}
theorem qQQ {o:Oper} {v:Value} {w':World} {T:Value→World→Prop} (h:(execOp a.eval o).run P w=.ok (.value v) w') (hT:T v w'):Goes P o a w T:=by unfold Goes; rw [h]; exact hT
theorem zYK {o:Oper} {w':World} {T:Value→World→Prop} (h:(execOp a.eval o).run P w=.ok .skip w') (hT:T undef w'):Goes P o a w T:=by unfold Goes; rw [h]; exact hT
theorem uQ {x:Operand} {v:Value} (h:Rel' E C.n ρ F σ a w) (hx:ev (actS a) x=some v):a.eval x=v:=(fits_act h.size).ev hx
theorem new_blk (h:Rel' E C.n ρ F σ a w) {o:Oper} {id:Nat} {hs:List HV} {us:List Value} {t:TypeId} (hd:dstB C.n o.dst=true) (hid:qJB σ.M id) (hrun:(execOp a.eval o).run P w=.ok (.value (.pointer (some ⟨w.heap.size,0,none⟩))) (w.alloc (.cells us.toArray t)))
  (hal:Al (RH ρ F w) hs us) (h1:∀ u ∈ us,u.oneCell'=true):OK P E C σ a w (.new id (.blk hs) (.p id 0)) o:=by
 have gr:Grow w (w.alloc (.cells us.toArray t)):=(Grow.refl w).alloc _;have hF:∀ k,F k→F k∧(w.alloc (.cells us.toArray t)).heap[k]? = w.heap[k]?:=fun k hk=>⟨hk,gr.block k (h.mem.fz k hk).1⟩
 have hnone:ρ id=none:=h.mem.fresh hid;refine qQQ hrun ⟨updO ρ id (.blk w.heap.size),F,h.new (ent:=.blk hs) (x:=.p id 0) (L:=.blk w.heap.size) hid gr (fun b hb => ?_) ⟨w.heap.size,us,t,yW _ _ _,?_,hal.imp fun x y _ hr=>hr.mono (fun k L hk => ?_) hF,h1⟩ ⟨w.heap.size,yW _ _ _,rfl⟩ hd⟩
 ·simp only [Loc.bl,vQZ] at hb;subst hb;exact ⟨Nat.le_refl _,by show w.heap.size < (w.heap.push _).size; simp⟩
 ·show (w.heap.push _)[w.heap.size]? = _; simp
 ·rw [qYA (fun e=>by subst e; rw [hnone] at hk; cases hk)]; exact hk
theorem ok_alloc {t:TypeId} (hT:TabOk P C.T) (h:Rel' E C.n ρ F σ a w) (hd:dstB C.n d=true) (hvs:mapO (opv 0 σ) []=some vs) (he:qU C.T C.cA C.cB C.me (d.getD 0) (.alloc t) vs=some e) (hn:∀ i ∈ e.nw,qJB σ.M i):OK P E C σ a w e ⟨d,.alloc t,ty,pos,af,g⟩:=by
 simp [mapO] at hvs;subst hvs;simp only [qU,vQQ,vQZ] at he;obtain ⟨hs,hz,rfl⟩:=he;obtain ⟨z,hz,hal⟩:=hT.zh t hs hz;refine new_blk h hd (hn _ (by simp [Eff.new])) (us:=z.cells.toList) (t:=t) ?_ (hal.imp fun x y _ hr=>hr.1 ρ F w) (fun u hu => ?_)
 ·simp [execOp,Instr.alloc,qVF hz,newVar,newRow]
 ·obtain ⟨i,hi⟩:=List.mem_iff_getElem?.1 hu;have hil:=(List.getElem?_eq_some_iff.1 hi).1;have hl:i < hs.length:=by rw [hal.1]; exact hil
  exact (hal.2 i _ u (vQK hl) hi).2
theorem hcells_rel {r:RV} {hs:List HV} {v:Value} (hh:r.hcells=some hs) (hr:RH ρ F w r.back v):Al (RH ρ F w) hs v.cells.toList∧∀ u ∈ v.cells.toList,u.oneCell'=true:=by
 have one:∀ {x:HV},some [x]=some hs→v.oneCell'=true→v.cells=#[v]→RH ρ F w x v→Al (RH ρ F w) hs v.cells.toList∧∀ u ∈ v.cells.toList,u.oneCell'=true:=by
  intro x h1 h2 h3 h4;cases h1;rw [h3];exact ⟨Al.cons h4 Al.nil,fun u hu=>by simp at hu; subst hu; exact h2⟩
 cases r with
 | v p =>
  cases p with
  | a cs =>
   cases hh;obtain ⟨us,rfl,hal,h1⟩:=qGZ hr;exact ⟨Al.map_left (show Al (fun z y=>RH ρ F w (PV.toH z) y) cs us from hal.imp fun _ _ _ h=>zZW h),fun u hu=>h1 u hu⟩
  | t cs=>cases hh
  | lf n f=>have hr2:=zUC hr; generalize (List.range n).map f=rows at hr2; cases hr2 <;> exact one hh rfl rfl hr
  | zf n f j o=>obtain ⟨_,b,off,sz,g,rfl,_⟩:=zWX hr; exact one hh rfl rfl hr
  | _=>have hr2:RP F w _ v:=hr; cases hr2 <;> exact one hh rfl rfl hr
 | nl=>have:v=.slice none 0 0:=hr; subst this; exact one hh rfl rfl hr
 | o id e sz rows=>have hr2:=hr; obtain ⟨a',c,k,sz',_,rfl⟩:=hr2; exact one hh rfl rfl hr
 | p id off cells=>have hr2:=hr; obtain ⟨b,_,rfl⟩:=hr2; exact one hh rfl rfl hr
 | q id j off e sz rows=>have hr2:=hr; obtain ⟨b,c,k,sz',_,_,rfl⟩:=hr2; exact one hh rfl rfl hr
 | no id e n=>have hr2:=hr; obtain ⟨a',c,k,sz',_,rfl⟩:=hr2; exact one hh rfl rfl hr
 | nq id j off e ie isz rows pd=>have hr2:=hr; obtain ⟨b,c,k,sz',_,_,rfl⟩:=hr2; exact one hh rfl rfl hr
 | mi id j e ie isz rows pd=>have hr2:=hr; obtain ⟨a',c,k,sz',⟨_,rfl⟩,_⟩:=hr2; exact one hh rfl rfl hr
 | i id off s pos=>have hr2:=hr; obtain ⟨b,_,rfl⟩:=hr2; exact one hh rfl rfl hr
 | ld id i=>have hr2:=hr; obtain ⟨b,_,rfl⟩:=hr2; exact one hh rfl rfl hr
 | g fn first cap=>have hr2:=hr; obtain ⟨fs,cs,rfl,_⟩:=hr2; exact one hh rfl rfl hr
 | w x =>
  cases x with
  | un=>cases hh
  | v p=>cases hh
  | nl=>have:v=.slice none 0 0:=hr; subst this; exact one hh rfl rfl hr
  | o id=>have hr2:=hr; obtain ⟨a',c,k,sz',_,rfl⟩:=hr2; exact one hh rfl rfl hr
  | p id off=>have hr2:=hr; obtain ⟨b,_,rfl⟩:=hr2; exact one hh rfl rfl hr
  | q id j off=>have hr2:=hr; obtain ⟨b,c,k,sz',_,_,rfl⟩:=hr2; exact one hh rfl rfl hr
  | g fn first cap=>have hr2:=hr; obtain ⟨fs,cs,rfl,_⟩:=hr2; exact one hh rfl rfl hr
  | m id j=>have hr2:=hr; obtain ⟨a',c,k,sz',⟨_,rfl⟩,_⟩:=hr2; exact one hh rfl rfl hr
  | mp id j=>have hr2:=hr; obtain ⟨a',c,k,sz',⟨_,rfl⟩,_⟩:=hr2; exact one hh rfl rfl hr
  | ag cs =>
   cases hh;obtain ⟨us,rfl,hal,h1⟩:=hr;exact ⟨Al.map_left (show Al (fun z y=>RH ρ F w (HC.h z) y) cs us from hal.imp fun _ _ _ h=>h.h),fun u hu=>h1 u hu⟩
 | un=>cases hh
theorem ok_box {t:TypeId} {x:Operand} (h:Rel' E C.n ρ F σ a w) (hd:dstB C.n d=true) (hvs:mapO (opv 1 σ) [x]=some vs) (he:qU C.T C.cA C.cB C.me (d.getD 0) (.box t x) vs=some e) (hn:∀ i ∈ e.nw,qJB σ.M i):OK P E C σ a w e ⟨d,.box t x,ty,pos,af,g⟩:=by
 obtain ⟨r,hr,rfl⟩:=qWI hvs;obtain ⟨v,h1,h2,h3⟩:=yU h hr;simp only [qU,vQQ,vQZ] at he;obtain ⟨hs,hh,rfl⟩:=he;obtain ⟨q1,q2⟩:=hcells_rel hh h2;refine new_blk h hd (hn _ (by simp [Eff.new])) (us:=v.cells.toList) (t:=t) ?_ q1 q2;simp [execOp,Instr.box,uQ h h1,newVar,newRow]
theorem ok_store_blk2 {t:TypeId} {x y:Operand} {id off:Nat} {hc hs cs:List HV} {k:Bool × Nat} {v u:Value} (hT:TabOk P C.T) (h:Rel' E C.n ρ F σ a w) (hk:C.T.sz t=some k) (hx:ev (actS a) x=some v) (hy:ev (actS a) y=some u)
  (hv:RH ρ F w (.p id off) v) (hlk:qV σ.M id=some (.blk hc)) (q1:Al (RH ρ F w) hs u.cells.toList) (q2:∀ z ∈ u.cells.toList,z.oneCell'=true) (hl:hs.length=k.2) (hcs:qZY hc off hs=some cs) (hd:dstB C.n d=true) (hne:id ≠ pid2) :
  OK P E C σ a w (.set id (.blk cs) .un) ⟨d,.store t x y,ty,pos,af,g⟩:=by
 obtain ⟨b,hρ,rfl⟩:=hv;obtain ⟨b2,us,ty',hρ2,hheap,hcells,hone⟩:=h.mem.ent id _ hlk;rw [hρ] at hρ2;cases hρ2;obtain ⟨e1,e2⟩:=qWY hcs;have hul:u.cells.toList.length=hs.length:=q1.1.symm;have hst:=run_storeCells_at P b off ty' u.cells.toList 0 us.toArray w hheap (by rw [hul]; have:=hcells.1; simp only [List.size_toArray]; omega) q2;obtain ⟨R,hR,hst'⟩:∃ R:List Value,R=us.take off ++ u.cells.toList ++ us.drop (off + hs.length)∧(storeCells ⟨b,off,none⟩ u.cells.toList 0).run P w=.ok () (w.setRow b R.toArray):=⟨_,rfl,by rw [← hul]; simpa using hst⟩
 have hrun:(execOp a.eval ⟨d,.store t x y,ty,pos,af,g⟩).run P w=.ok .skip (w.setRow b R.toArray):=by
  have hz:u.cells.size=k.2:=by rw [← hl,← hul]; simp
  have hTt:=qJZ (hT.sz t k.1 k.2 hk).1;simp [execOp,uQ h hx,uQ h hy,Instr.storeAt,Instr.sureAddr,storeVar,hTt,hz,hst']
 have hset:=setRow_heap w b _ R.toArray ty' _ hheap;have hoff:=h.mem.off id _ b hρ rfl;have hF:∀ k,F k→F k∧(w.setRow b R.toArray).heap[k]? = w.heap[k]?:=fun k hk=>⟨hk,(GrowB.set b w R.toArray).block k (h.mem.fz k hk).1 fun e=>by subst e; exact hoff.1 hk⟩
 have hcs2:Al (RH ρ F w) cs R:=by
  rw [e1,hR];exact ((hcells.take off).append q1).append (hcells.drop _)
 refine zYK hrun ⟨ρ,F,h.set (ent:=.blk cs) (x:=.un) hρ rfl (GrowB.set b w R.toArray) ⟨b,R,ty',hρ,hset,hcs2.imp fun _ _ _ h=>h.mono (fun _ _ h=>h) hF,fun z hz => ?_⟩ trivial hd⟩;rw [hR] at hz;simp only [List.mem_append] at hz;rcases hz with (hz | hz) | hz
 ·exact hone z (List.mem_of_mem_take hz)
 ·exact q2 z hz
 ·exact hone z (List.mem_of_mem_drop hz)
theorem cvs_back {M:Mem}:∀ {hc:List HV} {cells:List CV},mapO (cvOf M) hc=some cells→cells.map CV.back=hc:=by
 intro hc;induction hc with
 | nil=>intro cells h; simp only [mapO,vQZ] at h; subst h; rfl
 | cons x hc ih =>
  intro cells h;simp only [mapO,vQQ,vQZ] at h;obtain ⟨c,hc1,l,hl,rfl⟩:=h;rw [List.map_cons,ih hl]
  have:c.back=x:=by
   cases x <;> simp only [cvOf] at hc1
   all_goals first | (cases hc1; rfl) | (split at hc1 <;> cases hc1 <;> rfl)
  rw [this]
theorem ok_store_blk {t:TypeId} {x y:Operand} {id off:Nat} {cells:List CV} {r:RV} {hs cs:List HV} {k:Bool × Nat} {v u:Value} (hT:TabOk P C.T) (h:Rel' E C.n ρ F σ a w) (hk:C.T.sz t=some k) (hx:ev (actS a) x=some v) (hy:ev (actS a) y=some u)
  (hv:RH ρ F w (.p id off) v) (hres:RRes σ.M (.p id off cells)) (hu:RH ρ F w r.back u) (hh:r.hcells=some hs) (hl:hs.length=k.2) (hcs:qZY (cells.map CV.back) off hs=some cs) (hd:dstB C.n d=true) (hne:id ≠ pid2) :
  OK P E C σ a w (.set id (.blk cs) .un) ⟨d,.store t x y,ty,pos,af,g⟩:=by
 obtain ⟨hc,hlk,hcc⟩:=hres;obtain ⟨q1,q2⟩:=hcells_rel hh hu;exact ok_store_blk2 hT h hk hx hy hv hlk q1 q2 hl (by rw [← cvs_back hcc]; exact hcs) hd hne
end
end Go.Rx
namespace Go.Rx
open Go.RowKit Go.Sx
section
variable {P:Program} {E:Env} {C:Cx} {ρ:Own} {F:Nat→Prop} {σ:St} {a:Act} {w:World} {vs:List RV} {e:Eff}
variable {d:Option Tmp} {ty:TypeId} {pos:String} {af:Array Edge} {g:Option (Nat × Bool)}
theorem rel_reg (h:Rel' E C.n ρ F σ a w) {id e' sz c:Nat} {ad:Option Addr} {rows:Rows} {vr:List (List Value)} {w':World} {dst:Option Nat} (hd:dstB C.n dst=true) (hid:qJB σ.M id) (gr:Grow w w')
  (hb:∀ b,ad.map (·.block)=some b→w.heap.size≤b∧b < w'.heap.size) (h0:0 < sz) (hal:Al (Al (RP F w)) rows.L vr) (hrl:∀ r ∈ rows.L,r.length=sz) (hone:∀ v ∈ vr,∀ u ∈ v,u.oneCell'=true)
  (hown:w'.ownsRow 0 e' sz (.slice ad rows.len c) rows.len vr.flatten):Rel E C.n (σ.apply (.new id (.reg e' sz rows) (.o id)) dst) (a.put dst (.slice ad rows.len c)) w':=by
 have hF:∀ k,F k→F k∧w'.heap[k]? = w.heap[k]?:=fun k hk=>⟨hk,gr.block k (h.mem.fz k hk).1⟩
 exact ⟨updO ρ id (.reg ad c rows.len sz),F,h.new (ent:=.reg e' sz rows) (x:=.o id) (L:=.reg ad c rows.len sz) hid gr hb ⟨ad,c,vr,yW _ _ _,h0,hal.imp fun _ _ _ h=>h.imp fun _ _ _ h=>h.mono hF,hrl,hone,hown⟩ ⟨ad,c,rows.len,sz,yW _ _ _,rfl⟩ hd⟩
theorem qGJ {nw:Rows} {rows:List (List PV)} (hN:nw.L=rows) (h:Rel' E C.n ρ F σ a w) {id e' sz c:Nat} {ad:Option Addr} {vr:List (List Value)} {w':World} {dst:Option Nat} (hd:dstB C.n dst=true) (hid:qJB σ.M id) (gr:Grow w w')
  (hb:∀ b,ad.map (·.block)=some b→w.heap.size≤b∧b < w'.heap.size) (h0:0 < sz) (hal:Al (Al (RP F w)) rows vr) (hrl:∀ r ∈ rows,r.length=sz) (hone:∀ v ∈ vr,∀ u ∈ v,u.oneCell'=true)
  (hown:w'.ownsRow 0 e' sz (.slice ad rows.length c) rows.length vr.flatten):Rel E C.n (σ.apply (.new id (.reg e' sz nw) (.o id)) dst) (a.put dst (.slice ad rows.length c)) w':=by
 subst hN;rw [Rows.len_L] at hown ⊢;exact rel_reg h hd hid gr hb h0 hal hrl hone hown
theorem zZA {α:Type} (x:α):∀ k,(qJE x k).length=k
 | 0=>rfl
 | k + 1=>by rw [qJE,vQX,zZA x k]
theorem replL_map {α:Type} (x:α) (n:Nat):(List.range n).map (fun _=>x)=qJE x n:=by
 have:∀ n,qJE x n=List.replicate n x:=fun n=>by
  induction n with
  | zero=>rfl
  | succ n ih=>rw [qJE,ih]; rfl
 rw [this,List.map_const',List.length_range]
theorem flatten_take {sz n:Nat} {vr:List (List Value)} (h:∀ r ∈ vr,r.length=sz):(vr.take n).flatten=vr.flatten.take (n * sz):=by
 induction vr generalizing n with
 | nil=>simp
 | cons r vr ih =>
  cases n with
  | zero=>simp
  | succ n =>
   have hr:=h r vQG;simp only [List.take_succ_cons,List.flatten_cons,ih fun x hx=>h x (vQV _ hx)];have e1:r.take ((n + 1) * sz)=r:=List.take_of_length_le (by rw [hr,Nat.add_mul]; omega);rw [List.take_append,e1,hr,show (n + 1) * sz - sz=n * sz by rw [Nat.add_mul]; omega]
theorem qQU {x k:Nat}:yK [(x,(none:Option Rows))] k=if x=k then some none else none:=by
 simp only [yK];by_cases e:x=k
 ·subst e; simp
 ·simp [uW e,e]
noncomputable def newN (ρ:Own) (id:Nat) (L:Loc) (isz:Nat):Own:=fun k=>if k=id then some L else @ite _ (∃ j,k=nid id j) (vYQ _) (some (.inn none 0 0 isz)) (ρ k)
theorem zWC (ρ:Own) (id:Nat) (L:Loc) (isz:Nat):newN ρ id L isz id=some L:=if_pos rfl
theorem newN_in {ρ:Own} {id:Nat} {L:Loc} {isz:Nat} (_:id < 2000000) (j:Nat):newN ρ id L isz (nid id j)=some (.inn none 0 0 isz):=by
 unfold newN;rw [if_neg (by have:=qKI id j; omega),if_pos ⟨j,rfl⟩]
theorem zWB {ρ:Own} {id k:Nat} {L:Loc} {isz:Nat} (h1:k ≠ id) (h2:∀ j,k ≠ nid id j):newN ρ id L isz k=ρ k:=by
 unfold newN;rw [if_neg h1,if_neg (fun ⟨j,e⟩=>h2 j e)]
theorem qKY {ρ:Own} {id k:Nat} {L L':Loc} {isz:Nat} (h:newN ρ id L isz k=some L'):(k=id∧L'=L) ∨ (k ≠ id∧(∃ j,k=nid id j)∧L'=.inn none 0 0 isz) ∨ (k ≠ id∧(∀ j,k ≠ nid id j)∧ρ k=some L'):=by
 by_cases h1:k=id
 ·subst h1; rw [zWC] at h; cases h; exact .inl ⟨rfl,rfl⟩
 ·by_cases h2:∃ j,k=nid id j
  ·unfold newN at h; rw [if_neg h1,if_pos h2] at h; cases h; exact .inr (.inl ⟨h1,h2,rfl⟩)
  ·have h2':∀ j,k ≠ nid id j:=fun j e=>h2 ⟨j,e⟩
   rw [zWB h1 h2'] at h; exact .inr (.inr ⟨h1,h2',h⟩)
theorem Rel'.newN {n:Nat} (h:Rel' E n ρ F σ a w) {id:Nat} (hid:qJB σ.M id) {e ie isz b c:Nat} {rows:NR} {w':World} (g:Grow w w') (hb:w.heap.size≤b∧b < w'.heap.size) (hs:0 < isz)
  (hown:w'.ownsRow 0 e 1 (.slice (some ⟨b,0,none⟩) rows.len c) rows.len ((List.range rows.len).map fun _=>.slice none 0 0)) (hrow:∀ v,v < rows.len→∃ r,rows.at v=some r∧r.L=[]) {dst:Option Nat} (hd:dstB n dst=true) :
  Rel' E n (newN ρ id (.reg (some ⟨b,0,none⟩) c rows.len 1) isz) F (σ.apply ⟨[(id,some (.nst e ie isz rows none))],[(mid id,none)],.o id,[id]⟩ dst) (a.put dst (.slice (some ⟨b,0,none⟩) rows.len c)) w':=by
 have hnone:ρ id=none:=h.mem.fresh hid;have hlt:=hid.2;have old:∀ k L',ρ k=some L'→L'.inner=false→Go.Rx.newN ρ id (.reg (some ⟨b,0,none⟩) c rows.len 1) isz k=some L':=fun k L' hk hi=>by
  rw [zWB (fun e=>by subst e; rw [hnone] at hk; cases hk) fun j e=>by have h1:=h.mem.lt hk hi; have h2:=qKI id j; omega]; exact hk
 refine h.apply2 ⟨[(id,some (.nst e ie isz rows none))],[(mid id,none)],.o id,[id]⟩ dst _ (fun d e=>by subst e; simpa [dstB] using hd)
  ⟨fun k b hk=>old k _ hk rfl,fun k L' hk _ hi=>old k L' hk hi,fun k j a' c' kk s hk2 hk _ hs2 => ?_,fun k rows a' c' kk sz _ hs=>(by simp only [qQU] at hs; split at hs <;> cases hs),fun k hk=>⟨hk,g.block k (h.mem.fz k hk).1⟩⟩ ⟨_,_,_,_,zWC _ _ _ _,rfl⟩
  (fun k L' b' _ _ hk hb'=>g.block b' (h.mem.off k L' b' hk hb').2.1) (fun k hk _ => ?_) (fun k hk hu => ?_) (fun k y hu => ?_) (fun k L' hu hL hi => ?_) (fun k y hu => ?_) (fun k L' hL hi => ?_) (fun k k' L1 L2 b' h1 h2 hb1 hb2 => ?_) (fun k L' b' hk hb' => ?_) (fun k hk=>⟨vZZ (h.mem.fz k hk).1 g.size,(h.mem.fz k hk).2⟩) (qXY h.mem.grow g) (fun b hb=>zYG (zKH hnone hb))
 ·have hne:k ≠ id:=fun e=>by subst e; simp [qQU] at hs2
  rw [zWB (by have:=qKI k j; omega) fun j' e=>hne (zZI hk2 hlt e).1]; exact hk
 ·simp only [qQU]; rw [if_neg (by unfold mid; omega)]
 ·simp only [jX] at hu;simp only [qQU];split at hu
  ·cases hu
  ·rename_i hne; rw [if_neg (by unfold mid; omega)]
 ·simp only [jX] at hu;split at hu
  ·rename_i e; rw [← e]; exact hlt
  ·cases hu
 ·simp only [jX] at hu;split at hu
  ·cases hu
  ·rename_i hne;rcases qKY hL with ⟨e1,_⟩ | ⟨_,_,rfl⟩ | ⟨_,_,h3⟩
   ·exact absurd e1.symm hne
   ·cases hi
   ·exact h3
 ·simp only [jX] at hu;split at hu
  ·rename_i he;cases hu;subst he;refine ⟨some ⟨b,0,none⟩,c,fun _=>.slice none 0 0,zWC _ _ _ _,⟨hlt,hs⟩,hown,fun _ _=>rfl,(fun j r e=>by cases e),fun v hv => ?_⟩;obtain ⟨r,hr,hrL⟩:=hrow v hv;have hr0:r.len=0:=by rw [← Rows.len_L,hrL]; rfl
   exact ⟨r,none,0,[],hr,by rw [hr0]; exact newN_in hlt v,fun _=>by rw [hr0],by rw [hrL]; exact Al.nil,(fun x hx=>by rw [hrL] at hx; cases hx),(fun x hx=>by cases hx),by rw [hr0]; exact ⟨by simp,.inl (by simp)⟩⟩
  ·cases hu
 ·rcases qKY hL with ⟨_,rfl⟩ | ⟨_,⟨j,rfl⟩,_⟩ | ⟨_,_,h3⟩
  ·cases hi
  ·exact qKI id j
  ·exact h.mem.inr k L' h3 hi
 ·rcases qKY h1 with ⟨e1,rfl⟩ | ⟨_,_,rfl⟩ | ⟨_,_,h1'⟩
  ·rcases qKY h2 with ⟨e2,_⟩ | ⟨_,_,rfl⟩ | ⟨_,_,h2'⟩
   ·rw [e1,e2]
   ·cases hb2
   ·have:=(h.mem.off k' L2 b' h2' hb2).2.1
    simp only [Loc.bl,Option.map_some,vQZ] at hb1;omega
  ·cases hb1
  ·rcases qKY h2 with ⟨_,rfl⟩ | ⟨_,_,rfl⟩ | ⟨_,_,h2'⟩
   ·have:=(h.mem.off k L1 b' h1' hb1).2.1
    simp only [Loc.bl,Option.map_some,vQZ] at hb2;omega
   ·cases hb2
   ·exact h.mem.apart k k' L1 L2 b' h1' h2' hb1 hb2
 ·rcases qKY hk with ⟨_,rfl⟩ | ⟨_,_,rfl⟩ | ⟨_,_,hk'⟩
  ·simp only [Loc.bl,Option.map_some,vQZ] at hb';subst hb';exact ⟨fun hf=>by have:=(h.mem.fz b hf).1; omega,hb.2,.inl (Nat.le_trans h.mem.grow.size hb.1)⟩
  ·cases hb'
  ·have:=h.mem.off k L' b' hk' hb'
   exact ⟨this.1,vZZ this.2.1 g.size,this.2.2⟩
theorem ok_make {t:TypeId} {x y:Operand} (hT:TabOk P C.T) (h:Rel' E C.n ρ F σ a w) (hd:dstB C.n d=true) (hvs:mapO (opv 0 σ) [x,y]=some vs) (he:qU C.T C.cA C.cB C.me (d.getD 0) (.makeSlice t x y) vs=some e) (hn:∀ i ∈ e.nw,qJB σ.M i):OK P E C σ a w e ⟨d,.makeSlice t x y,ty,pos,af,g⟩:=by
 obtain ⟨rx,ry,hx,hy,rfl⟩:=zHB hvs;obtain ⟨vx,x1,x2,_⟩:=yU h hx;obtain ⟨vy,y1,y2,_⟩:=yU h hy;cases rx with
 | v px =>
  cases ry with
  | v py =>
   cases px with
   | n k1 m =>
    cases py with
    | n k2 c =>
     simp only [qU,vQQ] at he;obtain ⟨⟨el,sz⟩,hsl,zs,hzs,he⟩:=he;cases hzf:(C.T.zf C.me && (decide (m=0) && decide (c=0))) with
     | true =>
      rw [hzf,vYZ] at he;cases he;simp only [vQJ,decide_eq_true_eq] at hzf;obtain ⟨_,rfl,rfl⟩:=hzf;rw [qQK x2] at x1; rw [qQK y2] at y1;obtain ⟨hslc,hs0,hsk,bytes,happ,hby,_⟩:=hT.sl t el sz hsl;obtain ⟨z,hz,hal⟩:=hT.zr el zs hzs;obtain ⟨ht,i,z',hi,hz',hisz,hib,hzc,hzl,_⟩:=qJI happ hz;have hrun:=run_make (P:=P) w t el i z' ht hi hz' k1 k2 0 0 (by decide) (by decide) (by simp) (by decide);refine qQQ (by simp only [execOp,uQ h x1,uQ h y1,Sem.run_bind,hrun]; rfl) ?_;exact ⟨ρ,F,h.val ((Grow.refl w).alloc _) (fun _ h=>h) (fun _ h=>.inl h) (x:=.v .ze) (RP.ze _) hd⟩
     | false =>
     rw [hzf,vYY] at he;cases hnf:C.T.nf C.me with
     | true =>
      rw [hnf,vYZ] at he;simp only [vQQ] at he;obtain ⟨⟨ie,isz⟩,hsl2,z2,hz2,he⟩:=he;split at he
      ·obtain ⟨hb,he⟩:=qQ he;simp only [vQZ] at he;subst he;simp only [vQJ,decide_eq_true_eq] at hb;obtain ⟨⟨⟨hm0,hmc⟩,hc6⟩,hs1⟩:=hb;have hs1:sz=1:=vQU hs1;subst hs1;rw [qQK x2] at x1; rw [qQK y2] at y1;obtain ⟨hslc,hs0,hsk,bytes,happ,hby,_⟩:=hT.sl t el 1 hsl;obtain ⟨z,hz,hal⟩:=hT.zr el _ hzs;obtain ⟨ht,i,z',hi,hz',hisz,hib,hzc,hzl,_⟩:=qJI happ hz;have hzz:z'=z:=by
        unfold qQW at hz;rw [hi] at hz;simp only [vZV] at hz;rw [hz'] at hz; exact Option.some.inj hz
       subst hzz;have hrun:=run_make (P:=P) w t el i z' ht hi hz' k1 k2 m c hm0 hmc (by
        have hb1:(i.bytes:Int)≤100000:=by rw [hib]; omega
        have hc0:0≤c:=by omega
        calc (i.bytes:Int) * c≤100000 * c:=Int.mul_le_mul_of_nonneg_right hb1 hc0
         _≤281474976710656:=by omega) (by omega)
       have hrow:=made_rows (zs:=z'.cells.toList) (m:=c.toNat) hzl hs0;rw [Array.toArray_toList] at hrow;rw [hisz,hrow] at hrun;have hle:m.toNat≤c.toNat:=by omega
       have hcell:z'.cells.toList=[.slice none 0 0]:=by
        obtain ⟨u,us,e1,hu,hus⟩:=hal.cons_left
        have:=hus.nil_left
        subst this;have hu1:=hu.1 F w;cases hu1;exact e1
       have hrl:(bif C.T.ff C.me then NR.fo m.toNat (fun _=>.fo 0 (fun _=>z2)) else NR.l (qJE (.l []) m.toNat)).len=m.toNat:=by
        cases C.T.ff C.me
        ·exact zZA _ _
        ·rfl
       have hat:∀ v,v < m.toNat→∃ r,(bif C.T.ff C.me then NR.fo m.toNat (fun _=>.fo 0 (fun _=>z2)) else NR.l (qJE (.l []) m.toNat)).at v=some r∧r.L=[]:=by
        intro v hv;cases C.T.ff C.me
        ·refine ⟨.l [],?_,rfl⟩;show (qJE (Rows.l []) m.toNat)[v]? = _;rw [← replL_map,vQH,List.getElem?_range hv]; rfl
        ·exact ⟨_,rfl,rfl⟩
       generalize (bif C.T.ff C.me then NR.fo m.toNat (fun _=>.fo 0 (fun _=>z2)) else NR.l (qJE (.l []) m.toNat))=R0 at hrl hat hn ⊢;refine qQQ (v:=.slice (some ⟨w.heap.size,0,none⟩) m.toNat c.toNat) (w':=w.alloc (.cells (List.replicate c.toNat z'.cells.toList).flatten.toArray el)) (by simp only [execOp,uQ h x1,uQ h y1,Sem.run_bind,hrun]; rfl) ?_;have hflat:∀ k:Nat,(List.replicate k z'.cells.toList).flatten=List.replicate k (.slice none 0 0):=fun k=>by
        rw [hcell];induction k with
        | zero=>rfl
        | succ k ih=>rw [List.replicate_succ,List.flatten_cons,ih]; rfl
       have:=h.newN (id:=d.getD 0) (e:=el) (ie:=ie) (isz:=isz) (b:=w.heap.size) (c:=c.toNat) (rows:=R0) (hn _ (by simp)) ((Grow.refl w).alloc (.cells (List.replicate c.toNat z'.cells.toList).flatten.toArray el)) ⟨Nat.le_refl _,by show w.heap.size < (w.heap.push _).size; simp⟩ (hT.sl el ie isz hsl2).2.1
        ⟨?_,.inr ⟨w.heap.size,c.toNat,(List.replicate c.toNat z'.cells.toList).flatten.toArray,rfl,Nat.zero_le _,?_,?_,?_,?_,?_⟩⟩ (by rw [hrl]; exact hat) hd
       ·rw [hrl] at this; exact ⟨_,_,this⟩
       ·simp
       ·show (w.heap.push _)[w.heap.size]? = _; simp
       ·rw [hrl]; exact hle
       ·show c.toNat≤9223372036854775807; omega
       ·rw [List.size_toArray,hflat]; simp
       ·rw [hrl,hflat,List.toList_toArray,List.take_replicate,Nat.mul_one,Nat.min_eq_left hle,List.map_const',List.length_range]
      ·cases he
     | false =>
     rw [hnf,vYY] at he;obtain ⟨hb,he⟩:=qQ he;simp only [vQZ] at he;subst he;simp only [vQJ,decide_eq_true_eq] at hb;obtain ⟨⟨hm0,hmc⟩,hc6⟩:=hb;rw [qQK x2] at x1; rw [qQK y2] at y1;obtain ⟨hslc,hs0,hsk,bytes,happ,hby,_⟩:=hT.sl t el sz hsl;obtain ⟨z,hz,hal⟩:=hT.zr el zs hzs;obtain ⟨ht,i,z',hi,hz',hisz,hib,hzc,hzl,_⟩:=qJI happ hz;have hzz:z'=z:=by
      unfold qQW at hz;rw [hi] at hz;simp only [vZV] at hz;rw [hz'] at hz; exact Option.some.inj hz
     subst hzz;have hrun:=run_make (P:=P) w t el i z' ht hi hz' k1 k2 m c hm0 hmc (by
      have hb1:(i.bytes:Int)≤100000:=by rw [hib]; omega
      have hc0:0≤c:=by omega
      calc (i.bytes:Int) * c≤100000 * c:=Int.mul_le_mul_of_nonneg_right hb1 hc0
       _≤281474976710656:=by omega) (by omega)
     have hrow:=made_rows (zs:=z'.cells.toList) (m:=c.toNat) hzl hs0;rw [Array.toArray_toList] at hrow;rw [hisz,hrow] at hrun;have hle:m.toNat≤c.toNat:=by omega
     have hrep:(List.replicate m.toNat z'.cells.toList)=(List.replicate c.toNat z'.cells.toList).take m.toNat:=by rw [List.take_replicate,Nat.min_eq_left hle]
     have hzlen:zs.length=sz:=by rw [hal.1]; exact hzl
     have hRL:(bif C.T.ff C.me then Rows.fo m.toNat (fun _=>zs) else Rows.l (qJE zs m.toNat)).L=qJE zs m.toNat:=by
      cases C.T.ff C.me
      ·rfl
      ·exact replL_map zs m.toNat
     have hrl:(bif C.T.ff C.me then Rows.fo m.toNat (fun _=>zs) else Rows.l (qJE zs m.toNat)).len=m.toNat:=by rw [← Rows.len_L,hRL,zZA]
     generalize (bif C.T.ff C.me then Rows.fo m.toNat (fun _=>zs) else Rows.l (qJE zs m.toNat))=R0 at hRL hrl hn ⊢;refine qQQ (v:=.slice (some ⟨w.heap.size,0,none⟩) m.toNat c.toNat) (w':=w.alloc (.cells (List.replicate c.toNat z'.cells.toList).flatten.toArray el)) (by simp only [execOp,uQ h x1,uQ h y1,Sem.run_bind,hrun]; rfl) ?_
     have:=rel_reg (id:=d.getD 0) (e':=el) (sz:=sz) (c:=c.toNat) (ad:=some ⟨w.heap.size,0,none⟩) (rows:=R0) (vr:=List.replicate m.toNat z'.cells.toList) h hd (hn _ (by simp [Eff.new])) ((Grow.refl w).alloc (.cells (List.replicate c.toNat z'.cells.toList).flatten.toArray el)) (fun b hb => ?_) hs0
      (by rw [hRL]; exact Al.repl (hal.imp fun _ _ _ h=>h.1 F w) _) (fun r hr => ?_) (fun v hv u hu => ?_) ⟨?_,.inr ⟨w.heap.size,c.toNat,(List.replicate c.toNat z'.cells.toList).flatten.toArray,rfl,Nat.zero_le _,?_,?_,?_,?_,?_⟩⟩
     ·rw [hrl] at this; exact this
     ·simp only [Option.map_some,vQZ] at hb;subst hb;exact ⟨Nat.le_refl _,by show w.heap.size < (w.heap.push _).size; simp⟩
     ·have:∀ k,r ∈ qJE zs k→r=zs:=fun k=>by
       induction k with
       | zero=>intro h; cases h
       | succ k ih=>intro h; rcases List.mem_cons.1 h with h | h; exact h; exact ih h
      rw [hRL] at hr;rw [this _ hr]; exact hzlen
     ·rw [List.eq_of_mem_replicate hv] at hu;obtain ⟨j,hj⟩:=List.mem_iff_getElem?.1 hu;have hjl:=(List.getElem?_eq_some_iff.1 hj).1;have hl:j < zs.length:=by rw [hal.1]; exact hjl
      exact (hal.2 j _ u (vQK hl) hj).2
     ·rw [hrl,rows_len (sz:=sz) _ (fun r hr=>by rw [List.eq_of_mem_replicate hr]; exact hzl)]; simp
     ·show (w.heap.push _)[w.heap.size]? = _; simp
     ·rw [hrl]; exact hle
     ·show c.toNat≤9223372036854775807; omega
     ·rw [List.size_toArray,rows_len (sz:=sz) _ (fun r hr=>by rw [List.eq_of_mem_replicate hr]; exact hzl)]; simp
     ·rw [hrl,hrep,flatten_take (sz:=sz) (fun r hr=>by rw [List.eq_of_mem_replicate hr]; exact hzl)]
    | _=>simp only [qU] at he; cases he
   | _=>simp only [qU] at he; cases he
  | _=>cases px <;> (simp only [qU] at he; cases he)
 | _=>simp only [qU] at he; cases he
end
end Go.Rx

/- Part 12 of the texts behind the last one: rules and contracts. No condition. -/
import Derived.Test.YtklmegnpfhiibaaGreatBK11
open Option renaming bind_eq_some_iff → vQQ
open Option.some renaming injEq → vQZ
open List renaming getElem?_eq_getElem → vQK
open Nat renaming lt_of_lt_of_le → vZZ
namespace Go.Rx
open Go.RowKit Go.Sx
def RRet (F:Nat→Prop) (w w':World):Ret→Value→Prop
 | .v x,v=>RP F w' x v
 | .ow e sz rows,v=>∃ ad c vr,v=.slice ad rows.len c∧0 < sz∧Al (Al (RP F w')) rows.L vr∧(∀ r ∈ rows.L,r.length=sz)∧(∀ v ∈ vr,∀ u ∈ v,u.oneCell'=true)∧w'.ownsRow 0 e sz (.slice ad rows.len c) rows.len vr.flatten ∧
   ∀ b,ad.map (·.block)=some b→¬ F b∧w.heap.size≤b∧b < w'.heap.size
 | .pb cells,v=>∃ b us ty,v=.pointer (some ⟨b,0,none⟩)∧w'.heap[b]? = some (.cells us.toArray ty)∧Al (RP F w') cells us∧(∀ u ∈ us,u.oneCell'=true)∧¬ F b∧w.heap.size≤b∧b < w'.heap.size
 | .oa xs e sz rows,v=>∃ us ad c vr,v=.agg (us ++ [.slice ad rows.len c]).toArray∧Al (RP F w') xs us∧(∀ u ∈ us,u.oneCell'=true)∧0 < sz∧Al (Al (RP F w')) rows.L vr∧(∀ r ∈ rows.L,r.length=sz)∧(∀ v ∈ vr,∀ u ∈ v,u.oneCell'=true)∧w'.ownsRow 0 e sz (.slice ad rows.len c) rows.len vr.flatten ∧
   ∀ b,ad.map (·.block)=some b→¬ F b∧w.heap.size≤b∧b < w'.heap.size
def SndA (P:Program) (cA:yZZ):Prop:=∀ g ps r,cA g ps=some r→kJ P g∧∀ (w:World) (F:Nat→Prop) (vals:List Value),(∀ k,F k→k < w.heap.size)→Al (RP F w) ps vals →
 Calls P g vals.toArray w (fun e w'=>∃ v F',e=.returned v∧Grow w w'∧(∀ k,F k→F' k)∧(∀ k,F' k→F k ∨ (w.heap.size≤k∧k < w'.heap.size))∧RRet F' w w' r v)
section
variable {P:Program} {E:Env} {C:Cx} {ρ:Own} {F:Nat→Prop} {σ:St} {a:Act} {w:World} {vs:List RV} {e:Eff}
variable {d:Option Tmp} {ty:TypeId} {pos:String} {af:Array Edge} {g:Option (Nat × Bool)}
theorem Rel'.adopt {n:Nat} (h:Rel' E n ρ F σ a w) {F':Nat→Prop} {id:Nat} (hid:qJB σ.M id) {ent:Ent} {L:Loc} {w':World} (g:Grow w w') (hF:∀ k,F k→F' k) (hF':∀ k,F' k→F k ∨ (w.heap.size≤k∧k < w'.heap.size))
  (hb:∀ b,L.bl=some b→¬ F' b∧w.heap.size≤b∧b < w'.heap.size) (hent:EntOk (updO ρ id L) F' w' id ent)
  {x:HV} {v:Value} (hx:RH (updO ρ id L) F' w' x v) {dst:Option Nat} (hd:dstB n dst=true):Rel' E n (updO ρ id L) F' (σ.apply (.new id ent x) dst) (a.put dst v) w':=by
 have hnone:ρ id=none:=h.mem.fresh hid;have old:∀ k L',ρ k=some L'→updO ρ id L k=some L':=fun k L' hk=>by
  rw [qYA (fun e=>by subst e; rw [hnone] at hk; cases hk)]; exact hk
 have inv:∀ k L',updO ρ id L k=some L'→(k=id∧L'=L) ∨ (k ≠ id∧ρ k=some L'):=fun k L' hk=>by
  by_cases e:k=id
  ·subst e; rw [yW] at hk; cases hk; exact .inl ⟨rfl,rfl⟩
  ·rw [qYA e] at hk; exact .inr ⟨e,hk⟩
 have blk:∀ k L' b,ρ k=some L'→L'.bl=some b→b < w.heap.size:=fun k L' b hk hb'=>(h.mem.off k L' b hk hb').2.1
 refine h.apply (.new id ent x) dst v (fun d e=>by subst e; simpa [dstB] using hd) ⟨fun k b hk=>old k _ hk,fun k L' hk _ _=>old k L' hk,fun k j a' c' kk s _ hk _ _=>old _ _ hk,fun k rows a' c' kk sz _ hs=>by simp [Eff.new,yK] at hs,fun k hk=>⟨hF k hk,g.block k (h.mem.fz k hk).1⟩⟩ hx
  (fun k L' b _ hk hb'=>g.block b (blk k L' b hk hb')) (fun _ _=>rfl) (fun k y hu => ?_) (fun k hu => ?_) (fun k y hu => ?_) (fun k k' L1 L2 b h1 h2 hb1 hb2 => ?_) (fun k L' b hk hb' => ?_) (fun k hk => ?_) (qXY h.mem.grow g) (fun b hb=>zYG (zKH hnone hb))
 ·simp only [Eff.new,jX] at hu;split at hu
  ·rename_i e; rw [← e]; exact hid.2
  ·cases hu
 ·simp only [Eff.new,jX] at hu;split at hu
  ·cases hu
  ·rename_i hne; exact qYA (Ne.symm hne)
 ·simp only [Eff.new,jX] at hu;split at hu
  ·rename_i he; cases hu; subst he; exact hent
  ·cases hu
 ·rcases inv k L1 h1 with ⟨e1,e2⟩ | ⟨n1,h1'⟩ <;> rcases inv k' L2 h2 with ⟨e3,e4⟩ | ⟨n2,h2'⟩
  ·rw [e1,e3]
  ·rw [e2] at hb1; have:=(hb b hb1).2.1; have:=blk k' L2 b h2' hb2; omega
  ·rw [e4] at hb2; have:=(hb b hb2).2.1; have:=blk k L1 b h1' hb1; omega
  ·exact h.mem.apart k k' L1 L2 b h1' h2' hb1 hb2
 ·rcases inv k L' hk with ⟨rfl,rfl⟩ | ⟨_,hk⟩
  ·have:=hb b hb'
   exact ⟨this.1,this.2.2,.inl (Nat.le_trans h.mem.grow.size this.2.1)⟩
  ·have:=h.mem.off k L' b hk hb'
   exact ⟨fun hf=>by rcases hF' b hf with h1 | h1; exact this.1 h1; omega,vZZ this.2.1 g.size,this.2.2⟩
 ·rcases hF' k hk with h1 | h1
  ·exact ⟨vZZ (h.mem.fz k h1).1 g.size,(h.mem.fz k h1).2⟩
  ·exact ⟨h1.2,.inr (.inl (Nat.le_trans h.mem.grow.size h1.1))⟩
theorem apply_frz {rs:Regs} {x:HV} {dst:Option Nat}:Eqv ((σ.apply (.frz rs .un) none).apply (.val x) dst) (σ.apply (.frz rs x) dst):=by
 have e1:∀ y,(Eff.frz rs y).up=rs.map fun r=>(r.1,none):=fun y=>by cases rs <;> rfl
 have e2:∀ y,(Eff.frz rs y).sb=rs.map fun r=>(r.1,some r.2):=fun y=>by cases rs <;> rfl
 have e3:∀ y,(Eff.frz rs y).x=y:=fun y=>by cases rs <;> rfl
 refine ⟨fun t => ?_,fun i => ?_⟩
 ·rw [qYV,qYV,qYV,e2,e2];simp only [e3];by_cases h:dst=some t
  ·rw [if_pos h,if_pos h]; rfl
  ·rw [if_neg h,if_neg h,if_neg (by simp)];cases kH σ.S t <;> simp [Eff.val,HV.sub_nil]
 ·rw [qQY,qQY,qQY,e1,e1,e2,e2];cases yZ (rs.map fun r=>(r.1,(none:Option Ent))) i with
  | some y=>cases y <;> simp [Eff.val,yZ,Ent.sub_nil]
  | none=>cases qV σ.M i <;> simp [Eff.val,yZ,Ent.sub_nil]
def allF (ρ:Own) (F:Nat→Prop):Nat→Prop:=fun k=>F k ∨ ∃ id L,ρ id=some L∧L.bl=some k
theorem cells_fz {M:Mem} {hc:List HV} {cs:List CV} {ps:List PV} {us:List Value} {F':Nat→Prop} (hm:MemOk E ρ F M w) (hF:∀ k,F k→F' k) (hall:∀ id ad c k s b,ρ id=some (.reg ad c k s)→ad.map (·.block)=some b→F' b) (h:mapO (cvOf M) hc=some cs) (hal:Al (RH ρ F w) hc us) (hp:mapO CV.fz cs=some ps):Al (RP F' w) ps us:=by
 have hcv:=qJV h hal;have h1:=yJ hp;refine ⟨by rw [← h1.1,hcv.1],fun i p v hpi hv => ?_⟩;have hil:=(List.getElem?_eq_some_iff.1 hpi).1;have hl:i < cs.length:=by rw [h1.1]; exact hil
 have hfz:=h1.2 i _ p (vQK hl) hpi;obtain ⟨hrh,ho⟩:=hcv.2 i _ v (vQK hl) hv;generalize cs[i]=c at hfz hrh ho;unfold CV.fz at hfz;split at hfz
 ·cases hfz; exact RP.mono (fun k hk=>⟨hF k hk,rfl⟩) hrh
 ·cases hfz; have:v=.slice none 0 0:=hrh; subst this; exact .l0 _ _
 ·rename_i id e' sz rows;cases hfz;obtain ⟨ad,c',k,sz',hρ,rfl⟩:=hrh;exact (uZ (hm.ent id _ (ho _ _ _ _ rfl)) hF (fun L b hL hb=>by rw [hρ] at hL; cases hL; exact hall id _ _ _ _ b hρ hb) ad c' k sz' hρ).1
 ·cases hfz
theorem zJJ {M:Mem} {F':Nat→Prop} (hm:MemOk E ρ F M w) (hF:∀ k,F k→F' k) {r:RV} {p:PV} {v:Value} (hp:r.fz=some p) (hr:RH ρ F w r.back v) (hres:RRes M r) (hall:(r.still=true∧∀ x ∈ r.regs,∀ L b,ρ x.1=some L→L.bl=some b→F' b) ∨ ∀ id L b,ρ id=some L→L.bl=some b→F' b):RP F' w p v:=by
 have mono:∀ {p:PV} {v:Value},RP F w p v→RP F' w p v:=fun h=>h.mono fun k hk=>⟨hF k hk,rfl⟩
 cases r with
 | v x=>cases hp; exact mono hr
 | nl=>cases hp; have:v=.slice none 0 0:=hr; subst this; exact .l0 _ _
 | o id e' sz rows =>
  cases hp;obtain ⟨ad,c',k,sz',hρ,rfl⟩:=hr;refine (uZ (hm.ent id _ hres) hF (fun L b hL hb => ?_) ad c' k sz' hρ).1;rcases hall with ⟨_,h⟩ | h
  ·exact h (id,rows) (by simp [RV.regs]) L b hL hb
  ·exact h id L b hL hb
 | q id j off e' sz rows =>
  cases hp;obtain ⟨b0,c',k,sz',hρ,hjk,rfl⟩:=hr;refine (uZ (hm.ent id _ hres) hF (fun L b hL hb => ?_) _ c' k sz' hρ).2 b0 j off rfl hjk;rcases hall with ⟨_,h⟩ | h
  ·exact h (id,rows) (by simp [RV.regs]) L b hL hb
  ·exact h id L b hL hb
 | p id off cells =>
  rcases hall with ⟨h,_⟩ | hall
  ·simp [RV.still] at h
  ·simp only [RV.fz,vQQ,vQZ] at hp;obtain ⟨cs,hcs,rfl⟩:=hp;obtain ⟨hc,hlk,hcc⟩:=hres;obtain ⟨b,hρ,rfl⟩:=hr;obtain ⟨b2,us,ty',hρ2,hheap,hal,hone⟩:=hm.ent id _ hlk;rw [hρ] at hρ2;cases hρ2
   have:=cells_fz hm hF (fun id ad c k s b hL hb=>hall id _ b hL hb) hcc hal hcs
   exact .c cs us b off ty' (hall id _ b hρ rfl) hheap this.1 hone this.2
 | no id e' n=>cases hp
 | nq id j off e' ie isz rows pd=>cases hp
 | mi id j e' ie isz rows pd=>cases hp
 | i id off s pos=>cases hp
 | ld id i=>cases hp
 | g fn first cap =>
  simp only [RV.fz,vQQ,vQZ] at hp;obtain ⟨cs,hcs,rfl⟩:=hp;obtain ⟨fs,us,rfl,hf,hu⟩:=hr;have h1:=yJ hcs;have hu':=hu.map_left_inv;have hcap:Al (RP F' w) cs us:=by
   refine ⟨by rw [← h1.1,hu'.1],fun i p v hpi hv => ?_⟩;have hil:=(List.getElem?_eq_some_iff.1 hpi).1;have hl:i < cap.length:=by rw [h1.1]; exact hil
   have hfz:=h1.2 i _ p (vQK hl) hpi;have hrc:=hu'.2 i _ v (vQK hl) hv;have hst:=hres _ (List.getElem_mem hl);have hstill:(∃ x,cap[i]=.v x) ∨ ∀ id L b,ρ id=some L→L.bl=some b→F' b:=by
    rcases hall with ⟨h,_⟩ | h
    ·simp only [RV.still,List.all_eq_true] at h
     have:=h _ (List.getElem_mem hl)
     cases hc:cap[i] with
     | v x=>exact .inl ⟨x,rfl⟩
     | p id off cells=>rw [hc] at this; simp at this
    ·exact .inr h
   generalize cap[i]=c at hfz hrc hst hstill;cases c with
   | v x=>cases hfz; exact mono hrc
   | p id off cells =>
    rcases hstill with ⟨x,hx⟩ | hall
    ·cases hx
    ·simp only [RC.fz,vQQ,vQZ] at hfz;obtain ⟨cs',hcs',rfl⟩:=hfz;obtain ⟨hc,hlk,hcc⟩:=hst;obtain ⟨b,hρ,rfl⟩:=hrc;obtain ⟨b2,us',ty',hρ2,hheap,hal,hone⟩:=hm.ent id _ hlk;rw [hρ] at hρ2;cases hρ2
     have:=cells_fz hm hF (fun id ad c k s b hL hb=>hall id _ b hL hb) hcc hal hcs'
     exact .c cs' us' b off ty' (hall id _ b hρ rfl) hheap this.1 hone this.2
  exact .f fn first cs fs us hf.1 hcap.1 (fun i p v hp hv=>mono (hf.2 i p v hp hv)) hcap.2
 | w x=>cases hp
 | un=>cases hp
theorem catR_mem {xs:List RV} {r:RV} (hr:r ∈ xs) {y:Nat × Rows} (hy:y ∈ r.regs):y ∈ catR RV.regs xs:=mem_catR.2 ⟨r,hr,hy⟩
theorem zWV {M:Mem} {r:RV} (hres:RRes M r):∀ y ∈ r.regs,∃ e sz,qV M y.1=some (.reg e sz y.2):=by
 cases r with
 | o id e' sz rows=>intro y hy; simp only [RV.regs,List.mem_singleton] at hy; subst hy; exact ⟨e',sz,hres⟩
 | q id j off e' sz rows=>intro y hy; simp only [RV.regs,List.mem_singleton] at hy; subst hy; exact ⟨e',sz,hres⟩
 | _=>intro y hy; cases hy
theorem ret_rel (h:Rel' E C.n ρ F σ a w) (hs:Regs) (hrs:∀ r ∈ hs,∃ e sz,qV σ.M r.1=some (.reg e sz r.2)) {F':Nat→Prop} {w':World} (gr:Grow w w') (hF:∀ k,frzF hs ρ F k→F' k) (hF':∀ k,F' k→frzF hs ρ F k ∨ (w.heap.size≤k∧k < w'.heap.size)) {dst me:Nat} {r:Ret} {v:Value} (hr:RRet F' w w' r v) (he:zZG C.T me dst hs r=some e) (hn:∀ i ∈ e.nw,qJB σ.M i) {d:Option Nat} (hd:dstB C.n d=true) :
  Rel E C.n (σ.apply e d) (a.put d v) w':=by
 have hfz:∀ k,F' k→k < w'.heap.size:=fun k hk=>by
  rcases hF' k hk with h1 | h1
  ·rcases h1 with h1 | ⟨id,L,_,hL,hb⟩
   ·exact vZZ (h.mem.fz k h1).1 gr.size
   ·exact vZZ (h.mem.off id L k hL hb).2.1 gr.size
  ·exact h1.2
 have nil:hs=[]→(∀ k,F k→F' k)∧(∀ k,F' k→F k ∨ (w.heap.size≤k∧k < w'.heap.size)):=by
  rintro rfl
  refine ⟨fun k hk=>hF k (.inl hk),fun k hk => ?_⟩;rcases hF' k hk with (h1 | ⟨id,L,hm,_⟩) | h1
  ·exact .inl h1
  ·cases hm
  ·exact .inr h1
 -- a pure value
 have pure:∀ (x:PV),RP F' w' x v→(∀ k,F' k→frzF hs ρ F k ∨ (w.heap.size≤k∧k < w'.heap.size))→Rel E C.n (σ.apply (.frz hs (.v x)) d) (a.put d v) w':=by
  intro x hx hF2;have h1:=h.froze hs hrs;have h2:Rel E C.n ((σ.apply (.frz hs .un) none).apply (.val (.v x)) d) (a.put d v) w':=⟨_,_,h1.val gr hF hF2 (show RH _ F' w' (.v x) v from hx) hd⟩
  exact h2.eqv apply_frz
 have pureF:∀ (x:PV),x.flat=true→RP F' w' x v→Rel E C.n (σ.apply (.val (.v x)) d) (a.put d v) w':=by
  intro x hf hx;exact ⟨ρ,F,h.val gr (fun _ h=>h) (fun _ h=>.inl h) (show RH ρ F w' (.v x) v from hx.flat hf) hd⟩
 cases r with
 | v x =>
  cases hs with
  | nil=>cases he; exact pure x hr hF'
  | cons y ys =>
   simp only [zZG] at he;cases hf:x.flat with
   | true=>rw [hf] at he; cases he; exact pureF x hf hr
   | false=>rw [hf] at he; cases he; exact pure x hr hF'
 | ow e' sz rows =>
  obtain ⟨ad,c,vr,rfl,h0,hal,hrl,hone,hown,hb⟩:=hr
  -- the slice, frozen
  have frozen:∃ F2:Nat→Prop,(∀ k,F' k→F2 k)∧(∀ k,F2 k→frzF hs ρ F k ∨ (w.heap.size≤k∧k < w'.heap.size))∧RP F2 w' rows.pv (.slice ad rows.len c):=by
   refine ⟨fun k=>F' k ∨ ad.map (·.block)=some k,fun k hk=>.inl hk,fun k hk => ?_,?_⟩
   ·rcases hk with hk | hk
    ·exact hF' k hk
    ·exact .inr (hb k hk).2
   ·exact (uZ (ρ:=fun i=>if i=0 then some (.reg ad c rows.len sz) else none) (id:=0) (e:=e') (sz:=sz) (F:=F') ⟨ad,c,vr,by simp,h0,hal,hrl,hone,hown⟩ (fun k hk=>.inl hk) (fun L b hL hbl=>by simp at hL; subst hL; exact .inr hbl) ad c rows.len sz (by simp)).1
  simp only [zZG] at he;cases ho:C.T.ownR me dst with
  | true =>
   rw [ho] at he;cases hs with
   | cons y ys=>cases he
   | nil =>
    cases he;obtain ⟨n1,n2⟩:=nil rfl;exact ⟨updO ρ dst (.reg ad c rows.len sz),F',h.adopt (ent:=.reg e' sz rows) (x:=.o dst) (L:=.reg ad c rows.len sz) (hn _ (by simp [Eff.new])) gr n1 n2 hb ⟨ad,c,vr,yW _ _ _,h0,hal,hrl,hone,hown⟩ ⟨_,_,_,_,yW _ _ _,rfl⟩ hd⟩
  | false =>
   rw [ho] at he;obtain ⟨F2,f1,f2,f3⟩:=frozen;have main:Rel E C.n (σ.apply (.frz hs (.v rows.pv)) d) (a.put d (.slice ad rows.len c)) w':=by
    have h1:=h.froze hs hrs;have h2:Rel E C.n ((σ.apply (.frz hs .un) none).apply (.val (.v rows.pv)) d) (a.put d (.slice ad rows.len c)) w':=⟨_,_,h1.val gr (fun k hk=>f1 k (hF k hk)) f2 (show RH _ F2 w' (.v rows.pv) _ from f3) hd⟩
    exact h2.eqv apply_frz
   cases hs with
   | nil=>cases he; exact main
   | cons y ys=>cases he; exact main
 | pb cells =>
  cases hs with
  | cons y ys=>cases he
  | nil =>
   cases he;obtain ⟨n1,n2⟩:=nil rfl;obtain ⟨b,us,ty',rfl,hheap,hal,hone,hb1,hb2⟩:=hr;exact ⟨updO ρ dst (.blk b),F',h.adopt (ent:=.blk (cells.map .v)) (x:=.p dst 0) (L:=.blk b) (hn _ (by simp [Eff.new])) gr n1 n2 (fun b' hb'=>by simp only [Loc.bl,vQZ] at hb'; subst hb'; exact ⟨hb1,hb2⟩)
    ⟨b,us,ty',yW _ _ _,hheap,Al.map_left (show Al (fun z y=>RH (updO ρ dst (.blk b)) F' w' (HV.v z) y) cells us from hal),hone⟩ ⟨b,yW _ _ _,rfl⟩ hd⟩
 | oa xs e' sz rows =>
  simp only [zZG] at he;cases ho:C.T.ownR me dst with
  | false=>rw [ho] at he; cases he
  | true =>
   rw [ho] at he;cases hs with
   | cons y ys=>cases he
   | nil =>
    cases he;obtain ⟨n1,n2⟩:=nil rfl;obtain ⟨us,ad,c,vr,rfl,hxs,hu1,h0,hal,hrl,hone,hown,hb⟩:=hr;have hcs:Al (RHc (updO ρ dst (.reg ad c rows.len sz)) F' w') (xs.map HC.v ++ [.o dst]) (us ++ [.slice ad rows.len c]) :=
     Al.append (Al.map_left (show Al (fun z y=>RHc (updO ρ dst (.reg ad c rows.len sz)) F' w' (HC.v z) y) xs us from hxs)) (Al.cons ⟨_,_,_,_,yW _ _ _,rfl⟩ Al.nil)
    exact ⟨updO ρ dst (.reg ad c rows.len sz),F',h.adopt (ent:=.reg e' sz rows) (x:=.ag (xs.map HC.v ++ [.o dst])) (L:=.reg ad c rows.len sz) (hn _ (by simp [Eff.new])) gr n1 n2 hb ⟨ad,c,vr,yW _ _ _,h0,hal,hrl,hone,hown⟩ ⟨_,rfl,hcs,fun u hu=>by
     rcases List.mem_append.1 hu with hu | hu
     ·exact hu1 u hu
     ·simp only [List.mem_singleton] at hu; subst hu; rfl⟩ hd⟩
theorem call_rel (hA:SndA P C.cA) (h:Rel' E C.n ρ F σ a w) {o:Oper} (hd:dstB C.n o.dst=true) {f:Nat} {args:List RV} {us:List Value} (hu:Al (fun r v=>RH ρ F w r.back v) args us) (hres:∀ r ∈ args,RRes σ.M r) (he:qHI C.T C.cA C.me (o.dst.getD 0) f args=some e) (hn:∀ i ∈ e.nw,qJB σ.M i)
  (hrun:kJ P f→(execOp a.eval o).run P w=.ok (.enter f us.toArray) w):OK P E C σ a w e o:=by
 simp only [qHI,vQQ] at he;obtain ⟨ps,hps,r,hr,he⟩:=he;obtain ⟨hent,hcall⟩:=hA f ps r hr;have h1:=yJ hps;have al:∀ (F1:Nat→Prop),(∀ k,F k→F1 k)→(∀ x ∈ args,(x.still=true∧∀ y ∈ x.regs,∀ L b,ρ y.1=some L→L.bl=some b→F1 b) ∨ ∀ id L b,ρ id=some L→L.bl=some b→F1 b)→Al (RP F1 w) ps us:=by
  intro F1 hF1 hx;refine ⟨by rw [← h1.1,hu.1],fun i p v hp hv => ?_⟩;have hil:=(List.getElem?_eq_some_iff.1 hp).1;have hl:i < args.length:=by rw [h1.1]; exact hil
  have hm:=List.getElem_mem hl;exact zJJ h.mem hF1 (h1.2 i _ p (vQK hl) hp) (hu.2 i _ v (vQK hl) hv) (hres _ hm) (hx _ hm)
 unfold OK Goes;rw [hrun hent];simp only;cases hst:args.all RV.still with
 | true =>
  rw [hst] at he;simp only [vYZ] at he;have hrs:∀ y ∈ catR RV.regs args,∃ e sz,qV σ.M y.1=some (.reg e sz y.2):=fun y hy=>by
   obtain ⟨x,hx,hy'⟩:=mem_catR.1 hy;exact zWV (hres x hx) y hy'
  refine Calls.mono (hcall w (frzF (catR RV.regs args) ρ F) us (fun k hk => ?_) (al _ (fun k hk=>.inl hk) fun x hx=>.inl ⟨List.all_eq_true.1 hst x hx,fun y hy L b hL hb=>.inr ⟨y.1,L,List.mem_map.2 ⟨y,catR_mem hx hy,rfl⟩,hL,hb⟩⟩)) fun en w' ⟨v,F',hv,gr,hF,hF',hrr⟩=>⟨v,hv,ret_rel h _ hrs gr hF hF' hrr he hn hd⟩
  rcases hk with hk | ⟨id,L,_,hL,hb⟩
  ·exact (h.mem.fz k hk).1
  ·exact (h.mem.off id L k hL hb).2.1
 | false =>
  rw [hst] at he;simp only [vYY] at he;cases r with
  | v x =>
   simp only at he;obtain ⟨hf,he⟩:=qQ he;cases he;refine Calls.mono (hcall w (allF ρ F) us (fun k hk => ?_) (al _ (fun k hk=>.inl hk) fun x hx=>.inr fun id L b hL hb=>.inr ⟨id,L,hL,hb⟩)) fun en w' ⟨v,F',hv,gr,hF,hF',hrr⟩=>⟨v,hv,ρ,F,h.val gr (fun _ h=>h) (fun _ h=>.inl h) (show RH ρ F w' (.v x) v from RP.flat hrr hf) hd⟩
   rcases hk with hk | ⟨id,L,hL,hb⟩
   ·exact (h.mem.fz k hk).1
   ·exact (h.mem.off id L k hL hb).2.1
  | ow e' sz rows =>
   cases rows with
   | fo n f =>
    simp only at he;obtain ⟨hf,he⟩:=qQ he;obtain ⟨hn16,he⟩:=qQ he;cases he;have hfl:∀ r ∈ (Rows.fo n f).L,∀ p ∈ r,p.flat1=true:=fun r hr p hp=>by
     obtain ⟨v,hv,rfl⟩:=List.mem_map.1 hr;exact List.all_eq_true.1 (List.all_eq_true.1 hf v (List.mem_range.2 (by have:=List.mem_range.1 hv; have:=vYU hn16; omega))) p hp
    refine Calls.mono (hcall w (allF ρ F) us (fun k hk => ?_) (al _ (fun k hk=>.inl hk) fun x hx=>.inr fun id L b hL hb=>.inr ⟨id,L,hL,hb⟩)) fun en w' ⟨v,F',hv,gr,hF,hF',hrr⟩ => ?_
    ·rcases hk with hk | ⟨id,L,hL,hb⟩
     ·exact (h.mem.fz k hk).1
     ·exact (h.mem.off id L k hL hb).2.1
    ·obtain ⟨ad,c,vr,rfl,h0,hal,hrl,hone,hown,hb⟩:=hrr;have hal2:Al (Al (RP (fun k=>F k ∨ ad.map (·.block)=some k) w')) (Rows.fo n f).L vr:=hal.imp fun r u hr hru=>hru.imp fun p q hp hpq=>hpq.flat1 (hfl r hr p hp)
     have fr:=(uZ (ρ:=fun i=>if i=0 then some (.reg ad c n sz) else none) (id:=0) (e:=e') (sz:=sz) (rows:=.fo n f) (F:=fun k=>F k ∨ ad.map (·.block)=some k) (F':=fun k=>F k ∨ ad.map (·.block)=some k) ⟨ad,c,vr,by simp [Rows.len],h0,hal2,hrl,hone,hown⟩ (fun k hk=>hk) (fun L b hL hbl=>by simp at hL; subst hL; exact .inr hbl) ad c n sz (by simp)).1;exact ⟨_,hv,ρ,_,h.val gr (fun k hk=>.inl hk) (fun k hk=>hk.imp id fun hk=>(hb k hk).2) (show RH ρ _ w' (.v (.lf n f)) _ from fr) hd⟩
   | l rows =>
   simp only at he;obtain ⟨hf,he⟩:=qQ he;cases he;refine Calls.mono (hcall w (allF ρ F) us (fun k hk => ?_) (al _ (fun k hk=>.inl hk) fun x hx=>.inr fun id L b hL hb=>.inr ⟨id,L,hL,hb⟩)) fun en w' ⟨v,F',hv,gr,hF,hF',hrr⟩ => ?_
   ·rcases hk with hk | ⟨id,L,hL,hb⟩
    ·exact (h.mem.fz k hk).1
    ·exact (h.mem.off id L k hL hb).2.1
   ·obtain ⟨ad,c,vr,rfl,h0,hal,hrl,hone,hown,hb⟩:=hrr;have hal2:Al (Al (RP (fun k=>F k ∨ ad.map (·.block)=some k) w')) rows vr:=hal.imp fun r u hr hru=>hru.imp fun p q hp hpq=>hpq.flat1 (List.all_eq_true.1 (List.all_eq_true.1 hf r hr) p hp)
    have fr:=(uZ (ρ:=fun i=>if i=0 then some (.reg ad c rows.length sz) else none) (id:=0) (e:=e') (sz:=sz) (rows:=.l rows) (F:=fun k=>F k ∨ ad.map (·.block)=some k) (F':=fun k=>F k ∨ ad.map (·.block)=some k) ⟨ad,c,vr,by simp [Rows.len],h0,hal2,hrl,hone,hown⟩ (fun k hk=>hk) (fun L b hL hbl=>by simp at hL; subst hL; exact .inr hbl) ad c rows.length sz (by simp [Rows.len])).1;exact ⟨_,hv,ρ,_,h.val gr (fun k hk=>.inl hk) (fun k hk=>hk.imp id fun hk=>(hb k hk).2) (show RH ρ _ w' (.v (.l rows)) _ from fr) hd⟩
  | _=>cases he
end
end Go.Rx

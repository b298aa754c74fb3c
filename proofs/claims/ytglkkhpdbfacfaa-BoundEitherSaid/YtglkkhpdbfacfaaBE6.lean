/- Part 6 of the texts behind the last one: rules and contracts. No condition. -/
import Derived.Test.YtglkkhpdbfacfaaBE5
open Option renaming bind_eq_some_iff → vQQ, map_eq_some_iff → vZK, bind_some → vZV
open Option.some renaming injEq → vQZ
open Bool renaming and_eq_true → vQJ
open List renaming getElem?_eq_getElem → vQK, mem_cons_of_mem → vQV, mem_cons_self → vQG, getElem?_map → vQH
open Nat renaming eq_of_beq_eq_true → vQU, lt_of_lt_of_le → vZZ
open Classical renaming propDecidable → vZH
namespace Go.Rx
open Go.RowKit Go.Sx
def RRet (F:Nat→Prop) (w w':World):Ret→Value→Prop
 | .v x,v=>RP F w' x v
 | .ow e sz rows,v=>∃ ad c vr,v=.slice ad rows.len c∧0 < sz∧Al (Al (RP F w')) rows.L vr∧(∀ r ∈ rows.L,r.length=sz)∧(∀ v ∈ vr,∀ u ∈ v,u.oneCell'=true)∧w'.ownsRow 0 e sz (.slice ad rows.len c) rows.len vr.flatten ∧
   ∀ b,ad.map (·.block)=some b→¬ F b∧w.heap.size≤b∧b < w'.heap.size
 | .pb cells,v=>∃ b us ty,v=.pointer (some ⟨b,0,none⟩)∧w'.heap[b]? = some (.cells us.toArray ty)∧Al (RP F w') cells us∧(∀ u ∈ us,u.oneCell'=true)∧¬ F b∧w.heap.size≤b∧b < w'.heap.size
def SndA (P:Program) (cA:yUL):Prop:=∀ g ps r,cA g ps=some r→kH P g∧∀ (w:World) (F:Nat→Prop) (vals:List Value),(∀ k,F k→k < w.heap.size)→Al (RP F w) ps vals →
 Calls P g vals.toArray w (fun e w'=>∃ v F',e=.returned v∧Grow w w'∧(∀ k,F k→F' k)∧(∀ k,F' k→F k ∨ (w.heap.size≤k∧k < w'.heap.size))∧RRet F' w w' r v)
section
variable {P:Program} {E:Env} {C:Cx} {ρ:Own} {F:Nat→Prop} {σ:St} {a:Act} {w:World} {vs:List RV} {e:Eff}
variable {d:Option Tmp} {ty:TypeId} {pos:String} {af:Array Edge} {g:Option (Nat × Bool)}
theorem Rel'.adopt {n:Nat} (h:Rel' E n ρ F σ a w) {F':Nat→Prop} {id:Nat} (hid:qQI σ.M id) {ent:Ent} {L:Loc} {w':World} (g:Grow w w') (hF:∀ k,F k→F' k) (hF':∀ k,F' k→F k ∨ (w.heap.size≤k∧k < w'.heap.size))
  (hb:∀ b,L.bl=some b→¬ F' b∧w.heap.size≤b∧b < w'.heap.size) (hent:EntOk (updO ρ id L) F' w' id ent)
  {x:HV} {v:Value} (hx:RH (updO ρ id L) F' w' x v) {dst:Option Nat} (hd:dstB n dst=true):Rel' E n (updO ρ id L) F' (σ.apply (.new id ent x) dst) (a.put dst v) w':=by
 have hnone:ρ id=none:=h.mem.fresh hid;have old:∀ k L',ρ k=some L'→updO ρ id L k=some L':=fun k L' hk=>by
  rw [qQJ (fun e=>by subst e; rw [hnone] at hk; cases hk)]; exact hk
 have inv:∀ k L',updO ρ id L k=some L'→(k=id∧L'=L) ∨ (k ≠ id∧ρ k=some L'):=fun k L' hk=>by
  by_cases e:k=id
  ·subst e; rw [zX] at hk; cases hk; exact .inl ⟨rfl,rfl⟩
  ·rw [qQJ e] at hk; exact .inr ⟨e,hk⟩
 have blk:∀ k L' b,ρ k=some L'→L'.bl=some b→b < w.heap.size:=fun k L' b hk hb'=>(h.mem.off k L' b hk hb').2.1
 refine h.apply (.new id ent x) dst v (fun d e=>by subst e; simpa [dstB] using hd) ⟨fun k b hk=>old k _ hk,fun k L' hk _ _=>old k L' hk,fun k j a' c' kk s _ hk _ _=>old _ _ hk,fun k rows a' c' kk sz _ hs=>by simp [Eff.new,zZ] at hs,fun k hk=>⟨hF k hk,g.block k (h.mem.fz k hk).1⟩⟩ hx
  (fun k L' b _ hk hb'=>g.block b (blk k L' b hk hb')) (fun _ _=>rfl) (fun k y hu => ?_) (fun k hu => ?_) (fun k y hu => ?_) (fun k k' L1 L2 b h1 h2 hb1 hb2 => ?_) (fun k L' b hk hb' => ?_) (fun k hk => ?_) (qYJ h.mem.grow g) (fun b hb=>qHU (zYQ hnone hb))
 ·simp only [Eff.new,yJ] at hu;split at hu
  ·rename_i e; rw [← e]; exact hid.2
  ·cases hu
 ·simp only [Eff.new,yJ] at hu;split at hu
  ·cases hu
  ·rename_i hne; exact qQJ (Ne.symm hne)
 ·simp only [Eff.new,yJ] at hu;split at hu
  ·rename_i he; cases hu; subst he; exact hent
  ·cases hu
 ·rcases inv k L1 h1 with ⟨e1,e2⟩ | ⟨n1,h1'⟩ <;> rcases inv k' L2 h2 with ⟨e3,e4⟩ | ⟨n2,h2'⟩
  ·rw [e1,e3]
  ·rw [e2] at hb1; have:=(hb b hb1).2.1; have:=blk k' L2 b h2' hb2; omega
  ·rw [e4] at hb2; have:=(hb b hb2).2.1; have:=blk k L1 b h1' hb1; omega
  ·exact h.mem.apart k k' L1 L2 b h1' h2' hb1 hb2
 ·rcases inv k L' hk with ⟨rfl,rfl⟩ | ⟨_,hk⟩
  ·have:=hb b hb'
   exact ⟨this.1,this.2.2,.inl (Nat.le_trans h.mem.grow.size this.2.1)⟩
  ·have:=h.mem.off k L' b hk hb'
   exact ⟨fun hf=>by rcases hF' b hf with h1 | h1; exact this.1 h1; omega,vZZ this.2.1 g.size,this.2.2⟩
 ·rcases hF' k hk with h1 | h1
  ·exact ⟨vZZ (h.mem.fz k h1).1 g.size,(h.mem.fz k h1).2⟩
  ·exact ⟨h1.2,.inr (.inl (Nat.le_trans h.mem.grow.size h1.1))⟩
theorem zXQ {rs:Regs} {x:HV} {dst:Option Nat}:Eqv ((σ.apply (.frz rs .un) none).apply (.val x) dst) (σ.apply (.frz rs x) dst):=by
 have e1:∀ y,(Eff.frz rs y).up=rs.map fun r=>(r.1,none):=fun y=>by cases rs <;> rfl
 have e2:∀ y,(Eff.frz rs y).sb=rs.map fun r=>(r.1,some r.2):=fun y=>by cases rs <;> rfl
 have e3:∀ y,(Eff.frz rs y).x=y:=fun y=>by cases rs <;> rfl
 refine ⟨fun t => ?_,fun i => ?_⟩
 ·rw [qQQ,qQQ,qQQ,e2,e2];simp only [e3];by_cases h:dst=some t
  ·rw [if_pos h,if_pos h]; rfl
  ·rw [if_neg h,if_neg h,if_neg (by simp)];cases jJ σ.S t <;> simp [Eff.val,HV.sub_nil]
 ·rw [jH,jH,jH,e1,e1,e2,e2];cases zQ (rs.map fun r=>(r.1,(none:Option Ent))) i with
  | some y=>cases y <;> simp [Eff.val,zQ,Ent.sub_nil]
  | none=>cases qX σ.M i <;> simp [Eff.val,zQ,Ent.sub_nil]
def allF (ρ:Own) (F:Nat→Prop):Nat→Prop:=fun k=>F k ∨ ∃ id L,ρ id=some L∧L.bl=some k
theorem zGI {M:Mem} {hc:List HV} {cs:List CV} {ps:List PV} {us:List Value} {F':Nat→Prop} (hm:MemOk E ρ F M w) (hF:∀ k,F k→F' k) (hall:∀ id ad c k s b,ρ id=some (.reg ad c k s)→ad.map (·.block)=some b→F' b) (h:mapO (cvOf M) hc=some cs) (hal:Al (RH ρ F w) hc us) (hp:mapO CV.fz cs=some ps):Al (RP F' w) ps us:=by
 have hcv:=qZH h hal;have h1:=zK hp;refine ⟨by rw [← h1.1,hcv.1],fun i p v hpi hv => ?_⟩;have hil:=(List.getElem?_eq_some_iff.1 hpi).1;have hl:i < cs.length:=by rw [h1.1]; exact hil
 have hfz:=h1.2 i _ p (vQK hl) hpi;obtain ⟨hrh,ho⟩:=hcv.2 i _ v (vQK hl) hv;generalize cs[i]=c at hfz hrh ho;unfold CV.fz at hfz;split at hfz
 ·cases hfz; exact RP.mono (fun k hk=>⟨hF k hk,rfl⟩) hrh
 ·cases hfz; have:v=.slice none 0 0:=hrh; subst this; exact .l0 _ _
 ·rename_i id e' sz rows;cases hfz;obtain ⟨ad,c',k,sz',hρ,rfl⟩:=hrh;exact (jK (hm.ent id _ (ho _ _ _ _ rfl)) hF (fun L b hL hb=>by rw [hρ] at hL; cases hL; exact hall id _ _ _ _ b hρ hb) ad c' k sz' hρ).1
 ·cases hfz
theorem zQB {M:Mem} {F':Nat→Prop} (hm:MemOk E ρ F M w) (hF:∀ k,F k→F' k) {r:RV} {p:PV} {v:Value} (hp:r.fz=some p) (hr:RH ρ F w r.back v) (hres:RRes M r) (hall:(r.still=true∧∀ x ∈ r.regs,∀ L b,ρ x.1=some L→L.bl=some b→F' b) ∨ ∀ id L b,ρ id=some L→L.bl=some b→F' b):RP F' w p v:=by
 have mono:∀ {p:PV} {v:Value},RP F w p v→RP F' w p v:=fun h=>h.mono fun k hk=>⟨hF k hk,rfl⟩
 cases r with
 | v x=>cases hp; exact mono hr
 | nl=>cases hp; have:v=.slice none 0 0:=hr; subst this; exact .l0 _ _
 | o id e' sz rows =>
  cases hp;obtain ⟨ad,c',k,sz',hρ,rfl⟩:=hr;refine (jK (hm.ent id _ hres) hF (fun L b hL hb => ?_) ad c' k sz' hρ).1;rcases hall with ⟨_,h⟩ | h
  ·exact h (id,rows) (by simp [RV.regs]) L b hL hb
  ·exact h id L b hL hb
 | q id j off e' sz rows =>
  cases hp;obtain ⟨b0,c',k,sz',hρ,hjk,rfl⟩:=hr;refine (jK (hm.ent id _ hres) hF (fun L b hL hb => ?_) _ c' k sz' hρ).2 b0 j off rfl hjk;rcases hall with ⟨_,h⟩ | h
  ·exact h (id,rows) (by simp [RV.regs]) L b hL hb
  ·exact h id L b hL hb
 | p id off cells =>
  rcases hall with ⟨h,_⟩ | hall
  ·simp [RV.still] at h
  ·simp only [RV.fz,vQQ,vQZ] at hp;obtain ⟨cs,hcs,rfl⟩:=hp;obtain ⟨hc,hlk,hcc⟩:=hres;obtain ⟨b,hρ,rfl⟩:=hr;obtain ⟨b2,us,ty',hρ2,hheap,hal,hone⟩:=hm.ent id _ hlk;rw [hρ] at hρ2;cases hρ2
   have:=zGI hm hF (fun id ad c k s b hL hb=>hall id _ b hL hb) hcc hal hcs
   exact .c cs us b off ty' (hall id _ b hρ rfl) hheap this.1 hone this.2
 | no id e' n=>cases hp
 | nq id j off e' ie isz rows pd=>cases hp
 | mi id j e' ie isz rows pd=>cases hp
 | i id off s pos=>cases hp
 | ld id i=>cases hp
 | g fn first cap =>
  simp only [RV.fz,vQQ,vQZ] at hp;obtain ⟨cs,hcs,rfl⟩:=hp;obtain ⟨fs,us,rfl,hf,hu⟩:=hr;have h1:=zK hcs;have hu':=hu.map_left_inv;have hcap:Al (RP F' w) cs us:=by
   refine ⟨by rw [← h1.1,hu'.1],fun i p v hpi hv => ?_⟩;have hil:=(List.getElem?_eq_some_iff.1 hpi).1;have hl:i < cap.length:=by rw [h1.1]; exact hil
   have hfz:=h1.2 i _ p (vQK hl) hpi;have hrc:=hu'.2 i _ v (vQK hl) hv;have hst:=hres _ (List.getElem_mem hl);have hstill:(∃ x,cap[i]=.v x) ∨ ∀ id L b,ρ id=some L→L.bl=some b→F' b:=by
    rcases hall with ⟨h,_⟩ | h
    ·simp only [RV.still,List.all_eq_true] at h
     have:=h _ (List.getElem_mem hl)
     cases hc:cap[i] with
     | v x=>exact .inl ⟨x,rfl⟩
     | p id off cells=>rw [hc] at this; simp at this
    ·exact .inr h
   generalize cap[i]=c at hfz hrc hst hstill;cases c with
   | v x=>cases hfz; exact mono hrc
   | p id off cells =>
    rcases hstill with ⟨x,hx⟩ | hall
    ·cases hx
    ·simp only [RC.fz,vQQ,vQZ] at hfz;obtain ⟨cs',hcs',rfl⟩:=hfz;obtain ⟨hc,hlk,hcc⟩:=hst;obtain ⟨b,hρ,rfl⟩:=hrc;obtain ⟨b2,us',ty',hρ2,hheap,hal,hone⟩:=hm.ent id _ hlk;rw [hρ] at hρ2;cases hρ2
     have:=zGI hm hF (fun id ad c k s b hL hb=>hall id _ b hL hb) hcc hal hcs'
     exact .c cs' us' b off ty' (hall id _ b hρ rfl) hheap this.1 hone this.2
  exact .f fn first cs fs us hf.1 hcap.1 (fun i p v hp hv=>mono (hf.2 i p v hp hv)) hcap.2
 | w x=>cases hp
 | un=>cases hp
theorem zGL {xs:List RV} {r:RV} (hr:r ∈ xs) {y:Nat × Rows} (hy:y ∈ r.regs):y ∈ catR RV.regs xs:=mem_catR.2 ⟨r,hr,hy⟩
theorem zXF {M:Mem} {r:RV} (hres:RRes M r):∀ y ∈ r.regs,∃ e sz,qX M y.1=some (.reg e sz y.2):=by
 cases r with
 | o id e' sz rows=>intro y hy; simp only [RV.regs,List.mem_singleton] at hy; subst hy; exact ⟨e',sz,hres⟩
 | q id j off e' sz rows=>intro y hy; simp only [RV.regs,List.mem_singleton] at hy; subst hy; exact ⟨e',sz,hres⟩
 | _=>intro y hy; cases hy
theorem jZW (h:Rel' E C.n ρ F σ a w) (hs:Regs) (hrs:∀ r ∈ hs,∃ e sz,qX σ.M r.1=some (.reg e sz r.2)) {F':Nat→Prop} {w':World} (gr:Grow w w') (hF:∀ k,frzF hs ρ F k→F' k) (hF':∀ k,F' k→frzF hs ρ F k ∨ (w.heap.size≤k∧k < w'.heap.size)) {dst me:Nat} {r:Ret} {v:Value} (hr:RRet F' w w' r v) (he:zKZ C.T me dst hs r=some e) (hn:∀ i ∈ e.nw,qQI σ.M i) {d:Option Nat} (hd:dstB C.n d=true) :
  Rel E C.n (σ.apply e d) (a.put d v) w':=by
 have hfz:∀ k,F' k→k < w'.heap.size:=fun k hk=>by
  rcases hF' k hk with h1 | h1
  ·rcases h1 with h1 | ⟨id,L,_,hL,hb⟩
   ·exact vZZ (h.mem.fz k h1).1 gr.size
   ·exact vZZ (h.mem.off id L k hL hb).2.1 gr.size
  ·exact h1.2
 have nil:hs=[]→(∀ k,F k→F' k)∧(∀ k,F' k→F k ∨ (w.heap.size≤k∧k < w'.heap.size)):=by
  rintro rfl
  refine ⟨fun k hk=>hF k (.inl hk),fun k hk => ?_⟩;rcases hF' k hk with (h1 | ⟨id,L,hm,_⟩) | h1
  ·exact .inl h1
  ·cases hm
  ·exact .inr h1
 -- a pure value
 have pure:∀ (x:PV),RP F' w' x v→(∀ k,F' k→frzF hs ρ F k ∨ (w.heap.size≤k∧k < w'.heap.size))→Rel E C.n (σ.apply (.frz hs (.v x)) d) (a.put d v) w':=by
  intro x hx hF2;have h1:=h.froze hs hrs;have h2:Rel E C.n ((σ.apply (.frz hs .un) none).apply (.val (.v x)) d) (a.put d v) w':=⟨_,_,h1.val gr hF hF2 (show RH _ F' w' (.v x) v from hx) hd⟩
  exact h2.eqv zXQ
 have pureF:∀ (x:PV),x.flat=true→RP F' w' x v→Rel E C.n (σ.apply (.val (.v x)) d) (a.put d v) w':=by
  intro x hf hx;exact ⟨ρ,F,h.val gr (fun _ h=>h) (fun _ h=>.inl h) (show RH ρ F w' (.v x) v from hx.flat hf) hd⟩
 cases r with
 | v x =>
  cases hs with
  | nil=>cases he; exact pure x hr hF'
  | cons y ys =>
   simp only [zKZ] at he;cases hf:x.flat with
   | true=>rw [hf] at he; cases he; exact pureF x hf hr
   | false=>rw [hf] at he; cases he; exact pure x hr hF'
 | ow e' sz rows =>
  obtain ⟨ad,c,vr,rfl,h0,hal,hrl,hone,hown,hb⟩:=hr
  -- the slice, frozen
  have frozen:∃ F2:Nat→Prop,(∀ k,F' k→F2 k)∧(∀ k,F2 k→frzF hs ρ F k ∨ (w.heap.size≤k∧k < w'.heap.size))∧RP F2 w' rows.pv (.slice ad rows.len c):=by
   refine ⟨fun k=>F' k ∨ ad.map (·.block)=some k,fun k hk=>.inl hk,fun k hk => ?_,?_⟩
   ·rcases hk with hk | hk
    ·exact hF' k hk
    ·exact .inr (hb k hk).2
   ·exact (jK (ρ:=fun i=>if i=0 then some (.reg ad c rows.len sz) else none) (id:=0) (e:=e') (sz:=sz) (F:=F') ⟨ad,c,vr,by simp,h0,hal,hrl,hone,hown⟩ (fun k hk=>.inl hk) (fun L b hL hbl=>by simp at hL; subst hL; exact .inr hbl) ad c rows.len sz (by simp)).1
  simp only [zKZ] at he;cases ho:C.T.ownR me dst with
  | true =>
   rw [ho] at he;cases hs with
   | cons y ys=>cases he
   | nil =>
    cases he;obtain ⟨n1,n2⟩:=nil rfl;exact ⟨updO ρ dst (.reg ad c rows.len sz),F',h.adopt (ent:=.reg e' sz rows) (x:=.o dst) (L:=.reg ad c rows.len sz) (hn _ (by simp [Eff.new])) gr n1 n2 hb ⟨ad,c,vr,zX _ _ _,h0,hal,hrl,hone,hown⟩ ⟨_,_,_,_,zX _ _ _,rfl⟩ hd⟩
  | false =>
   rw [ho] at he;obtain ⟨F2,f1,f2,f3⟩:=frozen;have main:Rel E C.n (σ.apply (.frz hs (.v rows.pv)) d) (a.put d (.slice ad rows.len c)) w':=by
    have h1:=h.froze hs hrs;have h2:Rel E C.n ((σ.apply (.frz hs .un) none).apply (.val (.v rows.pv)) d) (a.put d (.slice ad rows.len c)) w':=⟨_,_,h1.val gr (fun k hk=>f1 k (hF k hk)) f2 (show RH _ F2 w' (.v rows.pv) _ from f3) hd⟩
    exact h2.eqv zXQ
   cases hs with
   | nil=>cases he; exact main
   | cons y ys=>cases he; exact main
 | pb cells =>
  cases hs with
  | cons y ys=>cases he
  | nil =>
   cases he;obtain ⟨n1,n2⟩:=nil rfl;obtain ⟨b,us,ty',rfl,hheap,hal,hone,hb1,hb2⟩:=hr;exact ⟨updO ρ dst (.blk b),F',h.adopt (ent:=.blk (cells.map .v)) (x:=.p dst 0) (L:=.blk b) (hn _ (by simp [Eff.new])) gr n1 n2 (fun b' hb'=>by simp only [Loc.bl,vQZ] at hb'; subst hb'; exact ⟨hb1,hb2⟩)
    ⟨b,us,ty',zX _ _ _,hheap,Al.map_left (show Al (fun z y=>RH (updO ρ dst (.blk b)) F' w' (HV.v z) y) cells us from hal),hone⟩ ⟨b,zX _ _ _,rfl⟩ hd⟩
theorem zHQ (hA:SndA P C.cA) (h:Rel' E C.n ρ F σ a w) {o:Oper} (hd:dstB C.n o.dst=true) {f:Nat} {args:List RV} {us:List Value} (hu:Al (fun r v=>RH ρ F w r.back v) args us) (hres:∀ r ∈ args,RRes σ.M r) (he:qXE C.T C.cA C.me (o.dst.getD 0) f args=some e) (hn:∀ i ∈ e.nw,qQI σ.M i)
  (hrun:kH P f→(execOp a.eval o).run P w=.ok (.enter f us.toArray) w):OK P E C σ a w e o:=by
 simp only [qXE,vQQ] at he;obtain ⟨ps,hps,r,hr,he⟩:=he;obtain ⟨hent,hcall⟩:=hA f ps r hr;have h1:=zK hps;have al:∀ (F1:Nat→Prop),(∀ k,F k→F1 k)→(∀ x ∈ args,(x.still=true∧∀ y ∈ x.regs,∀ L b,ρ y.1=some L→L.bl=some b→F1 b) ∨ ∀ id L b,ρ id=some L→L.bl=some b→F1 b)→Al (RP F1 w) ps us:=by
  intro F1 hF1 hx;refine ⟨by rw [← h1.1,hu.1],fun i p v hp hv => ?_⟩;have hil:=(List.getElem?_eq_some_iff.1 hp).1;have hl:i < args.length:=by rw [h1.1]; exact hil
  have hm:=List.getElem_mem hl;exact zQB h.mem hF1 (h1.2 i _ p (vQK hl) hp) (hu.2 i _ v (vQK hl) hv) (hres _ hm) (hx _ hm)
 unfold OK Goes;rw [hrun hent];simp only;cases hst:args.all RV.still with
 | true =>
  rw [hst] at he;simp only [vYQ] at he;have hrs:∀ y ∈ catR RV.regs args,∃ e sz,qX σ.M y.1=some (.reg e sz y.2):=fun y hy=>by
   obtain ⟨x,hx,hy'⟩:=mem_catR.1 hy;exact zXF (hres x hx) y hy'
  refine Calls.mono (hcall w (frzF (catR RV.regs args) ρ F) us (fun k hk => ?_) (al _ (fun k hk=>.inl hk) fun x hx=>.inl ⟨List.all_eq_true.1 hst x hx,fun y hy L b hL hb=>.inr ⟨y.1,L,List.mem_map.2 ⟨y,zGL hx hy,rfl⟩,hL,hb⟩⟩)) fun en w' ⟨v,F',hv,gr,hF,hF',hrr⟩=>⟨v,hv,jZW h _ hrs gr hF hF' hrr he hn hd⟩
  rcases hk with hk | ⟨id,L,_,hL,hb⟩
  ·exact (h.mem.fz k hk).1
  ·exact (h.mem.off id L k hL hb).2.1
 | false =>
  rw [hst] at he;simp only [vYZ] at he;cases r with
  | v x =>
   simp only at he;obtain ⟨hf,he⟩:=qZ he;cases he;refine Calls.mono (hcall w (allF ρ F) us (fun k hk => ?_) (al _ (fun k hk=>.inl hk) fun x hx=>.inr fun id L b hL hb=>.inr ⟨id,L,hL,hb⟩)) fun en w' ⟨v,F',hv,gr,hF,hF',hrr⟩=>⟨v,hv,ρ,F,h.val gr (fun _ h=>h) (fun _ h=>.inl h) (show RH ρ F w' (.v x) v from RP.flat hrr hf) hd⟩
   rcases hk with hk | ⟨id,L,hL,hb⟩
   ·exact (h.mem.fz k hk).1
   ·exact (h.mem.off id L k hL hb).2.1
  | ow e' sz rows =>
   cases rows with
   | fo n f=>simp only at he; cases he
   | l rows =>
   simp only at he;obtain ⟨hf,he⟩:=qZ he;cases he;refine Calls.mono (hcall w (allF ρ F) us (fun k hk => ?_) (al _ (fun k hk=>.inl hk) fun x hx=>.inr fun id L b hL hb=>.inr ⟨id,L,hL,hb⟩)) fun en w' ⟨v,F',hv,gr,hF,hF',hrr⟩ => ?_
   ·rcases hk with hk | ⟨id,L,hL,hb⟩
    ·exact (h.mem.fz k hk).1
    ·exact (h.mem.off id L k hL hb).2.1
   ·obtain ⟨ad,c,vr,rfl,h0,hal,hrl,hone,hown,hb⟩:=hrr;have hal2:Al (Al (RP (fun k=>F k ∨ ad.map (·.block)=some k) w')) rows vr:=hal.imp fun r u hr hru=>hru.imp fun p q hp hpq=>hpq.flat1 (List.all_eq_true.1 (List.all_eq_true.1 hf r hr) p hp)
    have fr:=(jK (ρ:=fun i=>if i=0 then some (.reg ad c rows.length sz) else none) (id:=0) (e:=e') (sz:=sz) (rows:=.l rows) (F:=fun k=>F k ∨ ad.map (·.block)=some k) (F':=fun k=>F k ∨ ad.map (·.block)=some k) ⟨ad,c,vr,by simp [Rows.len],h0,hal2,hrl,hone,hown⟩ (fun k hk=>hk) (fun L b hL hbl=>by simp at hL; subst hL; exact .inr hbl) ad c rows.length sz (by simp [Rows.len])).1;exact ⟨_,hv,ρ,_,h.val gr (fun k hk=>.inl hk) (fun k hk=>hk.imp id fun hk=>(hb k hk).2) (show RH ρ _ w' (.v (.l rows)) _ from fr) hd⟩
  | _=>cases he
end
end Go.Rx
namespace Go.Rx
open Go.RowKit Go.Sx
def ArgB (F:Nat→Prop) (w:World) (b:Nat):HV→Value→Prop
 | .v x,v=>RP F w x v
 | .p _ off,v=>v=.pointer (some ⟨b,off,none⟩)
 | _,_=>False
def yZG (P:Program) (g:Nat) (hs:List HV) (ps:List PV) (x:PV) (ps':List PV):Prop:=kH P g∧∀ (w:World) (F:Nat→Prop) (b:Nat) (vals us:List Value) (ty:TypeId),(∀ k,F k→k < w.heap.size)→¬ F b→b < w.heap.size →
 w.heap[b]? = some (.cells us.toArray ty)→Al (RP F w) ps us→(∀ u ∈ us,u.oneCell'=true)→(∀ h ∈ hs,∀ id off,h=.p id off→id=pid)→Al (ArgB F w b) hs vals →
 Calls P g vals.toArray w (fun e w'=>∃ v F' us' ty',e=.returned v∧GrowB (· = b) w w'∧(∀ k,F k→F' k)∧(∀ k,F' k→F k ∨ (w.heap.size≤k∧k < w'.heap.size))∧RP F' w' x v ∧
  w'.heap[b]? = some (.cells us'.toArray ty')∧Al (RP F' w') ps' us'∧∀ u ∈ us',u.oneCell'=true)
def GsR (F:Nat→Prop) (w:World) (A:Option Addr) (p:PV) (v:Value):Prop:=match p with
 | .gs e sz x=>∃ (rows:Rows) (c:Nat) (vr:List (List Value)),x.rowsO=some rows∧v=.slice A rows.len c∧0 < sz∧Al (Al (RP F w)) rows.L vr∧(∀ r ∈ rows.L,r.length=sz)∧(∀ y ∈ vr,∀ u ∈ y,u.oneCell'=true)∧w.ownsRow 0 e sz (.slice A rows.len c) rows.len vr.flatten
 | p=>RP F w p v
theorem yJI {F:Nat→Prop} {w:World} {A:Option Addr} {p:PV} {v:Value} (h:RP F w p v):GsR F w A p v:=by
 cases p with
 | gs e sz x=>cases h
 | _=>exact h
def zVX (P:Program) (g:Nat) (hs:List HV) (ps:List PV) (x:PV) (ps':List PV):Prop:=kH P g∧∀ (w:World) (F:Nat→Prop) (b:Nat) (A:Option Addr) (vals us:List Value) (ty:TypeId),(∀ k,F k→k < w.heap.size)→¬ F b→b < w.heap.size →
 w.heap[b]? = some (.cells us.toArray ty)→oneG ps=true→Al (GsR F w A) ps us→(∀ u ∈ us,u.oneCell'=true)→(∀ k,A.map (·.block)=some k→¬ F k∧k < w.heap.size∧k ≠ b)→(∀ h ∈ hs,∀ id off,h=.p id off→id=pid)→Al (ArgB F w b) hs vals →
 Calls P g vals.toArray w (fun e w'=>∃ v F' us' ty' A',e=.returned v∧GrowB (fun k=>k=b ∨ A.map (·.block)=some k) w w'∧(∀ k,F k→F' k)∧(∀ k,F' k→F k ∨ (w.heap.size≤k∧k < w'.heap.size) ∨ A.map (·.block)=some k)∧RP F' w' x v ∧
  w'.heap[b]? = some (.cells us'.toArray ty')∧Al (GsR F' w' A') ps' us'∧(∀ u ∈ us',u.oneCell'=true)∧∀ k,A'.map (·.block)=some k→¬ F' k∧k < w'.heap.size∧k ≠ b∧(w.heap.size≤k ∨ A.map (·.block)=some k))
def yUC (P:Program) (g:Nat) (hs:List HV) (ps:List PV) (x:PV) (ps':List PV):Bool→Prop
 | false=>yZG P g hs ps x ps'
 | true=>zVX P g hs ps x ps'
def zVW (P:Program) (g:Nat) (hs:List HV) (ps:List PV) (x:PV) (ps':List PV):Prop:=kH P g∧∀ (w:World) (F:Nat→Prop) (b:Nat) (A:Option Addr) (vals us:List Value) (ty:TypeId),(∀ k,F k→k < w.heap.size)→¬ F b→b < w.heap.size →
 w.heap[b]? = some (.cells us.toArray ty)→oneG ps=true→Al (GsR F w A) ps us→(∀ u ∈ us,u.oneCell'=true)→(∀ k,A.map (·.block)=some k→¬ F k∧k < w.heap.size∧k ≠ b)→(∀ h ∈ hs,∀ id off,h=.p id off→id=pid)→Al (ArgB F w b) hs vals →
 Calls P g vals.toArray w (fun e w'=>∃ v F',e=.returned v∧GrowB (fun k=>A.map (·.block)=some k) w w'∧(∀ k,F k→F' k)∧(∀ k,F' k→F k ∨ (w.heap.size≤k∧k < w'.heap.size))∧RP F' w' x v∧Al (GsR F' w' A) ps' us)
def yHJ (P:Program) (g:Nat) (hs:List HV) (ps:List PV) (x:PV) (ps':List PV) (q:Bool):Bool→Prop
 | false=>yUC P g hs ps x ps' q
 | true=>zVW P g hs ps x ps'
def SndB (P:Program) (T:Tab) (cB:zVG):Prop:=∀ g hs ps x ps',cB g hs ps=some (x,ps')→yHJ P g hs ps x ps' (T.gq g) (T.gk g)
section
variable {P:Program} {E:Env} {C:Cx} {ρ:Own} {F:Nat→Prop} {σ:St} {a:Act} {w:World} {vs:List RV} {e:Eff}
variable {d:Option Tmp} {ty:TypeId} {pos:String} {af:Array Edge} {g:Option (Nat × Bool)}
theorem Rel'.setB {n:Nat} (h:Rel' E n ρ F σ a w) {id b:Nat} (hρ:ρ id=some (.blk b)) {F':Nat→Prop} {ent:Ent} {w':World} (g:GrowB (· = b) w w') (hF:∀ k,F k→F' k) (hF':∀ k,F' k→F k ∨ (w.heap.size≤k∧k < w'.heap.size)) (hent:EntOk ρ F' w' id ent) {x:HV} {v:Value} (hx:RH ρ F' w' x v) {dst:Option Nat} (hd:dstB n dst=true) (h2:id ≠ pid2) :
  Rel' E n ρ F' (σ.apply (.set id ent x) dst) (a.put dst v) w':=by
 have hb:(Loc.blk b).bl=some b:=rfl;have hoff:=h.mem.off id _ b hρ hb;have fzb:∀ k,F k→w'.heap[k]? = w.heap[k]?:=fun k hk=>g.block k (h.mem.fz k hk).1 fun e=>by subst e; exact hoff.1 hk
 refine h.apply (.set id ent x) dst v (fun d e=>by subst e; simpa [dstB] using hd) ⟨fun k b hk=>hk,fun k L' hk _ _=>hk,fun _ _ _ _ _ _ _ hk _ _=>hk,fun k rows a' c' kk sz _ hs=>by simp [Eff.set,zZ] at hs,fun k hk=>⟨hF k hk,fzb k hk⟩⟩ hx
  (fun k L' b' hu hk hb' => ?_) (fun _ _=>rfl) (fun k y hu => ?_) (fun k hu=>rfl) (fun k y hu => ?_) h.mem.apart (fun k L' b' hk hb' => ?_) (fun k hk => ?_) ?_ (fun _ _=>qHU h2)
 ·refine g.block b' (h.mem.off k L' b' hk hb').2.1 fun e => ?_
  subst e
  have:=h.mem.apart k id L' _ b' hk hρ hb' hb
  subst this;simp [Eff.set,yJ] at hu
 ·simp only [Eff.set,yJ] at hu;split at hu
  ·rename_i he; rw [← he]; exact h.mem.lt hρ rfl
  ·cases hu
 ·simp only [Eff.set,yJ] at hu;split at hu
  ·rename_i he; cases hu; subst he; exact hent
  ·cases hu
 ·have:=h.mem.off k L' b' hk hb'
  exact ⟨fun hf=>by rcases hF' b' hf with h1 | h1; exact this.1 h1; omega,vZZ this.2.1 g.size,this.2.2⟩
 ·rcases hF' k hk with h1 | h1
  ·exact ⟨vZZ (h.mem.fz k h1).1 g.size,(h.mem.fz k h1).2⟩
  ·exact ⟨h1.2,.inr (.inl (Nat.le_trans h.mem.grow.size h1.1))⟩
 ·refine ⟨g.os.trans h.mem.grow.os,g.tape.trans h.mem.grow.tape,g.output.trans h.mem.grow.output,Nat.le_trans h.mem.grow.size g.size,fun k hk hW => ?_⟩;rw [g.block k (vZZ hk h.mem.grow.size) fun e => ?_]
  ·exact h.mem.grow.block k hk hW
  ·subst e;rcases hoff.2.2 with h1 | h1
   ·omega
   ·exact hW h1
theorem qUA:∀ {xs:List RV} {p:Nat × List CV},zYA xs=some p→∃ off,RV.p p.1 off p.2 ∈ xs
 | [],p,h=>by cases h
 | x :: xs,p,h=>by
  simp only [zYA] at h;split at h
  ·cases h; exact ⟨_,vQG⟩
  ·obtain ⟨off,ho⟩:=qUA h; exact ⟨off,vQV _ ho⟩
theorem kZI {M:Mem} {hc:List HV} {cs:List CV} {ps:List PV} {us:List Value} (h:mapO (cvOf M) hc=some cs) (hal:Al (RH ρ F w) hc us) (hp:mapO CV.pv cs=some ps):Al (RP F w) ps us:=by
 have hcv:=qZH h hal;have h1:=zK hp;refine ⟨by rw [← h1.1,hcv.1],fun i p v hpi hv => ?_⟩;have hil:=(List.getElem?_eq_some_iff.1 hpi).1;have hl:i < cs.length:=by rw [h1.1]; exact hil
 have hfz:=h1.2 i _ p (vQK hl) hpi;obtain ⟨hrh,ho⟩:=hcv.2 i _ v (vQK hl) hv;generalize cs[i]=c at hfz hrh ho;unfold CV.pv at hfz;split at hfz
 ·cases hfz; exact hrh
 ·cases hfz;have e:v=.slice none 0 0:=hrh;subst e;exact .zs
 ·cases hfz
theorem yUV {f:Nat} (hB:SndB P C.T C.cB) (hgk:C.T.gk f=false) (hgq:C.T.gq f=false) (h:Rel' E C.n ρ F σ a w) {o:Oper} (hd:dstB C.n o.dst=true) {args:List RV} {us:List Value} (hu:Al (fun r v=>RH ρ F w r.back v) args us) (hres:∀ r ∈ args,RRes σ.M r) (he:qVE C.cB f args=some e)
  (hrun:kH P f→(execOp a.eval o).run P w=.ok (.enter f us.toArray) w):OK P E C σ a w e o:=by
 simp only [qVE,vQQ] at he;obtain ⟨⟨id,cs⟩,hp,ps,hps,hs,hhs,⟨x,ps'⟩,hr,he⟩:=he;have hb2:Nat.beq id pid2=false:=by
  cases hb2:Nat.beq id pid2 with
  | false=>rfl
  | true=>simp only [hb2,vYQ] at he; cases he
 have hne2:id ≠ pid2:=fun e0=>by rw [e0,Nat.beq_refl] at hb2; cases hb2
 simp only [hb2,vYZ,vQZ] at he;subst he;have hbq:=hB f hs ps x ps' hr;rw [hgk,hgq] at hbq;obtain ⟨hent,hcall⟩:=hbq;obtain ⟨off,hmem⟩:=qUA hp;obtain ⟨hc,hlk,hcc⟩:=hres _ hmem;obtain ⟨b,cu,ty',hρ,hheap,hal,hone⟩:=h.mem.ent id _ hlk;have hpu:=kZI hcc hal hps;have hoff:=h.mem.off id _ b hρ rfl;have hrs:∀ y ∈ catR RV.regs args,∃ e sz,qX σ.M y.1=some (.reg e sz y.2):=fun y hy=>by
  obtain ⟨x,hx,hy'⟩:=mem_catR.1 hy;exact zXF (hres x hx) y hy'
 have hid:id ∉ (catR RV.regs args).map (·.1):=fun hm=>by
  obtain ⟨r,hr,hre⟩:=List.mem_map.1 hm;obtain ⟨e',sz,hl⟩:=hrs r hr;have hre':r.1=id:=hre;rw [hre',hlk] at hl; cases hl
 have h1:=h.froze (catR RV.regs args) hrs;generalize hFF:frzF (catR RV.regs args) ρ F=F1 at h1;have hF1:∀ k,F k→F1 k:=fun k hk=>by rw [← hFF]; exact .inl hk
 have hρ1:frzρ (catR RV.regs args) ρ id=some (.blk b):=by rw [qHQ hid]; exact hρ
 have hmo:=zK hhs;unfold OK Goes;rw [hrun hent];simp only;refine Calls.mono (hcall w F1 b us cu ty' (fun k hk=>(h1.mem.fz k hk).1) (h1.mem.off id _ b hρ1 rfl).1 hoff.2.1 hheap (hpu.imp fun _ _ _ hx=>hx.mono fun k hk=>⟨hF1 k hk,rfl⟩) hone ?_ ?_) fun en w' ⟨v,F',us',ty2,hv,gr,f1,f2,hx,hb',hal',hone'⟩=>⟨v,hv,?_⟩
 ·intro hh hhm id' off' he';obtain ⟨i,hi⟩:=List.mem_iff_getElem?.1 hhm;have hil:=(List.getElem?_eq_some_iff.1 hi).1;have hl:i < args.length:=by rw [hmo.1]; exact hil
  have ht:=hmo.2 i _ hh (vQK hl) hi;rw [he'] at ht;generalize args[i]=r at ht;cases r <;> simp only [RV.toB] at ht
  case p id2 off2 c2 =>
   obtain ⟨_,ht⟩:=qZ ht;cases ht; rfl
  all_goals
   obtain ⟨_,ht⟩:=qZ ht;simp only [vQQ] at ht;obtain ⟨_,_,ht⟩:=ht;cases ht
 ·refine ⟨by rw [← hmo.1,hu.1],fun i hh v hi hv => ?_⟩;have hil:=(List.getElem?_eq_some_iff.1 hi).1;have hl:i < args.length:=by rw [hmo.1]; exact hil
  have ht:=hmo.2 i _ hh (vQK hl) hi;have hrv:=hu.2 i _ v (vQK hl) hv;have hmm:=List.getElem_mem hl;have hrr:=hres _ hmm;generalize args[i]=r at ht hrv hmm hrr;have gen:r.still=true→∀ y,r.fz=some y→RP F1 w y v:=fun hst y hy=>zQB h.mem hF1 hy hrv hrr (.inl ⟨hst,fun x hx L b hL hb=>by rw [← hFF]; exact .inr ⟨x.1,L,List.mem_map.2 ⟨x,zGL hmm hx,rfl⟩,hL,hb⟩⟩)
  cases r <;> simp only [RV.toB] at ht
  case p id2 off2 c2 =>
   obtain ⟨he2,ht⟩:=qZ ht;cases ht
   have:=vQU he2
   subst this;obtain ⟨b2,hb2,rfl⟩:=hrv;rw [hρ] at hb2; cases hb2; rfl
  all_goals
   obtain ⟨hst,ht⟩:=qZ ht;simp only [vQQ] at ht;obtain ⟨y,hy,ht⟩:=ht;cases ht;exact gen hst y hy
 ·have h2:=h1.setB (id:=id) hρ1 gr f1 f2 (ent:=.blk (ps'.map PV.toH)) ⟨b,us',ty2,hρ1,hb',Al.map_left (hal'.imp fun _ _ _ h=>qGU h),hone'⟩ (x:=.v x) (v:=v) hx hd hne2;exact Rel.eqv ⟨_,_,h2⟩ (qUL (e:=.set id (.blk (ps'.map PV.toH)) (.v x)) rfl rfl hid)
theorem zVC {F1:Nat→Prop} {id b:Nat} {args:List RV} {hs:List HV} {us:List Value} (hρ:ρ id=some (.blk b)) (hu:Al (fun r v=>RH ρ F w r.back v) args us) (hhs:mapO (RV.toB id) args=some hs) (gen:∀ r ∈ args,r.still=true→∀ y v,RH ρ F w r.back v→r.fz=some y→RP F1 w y v) :
  (∀ h ∈ hs,∀ id off,h=.p id off→id=pid)∧Al (ArgB F1 w b) hs us:=by
 have hmo:=zK hhs;refine ⟨fun hh hhm id' off' he' => ?_,by rw [← hmo.1,hu.1],fun i hh v hi hv => ?_⟩
 ·obtain ⟨i,hi⟩:=List.mem_iff_getElem?.1 hhm;have hil:=(List.getElem?_eq_some_iff.1 hi).1;have hl:i < args.length:=by rw [hmo.1]; exact hil
  have ht:=hmo.2 i _ hh (vQK hl) hi;rw [he'] at ht;generalize args[i]=r at ht;cases r <;> simp only [RV.toB] at ht
  case p id2 off2 c2 =>
   obtain ⟨_,ht⟩:=qZ ht;cases ht; rfl
  all_goals
   obtain ⟨_,ht⟩:=qZ ht;simp only [vQQ] at ht;obtain ⟨_,_,ht⟩:=ht;cases ht
 ·have hil:=(List.getElem?_eq_some_iff.1 hi).1;have hl:i < args.length:=by rw [hmo.1]; exact hil
  have ht:=hmo.2 i _ hh (vQK hl) hi;have hrv:=hu.2 i _ v (vQK hl) hv;have hg:=gen _ (List.getElem_mem hl);generalize args[i]=r at ht hrv hg;cases r <;> simp only [RV.toB] at ht
  case p id2 off2 c2 =>
   obtain ⟨he2,ht⟩:=qZ ht;cases ht
   have:=vQU he2
   subst this;obtain ⟨b2,hb2,rfl⟩:=hrv;rw [hρ] at hb2; cases hb2; rfl
  all_goals
   obtain ⟨hst,ht⟩:=qZ ht;simp only [vQQ] at ht;obtain ⟨y,hy,ht⟩:=ht;cases ht;exact hg hst y v hrv hy
theorem yHC:∀ {cs:List CV} {ps:List PV},mapO CV.pvq cs=some ps→∀ {i id e sz:Nat} {rows:Rows},cs[i]? = some (.o id e sz rows)→qJZ ps ≠ none
 | [],ps,_,i,id,e,sz,rows,h=>by simp at h
 | c :: cs,ps,hm,i,id,e,sz,rows,h=>by
  simp only [mapO,vQQ,vQZ] at hm;obtain ⟨p,hp,qs,hqs,rfl⟩:=hm;cases i with
  | zero =>
   simp only [List.getElem?_cons_zero,vQZ] at h;subst h;cases hp;simp [qJZ]
  | succ i =>
   have:=yHC hqs (by simpa using h)
   cases p <;> simp only [qJZ] <;> first | exact this | (intro hc; cases hc)
theorem jYL:∀ {cs:List CV} {ps:List PV},mapO CV.pvq cs=some ps→oneG ps=true→∀ {i id e sz:Nat} {rows:Rows},cs[i]? = some (.o id e sz rows)→qJQ cs=some id
 | [],ps,_,_,i,id,e,sz,rows,h=>by simp at h
 | c :: cs,ps,hm,ho,i,id,e,sz,rows,h=>by
  simp only [mapO,vQQ,vQZ] at hm;obtain ⟨p,hp,qs,hqs,rfl⟩:=hm;cases i with
  | zero =>
   simp only [List.getElem?_cons_zero,vQZ] at h;subst h; rfl
  | succ i =>
   have hi:cs[i]? = some (.o id e sz rows):=by simpa using h
   have hf:=yHC hqs hi;have no:∀ {e0 s0:Nat} {x0:PV},p=.gs e0 s0 x0→False:=fun hpe=>by
    subst hpe;simp only [oneG,Option.isNone_iff_eq_none] at ho;exact hf ho
   cases c with
   | o id2 e2 sz2 rows2=>cases hp; exact (no rfl).elim
   | h x =>
    have h1:oneG qs=true:=by cases p <;> first | exact (no rfl).elim | exact ho
    exact jYL hqs h1 hi
theorem zZL:∀ {cs:List CV} {id:Nat},qJQ cs=some id→∃ (i e sz:Nat) (rows:Rows),cs[i]? = some (.o id e sz rows)
 | [],id,h=>by cases h
 | .o id2 e sz rows :: cs,id,h=>by cases h; exact ⟨0,e,sz,rows,rfl⟩
 | .h x :: cs,id,h=>by
  obtain ⟨i,e,sz,rows,h⟩:=zZL (cs:=cs) h;exact ⟨i + 1,e,sz,rows,by simpa using h⟩
theorem zUH {M:Mem} {hc:List HV} {cs:List CV} {ps:List PV} {us:List Value} {A:Option Addr} (hm:MemOk E ρ F M w) (h:mapO (cvOf M) hc=some cs) (hal:Al (RH ρ F w) hc us) (hp:mapO CV.pvq cs=some ps)
  (hA:∀ (i id e sz:Nat) (rows:Rows),cs[i]? = some (.o id e sz rows)→∀ a c k s,ρ id=some (.reg a c k s)→A=a):Al (GsR F w A) ps us:=by
 have hcv:=qZH h hal;have h1:=zK hp;refine ⟨by rw [← h1.1,hcv.1],fun i p v hpi hv => ?_⟩;have hil:=(List.getElem?_eq_some_iff.1 hpi).1;have hl:i < cs.length:=by rw [h1.1]; exact hil
 have hci:=vQK hl;have hfz:=h1.2 i _ p hci hpi;obtain ⟨hrh,ho⟩:=hcv.2 i _ v hci hv;have hA':=hA i;rw [hci] at hA';generalize cs[i]=c at hfz hrh ho hA';unfold CV.pvq at hfz;split at hfz
 ·cases hfz; exact yJI hrh
 ·cases hfz;have e:v=.slice none 0 0:=hrh;subst e;exact .zs
 ·rename_i id e sz rows;cases hfz;obtain ⟨a,c,k,sz',hρ,rfl⟩:=hrh;obtain ⟨a2,c2,vr,hρ2,q1,q2,q3,q4,q5⟩:=hm.ent id _ (ho _ _ _ _ rfl)
  have:=hA' id e sz rows rfl _ _ _ _ hρ
  subst this;rw [hρ] at hρ2;simp only [vQZ,Loc.reg.injEq] at hρ2;obtain ⟨rfl,rfl,rfl,rfl⟩:=hρ2;refine ⟨rows,c,vr,?_,rfl,q1,q2,q3,q4,q5⟩;cases rows <;> rfl
 ·cases hfz
theorem zYH:∀ {ps:List PV} {e sz:Nat} {x:PV},qJZ ps=some (e,sz,x)→∃ i:Nat,ps[i]? = some (.gs e sz x)
 | [],e,sz,x,h=>by cases h
 | p :: ps,e,sz,x,h=>by
  cases p with
  | gs e2 sz2 x2=>cases h; exact ⟨0,rfl⟩
  | _ =>
   obtain ⟨i,hi⟩:=zYH (ps:=ps) h;exact ⟨i + 1,by simpa using hi⟩
theorem zKC:∀ {ps:List PV},oneG ps=true→∀ {i e sz:Nat} {x:PV},ps[i]? = some (.gs e sz x)→qJZ ps=some (e,sz,x)
 | [],_,i,e,sz,x,h=>by simp at h
 | p :: ps,ho,i,e,sz,x,h=>by
  cases i with
  | zero =>
   simp only [List.getElem?_cons_zero,vQZ] at h;subst h; rfl
  | succ i =>
   have hi:ps[i]? = some (.gs e sz x):=by simpa using h
   cases p with
   | gs e2 sz2 x2 =>
    simp only [oneG,Option.isNone_iff_eq_none] at ho
    have:∀ (qs:List PV),qJZ qs=none→∀ j:Nat,qs[j]? ≠ some (.gs e sz x):=by
     intro qs;induction qs with
     | nil=>intro _ j h; simp at h
     | cons q qs ih =>
      intro hq j hj;cases j with
      | zero =>
       simp only [List.getElem?_cons_zero,vQZ] at hj;subst hj; cases hq
      | succ j =>
       refine ih ?_ j (by simpa using hj);cases q <;> first | exact hq | cases hq
    exact absurd hi (this ps ho i)
   | _=>exact zKC (ps:=ps) ho hi
theorem zVB:∀ {ps:List PV},oneG ps=true→∀ {i j:Nat} {e sz e2 sz2:Nat} {x x2:PV},i ≠ j→ps[i]? = some (.gs e sz x)→ps[j]? = some (.gs e2 sz2 x2)→False
 | [],_,i,j,e,sz,e2,sz2,x,x2,_,h,_=>by simp at h
 | p :: ps,ho,i,j,e,sz,e2,sz2,x,x2,hij,hi,hj=>by
  have none:∀ (qs:List PV),qJZ qs=none→∀ (j e sz:Nat) (x:PV),qs[j]? ≠ some (.gs e sz x):=by
   intro qs;induction qs with
   | nil=>intro _ j e sz x h; simp at h
   | cons q qs ih =>
    intro hq j e sz x hj;cases j with
    | zero =>
     simp only [List.getElem?_cons_zero,vQZ] at hj;subst hj; cases hq
    | succ j =>
     refine ih ?_ j e sz x (by simpa using hj);cases q <;> first | exact hq | cases hq
  cases i with
  | zero =>
   cases j with
   | zero=>exact hij rfl
   | succ j =>
    simp only [List.getElem?_cons_zero,vQZ] at hi;subst hi;simp only [oneG,Option.isNone_iff_eq_none] at ho;exact none ps ho j _ _ _ (by simpa using hj)
  | succ i =>
   cases j with
   | zero =>
    simp only [List.getElem?_cons_zero,vQZ] at hj;subst hj;simp only [oneG,Option.isNone_iff_eq_none] at ho;exact none ps ho i _ _ _ (by simpa using hi)
   | succ j =>
    have hi':ps[i]? = some (.gs e sz x):=by simpa using hi
    have hj':ps[j]? = some (.gs e2 sz2 x2):=by simpa using hj
    have ho':oneG ps=true:=by
     cases p with
     | gs e3 sz3 x3 =>
      simp only [oneG,Option.isNone_iff_eq_none] at ho;exact absurd hi' (none ps ho i _ _ _)
     | _=>exact ho
    exact zVB ho' (fun e=>hij (by rw [e])) hi' hj'
theorem qHE {id m k:Nat} {x y:Option Ent}:zQ [(id,x),(m,y)] k=if m=k then some y else if id=k then some x else none:=by
 simp only [zQ];by_cases e:m=k
 ·subst e; simp
 ·rw [jY e,vYZ,if_neg e];by_cases e2:id=k
  ·subst e2; simp
  ·simp [jY e2,e2]
theorem yZC {A:Option Addr} {m:Nat} {p:PV} {v:Value} (h:GsR F w A p v) (hm:∀ e sz x rows c,p=.gs e sz x→x.rowsO=some rows→v=.slice A rows.len c→∃ s,ρ m=some (.reg A c rows.len s)):RH ρ F w (p.toQ m) v:=by
 cases p with
 | gs e sz x =>
  obtain ⟨rows,c,vr,h1,h2,_⟩:=h;obtain ⟨s,hs⟩:=hm e sz x rows c rfl h1 h2;exact ⟨A,c,rows.len,s,hs,h2⟩
 | zs=>cases h; rfl
 | _=>exact h
def QEnt (F':Nat→Prop) (w':World) (A':Option Addr) (ps':List PV) (us':List Value) (L':Option Loc):Option Ent→Prop
 | none=>L'=none
 | some en=>∃ (e sz:Nat) (x:PV) (rows:Rows) (c:Nat) (vr:List (List Value)),qJZ ps'=some (e,sz,x)∧x.rowsO=some rows∧en=.reg e sz rows∧L'=some (.reg A' c rows.len sz)∧0 < sz∧Al (Al (RP F' w')) rows.L vr∧(∀ r ∈ rows.L,r.length=sz)∧(∀ y ∈ vr,∀ u ∈ y,u.oneCell'=true)∧w'.ownsRow 0 e sz (.slice A' rows.len c) rows.len vr.flatten ∧
   ∀ (i e2 sz2:Nat) (x2:PV) (u:Value),ps'[i]? = some (.gs e2 sz2 x2)→us'[i]? = some u→u=.slice A' rows.len c
theorem zUF {f:Nat} (hB:SndB P C.T C.cB) (hgk:C.T.gk f=false) (hgq:C.T.gq f=true) (h:Rel' E C.n ρ F σ a w) {o:Oper} (hd:dstB C.n o.dst=true) {dst:Nat} {args:List RV} {us:List Value} (hu:Al (fun r v=>RH ρ F w r.back v) args us) (hres:∀ r ∈ args,RRes σ.M r) (he:qYD C.cB dst f args=some e) (hn:∀ i ∈ e.nw,qQI σ.M i)
  (hrun:kH P f→(execOp a.eval o).run P w=.ok (.enter f us.toArray) w):OK P E C σ a w e o:=by
 simp only [qYD,vQQ] at he;obtain ⟨⟨id,cs⟩,hp,ps,hps,hs,hhs,⟨x,ps'⟩,hr,ent,hent',he⟩:=he;obtain ⟨hb,he⟩:=qZ he;simp only [vQZ] at he;subst he;simp only [vQJ,Bool.not_eq_true'] at hb;obtain ⟨⟨⟨⟨⟨ho1,ho2⟩,hregs⟩,hidm⟩,hflat⟩,hid2⟩:=hb;have hbq:=hB f hs ps x ps' hr;rw [hgk,hgq] at hbq;obtain ⟨hent,hcall⟩:=hbq;obtain ⟨off,hmem⟩:=qUA hp;obtain ⟨hc,hlk,hcc⟩:=hres _ hmem;obtain ⟨b,cu,ty',hρ,hheap,hal,hone⟩:=h.mem.ent id _ hlk;have hidlt:=h.mem.ord id _ hlk;have hoff:=h.mem.off id _ b hρ rfl;have hregs':catR RV.regs args=[]:=by simpa using hregs
 -- where the growing slice lies
 obtain ⟨A,hA1,hA2⟩:∃ A:Option Addr,(∀ (i id e sz:Nat) (rows:Rows),cs[i]? = some (.o id e sz rows)→∀ a c k s,ρ id=some (.reg a c k s)→A=a)∧(∀ k,A.map (·.block)=some k→∃ oid L,qJQ cs=some oid∧ρ oid=some L∧L.bl=some k):=by
  cases hoid:qJQ cs with
  | none=>exact ⟨none,fun i id e sz rows hi=>(by rw [jYL hps ho1 hi] at hoid; cases hoid),fun k hk=>by cases hk⟩
  | some oid =>
   obtain ⟨i,e,sz,rows,hi⟩:=zZL hoid;obtain ⟨v,hv,hrh,_⟩:=(qZH hcc hal).get hi;obtain ⟨a1,c1,k1,s1,hρo,_⟩:=hrh;refine ⟨a1,fun i2 id2 e2 sz2 rows2 hi2 a c k s hρ2 => ?_,fun k hk=>⟨oid,_,rfl,hρo,hk⟩⟩
   have:=jYL hps ho1 hi2
   rw [hoid] at this;cases this;rw [hρo] at hρ2;simp only [vQZ,Loc.reg.injEq] at hρ2;exact hρ2.1
 have hcells:=zUH h.mem hcc hal hps hA1;generalize hm0:(qJQ cs).getD (100000 + dst)=m at *
 -- what m is
 have hmlt:m < 2000000:=by
  cases hoid:qJQ cs with
  | none=>rw [hoid] at hm0 hn; simp only [Option.getD_none] at hm0; subst hm0; exact (hn _ (by simp)).2
  | some oid =>
   rw [hoid] at hm0; simp only [Option.getD_some] at hm0; subst hm0;obtain ⟨i,e,sz,rows,hi⟩:=zZL hoid;obtain ⟨v,hv,hrh,_⟩:=(qZH hcc hal).get hi;obtain ⟨a1,c1,k1,s1,hρo,_⟩:=hrh;exact h.mem.lt hρo rfl
 have hmreg:∀ L,ρ m=some L→∃ a c k s,L=.reg a c k s:=fun L hL=>by
  cases hoid:qJQ cs with
  | none =>
   rw [hoid] at hm0 hn; simp only [Option.getD_none] at hm0; subst hm0;rw [h.mem.fresh (hn _ (by simp))] at hL; cases hL
  | some oid =>
   rw [hoid] at hm0; simp only [Option.getD_some] at hm0; subst hm0;obtain ⟨i,e,sz,rows,hi⟩:=zZL hoid;obtain ⟨v,hv,hrh,_⟩:=(qZH hcc hal).get hi;obtain ⟨a1,c1,k1,s1,hρo,_⟩:=hrh;rw [hρo] at hL; cases hL; exact ⟨_,_,_,_,rfl⟩
 have hAm:∀ k,A.map (·.block)=some k→∃ L,ρ m=some L∧L.bl=some k:=fun k hk=>by
  obtain ⟨oid,L,h1,h2,h3⟩:=hA2 k hk;rw [h1] at hm0; simp only [Option.getD_some] at hm0; subst hm0;exact ⟨L,h2,h3⟩
 have hidne:id ≠ m:=fun e=>by subst e; simp at hidm
 have hAoff:∀ k,A.map (·.block)=some k→¬ F k∧k < w.heap.size∧(E.w0.heap.size≤k ∨ E.W k):=fun k hk=>by
  obtain ⟨L,h1,h2⟩:=hAm k hk; exact h.mem.off m L k h1 h2
 have hAb:∀ k,A.map (·.block)=some k→k ≠ b:=fun k hk e=>by
  subst e;obtain ⟨L,h1,h2⟩:=hAm _ hk;exact hidne (h.mem.apart id m _ _ _ hρ h1 rfl h2)
 obtain ⟨hpid,hargs⟩:=zVC (F1:=F) (b:=b) hρ hu hhs fun r hr hst y v hrv hy=>zQB h.mem (fun k hk=>hk) hy hrv (hres r hr) (.inl ⟨hst,fun x hx=>by
  have:x ∈ catR RV.regs args:=mem_catR.2 ⟨r,hr,hx⟩
  rw [hregs'] at this; cases this⟩)
 unfold OK Goes;rw [hrun hent];simp only;refine Calls.mono (hcall w F b A us cu ty' (fun k hk=>(h.mem.fz k hk).1) hoff.1 hoff.2.1 hheap ho1 hcells hone (fun k hk=>⟨(hAoff k hk).1,(hAoff k hk).2.1,hAb k hk⟩) hpid hargs) fun en w' ⟨v,F',us',ty2,A',hv,gr,f1,f2,hx,hb',hal',hone',hA'⟩=>⟨v,hv,?_⟩
 -- the memory behind the call
 obtain ⟨L',hL',hLent⟩:∃ L':Option Loc,(∀ L,L'=some L→L.inner=false∧(∀ k,L.bl=some k→A'.map (·.block)=some k))∧QEnt F' w' A' ps' us' L' ent:=by
  cases hfg:qJZ ps' with
  | none=>rw [hfg] at hent'; cases hent'; exact ⟨none,fun L hL=>(by cases hL),rfl⟩
  | some q =>
   obtain ⟨e,sz,x2⟩:=q;rw [hfg] at hent';simp only [gEnt,vQQ,vQZ] at hent';obtain ⟨rows,hrows,rfl⟩:=hent';obtain ⟨i,hi⟩:=zYH hfg;obtain ⟨u,hu2,hg⟩:=hal'.get hi;obtain ⟨rows2,c,vr,q1,q2,q3,q4,q5,q6,q7⟩:=hg;rw [hrows] at q1; cases q1;refine ⟨some (.reg A' c rows.len sz),fun L hL=>(by cases hL; exact ⟨rfl,fun k hk=>hk⟩),e,sz,x2,rows,c,vr,hfg,hrows,rfl,rfl,q3,q4,q5,q6,q7,fun i2 e2 sz2 x3 u2 hi2 hu3 => ?_⟩;have hii:=zKC ho2 hi2;rw [hfg] at hii;cases hii;by_cases e3:i2=i
   ·subst e3; rw [hu2] at hu3; cases hu3; exact q2
   ·exact (zVB ho2 e3 hi2 hi).elim
 let ρ':Own:=fun k=>if k=m then L' else ρ k
 have ρm:ρ' m=L':=if_pos rfl;have ρne:∀ {k},k ≠ m→ρ' k=ρ k:=fun hk=>if_neg hk
 have inv:∀ k L,ρ' k=some L→(k=m∧L'=some L) ∨ (k ≠ m∧ρ k=some L):=fun k L hk=>by
  by_cases e:k=m
  ·subst e; rw [ρm] at hk; exact .inl ⟨rfl,hk⟩
  ·rw [ρne e] at hk; exact .inr ⟨e,hk⟩
 have fzb:∀ k,F k→w'.heap[k]? = w.heap[k]?:=fun k hk=>gr.block k (h.mem.fz k hk).1 fun e=>by
  rcases e with e | e
  ·subst e; exact hoff.1 hk
  ·exact (hAoff k e).1 hk
 have blkeq:∀ k L b',k ≠ m→k ≠ id→ρ k=some L→L.bl=some b'→w'.heap[b']? = w.heap[b']?:=fun k L b' h1 h2 hk hb2=>gr.block b' (h.mem.off k L b' hk hb2).2.1 fun e=>by
  rcases e with e | e
  ·subst e; exact h2 (h.mem.apart k id L _ _ hk hρ hb2 rfl)
  ·obtain ⟨L2,h3,h4⟩:=hAm b' e; exact h1 (h.mem.apart k m L L2 b' hk h3 hb2 h4)
 have hF'b:∀ k L b',k ≠ m→ρ k=some L→L.bl=some b'→¬ F' b':=fun k L b' h1 hk hb2 hf=>by
  rcases f2 b' hf with h2 | h2 | h2
  ·exact (h.mem.off k L b' hk hb2).1 h2
  ·have:=(h.mem.off k L b' hk hb2).2.1; omega
  ·obtain ⟨L2,h3,h4⟩:=hAm b' h2; exact h1 (h.mem.apart k m L L2 b' hk h3 hb2 h4)
 refine ⟨ρ',F',h.apply2 ⟨[(id,some (.blk (ps'.map (PV.toQ m)))),(m,ent)],[(m,none)],.v x,_⟩ o.dst v (fun d e=>by rw [e] at hd; simpa [dstB] using hd)
  ⟨fun k b2 hk => ?_,fun k L hk hs _ => ?_,fun k j a' c' kk s _ hk _ _ => ?_,fun k rows a' c' kk sz _ hs=>(by simp only [kY] at hs; split at hs <;> cases hs),fun k hk=>⟨f1 k hk,fzb k hk⟩⟩ hx
  (fun k L b' hu2 _ hk hb2 => ?_) (fun k hk hu2 => ?_) (fun k hk hu2 => ?_) (fun k y hu2 => ?_) (fun k L hu2 hL _ => ?_) (fun k y hu2 => ?_) (fun k L hL hi => ?_) (fun k k' L1 L2 b' h1 h2 hb1 hb2 => ?_) (fun k L b' hk hb2 => ?_) (fun k hk => ?_) ?_ (fun b3 hb3 => ?_)⟩
 ·rw [ρne fun e=>by subst e; obtain ⟨_,_,_,_,e2⟩:=hmreg _ hk; cases e2]; exact hk
 ·rw [ρne fun e=>by subst e; simp [kY] at hs]; exact hk
 ·rw [ρne (by have:=qZW k j; omega)]; exact hk
 ·simp only [qHE] at hu2;split at hu2
  ·cases hu2
  ·split at hu2
   ·cases hu2
   ·rename_i n1 n2; exact blkeq k L b' (Ne.symm n1) (Ne.symm n2) hk hb2
 ·simp only [qHE] at hu2;simp only [kY];split at hu2
  ·cases hu2
  ·rename_i n1; rw [if_neg n1]
 ·simp only [kY]; rw [if_neg (by unfold mid; omega)]
 ·simp only [qHE] at hu2;split at hu2
  ·rename_i e; rw [← e]; exact hmlt
  ·split at hu2
   ·rename_i e; rw [← e]; exact hidlt
   ·cases hu2
 ·simp only [qHE] at hu2;split at hu2
  ·cases hu2
  ·rename_i n1; rw [ρne (Ne.symm n1)] at hL; exact hL
 ·simp only [qHE] at hu2;split at hu2
  ·rename_i e;cases hu2;subst e;cases ent with
   | none=>show ρ' m=none; rw [ρm]; exact hLent
   | some en =>
    obtain ⟨e,sz,x2,rows,c,vr,_,_,rfl,hL,q3,q4,q5,q6,q7,_⟩:=hLent;exact ⟨A',c,vr,by rw [ρm]; exact hL,q3,q4,q5,q6,q7⟩
  ·split at hu2
   ·rename_i _ e;cases hu2;subst e;refine ⟨b,us',ty2,by rw [ρne hidne]; exact hρ,hb',Al.map_left ⟨hal'.1,fun i p u hi hu3=>yZC (hal'.2 i p u hi hu3) fun e sz x2 rows c hpe hrows huv => ?_⟩,hone'⟩;subst hpe;have hfg:=zKC ho2 hi;cases ent with
    | none =>
     rw [hfg] at hent';simp only [gEnt,hrows,vZV] at hent';cases hent'
    | some en =>
     obtain ⟨e3,sz3,x3,rows3,c3,vr,hf3,hr3,_,hL,_,_,_,_,_,hall⟩:=hLent;rw [hfg] at hf3;cases hf3;rw [hrows] at hr3;cases hr3
     have:=hall i _ _ _ u hi hu3
     rw [huv] at this;simp only [Value.slice.injEq,true_and] at this;exact ⟨sz,by rw [ρm,hL,this]⟩
   ·cases hu2
 ·rcases inv k L hL with ⟨_,h2⟩ | ⟨_,h2⟩
  ·rw [(hL' L h2).1] at hi; cases hi
  ·exact h.mem.inr k L h2 hi
 ·have cross:∀ k L,k ≠ m→ρ k=some L→L.bl=some b'→A'.map (·.block)=some b'→False:=fun k L hne hk hb3 hb4=>by
   obtain ⟨_,_,_,h5⟩:=hA' b' hb4;rcases h5 with h5 | h5
   ·have:=(h.mem.off k L b' hk hb3).2.1; omega
   ·obtain ⟨L3,h6,h7⟩:=hAm b' h5; exact hne (h.mem.apart k m L L3 b' hk h6 hb3 h7)
  rcases inv k L1 h1 with ⟨e1,h3⟩ | ⟨n1,h3⟩ <;> rcases inv k' L2 h2 with ⟨e2,h4⟩ | ⟨n2,h4⟩
  ·rw [e1,e2]
  ·exact (cross k' L2 n2 h4 hb2 ((hL' L1 h3).2 b' hb1)).elim
  ·exact (cross k L1 n1 h3 hb1 ((hL' L2 h4).2 b' hb2)).elim
  ·exact h.mem.apart k k' L1 L2 b' h3 h4 hb1 hb2
 ·rcases inv k L hk with ⟨_,h2⟩ | ⟨n1,h2⟩
  ·obtain ⟨h3,h4,_,h5⟩:=hA' b' ((hL' L h2).2 b' hb2);refine ⟨h3,h4,?_⟩;rcases h5 with h5 | h5
   ·exact .inl (Nat.le_trans h.mem.grow.size h5)
   ·exact (hAoff b' h5).2.2
  ·have:=h.mem.off k L b' h2 hb2
   exact ⟨hF'b k L b' n1 h2 hb2,vZZ this.2.1 gr.size,this.2.2⟩
 ·rcases f2 k hk with h1 | h1 | h1
  ·exact ⟨vZZ (h.mem.fz k h1).1 gr.size,(h.mem.fz k h1).2⟩
  ·exact ⟨h1.2,.inr (.inl (Nat.le_trans h.mem.grow.size h1.1))⟩
  ·have:=hAoff k h1; exact ⟨vZZ this.2.1 gr.size,.inr this.2.2⟩
 ·refine ⟨gr.os.trans h.mem.grow.os,gr.tape.trans h.mem.grow.tape,gr.output.trans h.mem.grow.output,Nat.le_trans h.mem.grow.size gr.size,fun k hk hW => ?_⟩;rw [gr.block k (vZZ hk h.mem.grow.size) fun e => ?_]
  ·exact h.mem.grow.block k hk hW
  ·rcases e with e | e
   ·subst e;rcases hoff.2.2 with h1 | h1
    ·omega
    ·exact hW h1
   ·rcases (hAoff k e).2.2 with h1 | h1
    ·omega
    ·exact hW h1
 ·have n1:m ≠ pid2:=fun e=>by subst e; obtain ⟨_,_,_,_,e2⟩:=hmreg _ hb3; cases e2
  have n2:id ≠ pid2:=fun e=>by subst e; simp at hid2
  simp only [qHE,if_neg n1,if_neg n2]
theorem zUI {f:Nat} (hB:SndB P C.T C.cB) (hgk:C.T.gk f=true) (h:Rel' E C.n ρ F σ a w) {o:Oper} (hd:dstB C.n o.dst=true) {args:List RV} {us:List Value} (hu:Al (fun r v=>RH ρ F w r.back v) args us) (hres:∀ r ∈ args,RRes σ.M r) (he:qZE C.cB f args=some e)
  (hrun:kH P f→(execOp a.eval o).run P w=.ok (.enter f us.toArray) w):OK P E C σ a w e o:=by
 unfold qZE at he;simp only [vQQ] at he;obtain ⟨⟨id,cs⟩,hp,he⟩:=he;dsimp only at he;split at he
 ·rename_i m e0 sz rows;simp only [vQQ] at he;obtain ⟨hs,hhs,⟨x,ps'⟩,hr,he⟩:=he;dsimp only at he;split at he
  ·rename_i e2 sz2 y;simp only [vQQ] at he;obtain ⟨rows2,hrows,he⟩:=he;obtain ⟨hb,he⟩:=qZ he;simp only [vQZ] at he;subst he;simp only [vQJ,Bool.not_eq_true'] at hb;obtain ⟨⟨⟨hsz,hregs⟩,hidm⟩,hflat⟩:=hb;have hsz2:=vQU hsz;subst hsz2;have hbq:=hB f hs _ x _ hr;rw [hgk] at hbq;obtain ⟨hent,hcall⟩:=hbq;obtain ⟨off,hmem⟩:=qUA hp;obtain ⟨hc,hlk,hcc⟩:=hres _ hmem;obtain ⟨b,cu,ty',hρ,hheap,hal,hone⟩:=h.mem.ent id _ hlk;have hoff:=h.mem.off id _ b hρ rfl;have hregs':catR RV.regs args=[]:=by simpa using hregs
   have hcv:=qZH hcc hal;obtain ⟨u0,hu0,hrh,hlm⟩:=hcv.get (i:=0) rfl;obtain ⟨A,c1,k1,s1,hρo,hu0v⟩:=hrh;have hlm':=hlm m e0 sz2 rows rfl;obtain ⟨A2,c2,vr0,hρo2,_⟩:=h.mem.ent m _ hlm';rw [hρo] at hρo2;simp only [vQZ,Loc.reg.injEq] at hρo2;obtain ⟨rfl,rfl,rfl,rfl⟩:=hρo2;have hcells:=zUH (A:=A) (ps:=[.gs e0 s1 rows.pv]) h.mem hcc hal rfl (fun i id' e' sz' rows' hi a c k s hρ2=>by
    cases i with
    | zero =>
     simp only [List.getElem?_cons_zero,vQZ,CV.o.injEq] at hi;obtain ⟨rfl,_⟩:=hi;rw [hρo] at hρ2;simp only [vQZ,Loc.reg.injEq] at hρ2;exact hρ2.1
    | succ i=>simp at hi)
   have hmlt:=h.mem.lt hρo rfl;have hidne:id ≠ m:=fun e=>by subst e; simp at hidm
   have hAm:∀ k,A.map (·.block)=some k→(Loc.reg A c1 rows.len s1).bl=some k:=fun k hk=>hk
   have hAoff:∀ k,A.map (·.block)=some k→¬ F k∧k < w.heap.size∧(E.w0.heap.size≤k ∨ E.W k):=fun k hk=>h.mem.off m _ k hρo (hAm k hk)
   have hAb:∀ k,A.map (·.block)=some k→k ≠ b:=fun k hk e=>by
    subst e;exact hidne (h.mem.apart id m _ _ _ hρ hρo rfl (hAm _ hk))
   obtain ⟨hpid,hargs⟩:=zVC (F1:=F) (b:=b) hρ hu hhs fun r hr hst y v hrv hy=>zQB h.mem (fun k hk=>hk) hy hrv (hres r hr) (.inl ⟨hst,fun x hx=>by
    have:x ∈ catR RV.regs args:=mem_catR.2 ⟨r,hr,hx⟩
    rw [hregs'] at this; cases this⟩)
   unfold OK Goes;rw [hrun hent];simp only;refine Calls.mono (hcall w F b A us cu ty' (fun k hk=>(h.mem.fz k hk).1) hoff.1 hoff.2.1 hheap rfl hcells hone (fun k hk=>⟨(hAoff k hk).1,(hAoff k hk).2.1,hAb k hk⟩) hpid hargs) fun en w' ⟨v,F',hv,gr,f1,f2,hx,hal'⟩=>⟨v,hv,?_⟩
   obtain ⟨rows3,c3,vr,q1,q2,q3,q4,q5,q6,q7⟩:=hal'.2 0 _ u0 rfl hu0;rw [hrows] at q1;cases q1;rw [hu0v] at q2;simp only [Value.slice.injEq,true_and] at q2;obtain ⟨q2a,rfl⟩:=q2;have fzb:∀ k,F k→w'.heap[k]? = w.heap[k]?:=fun k hk=>gr.block k (h.mem.fz k hk).1 fun e=>(hAoff k e).1 hk
   refine ⟨ρ,F',h.apply ⟨[(m,some (.reg e2 s1 rows2))],[],.v x,[]⟩ o.dst v (fun d e=>by rw [e] at hd; simpa [dstB] using hd)
    ⟨fun k b hk=>hk,fun k L' hk _ _=>hk,fun _ _ _ _ _ _ _ hk _ _=>hk,fun k rows a' c' kk sz _ hs=>by simp [zZ] at hs,fun k hk=>⟨f1 k hk,fzb k hk⟩⟩ hx
    (fun k L' b' hu3 hk hb' => ?_) (fun _ _=>rfl) (fun k y hu3 => ?_) (fun k _=>rfl) (fun k y hu3 => ?_) h.mem.apart (fun k L' b' hk hb' => ?_) (fun k hk => ?_) ?_ (fun b3 hb3=>qHU (qXV hρo hb3))⟩
   ·refine gr.block b' (h.mem.off k L' b' hk hb').2.1 fun e => ?_
    have:=h.mem.apart k m L' _ b' hk hρo hb' (hAm b' e)
    subst this;simp [yJ] at hu3
   ·simp only [yJ] at hu3;split at hu3
    ·rename_i e; rw [← e]; exact hmlt
    ·cases hu3
   ·simp only [yJ] at hu3;split at hu3
    ·rename_i e;cases hu3;subst e;exact ⟨A,c1,vr,by rw [hρo,q2a],q3,q4,q5,q6,q7⟩
    ·cases hu3
   ·have:=h.mem.off k L' b' hk hb'
    exact ⟨fun hf=>by rcases f2 b' hf with h1 | h1; exact this.1 h1; omega,vZZ this.2.1 gr.size,this.2.2⟩
   ·rcases f2 k hk with h1 | h1
    ·exact ⟨vZZ (h.mem.fz k h1).1 gr.size,(h.mem.fz k h1).2⟩
    ·exact ⟨h1.2,.inr (.inl (Nat.le_trans h.mem.grow.size h1.1))⟩
   ·refine ⟨gr.os.trans h.mem.grow.os,gr.tape.trans h.mem.grow.tape,gr.output.trans h.mem.grow.output,Nat.le_trans h.mem.grow.size gr.size,fun k hk hW => ?_⟩;rw [gr.block k (vZZ hk h.mem.grow.size) fun e => ?_]
    ·exact h.mem.grow.block k hk hW
    ·rcases (hAoff k e).2.2 with h1 | h1
     ·omega
     ·exact hW h1
  ·cases he
 ·cases he
theorem qZU {fx:Operand} {args:Array Operand} {ats:Array TypeId} {f:Nat} {fs us cs:List Value} (h:Rel' E C.n ρ F σ a w) (hf:ev (actS a) fx=some (.func (.func f) fs.toArray cs.toArray)) (hu:evs (actS a) args.toList=some us) (hent:kH P f) :
  (execOp a.eval ⟨d,.call ⟨.value fx,args,ats⟩,ty,pos,af,g⟩).run P w=.ok (.enter f (fs ++ us ++ cs).toArray) w:=by
 have e3:args.map a.eval=us.toArray:=by
  have h1:=(qUC hu).1;have h2:=(qUC hu).2
  have:args.toList.map a.eval=us:=by
   rw [← h1];refine List.map_congr_left fun x hx => ?_
   have:=h2 x hx
   cases hv:ev (actS a) x with
   | none=>rw [hv] at this; cases this
   | some v=>rw [yW h hv,qV hv]
  apply Array.ext'; rw [Array.toList_map,this]
 simp [execOp,resolve,yW h hf,Deferred.ofValue,invoke,e3]
 simpa using hent (fs ++ us ++ cs).toArray w
theorem al_v {ps:List PV} {us:List Value} (h:Al (RP F w) ps us):Al (fun r v=>RH ρ F w r.back v) (ps.map RV.v) us:=Al.map_left h
theorem jJU {fx:Operand} {args:Array Operand} {ats:Array TypeId} (hA:SndA P C.cA) (hB:SndB P C.T C.cB) (h:Rel' E C.n ρ F σ a w) (hd:dstB C.n d=true) (hvs:mapO (opv 0 σ) (#[fx] ++ args).toList=some vs) (he:qK C.T C.cA C.cB C.me (d.getD 0) (.call ⟨.value fx,args,ats⟩) vs=some e) (hn:∀ i ∈ e.nw,qQI σ.M i) :
  OK P E C σ a w e ⟨d,.call ⟨.value fx,args,ats⟩,ty,pos,af,g⟩:=by
 rw [show (#[fx] ++ args).toList=fx :: args.toList by simp] at hvs;simp only [mapO,vQQ,vQZ] at hvs;obtain ⟨rx,hrx,rs,hrs,rfl⟩:=hvs;obtain ⟨v,v1,v2,v3⟩:=zJ h hrx;obtain ⟨us,u1,u2,u3⟩:=qVW h hrs;cases rx with
 | v p =>
  cases p with
  | f fn first cap =>
   simp only [qK] at he;cases v2 with
   | f _ _ _ fs cs hl hm hf hc =>
    have hal:=((al_v (ρ:=ρ) ⟨hl,hf⟩).append u2).append (al_v ⟨hm,hc⟩);have hres:∀ r ∈ first.map RV.v ++ rs ++ cap.map RV.v,RRes σ.M r:=fun r hr=>by
     rcases List.mem_append.1 hr with hr | hr
     ·rcases List.mem_append.1 hr with hr | hr
      ·obtain ⟨_,_,rfl⟩:=List.mem_map.1 hr; trivial
      ·exact u3 r hr
     ·obtain ⟨_,_,rfl⟩:=List.mem_map.1 hr; trivial
    cases hrw:C.T.rw fn with
    | true =>
     rw [hrw,vYQ] at he;cases hgk:C.T.gk fn with
     | true=>rw [hgk,vYQ] at he; exact zUI hB hgk h hd hal hres he fun hent=>qZU h v1 u1 hent
     | false =>
     rw [hgk,vYZ] at he;cases hgq:C.T.gq fn with
     | false=>rw [hgq,vYZ] at he; exact yUV hB hgk hgq h hd hal hres he fun hent=>qZU h v1 u1 hent
     | true=>rw [hgq,vYQ] at he; exact zUF hB hgk hgq h hd hal hres he hn fun hent=>qZU h v1 u1 hent
    | false=>rw [hrw] at he; exact zHQ hA h hd hal hres he hn fun hent=>qZU h v1 u1 hent
  | _=>simp only [qK] at he; cases he
 | g fn first cap =>
  simp only [qK] at he;obtain ⟨fs,cs,rfl,hf,hc⟩:=v2;have hal:=((al_v (ρ:=ρ) hf).append u2).append (Al.map_left (f:=fun c:RC=>(match c with | .v x=>RV.v x | .p id off cells=>RV.p id off cells)) (R:=fun r v=>RH ρ F w r.back v) (hc.map_left_inv.imp fun c v _ hh=>(by cases c <;> exact hh)));have hres:∀ r ∈ first.map RV.v ++ rs ++ cap.map (fun c:RC=>(match c with | .v x=>RV.v x | .p id off cells=>RV.p id off cells)),RRes σ.M r:=fun r hr=>by
   rcases List.mem_append.1 hr with hr | hr
   ·rcases List.mem_append.1 hr with hr | hr
    ·obtain ⟨_,_,rfl⟩:=List.mem_map.1 hr; trivial
    ·exact u3 r hr
   ·obtain ⟨c,hcm,rfl⟩:=List.mem_map.1 hr
    have:=v3 c hcm
    cases c <;> exact this
  cases hrw:C.T.rw fn with
  | true =>
   rw [hrw,vYQ] at he;cases hgk:C.T.gk fn with
   | true=>rw [hgk,vYQ] at he; exact zUI hB hgk h hd hal hres he fun hent=>qZU h v1 u1 hent
   | false =>
   rw [hgk,vYZ] at he;obtain ⟨hgq,he⟩:=qZ he;exact zUF hB hgk hgq h hd hal hres he hn fun hent=>qZU h v1 u1 hent
  | false=>rw [hrw,vYZ] at he; exact zHQ hA h hd hal hres he hn fun hent=>qZU h v1 u1 hent
 | _=>simp only [qK] at he; cases he
theorem zUG {ops:Array Oper} {o:Oper} {b:Bool} (h:Rel' E C.n ρ F σ a w) (hg:uY ops σ o=some b):Region.wanted o (yielded ops a.tmps)=b:=by
 unfold uY at hg;unfold Region.wanted;cases hgd:o.guard with
 | none=>rw [hgd] at hg; cases hg; rfl
 | some jb =>
  obtain ⟨j,c⟩:=jb;rw [hgd] at hg;simp only at hg ⊢;split at hg
  ·rename_i dd hdd;split at hg
   ·rename_i x hx;cases hg;obtain ⟨v,hv,hr⟩:=h.slots dd _ hx
    have:=qZI hr
    subst this;simp [yielded,hdd,Array.getD_eq_getD_getElem?,hv]
   ·rename_i hx;cases hg;obtain ⟨v,hv,hr⟩:=h.slots dd _ hx;cases hr with
    | t _ vs hl _ =>
     simp [yielded,hdd,hv]
   ·cases hg
  ·cases hg
theorem jQV {op:Op} (hT:TabOk P C.T) (hA:SndA P C.cA) (hB:SndB P C.T C.cB) (h:Rel' E C.n ρ F σ a w) (hd:dstB C.n d=true) (hvs:mapO (opv (mode op) σ) op.operands.toList=some vs) (he:qK C.T C.cA C.cB C.me (d.getD 0) op vs=some e) (hn:∀ i ∈ e.nw,qQI σ.M i) (hnd:∀ c,op ≠ .defer c) :
  OK P E C σ a w e ⟨d,op,ty,pos,af,g⟩:=by
 cases op with
 | defer c=>exact absurd rfl (hnd c)
 | move x=>exact jJY h hd hvs he
 | assign x=>exact yYE h hd hvs he
 | pick c x y=>exact jJQ h hd hvs he
 | alloc t=>exact yWD hT h hd hvs he hn
 | box t x=>exact jWV h hd hvs he hn
 | build t ps=>exact yWC hT h hd hvs he
 | buildSlice t len ps=>exact yYD hT h hd hvs he hn
 | load t x=>exact jJK hT h hd hvs he
 | store t x y=>exact yWX hT h hd hvs he
 | nilCheck x=>exact jXB h hd hvs he
 | binOp op t x y t'=>exact jWH hT h hd hvs he
 | unOp op t x =>
  cases op with
  | not=>exact jXA h hd hvs he
  | neg=>exact jXC h hd hvs he
  | _=>simp only [qK] at he; cases he
 | convert s t x=>exact yQD hT h hd hvs he
 | makeFunc fn first cap=>exact zWG h hd hvs he
 | makeSlice t x y=>exact jJJ hT h hd hvs he hn
 | slice t x lo hi mx=>exact yWW hT h hd hvs he
 | fieldAddr t x f=>exact zUQ hT h hd hvs he
 | field t x f=>exact yWH hT h hd hvs he
 | indexAddr t x y=>exact zKL hT h hd hvs he
 | index t x y=>exact yWG hT h hd hvs he
 | range t x=>exact yWV hT h hd hvs he hn
 | next x b=>exact jJZ h hd hvs he
 | extract x i=>exact yQC h hd hvs he
 | call c =>
  obtain ⟨callee,args,ats⟩:=c;cases callee with
  | value fx=>exact jJU hA hB h hd hvs he hn
  | builtin b =>
   cases b with
   | len=>exact jXL hT h hd hvs he
   | min=>exact jXD h hd hvs he
   | max=>exact jXE h hd hvs he
   | append=>exact yYF hT h hd hvs he hn
   | _=>simp only [qK] at he; cases he
  | _=>simp only [qK] at he; cases he
 | _=>simp only [qK] at he; cases he
theorem yWA (hT:TabOk P C.T) (hE:E.D=Harm P) (h:Rel' E C.n ρ F σ a w) {d:Option Tmp} {ty:TypeId} {pos:String} {af:Array Edge} {g:Option (Nat × Bool)} {c:Call} {vs:List RV} {e:Eff} (hd:dstB C.n d=true)
  (hvs:mapO (opv 0 σ) c.operands.toList=some vs) (he:qK C.T C.cA C.cB C.me (d.getD 0) (.defer c) vs=some e):GoesD P E.D ⟨d,.defer c,ty,pos,af,g⟩ a w fun a' w'=>Rel E C.n (σ.apply e d) a' w':=by
 obtain ⟨callee,args,ats⟩:=c;cases callee with
 | value fx =>
  cases vs with
  | nil=>simp only [qK] at he; cases he
  | cons x vs =>
   simp only [qK] at he;obtain ⟨hargs,he1⟩:=qZ he
   clear he
   have hargs0:args=#[]:=by simpa using hargs
   subst hargs0;have hvs':mapO (opv 0 σ) [fx]=some (x :: vs):=by simpa [Call.operands] using hvs
   obtain ⟨y,hy,hys⟩:=qJG hvs';cases hys;have key:∀ (f:Nat) (fs cs:List Value),a.eval fx=.func (.func f) fs.toArray cs.toArray→C.T.dd f=true→e=.val .un→GoesD P E.D ⟨d,.defer ⟨.value fx,#[],ats⟩,ty,pos,af,g⟩ a w fun a' w'=>Rel E C.n (σ.apply e d) a' w':=by
    intro f fs cs hev hdd he;subst he;obtain ⟨hent,hc⟩:=hT.dd f hdd;have hh:Harm P { target:=.fn (.func f) cs.toArray,args:=fs.toArray }:=⟨f,cs.toArray,rfl,hent,hc⟩
    refine .inr ⟨{ target:=.fn (.func f) cs.toArray,args:=fs.toArray },?_,by rw [hE]; exact hh,?_⟩
    ·simp [execOp,resolve,hev,Deferred.ofValue]
    ·have h':Rel' E C.n ρ F σ { a with defers:={ target:=.fn (.func f) cs.toArray,args:=fs.toArray } :: a.defers } w:=⟨h.size,fun d hd=>by
      rcases List.mem_cons.1 hd with rfl | hd
      ·rw [hE]; exact hh
      ·exact h.defers d hd,h.slots,h.mem⟩
     exact ⟨ρ,F,h'.val (x:=.un) (Grow.refl w) (fun _ h=>h) (fun _ h=>.inl h) trivial hd⟩
   cases x with
   | v p =>
    cases p with
    | f fn first cap =>
     simp only at he1;obtain ⟨hdd,he⟩:=qZ he1;obtain ⟨v,v1,v2,v3⟩:=zJ h hy;cases v2 with
     | f _ _ _ fs cs hl hm hf hc=>exact key fn fs cs (yW h v1) hdd (by injection he with he; exact he.symm)
    | _=>simp only at he1; cases he1
   | g fn first cap =>
    simp only at he1;obtain ⟨hdd,he⟩:=qZ he1;obtain ⟨v,v1,v2,v3⟩:=zJ h hy;obtain ⟨fs,cs,rfl,hf,hc⟩:=v2;exact key fn fs cs (yW h v1) hdd (by injection he with he; exact he.symm)
   | _=>simp only at he1; cases he1
 | _=>simp only [qK] at he; cases he
theorem yYQ {ops:Array Oper} (hT:TabOk P C.T) (hE:E.D=Harm P) (hA:SndA P C.cA) (hB:SndB P C.T C.cB):Sim P E C ops:=by
 intro o σ r a w hs hr;obtain ⟨ρ,F,h⟩:=hr;unfold qQL at hs;simp only [vQQ] at hs;obtain ⟨gb,hg,hs⟩:=hs;have hw:=zUG h hg;obtain ⟨hd,hs⟩:=qZ hs;cases gb with
 | true =>
  rw [if_pos hw];simp only [vYQ,vQQ] at hs;obtain ⟨vs,hvs,e,he,hs⟩:=hs;obtain ⟨hn,hs⟩:=qZ hs;cases hs;have hn':∀ i ∈ e.nw,qQI σ.M i:=fun i hi=>zYG (List.all_eq_true.1 hn i hi)
  obtain ⟨d,op,ty,pos,af,g⟩:=o;by_cases hdf:∃ c,op=.defer c
  ·obtain ⟨c,rfl⟩:=hdf;exact yWA hT hE h hd hvs he
  ·exact .inl (jQV hT hA hB h hd hvs he hn' (fun c hc=>hdf ⟨c,hc⟩))
 | false =>
  rw [if_neg (by rw [hw]; simp)];simp only [vYZ,vQZ] at hs;subst hs;exact ⟨ρ,F,h.val (x:=.v (.t [])) (Grow.refl w) (fun _ h=>h) (fun _ h=>.inl h) (RP.t [] [] rfl fun i p v hp=>by simp at hp) hd⟩
end
end Go.Rx
namespace Go.Rx
open Go.RowKit Go.Sx
section
variable {P:Program} {E:Env} {n:Nat} {C:Cx} {ρ:Own} {F:Nat→Prop} {σ:St} {a:Act} {w:World}
theorem zVI {t:Nat} {v:Value} (h:a.tmps[t]? = some v):a.put (some t) v=a:=by
 have:a.tmps.setIfInBounds t v=a.tmps:=by
  refine Array.ext_getElem? fun i => ?_
  rw [Array.getElem?_setIfInBounds];split
  ·rename_i e;subst e;have hl:=(Array.getElem?_eq_some_iff.1 h).1;rw [if_pos hl,h]
  ·rfl
 simp [Act.put,this]
theorem yHE (h:Rel' E n ρ F σ a w) {t:Nat} {v:Value} (hv:a.tmps[t]? = some v):dstB n (some t)=true:=by
 have hl:=(Array.getElem?_eq_some_iff.1 hv).1;rw [h.size] at hl
 simpa [dstB] using hl
theorem Rel'.tell (h:Rel' E n ρ F σ a w) {t:Nat} (ht:jJ σ.S t=some .nl):Rel' E n ρ F (σ.apply (.val (.v (.l []))) (some t)) a w:=by
 obtain ⟨v,hv,hr⟩:=h.slots t _ ht;have hr':v=.slice none 0 0:=hr;subst hr'
 have:=h.val (Grow.refl w) (fun _ h=>h) (fun _ h=>.inl h) (x:=.v (.l [])) (v:=.slice none 0 0) (RP.l0 _ _) (yHE h hv)
 rwa [zVI hv] at this
theorem qUG:∀ (l:List Nat) {σ:St},Rel E C.n σ a w→Rel E C.n (frzL l σ) a w
 | [],σ,h=>h
 | t :: l,σ,h=>by
  simp only [frzL];split
  ·rename_i hx;obtain ⟨ρ,F,h⟩:=h;exact qUG l ⟨ρ,F,h.tell hx⟩
  ·rename_i id hx;split
   ·rename_i e sz rows hl;obtain ⟨ρ,F,h⟩:=h;exact qUG l ⟨_,_,h.froze [(id,rows)] (fun r hr=>by simp only [List.mem_singleton] at hr; subst hr; exact ⟨e,sz,hl⟩)⟩
   ·exact qUG l h
  ·exact qUG l h
theorem qVK:∀ (l:List (Nat × Nat × Nat × Nat)) {σ:St},Rel E C.n σ a w→Rel E C.n (ownL l σ) a w
 | [],σ,h=>h
 | (t,id,e,sz) :: l,σ,h=>by
  simp only [ownL];split
  ·rename_i hx hl;cases hz:Nat.blt 0 sz && Nat.blt id 2000000 with
   | false=>exact qVK l h
   | true =>
    rw [vQJ,Nat.blt_eq,Nat.blt_eq] at hz;obtain ⟨hz',hid⟩:=hz;obtain ⟨ρ,F,h⟩:=h;obtain ⟨v,hv,hr⟩:=h.slots t _ hx;have hr':v=.slice none 0 0:=hr;subst hr'
    have:=h.adopt (id:=id) ⟨hl,hid⟩ (ent:=.reg e sz (.l [])) (L:=.reg none 0 0 sz) (x:=.o id) (v:=.slice none 0 0) (Grow.refl w) (fun _ h=>h) (fun _ h=>.inl h) (fun b hb=>by cases hb)
     ⟨none,0,[],zX _ _ _,hz',Al.nil,(fun r hr=>by cases hr),(fun r hr=>by cases hr),⟨by simp [Rows.len],.inl (by simp [Rows.len])⟩⟩ ⟨_,_,_,_,zX _ _ _,rfl⟩ (yHE h hv)
    rw [zVI hv] at this;exact qVK l ⟨_,_,this⟩
  ·exact qVK l h
theorem qJU:∀ (l:List (Nat × Nat × Nat × Nat × Nat)) {σ:St},Rel E C.n σ a w→Rel E C.n (zKX l σ) a w
 | [],σ,h=>h
 | (b,k,id,e,sz) :: l,σ,h=>by
  simp only [zKX];split
  ·rename_i cells hb hl;split
   ·rename_i hc;cases hz:Nat.blt 0 sz && Nat.blt id 2000000 with
    | false=>exact qJU l h
    | true =>
     rw [vQJ,Nat.blt_eq,Nat.blt_eq] at hz;obtain ⟨hz',hid⟩:=hz;rw [vYQ];refine qJU l ?_;obtain ⟨ρ,F,h⟩:=h;have hnone:ρ id=none:=h.mem.fresh ⟨hl,hid⟩;have hne:b ≠ id:=fun e=>by rw [e,hl] at hb; cases hb
     have old:∀ k L',ρ k=some L'→updO ρ id (.reg none 0 0 sz) k=some L':=fun k L' hk=>by
      rw [qQJ (fun e=>by subst e; rw [hnone] at hk; cases hk)]; exact hk
     have inv:∀ k L',updO ρ id (.reg none 0 0 sz) k=some L'→(k=id∧L'=.reg none 0 0 sz) ∨ (k ≠ id∧ρ k=some L'):=fun k L' hk=>by
      by_cases e:k=id
      ·subst e; rw [zX] at hk; cases hk; exact .inl ⟨rfl,rfl⟩
      ·rw [qQJ e] at hk; exact .inr ⟨e,hk⟩
     have hF:∀ k,F k→F k∧w.heap[k]? = w.heap[k]?:=fun k hk=>⟨hk,rfl⟩
     have ht:Turns [] ρ (updO ρ id (.reg none 0 0 sz)) F F w w:=⟨fun k b hk=>old k _ hk,fun k L' hk _ _=>old k _ hk,fun k j a' c' kk s _ hk _ _=>old _ _ hk,fun k rows a' c' kk sz _ hs=>by simp [zZ] at hs,hF⟩
     refine ⟨updO ρ id (.reg none 0 0 sz),F,h.size,h.defers,fun t x hx => ?_,⟨fun k y hk => ?_,fun k L hk hi => ?_,fun k y hk => ?_,fun k L hk hi => ?_,fun k k' L L' b' h1 h2 h3 h4 => ?_,fun k L b' hk hb' => ?_,h.mem.fz,h.mem.fz0,h.mem.grow,fun b' hb' => ?_,fun b' hb' => ?_⟩⟩
     ·obtain ⟨v,hv,hr⟩:=h.slots t x hx;exact ⟨v,hv,hr.mono old hF⟩
     ·simp only [qZV] at hk;split at hk
      ·rename_i e1;cases hk;subst e1;exact ⟨none,0,[],zX _ _ _,hz',Al.nil,(fun r hr=>by cases hr),(fun r hr=>by cases hr),⟨by simp [Rows.len],.inl (by simp [Rows.len])⟩⟩
      ·split at hk
       ·rename_i e2;cases hk;subst e2;obtain ⟨bb,vs,ty,h1,h2,h3,h4⟩:=h.mem.ent _ _ hb;obtain ⟨v,hv,hr⟩:=h3.get hc;have hr':v=.slice none 0 0:=hr;subst hr';refine ⟨bb,vs,ty,old _ _ h1,h2,?_,h4⟩;have h5:=(h3.imp (R':=RH (updO ρ id (.reg none 0 0 sz)) F w) fun x v _ hx=>hx.mono old hF).set (x:=.o id) (y:=.slice none 0 0) ⟨none,0,0,sz,zX _ _ _,rfl⟩ k;have e3:vs.set k (.slice none 0 0)=vs:=by
         refine List.ext_getElem? fun i => ?_
         rw [List.getElem?_set];split
         ·rename_i e4;subst e4;have hlt:=(List.getElem?_eq_some_iff.1 hv).1;rw [if_pos hlt,hv]
         ·rfl
        rw [e3] at h5;exact h5
       ·have:=(h.mem.ent k y hk).sub ht (by simp [zZ]) (by simp [zZ]) (fun _ _ _ _=>rfl) (fun _ _ _ _ _=>rfl)
        rw [Ent.sub_nil] at this;exact this
     ·simp only [qZV];rcases inv k L hk with ⟨rfl,_⟩ | ⟨h1,h2⟩
      ·exact ⟨_,if_pos rfl⟩
      ·obtain ⟨y,hy⟩:=h.mem.dom k L h2 hi;rw [if_neg (Ne.symm h1)];split
       ·exact ⟨_,rfl⟩
       ·exact ⟨y,hy⟩
     ·simp only [qZV] at hk;split at hk
      ·rename_i e1; rw [← e1]; exact hid
      ·split at hk
       ·rename_i e2; rw [← e2]; exact h.mem.ord _ _ hb
       ·exact h.mem.ord k y hk
     ·rcases inv k L hk with ⟨rfl,rfl⟩ | ⟨_,h2⟩
      ·cases hi
      ·exact h.mem.inr k L h2 hi
     ·rcases inv k L h1 with ⟨rfl,rfl⟩ | ⟨a1,a2⟩
      ·cases h3
      ·rcases inv k' L' h2 with ⟨rfl,rfl⟩ | ⟨b1,b2⟩
       ·cases h4
       ·exact h.mem.apart k k' L L' b' a2 b2 h3 h4
     ·rcases inv k L hk with ⟨rfl,rfl⟩ | ⟨a1,a2⟩
      ·cases hb'
      ·exact h.mem.off k L b' a2 hb'
     ·exact (h.mem.pin b' hb').imp (old _ _) fun h=>h
     ·exact ⟨old _ _ (h.mem.rd b' hb').1,(h.mem.rd b' hb').2⟩
   ·exact qJU l h
  ·exact qJU l h
def inI (ids:List Nat) (i:Nat):Bool:=ids.any (Nat.beq i)
theorem inI_iff {ids:List Nat} {i:Nat}:inI ids i=true ↔ i ∈ ids:=by
 simp only [inI,List.any_eq_true];constructor
 ·rintro ⟨x,hx,he⟩; rw [vQU he]; exact hx
 ·intro h; exact ⟨i,h,Nat.beq_refl i⟩
def inK (ids:List Nat) (id:Nat):Prop:=id ∈ ids ∨ ∃ k j,id=nid k j∧k ∈ ids
noncomputable def zZF (ids:List Nat) (ρ:Own):Own:=fun id => @ite _ (inK ids id) (vZH _) (ρ id) none
theorem uJ {ids:List Nat} {id:Nat} (h:id ∈ ids):zZF ids ρ id=ρ id:=by
 unfold zZF; rw [if_pos (.inl h)]
theorem zZE {ids:List Nat} {id:Nat} (h:id ∈ ids) (j:Nat):zZF ids ρ (nid id j)=ρ (nid id j):=by
 unfold zZF; rw [if_pos (.inr ⟨id,j,rfl,h⟩)]
theorem qYY {ids:List Nat} {id:Nat} {L:Loc} (h:zZF ids ρ id=some L):inK ids id∧ρ id=some L:=by
 unfold zZF at h;split at h
 ·rename_i hm; exact ⟨hm,h⟩
 ·cases h
theorem zGY {ids:List Nat} {x:HV} {v:Value} (h:RH ρ F w x v):RH (zZF ids ρ) F w (x.only ids) v:=by
 unfold HV.only;cases hc:x.every.all (fun i=>ids.any (Nat.beq i)) with
 | false=>trivial
 | true =>
  have hin:∀ i ∈ x.every,i ∈ ids:=fun i hi=>inI_iff.1 (List.all_eq_true.1 hc i hi)
  simp only [vYQ];cases x with
  | v x=>exact h
  | nl=>exact h
  | un=>trivial
  | o id =>
   obtain ⟨ad,c,k,sz,h1,h2⟩:=h;exact ⟨ad,c,k,sz,by rw [uJ (hin id (by simp [HV.every]))]; exact h1,h2⟩
  | p id off =>
   obtain ⟨b,h1,h2⟩:=h;exact ⟨b,by rw [uJ (hin id (by simp [HV.every]))]; exact h1,h2⟩
  | q id j off =>
   obtain ⟨b,c,k,sz,h1,h2⟩:=h;exact ⟨b,c,k,sz,by rw [uJ (hin id (by simp [HV.every]))]; exact h1,h2⟩
  | g fn first cap =>
   obtain ⟨fs,cs,h1,h2,h3⟩:=h;refine ⟨fs,cs,h1,h2,h3.imp fun c v hm hr => ?_⟩;cases c with
   | v x=>exact hr
   | p id off =>
    obtain ⟨b,h4,h5⟩:=hr;exact ⟨b,by rw [uJ (hin id (mem_catL.2 ⟨_,hm,by simp [Cap.every]⟩))]; exact h4,h5⟩
  | m id j =>
   obtain ⟨ad,c,k,sz,⟨h1,h2⟩,h3,a0,c0,k0,s0,h4,h5⟩:=h;have hi:=hin id (by simp [HV.every]);exact ⟨ad,c,k,sz,⟨by rw [zZE hi]; exact h1,h2⟩,h3,a0,c0,k0,s0,by rw [uJ hi]; exact h4,h5⟩
  | mp id j =>
   obtain ⟨ad,c,k,sz,⟨h1,h2⟩,h3,a0,c0,k0,s0,h4,h5⟩:=h;have hi:=hin id (by simp [HV.every]);exact ⟨ad,c,k,sz,⟨by rw [zZE hi]; exact h1,h2⟩,h3,a0,c0,k0,s0,by rw [uJ hi]; exact h4,h5⟩
  | ag cs =>
   obtain ⟨vs,h1,h2,h3⟩:=h;refine ⟨vs,h1,h2.imp fun c v hm hr => ?_,h3⟩;cases c with
   | o id =>
    obtain ⟨ad,c,k,sz,h4,h5⟩:=hr;exact ⟨ad,c,k,sz,by rw [uJ (hin id (mem_catL.2 ⟨_,hm,by simp [HC.ids]⟩))]; exact h4,h5⟩
   | v x=>exact hr
   | nl=>exact hr
   | un=>trivial
theorem yWK {ids:List Nat} {id:Nat} {e:Ent} (hid:id ∈ ids) (h:EntOk ρ F w id e):EntOk (zZF ids ρ) F w id (e.only ids):=by
 cases e with
 | blk cells =>
  obtain ⟨b,vs,ty,h1,h2,h3,h4⟩:=h;exact ⟨b,vs,ty,by rw [uJ hid]; exact h1,h2,Al.map_left (h3.imp fun _ _ _ h=>zGY h),h4⟩
 | reg e sz rows =>
  obtain ⟨ad,c,vr,h1,h2⟩:=h;exact ⟨ad,c,vr,by rw [uJ hid]; exact h1,h2⟩
 | itr s pos =>
  obtain ⟨b,h1,h2⟩:=h;exact ⟨b,by rw [uJ hid]; exact h1,h2⟩
 | nst e ie isz rows pd =>
  obtain ⟨a,c,H,h1,h2,h3,h4,h5,h6⟩:=h;refine ⟨a,c,H,by rw [uJ hid]; exact h1,h2,h3,h4,h5,fun v hv => ?_⟩;obtain ⟨r,av,cv,vr,q1,q2,q3⟩:=h6 v hv;exact ⟨r,av,cv,vr,q1,by rw [zZE hid]; exact q2,q3⟩
theorem zQV {M:Mem} {ids:List Nat} {i:Nat} {x:Ent} (h:qX (zWD M ids) i=some x):i ∈ ids∧qX M i=some x:=by
 induction ids with
 | nil=>cases h
 | cons t ts ih =>
  simp only [zWD] at h;split at h
  ·rename_i y hy;by_cases e:t=i
   ·subst e;simp only [qX,Nat.beq_refl,vYQ,vQZ] at h;subst h;exact ⟨vQG,hy⟩
   ·simp only [qX,jY e,vYZ] at h;exact ⟨vQV _ (ih h).1,(ih h).2⟩
  ·exact ⟨vQV _ (ih h).1,(ih h).2⟩
theorem yJH {M:Mem} {ids:List Nat} {i:Nat} {x:Ent} (hm:i ∈ ids) (h:qX M i=some x):qX (zWD M ids) i=some x:=by
 induction ids with
 | nil=>cases hm
 | cons t ts ih =>
  simp only [zWD];by_cases e:t=i
  ·subst e; rw [h]; simp [qX]
  ·have hm':i ∈ ts:=by
    rcases List.mem_cons.1 hm with h | h
    ·exact absurd h.symm e
    ·exact h
   split
   ·simp only [qX,jY e,vYZ]; exact ih hm'
   ·exact ih hm'
theorem yZJ {ts:List Nat} {t:Nat} {x:HV} (h:jJ (yJG σ ts) t=some x):jJ σ.S t=some x:=by
 induction ts with
 | nil=>cases h
 | cons u ts ih =>
  simp only [yJG] at h;split at h
  ·rename_i y hy;by_cases e:u=t
   ·subst e;rw [zQX] at h; cases h; exact hy
   ·rw [zYY e] at h; exact ih h
  ·exact ih h
theorem zYW:∀ (l:List (Nat × List PV)) {S:List (Nat × HV)} {M:Mem},Rel E C.n ⟨S,M⟩ a w→Rel E C.n ⟨S,funL l M⟩ a w
 | [],S,M,h=>h
 | (id,z) :: l,S,M,h=>by
  simp only [funL];split
  ·rename_i e sz rows hl;refine zYW l ?_;obtain ⟨ρ,F,h⟩:=h;refine ⟨ρ,F,h.size,h.defers,h.slots,⟨fun i x hx => ?_,fun i L hL hi => ?_,fun i x hx => ?_,h.mem.inr,h.mem.apart,h.mem.off,h.mem.fz,h.mem.fz0,h.mem.grow,h.mem.pin,h.mem.rd⟩⟩
   ·rw [qZV] at hx;split at hx
    ·rename_i e1;cases hx;subst e1;obtain ⟨ad,c,vr,h1,h2,h3,h4,h5,h6⟩:=h.mem.ent id _ hl;have el:(rows.toF z).len=rows.len:=by rw [← Rows.len_L,Rows.toF_L,Rows.len_L]
     exact ⟨ad,c,vr,by rw [el]; exact h1,h2,by rw [Rows.toF_L]; exact h3,by rw [Rows.toF_L]; exact h4,h5,by rw [el]; exact h6⟩
    ·exact h.mem.ent i x hx
   ·obtain ⟨x,hx⟩:=h.mem.dom i L hL hi;show ∃ e,qX (putM id _ M) i=some e;rw [qZV];split
    ·exact ⟨_,rfl⟩
    ·exact ⟨x,hx⟩
   ·rw [qZV] at hx;split at hx
    ·rename_i e1; rw [← e1]; exact h.mem.ord id _ hl
    ·exact h.mem.ord i x hx
  ·exact zYW l h
theorem qGV {hi:Hint} (h:Rel E C.n σ a w):Rel E C.n (qUQ hi σ) a w:=by
 have h1:=qJU (C:=C) hi.ownB (qVK (C:=C) hi.own (qUG (C:=C) hi.frz h));unfold qUQ;generalize zKX hi.ownB (ownL hi.own (frzL hi.frz σ))=τ at h1;refine zYW (C:=C) hi.fun_ ?_;obtain ⟨ρ,F,h⟩:=h1;refine ⟨zZF (pid :: pid2 :: hi.ids) ρ,F,h.size,h.defers,fun t x hx => ?_,⟨fun id e hl => ?_,fun id L hL hi => ?_,fun id e hl => ?_,fun id L hL hi=>h.mem.inr id L (qYY hL).2 hi,fun id id' L L' b h1 h2 => ?_,fun id L b hL hb => ?_,h.mem.fz,h.mem.fz0,h.mem.grow,fun b hb => ?_,fun b hb => ?_⟩⟩
 ·simp only [zUW,vZK] at hx;obtain ⟨y,hy,rfl⟩:=hx;obtain ⟨v,hv,hr⟩:=h.slots t y (yZJ hy);exact ⟨v,hv,zGY hr⟩
 ·simp only [qUU,vZK] at hl;obtain ⟨y,hy,rfl⟩:=hl;obtain ⟨k1,k2⟩:=zQV hy;exact yWK k1 (h.mem.ent id y k2)
 ·obtain ⟨k1,k2⟩:=qYY hL;obtain ⟨e,he⟩:=h.mem.dom id L k2 hi;have hlt:=h.mem.ord id e he;rcases k1 with k1 | ⟨k,j,rfl,_⟩
  ·exact ⟨_,by simp only [qUU]; rw [yJH k1 he]; rfl⟩
  ·have:=qZW k j; omega
 ·simp only [qUU,vZK] at hl;obtain ⟨y,hy,rfl⟩:=hl;exact h.mem.ord id y (zQV hy).2
 ·exact h.mem.apart id id' L L' b (qYY h1).2 (qYY h2).2
 ·exact h.mem.off id L b (qYY hL).2 hb
 ·rw [uJ vQG]; exact h.mem.pin b hb
 ·rw [uJ (vQV _ vQG)]; exact h.mem.rd b hb
noncomputable def unnρ (id:Nat) (ρ:Own):Own:=fun k => @ite _ (∃ j,k=nid id j) (vZH _) none (ρ k)
theorem zXU {id k:Nat} (h:∀ j,k ≠ nid id j):unnρ id ρ k=ρ k:=by unfold unnρ; rw [if_neg fun ⟨j,e⟩=>h j e]
theorem jQW (id j:Nat):unnρ id ρ (nid id j)=none:=by unfold unnρ; rw [if_pos ⟨j,rfl⟩]
theorem qJY {id k:Nat} {L:Loc} (h:unnρ id ρ k=some L):(∀ j,k ≠ nid id j)∧ρ k=some L:=by
 by_cases hc:∃ j,k=nid id j
 ·obtain ⟨j,rfl⟩:=hc; rw [jQW] at h; cases h
 ·have h2:∀ j,k ≠ nid id j:=fun j e=>hc ⟨j,e⟩
  rw [zXU h2] at h; exact ⟨h2,h⟩
theorem NR.rows_len (rows:NR):rows.rows.len=rows.len:=by cases rows <;> simp [NR.rows,NR.len,Rows.len]
theorem NR.rows_L (rows:NR) (v:Nat):rows.rows.L[v]? = if v < rows.len then (rows.at v).map fun r=>[r.pv] else none:=by
 cases rows with
 | l rows =>
  show (rows.map fun r=>[r.pv])[v]? = _;rw [vQH];by_cases hv:v < rows.length
  ·rw [if_pos (by exact hv)]; rfl
  ·rw [if_neg (by exact hv),List.getElem?_eq_none (by omega)]; rfl
 | fo n f =>
  show ((List.range n).map fun v=>[(f v).pv])[v]? = _;by_cases hv:v < n
  ·rw [jW _ hv,if_pos (by exact hv)]; rfl
  ·rw [List.getElem?_eq_none (by simp; omega),if_neg (by exact hv)]
theorem Rel'.unn (h:Rel' E n ρ F σ a w) {id e ie isz:Nat} {rows:NR} (hl:qX σ.M id=some (.nst e ie isz rows none)) :
  Rel' E n (unnρ id ρ) (fun k=>F k ∨ ∃ j L,ρ (nid id j)=some L∧L.bl=some k) (σ.apply ⟨[(id,some (.reg e 1 rows.rows))],[(mid id,none)],.un,[]⟩ none) a w:=by
 have hlt:=h.mem.ord id _ hl;have old:∀ k L1,ρ k=some L1→L1.inner=false→unnρ id ρ k=some L1:=fun k L1 hk hi=>by
  rw [zXU fun j e=>by have h1:=h.mem.lt hk hi; have h2:=qZW id j; omega]; exact hk
 obtain ⟨a0,c0,H,q1,q2,q3,q4,_,q6⟩:=h.mem.ent id _ hl;have hrel:=h.apply2 (ρ':=unnρ id ρ) (F':=fun k=>F k ∨ ∃ j L,ρ (nid id j)=some L∧L.bl=some k) (w':=w) ⟨[(id,some (.reg e 1 rows.rows))],[(mid id,none)],.un,[]⟩ none undef (fun d e=>by cases e)
  ⟨fun k b hk=>old k _ hk rfl,fun k L' hk _ hi=>old k L' hk hi,fun k i a' c' kk s hk2 hk _ hs2 => ?_,fun k rows a' c' kk sz _ hs=>(by simp only [kY] at hs; split at hs <;> cases hs),fun k hk=>⟨.inl hk,rfl⟩⟩ trivial
  (fun _ _ _ _ _ _ _=>rfl) (fun k hk _ => ?_) (fun k hk hu => ?_) (fun k y hu => ?_) (fun k L' _ hL _=>(qJY hL).2) (fun k y hu => ?_) (fun k L' hL hi=>h.mem.inr k L' (qJY hL).2 hi) (fun k k' L1 L2 b' h1 h2=>h.mem.apart k k' L1 L2 b' (qJY h1).2 (qJY h2).2) (fun k L' b' hk hb' => ?_) (fun k hk => ?_) h.mem.grow (fun b hb=>qHU (qXV q1 hb))
 ·rwa [zVL] at hrel
 ·have hne:k ≠ id:=fun e=>by subst e; simp [kY] at hs2
  rw [zXU fun j e=>hne (qGB hk2 hlt e).1]; exact hk
 ·simp only [kY]; rw [if_neg (by unfold mid; omega)]
 ·simp only [yJ] at hu;simp only [kY];split at hu
  ·cases hu
  ·rename_i hne; rw [if_neg (by unfold mid; omega)]
 ·simp only [yJ] at hu;split at hu
  ·rename_i e; rw [← e]; exact hlt
  ·cases hu
 ·simp only [yJ] at hu;split at hu
  ·rename_i he;cases hu;subst he;refine ⟨a0,c0,(List.range rows.len).map fun v=>[H v],by rw [NR.rows_len]; exact old id _ q1 rfl,Nat.zero_lt_one,⟨?_,fun v x y hx hy => ?_⟩,fun x hx => ?_,fun x hx u hu => ?_,?_⟩
   ·rw [Rows.len_L,NR.rows_len]; simp
   ·rw [NR.rows_L] at hx;split at hx
    ·rename_i hv;rw [vQH,List.getElem?_range hv] at hy;cases hy;obtain ⟨r,av,cv,vr,p1,p2,p3,p4,p5,p6,p7⟩:=q6 v hv;have p1':rows.at v=some r:=p1;rw [p1'] at hx;cases hx;refine Al.cons ?_ Al.nil;have hv2:H v=.slice av r.len cv:=p3 (fun r' hr'=>by cases hr');rw [hv2];exact (jK (ρ:=fun i=>if i=0 then some (.reg av cv r.len isz) else none) (id:=0) (e:=ie) (sz:=isz) (F:=F) ⟨av,cv,vr,by simp,q2.2,p4,p5,p6,p7⟩ (fun k hk=>.inl hk) (fun L b hL hbl=>by simp at hL; subst hL; exact .inr ⟨v,_,p2,hbl⟩) av cv r.len isz (by simp)).1
    ·cases hx
   ·obtain ⟨v,hv⟩:=List.mem_iff_getElem?.1 hx;rw [NR.rows_L] at hv;split at hv
    ·cases hr:rows.at v with
     | none=>rw [hr] at hv; cases hv
     | some r=>rw [hr] at hv; cases hv; rfl
    ·cases hv
   ·obtain ⟨v,hv,rfl⟩:=List.mem_map.1 hx;simp only [List.mem_singleton] at hu;subst hu;exact q4 v (List.mem_range.1 hv)
   ·rw [NR.rows_len,zGG]; exact q3
  ·cases hu
 ·obtain ⟨h1,h2⟩:=qJY hk
  have:=h.mem.off k L' b' h2 hb'
  refine ⟨fun hf => ?_,this.2⟩;rcases hf with hf | ⟨j,L,hL,hb⟩
  ·exact this.1 hf
  ·exact h1 j (h.mem.apart k (nid id j) L' L b' h2 hL hb' hb)
 ·rcases hk with hk | ⟨j,L,hL,hb⟩
  ·exact h.mem.fz k hk
  ·have:=(h.mem.off _ L k hL hb).2; exact ⟨this.1,.inr this.2⟩
theorem zQI:∀ (l:List Nat) {σ:St},Rel E C.n σ a w→Rel E C.n (unnL l σ) a w
 | [],σ,h=>h
 | id :: l,σ,h=>by
  simp only [unnL];split
  ·rename_i e ie isz rows hl;obtain ⟨ρ,F,h⟩:=h;exact zQI l ⟨_,_,h.unn hl⟩
  ·exact zQI l h
def exOf:Ex→Exit
 | .normal=>.normal
 | .exit id=>.exit id
 | .ret=>.ret
theorem zQJ {hi:Hint} (h:Rel E C.n σ a w):Rel E C.n (qWV hi σ) a w:=by
 unfold qWV;split
 ·exact h
 ·exact qGV (zQI (C:=C) _ h)
theorem yXB {id:Nat} (h:Rel E C.n σ a w):Rel E C.n (preR C id σ) a w:=by
 unfold preR; split
 ·exact h
 ·exact qGV h
theorem zHC {N:Nat} {r:Ret × Mem} (hT:TabOk P C.T) (hE:E.D=Harm P) (hA:SndA P C.cA) (hB:SndB P C.T C.cB) (hm:P.follows .mixedOrders=true):∀ (c:Code) (K:Ex→St→Option (Ret × Mem)) (σ:St) (a:Act) (w:World) (Q:Exit→Act→World→Prop),runC N C c K σ=some r→Rel E C.n σ a w →
  (∀ e τ a w,K e τ=some r→Rel E C.n τ a w→Q (exOf e) a w)→c.wp P Q a w:=by
 intro c;induction c with
 | skip=>intro K σ a w Q h hr hK; exact wp_skip (hK .normal σ a w h hr)
 | label l=>intro K σ a w Q h hr hK; exact wp_label (hK .normal σ a w h hr)
 | scope x ih =>
  intro K σ a w Q h hr hK;exact wp_scope_straight (ih K σ a w _ h hr fun e τ a w hk hr'=>by cases e <;> exact hK _ τ a w hk hr')
 | ret=>intro K σ a w Q h hr hK; exact wp_ret (hK .ret σ a w h hr)
 | exit id=>intro K σ a w Q h hr hK; exact wp_exit (hK (.exit id) σ a w h hr)
 | region id ops d =>
  intro K σ a w Q h hr hK;have hr:=yXB (id:=id) hr;cases d with
  | true =>
   simp only [runC,preK_eq,vYQ] at h;exact jQK hm (yYQ hT hE hA hB) h hr (fun h=>h.grow (Grow.drew (Grow.refl _))) fun τ a w hk hr=>hK .normal τ a w hk hr
  | false =>
   simp only [runC,preK_eq,vYZ] at h;exact wp_region_list (zXJ (yYQ hT hE hA hB) (fun τ a w hk hr=>hK .normal τ a w hk hr) _ _ _ _ h hr)
 | seq x y ihx ihy =>
  intro K σ a w Q h hr hK;refine wp_seq (ihx _ σ a w _ h hr fun e τ a' w' hk hr' => ?_);cases e with
  | normal=>exact ihy K τ a' w' Q hk hr' hK
  | exit id=>exact hK (.exit id) τ a' w' hk hr'
  | ret=>exact hK .ret τ a' w' hk hr'
 | cond c x y ihx ihy =>
  intro K σ a w Q h hr hK;simp only [runC,vQQ] at h;obtain ⟨v,hv,h⟩:=h;have hr0:=hr;obtain ⟨ρ,F,hr'⟩:=hr;obtain ⟨u,u1,u2,u3⟩:=zJ hr' hv;split at h
  ·rename_i t
   have:=qZI u2
   subst this;refine wp_cond (t:=t) (yW hr' u1) ?_;cases t with
   | true=>exact ihx K σ a w Q h hr0 hK
   | false=>exact ihy K σ a w Q h hr0 hK
  ·cases h
 | block id x ih =>
  intro K σ a w Q h hr hK;refine wp_block (ih _ σ a w _ h hr fun e τ a' w' hk hr' => ?_);cases e with
  | normal=>exact hK .normal τ a' w' hk hr'
  | ret=>exact hK .ret τ a' w' hk hr'
  | exit id' =>
   simp only at hk;by_cases e:id'=id
   ·subst e;rw [Nat.beq_refl] at hk
    simpa [exOf,Exit.inBlock] using hK .normal τ a' w' hk hr'
   ·rw [jY e] at hk
    simpa [exOf,Exit.inBlock,e] using hK (.exit id') τ a' w' hk hr'
 | loop x ih =>
  intro K σ a w Q h hr hK;simp only [runC] at h;have key:∀ M σ a w,zYZ (fun again σ=>runC N C x (fun e σ=>match e with
   | .normal=>again σ
   | e=>K e (qWV (C.T.hint C.me (qJ x)) σ)) (qUQ (C.T.hint C.me (qJ x)) σ)) M σ=some r→Rel E C.n σ a w→Code.rounds P x Q M a w:=by
   intro M;induction M with
   | zero=>intro σ a w h; cases h
   | succ M ihM =>
    intro σ a w h hr;rw [rounds_succ];refine ih _ _ a w _ h (qGV hr) fun e τ a' w' hk hr' => ?_
    cases e with
    | normal=>exact ihM τ a' w' hk hr'
    | exit id=>exact hK (.exit id) _ a' w' hk (zQJ hr')
    | ret=>exact hK .ret _ a' w' hk (zQJ hr')
  exact wp_loop_rounds N (key N σ a w h hr)
 | _=>intro K σ a w Q h; simp only [runC] at h; cases h
end
end Go.Rx

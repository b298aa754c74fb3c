/- Part 8 of the texts behind the last one: rules and contracts. No condition. -/
import Derived.Test.YtklmegnpfhiibaaGreatBK7
open Option renaming bind_eq_some_iff → vQQ, map_eq_some_iff → vZK
open Option.some renaming injEq → vQZ
open Prod.mk renaming injEq → vQY
open Bool renaming and_eq_true → vQJ
open List renaming getElem?_eq_getElem → vQK, mem_of_getElem? → vQW, mem_cons_of_mem → vQV, mem_cons_self → vQG, getElem?_map → vQH, getElem?_take → vZU, getD_eq_getElem?_getD → vZX, mem_cons → vZG
open Nat renaming eq_of_beq_eq_true → vQU
open Array renaming all_eq_true_iff_forall_mem → vZH
namespace Go.Rx
open Go.RowKit Go.Sx
theorem mem_catR {α:Type} {f:α→Regs} {xs:List α} {i:Nat × Rows}:i ∈ catR f xs ↔ ∃ x ∈ xs,i ∈ f x:=by
 induction xs with
 | nil=>simp [catR]
 | cons x xs ih =>
  have:catR f (x :: xs)=f x ++ catR f xs:=by simp only [catR]; cases f x <;> simp
  simp [this,ih]
def frzρ (rs:Regs) (ρ:Own):Own:=fun id=>if id ∈ rs.map (·.1) then none else ρ id
def frzF (rs:Regs) (ρ:Own) (F:Nat→Prop):Nat→Prop:=fun k=>F k ∨ ∃ id L,id ∈ rs.map (·.1)∧ρ id=some L∧L.bl=some k
section
variable {P:Program} {E:Env} {n:Nat} {ρ:Own} {F:Nat→Prop} {σ:St} {a:Act} {w:World}
theorem zVD {sz:Nat} {rows:List (List PV)} {vr:List (List Value)} (hal:Al (Al (RP F w)) rows vr) (hr:∀ r ∈ rows,r.length=sz):∀ r ∈ vr,r.length=sz:=fun r hrv=>by
 obtain ⟨i,hi⟩:=List.mem_iff_getElem?.1 hrv;have hil:=(List.getElem?_eq_some_iff.1 hi).1;have hl:i < rows.length:=by rw [hal.1]; exact hil
 have:=hal.2 i _ r (vQK hl) hi
 rw [← this.1]; exact hr _ (List.getElem_mem hl)
theorem reg_frozenL {id e sz:Nat} {rows:Rows} (h:EntOk ρ F w id (.reg e sz rows)) {F':Nat→Prop} (hF:∀ k,F k→F' k) (hb:∀ L b,ρ id=some L→L.bl=some b→F' b) :
  ∀ a c k sz',ρ id=some (.reg a c k sz')→RP F' w (.l rows.L) (.slice a k c)∧∀ b j off,a=some ⟨b,0,none⟩→RP F' w (.z rows.L j off) (.pointer (some ⟨b,j * sz' + off,none⟩)):=by
 intro a' c' k' sz' hρ;obtain ⟨a,c,vr,h1,h2,h3,h4,h5,h6⟩:=h;rw [← Rows.len_L] at h1 h6;generalize rows.L=rows at *;rw [hρ] at h1;simp only [vQZ,Loc.reg.injEq] at h1;obtain ⟨rfl,rfl,rfl,rfl⟩:=h1;have hvr:=zVD h3 h4;have hlen:=h3.1;have hslc:qJA sz' a' vr w:=by
  have:OwnF 0 e sz' a' c' vr.length vr.flatten w:=by unfold OwnF; rw [← hlen]; exact h6
  exact zKZ hvr this
 have cells:∀ (b:Nat),a'=some ⟨b,0,none⟩→(∀ j t,j < rows.length→t < sz'→w.cell? ⟨b,0 + (j * sz' + t),none⟩=some (((vr.getD j []).getD t undef))∧(((vr.getD j []).getD t undef)).oneCell'=true):=by
  intro b hab j t hj ht;have hjv:j < vr.length:=by omega
  have hg:vr[j]? = some vr[j]:=vQK hjv;obtain ⟨hl,b2,off2,he,_,hc⟩:=hslc j _ hg;rw [hab] at he;simp only [vQZ,Addr.mk.injEq,and_true] at he;obtain ⟨rfl,rfl⟩:=he
  have:=hc t ht
  have ht2:t < vr[j].length:=by rw [hl]; exact ht
  rw [vQK ht2] at this;have e1:(vr.getD j []).getD t undef=vr[j][t]:=by simp [vZX,hg,vQK ht2]
  rw [e1];refine ⟨by rw [← Nat.add_assoc]; exact this,h5 _ (List.getElem_mem hjv) _ (List.getElem_mem ht2)⟩
 have vals:∀ (j:Nat) r (t:Nat) p,rows[j]? = some r→r[t]? = some p→RP F' w p ((vr.getD j []).getD t undef):=by
  intro j r t p hj ht;obtain ⟨u,hu,hru⟩:=h3.get hj;obtain ⟨v,hv,hrv⟩:=hru.get ht;have e1:(vr.getD j []).getD t undef=v:=by simp [vZX,hu,hv]
  rw [e1];exact hrv.mono fun k hk=>⟨hF k hk,rfl⟩
 refine ⟨?_,fun b j off hab => ?_⟩
 ·rcases h6.2 with ⟨hnil,h0⟩ | ⟨gg,cap,cur,hsl,_⟩
  ·have:rows=[]:=List.eq_nil_of_length_eq_zero h0
   subst this;exact .l0 _ _
  ·rename_i hrest;simp only [Value.slice.injEq] at hsl;obtain ⟨rfl,_,rfl⟩:=hsl;exact .l rows gg 0 rows.length _ sz' (fun j t=>(vr.getD j []).getD t undef) rfl hrest.2.2.1 h4 (hb _ gg hρ rfl) (cells gg rfl) vals
 ·subst hab;exact qVX (off:=0) h4 (hb _ b hρ rfl) (cells b rfl) vals (by omega)
theorem rp_pv {rows:Rows} {F:Nat→Prop} {v:Value} (h:RP F w (.l rows.L) v):RP F w rows.pv v:=by
 cases rows with
 | l rows=>exact h
 | fo n f=>exact .lf _ _ _ h
theorem rp_pz {rows:Rows} {j off:Nat} {F:Nat→Prop} {v:Value} (hj:j < rows.len) (h:RP F w (.z rows.L j off) v):RP F w (rows.pz j off) v:=by
 cases rows with
 | l rows=>exact h
 | fo n f=>exact .zf _ _ _ _ _ hj h
theorem uZ {id e sz:Nat} {rows:Rows} (h:EntOk ρ F w id (.reg e sz rows)) {F':Nat→Prop} (hF:∀ k,F k→F' k) (hb:∀ L b,ρ id=some L→L.bl=some b→F' b) :
  ∀ a c k sz',ρ id=some (.reg a c k sz')→RP F' w rows.pv (.slice a k c)∧∀ b j off,a=some ⟨b,0,none⟩→j < k→RP F' w (rows.pz j off) (.pointer (some ⟨b,j * sz' + off,none⟩)):=by
 intro a c k sz' hρ;obtain ⟨h1,h2⟩:=reg_frozenL h hF hb a c k sz' hρ;obtain ⟨a2,c2,vr,q1,_⟩:=h;rw [hρ] at q1;simp only [vQZ,Loc.reg.injEq] at q1;obtain ⟨_,_,rfl,_⟩:=q1;exact ⟨rp_pv h1,fun b j off e hj=>rp_pz hj (h2 b j off e)⟩
theorem sub_find {rs:Regs} {id:Nat} {x:Option Rows} (h:yK (rs.map fun r=>(r.1,some r.2)) id=some x):∃ rows,x=some rows∧(id,rows) ∈ rs:=by
 induction rs with
 | nil=>simp [yK] at h
 | cons r rs ih =>
  simp only [List.map_cons,yK] at h;by_cases e:r.1=id
  ·subst e; simp at h; subst h; exact ⟨r.2,rfl,vQG⟩
  ·rw [uW e,vYY] at h;obtain ⟨rows,h1,h2⟩:=ih h;exact ⟨rows,h1,vQV _ h2⟩
theorem sub_find_none {rs:Regs} {id:Nat}:yK (rs.map fun r=>(r.1,some r.2)) id=none ↔ id ∉ rs.map (·.1):=by
 induction rs with
 | nil=>simp [yK]
 | cons r rs ih =>
  simp only [List.map_cons,yK,vZG,not_or];by_cases e:r.1=id
  ·subst e; simp
  ·rw [uW e,vYY,ih]; simp [Ne.symm e]
theorem zWZ {rs:Regs} {id:Nat} {x:Option Ent} (h:yZ (rs.map fun r=>(r.1,none)) id=some x):x=none∧id ∈ rs.map (·.1):=by
 have:=qHZ h
 obtain ⟨r,hr,he⟩:=List.mem_map.1 this;simp only [vQY] at he;exact ⟨he.2.symm,List.mem_map.2 ⟨r,hr,he.1⟩⟩
theorem up_none_iff {rs:Regs} {id:Nat}:yZ (rs.map fun r=>(r.1,(none:Option Ent))) id=none ↔ id ∉ rs.map (·.1):=by
 rw [upFind_none]; simp
variable (rs:Regs)
theorem frz_turns (h:Rel' E n ρ F σ a w) (hrs:∀ r ∈ rs,∃ e sz,qV σ.M r.1=some (.reg e sz r.2)):Turns (rs.map fun r=>(r.1,some r.2)) ρ (frzρ rs ρ) F (frzF rs ρ F) w w:=by
 refine ⟨fun id b hb => ?_,fun id L hL hs _ => ?_,fun id j a c k s _ hL _ _ => ?_,fun id rows a' c k sz hρ hs => ?_,fun k hk=>⟨.inl hk,rfl⟩⟩
 ·unfold frzρ;rw [if_neg fun hm => ?_]
  ·exact hb
  ·obtain ⟨r,hr,rfl⟩:=List.mem_map.1 hm;obtain ⟨e,sz,hl⟩:=hrs r hr;obtain ⟨a2,c2,vr,h1,_⟩:=h.mem.ent r.1 _ hl;rw [hb] at h1; cases h1
 ·unfold frzρ;rw [if_neg (sub_find_none.1 hs)]; exact hL
 ·unfold frzρ;rw [if_neg fun hm => ?_]
  ·exact hL
  ·obtain ⟨r,hr,e⟩:=List.mem_map.1 hm;obtain ⟨e',sz,hl⟩:=hrs r hr;have h1:=h.mem.ord _ _ hl;have h2:=qKI id j;rw [← e] at h2;omega
 ·obtain ⟨rows',he,hm⟩:=sub_find hs;cases he;obtain ⟨e,sz2,hl⟩:=hrs _ hm;exact uZ (h.mem.ent id _ hl) (fun k hk=>.inl hk) (fun L b hL hb=>.inr ⟨id,L,List.mem_map.2 ⟨_,hm,rfl⟩,hL,hb⟩) a' c k sz hρ
theorem Rel'.frz (h:Rel' E n ρ F σ a w) (hrs:∀ r ∈ rs,∃ e sz,qV σ.M r.1=some (.reg e sz r.2)) {x:HV} {v:Value} {dst:Option Nat} (hd:dstB n dst=true) (hx:RH (frzρ rs ρ) (frzF rs ρ F) w x v) :
  Rel' E n (frzρ rs ρ) (frzF rs ρ F) (σ.apply (.frz rs x) dst) (a.put dst v) w:=by
 have ht:=frz_turns rs h hrs;have e1:(Eff.frz rs x).up=rs.map fun r=>(r.1,none):=by cases rs <;> rfl
 have e2:(Eff.frz rs x).sb=rs.map fun r=>(r.1,some r.2):=by cases rs <;> rfl
 have e3:(Eff.frz rs x).x=x:=by cases rs <;> rfl
 have hsome:∀ id L,frzρ rs ρ id=some L→id ∉ rs.map (·.1)∧ρ id=some L:=fun id L hL=>by
  unfold frzρ at hL;split at hL
  ·cases hL
  ·rename_i hn; exact ⟨hn,hL⟩
 refine h.apply (.frz rs x) dst v (fun d e=>by subst e; simpa [dstB] using hd) (by rw [e2]; exact ht) (by rw [e3]; exact hx) (fun _ _ _ _ _ _=>rfl) (fun id hu => ?_) (fun id y hu => ?_) (fun id hu => ?_) (fun id y hu => ?_) (fun id id' L L' b hL hL' => ?_) (fun id L b hL hb => ?_) (fun k hk => ?_) h.mem.grow (fun b hb=>by
  rw [e1,up_none_iff];intro hm;obtain ⟨r,hr,he⟩:=List.mem_map.1 hm;obtain ⟨e',sz,hl⟩:=hrs r hr;obtain ⟨a,c,vr,h1,_⟩:=h.mem.ent _ _ hl;rw [he,hb] at h1; cases h1)
 ·rw [e1,up_none_iff] at hu; rw [e2]; exact sub_find_none.2 hu
 ·rw [e1] at hu;obtain ⟨_,hm⟩:=zWZ hu;obtain ⟨r,hr,rfl⟩:=List.mem_map.1 hm;obtain ⟨e',sz,hl⟩:=hrs r hr;exact h.mem.ord _ _ hl
 ·rw [e1,up_none_iff] at hu; unfold frzρ; rw [if_neg hu]
 ·rw [e1] at hu;obtain ⟨rfl,hm⟩:=zWZ hu;simp only [frzρ,if_pos hm]
 ·exact h.mem.apart id id' L L' b (hsome id L hL).2 (hsome id' L' hL').2
 ·obtain ⟨hn,hL⟩:=hsome id L hL
  have:=h.mem.off id L b hL hb
  refine ⟨fun hf => ?_,this.2⟩;rcases hf with hf | ⟨id',L',hm,hL',hb'⟩
  ·exact this.1 hf
  ·exact hn ((h.mem.apart id id' L L' b hL hL' hb hb') ▸ hm)
 ·rcases hk with hk | ⟨id,L,hm,hL,hb⟩
  ·exact h.mem.fz k hk
  ·have:=(h.mem.off id L k hL hb).2; exact ⟨this.1,.inr this.2⟩
theorem sim_frz {o:Oper} (h:Rel' E n ρ F σ a w) (hrs:∀ r ∈ rs,∃ e sz,qV σ.M r.1=some (.reg e sz r.2)) {x:HV} {v:Value} (hop:OpV P ⟨w,[]⟩ (actS a) [] o v) (hx:RH (frzρ rs ρ) (frzF rs ρ F) w x v) (hd:dstB n o.dst=true) :
  Goes P o a w (fun u w'=>Rel E n (σ.apply (.frz rs x) o.dst) (a.put o.dst u) w') :=
 (zVJ h.size hop).mono fun u w' ⟨hu,g⟩=>by
  subst hu;have hb:∀ k,frzF rs ρ F k→frzF rs ρ F k∧w'.heap[k]? = w.heap[k]?:=fun k hk=>⟨hk,g.block k (by
   rcases hk with hk | ⟨id,L,_,hL,hb⟩
   ·exact (h.mem.fz k hk).1
   ·exact (h.mem.off id L k hL hb).2.1)⟩
  exact ⟨_,_,(h.grow g).frz rs hrs hd (hx.mono (fun _ _ h=>h) hb)⟩
end
section
variable {P:Program} {E:Env} {C:Cx} {ρ:Own} {F:Nat→Prop} {σ:St} {a:Act} {w:World} {vs:List RV} {e:Eff}
variable {d:Option Tmp} {ty:TypeId} {pos:String} {af:Array Edge} {g:Option (Nat × Bool)}
def At (w:World) (b base:Nat) (vr:List Value):Prop:=∀ (i:Nat) v,vr[i]? = some v→w.cell? ⟨b,base + i,none⟩=some v
theorem zZQ {t:TypeId} {x:Operand} {b base o:Nat} {vr:List Value} {v:Value} (hT:tyB P t false 1=true) (hx:ev (actS a) x=some (.pointer (some ⟨b,base + o,none⟩))) (hb:b < w.heap.size) (hA:At w b base vr) (hv:vr[o]? = some v) :
  OpV P ⟨w,[]⟩ (actS a) [] ⟨d,.load t x,ty,pos,af,g⟩ v:=opV_load1_old hT hx hb (hA o v hv)
theorem zYQ {t:TypeId} {x:Operand} {b base o k:Nat} {vr:List Value} (hT:tyB P t true k=true) (hx:ev (actS a) x=some (.pointer (some ⟨b,base + o,none⟩))) (hb:b < w.heap.size) (hA:At w b base vr) (_:o + k≤vr.length) :
  OpV P ⟨w,[]⟩ (actS a) [] ⟨d,.load t x,ty,pos,af,g⟩ (.agg ((vr.drop o).take k).toArray) :=
 opV_loadA_old hT hx hb (by simp; omega) fun i hi=>by
  rw [vZU,if_pos hi,List.getElem?_drop];have hlt:o + i < vr.length:=by omega
  rw [vQK hlt,Nat.add_assoc];exact hA (o + i) _ (vQK hlt)
theorem zUG {R:PV→Value→Prop} {r:List PV} {vr:List Value} {o k:Nat} (h:Al R r vr):Al R ((r.drop o).take k) ((vr.drop o).take k):=(h.drop o).take k
theorem qGQ {cs:List PV} {vs:List Value} (h:Al (RP F w) cs vs) (h1:∀ u ∈ vs,u.oneCell'=true):RP F w (.a cs) (.agg vs.toArray):=.a cs vs h.1 h1 h.2
theorem zKV {t:TypeId} {x:Operand} {k:Bool × Nat} {b base off:Nat} {r:List PV} {vr:List Value} (hT:TabOk P C.T) (h:Rel' E C.n ρ F σ a w) (hd:dstB C.n d=true) (hk:C.T.sz t=some k)
  (hx:ev (actS a) x=some (.pointer (some ⟨b,base + off,none⟩))) (hb:b < w.heap.size) (hA:At w b base vr) (hal:Al (RP F w) r vr) (h1:∀ u ∈ vr,u.oneCell'=true)
  (he:(bif k.1 then (qKG r off k.2).bind fun cs=>some (Eff.val (.v (.a cs))) else (r[off]?).bind fun c=>some (Eff.val c.toH))=some e):OK P E C σ a w e ⟨d,.load t x,ty,pos,af,g⟩:=by
 obtain ⟨kb,kn⟩:=k;obtain ⟨hty,hone⟩:=hT.sz t kb kn hk;cases kb with
 | true =>
  simp only [vYZ,vQQ,vQZ] at he;obtain ⟨cs,hcs,rfl⟩:=he;obtain ⟨rfl,hl⟩:=qYL hcs;exact zG h (zYQ hty hx hb hA (by rw [← hal.1]; exact hl)) (qGQ (zUG hal) fun u hu=>h1 u (List.mem_of_mem_drop (List.mem_of_mem_take hu))) hd
 | false =>
  simp only [vYY,vQQ,vQZ] at he;obtain ⟨c,hc,rfl⟩:=he;obtain ⟨v,hv,hr⟩:=hal.get hc;rw [hone rfl] at hty;exact zG h (zZQ hty hx hb hA hv) (zZW hr) hd
theorem zXC {b:Nat} {vs:List Value} {ty':TypeId} (h:w.heap[b]? = some (.cells vs.toArray ty')):At w b 0 vs:=fun i v hv=>by
 rw [Nat.zero_add,qVH h,hv]
theorem qJV {M:Mem} {hc:List HV} {cs:List CV} {vs:List Value} (h:mapO (cvOf M) hc=some cs) (hal:Al (RH ρ F w) hc vs):Al (fun c v=>RH ρ F w c.back v∧∀ id e sz rows,c=.o id e sz rows→qV M id=some (.reg e sz rows)) cs vs:=by
 have h1:=yJ h;refine ⟨by rw [← h1.1,hal.1],fun i c v hc' hv => ?_⟩;have hil:=(List.getElem?_eq_some_iff.1 hc').1;have hl:i < hc.length:=by rw [h1.1]; exact hil
 have hcv:=h1.2 i _ c (vQK hl) hc';have hrh:=hal.2 i _ v (vQK hl) hv;generalize hc[i]=x at hcv hrh;cases x with
 | o id =>
  simp only [cvOf] at hcv;split at hcv
  ·rename_i e' sz rows hlk;cases hcv;refine ⟨hrh,fun id' e2 sz2 zQV heq => ?_⟩;cases heq; exact hlk
  ·cases hcv
 | _=>simp only [cvOf,vQZ] at hcv; subst hcv; exact ⟨hrh,fun id e sz rows heq=>by cases heq⟩
theorem cv_fz_rel (h:Rel' E C.n ρ F σ a w) (rs:Regs) {c:CV} {p:PV} {v:Value} (hp:c.fz=some p) (hc:RH ρ F w c.back v) (ho:∀ id e sz rows,c=.o id e sz rows→qV σ.M id=some (.reg e sz rows)) (hin:∀ r ∈ c.regs,r ∈ rs):RP (frzF rs ρ F) w p v:=by
 unfold CV.fz at hp;split at hp
 ·cases hp; exact RP.mono (fun k hk=>⟨.inl hk,rfl⟩) hc
 ·cases hp
  have:v=.slice none 0 0:=hc
  subst this; exact .l0 _ _
 ·rename_i id e sz rows;cases hp;obtain ⟨a',c',k',sz',hρ,rfl⟩:=hc;exact (uZ (h.mem.ent id _ (ho id e sz rows rfl)) (fun k hk=>.inl hk) (fun L b hL hb=>.inr ⟨id,L,List.mem_map.2 ⟨(id,rows),hin _ (by simp [CV.regs]),rfl⟩,hL,hb⟩) a' c' k' sz' hρ).1
 ·cases hp
theorem flat_one (H:Nat→Value) (l:List Nat):(l.map fun v=>[H v]).flatten=l.map H:=by
 induction l with
 | nil=>rfl
 | cons x l ih=>simp only [List.map_cons,List.flatten_cons,ih]; rfl
theorem nst_slc {e' c n:Nat} {ad:Option Addr} {H:Nat→Value} (hown:w.ownsRow 0 e' 1 (.slice ad n c) n ((List.range n).map H)):qJA 1 ad ((List.range n).map fun v=>[H v]) w:=by
 refine zKZ (m:=0) (e:=e') (cap:=c) (fun r hr => ?_) ?_
 ·obtain ⟨_,_,rfl⟩:=List.mem_map.1 hr; rfl
 ·unfold OwnF; rw [flat_one]; simpa using hown
theorem ok_load {t:TypeId} {x:Operand} (hT:TabOk P C.T) (h:Rel' E C.n ρ F σ a w) (hd:dstB C.n d=true) (hvs:mapO (opv 3 σ) [x]=some vs) (he:qU C.T C.cA C.cB C.me (d.getD 0) (.load t x) vs=some e):OK P E C σ a w e ⟨d,.load t x,ty,pos,af,g⟩:=by
 obtain ⟨r,hr,rfl⟩:=qWI hvs;obtain ⟨v,h1,h2,h3⟩:=yU h hr;simp only [qU,vQQ] at he;obtain ⟨k,hk,he⟩:=he;cases r with
 | v p =>
  cases p with
  | z rows j off =>
   simp only at he;obtain ⟨b,off0,sz,g',rfl,q1,q2,q3,q4⟩:=rp_z h2;simp only [vQQ] at he;obtain ⟨r,hr',he⟩:=he;have hjl:=(List.getElem?_eq_some_iff.1 hr').1;have hrl:=q1 r (vQW hr');refine zKV (base:=off0 + j * sz) (vr:=(List.range sz).map (g' j)) hT h hd hk (by rw [Nat.add_assoc]; exact h1) (h.mem.fz b q2).1 (fun i v hv => ?_) ⟨by simp [hrl],fun i p v hp hv => ?_⟩ (fun u hu => ?_) he
   ·rw [vQH,vZK] at hv;obtain ⟨m,hm,rfl⟩:=hv;have hm2:=List.getElem?_eq_some_iff.1 hm;obtain ⟨hm3,hm4⟩:=hm2;simp at hm3 hm4;subst hm4;rw [Nat.add_assoc]; exact (q3 j i hjl hm3).1
   ·rw [vQH,vZK] at hv;obtain ⟨m,hm,rfl⟩:=hv;have hm2:=List.getElem?_eq_some_iff.1 hm;obtain ⟨hm3,hm4⟩:=hm2;simp at hm3 hm4;subst hm4;exact q4 j r i p hr' hp
   ·obtain ⟨m,hm,rfl⟩:=List.mem_map.1 hu;exact (q3 j m hjl (List.mem_range.1 hm)).2
  | zf n f j off =>
   simp only at he;obtain ⟨hj,b,off0,sz,g',rfl,q1,q2,q3,q4⟩:=zWX h2;have hr':((List.range n).map f)[j]? = some (f j):=by rw [vQH,List.getElem?_range hj]; rfl
   generalize hrows:(List.range n).map f=rows at q1 q3 q4 hr';generalize f j=r at he hr';have hjl:=(List.getElem?_eq_some_iff.1 hr').1;have hrl:=q1 r (vQW hr');refine zKV (base:=off0 + j * sz) (vr:=(List.range sz).map (g' j)) hT h hd hk (by rw [Nat.add_assoc]; exact h1) (h.mem.fz b q2).1 (fun i v hv => ?_) ⟨by simp [hrl],fun i p v hp hv => ?_⟩ (fun u hu => ?_) he
   ·rw [vQH,vZK] at hv;obtain ⟨m,hm,rfl⟩:=hv;have hm2:=List.getElem?_eq_some_iff.1 hm;obtain ⟨hm3,hm4⟩:=hm2;simp at hm3 hm4;subst hm4;rw [Nat.add_assoc]; exact (q3 j i hjl hm3).1
   ·rw [vQH,vZK] at hv;obtain ⟨m,hm,rfl⟩:=hv;have hm2:=List.getElem?_eq_some_iff.1 hm;obtain ⟨hm3,hm4⟩:=hm2;simp at hm3 hm4;subst hm4;exact q4 j r i p hr' hp
   ·obtain ⟨m,hm,rfl⟩:=List.mem_map.1 hu;exact (q3 j m hjl (List.mem_range.1 hm)).2
  | c cells off =>
   simp only at he;obtain ⟨b,ty',us,rfl,q1,q2,q3,q4⟩:=rp_c h2;exact zKV (base:=0) hT h hd hk (by rw [Nat.zero_add]; exact h1) (h.mem.fz b q1).1 (zXC q2) q3 q4 he
  | _=>simp only at he; cases he
 | q id j off e' sz rows =>
  simp only at he;obtain ⟨b,c',k',sz',hρ,hjk,rfl⟩:=h2;obtain ⟨a2,c2,vr,hρ2,h0,hal,hrl,hone,hown⟩:=h.mem.ent id _ h3;rw [hρ] at hρ2;simp only [vQZ,Loc.reg.injEq] at hρ2;obtain ⟨rfl,rfl,rfl,rfl⟩:=hρ2;simp only [vQQ] at he;obtain ⟨r,hr',he⟩:=he;have hr':=Rows.at_L hr' hjk;obtain ⟨u,hu,hru⟩:=hal.get hr';have hvr:=zVD hal hrl;have hslc:qJA sz' (some ⟨b,0,none⟩) vr w:=by
   have:OwnF 0 e' sz' (some ⟨b,0,none⟩) c' vr.length vr.flatten w:=by unfold OwnF; rw [← hal.1,Rows.len_L]; exact hown
   exact zKZ hvr this
  obtain ⟨hul,b2,off2,heq,hb2,hcell⟩:=hslc j u hu;simp only [vQZ,Addr.mk.injEq,and_true] at heq;obtain ⟨rfl,rfl⟩:=heq;refine zKV (base:=j * sz') hT h hd hk h1 hb2 (fun i v hv => ?_) hru (fun y hy=>hone u (vQW hu) y hy) he;have hlt:=(List.getElem?_eq_some_iff.1 hv).1
  have:=hcell i (by omega)
  rw [Nat.zero_add] at this;rw [this,hv]
 | p id off cells =>
  simp only at he;obtain ⟨hc,hlk,hcs⟩:=h3;obtain ⟨b,hρ,rfl⟩:=h2;obtain ⟨b2,us,ty',hρ2,hheap,hal,hone⟩:=h.mem.ent id _ hlk;rw [hρ] at hρ2;cases hρ2;have hcv:=qJV hcs hal;have hb:b < w.heap.size:=(h.mem.off id _ b hρ rfl).2.1;obtain ⟨kb,kn⟩:=k;obtain ⟨hty,hone1⟩:=hT.sz t kb kn hk;cases kb with
  | false =>
   simp only [vYY,vQQ,vQZ] at he;obtain ⟨c,hc',rfl⟩:=he;obtain ⟨v,hv,hr',_⟩:=hcv.get hc';rw [hone1 rfl] at hty;exact zG h (zZQ (base:=0) hty (by rw [Nat.zero_add]; exact h1) hb (zXC hheap) hv) hr' hd
  | true =>
   cases hla:C.T.la C.me (d.getD 0) with
   | true =>
    rw [hla] at he;simp only [vYZ,vQQ,vQZ] at he;obtain ⟨cs,hsl,ps,hps,rfl⟩:=he;obtain ⟨rfl,hl⟩:=qYL hsl;have hal2:=(hcv.drop off).take kn;have hp:=yJ hps;refine zG h (zYQ (base:=0) hty (by rw [Nat.zero_add]; exact h1) hb (zXC hheap) (by rw [← hcv.1]; exact hl)) ⟨_,rfl,⟨by rw [← hp.1,hal2.1],fun i p v hpi hv => ?_⟩,fun u hu=>hone u (List.mem_of_mem_drop (List.mem_of_mem_take hu))⟩ hd;have hil:=(List.getElem?_eq_some_iff.1 hpi).1;have hcl:i < ((cells.drop off).take kn).length:=by rw [hp.1]; exact hil
    have hci:=vQK hcl;have hfz:=hp.2 i _ p hci hpi;obtain ⟨hrh,_⟩:=hal2.2 i _ v hci hv;generalize ((cells.drop off).take kn)[i]=c at hfz hrh;unfold CV.hc at hfz;split at hfz <;> cases hfz <;> exact hrh
   | false =>
   rw [hla] at he;simp only [vYZ,vYY,vQQ,vQZ] at he;obtain ⟨cs,hsl,ps,hps,rfl⟩:=he;obtain ⟨rfl,hl⟩:=qYL hsl;have hal2:=(hcv.drop off).take kn;have hp:=yJ hps;refine sim_frz _ h (fun r hr => ?_) (zYQ (base:=0) hty (by rw [Nat.zero_add]; exact h1) hb (zXC hheap) (by rw [← hcv.1]; exact hl)) ?_ hd
   ·obtain ⟨c,hc',hin⟩:=mem_catR.1 hr;obtain ⟨i,hi⟩:=List.mem_iff_getElem?.1 hc';obtain ⟨v,_,_,ho⟩:=hal2.get hi;cases c with
    | h x=>simp [CV.regs] at hin
    | o id' e' sz' rows'=>simp only [CV.regs,List.mem_singleton] at hin; subst hin; exact ⟨e',sz',ho _ _ _ _ rfl⟩
   ·refine qGQ ⟨by rw [← hp.1,hal2.1],fun i p v hpi hv => ?_⟩ fun u hu=>hone u (List.mem_of_mem_drop (List.mem_of_mem_take hu))
    have hil:=(List.getElem?_eq_some_iff.1 hpi).1;have hcl:i < ((cells.drop off).take kn).length:=by rw [hp.1]; exact hil
    have hci:=vQK hcl;have hfz:=hp.2 i _ p hci hpi;obtain ⟨hrh,ho⟩:=hal2.2 i _ v hci hv;exact cv_fz_rel h _ hfz hrh ho fun r hr=>mem_catR.2 ⟨_,vQW hci,hr⟩
 | ld id i =>
  simp only at he;obtain ⟨b,hρ,rfl⟩:=h2;obtain ⟨b2,us,ty',hρ2,hheap,hal,hone⟩:=h.mem.ent id _ h3;rw [hρ] at hρ2;cases hρ2;have hb:b < w.heap.size:=(h.mem.off id _ b hρ rfl).2.1;obtain ⟨kb,kn⟩:=k;obtain ⟨hty,hone1⟩:=hT.sz t kb kn hk;cases kb with
  | false =>
   simp only [vYY,vQZ] at he;subst he;obtain ⟨v,hv,hr'⟩:=hal.get (i:=0) rfl;rw [hone1 rfl] at hty;exact zG h (zZQ (base:=0) hty h1 hb (zXC hheap) hv) hr' hd
  | true=>simp only [vYZ] at he; cases he
 | nq id j off e' ie isz rows pd =>
  cases off with
  | succ o=>simp only at he; cases he
  | zero =>
   cases pd with
   | some q=>simp only at he; cases he
   | none =>
    simp only at he;obtain ⟨kb,kn⟩:=k;cases kb with
    | true=>cases he
    | false =>
     cases he;obtain ⟨hty,hone1⟩:=hT.sz t false kn hk;rw [hone1 rfl] at hty;obtain ⟨b,c',k',sz',hρ,hjk,rfl⟩:=h2;obtain ⟨a2,c2,H,hρ2,h0,hown,hH,_,hin⟩:=h.mem.ent id _ h3;have hρ3:=hρ;rw [hρ] at hρ2;simp only [vQZ,Loc.reg.injEq] at hρ2;obtain ⟨rfl,rfl,rfl,rfl⟩:=hρ2;have hu:((List.range rows.len).map fun v=>[H v])[j]? = some [H j]:=by rw [vQH,List.getElem?_range hjk]; rfl
     obtain ⟨hul,b2,off2,heq,hb2,hcell⟩:=nst_slc hown j _ hu;simp only [vQZ,Addr.mk.injEq,and_true] at heq;obtain ⟨rfl,rfl⟩:=heq;obtain ⟨r,av,cv,vr,q1,q2,q3,_⟩:=hin j hjk;have hHj:H j=.slice av r.len cv:=q3 (fun r' hr'=>by cases hr');refine zG h (zZQ (base:=j * 1) (o:=0) (vr:=[H j]) hty h1 hb2 (fun i v hv => ?_) rfl) ⟨av,cv,r.len,isz,⟨q2,hHj⟩,h0.1,_,_,_,_,hρ3,hjk⟩ hd;have hlt:=(List.getElem?_eq_some_iff.1 hv).1
     have:=hcell i (by simpa using hlt)
     rw [Nat.zero_add] at this;rw [this,hv]
 | _=>simp only at he; cases he
end
end Go.Rx
namespace Go.Rx
open Go.RowKit Go.Sx
section
variable {P:Program} {E:Env} {C:Cx} {ρ:Own} {F:Nat→Prop} {σ:St} {a:Act} {w:World} {vs:List RV} {e:Eff}
variable {d:Option Tmp} {ty:TypeId} {pos:String} {af:Array Edge} {g:Option (Nat × Bool)}
theorem run_part1 {t:TypeId} {us:List Value} {o:Nat} {v:Value} (w:World) (hT:tyB P t false 1=true) (hv:us[o]? = some v):(part t us.toArray o).run P w=.ok v w:=by
 simp [part,qUH hT,hv]
theorem run_partA {t:TypeId} {us:List Value} {o k:Nat} (w:World) (hT:tyB P t true k=true):(part t us.toArray o).run P w=.ok (.agg ((us.drop o).take k).toArray) w:=by
 simp only [part,Sem.run_bind,qUH hT,Result.andThen_ok,Sem.run_ite,if_true,qJZ hT,Sem.run_pure];simp [List.extract_eq_take_drop]
theorem opV_field {S:yY} {H:Heap} {w0:Base} {t f:Nat} {x:Operand} {us:List Value} {v:Value} {fields:Array Field} {fld:Field} (hu:P.underlying t=some (.struct fields)) (hf:fields[f]? = some fld) (hx:ev S x=some (.agg us.toArray))
  (hp:∀ w,(part fld.type us.toArray fld.offset).run P w=.ok v w):OpV P w0 S H ⟨d,.field t x f,ty,pos,af,g⟩ v :=
 yG (by simp [yQ,Op.operands,hx]) rfl fun w _=>by
  simp [execOp,zQ hx,Instr.field,run_underlying hu,hf,asAgg,hp w]
theorem ok_field {t:TypeId} {x:Operand} {f:Nat} (hT:TabOk P C.T) (h:Rel' E C.n ρ F σ a w) (hd:dstB C.n d=true) (hvs:mapO (opv 0 σ) [x]=some vs) (he:qU C.T C.cA C.cB C.me (d.getD 0) (.field t x f) vs=some e):OK P E C σ a w e ⟨d,.field t x f,ty,pos,af,g⟩:=by
 obtain ⟨r,hr,rfl⟩:=qWI hvs;obtain ⟨v,h1,h2,h3⟩:=yU h hr;cases r with
 | v p =>
  cases p with
  | a cs =>
   simp only [qU,vQQ] at he;obtain ⟨⟨o,b,k⟩,ho,he⟩:=he;obtain ⟨fields,fld,hu,hf,rfl,hty,hone⟩:=hT.fx t f o b k ho;obtain ⟨us,rfl,hus,hu1⟩:=qGZ h2;cases b with
   | true =>
    simp only [vYZ,vQQ,vQZ] at he;obtain ⟨r,hr,rfl⟩:=he;obtain ⟨rfl,hl⟩:=qYL hr;exact zG h (opV_field hu hf h1 fun w=>run_partA w hty) (qGQ (zUG hus) fun u hu=>hu1 u (List.mem_of_mem_drop (List.mem_of_mem_take hu))) hd
   | false =>
    simp only [vYY,vQQ,vQZ] at he;obtain ⟨r,hr,rfl⟩:=he;obtain ⟨u,hu',hru⟩:=hus.get hr;rw [hone rfl] at hty;exact zG h (opV_field hu hf h1 fun w=>run_part1 w hty hu') (zZW hru) hd
  | _=>simp only [qU] at he; cases he
 | _=>simp only [qU] at he; cases he
theorem ok_index {t:TypeId} {x y:Operand} (hT:TabOk P C.T) (h:Rel' E C.n ρ F σ a w) (hd:dstB C.n d=true) (hvs:mapO (opv 0 σ) [x,y]=some vs) (he:qU C.T C.cA C.cB C.me (d.getD 0) (.index t x y) vs=some e):OK P E C σ a w e ⟨d,.index t x y,ty,pos,af,g⟩:=by
 obtain ⟨rx,ry,hx,hy,rfl⟩:=zHB hvs;obtain ⟨vx,x1,x2,x3⟩:=yU h hx;obtain ⟨vy,y1,y2,_⟩:=yU h hy;cases ry with
 | v py =>
  cases py with
  | n kk i =>
   rw [qQK y2] at y1;cases rx with
   | v p =>
    cases p with
    | a cs =>
     simp only [qU,vQQ] at he;obtain ⟨⟨n,k,b⟩,ho,he⟩:=he;obtain ⟨hi,he⟩:=qQ he;obtain ⟨i0,i1⟩:=qJL hi;obtain ⟨_,el,hu,hty,hone⟩:=hT.ar t n k b ho;obtain ⟨us,rfl,hus,hu1⟩:=qGZ x2;have run:∀ (v:Value),(∀ w,(part el us.toArray (i.toNat * k)).run P w=.ok v w)→OpV P ⟨w,[]⟩ (actS a) [] ⟨d,.index t x y,ty,pos,af,g⟩ v:=fun v hp =>
      opV_index x1 y1 fun w=>by
       simp only [Instr.index,asIntOf,Sem.run_bind,Sem.run_pure,Result.andThen_ok,run_underlying hu];have i1':i < (n:Int):=i1;simp [i0,i1',qJZ hty,hp w]
     cases b with
     | true =>
      simp only [vYZ,vQQ,vQZ] at he;obtain ⟨r,hr,rfl⟩:=he;obtain ⟨rfl,hl⟩:=qYL hr;exact zG h (run _ fun w=>run_partA w hty) (qGQ (zUG hus) fun u hu=>hu1 u (List.mem_of_mem_drop (List.mem_of_mem_take hu))) hd
     | false =>
      simp only [vYY,vQQ,vQZ] at he;obtain ⟨r,hr,rfl⟩:=he;obtain ⟨u,hu',hru⟩:=hus.get hr;have hk:=hone rfl;rw [hk] at hty;exact zG h (run _ fun w=>run_part1 w hty (by rw [hk,Nat.mul_one]; exact hu')) (zZW hru) hd
    | s s =>
     simp only [qU] at he;obtain ⟨hi,he⟩:=qQ he;rw [vQJ,decide_eq_true_eq] at hi;simp only [vQQ,vQZ] at he;obtain ⟨b,hb,rfl⟩:=he;rw [qVY x2] at x1;have hs:=hT.str t hi.1;exact zG h (opV_index x1 y1 fun w=>by
      simp only [Instr.index,asIntOf,Sem.run_bind,Sem.run_pure,Result.andThen_ok,run_underlying hs];simp [hi.2,hb]) (.n _ _) hd
    | _=>simp only [qU] at he; cases he
   | _=>simp only [qU] at he; cases he
  | _=>cases rx <;> (simp only [qU] at he; cases he)
 | _=>cases rx <;> (simp only [qU] at he; cases he)
theorem ok_convert {s t:TypeId} {x:Operand} (hT:TabOk P C.T) (h:Rel' E C.n ρ F σ a w) (hd:dstB C.n d=true) (hvs:mapO (opv 0 σ) [x]=some vs) (he:qU C.T C.cA C.cB C.me (d.getD 0) (.convert s t x) vs=some e):OK P E C σ a w e ⟨d,.convert s t x,ty,pos,af,g⟩:=by
 obtain ⟨r,hr,rfl⟩:=qWI hvs;obtain ⟨v,h1,h2,h3⟩:=yU h hr;cases r with
 | v p =>
  cases p with
  | n k i =>
   simp only [qU,vQQ] at he;obtain ⟨k1,hk1,k2,hk2,he⟩:=he;obtain ⟨hb,he⟩:=qQ he;cases he;rw [qQK h2] at h1;have hs:=hT.ik s k1 hk1;have ht:=hT.ik t k2 hk2;have hkind:P.intKind t=k2:=by simp [Program.intKind,ht]
   refine zG h (yG (by simp [yQ,Op.operands,h1]) rfl fun w _ => ?_) (.n k2 _) hd
   have:=Go.run_convert_int (P:=P) (w:=w) s t k i (by rw [hs]; rfl) (by rw [hkind]; exact ht)
   rw [hkind] at this;simp [execOp,zQ h1,this]
  | _=>simp only [qU] at he; cases he
 | _=>simp only [qU] at he; cases he
theorem pv_rel {rs:List RV} {ps:List PV} {us:List Value} (h:mapO RV.pv rs=some ps) (hr:Al (fun r v=>RH ρ F w r.back v) rs us):Al (RP F w) ps us:=by
 have h1:=yJ h;refine ⟨by rw [← h1.1,hr.1],fun i p v hp hv => ?_⟩;have hil:=(List.getElem?_eq_some_iff.1 hp).1;have hl:i < rs.length:=by rw [h1.1]; exact hil
 have e1:=h1.2 i _ p (vQK hl) hp;have e2:=hr.2 i _ v (vQK hl) hv;generalize rs[i]=r at e1 e2;cases r with
 | v x=>simp only [RV.pv,vQZ] at e1; subst e1; exact e2
 | _=>cases e1
theorem cap_rel {rs:List RV} {ps:List Cap} {us:List Value} (h:mapO yYD rs=some ps) (hr:Al (fun r v=>RH ρ F w r.back v) rs us):Al (RCp ρ F w) ps us:=by
 have h1:=yJ h;refine ⟨by rw [← h1.1,hr.1],fun i p v hp hv => ?_⟩;have hil:=(List.getElem?_eq_some_iff.1 hp).1;have hl:i < rs.length:=by rw [h1.1]; exact hil
 have e1:=h1.2 i _ p (vQK hl) hp;have e2:=hr.2 i _ v (vQK hl) hv;generalize rs[i]=r at e1 e2;cases r with
 | v x=>simp only [yYD,vQZ] at e1; subst e1; exact e2
 | w x =>
  cases x with
  | p id off=>simp only [yYD,vQZ] at e1; subst e1; exact e2
  | _=>cases e1
 | _=>cases e1
theorem evs_split {S:yY} {xs ys:List Operand} {us:List Value} (h:evs S (xs ++ ys)=some us):evs S xs=some (us.take xs.length)∧evs S ys=some (us.drop xs.length):=by
 induction xs generalizing us with
 | nil=>exact ⟨rfl,h⟩
 | cons x xs ih =>
  simp only [List.cons_append,evs] at h;cases hx:ev S x with
  | none=>rw [hx] at h; cases h
  | some v =>
   rw [hx] at h;obtain ⟨l,hl,rfl⟩:=kK h;obtain ⟨h1,h2⟩:=ih hl;refine ⟨by simp [evs,hx,h1,qXD],by simpa using h2⟩
theorem ok_makeFunc {fn:Fn} {xs ys:Array Operand} (h:Rel' E C.n ρ F σ a w) (hd:dstB C.n d=true) (hvs:mapO (opv 1 σ) (xs ++ ys).toList=some vs) (he:qU C.T C.cA C.cB C.me (d.getD 0) (.makeFunc fn xs ys) vs=some e):OK P E C σ a w e ⟨d,.makeFunc fn xs ys,ty,pos,af,g⟩:=by
 obtain ⟨us,h1,h2,_⟩:=zQD h hvs;rw [Array.toList_append] at h1;obtain ⟨h3,h4⟩:=evs_split h1;cases fn with
 | func f =>
  simp only [qU,vQQ] at he;obtain ⟨fs,hfs,he⟩:=he;have e1:=pv_rel hfs (h2.take _);have hop:OpV P ⟨w,[]⟩ (actS a) [] ⟨d,.makeFunc (.func f) xs ys,ty,pos,af,g⟩ (.func (.func f) (us.take xs.size).toArray (us.drop xs.size).toArray):=by
   have:=opV_makeFunc (P:=P) (w0:=⟨w,[]⟩) (H:=[]) (dd:=d) (ty:=ty) (pos:=pos) (af:=af) (g:=g) (fn:=.func f) h3 h4
   simpa using this
  split at he
  ·rename_i cs hcs;cases he;have e2:=pv_rel hcs (h2.drop _);exact zG h hop (RP.f f fs cs _ _ e1.1 e2.1 e1.2 e2.2) hd
  ·simp only [vQQ,vQZ] at he;obtain ⟨cs,hcs,rfl⟩:=he;have e2:=cap_rel hcs (h2.drop _);exact zG h hop ⟨_,_,rfl,e1,e2⟩ hd
 | _=>simp only [qU] at he; cases he
end
end Go.Rx
namespace Go.Rx
open Go.RowKit Go.Sx
section
variable {P:Program} {E:Env} {C:Cx} {ρ:Own} {F:Nat→Prop} {σ:St} {a:Act} {w:World} {vs:List RV} {e:Eff}
variable {d:Option Tmp} {ty:TypeId} {pos:String} {af:Array Edge} {g:Option (Nat × Bool)}
theorem rp_l {rows:List (List PV)} {v:Value} (h:RP F w (.l rows) v):∃ ad c,v=.slice ad rows.length c∧rows.length≤c:=by
 cases h with
 | l0 ad c=>exact ⟨ad,c,rfl,Nat.zero_le _⟩
 | l _ b off n c sz g hn hcap hs hF hc hh=>subst hn; exact ⟨_,c,rfl,hcap⟩
theorem slice_len (h:Rel' E C.n ρ F σ a w) {r:RV} {v:Value} {rows:List (List PV)} (hr:(r=.v (.l rows)) ∨ (r=.nl∧rows=[]) ∨ ∃ id e sz rr,r=.o id e sz rr∧rr.L=rows) (hv:RH ρ F w r.back v) (hs:RRes σ.M r):∃ ad c,v=.slice ad rows.length c:=by
 rcases hr with rfl | ⟨rfl,rfl⟩ | ⟨id,e,sz,rr,rfl,rfl⟩
 ·obtain ⟨ad,c,h,_⟩:=rp_l hv; exact ⟨ad,c,h⟩
 ·exact ⟨none,0,hv⟩
 ·obtain ⟨ad,c,k,sz',hρ,rfl⟩:=hv;obtain ⟨a2,c2,vr,hρ2,_⟩:=h.mem.ent id _ hs;rw [hρ] at hρ2;simp only [vQZ,Loc.reg.injEq] at hρ2;obtain ⟨rfl,rfl,rfl,rfl⟩:=hρ2;exact ⟨ad,c,by rw [Rows.len_L]⟩
theorem opV_len {S:yY} {H:Heap} {w0:Base} {x:Operand} {ats:Array TypeId} {t e' k n c:Nat} {ad:Option Addr} (ha:ats[0]? = some t) (hs:slcB P t e' k=true) (hx:ev S x=some (.slice ad n c)) :
  OpV P w0 S H ⟨d,.call ⟨.builtin .len,#[x],ats⟩,ty,pos,af,g⟩ (.int .i64 (n:Int)) :=
 yG (by simp [yQ,Op.operands,Call.operands,hx]) rfl fun w _=>by
  unfold slcB at hs;cases hu:P.underlying t with
  | none=>simp [hu] at hs
  | some ds =>
   cases ds <;> simp [hu] at hs
   have ha':ats.getD 0 0=t:=by simp [Array.getD_eq_getD_getElem?,ha]
   simp [execOp,resolve,invoke,builtin,zQ hx,Builtin.len_,ha,run_underlying hu,goInt]
theorem arr1 {args:Array Operand} {m:Nat} {r:RV} (h:mapO (opv m σ) (#[] ++ args).toList=some [r]):∃ x,args=#[x]∧opv m σ x=some r:=by
 have h1:=yJ h;rw [show ((#[]:Array Operand) ++ args).toList=args.toList by simp] at h1
 match hl:args.toList with
 | []=>rw [hl] at h1; have:=h1.1; simp at this
 | [x]=>rw [hl] at h1; exact ⟨x,by rw [← Array.toArray_toList (xs:=args),hl],h1.2 0 x r rfl rfl⟩
 | x :: y :: l=>rw [hl] at h1; have:=h1.1; simp at this
theorem arr2 {args:Array Operand} {m:Nat} {r r':RV} (h:mapO (opv m σ) (#[] ++ args).toList=some [r,r']):∃ x x',args=#[x,x']∧opv m σ x=some r∧opv m σ x'=some r':=by
 have h1:=yJ h;rw [show ((#[]:Array Operand) ++ args).toList=args.toList by simp] at h1
 match hl:args.toList with
 | []=>rw [hl] at h1; have:=h1.1; simp at this
 | [x]=>rw [hl] at h1; have:=h1.1; simp at this
 | [x,y]=>rw [hl] at h1; exact ⟨x,y,by rw [← Array.toArray_toList (xs:=args),hl],h1.2 0 x r rfl rfl,h1.2 1 y r' rfl rfl⟩
 | x :: y :: z :: l=>rw [hl] at h1; have:=h1.1; simp at this
theorem opV_lenS {S:yY} {H:Heap} {w0:Base} {x:Operand} {ats:Array TypeId} {t:Nat} {s:ByteArray} (ha:ats[0]? = some t) (hs:P.underlying t=some .string) (hx:ev S x=some (.string s)) :
  OpV P w0 S H ⟨d,.call ⟨.builtin .len,#[x],ats⟩,ty,pos,af,g⟩ (.int .i64 (s.size:Int)) :=
 yG (by simp [yQ,Op.operands,Call.operands,hx]) rfl fun w _=>by
  simp [execOp,resolve,invoke,builtin,zQ hx,Builtin.len_,ha,run_underlying hs,goInt]
theorem ok_len {args:Array Operand} {ats:Array TypeId} (hT:TabOk P C.T) (h:Rel' E C.n ρ F σ a w) (hd:dstB C.n d=true) (hvs:mapO (opv 0 σ) (#[] ++ args).toList=some vs) (he:qU C.T C.cA C.cB C.me (d.getD 0) (.call ⟨.builtin .len,args,ats⟩) vs=some e):OK P E C σ a w e ⟨d,.call ⟨.builtin .len,args,ats⟩,ty,pos,af,g⟩:=by
 match vs with
 | []=>simp only [qU] at he; cases he
 | _ :: _ :: _=>simp only [qU] at he; cases he
 | [r] =>
  obtain ⟨x,rfl,hx⟩:=arr1 hvs;obtain ⟨v,h1,h2,h3⟩:=yU h hx;have main:∀ (rows:List (List PV)),((r=.v (.l rows)) ∨ (r=.nl∧rows=[]) ∨ ∃ id e sz rr,r=.o id e sz rr∧rr.L=rows)→∀ t,ats[0]? = some t→(C.T.sl t).isSome=true→OK P E C σ a w (.val (.v (.n .i64 (rows.length:Int)))) ⟨d,.call ⟨.builtin .len,#[x],ats⟩,ty,pos,af,g⟩:=by
   intro rows hr t ht hs;obtain ⟨⟨e',k⟩,hs⟩:=Option.isSome_iff_exists.1 hs;obtain ⟨ad,c,rfl⟩:=slice_len h hr h2 h3;exact zG h (opV_len ht (hT.sl t e' k hs).1 h1) (.n _ _) hd
  cases r with
  | v p =>
   cases p with
   | s s =>
    simp only [qU] at he;split at he
    ·rename_i t ht;obtain ⟨hb,he⟩:=qQ he;cases he;rw [qVY h2] at h1;exact zG h (opV_lenS ht (hT.str t hb) h1) (.n _ _) hd
    ·cases he
   | l rows =>
    simp only [qU] at he;split at he
    ·rename_i t ht;simp only [vQQ,vQZ] at he;obtain ⟨y,hy,rfl⟩:=he;exact main rows (.inl rfl) t ht (by rw [hy]; rfl)
    ·cases he
   | lf n f =>
    simp only [qU] at he;split at he
    ·rename_i t ht;simp only [vQQ,vQZ] at he;obtain ⟨⟨e',k⟩,hy,rfl⟩:=he;obtain ⟨ad,c,rfl⟩:=slice_len (rows:=(List.range n).map f) h (.inl rfl) (zUC h2) trivial;rw [List.length_map,List.length_range] at h1;exact zG h (opV_len ht (hT.sl t e' k hy).1 h1) (.n _ _) hd
    ·cases he
   | _=>simp only [qU] at he; cases he
  | nl =>
   simp only [qU] at he;split at he
   ·rename_i t ht;simp only [vQQ,vQZ] at he;obtain ⟨y,hy,rfl⟩:=he;exact main [] (.inr (.inl ⟨rfl,rfl⟩)) t ht (by rw [hy]; rfl)
   ·cases he
  | o id e' sz rows =>
   simp only [qU] at he;split at he
   ·rename_i t ht;simp only [vQQ,vQZ] at he;obtain ⟨y,hy,rfl⟩:=he
    have:=main rows.L (.inr (.inr ⟨_,_,_,_,rfl,rfl⟩)) t ht (by rw [hy]; rfl)
    rw [Rows.len_L] at this;exact this
   ·cases he
  | _=>simp only [qU] at he; cases he
theorem ok_min {args:Array Operand} {ats:Array TypeId} (h:Rel' E C.n ρ F σ a w) (hd:dstB C.n d=true) (hvs:mapO (opv 0 σ) (#[] ++ args).toList=some vs) (he:qU C.T C.cA C.cB C.me (d.getD 0) (.call ⟨.builtin .min,args,ats⟩) vs=some e):OK P E C σ a w e ⟨d,.call ⟨.builtin .min,args,ats⟩,ty,pos,af,g⟩:=by
 match vs with
 | []=>simp only [qU] at he; cases he
 | [_]=>simp only [qU] at he; cases he
 | _ :: _ :: _ :: _=>simp only [qU] at he; cases he
 | [r,r'] =>
  obtain ⟨p,q,rfl,hp,hq⟩:=arr2 hvs;obtain ⟨vx,x1,x2,_⟩:=yU h hp;obtain ⟨vy,y1,y2,_⟩:=yU h hq;cases r with
  | v r =>
   cases r' with
   | v r' =>
    cases r with
    | n k x =>
     cases r' with
     | n k' y =>
      simp only [qU] at he;obtain ⟨hb,he⟩:=qQ he;cases he
      have:=vYU hb
      subst this;rw [qQK x2] at x1; rw [qQK y2] at y1;exact zG h (opV_min2 x1 y1) (.n _ _) hd
     | _=>simp only [qU] at he; cases he
    | _=>simp only [qU] at he; cases he
   | _=>cases r <;> (simp only [qU] at he; cases he)
  | _=>simp only [qU] at he; cases he
theorem ok_max {args:Array Operand} {ats:Array TypeId} (h:Rel' E C.n ρ F σ a w) (hd:dstB C.n d=true) (hvs:mapO (opv 0 σ) (#[] ++ args).toList=some vs) (he:qU C.T C.cA C.cB C.me (d.getD 0) (.call ⟨.builtin .max,args,ats⟩) vs=some e):OK P E C σ a w e ⟨d,.call ⟨.builtin .max,args,ats⟩,ty,pos,af,g⟩:=by
 match vs with
 | []=>simp only [qU] at he; cases he
 | [_]=>simp only [qU] at he; cases he
 | _ :: _ :: _ :: _=>simp only [qU] at he; cases he
 | [r,r'] =>
  obtain ⟨p,q,rfl,hp,hq⟩:=arr2 hvs;obtain ⟨vx,x1,x2,_⟩:=yU h hp;obtain ⟨vy,y1,y2,_⟩:=yU h hq;cases r with
  | v r =>
   cases r' with
   | v r' =>
    cases r with
    | n k x =>
     cases r' with
     | n k' y =>
      simp only [qU] at he;obtain ⟨hb,he⟩:=qQ he;cases he
      have:=vYU hb
      subst this;rw [qQK x2] at x1; rw [qQK y2] at y1;exact zG h (opV_max2 x1 y1) (.n _ _) hd
     | _=>simp only [qU] at he; cases he
    | _=>simp only [qU] at he; cases he
   | _=>cases r <;> (simp only [qU] at he; cases he)
  | _=>simp only [qU] at he; cases he
theorem rp_part {rows:List (List PV)} {ad:Option Addr} {n c l h k:Nat} (hr:RP F w (.l rows) (.slice ad n c)) (hk:zYA rows l k=true) (_:l≤h) (hh:h≤rows.length):RP F w (.l ((rows.take h).drop l)) (sliced ad l h c k):=by
 have hlen:((rows.take h).drop l).length=h - l:=by simp; omega
 by_cases h0:h - l=0
 ·have:(rows.take h).drop l=[]:=List.eq_nil_of_length_eq_zero (by omega)
  rw [this];unfold sliced;rw [h0];exact .l0 _ _
 ·cases hr with
  | l0=>simp at hh; omega
  | l _ b off n c sz g hn hcap hs hF hc hh' =>
   subst hn;have hll:l < rows.length:=by omega
   have hsz:sz=k:=by
    unfold zYA at hk;rw [vQK hll] at hk;simp only [Option.all_some] at hk;rw [← hs _ (List.getElem_mem hll)]; exact vQU hk
   subst hsz;have hml:¬ c=l:=by omega
   unfold sliced;rw [if_neg hml];simp only [Option.map_some,qYK];refine .l _ b (off + l * sz) (h - l) (c - l) sz (fun j t=>g (l + j) t) hlen.symm (by omega) (fun r hr=>hs r (List.mem_of_mem_take (List.mem_of_mem_drop hr))) hF (fun j t hj ht => ?_) (fun j r t p hj ht => ?_)
   ·have:=hc (l + j) t (by omega) ht
    rw [show off + l * sz + (j * sz + t)=off + ((l + j) * sz + t) by rw [Nat.add_mul]; omega];exact this
   ·rw [List.getElem?_drop,vZU] at hj;split at hj
    ·exact hh' (l + j) r t p hj ht
    ·cases hj
theorem zKF {i j:Option Int} {n:Nat} (h:inS i j n=true):(∀ x,i=some x→0≤x)∧(∀ x,j=some x→0≤x)∧loOf i≤hiOf j n∧hiOf j n≤n:=by
 unfold inS at h;simp only [vQJ,decide_eq_true_eq] at h;obtain ⟨⟨⟨h1,h2⟩,h3⟩,h4⟩:=h;exact ⟨fun x e=>by subst e; simpa using h1,fun x e=>by subst e; simpa using h2,h3,h4⟩
def BV (i:Option Int) (v:Option Value):Prop:=(i=none∧v=none) ∨ ∃ k x,i=some x∧v=some (.int k x)
theorem run_bounds {w:World} {isS:Bool} {n c:Nat} {i j:Option Int} {vi vj:Option Value} (hi:BV i vi) (hj:BV j vj) (_:n≤c) (h:inS i j n=true) :
  (Instr.sliceBounds isS n c vi vj none).run P w=.ok (loOf i,hiOf j n,c) w:=by
 obtain ⟨h1,h2,h3,h4⟩:=zKF h;rcases hi with ⟨rfl,rfl⟩ | ⟨k,x,rfl,rfl⟩ <;> rcases hj with ⟨rfl,rfl⟩ | ⟨k',y,rfl,rfl⟩
 ·simp [Instr.sliceBounds,loOf,hiOf]
 ·have:=h2 y rfl
  simp only [loOf,hiOf] at h3 h4;have hy:y≤(c:Int):=by omega
  simp [Instr.sliceBounds,loOf,hiOf,run_sliceBound,this,hy]
 ·have:=h1 x rfl
  simp only [loOf,hiOf] at h3 h4;have hx:x≤(n:Int):=by omega
  simp [Instr.sliceBounds,loOf,hiOf,run_sliceBound,this,hx]
 ·have hx0:=h1 x rfl;have hy0:=h2 y rfl;simp only [loOf,hiOf] at h3 h4;have hy:y≤(c:Int):=by omega
  have hx:x≤(y.toNat:Int):=by omega
  have e1:=run_sliceBound (P:=P) w k' y c (if isS then .sliceAcap else .sliceAlen) hy0 hy;have e2:=run_sliceBound (P:=P) w k x y.toNat .sliceB hx0 hx;simp [Instr.sliceBounds,loOf,hiOf,e1,e2]
theorem qGX {S:yY} {H:Heap} {w0:Base} {t:TypeId} {x:Operand} {lo hi:Option Operand} {vx:Value} {vlo vhi:Option Value} {v:Value} (hx:ev S x=some vx) (hlo:∀ o,lo=some o→∃ u,ev S o=some u∧vlo=some u) (hlo':lo=none→vlo=none)
  (hhi:∀ o,hi=some o→∃ u,ev S o=some u∧vhi=some u) (hhi':hi=none→vhi=none) (hr:∀ w,(Instr.sliceAt t vx vlo vhi none).run P w=.ok v w):OpV P w0 S H ⟨d,.slice t x lo hi none,ty,pos,af,g⟩ v:=by
 have e1:lo.map (evD S)=vlo:=by
  cases lo with
  | none=>rw [hlo' rfl]; rfl
  | some o=>obtain ⟨u,h1,h2⟩:=hlo o rfl; rw [h2,Option.map_some,zQ h1]
 have e2:hi.map (evD S)=vhi:=by
  cases hi with
  | none=>rw [hhi' rfl]; rfl
  | some o=>obtain ⟨u,h1,h2⟩:=hhi o rfl; rw [h2,Option.map_some,zQ h1]
 refine yG ?_ rfl fun w _ => ?_
 ·simp only [yQ,Op.operands];rw [vZH];intro y hy;simp only [Array.mem_append,List.mem_toArray,Option.mem_toArray,List.mem_singleton,Option.not_mem_none,or_false] at hy;rcases hy with ((rfl | hy) | hy) | hy
  ·simp [hx]
  ·obtain ⟨u,h1,_⟩:=hlo y hy; simp [h1]
  ·obtain ⟨u,h1,_⟩:=hhi y hy; simp [h1]
  ·cases hy
 ·simp only [execOp,e1,e2,zQ hx];simp [hr w]
theorem elem_of {t e' k:Nat} (h:slcB P t e' k=true):P.underlying t=some (.slice (P.elem t))∧P.elem t=e'∧∀ w,(sizeOf e').run P w=.ok k w:=by
 unfold slcB at h;cases hu:P.underlying t with
 | none=>simp [hu] at h
 | some ds =>
  cases ds <;> simp [hu] at h
  rename_i el;obtain ⟨rfl,h2⟩:=h;cases hi:P.info? el with
  | none=>simp [hi] at h2
  | some i =>
   simp [hi] at h2;have he:P.elem t=el:=by simp [Program.elem,hu]
   exact ⟨by rw [he],he,fun w=>by simp [sizeOf,typeInfo,hi,h2]⟩
theorem zWU {w:World} {t e' k n c:Nat} {ad:Option Addr} {i j:Option Int} {vi vj:Option Value} (hs:slcB P t e' k=true) (hi:BV i vi) (hj:BV j vj) (hn:n≤c) (h:inS i j n=true) :
  (Instr.sliceAt t (.slice ad n c) vi vj none).run P w=.ok (sliced ad (loOf i) (hiOf j n) c k) w:=by
 obtain ⟨h1,h2,h3⟩:=elem_of hs;rw [run_sliceAt_slice w t _ _ _ _ h1,run_slice_any w t ad n c h1,run_bounds hi hj hn h];simp only [Result.andThen_ok,h2,h3]
theorem slice_ops {x:Operand} {lo hi:Option Operand} (h:Rel' E C.n ρ F σ a w) (hvs:mapO (opv 0 σ) (#[x] ++ lo.toArray ++ hi.toArray ++ (none:Option Operand).toArray).toList=some vs):∃ rx vs' vx,vs=rx :: vs'∧ev (actS a) x=some vx∧RH ρ F w rx.back vx∧RRes σ.M rx ∧
  ∀ b,zJX lo hi vs'=some b→∃ vlo vhi,BV b.1 vlo∧BV b.2 vhi∧(∀ o,lo=some o→∃ u,ev (actS a) o=some u∧vlo=some u)∧(lo=none→vlo=none)∧(∀ o,hi=some o→∃ u,ev (actS a) o=some u∧vhi=some u)∧(hi=none→vhi=none):=by
 have hl:(#[x] ++ lo.toArray ++ hi.toArray ++ (none:Option Operand).toArray).toList=x :: (lo.toList ++ hi.toList):=by cases lo <;> cases hi <;> rfl
 rw [hl] at hvs;simp only [mapO,vQQ,vQZ] at hvs;obtain ⟨rx,hx,vs',hvs',rfl⟩:=hvs;obtain ⟨vx,x1,x2,x3⟩:=yU h hx;refine ⟨rx,vs',vx,rfl,x1,x2,x3,fun b hb => ?_⟩;have no:∀ {b':Option Value} (o:Operand),(none:Option Operand)=some o→∃ u,ev (actS a) o=some u∧b'=some u:=fun o ho=>by cases ho
 have yes:∀ {o':Operand} {v:Value},ev (actS a) o'=some v→∀ o,some o'=some o→∃ u,ev (actS a) o=some u∧some v=some u:=fun hv o ho=>by cases ho; exact ⟨_,hv,rfl⟩
 cases lo with
 | none =>
  cases hi with
  | none=>simp [zJX] at hb
  | some oj =>
   simp only [Option.toList_none,Option.toList_some,List.nil_append] at hvs';obtain ⟨r,hr,rfl⟩:=qWI hvs';obtain ⟨v,h1,h2,_⟩:=yU h hr;cases r with
   | v p =>
    cases p with
    | n k j=>cases hb; exact ⟨none,some v,.inl ⟨rfl,rfl⟩,.inr ⟨k,j,rfl,by rw [qQK h2]⟩,no,(fun _=>rfl),yes h1,(fun ho=>by cases ho)⟩
    | _=>cases hb
   | _=>cases hb
 | some oi =>
  cases hi with
  | none =>
   simp only [Option.toList_none,Option.toList_some,List.append_nil] at hvs';obtain ⟨r,hr,rfl⟩:=qWI hvs';obtain ⟨v,h1,h2,_⟩:=yU h hr;cases r with
   | v p =>
    cases p with
    | n k j=>cases hb; exact ⟨some v,none,.inr ⟨k,j,rfl,by rw [qQK h2]⟩,.inl ⟨rfl,rfl⟩,yes h1,(fun ho=>by cases ho),no,(fun _=>rfl)⟩
    | _=>cases hb
   | _=>cases hb
  | some oj =>
   simp only [Option.toList_some,List.singleton_append] at hvs';obtain ⟨r,r',hr,hr',rfl⟩:=zHB hvs';obtain ⟨v,h1,h2,_⟩:=yU h hr;obtain ⟨v',h1',h2',_⟩:=yU h hr';cases r with
   | v p =>
    cases r' with
    | v p' =>
     cases p with
     | n k j =>
      cases p' with
      | n k' j'=>cases hb; exact ⟨some v,some v',.inr ⟨k,j,rfl,by rw [qQK h2]⟩,.inr ⟨k',j',rfl,by rw [qQK h2']⟩,yes h1,(fun ho=>by cases ho),yes h1',(fun ho=>by cases ho)⟩
      | _=>cases hb
     | _=>cases hb
    | _=>cases p <;> cases hb
   | _=>cases hb
end
end Go.Rx

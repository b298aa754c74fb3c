/- Part 5 of the texts behind the last one: rules and contracts. No condition. -/
import Derived.Test.YtbfcbojgnppacaaGreatMI4
open Option renaming bind_eq_some_iff → vQQ, map_eq_some_iff → vZW
open Option.some renaming injEq → vQZ
open Prod.mk renaming injEq → vQY
open Bool renaming and_eq_true → vQJ
open List renaming getElem?_eq_getElem → vQK, length_cons → vQW, length_nil → vQV, mem_of_getElem? → vQG, mem_cons_of_mem → vQH, mem_cons_self → vZQ, all_eq_true → vZZ, getElem?_map → vZY, getElem?_take → vZV
open Nat renaming eq_of_beq_eq_true → vQX, lt_of_lt_of_le → vZK, le_of_ble_eq_true → vZX
namespace Go.Rx
open Go.RowKit Go.Sx
section
variable {P:Program} {E:Env} {C:Cx} {ρ:Own} {F:Nat→Prop} {σ:St} {a:Act} {w:World} {vs:List RV} {e:Eff}
variable {d:Option Tmp} {ty:TypeId} {pos:String} {af:Array Edge} {g:Option (Nat × Bool)}
theorem slc_cells {sz b off:Nat} {vn:List (List Value)} (hF:qJQ sz (some ⟨b,off,none⟩) vn w) (hall:∀ r ∈ vn,r.length=sz) (hs0:0 < sz):∀ j u,vn.flatten[j]? = some u→w.cell? ((⟨b,off,none⟩:Addr).add j)=some u:=fun j v hj=>by
 have hjl:=(List.getElem?_eq_some_iff.1 hj).1;rw [rows_len vn hall] at hjl;have hd:j / sz < vn.length:=(Nat.div_lt_iff_lt_mul hs0).2 hjl;have hmod:=Nat.mod_lt j hs0;have hrow:vn[j / sz]? = some vn[j / sz]:=vQK hd;have hg:=qVI (sz:=sz) vn hall (j / sz) _ hrow (j % sz) hmod;rw [show j / sz * sz + j % sz=j by rw [Nat.mul_comm]; exact Nat.div_add_mod j sz] at hg;obtain ⟨_,b1,off1,he,_,hc⟩:=hF _ _ hrow;simp only [vQZ,Addr.mk.injEq,and_true] at he;obtain ⟨rfl,rfl⟩:=he
 have:=hc _ hmod
 rw [← hg,hj,Nat.add_assoc,show j / sz * sz + j % sz=j by rw [Nat.mul_comm]; exact Nat.div_add_mod j sz] at this;rw [qUG];exact this
theorem zWI (h:Rel' E C.n ρ F σ a w) {id e' sz:Nat} {rows:Rows} {v:Value} (hl:zG σ.M id=some (.reg e' sz rows)) (hv:RH ρ F w (.o id) v):∃ ad c vr,ρ id=some (.reg ad c rows.len sz)∧v=.slice ad rows.len c∧0 < sz∧Al (Al (RP F w)) rows.L vr∧(∀ r ∈ rows.L,r.length=sz)∧(∀ r ∈ vr,r.length=sz)∧(∀ v ∈ vr,∀ u ∈ v,u.oneCell'=true) ∧
  w.ownsRow 0 e' sz (.slice ad rows.len c) rows.len vr.flatten∧qJQ sz ad vr w:=by
 obtain ⟨ad,c,k,sz',hρ,rfl⟩:=hv;obtain ⟨a2,c2,vr,hρ2,h0,hal,hrl,hone,hown⟩:=h.mem.ent id _ hl;rw [hρ] at hρ2;simp only [vQZ,Loc.reg.injEq] at hρ2;obtain ⟨rfl,rfl,rfl,rfl⟩:=hρ2;have hvr:=yKQ hal hrl;refine ⟨ad,c,vr,hρ,rfl,h0,hal,hrl,hvr,hone,hown,?_⟩
 have:OwnF 0 e' sz' ad c vr.length vr.flatten w:=by unfold OwnF; rw [← hal.1,Rows.len_L]; exact hown
 exact zVD hvr this
theorem news_at (h:Rel' E C.n ρ F σ a w) {y:RV} {nw:Rows} {news:List (List PV)} {v:Value} {sz:Nat} (hy:yQE y=some nw) (hN:nw.L=news) (hv:RH ρ F w y.back v) (hr:RRes σ.M y) (hok:zWV news 0 sz=true) (hs0:0 < sz):∃ ad c,v=.slice ad news.length c ∧
  (news=[] ∨ ∃ b off vn,ad=some ⟨b,off,none⟩∧Al (Al (RP F w)) news vn∧(∀ r ∈ news,r.length=sz)∧(∀ r ∈ vn,r.length=sz)∧(∀ v ∈ vn,∀ u ∈ v,u.oneCell'=true)∧∀ j u,vn.flatten[j]? = some u→w.cell? ((⟨b,off,none⟩:Addr).add j)=some u):=by
 by_cases hne:news=[]
 ·subst hne;cases y with
  | v p =>
   cases p with
   | l rows =>
    cases hy;have hN':rows=[]:=hN;subst hN';obtain ⟨ad,c,h,_⟩:=rp_l hv; exact ⟨ad,c,h,.inl rfl⟩
   | lf n f =>
    cases hy;have hN':(List.range n).map f=[]:=hN;have hv':=yQX hv;rw [hN'] at hv';obtain ⟨ad,c,h,_⟩:=rp_l hv'; exact ⟨ad,c,h,.inl rfl⟩
   | ne =>
    have hv':RP F w .ne v:=hv;cases hv' with
    | ne ad c=>exact ⟨some ad,c,rfl,.inl rfl⟩
   | _=>cases hy
  | nl=>exact ⟨none,0,hv,.inl rfl⟩
  | o id e' sz' rows =>
   cases hy;obtain ⟨ad,c,vr,_,rfl,_⟩:=zWI h hr hv;rw [← Rows.len_L,hN];exact ⟨ad,c,rfl,.inl rfl⟩
  | _=>cases hy
 ·have hlen:0 < news.length:=List.length_pos_iff.2 hne;have hk:∀ {k:Nat},(∀ r ∈ news,r.length=k)→k=sz:=fun {k} hr=>by
   unfold zWV at hok;rw [vQK hlen] at hok;simp only [Option.all_some] at hok;rw [← hr _ (List.getElem_mem hlen)]; exact vQX hok
  have slc:∀ {v:Value},RP F w (.l news) v→∃ ad c,v=.slice ad news.length c∧(news=[] ∨ ∃ b off vn,ad=some ⟨b,off,none⟩∧Al (Al (RP F w)) news vn∧(∀ r ∈ news,r.length=sz)∧(∀ r ∈ vn,r.length=sz)∧(∀ v ∈ vn,∀ u ∈ v,u.oneCell'=true)∧∀ j u,vn.flatten[j]? = some u→w.cell? ((⟨b,off,none⟩:Addr).add j)=some u):=by
    intro v hv;cases hv with
    | l0=>exact absurd rfl hne
    | l _ b off n c sz' g' hn hcap hs hF hc hh =>
     have:=hk hs
     subst this;subst hn;refine ⟨_,c,rfl,.inr ⟨b,off,(List.range news.length).map fun j=>(List.range sz').map (g' j),rfl,⟨by simp,fun j r u hr hu => ?_⟩,hs,fun r hr => ?_,fun r hr u hu => ?_,?_⟩⟩
     ·rw [vZY,vZW] at hu;obtain ⟨m,hm,rfl⟩:=hu;have hm2:=List.getElem?_eq_some_iff.1 hm;obtain ⟨hm3,hm4⟩:=hm2;simp at hm3 hm4;subst hm4;refine ⟨by simp [hs r (vQG hr)],fun t p v hp hv => ?_⟩;rw [vZY,vZW] at hv;obtain ⟨m,hm,rfl⟩:=hv;have hm2:=List.getElem?_eq_some_iff.1 hm;obtain ⟨hm5,hm6⟩:=hm2;simp at hm5 hm6;subst hm6;exact hh j r t p hr hp
     ·obtain ⟨j,_,rfl⟩:=List.mem_map.1 hr; simp
     ·obtain ⟨j,hj,rfl⟩:=List.mem_map.1 hr;obtain ⟨t,ht,rfl⟩:=List.mem_map.1 hu;exact (hc j t (List.mem_range.1 hj) (List.mem_range.1 ht)).2
     ·refine slc_cells (sz:=sz') (fun j r hj => ?_) (fun r hr=>by obtain ⟨j,_,rfl⟩:=List.mem_map.1 hr; simp) hs0;rw [vZY,vZW] at hj;obtain ⟨m,hm,rfl⟩:=hj;have hm2:=List.getElem?_eq_some_iff.1 hm;obtain ⟨hm3,hm4⟩:=hm2;simp at hm3 hm4;subst hm4;refine ⟨by simp,b,off,rfl,(h.mem.fz b hF).1,fun k hk => ?_⟩;rw [Nat.add_assoc,(hc j k hm3 hk).1]; simp [hk]
  cases y with
  | v p =>
   cases p with
   | lf n f =>
    cases hy;have hv':=yQX hv;have hN':(List.range n).map f=news:=hN;rw [hN'] at hv';exact slc hv'
   | l rows =>
    cases hy;have hN':rows=news:=hN;subst hN';exact slc hv
   | ne=>cases hy; exact absurd hN.symm hne
   | _=>cases hy
  | nl=>cases hy; exact absurd hN.symm hne
  | o id e' sz' rows =>
   cases hy;obtain ⟨ad,c,vr,hρ,rfl,h0,hal,hrl,hvr,hone,hown,hslc⟩:=zWI h hr hv;rw [← Rows.len_L] at hρ ⊢;rw [hN] at hal hrl ⊢
   have:=hk hrl
   subst this;obtain ⟨u,hu,_⟩:=hal.get (vQK hlen);obtain ⟨_,b,off,rfl,_,_⟩:=hslc 0 u hu;exact ⟨_,c,rfl,.inr ⟨b,off,vr,rfl,hal,hrl,hvr,hone,slc_cells hslc hvr h0⟩⟩
  | _=>cases hy
theorem qXA {t e' k bytes l c cy:Nat} {ty:TypeId} {base ady:Option Addr} (happ:appB P t e' k bytes=true) (hle:l≤c) (w:World) :
  (Builtin.append_ #[t,t] ty #[.slice base l c,.slice ady 0 cy]).run P w=.ok (.slice base l c) w:=by
 unfold appB at happ;cases hu:P.underlying t with
 | none=>simp [hu] at happ
 | some ds =>
  cases ds <;> simp [hu] at happ
  rename_i el;cases hi:P.info? e' with
  | none=>simp [hi] at happ
  | some i =>
   simp [hi] at happ;obtain ⟨⟨⟨⟨rfl,h2⟩,h3⟩,h4⟩,h5⟩:=happ;cases base <;> cases ady <;> simp [Builtin.append_,run_underlying hu,sizeOf,typeInfo,hi,hle,storeCells,loadCells,loadCellsFrom,Builtin.lenOf,Builtin.firstCells]
theorem run_append_ze {w:World} {t e size bytes:Nat} {ty:TypeId} (hB:appB P t e size bytes=true) (base:Option Addr)
  {ad:Addr} {m c:Nat} {news:List Value} (hm:0 < m) (hl:news.length=m * size) (hnews:∀ j u,news[j]? = some u→w.cell? (ad.add j)=some u) (h1:∀ u ∈ news,u.oneCell'=true)
  (h63:m≤9223372036854775807) (hby:m * bytes≤140737488355328) :
  (Builtin.append_ #[t,t] ty #[.slice base 0 0,.slice (some ad) m c]).run P w=(Builtin.append_ #[t,t] ty #[.slice none 0 0,.slice (some ad) m c]).run P w:=by
 unfold appB at hB;cases hu:P.underlying t with
 | none=>simp [hu] at hB
 | some ds =>
  cases ds <;> simp [hu] at hB
  rename_i e';cases hi:P.info? e with
  | none=>simp [hi] at hB
  | some i =>
   simp [hi] at hB;obtain ⟨⟨⟨⟨rfl,h2⟩,h3⟩,h4⟩,h5⟩:=hB;cases hz:i.zero with
   | none=>simp [hz] at h5
   | some z =>
    subst h2; subst h3;have hs:Src P i.size t (.slice (some ad) m c) m news w:=Src.ofSlice w hu ad m c news hl hnews h1;have hf:Builtin.nextslicecap (0 + m) 0 * i.bytes≤281474976710656:=growslice_fits (by omega) (by rw [Nat.zero_add]; exact hby);have hold:∀ b:Option Addr,(Builtin.firstCells i.size 0 (.slice b 0 0)).run P w.drew=.ok ([]:List Value).toArray w.drew:=fun b=>by
     cases b with
     | none=>exact run_firstCells_none w.drew i.size 0 0 0
     | some a=>exact run_firstCells_some w.drew i.size 0 a 0 0 [] (by simp) (fun j u h=>by simp at h)
    rw [run_append_grow_src w t t ty e' i z hu hi hz base 0 0 [] (hold base) _ m news hs (by omega) (by omega) hf,run_append_grow_src w t t ty e' i z hu hi hz none 0 0 [] (hold none) _ m news hs (by omega) (by omega) hf]
theorem Rel'.appN {n:Nat} (h:Rel' E n ρ F σ a w) {id j e ie isz:Nat} {rows:NR} (hl:zG σ.M id=some (.nst e ie isz rows none)) (hj:j < rows.len) {r r':Rows} {av av':Option Addr} {cv cv':Nat} (hρ:ρ (nid id j)=some (.inn av cv r.len isz)) {vr':List (List Value)} {w':World}
  (g:GrowB (fun k=>av.map (·.block)=some k) w w') (hb:∀ b,av'.map (·.block)=some b→av.map (·.block)=some b ∨ (w.heap.size≤b∧b < w'.heap.size)) (hal:Al (Al (RP F w)) r'.L vr') (hrl:∀ x ∈ r'.L,x.length=isz) (hone:∀ x ∈ vr',∀ u ∈ x,u.oneCell'=true)
  (hown:w'.ownsRow 0 ie isz (.slice av' r'.len cv') r'.len vr'.flatten) {dst:Option Nat} (hd:dstB n dst=true) :
  Rel' E n (updO ρ (nid id j) (.inn av' cv' r'.len isz)) F (σ.apply ⟨[(id,some (.nst e ie isz rows (some (j,r'))))],[(mid id,none)],.mp id j,[]⟩ dst) (a.put dst (.slice av' r'.len cv')) w':=by
 have hlt:=h.mem.ord id _ hl;have hoff:=fun b hb=>h.mem.off (nid id j) _ b hρ hb
 have fzb:∀ k,F k→w'.heap[k]? = w.heap[k]?:=fun k hk=>g.block k (h.mem.fz k hk).1 fun e=>(hoff k e).1 hk
 have hF:∀ k,F k→F k∧w'.heap[k]? = w.heap[k]?:=fun k hk=>⟨hk,fzb k hk⟩
 obtain ⟨a0,c0,H,q1,q2,q3,q4,_,q6⟩:=h.mem.ent id _ hl;have idne:id ≠ nid id j:=by have:=qKG id j; omega
 have old:∀ k L1,ρ k=some L1→k ≠ nid id j→updO ρ (nid id j) (.inn av' cv' r'.len isz) k=some L1:=fun k L1 hk hne=>by rw [qYG hne]; exact hk
 have oldn:∀ k L1,ρ k=some L1→L1.inner=false→k ≠ nid id j:=fun k L1 hk hi e=>by subst e; rw [hρ] at hk; cases hk; cases hi
 have inv:∀ k L1,updO ρ (nid id j) (.inn av' cv' r'.len isz) k=some L1→(k=nid id j∧L1=.inn av' cv' r'.len isz) ∨ (k ≠ nid id j∧ρ k=some L1):=fun k L1 hk=>by
  by_cases e:k=nid id j
  ·subst e; rw [jU] at hk; cases hk; exact .inl ⟨rfl,rfl⟩
  ·rw [qYG e] at hk; exact .inr ⟨e,hk⟩
 have offs:∀ k L1 b,ρ k=some L1→L1.bl=some b→k ≠ nid id j→av.map (·.block) ≠ some b:=fun k L1 b hk hb1 hne he=>hne (h.mem.apart k (nid id j) L1 _ b hk hρ hb1 he)
 refine h.apply2 ⟨[(id,some (.nst e ie isz rows (some (j,r'))))],[(mid id,none)],.mp id j,[]⟩ dst _ (fun d e=>by subst e; simpa [dstB] using hd)
  ⟨fun k b hk=>old k _ hk (oldn k _ hk rfl),fun k L' hk _ hi=>old k L' hk (oldn k _ hk hi),fun k i a' c' kk s hk2 hk _ hs2=>old _ _ hk fun e => ?_,fun k rows a' c' kk sz _ hs=>(by simp only [qZQ] at hs; split at hs <;> cases hs),hF⟩
  ⟨_,_,_,_,⟨jU _ _ _,rfl⟩,hlt,_,_,_,_,old id _ q1 idne,hj⟩
  (fun k L' b' hu hun hk hb'=>g.block b' (h.mem.off k L' b' hk hb').2.1 (offs k L' b' hk hb' fun e => ?_)) (fun k hk _ => ?_) (fun k hk hu => ?_) (fun k y hu => ?_) (fun k L' hu hL hi => ?_) (fun k y hu => ?_) (fun k L' hL hi => ?_) (fun k k' L1 L2 b' h1 h2 hb1 hb2 => ?_) (fun k L' b' hk hb' => ?_) (fun k hk=>⟨vZK (h.mem.fz k hk).1 g.size,(h.mem.fz k hk).2⟩) ?_ (fun b hb=>zWX (zZI q1 hb))
 ·have:=(zXW hk2 hlt e).1
  subst this; simp [qZQ] at hs2
 ·have:=hun id j e
  simp only [kW,if_true] at this; cases this
 ·simp only [qZQ]; rw [if_neg (by unfold mid; omega)]
 ·simp only [kW] at hu;simp only [qZQ];split at hu
  ·cases hu
  ·rename_i hne; rw [if_neg (by unfold mid; omega)]
 ·simp only [kW] at hu;split at hu
  ·rename_i e; rw [← e]; exact hlt
  ·cases hu
 ·rcases inv k L' hL with ⟨_,rfl⟩ | ⟨_,h3⟩
  ·cases hi
  ·exact h3
 ·simp only [kW] at hu;split at hu
  ·rename_i he;cases hu;subst he;refine ⟨a0,c0,H,old id _ q1 idne,q2,qZH q3 fun b hb'=>g.block b (h.mem.off id _ b q1 hb').2.1 (offs id _ b q1 hb' idne),q4,(fun j2 r2 e2=>by cases e2; exact hj),fun v hv => ?_⟩;by_cases e:v=j
   ·subst e;exact ⟨r',av',cv',vr',by unfold yXQ; simp,jU _ _ _,fun hne=>absurd rfl (hne r'),hal.imp fun _ _ _ h=>h.imp fun _ _ _ h=>h.mono hF,hrl,hone,hown⟩
   ·obtain ⟨r1,av1,cv1,vr1,p1,p2,p3,p4,p5,p6,p7⟩:=q6 v hv;have hne:nid id v ≠ nid id j:=fun e2=>e (zXW hlt hlt e2).2
    exact ⟨r1,av1,cv1,vr1,by unfold yXQ at p1 ⊢; simpa [e] using p1,old _ _ p2 hne,fun _=>p3 (fun r' hr'=>by cases hr'),p4.imp fun _ _ _ h=>h.imp fun _ _ _ h=>h.mono hF,p5,p6,qZH p7 fun b hb'=>g.block b (h.mem.off _ _ b p2 hb').2.1 (offs _ _ b p2 hb' hne)⟩
  ·cases hu
 ·rcases inv k L' hL with ⟨rfl,_⟩ | ⟨_,h3⟩
  ·exact qKG id j
  ·exact h.mem.inr k L' h3 hi
 ·have cross:∀ k L1 b,k ≠ nid id j→ρ k=some L1→L1.bl=some b→av'.map (·.block)=some b→False:=fun k L1 b hne hk hb1 hb2=>by
   rcases hb b hb2 with h3 | h3
   ·exact offs k L1 b hk hb1 hne h3
   ·have:=(h.mem.off k L1 b hk hb1).2.1; omega
  rcases inv k L1 h1 with ⟨e1,rfl⟩ | ⟨n1,h1'⟩
  ·rcases inv k' L2 h2 with ⟨e2,_⟩ | ⟨n2,h2'⟩
   ·rw [e1,e2]
   ·exact (cross k' L2 b' n2 h2' hb2 hb1).elim
  ·rcases inv k' L2 h2 with ⟨_,rfl⟩ | ⟨n2,h2'⟩
   ·exact (cross k L1 b' n1 h1' hb1 hb2).elim
   ·exact h.mem.apart k k' L1 L2 b' h1' h2' hb1 hb2
 ·rcases inv k L' hk with ⟨_,rfl⟩ | ⟨_,hk'⟩
  ·rcases hb b' hb' with h3 | h3
   ·have:=hoff b' h3; exact ⟨this.1,vZK this.2.1 g.size,this.2.2⟩
   ·exact ⟨fun hf=>by have:=(h.mem.fz b' hf).1; omega,h3.2,.inl (Nat.le_trans h.mem.grow.size h3.1)⟩
  ·have:=h.mem.off k L' b' hk' hb'
   exact ⟨this.1,vZK this.2.1 g.size,this.2.2⟩
 ·refine ⟨g.os.trans h.mem.grow.os,g.tape.trans h.mem.grow.tape,g.output.trans h.mem.grow.output,Nat.le_trans h.mem.grow.size g.size,fun k hk hW => ?_⟩;rw [g.block k (vZK hk h.mem.grow.size) fun e => ?_]
  ·exact h.mem.grow.block k hk hW
  ·rcases (hoff k e).2.2 with h1 | h1
   ·omega
   ·exact hW h1
theorem grown_grow {w w':World} (h:w.grownBy w' none):Grow w w':=⟨h.os,h.tape,h.output,h.size,fun k hk=>h.block k hk (by simp)⟩
theorem ok_append {args:Array Operand} {ats:Array TypeId} (hT:TabOk P C.T) (h:Rel' E C.n ρ F σ a w) (hd:dstB C.n d=true) (hvs:mapO (opv 0 σ) (#[] ++ args).toList=some vs) (he:zU C.T C.cA C.cB C.me (d.getD 0) (.call ⟨.builtin .append,args,ats⟩) vs=some e) (hn:∀ i ∈ e.nw,qJC σ.M i) :
  OK P E C σ a w e ⟨d,.call ⟨.builtin .append,args,ats⟩,ty,pos,af,g⟩:=by
 match vs with
 | []=>simp only [zU] at he; cases he
 | [_]=>simp only [zU] at he; cases he
 | _ :: _ :: _ :: _=>simp only [zU] at he; cases he
 | [x,y] =>
  obtain ⟨p,q,rfl,hp,hq⟩:=arr2 hvs;obtain ⟨vx,x1,x2,x3⟩:=jY h hp;obtain ⟨vy,y1,y2,y3⟩:=jY h hq;simp only [zU] at he;split at he
  case h_2=>cases he
  case h_1 t t' hats =>
  replace he:=qQ he
  obtain ⟨htt,he⟩:=he
  replace htt:=vQX htt
  subst htt;have hats':ats=#[t,t]:=by rw [← Array.toArray_toList (xs:=ats),hats]
  subst hats';simp only [vQQ] at he;obtain ⟨⟨el,sz⟩,hsl,nw,hnews,he⟩:=he;obtain ⟨hok,he⟩:=qQ he;have hok:=Rows.ok_L hok;obtain ⟨news,hN⟩:∃ news,nw.L=news:=⟨_,rfl⟩
  have hNl:nw.len=news.length:=by rw [← hN,Rows.len_L]
  rw [hN] at hok;obtain ⟨hslc,hs0,hsk,bytes,happ,hby,hbd,hbd2⟩:=hT.sl t el sz hsl;obtain ⟨ady,cy,rfl,hnn⟩:=news_at h hnews hN y2 y3 hok hs0;have run:∀ {v:Value} {w':World},(Builtin.append_ #[t,t] ty #[vx,.slice ady news.length cy]).run P w=.ok v w'→(execOp a.eval ⟨d,.call ⟨.builtin .append,#[p,q],#[t,t]⟩,ty,pos,af,g⟩).run P w=.ok (.value v) w':=fun {v w'} hr=>by
   simp [execOp,resolve,invoke,builtin,uU h x1,uU h y1,hr]
  have small:∀ m,m≤C.T.bd el→m * bytes≤140737488355328:=fun m hm=>Nat.le_trans (Nat.mul_le_mul_right bytes hm) hbd
  cases x with
  | nl =>
   simp only at he;obtain ⟨hlen,he⟩:=qQ he;cases he;have hlen:=vJZ hlen;rw [hNl] at hlen
   have:vx=.slice none 0 0:=x2
   subst this;have hid:=hn (d.getD 0) (by simp [Eff.new]);rcases hnn with rfl | ⟨b,off,vn,rfl,hal,hnl,hvl,hone,hcell⟩
   ·refine qQA (run (qXA happ (Nat.le_refl _) w)) ?_;exact qHA hN (ad:=none) (rows:=[]) (vr:=[]) (c:=0) h hd hid (Grow.refl w) (fun b hb=>by cases hb) hs0 Al.nil (fun r hr=>by cases hr) (fun v hv=>by cases hv) ⟨by simp,.inl ⟨rfl,rfl⟩⟩
   ·by_cases h0:news.length=0
    ·have:=List.eq_nil_of_length_eq_zero h0
     subst this;refine qQA (run (qXA happ (Nat.le_refl _) w)) ?_;exact qHA hN (ad:=none) (rows:=[]) (vr:=[]) (c:=0) h hd hid (Grow.refl w) (fun b hb=>by cases hb) hs0 Al.nil (fun r hr=>by cases hr) (fun v hv=>by cases hv) ⟨by simp,.inl ⟨rfl,rfl⟩⟩
    ·obtain ⟨gg,cap,w',hr,ho,hg,hgg⟩:=qXH (P:=P) (w:=w) (base:=0) (ty:=ty) happ (v:=.slice none 0 0) (k:=0) (ys:=[]) ⟨by simp,.inl ⟨rfl,rfl⟩⟩ (ad:=⟨b,off,none⟩) (m:=news.length) (c:=cy) (news:=vn.flatten) (by omega) (by rw [rows_len vn hvl,hal.1]) hcell
      (fun u hu=>by obtain ⟨r,hr,hur⟩:=List.mem_flatten.1 hu; exact hone r hr u hur) (by omega) (by rw [Nat.zero_add]; exact small _ hlen) (Nat.zero_le _)
     rw [Nat.zero_add] at hr ho;refine qQA (run hr) ?_;rcases hgg with hgg | hgg
     ·cases hgg
     ·refine qHA hN (rows:=news) (vr:=vn) (c:=cap) h hd hid (grown_grow hg) (fun b hb => ?_) hs0 hal hnl hone (by simpa using ho);simp only [Option.map_some,vQZ] at hb;subst hb;refine ⟨hgg,?_⟩;rcases ho.2 with ⟨hx,_⟩ | ⟨g2,cap2,cur,hsl2,_,hg2,_⟩
      ·cases hx
      ·simp only [Value.slice.injEq,vQZ,Addr.mk.injEq,and_true] at hsl2;rw [hsl2.1]; exact qZF hg2
  | v px =>
   cases px with
   | ze =>
    simp only at he;obtain ⟨hlen,he⟩:=qQ he;cases he;simp only [vQJ,decide_eq_true_eq] at hlen;obtain ⟨hlen,h00⟩:=hlen;rw [hNl] at hlen h00;obtain ⟨ad0,rfl⟩:∃ ad0,vx=.slice ad0 0 0:=by
     cases x2 with
     | ze ad0=>exact ⟨ad0,rfl⟩
    have hid:=hn (d.getD 0) (by simp [Eff.new]);rcases hnn with rfl | ⟨b,off,vn,rfl,hal,hnl,hvl,hone,hcell⟩
    ·exact absurd h00 (by simp)
    ·have hvn:vn.flatten.length=news.length * sz:=by rw [rows_len vn hvl,hal.1]
     have hone':∀ u ∈ vn.flatten,u.oneCell'=true:=fun u hu=>by obtain ⟨r,hr,hur⟩:=List.mem_flatten.1 hu; exact hone r hr u hur
     have hze:=run_append_ze (P:=P) (w:=w) (ty:=ty) happ ad0 (ad:=⟨b,off,none⟩) (m:=news.length) (c:=cy) (news:=vn.flatten) h00 hvn hcell hone' (by omega) (small _ hlen);obtain ⟨gg,cap,w',hr,ho,hg,hgg⟩:=qXH (P:=P) (w:=w) (base:=0) (ty:=ty) happ (v:=.slice none 0 0) (k:=0) (ys:=[]) ⟨by simp,.inl ⟨rfl,rfl⟩⟩ (ad:=⟨b,off,none⟩) (m:=news.length) (c:=cy) (news:=vn.flatten) (by omega) hvn hcell hone' (by omega) (by rw [Nat.zero_add]; exact small _ hlen) (Nat.zero_le _);rw [← hze] at hr;rw [Nat.zero_add] at hr ho;refine qQA (run hr) ?_;rcases hgg with hgg | hgg
     ·cases hgg
     ·refine qHA hN (rows:=news) (vr:=vn) (c:=cap) h hd hid (grown_grow hg) (fun b hb => ?_) hs0 hal hnl hone (by simpa using ho);simp only [Option.map_some,vQZ] at hb;subst hb;refine ⟨hgg,?_⟩;rcases ho.2 with ⟨hx,_⟩ | ⟨g2,cap2,cur,hsl2,_,hg2,_⟩
      ·cases hx
      ·simp only [Value.slice.injEq,vQZ,Addr.mk.injEq,and_true] at hsl2;rw [hsl2.1]; exact qZF hg2
   | _=>cases he
  | o id e' sz' rows =>
   simp only at he;obtain ⟨hb,he⟩:=qQ he;cases he;simp only [vQJ,decide_eq_true_eq] at hb;obtain ⟨⟨⟨hb1,hb2⟩,hlen⟩,_⟩:=hb;rw [hNl] at hlen;have hb1:=vQX hb1;have hb2:=vQX hb2;subst hb1; subst hb2;obtain ⟨ad,c,vr,hρ,rfl,h0,hral,hrl,hvrl,hrone,hown,hslc2⟩:=zWI h x3 x2;have hAL:(rows.app nw).L=rows.L ++ news:=by rw [Rows.app_L,hN]
   have hAl:(rows.app nw).len=(rows.L ++ news).length:=by rw [← Rows.len_L,hAL]
   have hRl:=rows.len_L;have finish:∀ {ad':Option Addr} {c':Nat} {vn:List (List Value)} {w':World},GrowB (fun k=>(Loc.reg ad c rows.len sz').bl=some k) w w'→(∀ b,ad'.map (·.block)=some b→ad.map (·.block)=some b ∨ (w.heap.size≤b∧b < w'.heap.size))→Al (Al (RP F w)) news vn→(∀ r ∈ news,r.length=sz')→(∀ v ∈ vn,∀ u ∈ v,u.oneCell'=true) →
     w'.ownsRow 0 e' sz' (.slice ad' (rows.L ++ news).length c') (rows.L ++ news).length (vr ++ vn).flatten→Rel E C.n (σ.apply (.app id (.reg e' sz' (rows.app nw)) (.o id)) d) (a.put d (.slice ad' (rows.L ++ news).length c')) w':=by
    intro ad' c' vn w' gB hb hnal hnl hnone how;have hF:∀ k,F k→F k∧w'.heap[k]? = w.heap[k]?:=fun k hk=>⟨hk,gB.block k (h.mem.fz k hk).1 fun e=>(h.mem.off id _ k hρ e).1 hk⟩
    refine ⟨updO ρ id (.reg ad' c' (rows.L ++ news).length sz'),F,h.app (L':=.reg ad' c' (rows.L ++ news).length sz') (ent:=.reg e' sz' (rows.app nw)) (x:=.o id) hρ ⟨_,_,_,_,rfl⟩ gB hb ⟨ad',c',vr ++ vn,by rw [hAl]; exact jU _ _ _,h0,by rw [hAL]; exact (hral.append hnal).imp fun _ _ _ h=>h.imp fun _ _ _ h=>h.mono hF,fun r hr => ?_,fun r hr => ?_,by rw [hAl]; exact how⟩ ⟨_,_,_,_,jU _ _ _,rfl⟩ hd⟩
    ·rw [hAL] at hr;rcases List.mem_append.1 hr with hr | hr
     ·exact hrl r hr
     ·exact hnl r hr
    ·rcases List.mem_append.1 hr with hr | hr
     ·exact hrone r hr
     ·exact hnone r hr
   have capk:rows.len≤c:=by
    rcases hown.2 with ⟨hx,h00⟩ | ⟨g2,cap2,cur,hsl2,_,_,hc,_⟩
    ·omega
    ·simp only [Value.slice.injEq] at hsl2;omega
   have empty:news=[]→OK P E C σ a w (.app id (.reg e' sz' (rows.app nw)) (.o id)) ⟨d,.call ⟨.builtin .append,#[p,q],#[t,t]⟩,ty,pos,af,g⟩:=by
    rintro rfl
    refine qQA (run (qXA happ capk w)) ?_
    have:=finish (ad':=ad) (c':=c) (vn:=[]) (GrowB.refl _ w) (fun b hb=>.inl hb) Al.nil (fun r hr=>by cases hr) (fun v hv=>by cases hv) (by simpa [hRl] using hown)
    simpa [hRl] using this
   rcases hnn with rfl | ⟨b,off,vn,rfl,hal,hnl,hvl,hone,hcell⟩
   ·exact empty rfl
   ·by_cases h00:news.length=0
    ·exact empty (List.eq_nil_of_length_eq_zero h00)
    ·obtain ⟨gg,cap,w',hr,ho,hg,hgg⟩:=qXH (P:=P) (w:=w) (base:=0) (ty:=ty) happ (v:=.slice ad rows.len c) (k:=rows.len) (ys:=vr.flatten) hown (ad:=⟨b,off,none⟩) (m:=news.length) (c:=cy) (news:=vn.flatten) (by omega) (by rw [rows_len vn hvl,hal.1]) hcell
      (fun u hu=>by obtain ⟨r,hr,hur⟩:=List.mem_flatten.1 hu; exact hone r hr u hur) (by omega) (small _ hlen) (Nat.zero_le _)
     refine qQA (run hr) ?_;have hob:(Value.slice ad rows.len c).ownBlock=ad.map (·.block):=by cases ad <;> rfl
     rw [hob] at hg hgg
     have:=finish (ad':=some ⟨gg,0,none⟩) (c':=cap) (vn:=vn) (w':=w') ⟨hg.os,hg.tape,hg.output,hg.size,fun k hk hne=>hg.block k hk fun e=>hne e.symm⟩ (fun b hb => ?_) hal hnl hone (by rw [List.flatten_append,List.length_append,hRl]; exact ho)
     ·rw [List.length_append,hRl] at this; exact this
     ·simp only [Option.map_some,vQZ] at hb;subst hb;rcases hgg with hgg | hgg
      ·exact .inl hgg
      ·refine .inr ⟨hgg,?_⟩;rcases ho.2 with ⟨hx,_⟩ | ⟨g2,cap2,cur,hsl2,_,hg2,_⟩
       ·cases hx
       ·simp only [Value.slice.injEq,vQZ,Addr.mk.injEq,and_true] at hsl2;rw [hsl2.1]; exact qZF hg2
  | mi id j e' ie isz rows pd =>
   cases pd with
   | some q=>simp only at he; cases he
   | none =>
   simp only at he;obtain ⟨hb,he⟩:=qQ he;simp only [vQQ] at he;obtain ⟨r,hr,he⟩:=he;obtain ⟨hlen0,he⟩:=qQ he;cases he;have hlen:=vJZ hlen0
   clear hlen0
   simp only [vQJ] at hb;obtain ⟨⟨hb1,hb2⟩,_⟩:=hb;rw [hNl] at hlen;have hb1:=vQX hb1;have hb2:=vQX hb2;subst hb1; subst hb2;obtain ⟨ad,c,k,sz',⟨hρ,rfl⟩,hlt,a0,c0,k0,s0,hρ0,hj⟩:=x2;obtain ⟨a1,c1,H,q1,q2,q3,q4,_,q6⟩:=h.mem.ent id _ x3;rw [hρ0] at q1;simp only [vQZ,Loc.reg.injEq] at q1;obtain ⟨_,_,rfl,_⟩:=q1;obtain ⟨r1,av,cv,vr,p1,p2,p3,hral,hrl,hrone,hown⟩:=q6 j hj;have er:r1=r:=by
    have p1':rows.at j=some r1:=p1;rw [hr] at p1'; exact (Option.some.inj p1').symm
   subst er;have hρ':=hρ;rw [p2] at hρ';simp only [vQZ,Loc.inn.injEq] at hρ';obtain ⟨rfl,rfl,rfl,rfl⟩:=hρ';have hvrl:=yKQ hral hrl;have hAL:(r1.app nw).L=r1.L ++ news:=by rw [Rows.app_L,hN]
   have hAl:(r1.app nw).len=(r1.L ++ news).length:=by rw [← Rows.len_L,hAL]
   have hRl:=r1.len_L;have finish:∀ {ad':Option Addr} {c':Nat} {vn:List (List Value)} {w':World},GrowB (fun k=>av.map (·.block)=some k) w w'→(∀ b,ad'.map (·.block)=some b→av.map (·.block)=some b ∨ (w.heap.size≤b∧b < w'.heap.size))→Al (Al (RP F w)) news vn→(∀ r ∈ news,r.length=isz)→(∀ v ∈ vn,∀ u ∈ v,u.oneCell'=true) →
     w'.ownsRow 0 ie isz (.slice ad' (r1.L ++ news).length c') (r1.L ++ news).length (vr ++ vn).flatten→Rel E C.n (σ.apply ⟨[(id,some (.nst e' ie isz rows (some (j,r1.app nw))))],[(mid id,none)],.mp id j,[]⟩ d) (a.put d (.slice ad' (r1.L ++ news).length c')) w':=by
    intro ad' c' vn w' gB hb hnal hnl hnone how
    have:=h.appN (id:=id) (j:=j) x3 hj hρ (r':=r1.app nw) (av':=ad') (cv':=c') (vr':=vr ++ vn) gB hb (by rw [hAL]; exact hral.append hnal) (fun x hx => ?_) (fun x hx => ?_) (by rw [hAl]; exact how) hd
    ·rw [hAl] at this; exact ⟨_,_,this⟩
    ·rw [hAL] at hx;rcases List.mem_append.1 hx with hx | hx
     ·exact hrl x hx
     ·exact hnl x hx
    ·rcases List.mem_append.1 hx with hx | hx
     ·exact hrone x hx
     ·exact hnone x hx
   have capk:r1.len≤cv:=by
    rcases hown.2 with ⟨hx,h00⟩ | ⟨g2,cap2,cur,hsl2,_,_,hc,_⟩
    ·omega
    ·simp only [Value.slice.injEq] at hsl2;omega
   have empty:news=[]→OK P E C σ a w ⟨[(id,some (.nst e' ie isz rows (some (j,r1.app nw))))],[(mid id,none)],.mp id j,[]⟩ ⟨d,.call ⟨.builtin .append,#[p,q],#[t,t]⟩,ty,pos,af,g⟩:=by
    rintro rfl
    refine qQA (run (qXA happ capk w)) ?_
    have:=finish (ad':=av) (c':=cv) (vn:=[]) (GrowB.refl _ w) (fun b hb=>.inl hb) Al.nil (fun r hr=>by cases hr) (fun v hv=>by cases hv) (by simpa [hRl] using hown)
    simpa [hRl] using this
   rcases hnn with rfl | ⟨b,off,vn,rfl,hal,hnl,hvl,hone,hcell⟩
   ·exact empty rfl
   ·by_cases h00:news.length=0
    ·exact empty (List.eq_nil_of_length_eq_zero h00)
    ·obtain ⟨gg,cap,w',hr,ho,hg,hgg⟩:=qXH (P:=P) (w:=w) (base:=0) (ty:=ty) happ (v:=.slice av r1.len cv) (k:=r1.len) (ys:=vr.flatten) hown (ad:=⟨b,off,none⟩) (m:=news.length) (c:=cy) (news:=vn.flatten) (by omega) (by rw [rows_len vn hvl,hal.1]) hcell
      (fun u hu=>by obtain ⟨r,hr,hur⟩:=List.mem_flatten.1 hu; exact hone r hr u hur) (by omega) (small _ hlen) (Nat.zero_le _)
     refine qQA (run hr) ?_;have hob:(Value.slice av r1.len cv).ownBlock=av.map (·.block):=by cases av <;> rfl
     rw [hob] at hg hgg
     have:=finish (ad':=some ⟨gg,0,none⟩) (c':=cap) (vn:=vn) (w':=w') ⟨hg.os,hg.tape,hg.output,hg.size,fun k hk hne=>hg.block k hk fun e=>hne e.symm⟩ (fun b hb => ?_) hal hnl hone (by rw [List.flatten_append,List.length_append,hRl]; exact ho)
     ·rw [List.length_append,hRl] at this; exact this
     ·simp only [Option.map_some,vQZ] at hb;subst hb;rcases hgg with hgg | hgg
      ·exact .inl hgg
      ·refine .inr ⟨hgg,?_⟩;rcases ho.2 with ⟨hx,_⟩ | ⟨g2,cap2,cur,hsl2,_,hg2,_⟩
       ·cases hx
       ·simp only [Value.slice.injEq,vQZ,Addr.mk.injEq,and_true] at hsl2;rw [hsl2.1]; exact qZF hg2
  | _=>simp only at he; cases he
end
end Go.Rx
namespace Go.Rx
open Go.RowKit Go.Sx
section
variable {P:Program} {E:Env} {C:Cx} {ρ:Own} {F:Nat→Prop} {σ:St} {a:Act} {w:World} {vs:List RV} {e:Eff}
variable {d:Option Tmp} {ty:TypeId} {pos:String} {af:Array Edge} {g:Option (Nat × Bool)}
theorem zZX {e:Eff} {rs:Regs} {id:Nat} {ent:Ent} {dst:Option Nat} (hup:e.up=[(id,some ent)]) (hsb:e.sb=[]) (hid:id ∉ rs.map (·.1)):Eqv ((σ.apply (.frz rs .un) none).apply e dst) (σ.apply (e.and rs) dst):=by
 have e1:(Eff.frz rs .un).up=rs.map fun r=>(r.1,none):=by cases rs <;> rfl
 have e2:(Eff.frz rs .un).sb=rs.map fun r=>(r.1,some r.2):=by cases rs <;> rfl
 have e3:(e.and rs).up=e.up ++ rs.map fun r=>(r.1,none):=by cases rs <;> simp [Eff.and]
 have e4:(e.and rs).sb=rs.map fun r=>(r.1,some r.2):=by cases rs <;> simp [Eff.and,hsb]
 have e5:(e.and rs).x=e.x:=by cases rs <;> rfl
 have ap:∀ (l l':List (Nat × Option Ent)) i,yG (l ++ l') i=match yG l' i with | some y=>some y | none=>yG l i:=by
  intro l l' i;induction l with
  | nil=>simp only [List.nil_append]; cases yG l' i <;> rfl
  | cons x l ih =>
   simp only [List.cons_append,yG,ih];cases yG l' i <;> rfl
 refine ⟨fun t => ?_,fun i => ?_⟩
 ·rw [qYY,qYY,qYY,e4,e5,e2,hsb];by_cases h:dst=some t
  ·rw [if_pos h,if_pos h]
  ·rw [if_neg h,if_neg h,if_neg (by simp)];cases qQY σ.S t <;> simp [HV.sub_nil]
 ·rw [qQF,qQF,qQF,e1,e2,e3,e4,hsb,ap,hup,kW];by_cases hm:i ∈ rs.map (·.1)
  ·have hne:¬ id=i:=fun e=>hid (e ▸ hm)
   cases hu:yG (rs.map fun r=>(r.1,(none:Option Ent))) i with
   | none=>exact absurd hm (up_none_iff.1 hu)
   | some x=>obtain ⟨rfl,_⟩:=yZA hu; simp [hne]
  ·rw [up_none_iff.2 hm];by_cases hi:id=i
   ·simp [hi]
   ·simp only [if_neg hi];cases zG σ.M i <;> simp [Ent.sub_nil]
theorem put_none (a:Act) (v:Value):a.put none v=a:=rfl
theorem Rel'.froze (h:Rel' E C.n ρ F σ a w) (rs:Regs) (hrs:∀ r ∈ rs,∃ e sz,zG σ.M r.1=some (.reg e sz r.2)):Rel' E C.n (frzρ rs ρ) (frzF rs ρ F) (σ.apply (.frz rs .un) none) a w:=by
 have:=h.frz rs hrs (x:=.un) (v:=undef) (dst:=none) rfl trivial
 rwa [put_none] at this
theorem zXE {rs:Regs} {id:Nat} (h:id ∉ rs.map (·.1)):frzρ rs ρ id=ρ id:=by simp only [frzρ,if_neg h]
theorem frz_look {rs:Regs} {id e' sz:Nat} {rows:Rows} (h:id ∉ rs.map (·.1)) (hl:zG σ.M id=some (.reg e' sz rows)):zG (σ.apply (.frz rs .un) none).M id=some (.reg e' sz rows):=by
 have e1:(Eff.frz rs .un).up=rs.map fun r=>(r.1,none):=by cases rs <;> rfl
 rw [qQF,e1,up_none_iff.2 h,hl]; rfl
theorem frz_look_none {rs:Regs} {id:Nat} (h:qJC σ.M id) (hrs:∀ r ∈ rs,∃ e sz,zG σ.M r.1=some (.reg e sz r.2)):qJC (σ.apply (.frz rs .un) none).M id∧id ∉ rs.map (·.1):=by
 have hn:id ∉ rs.map (·.1):=fun hm=>by
  obtain ⟨r,hr,rfl⟩:=List.mem_map.1 hm;obtain ⟨e',sz,hl⟩:=hrs r hr;rw [h.1] at hl; cases hl
 have e1:(Eff.frz rs .un).up=rs.map fun r=>(r.1,none):=by cases rs <;> rfl
 exact ⟨⟨by rw [qQF,e1,up_none_iff.2 hn,h.1]; rfl,h.2⟩,hn⟩
theorem zZL (h:Rel' E C.n ρ F σ a w) (rs:Regs) {r:RV} {c:List PV × Regs} {v:Value} (hc:r.pcells=some c) (hr:RH ρ F w r.back v) (hres:RRes σ.M r) (hin:∀ x ∈ c.2,x ∈ rs) :
  Al (RP (frzF rs ρ F) w) c.1 v.cells.toList∧(∀ u ∈ v.cells.toList,u.oneCell'=true)∧∀ x ∈ c.2,∃ e sz,zG σ.M x.1=some (.reg e sz x.2):=by
 have hF:∀ k,F k→frzF rs ρ F k∧w.heap[k]? = w.heap[k]?:=fun k hk=>⟨.inl hk,rfl⟩
 cases r with
 | v p =>
  cases p with
  | t cs=>cases hc
  | a cs =>
   cases hc;obtain ⟨us,rfl,hal,h1⟩:=qHG hr;exact ⟨show Al _ cs us from hal.imp fun _ _ _ h=>h.mono hF,fun u hu=>h1 u hu,fun x hx=>by cases hx⟩
  | lf n f =>
   cases hc;have hm:=RP.mono hF hr;have hr2:=yQX hr;generalize (List.range n).map f=rows at hr2;cases hr2 <;> exact ⟨Al.cons hm Al.nil,fun u hu=>by simp [Value.cells] at hu; subst hu; rfl,fun x hx=>by cases hx⟩
  | zf n f j o =>
   cases hc;have hm:=RP.mono hF hr;obtain ⟨_,b,off,sz,g,rfl,_⟩:=yYQ hr;exact ⟨Al.cons hm Al.nil,fun u hu=>by simp [Value.cells] at hu; subst hu; rfl,fun x hx=>by cases hx⟩
  | _ =>
   cases hc;have hr2:RP F w _ v:=hr;have hm:=hr2.mono hF;cases hr2 <;> exact ⟨Al.cons hm Al.nil,fun u hu=>by simp [Value.cells] at hu; subst hu; rfl,fun x hx=>by cases hx⟩
 | nl =>
  cases hc
  have:v=.slice none 0 0:=hr
  subst this;exact ⟨Al.cons (.l0 _ _) Al.nil,fun u hu=>by simp [Value.cells] at hu; subst hu; rfl,fun x hx=>by cases hx⟩
 | o id e' sz rows =>
  cases hc;have hr2:=hr;obtain ⟨ad,c',k,sz',hρ,rfl⟩:=hr2
  have:=(uW (h.mem.ent id _ hres) (F':=frzF rs ρ F) (fun k hk=>.inl hk) (fun L b hL hb=>.inr ⟨id,L,List.mem_map.2 ⟨(id,rows),hin _ (by simp),rfl⟩,hL,hb⟩) ad c' k sz' hρ).1
  exact ⟨Al.cons this Al.nil,fun u hu=>by simp [Value.cells] at hu; subst hu; rfl,fun x hx=>by simp at hx; subst hx; exact ⟨e',sz,hres⟩⟩
 | _=>cases hc
theorem zUA (h:Rel' E C.n ρ F σ a w) (rs:Regs):∀ {vs:List RV} {us:List Value} {r:List (List PV) × Regs},yQA vs=some r→Al (fun r v=>RH ρ F w r.back v) vs us→(∀ x ∈ vs,RRes σ.M x)→(∀ x ∈ r.2,x ∈ rs) →
  Al (fun ps (v:Value)=>Al (RP (frzF rs ρ F) w) ps v.cells.toList∧∀ u ∈ v.cells.toList,u.oneCell'=true) r.1 us∧∀ x ∈ r.2,∃ e sz,zG σ.M x.1=some (.reg e sz x.2)
 | [],us,r,hp,hal,_,_=>by cases hp; rw [hal.nil_left]; exact ⟨Al.nil,fun x hx=>by cases hx⟩
 | x :: xs,us,r,hp,hal,hres,hin=>by
  simp only [yQA,vQQ,vQZ] at hp;obtain ⟨c,hc,r',hr',rfl⟩:=hp;obtain ⟨u,us',rfl,hu,hal'⟩:=hal.cons_left;have hcat:∀ y,y ∈ (match c.2 with | []=>r'.2 | q=>q ++ r'.2) ↔ y ∈ c.2 ∨ y ∈ r'.2:=fun y=>by cases hc2:c.2 <;> simp [or_assoc]
  obtain ⟨p1,p2,p3⟩:=zZL h rs hc hu (hres x vZQ) (fun y hy=>hin y ((hcat y).2 (.inl hy)));obtain ⟨q1,q2⟩:=zUA h rs hr' hal' (fun y hy=>hres y (vQH _ hy)) (fun y hy=>hin y ((hcat y).2 (.inr hy)));exact ⟨Al.cons ⟨p1,p2⟩ q1,fun y hy=>by rcases (hcat y).1 hy with h | h; exact p3 y h; exact q2 y h⟩
theorem spliceV_of {cs vs:List Value} {off:Nat} (h:off + vs.length≤cs.length):qZD cs off vs=some (cs.take off ++ vs ++ cs.drop (off + vs.length)):=by
 induction cs generalizing off vs with
 | nil =>
  simp at h;obtain ⟨rfl,rfl⟩:=h;rfl
 | cons c cs ih =>
  cases off with
  | zero =>
   cases vs with
   | nil=>simp [qZD]
   | cons v vs=>simp at h; simp [qZD,ih (off:=0) (vs:=vs) (by omega),qVW]
  | succ off=>simp at h; simp [qZD,ih (off:=off) (vs:=vs) (by omega),qVW,show off + 1 + vs.length=off + vs.length + 1 by omega]
variable {α:Type} {R:α→Value→Prop}
theorem zHV {pl:List (Nat × Nat)}:∀ {cells:List α} {is:List Nat} {ps:List (List α)} {cs:List α} {zs us:List Value},yWH pl cells is ps=some cs→Al (fun p v=>R p v∧v.oneCell'=true) cells zs→Al (fun ps (v:Value)=>Al R ps v.cells.toList∧∀ u ∈ v.cells.toList,u.oneCell'=true) ps us →
  ∃ ws,zQB pl zs (is.zip us)=some ws∧Al (fun p v=>R p v∧v.oneCell'=true) cs ws
 | cells,[],[],cs,zs,us,hf,hz,hu=>by cases hf; rw [hu.nil_left]; exact ⟨zs,rfl,hz⟩
 | cells,i :: is,p :: ps,cs,zs,us,hf,hz,hu=>by
  obtain ⟨u,us',rfl,⟨hu1,hu2⟩,hu'⟩:=hu.cons_left;simp only [yWH,vQQ] at hf;obtain ⟨x,hx,hf⟩:=hf;obtain ⟨hb,hf⟩:=qQ hf;simp only [vQQ] at hf;obtain ⟨cs',hcs,hf⟩:=hf;obtain ⟨e1,e2⟩:=qWI hcs;have hlen:u.cells.toList.length=p.length:=hu1.1.symm;have hz2:Al (fun p v=>R p v∧v.oneCell'=true) cs' (zs.take x.1 ++ u.cells.toList ++ zs.drop (x.1 + u.cells.toList.length)):=by
   rw [e1,hlen];refine ((hz.take _).append ?_).append (hz.drop _);exact ⟨hu1.1,fun j q v hq hv=>⟨hu1.2 j q v hq hv,hu2 v (vQG hv)⟩⟩
  obtain ⟨ws,h1,h2⟩:=zHV hf hz2 hu';refine ⟨ws,?_,h2⟩;obtain ⟨off,size⟩:=x;simp only [List.zip_cons_cons,zQB,hx];have hbe:Nat.beq u.cells.size size=true:=by
   have:u.cells.size=p.length:=by rw [← hlen]; simp
   rw [this]; exact hb
  rw [hbe,vYV,spliceV_of (by rw [hlen,← hz.1]; exact e2)];exact h1
 | _,[],_ :: _,_,_,_,hf,_,_=>by cases hf
 | _,_ :: _,[],_,_,_,hf,_,_=>by cases hf
theorem zHA {S:yU}:∀ {ps:List (Nat × Operand)} {us:List Value},evs S (ps.map (·.2))=some us→evp S ps=some ((ps.map (·.1)).zip us)
 | [],us,h=>by cases h; rfl
 | (i,x) :: ps,us,h=>by
  simp only [List.map_cons,evs] at h;cases hx:ev S x with
  | none=>rw [hx] at h; cases h
  | some v =>
   rw [hx] at h;obtain ⟨l,hl,rfl⟩:=uG h;simp [evp,hx,zHA hl,qVW]
theorem rhc_toC {p:PV} {v:Value} (h:RP F w p v):RHc ρ F w p.toC v:=by
 cases p with
 | zs=>cases h; rfl
 | _=>exact h
theorem ccells_rel {r:RV} {c:List HC} {v:Value} (hc:r.ccells=some c) (hr:RH ρ F w r.back v):Al (RHc ρ F w) c v.cells.toList∧∀ u ∈ v.cells.toList,u.oneCell'=true:=by
 cases r with
 | v p =>
  cases p with
  | t cs=>cases hc
  | a cs =>
   cases hc;obtain ⟨us,rfl,hal,h1⟩:=qHG hr;exact ⟨Al.map_left (show Al (fun z y=>RHc ρ F w (PV.toC z) y) cs us from hal.imp fun _ _ _ h=>rhc_toC h),fun u hu=>h1 u hu⟩
  | lf n f =>
   cases hc;have hm:RP F w (.lf n f) v:=hr;have hr2:=yQX hr;generalize (List.range n).map f=rows at hr2;cases hr2 <;> exact ⟨Al.cons hm Al.nil,fun u hu=>by simp [Value.cells] at hu; subst hu; rfl⟩
  | zf n f j o =>
   cases hc;have hm:RP F w (.zf n f j o) v:=hr;obtain ⟨_,b,off,sz,g,rfl,_⟩:=yYQ hr;exact ⟨Al.cons hm Al.nil,fun u hu=>by simp [Value.cells] at hu; subst hu; rfl⟩
  | zs =>
   cases hc;have hr2:RP F w .zs v:=hr;cases hr2;exact ⟨Al.cons (rfl:RHc ρ F w .nl _) Al.nil,fun u hu=>by simp [Value.cells] at hu; subst hu; rfl⟩
  | _ =>
   cases hc;have hr2:RP F w _ v:=hr;have hm:=hr2;cases hr2 <;> exact ⟨Al.cons hm Al.nil,fun u hu=>by simp [Value.cells] at hu; subst hu; rfl⟩
 | nl =>
  cases hc
  have:v=.slice none 0 0:=hr
  subst this;exact ⟨Al.cons (rfl:RHc ρ F w .nl _) Al.nil,fun u hu=>by simp [Value.cells] at hu; subst hu; rfl⟩
 | o id e' sz rows =>
  cases hc;have hr2:=hr;obtain ⟨ad,c',k,sz',hρ,rfl⟩:=hr2;exact ⟨Al.cons (⟨ad,c',k,sz',hρ,rfl⟩:RHc ρ F w (.o id) _) Al.nil,fun u hu=>by simp [Value.cells] at hu; subst hu; rfl⟩
 | w x =>
  cases x with
  | ag cs =>
   cases hc;obtain ⟨us,rfl,hal,h1⟩:=hr;exact ⟨hal,h1⟩
  | _=>cases hc
 | _=>cases hc
theorem cparts_rel:∀ {vs:List RV} {us:List Value} {r:List (List HC)},mapO RV.ccells vs=some r→Al (fun r v=>RH ρ F w r.back v) vs us →
  Al (fun ps (v:Value)=>Al (RHc ρ F w) ps v.cells.toList∧∀ u ∈ v.cells.toList,u.oneCell'=true) r us
 | [],us,r,hp,hal=>by cases hp; rw [hal.nil_left]; exact Al.nil
 | x :: xs,us,r,hp,hal=>by
  simp only [mapO,vQQ,vQZ] at hp;obtain ⟨c,hc,r',hr',rfl⟩:=hp;obtain ⟨u,us',rfl,hu,hal'⟩:=hal.cons_left;exact Al.cons (ccells_rel hc hu) (cparts_rel hr' hal')
theorem ok_build {t:TypeId} {ps:Array (Nat × Operand)} (hT:TabOk P C.T) (h:Rel' E C.n ρ F σ a w) (hd:dstB C.n d=true) (hvs:mapO (opv 0 σ) ((ps.toList.map (·.2)).toArray).toList=some vs) (he:zU C.T C.cA C.cB C.me (d.getD 0) (.build t ps) vs=some e):OK P E C σ a w e ⟨d,.build t ps,ty,pos,af,g⟩:=by
 rw [show ((ps.toList.map (·.2)).toArray).toList=ps.toList.map (·.2) from rfl] at hvs;obtain ⟨us,u1,u2,u3⟩:=zKZ h hvs;simp only [zU,vQQ,vQZ] at he;obtain ⟨zs,hzs,pl,hpl,he⟩:=he;obtain ⟨z,hly,hzal⟩:=hT.ly t pl hpl;cases hag:(C.T.agf C.me && vs.any RV.isO) with
 | true =>
  rw [hag,vYV] at he;simp only [vQQ,vQZ] at he;obtain ⟨r,hr,cs,hcs,rfl⟩:=he;obtain ⟨ws,f1,f2⟩:=zHV (R:=RHc ρ F w) hcs (Al.map_left ((hzal zs hzs).imp fun _ _ _ h=>⟨rhc_toC (h.1 F w),h.2⟩)) (cparts_rel hr u2);have hop:OpV P ⟨w,[]⟩ (actS a) [] ⟨d,.build t ps,ty,pos,af,g⟩ (.agg ws.toArray):=by
   have:=qJV (P:=P) (w0:=⟨w,[]⟩) (H:=[]) (d:=d) (ty:=ty) (pos:=pos) (af:=af) (g:=g) hly (zHA u1) f1
   simpa using this
  refine yW h hop ?_ hd;exact ⟨ws,rfl,f2.imp fun _ _ _ h=>h.1,fun v hv=>by
   obtain ⟨i,hi⟩:=List.mem_iff_getElem?.1 hv;have hil:=(List.getElem?_eq_some_iff.1 hi).1;have hl:i < cs.length:=by rw [f2.1]; exact hil
   exact (f2.2 i _ v (vQK hl) hi).2⟩
 | false =>
 rw [hag,vYG] at he;simp only [vQQ,vQZ] at he;obtain ⟨r,hr,cs,hcs,rfl⟩:=he;obtain ⟨p1,p2⟩:=zUA h r.2 hr u2 u3 (fun x hx=>hx);obtain ⟨ws,f1,f2⟩:=zHV (R:=RP (frzF r.2 ρ F) w) hcs ((hzal zs hzs).imp fun _ _ _ h=>⟨h.1 _ _,h.2⟩) p1;have hop:OpV P ⟨w,[]⟩ (actS a) [] ⟨d,.build t ps,ty,pos,af,g⟩ (.agg ws.toArray):=by
  have:=qJV (P:=P) (w0:=⟨w,[]⟩) (H:=[]) (d:=d) (ty:=ty) (pos:=pos) (af:=af) (g:=g) hly (zHA u1) f1
  simpa using this
 refine sim_frz r.2 h p2 hop ?_ hd;exact RP.a cs ws f2.1 (fun v hv=>by
  obtain ⟨i,hi⟩:=List.mem_iff_getElem?.1 hv;have hil:=(List.getElem?_eq_some_iff.1 hi).1;have hl:i < cs.length:=by rw [f2.1]; exact hil
  exact (f2.2 i _ v (vQK hl) hi).2) (fun i p v hp hv=>(f2.2 i p v hp hv).1)
end
end Go.Rx
namespace Go.Rx
open Go.RowKit Go.Sx
section
variable {P:Program} {E:Env} {C:Cx} {ρ:Own} {F:Nat→Prop} {σ:St} {a:Act} {w:World} {vs:List RV} {e:Eff}
variable {d:Option Tmp} {ty:TypeId} {pos:String} {af:Array Edge} {g:Option (Nat × Bool)}
theorem rowZ_flat (zs:List Value):∀ len,rowZ zs len=(List.replicate len zs).flatten
 | 0=>rfl
 | k + 1=>by simp [rowZ,rowZ_flat zs k,List.replicate_succ]
theorem rowPl_get {len sz i:Nat} (h:i < len):(yQW len sz)[i]? = some (i * sz,sz):=by
 simp [yQW,h]
theorem fillR_rel {R:PV→Value→Prop} {sz len:Nat}:∀ {is:List Nat} {ps rows rows':List (List PV)} {vr:List (List Value)} {us:List Value},yHZ sz rows is ps=some rows'→rows.length=len→(∀ r ∈ rows,r.length=sz)→Al (Al (fun p v=>R p v∧v.oneCell'=true)) rows vr →
  Al (fun ps (v:Value)=>Al R ps v.cells.toList∧∀ u ∈ v.cells.toList,u.oneCell'=true) ps us →
  ∃ vr',zQB (yQW len sz) vr.flatten (is.zip us)=some vr'.flatten∧Al (Al (fun p v=>R p v∧v.oneCell'=true)) rows' vr'∧(∀ r ∈ rows',r.length=sz)∧rows'.length=len
 | [],[],rows,rows',vr,us,hf,hl,hr,hal,hu=>by cases hf; rw [hu.nil_left]; exact ⟨vr,rfl,hal,hr,hl⟩
 | i :: is,p :: ps,rows,rows',vr,us,hf,hl,hr,hal,hu=>by
  obtain ⟨u,us',rfl,⟨hu1,hu2⟩,hu'⟩:=hu.cons_left;simp only [yHZ] at hf;obtain ⟨hb,hf⟩:=qQ hf;rw [vQJ] at hb;have hi:i < rows.length:=by simpa using hb.1
  have hp:=vQX hb.2;have hvl:∀ r ∈ vr,r.length=sz:=fun r hrv=>by
   obtain ⟨k,hk⟩:=List.mem_iff_getElem?.1 hrv;have hkl:=(List.getElem?_eq_some_iff.1 hk).1;have hlt:k < rows.length:=by rw [hal.1]; exact hkl
   have:=hal.2 k _ r (vQK hlt) hk
   rw [← this.1]; exact hr _ (List.getElem_mem hlt)
  have hul:u.cells.toList.length=sz:=by rw [← hu1.1]; exact hp
  have hiv:i < vr.length:=by rw [← hal.1]; exact hi
  have hrow:Al (fun p v=>R p v∧v.oneCell'=true) p u.cells.toList:=⟨hu1.1,fun j q v hq hv=>⟨hu1.2 j q v hq hv,hu2 v (vQG hv)⟩⟩
  obtain ⟨vr',h1,h2,h3,h4⟩:=fillR_rel (len:=len) hf (by simpa using hl) (fun r hrr=>by
   rcases List.mem_or_eq_of_mem_set hrr with h | h
   ·exact hr r h
   ·rw [h]; exact hp) (hal.set hrow i) hu'
  refine ⟨vr',?_,h2,h3,h4⟩;simp only [List.zip_cons_cons,zQB,rowPl_get (show i < len by omega)];have hbe:Nat.beq u.cells.size sz=true:=by
   have:u.cells.size=sz:=by rw [← hul]; simp
   rw [this]; exact Nat.beq_refl _
  have hfl:=rows_len vr hvl;have hle:i * sz + sz≤vr.length * sz:=by
   have:=Nat.mul_le_mul_right sz (show i + 1≤vr.length from hiv)
   rw [Nat.add_mul] at this; omega
  rw [hbe,vYV,spliceV_of (by rw [hul,hfl]; exact hle),hul,← zJI vr i u.cells.toList hvl hiv hul];exact h1
 | [],_ :: _,_,_,_,_,hf,_,_,_,_=>by cases hf
 | _ :: _,[],_,_,_,_,hf,_,_,_,_=>by cases hf
theorem yWZ {α β:Type} {R:α→β→Prop} {xs:List α} {ys:List β} (h:Al R xs ys) {y:β} (hy:y ∈ ys):∃ x ∈ xs,R x y:=by
 obtain ⟨k,hk⟩:=List.mem_iff_getElem?.1 hy;have hkl:=(List.getElem?_eq_some_iff.1 hk).1;have hlt:k < xs.length:=by rw [h.1]; exact hkl
 exact ⟨_,List.getElem_mem hlt,h.2 k _ y (vQK hlt) hk⟩
theorem run_bslice0 {P:Program} {t e size len:Nat} {z:Value} {parts:List (Nat × Value)} {cs:List Value} (hs:slcB P t e size=true) (hz:qYV P e z) (hzs:Nat.beq z.cells.size size=true) (h0:Nat.blt 0 size=true) (hl:Nat.ble (len * size) 16777216=true)
  (hf:zQB (yQW len size) (rowZ z.cells.toList len) parts=some cs) (w:World) :
  (Instr.buildSlice t len parts.toArray).run P w=.ok (.slice (some ⟨w.heap.size,0,none⟩) len len) (w.alloc (.cells cs.toArray e)):=by
 cases len with
 | succ len=>exact run_bslice hs hz hzs h0 hl (by simp) hf w
 | zero =>
  cases parts with
  | cons p ps=>obtain ⟨i,v⟩:=p; simp [zQB,yQW] at hf
  | nil =>
   simp [zQB,rowZ] at hf;subst hf;unfold slcB at hs;cases hu:P.underlying t with
   | none=>simp [hu] at hs
   | some ds =>
    cases ds <;> simp [hu] at hs
    rename_i e';obtain ⟨rfl,h2⟩:=hs;cases hi:P.info? e' with
    | none=>simp [hi] at h2
    | some inf =>
     simp [hi] at h2;have hsz:(sizeOf e').run P w=.ok size w:=by simp [sizeOf,typeInfo,hi,h2]
     simp only [Instr.buildSlice,Sem.run_bind,run_underlying hu,Result.andThen_ok,hsz,Sem.run_ite];rw [if_neg (by omega)];simp [Instr.fill,newRow];congr;exact Array.eq_empty_of_size_eq_zero (by simp)
theorem ok_bslice {t:TypeId} {len:Nat} {ps:Array (Nat × Operand)} (hT:TabOk P C.T) (h:Rel' E C.n ρ F σ a w) (hd:dstB C.n d=true) (hvs:mapO (opv 0 σ) ((ps.toList.map (·.2)).toArray).toList=some vs) (he:zU C.T C.cA C.cB C.me (d.getD 0) (.buildSlice t len ps) vs=some e) (hn:∀ i ∈ e.nw,qJC σ.M i) :
  OK P E C σ a w e ⟨d,.buildSlice t len ps,ty,pos,af,g⟩:=by
 rw [show ((ps.toList.map (·.2)).toArray).toList=ps.toList.map (·.2) from rfl] at hvs;obtain ⟨us,u1,u2,u3⟩:=zKZ h hvs;simp only [zU,vQQ] at he;obtain ⟨⟨el,sz⟩,hsl,zs,hzs,r,hr,he⟩:=he;obtain ⟨hb,he⟩:=qQ he;simp only [vQQ,vQZ] at he;obtain ⟨rows,hrows,rfl⟩:=he;obtain ⟨hslc,hs0,hsk,bytes,happ,hby,_⟩:=hT.sl t el sz hsl;obtain ⟨z,hz,hzal⟩:=hT.zr el zs hzs;obtain ⟨_,i0,z',hi0,hz',hisz,_,hzc,hzl,_⟩:=qHL happ hz;have hzlen:z.cells.toList.length=sz:=hzl;have hzs2:zs.length=sz:=by rw [hzal.1]; exact hzlen
 obtain ⟨p1,p2⟩:=zUA h r.2 hr u2 u3 (fun x hx=>hx);have hnw:=hn (d.getD 0) (by cases hr2:r.2 <;> simp [Eff.and,Eff.new,hr2]);have hrepl:(qJF zs len).length=len:=by rw [(Al.repl (R:=fun _ _=>True) (y:=()) trivial len).1]; simp
 have hmr:∀ r ∈ qJF zs len,r.length=sz:=fun r hr=>by
  have:∀ k,r ∈ qJF zs k→r=zs:=fun k=>by
   induction k with
   | zero=>intro h; cases h
   | succ k ih=>intro h; rcases List.mem_cons.1 h with h | h; exact h; exact ih h
  rw [this _ hr]; exact hzs2
 obtain ⟨vr,f1,f2,f3,f4⟩:=fillR_rel (R:=RP (frzF r.2 ρ F) w) (len:=len) hrows hrepl hmr (Al.repl (hzal.imp fun _ _ _ h=>⟨h.1 _ _,h.2⟩) len) p1;rw [← rowZ_flat] at f1;have hzsz:z.cells.size=sz:=by rw [← hzlen]; simp
 have hrun:=run_bslice0 (P:=P) hslc hz (by rw [hzsz]; exact Nat.beq_refl _) (by simpa using hs0) hb f1 w;have hvl:∀ x ∈ vr,x.length=sz:=fun x hx=>by obtain ⟨y,hy,hal⟩:=yWZ f2 hx; rw [← hal.1]; exact f3 y hy
 have hx:(execOp a.eval ⟨d,.buildSlice t len ps,ty,pos,af,g⟩).run P w=.ok (.value (.slice (some ⟨w.heap.size,0,none⟩) len len)) (w.alloc (.cells vr.flatten.toArray el)):=by
  have hev:ps.map (fun (x:Nat × Operand)=>(x.1,a.eval x.2))=((ps.toList.map (·.1)).zip us).toArray:=by
   obtain ⟨e1,_⟩:=evp_spec (zHA u1);rw [← e1];have hk:=qVL u1;rw [← Array.toArray_toList (xs:=ps.map _),Array.toList_map]
   congr 1
   refine List.map_congr_left fun x hx => ?_
   have:=hk.2 x.2 (List.mem_map.2 ⟨x,hx,rfl⟩)
   obtain ⟨v,hv⟩:=Option.isSome_iff_exists.1 this;rw [uU h hv,zV hv]
  simp only [execOp,hev,Sem.run_bind,hrun];rfl
 refine qQA hx ?_;have h1:=h.froze r.2 p2;obtain ⟨hl1,hl2⟩:=frz_look_none hnw p2;have hNw:(bif C.T.bf C.me then (Rows.l rows).toF zs else Rows.l rows).L=rows:=by
  cases C.T.bf C.me with
  | true=>exact Rows.toF_L zs (Rows.l rows)
  | false=>rfl
 have:=qHA (nw:=bif C.T.bf C.me then (Rows.l rows).toF zs else Rows.l rows) (rows:=rows) (hN:=hNw) (C:=C) (id:=d.getD 0) (e':=el) (sz:=sz) (c:=len) (ad:=some ⟨w.heap.size,0,none⟩) (vr:=vr) h1 hd hl1 ((Grow.refl w).alloc (.cells vr.flatten.toArray el)) (fun b hb => ?_) hs0 (f2.imp fun _ _ _ h=>h.imp fun _ _ _ h=>h.1) f3 (fun v hv u hu => ?_)
  ⟨by rw [rows_len vr hvl,f2.1],.inr ⟨w.heap.size,len,vr.flatten.toArray,by rw [f4],Nat.zero_le _,?_,?_,?_,?_,?_⟩⟩
 ·rw [f4] at this;exact this.eqv (zZX (ent:=.reg el sz (bif C.T.bf C.me then (Rows.l rows).toF zs else Rows.l rows)) rfl rfl hl2)
 ·simp only [Option.map_some,vQZ] at hb;subst hb;exact ⟨Nat.le_refl _,by show w.heap.size < (w.heap.push _).size; simp⟩
 ·obtain ⟨x,_,hal⟩:=yWZ f2 hv;obtain ⟨y,_,hy⟩:=yWZ hal hu;exact hy.2
 ·show (w.heap.push _)[w.heap.size]? = _; simp
 ·rw [f4]; exact Nat.le_refl _
 ·have h6:len * sz≤16777216:=vZX hb;show len≤9223372036854775807
  have:len≤len * sz:=Nat.le_mul_of_pos_right _ hs0
  omega
 ·rw [List.size_toArray,rows_len vr hvl,← f2.1,f4]
 ·rw [List.toList_toArray,List.take_of_length_le]; rw [rows_len vr hvl,← f2.1]; exact Nat.le_refl _
theorem ok_range {t:TypeId} {x:Operand} (hT:TabOk P C.T) (h:Rel' E C.n ρ F σ a w) (hd:dstB C.n d=true) (hvs:mapO (opv 0 σ) [x]=some vs) (he:zU C.T C.cA C.cB C.me (d.getD 0) (.range t x) vs=some e) (hn:∀ i ∈ e.nw,qJC σ.M i):OK P E C σ a w e ⟨d,.range t x,ty,pos,af,g⟩:=by
 obtain ⟨r,hr,rfl⟩:=qGK hvs;obtain ⟨v,h1,h2,h3⟩:=jY h hr;cases r with
 | v p =>
  cases p with
  | s s =>
   simp only [zU] at he;obtain ⟨hb,he⟩:=qQ he;cases he;have hu:=hT.str t hb;rw [qGX h2] at h1;have hrun:(execOp a.eval ⟨d,.range t x,ty,pos,af,g⟩).run P w=.ok (.value (.pointer (some ⟨w.heap.size,0,none⟩))) (w.alloc (.stringIter s 0)):=by
    simp [execOp,uU h h1,Instr.range,run_underlying hu,run_newObj]
   refine qQA hrun ⟨updO ρ (d.getD 0) (.blk w.heap.size),F,h.new (ent:=.itr s 0) (x:=.p (d.getD 0) 0) (L:=.blk w.heap.size) (hn _ (by simp [Eff.new])) ((Grow.refl w).alloc _) (fun b hb => ?_) ⟨w.heap.size,jU _ _ _,?_⟩ ⟨w.heap.size,jU _ _ _,rfl⟩ hd⟩
   ·simp only [Loc.bl,vQZ] at hb;subst hb;exact ⟨Nat.le_refl _,by show w.heap.size < (w.heap.push _).size; simp⟩
   ·show (w.heap.push _)[w.heap.size]? = _; simp
  | _=>simp only [zU] at he; cases he
 | _=>simp only [zU] at he; cases he
theorem ok_next {x:Operand} {b:Bool} (h:Rel' E C.n ρ F σ a w) (hd:dstB C.n d=true) (hvs:mapO (opv 0 σ) [x]=some vs) (he:zU C.T C.cA C.cB C.me (d.getD 0) (.next x b) vs=some e):OK P E C σ a w e ⟨d,.next x b,ty,pos,af,g⟩:=by
 obtain ⟨r,hr,rfl⟩:=qGK hvs;obtain ⟨v,h1,h2,h3⟩:=jY h hr;cases b with
 | false=>simp only [zU] at he; cases he
 | true =>
  cases r with
  | i id off s p =>
   cases off with
   | succ off=>simp only [zU] at he; cases he
   | zero =>
    obtain ⟨b,hρ,rfl⟩:=h2;obtain ⟨b2,hρ2,hF⟩:=h.mem.ent id _ h3;rw [hρ] at hρ2;cases hρ2;simp only [zU] at he;have hb2:Nat.beq id pid2=false:=by
     cases hb2:Nat.beq id pid2 with
     | false=>rfl
     | true=>rw [hb2] at he; cases he
    have hne2:id ≠ pid2:=fun e0=>by rw [e0,Nat.beq_refl] at hb2; cases hb2
    rw [hb2,vYG] at he;cases hp:decide (p < s.size) with
    | true =>
     rw [hp] at he;cases he;have hp':=vJZ hp;have hrun:(execOp a.eval ⟨d,.next x true,ty,pos,af,g⟩).run P w=.ok (.value (.tuple #[.bool true,.int .i64 (p:Int),.int .i32 ((Utf8.decode s p).1:Int)])) { w with heap:=w.heap.setIfInBounds b (.stringIter s (p + (Utf8.decode s p).2)) }:=by
      simp [execOp,uU h h1,Instr.next,run_getIter hF,run_setIter _ hF,hp',goInt]
     refine qQA hrun ⟨ρ,F,h.set (ent:=.itr s (p + (Utf8.decode s p).2)) hρ rfl setObj_growB ⟨b,hρ,by simp [qZF hF]⟩ ?_ hd⟩;exact RP.t _ [.bool true,.int .i64 (p:Int),.int .i32 ((Utf8.decode s p).1:Int)] rfl (fun i q u hq hu=>by
      match i with
      | 0=>simp at hq hu; subst hq; subst hu; exact .b _
      | 1=>simp at hq hu; subst hq; subst hu; exact .n _ _
      | 2=>simp at hq hu; subst hq; subst hu; exact .n _ _
      | i + 3=>simp at hq)
    | false =>
     rw [hp] at he;cases he;have hp':=vJY hp;have hrun:(execOp a.eval ⟨d,.next x true,ty,pos,af,g⟩).run P w=.ok (.value (.tuple #[.bool false])) w:=by
      simp [execOp,uU h h1,Instr.next,run_getIter hF,hp']
     refine qQA hrun ⟨ρ,F,h.val (Grow.refl w) (fun _ h=>h) (fun _ h=>.inl h) ?_ hd⟩;exact RP.t _ [.bool false] rfl (fun i q u hq hu=>by
      match i with
      | 0=>simp at hq hu; subst hq; subst hu; exact .b _
      | i + 1=>simp at hq)
  | _=>simp only [zU] at he; cases he
theorem splice_rows {sz j off:Nat} {vr:List (List Value)} {r vals:List Value} (hvl:∀ x ∈ vr,x.length=sz) (hr:vr[j]? = some r) (_:off + vals.length≤sz) :
  (vr.set j (r.take off ++ vals ++ r.drop (off + vals.length))).flatten=vr.flatten.take (j * sz + off) ++ vals ++ vr.flatten.drop (j * sz + off + vals.length):=by
 have hj:=(List.getElem?_eq_some_iff.1 hr).1;have hrl:=hvl r (vQG hr);have hnew:(r.take off ++ vals ++ r.drop (off + vals.length)).length=sz:=by simp; omega
 rw [zJI vr j _ hvl hj hnew];have hre:r=(vr.flatten.drop (j * sz)).take sz:=by
  refine List.ext_getElem? fun k => ?_
  rw [vZV,List.getElem?_drop];split
  ·rename_i hk;rw [qVI vr hvl j r hr k hk]
  ·rename_i hk;exact List.getElem?_eq_none (by omega)
 have hfl:=rows_len vr hvl;have hle:j * sz + sz≤vr.flatten.length:=by
  rw [hfl]
  have:=Nat.mul_le_mul_right sz (show j + 1≤vr.length from hj)
  rw [Nat.add_mul] at this; omega
 have e1:vr.flatten.take (j * sz + off)=vr.flatten.take (j * sz) ++ r.take off:=by
  rw [List.take_add,hre,List.take_take,Nat.min_eq_left (by omega)]
 have e2:vr.flatten.drop (j * sz + off + vals.length)=r.drop (off + vals.length) ++ vr.flatten.drop (j * sz + sz):=by
  rw [Nat.add_assoc,← List.drop_drop,← List.drop_drop (i:=sz)]
  conv=>lhs; rw [← List.take_append_drop sz (vr.flatten.drop (j * sz)),← hre]
  rw [List.drop_append_of_le_length (by omega)]
 rw [e1,e2];simp [List.append_assoc]
end
end Go.Rx
namespace Go.Rx
open Go.RowKit Go.Sx
section
variable {P:Program} {E:Env} {C:Cx} {ρ:Own} {F:Nat→Prop} {σ:St} {a:Act} {w:World} {vs:List RV} {e:Eff}
variable {d:Option Tmp} {ty:TypeId} {pos:String} {af:Array Edge} {g:Option (Nat × Bool)}
theorem disj1 {id:Nat} {l:List Nat} (h:disj [id] l=true):id ∉ l:=zQI h id vZQ
theorem ok_store_reg {t:TypeId} {x y:Operand} {id j off e' sz:Nat} {rows:Rows} {yr:RV} {c:List PV × Regs} {r r':List PV} {k:Bool × Nat} {v u:Value} (hT:TabOk P C.T) (h:Rel' E C.n ρ F σ a w) (hk:C.T.sz t=some k) (hx:ev (actS a) x=some v) (hy:ev (actS a) y=some u)
  (hv:RH ρ F w (.q id j off) v) (hl:zG σ.M id=some (.reg e' sz rows)) (hu:RH ρ F w yr.back u) (hres:RRes σ.M yr) (hc:yr.pcells=some c) (hr0:rows.at j=some r) (hlen:c.1.length=k.2) (hdis:id ∉ c.2.map (·.1)) (hsp:qZG r off c.1=some r') (hd:dstB C.n d=true) :
  OK P E C σ a w ((Eff.set id (.reg e' sz (rows.set j r')) .un).and c.2) ⟨d,.store t x y,ty,pos,af,g⟩:=by
 obtain ⟨p1,p2,p3⟩:=zZL h c.2 hc hu hres (fun x hx=>hx);have h1:=h.froze c.2 p3;obtain ⟨b,cc,kk,sz',hρ,hjk,rfl⟩:=hv;have hl1:=frz_look hdis hl;have hρ1:frzρ c.2 ρ id=some (.reg (some ⟨b,0,none⟩) cc kk sz'):=by rw [zXE hdis]; exact hρ
 obtain ⟨ad,c2,vr,q1,q2,q3,q4,q5,q6,q7,q8,q9⟩:=zWI h1 hl1 (v:=.slice (some ⟨b,0,none⟩) kk cc) ⟨_,_,_,_,hρ1,rfl⟩;simp only [Value.slice.injEq] at q2;obtain ⟨rfl,rfl,rfl⟩:=q2;rw [hρ1] at q1;simp only [vQZ,Loc.reg.injEq] at q1;obtain ⟨_,_,_,rfl⟩:=q1;have hr:=Rows.at_L hr0 hjk;have hsL:=Rows.set_L rows j r';have hsl0:(rows.set j r').len=rows.L.length:=by rw [← Rows.len_L,hsL,List.length_set]
 rw [← Rows.len_L] at hρ1 q8;obtain ⟨e1,e2⟩:=qWI hsp;obtain ⟨ur,hur,hral⟩:=q4.get hr;have hjl:=(List.getElem?_eq_some_iff.1 hr).1;have hrl:r.length=sz':=q5 r (vQG hr);have hvl:u.cells.toList.length=c.1.length:=p1.1.symm;have hfl:=rows_len vr q6;have hle:j * sz' + sz'≤rows.L.length * sz':=by
  have:=Nat.mul_le_mul_right sz' (show j + 1≤rows.L.length from hjl)
  rw [Nat.add_mul] at this; omega
 rcases q8.2 with ⟨hnil,_⟩ | ⟨gg,cap,cur,hsl,_,hg,hcap,hmax,hcur,htake⟩
 ·simp at hnil
 simp only [Value.slice.injEq,vQZ,Addr.mk.injEq,and_true,true_and] at hsl;obtain ⟨rfl,rfl⟩:=hsl;have hcapsz:rows.L.length * sz'≤cc * sz':=Nat.mul_le_mul_right _ hcap;have hst:=run_storeCells_at P b (j * sz' + off) e' u.cells.toList 0 cur w hg (by rw [hvl]; omega) p2;obtain ⟨R,hR,hst'⟩:∃ R:List Value,R=cur.toList.take (j * sz' + off) ++ u.cells.toList ++ cur.toList.drop (j * sz' + off + u.cells.toList.length)∧(storeCells ⟨b,j * sz' + off,none⟩ u.cells.toList 0).run P w=.ok () (w.setRow b R.toArray):=⟨_,rfl,by simpa using hst⟩
 have hrun:(execOp a.eval ⟨d,.store t x y,ty,pos,af,g⟩).run P w=.ok .skip (w.setRow b R.toArray):=by
  have hz:u.cells.size=k.2:=by rw [← hlen,← hvl]; simp
  have hTt:=qYQ (hT.sz t k.1 k.2 hk).1;simp [execOp,uU h hx,uU h hy,Instr.storeAt,Instr.sureAddr,storeVar,hTt,hz,hst']
 have hset:=setRow_heap w b _ R.toArray e' _ hg;have hoff:=h1.mem.off id _ b hρ1 rfl;have hF:∀ k,frzF c.2 ρ F k→frzF c.2 ρ F k∧(w.setRow b R.toArray).heap[k]? = w.heap[k]?:=fun k hk=>⟨hk,(GrowB.set b w R.toArray).block k (h1.mem.fz k hk).1 fun e=>by subst e; exact hoff.1 hk⟩
 have hcl:cur.toList.length=cc * sz':=by simpa using hcur
 have hsplit:cur.toList=vr.flatten ++ cur.toList.drop (rows.L.length * sz'):=by rw [← htake]; exact (List.take_append_drop _ _).symm
 have hnew:(ur.take off ++ u.cells.toList ++ ur.drop (off + u.cells.toList.length)).length=sz':=by
  have:ur.length=sz':=q6 ur (vQG hur)
  simp only [List.length_append,List.length_take,List.length_drop,hvl,this];rw [hrl] at e2;omega
 have hfr:=splice_rows (off:=off) (vals:=u.cells.toList) q6 hur (by rw [hvl,← hrl]; exact e2);have hrow:Al (RP (frzF c.2 ρ F) w) r' (ur.take off ++ u.cells.toList ++ ur.drop (off + u.cells.toList.length)):=by
  rw [e1,hvl];exact ((hral.take off).append p1).append (hral.drop _)
 have hRtake:R.take (rows.L.length * sz')=(vr.set j (ur.take off ++ u.cells.toList ++ ur.drop (off + u.cells.toList.length))).flatten:=by
  rw [hfr,hR,hsplit];have hlv:vr.flatten.length=rows.L.length * sz':=by rw [hfl,q4.1]
  have:=splice_take (ys:=vr.flatten) (rest:=cur.toList.drop (rows.L.length * sz')) (vs:=u.cells.toList) (p:=j * sz' + off) (s:=u.cells.toList.length) (by rw [hlv,hvl]; omega) rfl
  rw [hlv] at this;exact this
 have hrel:Rel' E C.n (frzρ c.2 ρ) (frzF c.2 ρ F) ((σ.apply (.frz c.2 .un) none).apply (.set id (.reg e' sz' (rows.set j r')) .un) d) (a.put d undef) (w.setRow b R.toArray):=by
  refine h1.set (ent:=.reg e' sz' (rows.set j r')) (x:=.un) hρ1 rfl (GrowB.set b w R.toArray) ⟨some ⟨b,0,none⟩,cc,vr.set j (ur.take off ++ u.cells.toList ++ ur.drop (off + u.cells.toList.length)),by rw [hsl0]; exact hρ1,q3,by rw [hsL]; exact (q4.set hrow j).imp fun _ _ _ h=>h.imp fun _ _ _ h=>h.mono hF,fun x hx => ?_,fun x hx z hz => ?_,?_,.inr ⟨b,cc,R.toArray,by rw [hsl0],Nat.zero_le _,hset,by rw [hsl0]; exact hcap,hmax,?_,?_⟩⟩ trivial hd
  ·rw [hsL] at hx;rcases List.mem_or_eq_of_mem_set hx with h | h
   ·exact q5 x h
   ·rw [h,hrow.1]; exact hnew
  ·rcases List.mem_or_eq_of_mem_set hx with h | h
   ·exact q7 x h z hz
   ·rw [h] at hz;simp only [List.mem_append] at hz;rcases hz with (hz | hz) | hz
    ·exact q7 ur (vQG hur) z (List.mem_of_mem_take hz)
    ·exact p2 z hz
    ·exact q7 ur (vQG hur) z (List.mem_of_mem_drop hz)
  ·rw [hsl0,← hRtake,List.length_take,hR];simp only [List.length_append,List.length_take,List.length_drop,hcl,hvl];omega
  ·rw [List.size_toArray,hR];simp only [List.length_append,List.length_take,List.length_drop,hcl,hvl];omega
  ·rw [hsl0,List.toList_toArray]; exact hRtake
 have hrel2:Rel E C.n ((σ.apply (.frz c.2 .un) none).apply (.set id (.reg e' sz' (rows.set j r')) .un) d) (a.put d undef) (w.setRow b R.toArray):=⟨_,_,hrel⟩
 exact zXC hrun (hrel2.eqv (zZX (ent:=.reg e' sz' (rows.set j r')) rfl rfl hdis))
theorem ok_store_frz {t:TypeId} {x y:Operand} {id off:Nat} {cells:List CV} {yr:RV} {c:List PV × Regs} {cs:List HV} {k:Bool × Nat} {v u:Value} (hT:TabOk P C.T) (h:Rel' E C.n ρ F σ a w) (hk:C.T.sz t=some k) (hx:ev (actS a) x=some v) (hy:ev (actS a) y=some u)
  (hv:RH ρ F w (.p id off) v) (hres0:RRes σ.M (.p id off cells)) (hu:RH ρ F w yr.back u) (hres:RRes σ.M yr) (hc:yr.pcells=some c) (hlen:c.1.length=k.2) (hdis:id ∉ c.2.map (·.1)) (hsp:qZG ((cells.map CV.back).map (HV.sub (c.2.map fun r=>(r.1,some r.2)))) off (c.1.map HV.v)=some cs) (hd:dstB C.n d=true) (hne:id ≠ pid2) :
  OK P E C σ a w ((Eff.set id (.blk cs) .un).and c.2) ⟨d,.store t x y,ty,pos,af,g⟩:=by
 obtain ⟨p1,p2,p3⟩:=zZL h c.2 hc hu hres (fun x hx=>hx);have h1:=h.froze c.2 p3;obtain ⟨hcl,hlk,hcc⟩:=hres0;rw [cvs_back hcc] at hsp;obtain ⟨b,hρ,rfl⟩:=hv;have e1:(Eff.frz c.2 .un).up=c.2.map fun r=>(r.1,none):=by cases c.2 <;> rfl
 have e2:(Eff.frz c.2 .un).sb=c.2.map fun r=>(r.1,some r.2):=by cases c.2 <;> rfl
 have hlk1:zG (σ.apply (.frz c.2 .un) none).M id=some (.blk (hcl.map (HV.sub (c.2.map fun r=>(r.1,some r.2))))):=by
  rw [qQF,e1,up_none_iff.2 hdis,hlk,e2]; rfl
 have q:=ok_store_blk2 (C:=C) (d:=d) (ty:=ty) (pos:=pos) (af:=af) (g:=g) hT h1 hk hx hy ⟨b,by rw [zXE hdis]; exact hρ,rfl⟩ hlk1 (Al.map_left (show Al (fun z y=>RH (frzρ c.2 ρ) (frzF c.2 ρ F) w (HV.v z) y) c.1 u.cells.toList from p1)) p2 (by rw [List.length_map]; exact hlen) hsp hd hne;unfold OK at q ⊢;exact q.mono fun u w' hr=>hr.eqv (zZX (ent:=.blk cs) rfl rfl hdis)
theorem NR.set_len (rows:NR) (j:Nat) (r:Rows):(rows.set j r).len=rows.len:=by
 cases rows <;> simp [NR.set,NR.len]
theorem mergeRows_eq (c:Bool) (x y:Rows):qHI c x y=bif c then x else y:=by
 unfold qHI;split
 ·cases c
  ·simp only [vYG,mergeRow_f]
  ·simp only [vYV,mergeRow_t]
 ·rfl
theorem NR.set_at {rows:NR} {j v:Nat} (r:Rows) (hj:j < rows.len):(rows.set j r).at v=if v=j then some r else rows.at v:=by
 cases rows with
 | l rows =>
  show (rows.set j r)[v]? = if v=j then some r else rows[v]?
  rw [List.getElem?_set];by_cases e:v=j
  ·subst e;have hj':v < rows.length:=hj;rw [if_pos rfl,if_pos hj',if_pos rfl]
  ·rw [if_neg fun h=>e h.symm,if_neg e]
 | fo n f =>
  show some (qHI (Nat.beq v j) r (f v))=_;rw [mergeRows_eq];by_cases e:v=j
  ·subst e; rw [if_pos rfl,Nat.beq_refl]; rfl
  ·rw [if_neg e,qQW e]; rfl
theorem ok_store_nst {t:TypeId} {x y:Operand} {id j e' ie isz:Nat} {rows:NR} {r:Rows} {k:Bool × Nat} {v u:Value} (hT:TabOk P C.T) (h:Rel' E C.n ρ F σ a w) (hk:C.T.sz t=some k) (hk1:k.1=false) (hx:ev (actS a) x=some v) (hy:ev (actS a) y=some u)
  (hv:RH ρ F w (.q id j 0) v) (hl:zG σ.M id=some (.nst e' ie isz rows (some (j,r)))) (hu:RH ρ F w (.mp id j) u) (hd:dstB C.n d=true) :
  OK P E C σ a w ⟨[(id,some (.nst e' ie isz (rows.set j r) none))],[(mid id,none)],.un,[]⟩ ⟨d,.store t x y,ty,pos,af,g⟩:=by
 obtain ⟨b,cc,kk,sz',hρ,hjk,rfl⟩:=hv;obtain ⟨a0,c0,H,q1,q2,q3,q4,q5,q6⟩:=h.mem.ent id _ hl;have hρ0:=hρ;rw [hρ] at q1;simp only [vQZ,Loc.reg.injEq] at q1;obtain ⟨rfl,rfl,rfl,rfl⟩:=q1;obtain ⟨av,cv,nn,s',⟨hρn,rfl⟩,hlt,_⟩:=hu;obtain ⟨r1,av1,cv1,vr1,p1,p2,p3,p4,p5,p6,p7⟩:=q6 j hjk;have er:r1=r:=by unfold yXQ at p1; simpa using p1.symm
 subst er;have hp2:=p2;rw [hρn] at p2;simp only [vQZ,Loc.inn.injEq] at p2;obtain ⟨rfl,rfl,rfl,e4⟩:=p2;have e4':=e4.symm;subst e4';rcases q3.2 with ⟨hnil,_⟩ | ⟨gg,cap,cur,hsl,_,hg,hcap,hmax,hcur,htake⟩
 ·omega
 simp only [Value.slice.injEq,vQZ,Addr.mk.injEq,and_true,true_and] at hsl;obtain ⟨rfl,rfl⟩:=hsl;have hone:∀ z ∈ [Value.slice av r1.len cv],z.oneCell'=true:=fun z hz=>by simp at hz; subst hz; rfl
 have hst:=run_storeCells_at P b (j * 1 + 0) e' [Value.slice av r1.len cv] 0 cur w hg (by simp only [vQW,vQV]; omega) hone;obtain ⟨R,hR,hst'⟩:∃ R:List Value,R=cur.toList.take (j * 1 + 0) ++ [Value.slice av r1.len cv] ++ cur.toList.drop (j * 1 + 0 + 1)∧(storeCells ⟨b,j * 1 + 0,none⟩ [Value.slice av r1.len cv] 0).run P w=.ok () (w.setRow b R.toArray):=⟨_,rfl,by simpa using hst⟩
 have hrun:(execOp a.eval ⟨d,.store t x y,ty,pos,af,g⟩).run P w=.ok .skip (w.setRow b R.toArray):=by
  obtain ⟨hty,hk2⟩:=hT.sz t k.1 k.2 hk;have hTt:=qYQ hty;have hz:(Value.slice av r1.len cv).cells=#[Value.slice av r1.len cv]:=rfl;have h2:=hk2 hk1;have hst2:(storeCells ⟨b,j,none⟩ [Value.slice av r1.len cv] 0).run P w=.ok () (w.setRow b R.toArray):=by simpa using hst'
  simp [execOp,uU h hx,uU h hy,Instr.storeAt,Instr.sureAddr,storeVar,hTt,hz,h2,hst2]
 have hset:=setRow_heap w b _ R.toArray e' _ hg;have gB:=GrowB.set b w R.toArray;have hoff:=h.mem.off id _ b hρ rfl;have hF:∀ k,F k→F k∧(w.setRow b R.toArray).heap[k]? = w.heap[k]?:=fun k hk=>⟨hk,gB.block k (h.mem.fz k hk).1 fun e=>by subst e; exact hoff.1 hk⟩
 have hcl:cur.toList.length=cc * 1:=by simpa using hcur
 have hmap:(List.range rows.len).map (fun v=>if v=j then Value.slice av r1.len cv else H v)=((List.range rows.len).map H).set j (Value.slice av r1.len cv):=by
  refine List.ext_getElem? fun i => ?_
  rw [vZY,List.getElem?_set];by_cases hi:i < rows.len
  ·rw [List.getElem?_range hi,Option.map_some];by_cases e:j=i
   ·subst e; rw [if_pos rfl,if_pos rfl,if_pos (by simpa using hi)]
   ·rw [if_neg fun e2=>e e2.symm,if_neg e,vZY,List.getElem?_range hi]; rfl
  ·rw [List.getElem?_eq_none (by simp; omega),Option.map_none];rw [if_neg (by omega),List.getElem?_eq_none (by simp; omega)]
 have hRtake:R.take (rows.len * 1)=((List.range rows.len).map H).set j (Value.slice av r1.len cv):=by
  have htake':cur.toList.take (rows.len * 1)=(List.range rows.len).map H:=htake;rw [← htake',hR];refine List.ext_getElem? fun i => ?_
  rw [vZV,List.getElem?_set];by_cases hi:i < rows.len * 1
  ·rw [if_pos hi,Nat.add_zero,Nat.mul_one,List.append_assoc,List.getElem?_append];have hl1:(cur.toList.take j).length=j:=by rw [List.length_take]; omega
   rw [hl1];by_cases e:i < j
   ·rw [if_pos e,if_neg (by omega),vZV,if_pos e,vZV,if_pos hi]
   ·rw [if_neg e];by_cases e2:j=i
    ·subst e2;rw [if_pos rfl,if_pos (by rw [List.length_take]; omega),Nat.sub_self]; rfl
    ·rw [if_neg e2,vZV,if_pos hi,show i - j=(i - (j + 1)) + 1 by omega,List.singleton_append,List.getElem?_cons_succ,List.getElem?_drop]
     congr 1; omega
  ·rw [if_neg hi];split
   ·split
    ·rename_i h1 h2; rw [List.length_take] at h2; omega
    ·rfl
   ·rw [vZV,if_neg hi]
 have hrel:Rel' E C.n ρ F (σ.apply ⟨[(id,some (.nst e' ie isz (rows.set j r1) none))],[(mid id,none)],.un,[]⟩ d) (a.put d undef) (w.setRow b R.toArray):=by
  refine h.apply2 ⟨[(id,some (.nst e' ie isz (rows.set j r1) none))],[(mid id,none)],.un,[]⟩ d undef (fun d' e=>by subst e; simpa [dstB] using hd)
   ⟨fun k b hk=>hk,fun k L' hk _ _=>hk,fun k i a' c' kk s _ hk _ _=>hk,fun k rows a' c' kk sz _ hs=>(by simp only [qZQ] at hs; split at hs <;> cases hs),hF⟩ trivial
   (fun k L' b' hu _ hk hb'=>gB.block b' (h.mem.off k L' b' hk hb').2.1 fun e => ?_) (fun k hk _ => ?_) (fun k hk hu => ?_) (fun k y hu => ?_) (fun k L' _ hL _=>hL) (fun k y hu => ?_) h.mem.inr h.mem.apart (fun k L' b' hk hb' => ?_) (fun k hk=>⟨vZK (h.mem.fz k hk).1 gB.size,(h.mem.fz k hk).2⟩) ?_ (fun b2 hb2=>zWX (zZI hρ0 hb2))
  ·subst e
   have:=h.mem.apart k id L' _ b' hk hρ hb' rfl
   subst this;simp [kW] at hu
  ·simp only [qZQ]; rw [if_neg (by unfold mid; omega)]
  ·simp only [kW] at hu;simp only [qZQ];split at hu
   ·cases hu
   ·rename_i hne; rw [if_neg (by unfold mid; omega)]
  ·simp only [kW] at hu;split at hu
   ·rename_i e; rw [← e]; exact hlt
   ·cases hu
  ·simp only [kW] at hu;split at hu
   ·rename_i he;cases hu;subst he;refine ⟨some ⟨b,0,none⟩,cc,fun v=>if v=j then Value.slice av r1.len cv else H v,by rw [NR.set_len]; exact hρ,q2,?_,fun v hv => ?_,(fun _ _ e=>by cases e),fun v hv => ?_⟩
    ·rw [NR.set_len,hmap];refine ⟨by simp,.inr ⟨b,cc,R.toArray,rfl,Nat.zero_le _,hset,hcap,hmax,?_,?_⟩⟩
     ·rw [List.size_toArray,hR];simp only [List.length_append,List.length_take,List.length_drop,vQW,vQV,hcl];omega
     ·rw [List.toList_toArray]; exact hRtake
    ·show (if v=j then Value.slice av r1.len cv else H v).oneCell'=true;split
     ·rfl
     ·rw [NR.set_len] at hv; exact q4 v hv
    ·rw [NR.set_len] at hv;have nb:∀ {k':Nat} {L':Loc} {b':Nat},ρ (nid id k')=some L'→L'.bl=some b'→(w.setRow b R.toArray).heap[b']? = w.heap[b']?:=fun {k' L' b'} h1 h2=>gB.block b' (h.mem.off _ _ b' h1 h2).2.1 fun e=>by
      subst e
      have:=h.mem.apart _ id _ _ b' h1 hρ h2 rfl
      have:=qKG id k'
      omega
     by_cases e:v=j
     ·subst e;refine ⟨r1,av,cv,vr1,?_,hρn,fun _=>if_pos rfl,p4.imp fun _ _ _ h=>h.imp fun _ _ _ h=>h.mono hF,p5,p6,qZH p7 fun b' hb'=>nb hp2 hb'⟩;show (rows.set v r1).at v=_;rw [NR.set_at r1 hv,if_pos rfl]
     ·obtain ⟨r2,av2,cv2,vr2,z1,z2,z3,z4,z5,z6,z7⟩:=q6 v hv;refine ⟨r2,av2,cv2,vr2,?_,z2,fun _ => ?_,z4.imp fun _ _ _ h=>h.imp fun _ _ _ h=>h.mono hF,z5,z6,qZH z7 fun b' hb'=>nb z2 hb'⟩
      ·show (rows.set j r1).at v=_;rw [NR.set_at r1 hjk,if_neg e];unfold yXQ at z1
       simpa [e] using z1
      ·show (if v=j then Value.slice av r1.len cv else H v)=_;rw [if_neg e];exact z3 (fun r' hr'=>by simp only [vQZ,vQY] at hr'; exact e hr'.1.symm)
   ·cases hu
  ·have:=h.mem.off k L' b' hk hb'
   exact ⟨this.1,vZK this.2.1 gB.size,this.2.2⟩
  ·refine ⟨gB.os.trans h.mem.grow.os,gB.tape.trans h.mem.grow.tape,gB.output.trans h.mem.grow.output,Nat.le_trans h.mem.grow.size gB.size,fun k hk hW => ?_⟩;rw [gB.block k (vZK hk h.mem.grow.size) fun e => ?_]
   ·exact h.mem.grow.block k hk hW
   ·subst e;rcases hoff.2.2 with h1 | h1
    ·omega
    ·exact hW h1
 exact zXC hrun ⟨ρ,F,hrel⟩
theorem ok_store {t:TypeId} {x y:Operand} (hT:TabOk P C.T) (h:Rel' E C.n ρ F σ a w) (hd:dstB C.n d=true) (hvs:mapO (opv 0 σ) [x,y]=some vs) (he:zU C.T C.cA C.cB C.me (d.getD 0) (.store t x y) vs=some e):OK P E C σ a w e ⟨d,.store t x y,ty,pos,af,g⟩:=by
 obtain ⟨rx,ry,hx,hy,rfl⟩:=yUX hvs;obtain ⟨vx,x1,x2,x3⟩:=jY h hx;obtain ⟨vy,y1,y2,y3⟩:=jY h hy;simp only [zU,vQQ] at he;obtain ⟨k,hk,he⟩:=he;cases rx with
 | p id off cells =>
  have hb2:Nat.beq id pid2=false:=by
   cases hb2:Nat.beq id pid2 with
   | false=>rfl
   | true=>simp only [hb2,vYV] at he; cases he
  have hne:id ≠ pid2:=fun e0=>by rw [e0,Nat.beq_refl] at hb2; cases hb2
  simp only [hb2,vYG] at he;cases hsf:C.T.sf C.me && ry.isO with
  | true =>
   simp only [hsf,vYV,vQQ] at he;obtain ⟨c,hc,he⟩:=he;obtain ⟨hb,he⟩:=qQ he;simp only [vQQ,vQZ] at he;obtain ⟨cs,hcs,rfl⟩:=he;rw [vQJ] at hb;exact ok_store_frz hT h hk x1 y1 x2 x3 y2 y3 hc (vQX hb.1) (disj1 hb.2) hcs hd hne
  | false =>
  simp only [hsf,vYG,vQQ] at he;obtain ⟨hs,hh,he⟩:=he;obtain ⟨hb,he⟩:=qQ he;simp only [vQQ,vQZ] at he;obtain ⟨cs,hcs,rfl⟩:=he;exact ok_store_blk hT h hk x1 y1 x2 x3 y2 hh (vQX hb) hcs hd hne
 | q id j off e' sz rows =>
  simp only [vQQ] at he;obtain ⟨c,hc,r,hr,he⟩:=he;obtain ⟨hb,he⟩:=qQ he;simp only [vQQ,vQZ] at he;obtain ⟨r',hr',rfl⟩:=he;rw [vQJ] at hb;exact ok_store_reg hT h hk x1 y1 x2 x3 y2 y3 hc hr (vQX hb.1) (disj1 hb.2) hr' hd
 | nq id j off e' ie isz rows pd =>
  cases off with
  | succ o=>simp only at he; cases he
  | zero =>
   cases pd with
   | none=>simp only at he; cases he
   | some q =>
    obtain ⟨j',r⟩:=q;cases ry with
    | w y' =>
     cases y' with
     | mp id' j'' =>
      simp only at he;obtain ⟨hb,he⟩:=qQ he;cases he;simp only [vQJ,Bool.not_eq_true'] at hb;obtain ⟨⟨⟨hk1,e1⟩,e2⟩,e3⟩:=hb;have e1:=vQX e1;have e2:=vQX e2;have e3:=vQX e3;subst e1; subst e2; subst e3;exact ok_store_nst hT h hk hk1 x1 y1 x2 x3 y2 hd
     | _=>simp only at he; cases he
    | _=>simp only at he; cases he
 | _=>simp only at he; cases he
theorem ok_slice {t:TypeId} {x:Operand} {lo hi mx:Option Operand} (hT:TabOk P C.T) (h:Rel' E C.n ρ F σ a w) (hd:dstB C.n d=true) (hvs:mapO (opv 0 σ) (#[x] ++ lo.toArray ++ hi.toArray ++ mx.toArray).toList=some vs) (he:zU C.T C.cA C.cB C.me (d.getD 0) (.slice t x lo hi mx) vs=some e):OK P E C σ a w e ⟨d,.slice t x lo hi mx,ty,pos,af,g⟩:=by
 cases mx with
 | some m=>simp only [zU] at he; cases he
 | none =>
  obtain ⟨rx,vs',vx,rfl,x1,x2,x3,hb⟩:=slice_ops h hvs;simp only [zU,vQQ] at he;obtain ⟨b,hbb,he⟩:=he;obtain ⟨vlo,vhi,b1,b2,b3,b4,b5,b6⟩:=hb b hbb;cases rx with
  | v p =>
   cases p with
   | s s =>
    simp only at he;obtain ⟨hc,he⟩:=qQ he;cases he;rw [vQJ] at hc;have hu:=hT.str t hc.1;have hvx:vx=.string s:=qGX x2;subst hvx;refine yW h (qHE x1 b3 b4 b5 b6 fun w => ?_) (.s _) hd;rw [run_sliceAt_string w t _ _ _ _ hu];simp only [Instr.slice,Sem.run_bind,run_underlying hu,Result.andThen_ok,Option.isSome_none,Bool.false_eq_true,if_false,run_bounds b1 b2 (Nat.le_refl _) hc.2];rfl
   | lf n f =>
    simp only [vQQ] at he;obtain ⟨⟨el,sz⟩,hsl,he⟩:=he;obtain ⟨hc,he⟩:=qQ he;obtain ⟨hr,he⟩:=qQ he;cases he;have hr:=vQX hr;obtain ⟨hslc,_⟩:=hT.sl t el sz hsl;have x2':RP F w (.l ((List.range n).map f)) vx:=yQX x2;have hlen:((List.range n).map f).length=n:=by simp
    have hrow:zWV ((List.range n).map f) (loOf b.1) sz=true:=by
     unfold zWV;by_cases hl:loOf b.1 < n
     ·rw [qQD f hl,Option.all_some,hr]; exact Nat.beq_refl _
     ·rw [List.getElem?_eq_none (by rw [hlen]; omega)]; rfl
    obtain ⟨ad,c,hvx,hcap⟩:=rp_l x2';subst hvx;obtain ⟨_,_,i3,i4⟩:=zHQ hc;have e:(((List.range n).map f).take (hiOf b.2 n)).drop (loOf b.1)=(List.range (hiOf b.2 n - loOf b.1)).map fun v=>f (v + loOf b.1):=by
     refine List.ext_getElem? fun i => ?_
     rw [List.getElem?_drop,vZV];by_cases hi:i < hiOf b.2 n - loOf b.1
     ·rw [if_pos (by omega),qQD f (by omega),qQD _ hi,Nat.add_comm]
     ·rw [if_neg (by omega)];exact (List.getElem?_eq_none (by simp; omega)).symm
    have:=rp_part x2' hrow i3 (by rw [hlen]; exact i4)
    rw [e] at this;rw [hlen] at x1;rw [hlen] at hcap;exact yW h (qHE x1 b3 b4 b5 b6 fun w=>yZL hslc b1 b2 hcap hc) (.lf _ _ _ this) hd
   | l rows =>
    simp only [vQQ] at he;obtain ⟨⟨el,sz⟩,hsl,he⟩:=he;obtain ⟨hc,he⟩:=qQ he;cases he;rw [vQJ] at hc;obtain ⟨hslc,_⟩:=hT.sl t el sz hsl;have x2':RP F w (.l rows) vx:=x2;obtain ⟨ad,c,hvx,hcap⟩:=rp_l x2';subst hvx;obtain ⟨_,_,i3,i4⟩:=zHQ hc.1;exact yW h (qHE x1 b3 b4 b5 b6 fun w=>yZL hslc b1 b2 hcap hc.1) (rp_part x2' hc.2 i3 i4) hd
   | _=>simp only at he; cases he
  | o id e' sz' rows =>
   simp only at he;obtain ⟨bi,bj⟩:=b;cases bi with
   | some i=>simp only at he; cases he
   | none =>
    cases bj with
    | none=>simp only at he; cases he
    | some j =>
     simp only [vQQ] at he;obtain ⟨⟨el,sz⟩,hsl,he⟩:=he;obtain ⟨hc,he⟩:=qQ he;cases he;simp only [vQJ,decide_eq_true_eq] at hc;obtain ⟨⟨hc1,hc2⟩,hc3⟩:=hc;have hc1:=vQX hc1;obtain ⟨hslc,_⟩:=hT.sl t el sz hsl;obtain ⟨ad,c,vr,hρ,rfl,h0,hal,hrl,hvl,hone,hown,_⟩:=zWI h x3 x2;have hcap:rows.len≤c:=by
      rcases hown.2 with ⟨hx,h00⟩ | ⟨g2,cap2,cur,hsl2,_,_,hc,_⟩
      ·omega
      ·simp only [Value.slice.injEq] at hsl2; omega
     have hin:inS none (some j) rows.len=true:=by simp [inS,loOf,hiOf,hc2,hc3]
     have hop:OpV P ⟨w,[]⟩ (actS a) [] ⟨d,.slice t x lo hi none,ty,pos,af,g⟩ (sliced ad 0 j.toNat c sz):=qHE x1 b3 b4 b5 b6 fun w=>yZL hslc b1 b2 hcap hin
     have hsd:sliced ad 0 j.toNat c sz=.slice ad j.toNat c:=by
      unfold sliced
      have:ad.map (fun x=>x.add (0 * sz))=ad:=by cases ad <;> simp [Addr.add]
      simp only [this,Nat.sub_zero,ite_self]
     have hlen:(rows.take j.toNat).len=j.toNat:=by rw [← Rows.len_L,Rows.take_L hc3,List.length_take,Rows.len_L]; omega
     have hTL:=Rows.take_L hc3;refine (yJY h.size hop).mono fun u w' ⟨hu,gr⟩ => ?_
     subst hu;rw [hsd];have h':=h.grow gr;obtain ⟨ad2,c2,vr2,hρ2,heq,_,hal2,_,hvl2,hone2,hown2,_⟩:=zWI h' x3 x2;simp only [Value.slice.injEq] at heq;obtain ⟨rfl,_,rfl⟩:=heq;refine ⟨updO ρ id (.reg ad c j.toNat sz'),F,h'.app (L':=.reg ad c j.toNat sz') (ent:=.reg e' sz' (rows.take j.toNat)) (x:=.o id) hρ ⟨_,_,_,_,rfl⟩ (GrowB.refl _ w') (fun b hb=>.inl hb)
      ⟨ad,c,vr2.take j.toNat,by rw [hlen]; exact jU _ _ _,h0,by rw [hTL]; exact hal2.take _,fun r hr=>hrl r (List.mem_of_mem_take (by rw [hTL] at hr; exact hr)),fun v hv=>hone2 v (List.mem_of_mem_take hv),?_⟩ ⟨_,_,_,_,jU _ _ _,rfl⟩ hd⟩
     rw [hlen,flatten_take hvl2];refine ⟨?_,?_⟩
     ·rw [List.length_take,rows_len vr2 hvl2,← hal2.1,Rows.len_L,Nat.min_eq_left (Nat.mul_le_mul_right _ hc3)]
     ·rcases hown2.2 with ⟨hx,h00⟩ | ⟨g2,cap2,cur,hsl2,m1,m2,m3,m4,m5,m6⟩
      ·have:j.toNat=0:=by omega
       simp only [Value.slice.injEq] at hx;rw [this,hx.1,hx.2.2];exact .inl ⟨rfl,rfl⟩
      ·simp only [Value.slice.injEq] at hsl2;obtain ⟨rfl,_,rfl⟩:=hsl2;refine .inr ⟨g2,c,cur,rfl,m1,m2,by omega,m4,m5,?_⟩;rw [← m6,List.take_take,Nat.min_eq_left (Nat.mul_le_mul_right _ hc3)]
  | _=>simp only at he; cases he
end
end Go.Rx
namespace Go.Rx
open Go.RowKit Go.Sx
def RRet (F:Nat→Prop) (w w':World):Ret→Value→Prop
 | .v x,v=>RP F w' x v
 | .ow e sz rows,v=>∃ ad c vr,v=.slice ad rows.len c∧0 < sz∧Al (Al (RP F w')) rows.L vr∧(∀ r ∈ rows.L,r.length=sz)∧(∀ v ∈ vr,∀ u ∈ v,u.oneCell'=true)∧w'.ownsRow 0 e sz (.slice ad rows.len c) rows.len vr.flatten ∧
   ∀ b,ad.map (·.block)=some b→¬ F b∧w.heap.size≤b∧b < w'.heap.size
 | .pb cells,v=>∃ b us ty,v=.pointer (some ⟨b,0,none⟩)∧w'.heap[b]? = some (.cells us.toArray ty)∧Al (RP F w') cells us∧(∀ u ∈ us,u.oneCell'=true)∧¬ F b∧w.heap.size≤b∧b < w'.heap.size
def SndA (P:Program) (cA:yVX):Prop:=∀ g ps r,cA g ps=some r→uQ P g∧∀ (w:World) (F:Nat→Prop) (vals:List Value),(∀ k,F k→k < w.heap.size)→Al (RP F w) ps vals →
 Calls P g vals.toArray w (fun e w'=>∃ v F',e=.returned v∧Grow w w'∧(∀ k,F k→F' k)∧(∀ k,F' k→F k ∨ (w.heap.size≤k∧k < w'.heap.size))∧RRet F' w w' r v)
section
variable {P:Program} {E:Env} {C:Cx} {ρ:Own} {F:Nat→Prop} {σ:St} {a:Act} {w:World} {vs:List RV} {e:Eff}
variable {d:Option Tmp} {ty:TypeId} {pos:String} {af:Array Edge} {g:Option (Nat × Bool)}
theorem Rel'.adopt {n:Nat} (h:Rel' E n ρ F σ a w) {F':Nat→Prop} {id:Nat} (hid:qJC σ.M id) {ent:Ent} {L:Loc} {w':World} (g:Grow w w') (hF:∀ k,F k→F' k) (hF':∀ k,F' k→F k ∨ (w.heap.size≤k∧k < w'.heap.size))
  (hb:∀ b,L.bl=some b→¬ F' b∧w.heap.size≤b∧b < w'.heap.size) (hent:EntOk (updO ρ id L) F' w' id ent)
  {x:HV} {v:Value} (hx:RH (updO ρ id L) F' w' x v) {dst:Option Nat} (hd:dstB n dst=true):Rel' E n (updO ρ id L) F' (σ.apply (.new id ent x) dst) (a.put dst v) w':=by
 have hnone:ρ id=none:=h.mem.fresh hid;have old:∀ k L',ρ k=some L'→updO ρ id L k=some L':=fun k L' hk=>by
  rw [qYG (fun e=>by subst e; rw [hnone] at hk; cases hk)]; exact hk
 have inv:∀ k L',updO ρ id L k=some L'→(k=id∧L'=L) ∨ (k ≠ id∧ρ k=some L'):=fun k L' hk=>by
  by_cases e:k=id
  ·subst e; rw [jU] at hk; cases hk; exact .inl ⟨rfl,rfl⟩
  ·rw [qYG e] at hk; exact .inr ⟨e,hk⟩
 have blk:∀ k L' b,ρ k=some L'→L'.bl=some b→b < w.heap.size:=fun k L' b hk hb'=>(h.mem.off k L' b hk hb').2.1
 refine h.apply (.new id ent x) dst v (fun d e=>by subst e; simpa [dstB] using hd) ⟨fun k b hk=>old k _ hk,fun k L' hk _ _=>old k L' hk,fun k j a' c' kk s _ hk _ _=>old _ _ hk,fun k rows a' c' kk sz _ hs=>by simp [Eff.new,jZ] at hs,fun k hk=>⟨hF k hk,g.block k (h.mem.fz k hk).1⟩⟩ hx
  (fun k L' b _ hk hb'=>g.block b (blk k L' b hk hb')) (fun _ _=>rfl) (fun k y hu => ?_) (fun k hu => ?_) (fun k y hu => ?_) (fun k k' L1 L2 b h1 h2 hb1 hb2 => ?_) (fun k L' b hk hb' => ?_) (fun k hk => ?_) (qXQ h.mem.grow g) (fun b hb=>zWX (zGD hnone hb))
 ·simp only [Eff.new,kW] at hu;split at hu
  ·rename_i e; rw [← e]; exact hid.2
  ·cases hu
 ·simp only [Eff.new,kW] at hu;split at hu
  ·cases hu
  ·rename_i hne; exact qYG (Ne.symm hne)
 ·simp only [Eff.new,kW] at hu;split at hu
  ·rename_i he; cases hu; subst he; exact hent
  ·cases hu
 ·rcases inv k L1 h1 with ⟨e1,e2⟩ | ⟨n1,h1'⟩ <;> rcases inv k' L2 h2 with ⟨e3,e4⟩ | ⟨n2,h2'⟩
  ·rw [e1,e3]
  ·rw [e2] at hb1; have:=(hb b hb1).2.1; have:=blk k' L2 b h2' hb2; omega
  ·rw [e4] at hb2; have:=(hb b hb2).2.1; have:=blk k L1 b h1' hb1; omega
  ·exact h.mem.apart k k' L1 L2 b h1' h2' hb1 hb2
 ·rcases inv k L' hk with ⟨rfl,rfl⟩ | ⟨_,hk⟩
  ·have:=hb b hb'
   exact ⟨this.1,this.2.2,.inl (Nat.le_trans h.mem.grow.size this.2.1)⟩
  ·have:=h.mem.off k L' b hk hb'
   exact ⟨fun hf=>by rcases hF' b hf with h1 | h1; exact this.1 h1; omega,vZK this.2.1 g.size,this.2.2⟩
 ·rcases hF' k hk with h1 | h1
  ·exact ⟨vZK (h.mem.fz k h1).1 g.size,(h.mem.fz k h1).2⟩
  ·exact ⟨h1.2,.inr (.inl (Nat.le_trans h.mem.grow.size h1.1))⟩
theorem apply_frz {rs:Regs} {x:HV} {dst:Option Nat}:Eqv ((σ.apply (.frz rs .un) none).apply (.val x) dst) (σ.apply (.frz rs x) dst):=by
 have e1:∀ y,(Eff.frz rs y).up=rs.map fun r=>(r.1,none):=fun y=>by cases rs <;> rfl
 have e2:∀ y,(Eff.frz rs y).sb=rs.map fun r=>(r.1,some r.2):=fun y=>by cases rs <;> rfl
 have e3:∀ y,(Eff.frz rs y).x=y:=fun y=>by cases rs <;> rfl
 refine ⟨fun t => ?_,fun i => ?_⟩
 ·rw [qYY,qYY,qYY,e2,e2];simp only [e3];by_cases h:dst=some t
  ·rw [if_pos h,if_pos h]; rfl
  ·rw [if_neg h,if_neg h,if_neg (by simp)];cases qQY σ.S t <;> simp [Eff.val,HV.sub_nil]
 ·rw [qQF,qQF,qQF,e1,e1,e2,e2];cases yG (rs.map fun r=>(r.1,(none:Option Ent))) i with
  | some y=>cases y <;> simp [Eff.val,yG,Ent.sub_nil]
  | none=>cases zG σ.M i <;> simp [Eff.val,yG,Ent.sub_nil]
def allF (ρ:Own) (F:Nat→Prop):Nat→Prop:=fun k=>F k ∨ ∃ id L,ρ id=some L∧L.bl=some k
theorem cells_fz {M:Mem} {hc:List HV} {cs:List CV} {ps:List PV} {us:List Value} {F':Nat→Prop} (hm:MemOk E ρ F M w) (hF:∀ k,F k→F' k) (hall:∀ id ad c k s b,ρ id=some (.reg ad c k s)→ad.map (·.block)=some b→F' b) (h:mapO (cvOf M) hc=some cs) (hal:Al (RH ρ F w) hc us) (hp:mapO CV.fz cs=some ps):Al (RP F' w) ps us:=by
 have hcv:=qKC h hal;have h1:=jJ hp;refine ⟨by rw [← h1.1,hcv.1],fun i p v hpi hv => ?_⟩;have hil:=(List.getElem?_eq_some_iff.1 hpi).1;have hl:i < cs.length:=by rw [h1.1]; exact hil
 have hfz:=h1.2 i _ p (vQK hl) hpi;obtain ⟨hrh,ho⟩:=hcv.2 i _ v (vQK hl) hv;generalize cs[i]=c at hfz hrh ho;unfold CV.fz at hfz;split at hfz
 ·cases hfz; exact RP.mono (fun k hk=>⟨hF k hk,rfl⟩) hrh
 ·cases hfz; have:v=.slice none 0 0:=hrh; subst this; exact .l0 _ _
 ·rename_i id e' sz rows;cases hfz;obtain ⟨ad,c',k,sz',hρ,rfl⟩:=hrh;exact (uW (hm.ent id _ (ho _ _ _ _ rfl)) hF (fun L b hL hb=>by rw [hρ] at hL; cases hL; exact hall id _ _ _ _ b hρ hb) ad c' k sz' hρ).1
 ·cases hfz
theorem zVZ {M:Mem} {F':Nat→Prop} (hm:MemOk E ρ F M w) (hF:∀ k,F k→F' k) {r:RV} {p:PV} {v:Value} (hp:r.fz=some p) (hr:RH ρ F w r.back v) (hres:RRes M r) (hall:(r.still=true∧∀ x ∈ r.regs,∀ L b,ρ x.1=some L→L.bl=some b→F' b) ∨ ∀ id L b,ρ id=some L→L.bl=some b→F' b):RP F' w p v:=by
 have mono:∀ {p:PV} {v:Value},RP F w p v→RP F' w p v:=fun h=>h.mono fun k hk=>⟨hF k hk,rfl⟩
 cases r with
 | v x=>cases hp; exact mono hr
 | nl=>cases hp; have:v=.slice none 0 0:=hr; subst this; exact .l0 _ _
 | o id e' sz rows =>
  cases hp;obtain ⟨ad,c',k,sz',hρ,rfl⟩:=hr;refine (uW (hm.ent id _ hres) hF (fun L b hL hb => ?_) ad c' k sz' hρ).1;rcases hall with ⟨_,h⟩ | h
  ·exact h (id,rows) (by simp [RV.regs]) L b hL hb
  ·exact h id L b hL hb
 | q id j off e' sz rows =>
  cases hp;obtain ⟨b0,c',k,sz',hρ,hjk,rfl⟩:=hr;refine (uW (hm.ent id _ hres) hF (fun L b hL hb => ?_) _ c' k sz' hρ).2 b0 j off rfl hjk;rcases hall with ⟨_,h⟩ | h
  ·exact h (id,rows) (by simp [RV.regs]) L b hL hb
  ·exact h id L b hL hb
 | p id off cells =>
  rcases hall with ⟨h,_⟩ | hall
  ·simp [RV.still] at h
  ·simp only [RV.fz,vQQ,vQZ] at hp;obtain ⟨cs,hcs,rfl⟩:=hp;obtain ⟨hc,hlk,hcc⟩:=hres;obtain ⟨b,hρ,rfl⟩:=hr;obtain ⟨b2,us,ty',hρ2,hheap,hal,hone⟩:=hm.ent id _ hlk;rw [hρ] at hρ2;cases hρ2
   have:=cells_fz hm hF (fun id ad c k s b hL hb=>hall id _ b hL hb) hcc hal hcs
   exact .c cs us b off ty' (hall id _ b hρ rfl) hheap this.1 hone this.2
 | no id e' n=>cases hp
 | nq id j off e' ie isz rows pd=>cases hp
 | mi id j e' ie isz rows pd=>cases hp
 | i id off s pos=>cases hp
 | ld id i=>cases hp
 | g fn first cap =>
  simp only [RV.fz,vQQ,vQZ] at hp;obtain ⟨cs,hcs,rfl⟩:=hp;obtain ⟨fs,us,rfl,hf,hu⟩:=hr;have h1:=jJ hcs;have hu':=hu.map_left_inv;have hcap:Al (RP F' w) cs us:=by
   refine ⟨by rw [← h1.1,hu'.1],fun i p v hpi hv => ?_⟩;have hil:=(List.getElem?_eq_some_iff.1 hpi).1;have hl:i < cap.length:=by rw [h1.1]; exact hil
   have hfz:=h1.2 i _ p (vQK hl) hpi;have hrc:=hu'.2 i _ v (vQK hl) hv;have hst:=hres _ (List.getElem_mem hl);have hstill:(∃ x,cap[i]=.v x) ∨ ∀ id L b,ρ id=some L→L.bl=some b→F' b:=by
    rcases hall with ⟨h,_⟩ | h
    ·simp only [RV.still,vZZ] at h
     have:=h _ (List.getElem_mem hl)
     cases hc:cap[i] with
     | v x=>exact .inl ⟨x,rfl⟩
     | p id off cells=>rw [hc] at this; simp at this
    ·exact .inr h
   generalize cap[i]=c at hfz hrc hst hstill;cases c with
   | v x=>cases hfz; exact mono hrc
   | p id off cells =>
    rcases hstill with ⟨x,hx⟩ | hall
    ·cases hx
    ·simp only [RC.fz,vQQ,vQZ] at hfz;obtain ⟨cs',hcs',rfl⟩:=hfz;obtain ⟨hc,hlk,hcc⟩:=hst;obtain ⟨b,hρ,rfl⟩:=hrc;obtain ⟨b2,us',ty',hρ2,hheap,hal,hone⟩:=hm.ent id _ hlk;rw [hρ] at hρ2;cases hρ2
     have:=cells_fz hm hF (fun id ad c k s b hL hb=>hall id _ b hL hb) hcc hal hcs'
     exact .c cs' us' b off ty' (hall id _ b hρ rfl) hheap this.1 hone this.2
  exact .f fn first cs fs us hf.1 hcap.1 (fun i p v hp hv=>mono (hf.2 i p v hp hv)) hcap.2
 | w x=>cases hp
 | un=>cases hp
theorem catR_mem {xs:List RV} {r:RV} (hr:r ∈ xs) {y:Nat × Rows} (hy:y ∈ r.regs):y ∈ catR RV.regs xs:=mem_catR.2 ⟨r,hr,hy⟩
theorem yYZ {M:Mem} {r:RV} (hres:RRes M r):∀ y ∈ r.regs,∃ e sz,zG M y.1=some (.reg e sz y.2):=by
 cases r with
 | o id e' sz rows=>intro y hy; simp only [RV.regs,List.mem_singleton] at hy; subst hy; exact ⟨e',sz,hres⟩
 | q id j off e' sz rows=>intro y hy; simp only [RV.regs,List.mem_singleton] at hy; subst hy; exact ⟨e',sz,hres⟩
 | _=>intro y hy; cases hy
theorem ret_rel (h:Rel' E C.n ρ F σ a w) (hs:Regs) (hrs:∀ r ∈ hs,∃ e sz,zG σ.M r.1=some (.reg e sz r.2)) {F':Nat→Prop} {w':World} (gr:Grow w w') (hF:∀ k,frzF hs ρ F k→F' k) (hF':∀ k,F' k→frzF hs ρ F k ∨ (w.heap.size≤k∧k < w'.heap.size)) {dst me:Nat} {r:Ret} {v:Value} (hr:RRet F' w w' r v) (he:zWF C.T me dst hs r=some e) (hn:∀ i ∈ e.nw,qJC σ.M i) {d:Option Nat} (hd:dstB C.n d=true) :
  Rel E C.n (σ.apply e d) (a.put d v) w':=by
 have hfz:∀ k,F' k→k < w'.heap.size:=fun k hk=>by
  rcases hF' k hk with h1 | h1
  ·rcases h1 with h1 | ⟨id,L,_,hL,hb⟩
   ·exact vZK (h.mem.fz k h1).1 gr.size
   ·exact vZK (h.mem.off id L k hL hb).2.1 gr.size
  ·exact h1.2
 have nil:hs=[]→(∀ k,F k→F' k)∧(∀ k,F' k→F k ∨ (w.heap.size≤k∧k < w'.heap.size)):=by
  rintro rfl
  refine ⟨fun k hk=>hF k (.inl hk),fun k hk => ?_⟩;rcases hF' k hk with (h1 | ⟨id,L,hm,_⟩) | h1
  ·exact .inl h1
  ·cases hm
  ·exact .inr h1
 -- a pure value
 have pure:∀ (x:PV),RP F' w' x v→(∀ k,F' k→frzF hs ρ F k ∨ (w.heap.size≤k∧k < w'.heap.size))→Rel E C.n (σ.apply (.frz hs (.v x)) d) (a.put d v) w':=by
  intro x hx hF2;have h1:=h.froze hs hrs;have h2:Rel E C.n ((σ.apply (.frz hs .un) none).apply (.val (.v x)) d) (a.put d v) w':=⟨_,_,h1.val gr hF hF2 (show RH _ F' w' (.v x) v from hx) hd⟩
  exact h2.eqv apply_frz
 have pureF:∀ (x:PV),x.flat=true→RP F' w' x v→Rel E C.n (σ.apply (.val (.v x)) d) (a.put d v) w':=by
  intro x hf hx;exact ⟨ρ,F,h.val gr (fun _ h=>h) (fun _ h=>.inl h) (show RH ρ F w' (.v x) v from hx.flat hf) hd⟩
 cases r with
 | v x =>
  cases hs with
  | nil=>cases he; exact pure x hr hF'
  | cons y ys =>
   simp only [zWF] at he;cases hf:x.flat with
   | true=>rw [hf] at he; cases he; exact pureF x hf hr
   | false=>rw [hf] at he; cases he; exact pure x hr hF'
 | ow e' sz rows =>
  obtain ⟨ad,c,vr,rfl,h0,hal,hrl,hone,hown,hb⟩:=hr
  -- the slice, frozen
  have frozen:∃ F2:Nat→Prop,(∀ k,F' k→F2 k)∧(∀ k,F2 k→frzF hs ρ F k ∨ (w.heap.size≤k∧k < w'.heap.size))∧RP F2 w' rows.pv (.slice ad rows.len c):=by
   refine ⟨fun k=>F' k ∨ ad.map (·.block)=some k,fun k hk=>.inl hk,fun k hk => ?_,?_⟩
   ·rcases hk with hk | hk
    ·exact hF' k hk
    ·exact .inr (hb k hk).2
   ·exact (uW (ρ:=fun i=>if i=0 then some (.reg ad c rows.len sz) else none) (id:=0) (e:=e') (sz:=sz) (F:=F') ⟨ad,c,vr,by simp,h0,hal,hrl,hone,hown⟩ (fun k hk=>.inl hk) (fun L b hL hbl=>by simp at hL; subst hL; exact .inr hbl) ad c rows.len sz (by simp)).1
  simp only [zWF] at he;cases ho:C.T.ownR me dst with
  | true =>
   rw [ho] at he;cases hs with
   | cons y ys=>cases he
   | nil =>
    cases he;obtain ⟨n1,n2⟩:=nil rfl;exact ⟨updO ρ dst (.reg ad c rows.len sz),F',h.adopt (ent:=.reg e' sz rows) (x:=.o dst) (L:=.reg ad c rows.len sz) (hn _ (by simp [Eff.new])) gr n1 n2 hb ⟨ad,c,vr,jU _ _ _,h0,hal,hrl,hone,hown⟩ ⟨_,_,_,_,jU _ _ _,rfl⟩ hd⟩
  | false =>
   rw [ho] at he;obtain ⟨F2,f1,f2,f3⟩:=frozen;have main:Rel E C.n (σ.apply (.frz hs (.v rows.pv)) d) (a.put d (.slice ad rows.len c)) w':=by
    have h1:=h.froze hs hrs;have h2:Rel E C.n ((σ.apply (.frz hs .un) none).apply (.val (.v rows.pv)) d) (a.put d (.slice ad rows.len c)) w':=⟨_,_,h1.val gr (fun k hk=>f1 k (hF k hk)) f2 (show RH _ F2 w' (.v rows.pv) _ from f3) hd⟩
    exact h2.eqv apply_frz
   cases hs with
   | nil=>cases he; exact main
   | cons y ys=>cases he; exact main
 | pb cells =>
  cases hs with
  | cons y ys=>cases he
  | nil =>
   cases he;obtain ⟨n1,n2⟩:=nil rfl;obtain ⟨b,us,ty',rfl,hheap,hal,hone,hb1,hb2⟩:=hr;exact ⟨updO ρ dst (.blk b),F',h.adopt (ent:=.blk (cells.map .v)) (x:=.p dst 0) (L:=.blk b) (hn _ (by simp [Eff.new])) gr n1 n2 (fun b' hb'=>by simp only [Loc.bl,vQZ] at hb'; subst hb'; exact ⟨hb1,hb2⟩)
    ⟨b,us,ty',jU _ _ _,hheap,Al.map_left (show Al (fun z y=>RH (updO ρ dst (.blk b)) F' w' (HV.v z) y) cells us from hal),hone⟩ ⟨b,jU _ _ _,rfl⟩ hd⟩
theorem call_rel (hA:SndA P C.cA) (h:Rel' E C.n ρ F σ a w) {o:Oper} (hd:dstB C.n o.dst=true) {f:Nat} {args:List RV} {us:List Value} (hu:Al (fun r v=>RH ρ F w r.back v) args us) (hres:∀ r ∈ args,RRes σ.M r) (he:zJY C.T C.cA C.me (o.dst.getD 0) f args=some e) (hn:∀ i ∈ e.nw,qJC σ.M i)
  (hrun:uQ P f→(execOp a.eval o).run P w=.ok (.enter f us.toArray) w):OK P E C σ a w e o:=by
 simp only [zJY,vQQ] at he;obtain ⟨ps,hps,r,hr,he⟩:=he;obtain ⟨hent,hcall⟩:=hA f ps r hr;have h1:=jJ hps;have al:∀ (F1:Nat→Prop),(∀ k,F k→F1 k)→(∀ x ∈ args,(x.still=true∧∀ y ∈ x.regs,∀ L b,ρ y.1=some L→L.bl=some b→F1 b) ∨ ∀ id L b,ρ id=some L→L.bl=some b→F1 b)→Al (RP F1 w) ps us:=by
  intro F1 hF1 hx;refine ⟨by rw [← h1.1,hu.1],fun i p v hp hv => ?_⟩;have hil:=(List.getElem?_eq_some_iff.1 hp).1;have hl:i < args.length:=by rw [h1.1]; exact hil
  have hm:=List.getElem_mem hl;exact zVZ h.mem hF1 (h1.2 i _ p (vQK hl) hp) (hu.2 i _ v (vQK hl) hv) (hres _ hm) (hx _ hm)
 unfold OK Goes;rw [hrun hent];simp only;cases hst:args.all RV.still with
 | true =>
  rw [hst] at he;simp only [vYV] at he;have hrs:∀ y ∈ catR RV.regs args,∃ e sz,zG σ.M y.1=some (.reg e sz y.2):=fun y hy=>by
   obtain ⟨x,hx,hy'⟩:=mem_catR.1 hy;exact yYZ (hres x hx) y hy'
  refine Calls.mono (hcall w (frzF (catR RV.regs args) ρ F) us (fun k hk => ?_) (al _ (fun k hk=>.inl hk) fun x hx=>.inl ⟨List.all_eq_true.1 hst x hx,fun y hy L b hL hb=>.inr ⟨y.1,L,List.mem_map.2 ⟨y,catR_mem hx hy,rfl⟩,hL,hb⟩⟩)) fun en w' ⟨v,F',hv,gr,hF,hF',hrr⟩=>⟨v,hv,ret_rel h _ hrs gr hF hF' hrr he hn hd⟩
  rcases hk with hk | ⟨id,L,_,hL,hb⟩
  ·exact (h.mem.fz k hk).1
  ·exact (h.mem.off id L k hL hb).2.1
 | false =>
  rw [hst] at he;simp only [vYG] at he;cases r with
  | v x =>
   simp only at he;obtain ⟨hf,he⟩:=qQ he;cases he;refine Calls.mono (hcall w (allF ρ F) us (fun k hk => ?_) (al _ (fun k hk=>.inl hk) fun x hx=>.inr fun id L b hL hb=>.inr ⟨id,L,hL,hb⟩)) fun en w' ⟨v,F',hv,gr,hF,hF',hrr⟩=>⟨v,hv,ρ,F,h.val gr (fun _ h=>h) (fun _ h=>.inl h) (show RH ρ F w' (.v x) v from RP.flat hrr hf) hd⟩
   rcases hk with hk | ⟨id,L,hL,hb⟩
   ·exact (h.mem.fz k hk).1
   ·exact (h.mem.off id L k hL hb).2.1
  | ow e' sz rows =>
   cases rows with
   | fo n f =>
    simp only at he;obtain ⟨hf,he⟩:=qQ he;obtain ⟨hn16,he⟩:=qQ he;cases he;have hfl:∀ r ∈ (Rows.fo n f).L,∀ p ∈ r,p.flat1=true:=fun r hr p hp=>by
     obtain ⟨v,hv,rfl⟩:=List.mem_map.1 hr;exact List.all_eq_true.1 (List.all_eq_true.1 hf v (List.mem_range.2 (by have:=List.mem_range.1 hv; have:=vJZ hn16; omega))) p hp
    refine Calls.mono (hcall w (allF ρ F) us (fun k hk => ?_) (al _ (fun k hk=>.inl hk) fun x hx=>.inr fun id L b hL hb=>.inr ⟨id,L,hL,hb⟩)) fun en w' ⟨v,F',hv,gr,hF,hF',hrr⟩ => ?_
    ·rcases hk with hk | ⟨id,L,hL,hb⟩
     ·exact (h.mem.fz k hk).1
     ·exact (h.mem.off id L k hL hb).2.1
    ·obtain ⟨ad,c,vr,rfl,h0,hal,hrl,hone,hown,hb⟩:=hrr;have hal2:Al (Al (RP (fun k=>F k ∨ ad.map (·.block)=some k) w')) (Rows.fo n f).L vr:=hal.imp fun r u hr hru=>hru.imp fun p q hp hpq=>hpq.flat1 (hfl r hr p hp)
     have fr:=(uW (ρ:=fun i=>if i=0 then some (.reg ad c n sz) else none) (id:=0) (e:=e') (sz:=sz) (rows:=.fo n f) (F:=fun k=>F k ∨ ad.map (·.block)=some k) (F':=fun k=>F k ∨ ad.map (·.block)=some k) ⟨ad,c,vr,by simp [Rows.len],h0,hal2,hrl,hone,hown⟩ (fun k hk=>hk) (fun L b hL hbl=>by simp at hL; subst hL; exact .inr hbl) ad c n sz (by simp)).1;exact ⟨_,hv,ρ,_,h.val gr (fun k hk=>.inl hk) (fun k hk=>hk.imp id fun hk=>(hb k hk).2) (show RH ρ _ w' (.v (.lf n f)) _ from fr) hd⟩
   | l rows =>
   simp only at he;obtain ⟨hf,he⟩:=qQ he;cases he;refine Calls.mono (hcall w (allF ρ F) us (fun k hk => ?_) (al _ (fun k hk=>.inl hk) fun x hx=>.inr fun id L b hL hb=>.inr ⟨id,L,hL,hb⟩)) fun en w' ⟨v,F',hv,gr,hF,hF',hrr⟩ => ?_
   ·rcases hk with hk | ⟨id,L,hL,hb⟩
    ·exact (h.mem.fz k hk).1
    ·exact (h.mem.off id L k hL hb).2.1
   ·obtain ⟨ad,c,vr,rfl,h0,hal,hrl,hone,hown,hb⟩:=hrr;have hal2:Al (Al (RP (fun k=>F k ∨ ad.map (·.block)=some k) w')) rows vr:=hal.imp fun r u hr hru=>hru.imp fun p q hp hpq=>hpq.flat1 (List.all_eq_true.1 (List.all_eq_true.1 hf r hr) p hp)
    have fr:=(uW (ρ:=fun i=>if i=0 then some (.reg ad c rows.length sz) else none) (id:=0) (e:=e') (sz:=sz) (rows:=.l rows) (F:=fun k=>F k ∨ ad.map (·.block)=some k) (F':=fun k=>F k ∨ ad.map (·.block)=some k) ⟨ad,c,vr,by simp [Rows.len],h0,hal2,hrl,hone,hown⟩ (fun k hk=>hk) (fun L b hL hbl=>by simp at hL; subst hL; exact .inr hbl) ad c rows.length sz (by simp [Rows.len])).1;exact ⟨_,hv,ρ,_,h.val gr (fun k hk=>.inl hk) (fun k hk=>hk.imp id fun hk=>(hb k hk).2) (show RH ρ _ w' (.v (.l rows)) _ from fr) hd⟩
  | _=>cases he
end
end Go.Rx

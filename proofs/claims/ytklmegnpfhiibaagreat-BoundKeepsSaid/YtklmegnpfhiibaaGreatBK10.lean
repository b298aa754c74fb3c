/- Part 10 of the texts behind the last one: rules and contracts. No condition. -/
import Derived.Test.YtklmegnpfhiibaaGreatBK9
open Option renaming bind_eq_some_iff → vQQ, map_eq_some_iff → vZK
open Option.some renaming injEq → vQZ
open Bool renaming and_eq_true → vQJ
open List renaming getElem?_eq_getElem → vQK, mem_of_getElem? → vQW, mem_cons_of_mem → vQV, mem_cons_self → vQG, getElem?_map → vQH
open Nat renaming eq_of_beq_eq_true → vQU, lt_of_lt_of_le → vZZ
namespace Go.Rx
open Go.RowKit Go.Sx
section
variable {P:Program} {E:Env} {C:Cx} {ρ:Own} {F:Nat→Prop} {σ:St} {a:Act} {w:World} {vs:List RV} {e:Eff}
variable {d:Option Tmp} {ty:TypeId} {pos:String} {af:Array Edge} {g:Option (Nat × Bool)}
theorem slc_cells {sz b off:Nat} {vn:List (List Value)} (hF:qJA sz (some ⟨b,off,none⟩) vn w) (hall:∀ r ∈ vn,r.length=sz) (hs0:0 < sz):∀ j u,vn.flatten[j]? = some u→w.cell? ((⟨b,off,none⟩:Addr).add j)=some u:=fun j v hj=>by
 have hjl:=(List.getElem?_eq_some_iff.1 hj).1;rw [rows_len vn hall] at hjl;have hd:j / sz < vn.length:=(Nat.div_lt_iff_lt_mul hs0).2 hjl;have hmod:=Nat.mod_lt j hs0;have hrow:vn[j / sz]? = some vn[j / sz]:=vQK hd;have hg:=qXB (sz:=sz) vn hall (j / sz) _ hrow (j % sz) hmod;rw [show j / sz * sz + j % sz=j by rw [Nat.mul_comm]; exact Nat.div_add_mod j sz] at hg;obtain ⟨_,b1,off1,he,_,hc⟩:=hF _ _ hrow;simp only [vQZ,Addr.mk.injEq,and_true] at he;obtain ⟨rfl,rfl⟩:=he
 have:=hc _ hmod
 rw [← hg,hj,Nat.add_assoc,show j / sz * sz + j % sz=j by rw [Nat.mul_comm]; exact Nat.div_add_mod j sz] at this;rw [qYK];exact this
theorem zJQ (h:Rel' E C.n ρ F σ a w) {id e' sz:Nat} {rows:Rows} {v:Value} (hl:qV σ.M id=some (.reg e' sz rows)) (hv:RH ρ F w (.o id) v):∃ ad c vr,ρ id=some (.reg ad c rows.len sz)∧v=.slice ad rows.len c∧0 < sz∧Al (Al (RP F w)) rows.L vr∧(∀ r ∈ rows.L,r.length=sz)∧(∀ r ∈ vr,r.length=sz)∧(∀ v ∈ vr,∀ u ∈ v,u.oneCell'=true) ∧
  w.ownsRow 0 e' sz (.slice ad rows.len c) rows.len vr.flatten∧qJA sz ad vr w:=by
 obtain ⟨ad,c,k,sz',hρ,rfl⟩:=hv;obtain ⟨a2,c2,vr,hρ2,h0,hal,hrl,hone,hown⟩:=h.mem.ent id _ hl;rw [hρ] at hρ2;simp only [vQZ,Loc.reg.injEq] at hρ2;obtain ⟨rfl,rfl,rfl,rfl⟩:=hρ2;have hvr:=zVD hal hrl;refine ⟨ad,c,vr,hρ,rfl,h0,hal,hrl,hvr,hone,hown,?_⟩
 have:OwnF 0 e' sz' ad c vr.length vr.flatten w:=by unfold OwnF; rw [← hal.1,Rows.len_L]; exact hown
 exact zKZ hvr this
theorem news_at (h:Rel' E C.n ρ F σ a w) {y:RV} {nw:Rows} {news:List (List PV)} {v:Value} {sz:Nat} (hy:zXW y=some nw) (hN:nw.L=news) (hv:RH ρ F w y.back v) (hr:RRes σ.M y) (hok:zYA news 0 sz=true) (hs0:0 < sz):∃ ad c,v=.slice ad news.length c ∧
  (news=[] ∨ ∃ b off vn,ad=some ⟨b,off,none⟩∧Al (Al (RP F w)) news vn∧(∀ r ∈ news,r.length=sz)∧(∀ r ∈ vn,r.length=sz)∧(∀ v ∈ vn,∀ u ∈ v,u.oneCell'=true)∧∀ j u,vn.flatten[j]? = some u→w.cell? ((⟨b,off,none⟩:Addr).add j)=some u):=by
 by_cases hne:news=[]
 ·subst hne;cases y with
  | v p =>
   cases p with
   | l rows =>
    cases hy;have hN':rows=[]:=hN;subst hN';obtain ⟨ad,c,h,_⟩:=rp_l hv; exact ⟨ad,c,h,.inl rfl⟩
   | lf n f =>
    cases hy;have hN':(List.range n).map f=[]:=hN;have hv':=zUC hv;rw [hN'] at hv';obtain ⟨ad,c,h,_⟩:=rp_l hv'; exact ⟨ad,c,h,.inl rfl⟩
   | ne =>
    have hv':RP F w .ne v:=hv;cases hv' with
    | ne ad c=>exact ⟨some ad,c,rfl,.inl rfl⟩
   | _=>cases hy
  | nl=>exact ⟨none,0,hv,.inl rfl⟩
  | o id e' sz' rows =>
   cases hy;obtain ⟨ad,c,vr,_,rfl,_⟩:=zJQ h hr hv;rw [← Rows.len_L,hN];exact ⟨ad,c,rfl,.inl rfl⟩
  | _=>cases hy
 ·have hlen:0 < news.length:=List.length_pos_iff.2 hne;have hk:∀ {k:Nat},(∀ r ∈ news,r.length=k)→k=sz:=fun {k} hr=>by
   unfold zYA at hok;rw [vQK hlen] at hok;simp only [Option.all_some] at hok;rw [← hr _ (List.getElem_mem hlen)]; exact vQU hok
  have slc:∀ {v:Value},RP F w (.l news) v→∃ ad c,v=.slice ad news.length c∧(news=[] ∨ ∃ b off vn,ad=some ⟨b,off,none⟩∧Al (Al (RP F w)) news vn∧(∀ r ∈ news,r.length=sz)∧(∀ r ∈ vn,r.length=sz)∧(∀ v ∈ vn,∀ u ∈ v,u.oneCell'=true)∧∀ j u,vn.flatten[j]? = some u→w.cell? ((⟨b,off,none⟩:Addr).add j)=some u):=by
    intro v hv;cases hv with
    | l0=>exact absurd rfl hne
    | l _ b off n c sz' g' hn hcap hs hF hc hh =>
     have:=hk hs
     subst this;subst hn;refine ⟨_,c,rfl,.inr ⟨b,off,(List.range news.length).map fun j=>(List.range sz').map (g' j),rfl,⟨by simp,fun j r u hr hu => ?_⟩,hs,fun r hr => ?_,fun r hr u hu => ?_,?_⟩⟩
     ·rw [vQH,vZK] at hu;obtain ⟨m,hm,rfl⟩:=hu;have hm2:=List.getElem?_eq_some_iff.1 hm;obtain ⟨hm3,hm4⟩:=hm2;simp at hm3 hm4;subst hm4;refine ⟨by simp [hs r (vQW hr)],fun t p v hp hv => ?_⟩;rw [vQH,vZK] at hv;obtain ⟨m,hm,rfl⟩:=hv;have hm2:=List.getElem?_eq_some_iff.1 hm;obtain ⟨hm5,hm6⟩:=hm2;simp at hm5 hm6;subst hm6;exact hh j r t p hr hp
     ·obtain ⟨j,_,rfl⟩:=List.mem_map.1 hr; simp
     ·obtain ⟨j,hj,rfl⟩:=List.mem_map.1 hr;obtain ⟨t,ht,rfl⟩:=List.mem_map.1 hu;exact (hc j t (List.mem_range.1 hj) (List.mem_range.1 ht)).2
     ·refine slc_cells (sz:=sz') (fun j r hj => ?_) (fun r hr=>by obtain ⟨j,_,rfl⟩:=List.mem_map.1 hr; simp) hs0;rw [vQH,vZK] at hj;obtain ⟨m,hm,rfl⟩:=hj;have hm2:=List.getElem?_eq_some_iff.1 hm;obtain ⟨hm3,hm4⟩:=hm2;simp at hm3 hm4;subst hm4;refine ⟨by simp,b,off,rfl,(h.mem.fz b hF).1,fun k hk => ?_⟩;rw [Nat.add_assoc,(hc j k hm3 hk).1]; simp [hk]
  cases y with
  | v p =>
   cases p with
   | lf n f =>
    cases hy;have hv':=zUC hv;have hN':(List.range n).map f=news:=hN;rw [hN'] at hv';exact slc hv'
   | l rows =>
    cases hy;have hN':rows=news:=hN;subst hN';exact slc hv
   | ne=>cases hy; exact absurd hN.symm hne
   | _=>cases hy
  | nl=>cases hy; exact absurd hN.symm hne
  | o id e' sz' rows =>
   cases hy;obtain ⟨ad,c,vr,hρ,rfl,h0,hal,hrl,hvr,hone,hown,hslc⟩:=zJQ h hr hv;rw [← Rows.len_L] at hρ ⊢;rw [hN] at hal hrl ⊢
   have:=hk hrl
   subst this;obtain ⟨u,hu,_⟩:=hal.get (vQK hlen);obtain ⟨_,b,off,rfl,_,_⟩:=hslc 0 u hu;exact ⟨_,c,rfl,.inr ⟨b,off,vr,rfl,hal,hrl,hvr,hone,slc_cells hslc hvr h0⟩⟩
  | _=>cases hy
theorem qXW {t e' k bytes l c cy:Nat} {ty:TypeId} {base ady:Option Addr} (happ:appB P t e' k bytes=true) (hle:l≤c) (w:World) :
  (Builtin.append_ #[t,t] ty #[.slice base l c,.slice ady 0 cy]).run P w=.ok (.slice base l c) w:=by
 unfold appB at happ;cases hu:P.underlying t with
 | none=>simp [hu] at happ
 | some ds =>
  cases ds <;> simp [hu] at happ
  rename_i el;cases hi:P.info? e' with
  | none=>simp [hi] at happ
  | some i =>
   simp [hi] at happ;obtain ⟨⟨⟨⟨rfl,h2⟩,h3⟩,h4⟩,h5⟩:=happ;cases base <;> cases ady <;> simp [Builtin.append_,run_underlying hu,sizeOf,typeInfo,hi,hle,storeCells,loadCells,loadCellsFrom,Builtin.lenOf,Builtin.firstCells]
theorem run_append_ze {w:World} {t e size bytes:Nat} {ty:TypeId} (hB:appB P t e size bytes=true) (base:Option Addr)
  {ad:Addr} {m c:Nat} {news:List Value} (hm:0 < m) (hl:news.length=m * size) (hnews:∀ j u,news[j]? = some u→w.cell? (ad.add j)=some u) (h1:∀ u ∈ news,u.oneCell'=true)
  (h63:m≤9223372036854775807) (hby:m * bytes≤140737488355328) :
  (Builtin.append_ #[t,t] ty #[.slice base 0 0,.slice (some ad) m c]).run P w=(Builtin.append_ #[t,t] ty #[.slice none 0 0,.slice (some ad) m c]).run P w:=by
 unfold appB at hB;cases hu:P.underlying t with
 | none=>simp [hu] at hB
 | some ds =>
  cases ds <;> simp [hu] at hB
  rename_i e';cases hi:P.info? e with
  | none=>simp [hi] at hB
  | some i =>
   simp [hi] at hB;obtain ⟨⟨⟨⟨rfl,h2⟩,h3⟩,h4⟩,h5⟩:=hB;cases hz:i.zero with
   | none=>simp [hz] at h5
   | some z =>
    subst h2; subst h3;have hs:Src P i.size t (.slice (some ad) m c) m news w:=Src.ofSlice w hu ad m c news hl hnews h1;have hf:Builtin.nextslicecap (0 + m) 0 * i.bytes≤281474976710656:=growslice_fits (by omega) (by rw [Nat.zero_add]; exact hby);have hold:∀ b:Option Addr,(Builtin.firstCells i.size 0 (.slice b 0 0)).run P w.drew=.ok ([]:List Value).toArray w.drew:=fun b=>by
     cases b with
     | none=>exact run_firstCells_none w.drew i.size 0 0 0
     | some a=>exact run_firstCells_some w.drew i.size 0 a 0 0 [] (by simp) (fun j u h=>by simp at h)
    rw [run_append_grow_src w t t ty e' i z hu hi hz base 0 0 [] (hold base) _ m news hs (by omega) (by omega) hf,run_append_grow_src w t t ty e' i z hu hi hz none 0 0 [] (hold none) _ m news hs (by omega) (by omega) hf]
theorem Rel'.appN {n:Nat} (h:Rel' E n ρ F σ a w) {id j e ie isz:Nat} {rows:NR} (hl:qV σ.M id=some (.nst e ie isz rows none)) (hj:j < rows.len) {r r':Rows} {av av':Option Addr} {cv cv':Nat} (hρ:ρ (nid id j)=some (.inn av cv r.len isz)) {vr':List (List Value)} {w':World}
  (g:GrowB (fun k=>av.map (·.block)=some k) w w') (hb:∀ b,av'.map (·.block)=some b→av.map (·.block)=some b ∨ (w.heap.size≤b∧b < w'.heap.size)) (hal:Al (Al (RP F w)) r'.L vr') (hrl:∀ x ∈ r'.L,x.length=isz) (hone:∀ x ∈ vr',∀ u ∈ x,u.oneCell'=true)
  (hown:w'.ownsRow 0 ie isz (.slice av' r'.len cv') r'.len vr'.flatten) {dst:Option Nat} (hd:dstB n dst=true) :
  Rel' E n (updO ρ (nid id j) (.inn av' cv' r'.len isz)) F (σ.apply ⟨[(id,some (.nst e ie isz rows (some (j,r'))))],[(mid id,none)],.mp id j,[]⟩ dst) (a.put dst (.slice av' r'.len cv')) w':=by
 have hlt:=h.mem.ord id _ hl;have hoff:=fun b hb=>h.mem.off (nid id j) _ b hρ hb
 have fzb:∀ k,F k→w'.heap[k]? = w.heap[k]?:=fun k hk=>g.block k (h.mem.fz k hk).1 fun e=>(hoff k e).1 hk
 have hF:∀ k,F k→F k∧w'.heap[k]? = w.heap[k]?:=fun k hk=>⟨hk,fzb k hk⟩
 obtain ⟨a0,c0,H,q1,q2,q3,q4,_,q6⟩:=h.mem.ent id _ hl;have idne:id ≠ nid id j:=by have:=qKI id j; omega
 have old:∀ k L1,ρ k=some L1→k ≠ nid id j→updO ρ (nid id j) (.inn av' cv' r'.len isz) k=some L1:=fun k L1 hk hne=>by rw [qYA hne]; exact hk
 have oldn:∀ k L1,ρ k=some L1→L1.inner=false→k ≠ nid id j:=fun k L1 hk hi e=>by subst e; rw [hρ] at hk; cases hk; cases hi
 have inv:∀ k L1,updO ρ (nid id j) (.inn av' cv' r'.len isz) k=some L1→(k=nid id j∧L1=.inn av' cv' r'.len isz) ∨ (k ≠ nid id j∧ρ k=some L1):=fun k L1 hk=>by
  by_cases e:k=nid id j
  ·subst e; rw [yW] at hk; cases hk; exact .inl ⟨rfl,rfl⟩
  ·rw [qYA e] at hk; exact .inr ⟨e,hk⟩
 have offs:∀ k L1 b,ρ k=some L1→L1.bl=some b→k ≠ nid id j→av.map (·.block) ≠ some b:=fun k L1 b hk hb1 hne he=>hne (h.mem.apart k (nid id j) L1 _ b hk hρ hb1 he)
 refine h.apply2 ⟨[(id,some (.nst e ie isz rows (some (j,r'))))],[(mid id,none)],.mp id j,[]⟩ dst _ (fun d e=>by subst e; simpa [dstB] using hd)
  ⟨fun k b hk=>old k _ hk (oldn k _ hk rfl),fun k L' hk _ hi=>old k L' hk (oldn k _ hk hi),fun k i a' c' kk s hk2 hk _ hs2=>old _ _ hk fun e => ?_,fun k rows a' c' kk sz _ hs=>(by simp only [qQU] at hs; split at hs <;> cases hs),hF⟩
  ⟨_,_,_,_,⟨yW _ _ _,rfl⟩,hlt,_,_,_,_,old id _ q1 idne,hj⟩
  (fun k L' b' hu hun hk hb'=>g.block b' (h.mem.off k L' b' hk hb').2.1 (offs k L' b' hk hb' fun e => ?_)) (fun k hk _ => ?_) (fun k hk hu => ?_) (fun k y hu => ?_) (fun k L' hu hL hi => ?_) (fun k y hu => ?_) (fun k L' hL hi => ?_) (fun k k' L1 L2 b' h1 h2 hb1 hb2 => ?_) (fun k L' b' hk hb' => ?_) (fun k hk=>⟨vZZ (h.mem.fz k hk).1 g.size,(h.mem.fz k hk).2⟩) ?_ (fun b hb=>zYG (qHW q1 hb))
 ·have:=(zZI hk2 hlt e).1
  subst this; simp [qQU] at hs2
 ·have:=hun id j e
  simp only [jX,if_true] at this; cases this
 ·simp only [qQU]; rw [if_neg (by unfold mid; omega)]
 ·simp only [jX] at hu;simp only [qQU];split at hu
  ·cases hu
  ·rename_i hne; rw [if_neg (by unfold mid; omega)]
 ·simp only [jX] at hu;split at hu
  ·rename_i e; rw [← e]; exact hlt
  ·cases hu
 ·rcases inv k L' hL with ⟨_,rfl⟩ | ⟨_,h3⟩
  ·cases hi
  ·exact h3
 ·simp only [jX] at hu;split at hu
  ·rename_i he;cases hu;subst he;refine ⟨a0,c0,H,old id _ q1 idne,q2,qZK q3 fun b hb'=>g.block b (h.mem.off id _ b q1 hb').2.1 (offs id _ b q1 hb' idne),q4,(fun j2 r2 e2=>by cases e2; exact hj),fun v hv => ?_⟩;by_cases e:v=j
   ·subst e;exact ⟨r',av',cv',vr',by unfold yQY; simp,yW _ _ _,fun hne=>absurd rfl (hne r'),hal.imp fun _ _ _ h=>h.imp fun _ _ _ h=>h.mono hF,hrl,hone,hown⟩
   ·obtain ⟨r1,av1,cv1,vr1,p1,p2,p3,p4,p5,p6,p7⟩:=q6 v hv;have hne:nid id v ≠ nid id j:=fun e2=>e (zZI hlt hlt e2).2
    exact ⟨r1,av1,cv1,vr1,by unfold yQY at p1 ⊢; simpa [e] using p1,old _ _ p2 hne,fun _=>p3 (fun r' hr'=>by cases hr'),p4.imp fun _ _ _ h=>h.imp fun _ _ _ h=>h.mono hF,p5,p6,qZK p7 fun b hb'=>g.block b (h.mem.off _ _ b p2 hb').2.1 (offs _ _ b p2 hb' hne)⟩
  ·cases hu
 ·rcases inv k L' hL with ⟨rfl,_⟩ | ⟨_,h3⟩
  ·exact qKI id j
  ·exact h.mem.inr k L' h3 hi
 ·have cross:∀ k L1 b,k ≠ nid id j→ρ k=some L1→L1.bl=some b→av'.map (·.block)=some b→False:=fun k L1 b hne hk hb1 hb2=>by
   rcases hb b hb2 with h3 | h3
   ·exact offs k L1 b hk hb1 hne h3
   ·have:=(h.mem.off k L1 b hk hb1).2.1; omega
  rcases inv k L1 h1 with ⟨e1,rfl⟩ | ⟨n1,h1'⟩
  ·rcases inv k' L2 h2 with ⟨e2,_⟩ | ⟨n2,h2'⟩
   ·rw [e1,e2]
   ·exact (cross k' L2 b' n2 h2' hb2 hb1).elim
  ·rcases inv k' L2 h2 with ⟨_,rfl⟩ | ⟨n2,h2'⟩
   ·exact (cross k L1 b' n1 h1' hb1 hb2).elim
   ·exact h.mem.apart k k' L1 L2 b' h1' h2' hb1 hb2
 ·rcases inv k L' hk with ⟨_,rfl⟩ | ⟨_,hk'⟩
  ·rcases hb b' hb' with h3 | h3
   ·have:=hoff b' h3; exact ⟨this.1,vZZ this.2.1 g.size,this.2.2⟩
   ·exact ⟨fun hf=>by have:=(h.mem.fz b' hf).1; omega,h3.2,.inl (Nat.le_trans h.mem.grow.size h3.1)⟩
  ·have:=h.mem.off k L' b' hk' hb'
   exact ⟨this.1,vZZ this.2.1 g.size,this.2.2⟩
 ·refine ⟨g.os.trans h.mem.grow.os,g.tape.trans h.mem.grow.tape,g.output.trans h.mem.grow.output,Nat.le_trans h.mem.grow.size g.size,fun k hk hW => ?_⟩;rw [g.block k (vZZ hk h.mem.grow.size) fun e => ?_]
  ·exact h.mem.grow.block k hk hW
  ·rcases (hoff k e).2.2 with h1 | h1
   ·omega
   ·exact hW h1
theorem grown_grow {w w':World} (h:w.grownBy w' none):Grow w w':=⟨h.os,h.tape,h.output,h.size,fun k hk=>h.block k hk (by simp)⟩
theorem ok_append {args:Array Operand} {ats:Array TypeId} (hT:TabOk P C.T) (h:Rel' E C.n ρ F σ a w) (hd:dstB C.n d=true) (hvs:mapO (opv 0 σ) (#[] ++ args).toList=some vs) (he:qU C.T C.cA C.cB C.me (d.getD 0) (.call ⟨.builtin .append,args,ats⟩) vs=some e) (hn:∀ i ∈ e.nw,qJB σ.M i) :
  OK P E C σ a w e ⟨d,.call ⟨.builtin .append,args,ats⟩,ty,pos,af,g⟩:=by
 match vs with
 | []=>simp only [qU] at he; cases he
 | [_]=>simp only [qU] at he; cases he
 | _ :: _ :: _ :: _=>simp only [qU] at he; cases he
 | [x,y] =>
  obtain ⟨p,q,rfl,hp,hq⟩:=arr2 hvs;obtain ⟨vx,x1,x2,x3⟩:=yU h hp;obtain ⟨vy,y1,y2,y3⟩:=yU h hq;simp only [qU] at he;split at he
  case h_2=>cases he
  case h_1 t t' hats =>
  replace he:=qQ he
  obtain ⟨htt,he⟩:=he
  replace htt:=vQU htt
  subst htt;have hats':ats=#[t,t]:=by rw [← Array.toArray_toList (xs:=ats),hats]
  subst hats';simp only [vQQ] at he;obtain ⟨⟨el,sz⟩,hsl,nw,hnews,he⟩:=he;obtain ⟨hok,he⟩:=qQ he;have hok:=Rows.ok_L hok;obtain ⟨news,hN⟩:∃ news,nw.L=news:=⟨_,rfl⟩
  have hNl:nw.len=news.length:=by rw [← hN,Rows.len_L]
  rw [hN] at hok;obtain ⟨hslc,hs0,hsk,bytes,happ,hby,hbd,hbd2⟩:=hT.sl t el sz hsl;obtain ⟨ady,cy,rfl,hnn⟩:=news_at h hnews hN y2 y3 hok hs0;have run:∀ {v:Value} {w':World},(Builtin.append_ #[t,t] ty #[vx,.slice ady news.length cy]).run P w=.ok v w'→(execOp a.eval ⟨d,.call ⟨.builtin .append,#[p,q],#[t,t]⟩,ty,pos,af,g⟩).run P w=.ok (.value v) w':=fun {v w'} hr=>by
   simp [execOp,resolve,invoke,builtin,uQ h x1,uQ h y1,hr]
  have small:∀ m,m≤C.T.bd el→m * bytes≤140737488355328:=fun m hm=>Nat.le_trans (Nat.mul_le_mul_right bytes hm) hbd
  cases x with
  | nl =>
   simp only at he;obtain ⟨hlen,he⟩:=qQ he;cases he;have hlen:=vYU hlen;rw [hNl] at hlen
   have:vx=.slice none 0 0:=x2
   subst this;have hid:=hn (d.getD 0) (by simp [Eff.new]);rcases hnn with rfl | ⟨b,off,vn,rfl,hal,hnl,hvl,hone,hcell⟩
   ·refine qQQ (run (qXW happ (Nat.le_refl _) w)) ?_;exact qGJ hN (ad:=none) (rows:=[]) (vr:=[]) (c:=0) h hd hid (Grow.refl w) (fun b hb=>by cases hb) hs0 Al.nil (fun r hr=>by cases hr) (fun v hv=>by cases hv) ⟨by simp,.inl ⟨rfl,rfl⟩⟩
   ·by_cases h0:news.length=0
    ·have:=List.eq_nil_of_length_eq_zero h0
     subst this;refine qQQ (run (qXW happ (Nat.le_refl _) w)) ?_;exact qGJ hN (ad:=none) (rows:=[]) (vr:=[]) (c:=0) h hd hid (Grow.refl w) (fun b hb=>by cases hb) hs0 Al.nil (fun r hr=>by cases hr) (fun v hv=>by cases hv) ⟨by simp,.inl ⟨rfl,rfl⟩⟩
    ·obtain ⟨gg,cap,w',hr,ho,hg,hgg⟩:=qKB (P:=P) (w:=w) (base:=0) (ty:=ty) happ (v:=.slice none 0 0) (k:=0) (ys:=[]) ⟨by simp,.inl ⟨rfl,rfl⟩⟩ (ad:=⟨b,off,none⟩) (m:=news.length) (c:=cy) (news:=vn.flatten) (by omega) (by rw [rows_len vn hvl,hal.1]) hcell
      (fun u hu=>by obtain ⟨r,hr,hur⟩:=List.mem_flatten.1 hu; exact hone r hr u hur) (by omega) (by rw [Nat.zero_add]; exact small _ hlen) (Nat.zero_le _)
     rw [Nat.zero_add] at hr ho;refine qQQ (run hr) ?_;rcases hgg with hgg | hgg
     ·cases hgg
     ·refine qGJ hN (rows:=news) (vr:=vn) (c:=cap) h hd hid (grown_grow hg) (fun b hb => ?_) hs0 hal hnl hone (by simpa using ho);simp only [Option.map_some,vQZ] at hb;subst hb;refine ⟨hgg,?_⟩;rcases ho.2 with ⟨hx,_⟩ | ⟨g2,cap2,cur,hsl2,_,hg2,_⟩
      ·cases hx
      ·simp only [Value.slice.injEq,vQZ,Addr.mk.injEq,and_true] at hsl2;rw [hsl2.1]; exact qZW hg2
  | v px =>
   cases px with
   | ze =>
    simp only at he;obtain ⟨hlen,he⟩:=qQ he;cases he;simp only [vQJ,decide_eq_true_eq] at hlen;obtain ⟨hlen,h00⟩:=hlen;rw [hNl] at hlen h00;obtain ⟨ad0,rfl⟩:∃ ad0,vx=.slice ad0 0 0:=by
     cases x2 with
     | ze ad0=>exact ⟨ad0,rfl⟩
    have hid:=hn (d.getD 0) (by simp [Eff.new]);rcases hnn with rfl | ⟨b,off,vn,rfl,hal,hnl,hvl,hone,hcell⟩
    ·exact absurd h00 (by simp)
    ·have hvn:vn.flatten.length=news.length * sz:=by rw [rows_len vn hvl,hal.1]
     have hone':∀ u ∈ vn.flatten,u.oneCell'=true:=fun u hu=>by obtain ⟨r,hr,hur⟩:=List.mem_flatten.1 hu; exact hone r hr u hur
     have hze:=run_append_ze (P:=P) (w:=w) (ty:=ty) happ ad0 (ad:=⟨b,off,none⟩) (m:=news.length) (c:=cy) (news:=vn.flatten) h00 hvn hcell hone' (by omega) (small _ hlen);obtain ⟨gg,cap,w',hr,ho,hg,hgg⟩:=qKB (P:=P) (w:=w) (base:=0) (ty:=ty) happ (v:=.slice none 0 0) (k:=0) (ys:=[]) ⟨by simp,.inl ⟨rfl,rfl⟩⟩ (ad:=⟨b,off,none⟩) (m:=news.length) (c:=cy) (news:=vn.flatten) (by omega) hvn hcell hone' (by omega) (by rw [Nat.zero_add]; exact small _ hlen) (Nat.zero_le _);rw [← hze] at hr;rw [Nat.zero_add] at hr ho;refine qQQ (run hr) ?_;rcases hgg with hgg | hgg
     ·cases hgg
     ·refine qGJ hN (rows:=news) (vr:=vn) (c:=cap) h hd hid (grown_grow hg) (fun b hb => ?_) hs0 hal hnl hone (by simpa using ho);simp only [Option.map_some,vQZ] at hb;subst hb;refine ⟨hgg,?_⟩;rcases ho.2 with ⟨hx,_⟩ | ⟨g2,cap2,cur,hsl2,_,hg2,_⟩
      ·cases hx
      ·simp only [Value.slice.injEq,vQZ,Addr.mk.injEq,and_true] at hsl2;rw [hsl2.1]; exact qZW hg2
   | _=>cases he
  | o id e' sz' rows =>
   simp only at he;obtain ⟨hb,he⟩:=qQ he;cases he;simp only [vQJ,decide_eq_true_eq] at hb;obtain ⟨⟨⟨hb1,hb2⟩,hlen⟩,_⟩:=hb;rw [hNl] at hlen;have hb1:=vQU hb1;have hb2:=vQU hb2;subst hb1; subst hb2;obtain ⟨ad,c,vr,hρ,rfl,h0,hral,hrl,hvrl,hrone,hown,hslc2⟩:=zJQ h x3 x2;have hAL:(rows.app nw).L=rows.L ++ news:=by rw [Rows.app_L,hN]
   have hAl:(rows.app nw).len=(rows.L ++ news).length:=by rw [← Rows.len_L,hAL]
   have hRl:=rows.len_L;have finish:∀ {ad':Option Addr} {c':Nat} {vn:List (List Value)} {w':World},GrowB (fun k=>(Loc.reg ad c rows.len sz').bl=some k) w w'→(∀ b,ad'.map (·.block)=some b→ad.map (·.block)=some b ∨ (w.heap.size≤b∧b < w'.heap.size))→Al (Al (RP F w)) news vn→(∀ r ∈ news,r.length=sz')→(∀ v ∈ vn,∀ u ∈ v,u.oneCell'=true) →
     w'.ownsRow 0 e' sz' (.slice ad' (rows.L ++ news).length c') (rows.L ++ news).length (vr ++ vn).flatten→Rel E C.n (σ.apply (.app id (.reg e' sz' (rows.app nw)) (.o id)) d) (a.put d (.slice ad' (rows.L ++ news).length c')) w':=by
    intro ad' c' vn w' gB hb hnal hnl hnone how;have hF:∀ k,F k→F k∧w'.heap[k]? = w.heap[k]?:=fun k hk=>⟨hk,gB.block k (h.mem.fz k hk).1 fun e=>(h.mem.off id _ k hρ e).1 hk⟩
    refine ⟨updO ρ id (.reg ad' c' (rows.L ++ news).length sz'),F,h.app (L':=.reg ad' c' (rows.L ++ news).length sz') (ent:=.reg e' sz' (rows.app nw)) (x:=.o id) hρ ⟨_,_,_,_,rfl⟩ gB hb ⟨ad',c',vr ++ vn,by rw [hAl]; exact yW _ _ _,h0,by rw [hAL]; exact (hral.append hnal).imp fun _ _ _ h=>h.imp fun _ _ _ h=>h.mono hF,fun r hr => ?_,fun r hr => ?_,by rw [hAl]; exact how⟩ ⟨_,_,_,_,yW _ _ _,rfl⟩ hd⟩
    ·rw [hAL] at hr;rcases List.mem_append.1 hr with hr | hr
     ·exact hrl r hr
     ·exact hnl r hr
    ·rcases List.mem_append.1 hr with hr | hr
     ·exact hrone r hr
     ·exact hnone r hr
   have capk:rows.len≤c:=by
    rcases hown.2 with ⟨hx,h00⟩ | ⟨g2,cap2,cur,hsl2,_,_,hc,_⟩
    ·omega
    ·simp only [Value.slice.injEq] at hsl2;omega
   have empty:news=[]→OK P E C σ a w (.app id (.reg e' sz' (rows.app nw)) (.o id)) ⟨d,.call ⟨.builtin .append,#[p,q],#[t,t]⟩,ty,pos,af,g⟩:=by
    rintro rfl
    refine qQQ (run (qXW happ capk w)) ?_
    have:=finish (ad':=ad) (c':=c) (vn:=[]) (GrowB.refl _ w) (fun b hb=>.inl hb) Al.nil (fun r hr=>by cases hr) (fun v hv=>by cases hv) (by simpa [hRl] using hown)
    simpa [hRl] using this
   rcases hnn with rfl | ⟨b,off,vn,rfl,hal,hnl,hvl,hone,hcell⟩
   ·exact empty rfl
   ·by_cases h00:news.length=0
    ·exact empty (List.eq_nil_of_length_eq_zero h00)
    ·obtain ⟨gg,cap,w',hr,ho,hg,hgg⟩:=qKB (P:=P) (w:=w) (base:=0) (ty:=ty) happ (v:=.slice ad rows.len c) (k:=rows.len) (ys:=vr.flatten) hown (ad:=⟨b,off,none⟩) (m:=news.length) (c:=cy) (news:=vn.flatten) (by omega) (by rw [rows_len vn hvl,hal.1]) hcell
      (fun u hu=>by obtain ⟨r,hr,hur⟩:=List.mem_flatten.1 hu; exact hone r hr u hur) (by omega) (small _ hlen) (Nat.zero_le _)
     refine qQQ (run hr) ?_;have hob:(Value.slice ad rows.len c).ownBlock=ad.map (·.block):=by cases ad <;> rfl
     rw [hob] at hg hgg
     have:=finish (ad':=some ⟨gg,0,none⟩) (c':=cap) (vn:=vn) (w':=w') ⟨hg.os,hg.tape,hg.output,hg.size,fun k hk hne=>hg.block k hk fun e=>hne e.symm⟩ (fun b hb => ?_) hal hnl hone (by rw [List.flatten_append,List.length_append,hRl]; exact ho)
     ·rw [List.length_append,hRl] at this; exact this
     ·simp only [Option.map_some,vQZ] at hb;subst hb;rcases hgg with hgg | hgg
      ·exact .inl hgg
      ·refine .inr ⟨hgg,?_⟩;rcases ho.2 with ⟨hx,_⟩ | ⟨g2,cap2,cur,hsl2,_,hg2,_⟩
       ·cases hx
       ·simp only [Value.slice.injEq,vQZ,Addr.mk.injEq,and_true] at hsl2;rw [hsl2.1]; exact qZW hg2
  | mi id j e' ie isz rows pd =>
   cases pd with
   | some q=>simp only at he; cases he
   | none =>
   simp only at he;obtain ⟨hb,he⟩:=qQ he;simp only [vQQ] at he;obtain ⟨r,hr,he⟩:=he;obtain ⟨hlen0,he⟩:=qQ he;cases he;have hlen:=vYU hlen0
   clear hlen0
   simp only [vQJ] at hb;obtain ⟨⟨hb1,hb2⟩,_⟩:=hb;rw [hNl] at hlen;have hb1:=vQU hb1;have hb2:=vQU hb2;subst hb1; subst hb2;obtain ⟨ad,c,k,sz',⟨hρ,rfl⟩,hlt,a0,c0,k0,s0,hρ0,hj⟩:=x2;obtain ⟨a1,c1,H,q1,q2,q3,q4,_,q6⟩:=h.mem.ent id _ x3;rw [hρ0] at q1;simp only [vQZ,Loc.reg.injEq] at q1;obtain ⟨_,_,rfl,_⟩:=q1;obtain ⟨r1,av,cv,vr,p1,p2,p3,hral,hrl,hrone,hown⟩:=q6 j hj;have er:r1=r:=by
    have p1':rows.at j=some r1:=p1;rw [hr] at p1'; exact (Option.some.inj p1').symm
   subst er;have hρ':=hρ;rw [p2] at hρ';simp only [vQZ,Loc.inn.injEq] at hρ';obtain ⟨rfl,rfl,rfl,rfl⟩:=hρ';have hvrl:=zVD hral hrl;have hAL:(r1.app nw).L=r1.L ++ news:=by rw [Rows.app_L,hN]
   have hAl:(r1.app nw).len=(r1.L ++ news).length:=by rw [← Rows.len_L,hAL]
   have hRl:=r1.len_L;have finish:∀ {ad':Option Addr} {c':Nat} {vn:List (List Value)} {w':World},GrowB (fun k=>av.map (·.block)=some k) w w'→(∀ b,ad'.map (·.block)=some b→av.map (·.block)=some b ∨ (w.heap.size≤b∧b < w'.heap.size))→Al (Al (RP F w)) news vn→(∀ r ∈ news,r.length=isz)→(∀ v ∈ vn,∀ u ∈ v,u.oneCell'=true) →
     w'.ownsRow 0 ie isz (.slice ad' (r1.L ++ news).length c') (r1.L ++ news).length (vr ++ vn).flatten→Rel E C.n (σ.apply ⟨[(id,some (.nst e' ie isz rows (some (j,r1.app nw))))],[(mid id,none)],.mp id j,[]⟩ d) (a.put d (.slice ad' (r1.L ++ news).length c')) w':=by
    intro ad' c' vn w' gB hb hnal hnl hnone how
    have:=h.appN (id:=id) (j:=j) x3 hj hρ (r':=r1.app nw) (av':=ad') (cv':=c') (vr':=vr ++ vn) gB hb (by rw [hAL]; exact hral.append hnal) (fun x hx => ?_) (fun x hx => ?_) (by rw [hAl]; exact how) hd
    ·rw [hAl] at this; exact ⟨_,_,this⟩
    ·rw [hAL] at hx;rcases List.mem_append.1 hx with hx | hx
     ·exact hrl x hx
     ·exact hnl x hx
    ·rcases List.mem_append.1 hx with hx | hx
     ·exact hrone x hx
     ·exact hnone x hx
   have capk:r1.len≤cv:=by
    rcases hown.2 with ⟨hx,h00⟩ | ⟨g2,cap2,cur,hsl2,_,_,hc,_⟩
    ·omega
    ·simp only [Value.slice.injEq] at hsl2;omega
   have empty:news=[]→OK P E C σ a w ⟨[(id,some (.nst e' ie isz rows (some (j,r1.app nw))))],[(mid id,none)],.mp id j,[]⟩ ⟨d,.call ⟨.builtin .append,#[p,q],#[t,t]⟩,ty,pos,af,g⟩:=by
    rintro rfl
    refine qQQ (run (qXW happ capk w)) ?_
    have:=finish (ad':=av) (c':=cv) (vn:=[]) (GrowB.refl _ w) (fun b hb=>.inl hb) Al.nil (fun r hr=>by cases hr) (fun v hv=>by cases hv) (by simpa [hRl] using hown)
    simpa [hRl] using this
   rcases hnn with rfl | ⟨b,off,vn,rfl,hal,hnl,hvl,hone,hcell⟩
   ·exact empty rfl
   ·by_cases h00:news.length=0
    ·exact empty (List.eq_nil_of_length_eq_zero h00)
    ·obtain ⟨gg,cap,w',hr,ho,hg,hgg⟩:=qKB (P:=P) (w:=w) (base:=0) (ty:=ty) happ (v:=.slice av r1.len cv) (k:=r1.len) (ys:=vr.flatten) hown (ad:=⟨b,off,none⟩) (m:=news.length) (c:=cy) (news:=vn.flatten) (by omega) (by rw [rows_len vn hvl,hal.1]) hcell
      (fun u hu=>by obtain ⟨r,hr,hur⟩:=List.mem_flatten.1 hu; exact hone r hr u hur) (by omega) (small _ hlen) (Nat.zero_le _)
     refine qQQ (run hr) ?_;have hob:(Value.slice av r1.len cv).ownBlock=av.map (·.block):=by cases av <;> rfl
     rw [hob] at hg hgg
     have:=finish (ad':=some ⟨gg,0,none⟩) (c':=cap) (vn:=vn) (w':=w') ⟨hg.os,hg.tape,hg.output,hg.size,fun k hk hne=>hg.block k hk fun e=>hne e.symm⟩ (fun b hb => ?_) hal hnl hone (by rw [List.flatten_append,List.length_append,hRl]; exact ho)
     ·rw [List.length_append,hRl] at this; exact this
     ·simp only [Option.map_some,vQZ] at hb;subst hb;rcases hgg with hgg | hgg
      ·exact .inl hgg
      ·refine .inr ⟨hgg,?_⟩;rcases ho.2 with ⟨hx,_⟩ | ⟨g2,cap2,cur,hsl2,_,hg2,_⟩
       ·cases hx
       ·simp only [Value.slice.injEq,vQZ,Addr.mk.injEq,and_true] at hsl2;rw [hsl2.1]; exact qZW hg2
  | _=>simp only at he; cases he
end
end Go.Rx
namespace Go.Rx
open Go.RowKit Go.Sx
section
variable {P:Program} {E:Env} {C:Cx} {ρ:Own} {F:Nat→Prop} {σ:St} {a:Act} {w:World} {vs:List RV} {e:Eff}
variable {d:Option Tmp} {ty:TypeId} {pos:String} {af:Array Edge} {g:Option (Nat × Bool)}
theorem qHQ {e:Eff} {rs:Regs} {id:Nat} {ent:Ent} {dst:Option Nat} (hup:e.up=[(id,some ent)]) (hsb:e.sb=[]) (hid:id ∉ rs.map (·.1)):Eqv ((σ.apply (.frz rs .un) none).apply e dst) (σ.apply (e.and rs) dst):=by
 have e1:(Eff.frz rs .un).up=rs.map fun r=>(r.1,none):=by cases rs <;> rfl
 have e2:(Eff.frz rs .un).sb=rs.map fun r=>(r.1,some r.2):=by cases rs <;> rfl
 have e3:(e.and rs).up=e.up ++ rs.map fun r=>(r.1,none):=by cases rs <;> simp [Eff.and]
 have e4:(e.and rs).sb=rs.map fun r=>(r.1,some r.2):=by cases rs <;> simp [Eff.and,hsb]
 have e5:(e.and rs).x=e.x:=by cases rs <;> rfl
 have ap:∀ (l l':List (Nat × Option Ent)) i,yZ (l ++ l') i=match yZ l' i with | some y=>some y | none=>yZ l i:=by
  intro l l' i;induction l with
  | nil=>simp only [List.nil_append]; cases yZ l' i <;> rfl
  | cons x l ih =>
   simp only [List.cons_append,yZ,ih];cases yZ l' i <;> rfl
 refine ⟨fun t => ?_,fun i => ?_⟩
 ·rw [qYV,qYV,qYV,e4,e5,e2,hsb];by_cases h:dst=some t
  ·rw [if_pos h,if_pos h]
  ·rw [if_neg h,if_neg h,if_neg (by simp)];cases kH σ.S t <;> simp [HV.sub_nil]
 ·rw [qQY,qQY,qQY,e1,e2,e3,e4,hsb,ap,hup,jX];by_cases hm:i ∈ rs.map (·.1)
  ·have hne:¬ id=i:=fun e=>hid (e ▸ hm)
   cases hu:yZ (rs.map fun r=>(r.1,(none:Option Ent))) i with
   | none=>exact absurd hm (up_none_iff.1 hu)
   | some x=>obtain ⟨rfl,_⟩:=zWZ hu; simp [hne]
  ·rw [up_none_iff.2 hm];by_cases hi:id=i
   ·simp [hi]
   ·simp only [if_neg hi];cases qV σ.M i <;> simp [Ent.sub_nil]
theorem put_none (a:Act) (v:Value):a.put none v=a:=rfl
theorem Rel'.froze (h:Rel' E C.n ρ F σ a w) (rs:Regs) (hrs:∀ r ∈ rs,∃ e sz,qV σ.M r.1=some (.reg e sz r.2)):Rel' E C.n (frzρ rs ρ) (frzF rs ρ F) (σ.apply (.frz rs .un) none) a w:=by
 have:=h.frz rs hrs (x:=.un) (v:=undef) (dst:=none) rfl trivial
 rwa [put_none] at this
theorem zYX {rs:Regs} {id:Nat} (h:id ∉ rs.map (·.1)):frzρ rs ρ id=ρ id:=by simp only [frzρ,if_neg h]
theorem frz_look {rs:Regs} {id e' sz:Nat} {rows:Rows} (h:id ∉ rs.map (·.1)) (hl:qV σ.M id=some (.reg e' sz rows)):qV (σ.apply (.frz rs .un) none).M id=some (.reg e' sz rows):=by
 have e1:(Eff.frz rs .un).up=rs.map fun r=>(r.1,none):=by cases rs <;> rfl
 rw [qQY,e1,up_none_iff.2 h,hl]; rfl
theorem frz_look_none {rs:Regs} {id:Nat} (h:qJB σ.M id) (hrs:∀ r ∈ rs,∃ e sz,qV σ.M r.1=some (.reg e sz r.2)):qJB (σ.apply (.frz rs .un) none).M id∧id ∉ rs.map (·.1):=by
 have hn:id ∉ rs.map (·.1):=fun hm=>by
  obtain ⟨r,hr,rfl⟩:=List.mem_map.1 hm;obtain ⟨e',sz,hl⟩:=hrs r hr;rw [h.1] at hl; cases hl
 have e1:(Eff.frz rs .un).up=rs.map fun r=>(r.1,none):=by cases rs <;> rfl
 exact ⟨⟨by rw [qQY,e1,up_none_iff.2 hn,h.1]; rfl,h.2⟩,hn⟩
theorem qHG (h:Rel' E C.n ρ F σ a w) (rs:Regs) {r:RV} {c:List PV × Regs} {v:Value} (hc:r.pcells=some c) (hr:RH ρ F w r.back v) (hres:RRes σ.M r) (hin:∀ x ∈ c.2,x ∈ rs) :
  Al (RP (frzF rs ρ F) w) c.1 v.cells.toList∧(∀ u ∈ v.cells.toList,u.oneCell'=true)∧∀ x ∈ c.2,∃ e sz,qV σ.M x.1=some (.reg e sz x.2):=by
 have hF:∀ k,F k→frzF rs ρ F k∧w.heap[k]? = w.heap[k]?:=fun k hk=>⟨.inl hk,rfl⟩
 cases r with
 | v p =>
  cases p with
  | t cs=>cases hc
  | a cs =>
   cases hc;obtain ⟨us,rfl,hal,h1⟩:=qGZ hr;exact ⟨show Al _ cs us from hal.imp fun _ _ _ h=>h.mono hF,fun u hu=>h1 u hu,fun x hx=>by cases hx⟩
  | lf n f =>
   cases hc;have hm:=RP.mono hF hr;have hr2:=zUC hr;generalize (List.range n).map f=rows at hr2;cases hr2 <;> exact ⟨Al.cons hm Al.nil,fun u hu=>by simp [Value.cells] at hu; subst hu; rfl,fun x hx=>by cases hx⟩
  | zf n f j o =>
   cases hc;have hm:=RP.mono hF hr;obtain ⟨_,b,off,sz,g,rfl,_⟩:=zWX hr;exact ⟨Al.cons hm Al.nil,fun u hu=>by simp [Value.cells] at hu; subst hu; rfl,fun x hx=>by cases hx⟩
  | _ =>
   cases hc;have hr2:RP F w _ v:=hr;have hm:=hr2.mono hF;cases hr2 <;> exact ⟨Al.cons hm Al.nil,fun u hu=>by simp [Value.cells] at hu; subst hu; rfl,fun x hx=>by cases hx⟩
 | nl =>
  cases hc
  have:v=.slice none 0 0:=hr
  subst this;exact ⟨Al.cons (.l0 _ _) Al.nil,fun u hu=>by simp [Value.cells] at hu; subst hu; rfl,fun x hx=>by cases hx⟩
 | o id e' sz rows =>
  cases hc;have hr2:=hr;obtain ⟨ad,c',k,sz',hρ,rfl⟩:=hr2
  have:=(uZ (h.mem.ent id _ hres) (F':=frzF rs ρ F) (fun k hk=>.inl hk) (fun L b hL hb=>.inr ⟨id,L,List.mem_map.2 ⟨(id,rows),hin _ (by simp),rfl⟩,hL,hb⟩) ad c' k sz' hρ).1
  exact ⟨Al.cons this Al.nil,fun u hu=>by simp [Value.cells] at hu; subst hu; rfl,fun x hx=>by simp at hx; subst hx; exact ⟨e',sz,hres⟩⟩
 | _=>cases hc
theorem zZE (h:Rel' E C.n ρ F σ a w) (rs:Regs):∀ {vs:List RV} {us:List Value} {r:List (List PV) × Regs},zUD vs=some r→Al (fun r v=>RH ρ F w r.back v) vs us→(∀ x ∈ vs,RRes σ.M x)→(∀ x ∈ r.2,x ∈ rs) →
  Al (fun ps (v:Value)=>Al (RP (frzF rs ρ F) w) ps v.cells.toList∧∀ u ∈ v.cells.toList,u.oneCell'=true) r.1 us∧∀ x ∈ r.2,∃ e sz,qV σ.M x.1=some (.reg e sz x.2)
 | [],us,r,hp,hal,_,_=>by cases hp; rw [hal.nil_left]; exact ⟨Al.nil,fun x hx=>by cases hx⟩
 | x :: xs,us,r,hp,hal,hres,hin=>by
  simp only [zUD,vQQ,vQZ] at hp;obtain ⟨c,hc,r',hr',rfl⟩:=hp;obtain ⟨u,us',rfl,hu,hal'⟩:=hal.cons_left;have hcat:∀ y,y ∈ (match c.2 with | []=>r'.2 | q=>q ++ r'.2) ↔ y ∈ c.2 ∨ y ∈ r'.2:=fun y=>by cases hc2:c.2 <;> simp [or_assoc]
  obtain ⟨p1,p2,p3⟩:=qHG h rs hc hu (hres x vQG) (fun y hy=>hin y ((hcat y).2 (.inl hy)));obtain ⟨q1,q2⟩:=zZE h rs hr' hal' (fun y hy=>hres y (vQV _ hy)) (fun y hy=>hin y ((hcat y).2 (.inr hy)));exact ⟨Al.cons ⟨p1,p2⟩ q1,fun y hy=>by rcases (hcat y).1 hy with h | h; exact p3 y h; exact q2 y h⟩
theorem spliceV_of {cs vs:List Value} {off:Nat} (h:off + vs.length≤cs.length):qYU cs off vs=some (cs.take off ++ vs ++ cs.drop (off + vs.length)):=by
 induction cs generalizing off vs with
 | nil =>
  simp at h;obtain ⟨rfl,rfl⟩:=h;rfl
 | cons c cs ih =>
  cases off with
  | zero =>
   cases vs with
   | nil=>simp [qYU]
   | cons v vs=>simp at h; simp [qYU,ih (off:=0) (vs:=vs) (by omega),qXD]
  | succ off=>simp at h; simp [qYU,ih (off:=off) (vs:=vs) (by omega),qXD,show off + 1 + vs.length=off + vs.length + 1 by omega]
variable {α:Type} {R:α→Value→Prop}
theorem zUJ {pl:List (Nat × Nat)}:∀ {cells:List α} {is:List Nat} {ps:List (List α)} {cs:List α} {zs us:List Value},yQE pl cells is ps=some cs→Al (fun p v=>R p v∧v.oneCell'=true) cells zs→Al (fun ps (v:Value)=>Al R ps v.cells.toList∧∀ u ∈ v.cells.toList,u.oneCell'=true) ps us →
  ∃ ws,qVZ pl zs (is.zip us)=some ws∧Al (fun p v=>R p v∧v.oneCell'=true) cs ws
 | cells,[],[],cs,zs,us,hf,hz,hu=>by cases hf; rw [hu.nil_left]; exact ⟨zs,rfl,hz⟩
 | cells,i :: is,p :: ps,cs,zs,us,hf,hz,hu=>by
  obtain ⟨u,us',rfl,⟨hu1,hu2⟩,hu'⟩:=hu.cons_left;simp only [yQE,vQQ] at hf;obtain ⟨x,hx,hf⟩:=hf;obtain ⟨hb,hf⟩:=qQ hf;simp only [vQQ] at hf;obtain ⟨cs',hcs,hf⟩:=hf;obtain ⟨e1,e2⟩:=qWY hcs;have hlen:u.cells.toList.length=p.length:=hu1.1.symm;have hz2:Al (fun p v=>R p v∧v.oneCell'=true) cs' (zs.take x.1 ++ u.cells.toList ++ zs.drop (x.1 + u.cells.toList.length)):=by
   rw [e1,hlen];refine ((hz.take _).append ?_).append (hz.drop _);exact ⟨hu1.1,fun j q v hq hv=>⟨hu1.2 j q v hq hv,hu2 v (vQW hv)⟩⟩
  obtain ⟨ws,h1,h2⟩:=zUJ hf hz2 hu';refine ⟨ws,?_,h2⟩;obtain ⟨off,size⟩:=x;simp only [List.zip_cons_cons,qVZ,hx];have hbe:Nat.beq u.cells.size size=true:=by
   have:u.cells.size=p.length:=by rw [← hlen]; simp
   rw [this]; exact hb
  rw [hbe,vYZ,spliceV_of (by rw [hlen,← hz.1]; exact e2)];exact h1
 | _,[],_ :: _,_,_,_,hf,_,_=>by cases hf
 | _,_ :: _,[],_,_,_,hf,_,_=>by cases hf
theorem zUU {S:yY}:∀ {ps:List (Nat × Operand)} {us:List Value},evs S (ps.map (·.2))=some us→evp S ps=some ((ps.map (·.1)).zip us)
 | [],us,h=>by cases h; rfl
 | (i,x) :: ps,us,h=>by
  simp only [List.map_cons,evs] at h;cases hx:ev S x with
  | none=>rw [hx] at h; cases h
  | some v =>
   rw [hx] at h;obtain ⟨l,hl,rfl⟩:=kK h;simp [evp,hx,zUU hl,qXD]
theorem rhc_toC {p:PV} {v:Value} (h:RP F w p v):RHc ρ F w p.toC v:=by
 cases p with
 | zs=>cases h; rfl
 | _=>exact h
theorem ccells_rel {r:RV} {c:List HC} {v:Value} (hc:r.ccells=some c) (hr:RH ρ F w r.back v):Al (RHc ρ F w) c v.cells.toList∧∀ u ∈ v.cells.toList,u.oneCell'=true:=by
 cases r with
 | v p =>
  cases p with
  | t cs=>cases hc
  | a cs =>
   cases hc;obtain ⟨us,rfl,hal,h1⟩:=qGZ hr;exact ⟨Al.map_left (show Al (fun z y=>RHc ρ F w (PV.toC z) y) cs us from hal.imp fun _ _ _ h=>rhc_toC h),fun u hu=>h1 u hu⟩
  | lf n f =>
   cases hc;have hm:RP F w (.lf n f) v:=hr;have hr2:=zUC hr;generalize (List.range n).map f=rows at hr2;cases hr2 <;> exact ⟨Al.cons hm Al.nil,fun u hu=>by simp [Value.cells] at hu; subst hu; rfl⟩
  | zf n f j o =>
   cases hc;have hm:RP F w (.zf n f j o) v:=hr;obtain ⟨_,b,off,sz,g,rfl,_⟩:=zWX hr;exact ⟨Al.cons hm Al.nil,fun u hu=>by simp [Value.cells] at hu; subst hu; rfl⟩
  | zs =>
   cases hc;have hr2:RP F w .zs v:=hr;cases hr2;exact ⟨Al.cons (rfl:RHc ρ F w .nl _) Al.nil,fun u hu=>by simp [Value.cells] at hu; subst hu; rfl⟩
  | _ =>
   cases hc;have hr2:RP F w _ v:=hr;have hm:=hr2;cases hr2 <;> exact ⟨Al.cons hm Al.nil,fun u hu=>by simp [Value.cells] at hu; subst hu; rfl⟩
 | nl =>
  cases hc
  have:v=.slice none 0 0:=hr
  subst this;exact ⟨Al.cons (rfl:RHc ρ F w .nl _) Al.nil,fun u hu=>by simp [Value.cells] at hu; subst hu; rfl⟩
 | o id e' sz rows =>
  cases hc;have hr2:=hr;obtain ⟨ad,c',k,sz',hρ,rfl⟩:=hr2;exact ⟨Al.cons (⟨ad,c',k,sz',hρ,rfl⟩:RHc ρ F w (.o id) _) Al.nil,fun u hu=>by simp [Value.cells] at hu; subst hu; rfl⟩
 | w x =>
  cases x with
  | ag cs =>
   cases hc;obtain ⟨us,rfl,hal,h1⟩:=hr;exact ⟨hal,h1⟩
  | _=>cases hc
 | _=>cases hc
theorem cparts_rel:∀ {vs:List RV} {us:List Value} {r:List (List HC)},mapO RV.ccells vs=some r→Al (fun r v=>RH ρ F w r.back v) vs us →
  Al (fun ps (v:Value)=>Al (RHc ρ F w) ps v.cells.toList∧∀ u ∈ v.cells.toList,u.oneCell'=true) r us
 | [],us,r,hp,hal=>by cases hp; rw [hal.nil_left]; exact Al.nil
 | x :: xs,us,r,hp,hal=>by
  simp only [mapO,vQQ,vQZ] at hp;obtain ⟨c,hc,r',hr',rfl⟩:=hp;obtain ⟨u,us',rfl,hu,hal'⟩:=hal.cons_left;exact Al.cons (ccells_rel hc hu) (cparts_rel hr' hal')
theorem ok_build {t:TypeId} {ps:Array (Nat × Operand)} (hT:TabOk P C.T) (h:Rel' E C.n ρ F σ a w) (hd:dstB C.n d=true) (hvs:mapO (opv 0 σ) ((ps.toList.map (·.2)).toArray).toList=some vs) (he:qU C.T C.cA C.cB C.me (d.getD 0) (.build t ps) vs=some e):OK P E C σ a w e ⟨d,.build t ps,ty,pos,af,g⟩:=by
 rw [show ((ps.toList.map (·.2)).toArray).toList=ps.toList.map (·.2) from rfl] at hvs;obtain ⟨us,u1,u2,u3⟩:=zQD h hvs;simp only [qU,vQQ,vQZ] at he;obtain ⟨zs,hzs,pl,hpl,he⟩:=he;obtain ⟨z,hly,hzal⟩:=hT.ly t pl hpl;cases hag:(C.T.agf C.me && vs.any RV.isO) with
 | true =>
  rw [hag,vYZ] at he;simp only [vQQ,vQZ] at he;obtain ⟨r,hr,cs,hcs,rfl⟩:=he;obtain ⟨ws,f1,f2⟩:=zUJ (R:=RHc ρ F w) hcs (Al.map_left ((hzal zs hzs).imp fun _ _ _ h=>⟨rhc_toC (h.1 F w),h.2⟩)) (cparts_rel hr u2);have hop:OpV P ⟨w,[]⟩ (actS a) [] ⟨d,.build t ps,ty,pos,af,g⟩ (.agg ws.toArray):=by
   have:=opV_build (P:=P) (w0:=⟨w,[]⟩) (H:=[]) (d:=d) (ty:=ty) (pos:=pos) (af:=af) (g:=g) hly (zUU u1) f1
   simpa using this
  refine zG h hop ?_ hd;exact ⟨ws,rfl,f2.imp fun _ _ _ h=>h.1,fun v hv=>by
   obtain ⟨i,hi⟩:=List.mem_iff_getElem?.1 hv;have hil:=(List.getElem?_eq_some_iff.1 hi).1;have hl:i < cs.length:=by rw [f2.1]; exact hil
   exact (f2.2 i _ v (vQK hl) hi).2⟩
 | false =>
 rw [hag,vYY] at he;simp only [vQQ,vQZ] at he;obtain ⟨r,hr,cs,hcs,rfl⟩:=he;obtain ⟨p1,p2⟩:=zZE h r.2 hr u2 u3 (fun x hx=>hx);obtain ⟨ws,f1,f2⟩:=zUJ (R:=RP (frzF r.2 ρ F) w) hcs ((hzal zs hzs).imp fun _ _ _ h=>⟨h.1 _ _,h.2⟩) p1;have hop:OpV P ⟨w,[]⟩ (actS a) [] ⟨d,.build t ps,ty,pos,af,g⟩ (.agg ws.toArray):=by
  have:=opV_build (P:=P) (w0:=⟨w,[]⟩) (H:=[]) (d:=d) (ty:=ty) (pos:=pos) (af:=af) (g:=g) hly (zUU u1) f1
  simpa using this
 refine sim_frz r.2 h p2 hop ?_ hd;exact RP.a cs ws f2.1 (fun v hv=>by
  obtain ⟨i,hi⟩:=List.mem_iff_getElem?.1 hv;have hil:=(List.getElem?_eq_some_iff.1 hi).1;have hl:i < cs.length:=by rw [f2.1]; exact hil
  exact (f2.2 i _ v (vQK hl) hi).2) (fun i p v hp hv=>(f2.2 i p v hp hv).1)
end
end Go.Rx

/- Part 14 of the texts behind the last one: rules and contracts. No condition. -/
import Derived.Test.YtgmbkkkbfbocnaaGreatKL13
open Option renaming bind_eq_some_iff → vQQ
open Option.some renaming injEq → vQZ
open Bool renaming and_eq_true → vQJ
open List renaming getElem?_eq_getElem → vQK, mem_of_getElem? → vQG, mem_cons_self → vZQ, all_eq_true → vZZ, getElem?_take → vZV
open Nat renaming eq_of_beq_eq_true → vQX, lt_of_lt_of_le → vZK
namespace Go.Rx
open Go.RowKit Go.Sx
section
variable {P:Program} {E:Env} {C:Cx} {ρ:Own} {F:Nat→Prop} {σ:St} {a:Act} {w:World} {vs:List RV} {e:Eff}
variable {d:Option Tmp} {ty:TypeId} {pos:String} {af:Array Edge} {g:Option (Nat × Bool)}
theorem disj1 {id:Nat} {l:List Nat} (h:disj [id] l=true):id ∉ l:=yYV h id vZQ
theorem ok_store_reg {t:TypeId} {x y:Operand} {id j off e' sz:Nat} {rows:Rows} {yr:RV} {c:List PV × Regs} {r r':List PV} {k:Bool × Nat} {v u:Value} (hT:TabOk P C.T) (h:Rel' E C.n ρ F σ a w) (hk:C.T.sz t=some k) (hx:ev (actS a) x=some v) (hy:ev (actS a) y=some u)
  (hv:RH ρ F w (.q id j off) v) (hl:zH σ.M id=some (.reg e' sz rows)) (hu:RH ρ F w yr.back u) (hres:RRes σ.M yr) (hc:yr.pcells=some c) (hr0:rows.at j=some r) (hlen:c.1.length=k.2) (hdis:id ∉ c.2.map (·.1)) (hsp:qUK r off c.1=some r') (hd:dstB C.n d=true) :
  OK P E C σ a w ((Eff.set id (.reg e' sz (rows.set j r')) .un).and c.2) ⟨d,.store t x y,ty,pos,af,g⟩:=by
 obtain ⟨p1,p2,p3⟩:=pcells_rel h c.2 hc hu hres (fun x hx=>hx);have h1:=h.froze c.2 p3;obtain ⟨b,cc,kk,sz',hρ,hjk,rfl⟩:=hv;have hl1:=frz_look hdis hl;have hρ1:frzρ c.2 ρ id=some (.reg (some ⟨b,0,none⟩) cc kk sz'):=by rw [frzρ_keep hdis]; exact hρ
 obtain ⟨ad,c2,vr,q1,q2,q3,q4,q5,q6,q7,q8,q9⟩:=yKZ h1 hl1 (v:=.slice (some ⟨b,0,none⟩) kk cc) ⟨_,_,_,_,hρ1,rfl⟩;simp only [Value.slice.injEq] at q2;obtain ⟨rfl,rfl,rfl⟩:=q2;rw [hρ1] at q1;simp only [vQZ,Loc.reg.injEq] at q1;obtain ⟨_,_,_,rfl⟩:=q1;have hr:=Rows.at_L hr0 hjk;have hsL:=Rows.set_L rows j r';have hsl0:(rows.set j r').len=rows.L.length:=by rw [← Rows.len_L,hsL,List.length_set]
 rw [← Rows.len_L] at hρ1 q8;obtain ⟨e1,e2⟩:=zZX hsp;obtain ⟨ur,hur,hral⟩:=q4.get hr;have hjl:=(List.getElem?_eq_some_iff.1 hr).1;have hrl:r.length=sz':=q5 r (vQG hr);have hvl:u.cells.toList.length=c.1.length:=p1.1.symm;have hfl:=qZV vr q6;have hle:j * sz' + sz'≤rows.L.length * sz':=by
  have:=Nat.mul_le_mul_right sz' (show j + 1≤rows.L.length from hjl)
  rw [Nat.add_mul] at this; omega
 rcases q8.2 with ⟨hnil,_⟩ | ⟨gg,cap,cur,hsl,_,hg,hcap,hmax,hcur,htake⟩
 ·simp at hnil
 simp only [Value.slice.injEq,vQZ,Addr.mk.injEq,and_true,true_and] at hsl;obtain ⟨rfl,rfl⟩:=hsl;have hcapsz:rows.L.length * sz'≤cc * sz':=Nat.mul_le_mul_right _ hcap;have hst:=run_storeCells_at P b (j * sz' + off) e' u.cells.toList 0 cur w hg (by rw [hvl]; omega) p2;obtain ⟨R,hR,hst'⟩:∃ R:List Value,R=cur.toList.take (j * sz' + off) ++ u.cells.toList ++ cur.toList.drop (j * sz' + off + u.cells.toList.length)∧(storeCells ⟨b,j * sz' + off,none⟩ u.cells.toList 0).run P w=.ok () (w.setRow b R.toArray):=⟨_,rfl,by simpa using hst⟩
 have hrun:(execOp a.eval ⟨d,.store t x y,ty,pos,af,g⟩).run P w=.ok .skip (w.setRow b R.toArray):=by
  have hz:u.cells.size=k.2:=by rw [← hlen,← hvl]; simp
  have hTt:=qUJ (hT.sz t k.1 k.2 hk).1;simp [execOp,qYU h hx,qYU h hy,Instr.storeAt,Instr.sureAddr,storeVar,hTt,hz,hst']
 have hset:=setRow_heap w b _ R.toArray e' _ hg;have hoff:=h1.mem.off id _ b hρ1 rfl;have hF:∀ k,frzF c.2 ρ F k→frzF c.2 ρ F k∧(w.setRow b R.toArray).heap[k]? = w.heap[k]?:=fun k hk=>⟨hk,(GrowB.set b w R.toArray).block k (h1.mem.fz k hk).1 fun e=>by subst e; exact hoff.1 hk⟩
 have hcl:cur.toList.length=cc * sz':=by simpa using hcur
 have hsplit:cur.toList=vr.flatten ++ cur.toList.drop (rows.L.length * sz'):=by rw [← htake]; exact (List.take_append_drop _ _).symm
 have hnew:(ur.take off ++ u.cells.toList ++ ur.drop (off + u.cells.toList.length)).length=sz':=by
  have:ur.length=sz':=q6 ur (vQG hur)
  simp only [List.length_append,List.length_take,List.length_drop,hvl,this];rw [hrl] at e2;omega
 have hfr:=splice_rows (off:=off) (vals:=u.cells.toList) q6 hur (by rw [hvl,← hrl]; exact e2);have hrow:Al (RP (frzF c.2 ρ F) w) r' (ur.take off ++ u.cells.toList ++ ur.drop (off + u.cells.toList.length)):=by
  rw [e1,hvl];exact ((hral.take off).append p1).append (hral.drop _)
 have hRtake:R.take (rows.L.length * sz')=(vr.set j (ur.take off ++ u.cells.toList ++ ur.drop (off + u.cells.toList.length))).flatten:=by
  rw [hfr,hR,hsplit];have hlv:vr.flatten.length=rows.L.length * sz':=by rw [hfl,q4.1]
  have:=splice_take (ys:=vr.flatten) (rest:=cur.toList.drop (rows.L.length * sz')) (vs:=u.cells.toList) (p:=j * sz' + off) (s:=u.cells.toList.length) (by rw [hlv,hvl]; omega) rfl
  rw [hlv] at this;exact this
 have hrel:Rel' E C.n (frzρ c.2 ρ) (frzF c.2 ρ F) ((σ.apply (.frz c.2 .un) none).apply (.set id (.reg e' sz' (rows.set j r')) .un) d) (a.put d undef) (w.setRow b R.toArray):=by
  refine h1.set (ent:=.reg e' sz' (rows.set j r')) (x:=.un) hρ1 rfl (GrowB.set b w R.toArray) ⟨some ⟨b,0,none⟩,cc,vr.set j (ur.take off ++ u.cells.toList ++ ur.drop (off + u.cells.toList.length)),by rw [hsl0]; exact hρ1,q3,by rw [hsL]; exact (q4.set hrow j).imp fun _ _ _ h=>h.imp fun _ _ _ h=>h.mono hF,fun x hx => ?_,fun x hx z hz => ?_,?_,.inr ⟨b,cc,R.toArray,by rw [hsl0],Nat.zero_le _,hset,by rw [hsl0]; exact hcap,hmax,?_,?_⟩⟩ trivial hd
  ·rw [hsL] at hx;rcases List.mem_or_eq_of_mem_set hx with h | h
   ·exact q5 x h
   ·rw [h,hrow.1]; exact hnew
  ·rcases List.mem_or_eq_of_mem_set hx with h | h
   ·exact q7 x h z hz
   ·rw [h] at hz;simp only [List.mem_append] at hz;rcases hz with (hz | hz) | hz
    ·exact q7 ur (vQG hur) z (List.mem_of_mem_take hz)
    ·exact p2 z hz
    ·exact q7 ur (vQG hur) z (List.mem_of_mem_drop hz)
  ·rw [hsl0,← hRtake,List.length_take,hR];simp only [List.length_append,List.length_take,List.length_drop,hcl,hvl];omega
  ·rw [List.size_toArray,hR];simp only [List.length_append,List.length_take,List.length_drop,hcl,hvl];omega
  ·rw [hsl0,List.toList_toArray]; exact hRtake
 have hrel2:Rel E C.n ((σ.apply (.frz c.2 .un) none).apply (.set id (.reg e' sz' (rows.set j r')) .un) d) (a.put d undef) (w.setRow b R.toArray):=⟨_,_,hrel⟩
 exact goes_skip hrun (hrel2.eqv (yJQ (ent:=.reg e' sz' (rows.set j r')) rfl rfl hdis))
theorem ok_store {t:TypeId} {x y:Operand} (hT:TabOk P C.T) (h:Rel' E C.n ρ F σ a w) (hd:dstB C.n d=true) (hvs:mapO (opv 0 σ) [x,y]=some vs) (he:zV C.T C.cA C.cB C.me (d.getD 0) (.store t x y) vs=some e):OK P E C σ a w e ⟨d,.store t x y,ty,pos,af,g⟩:=by
 obtain ⟨rx,ry,hx,hy,rfl⟩:=jXV hvs;obtain ⟨vx,x1,x2,x3⟩:=yV h hx;obtain ⟨vy,y1,y2,y3⟩:=yV h hy;simp only [zV,vQQ] at he;obtain ⟨k,hk,he⟩:=he;cases rx with
 | p id off cells =>
  simp only [vQQ] at he;obtain ⟨hs,hh,he⟩:=he;obtain ⟨hb,he⟩:=qY he;simp only [vQQ,vQZ] at he;obtain ⟨cs,hcs,rfl⟩:=he;exact ok_store_blk hT h hk x1 y1 x2 x3 y2 hh (vQX hb) hcs hd
 | q id j off e' sz rows =>
  simp only [vQQ] at he;obtain ⟨c,hc,r,hr,he⟩:=he;obtain ⟨hb,he⟩:=qY he;simp only [vQQ,vQZ] at he;obtain ⟨r',hr',rfl⟩:=he;rw [vQJ] at hb;exact ok_store_reg hT h hk x1 y1 x2 x3 y2 y3 hc hr (vQX hb.1) (disj1 hb.2) hr' hd
 | _=>simp only at he; cases he
theorem ok_slice {t:TypeId} {x:Operand} {lo hi mx:Option Operand} (hT:TabOk P C.T) (h:Rel' E C.n ρ F σ a w) (hd:dstB C.n d=true) (hvs:mapO (opv 0 σ) (#[x] ++ lo.toArray ++ hi.toArray ++ mx.toArray).toList=some vs) (he:zV C.T C.cA C.cB C.me (d.getD 0) (.slice t x lo hi mx) vs=some e):OK P E C σ a w e ⟨d,.slice t x lo hi mx,ty,pos,af,g⟩:=by
 cases mx with
 | some m=>simp only [zV] at he; cases he
 | none =>
  obtain ⟨rx,vs',vx,rfl,x1,x2,x3,hb⟩:=slice_ops h hvs;simp only [zV,vQQ] at he;obtain ⟨b,hbb,he⟩:=he;obtain ⟨vlo,vhi,b1,b2,b3,b4,b5,b6⟩:=hb b hbb;cases rx with
  | v p =>
   cases p with
   | s s =>
    simp only at he;obtain ⟨hc,he⟩:=qY he;cases he;rw [vQJ] at hc;have hu:=hT.str t hc.1;have hvx:vx=.string s:=zJU x2;subst hvx;refine jY h (zUU x1 b3 b4 b5 b6 fun w => ?_) (.s _) hd;rw [run_sliceAt_string w t _ _ _ _ hu];simp only [Instr.slice,Sem.run_bind,run_underlying hu,Result.andThen_ok,Option.isSome_none,Bool.false_eq_true,if_false,run_bounds b1 b2 (Nat.le_refl _) hc.2];rfl
   | lf n f =>
    simp only [vQQ] at he;obtain ⟨⟨el,sz⟩,hsl,he⟩:=he;obtain ⟨hc,he⟩:=qY he;obtain ⟨hr,he⟩:=qY he;cases he;have hr:=vQX hr;obtain ⟨hslc,_⟩:=hT.sl t el sz hsl;have x2':RP F w (.l ((List.range n).map f)) vx:=jZZ x2;have hlen:((List.range n).map f).length=n:=by simp
    have hrow:yJW ((List.range n).map f) (loOf b.1) sz=true:=by
     unfold yJW;by_cases hl:loOf b.1 < n
     ·rw [qYZ f hl,Option.all_some,hr]; exact Nat.beq_refl _
     ·rw [List.getElem?_eq_none (by rw [hlen]; omega)]; rfl
    obtain ⟨ad,c,hvx,hcap⟩:=rp_l x2';subst hvx;obtain ⟨_,_,i3,i4⟩:=yWV hc;have e:(((List.range n).map f).take (hiOf b.2 n)).drop (loOf b.1)=(List.range (hiOf b.2 n - loOf b.1)).map fun v=>f (v + loOf b.1):=by
     refine List.ext_getElem? fun i => ?_
     rw [List.getElem?_drop,vZV];by_cases hi:i < hiOf b.2 n - loOf b.1
     ·rw [if_pos (by omega),qYZ f (by omega),qYZ _ hi,Nat.add_comm]
     ·rw [if_neg (by omega)];exact (List.getElem?_eq_none (by simp; omega)).symm
    have:=rp_part x2' hrow i3 (by rw [hlen]; exact i4)
    rw [e] at this;rw [hlen] at x1;rw [hlen] at hcap;exact jY h (zUU x1 b3 b4 b5 b6 fun w=>jQH hslc b1 b2 hcap hc) (.lf _ _ _ this) hd
   | l rows =>
    simp only [vQQ] at he;obtain ⟨⟨el,sz⟩,hsl,he⟩:=he;obtain ⟨hc,he⟩:=qY he;cases he;rw [vQJ] at hc;obtain ⟨hslc,_⟩:=hT.sl t el sz hsl;have x2':RP F w (.l rows) vx:=x2;obtain ⟨ad,c,hvx,hcap⟩:=rp_l x2';subst hvx;obtain ⟨_,_,i3,i4⟩:=yWV hc.1;exact jY h (zUU x1 b3 b4 b5 b6 fun w=>jQH hslc b1 b2 hcap hc.1) (rp_part x2' hc.2 i3 i4) hd
   | _=>simp only at he; cases he
  | o id e' sz' rows =>
   simp only at he;obtain ⟨bi,bj⟩:=b;cases bi with
   | some i=>simp only at he; cases he
   | none =>
    cases bj with
    | none=>simp only at he; cases he
    | some j =>
     simp only [vQQ] at he;obtain ⟨⟨el,sz⟩,hsl,he⟩:=he;obtain ⟨hc,he⟩:=qY he;cases he;simp only [vQJ,decide_eq_true_eq] at hc;obtain ⟨⟨hc1,hc2⟩,hc3⟩:=hc;have hc1:=vQX hc1;obtain ⟨hslc,_⟩:=hT.sl t el sz hsl;obtain ⟨ad,c,vr,hρ,rfl,h0,hal,hrl,hvl,hone,hown,_⟩:=yKZ h x3 x2;have hcap:rows.len≤c:=by
      rcases hown.2 with ⟨hx,h00⟩ | ⟨g2,cap2,cur,hsl2,_,_,hc,_⟩
      ·omega
      ·simp only [Value.slice.injEq] at hsl2; omega
     have hin:inS none (some j) rows.len=true:=by simp [inS,loOf,hiOf,hc2,hc3]
     have hop:OpV P ⟨w,[]⟩ (actS a) [] ⟨d,.slice t x lo hi none,ty,pos,af,g⟩ (sliced ad 0 j.toNat c sz):=zUU x1 b3 b4 b5 b6 fun w=>jQH hslc b1 b2 hcap hin
     have hsd:sliced ad 0 j.toNat c sz=.slice ad j.toNat c:=by
      unfold sliced
      have:ad.map (fun x=>x.add (0 * sz))=ad:=by cases ad <;> simp [Addr.add]
      simp only [this,Nat.sub_zero,ite_self]
     have hlen:(rows.take j.toNat).len=j.toNat:=by rw [← Rows.len_L,Rows.take_L hc3,List.length_take,Rows.len_L]; omega
     have hTL:=Rows.take_L hc3;refine (jJY h.size hop).mono fun u w' ⟨hu,gr⟩ => ?_
     subst hu;rw [hsd];have h':=h.grow gr;obtain ⟨ad2,c2,vr2,hρ2,heq,_,hal2,_,hvl2,hone2,hown2,_⟩:=yKZ h' x3 x2;simp only [Value.slice.injEq] at heq;obtain ⟨rfl,_,rfl⟩:=heq;refine ⟨updO ρ id (.reg ad c j.toNat sz'),F,h'.app (L':=.reg ad c j.toNat sz') (ent:=.reg e' sz' (rows.take j.toNat)) (x:=.o id) hρ ⟨_,_,_,_,rfl⟩ (GrowB.refl _ w') (fun b hb=>.inl hb)
      ⟨ad,c,vr2.take j.toNat,by rw [hlen]; exact jV _ _ _,h0,by rw [hTL]; exact hal2.take _,fun r hr=>hrl r (List.mem_of_mem_take (by rw [hTL] at hr; exact hr)),fun v hv=>hone2 v (List.mem_of_mem_take hv),?_⟩ ⟨_,_,_,_,jV _ _ _,rfl⟩ hd⟩
     rw [hlen,flatten_take hvl2];refine ⟨?_,?_⟩
     ·rw [List.length_take,qZV vr2 hvl2,← hal2.1,Rows.len_L,Nat.min_eq_left (Nat.mul_le_mul_right _ hc3)]
     ·rcases hown2.2 with ⟨hx,h00⟩ | ⟨g2,cap2,cur,hsl2,m1,m2,m3,m4,m5,m6⟩
      ·have:j.toNat=0:=by omega
       simp only [Value.slice.injEq] at hx;rw [this,hx.1,hx.2.2];exact .inl ⟨rfl,rfl⟩
      ·simp only [Value.slice.injEq] at hsl2;obtain ⟨rfl,_,rfl⟩:=hsl2;refine .inr ⟨g2,c,cur,rfl,m1,m2,by omega,m4,m5,?_⟩;rw [← m6,List.take_take,Nat.min_eq_left (Nat.mul_le_mul_right _ hc3)]
  | _=>simp only at he; cases he
end
end Go.Rx
namespace Go.Rx
open Go.RowKit Go.Sx
def RRet (F:Nat→Prop) (w w':World):Ret→Value→Prop
 | .v x,v=>RP F w' x v
 | .ow e sz rows,v=>∃ ad c vr,v=.slice ad rows.len c∧0 < sz∧Al (Al (RP F w')) rows.L vr∧(∀ r ∈ rows.L,r.length=sz)∧(∀ v ∈ vr,∀ u ∈ v,u.oneCell'=true)∧w'.ownsRow 0 e sz (.slice ad rows.len c) rows.len vr.flatten ∧
   ∀ b,ad.map (·.block)=some b→¬ F b∧w.heap.size≤b∧b < w'.heap.size
 | .pb cells,v=>∃ b us ty,v=.pointer (some ⟨b,0,none⟩)∧w'.heap[b]? = some (.cells us.toArray ty)∧Al (RP F w') cells us∧(∀ u ∈ us,u.oneCell'=true)∧¬ F b∧w.heap.size≤b∧b < w'.heap.size
def SndA (P:Program) (cA:jHH):Prop:=∀ g ps r,cA g ps=some r→kU P g∧∀ (w:World) (F:Nat→Prop) (vals:List Value),(∀ k,F k→k < w.heap.size)→Al (RP F w) ps vals →
 Calls P g vals.toArray w (fun e w'=>∃ v F',e=.returned v∧Grow w w'∧(∀ k,F k→F' k)∧(∀ k,F' k→F k ∨ (w.heap.size≤k∧k < w'.heap.size))∧RRet F' w w' r v)
section
variable {P:Program} {E:Env} {C:Cx} {ρ:Own} {F:Nat→Prop} {σ:St} {a:Act} {w:World} {vs:List RV} {e:Eff}
variable {d:Option Tmp} {ty:TypeId} {pos:String} {af:Array Edge} {g:Option (Nat × Bool)}
theorem Rel'.adopt {n:Nat} (h:Rel' E n ρ F σ a w) {F':Nat→Prop} {id:Nat} (hid:zH σ.M id=none) {ent:Ent} {L:Loc} {w':World} (g:Grow w w') (hF:∀ k,F k→F' k) (hF':∀ k,F' k→F k ∨ (w.heap.size≤k∧k < w'.heap.size))
  (hb:∀ b,L.bl=some b→¬ F' b∧w.heap.size≤b∧b < w'.heap.size) (hent:EntOk (updO ρ id L) F' w' id ent)
  {x:HV} {v:Value} (hx:RH (updO ρ id L) F' w' x v) {dst:Option Nat} (hd:dstB n dst=true):Rel' E n (updO ρ id L) F' (σ.apply (.new id ent x) dst) (a.put dst v) w':=by
 have hnone:ρ id=none:=by
  cases hc:ρ id with
  | none=>rfl
  | some L'=>obtain ⟨e,he⟩:=h.mem.dom id L' hc; rw [hid] at he; cases he
 have old:∀ k L',ρ k=some L'→updO ρ id L k=some L':=fun k L' hk=>by
  rw [qWJ (fun e=>by subst e; rw [hnone] at hk; cases hk)]; exact hk
 have inv:∀ k L',updO ρ id L k=some L'→(k=id∧L'=L) ∨ (k ≠ id∧ρ k=some L'):=fun k L' hk=>by
  by_cases e:k=id
  ·subst e; rw [jV] at hk; cases hk; exact .inl ⟨rfl,rfl⟩
  ·rw [qWJ e] at hk; exact .inr ⟨e,hk⟩
 have blk:∀ k L' b,ρ k=some L'→L'.bl=some b→b < w.heap.size:=fun k L' b hk hb'=>(h.mem.off k L' b hk hb').2.1
 refine h.apply (.new id ent x) dst v (fun d e=>by subst e; simpa [dstB] using hd) ⟨fun k b hk=>old k _ hk,fun k L' hk _=>old k L' hk,fun k rows a' c' kk sz _ hs=>by simp [Eff.new,kK] at hs,fun k hk=>⟨hF k hk,g.block k (h.mem.fz k hk).1⟩⟩ hx
  (fun k L' b _ hk hb'=>g.block b (blk k L' b hk hb')) (fun _ _=>rfl) (fun k hu => ?_) (fun k y hu => ?_) (fun k k' L1 L2 b h1 h2 hb1 hb2 => ?_) (fun k L' b hk hb' => ?_) (fun k hk => ?_) (zYG h.mem.grow g)
 ·simp only [Eff.new,qGW] at hu;split at hu
  ·cases hu
  ·rename_i hne; exact qWJ (Ne.symm hne)
 ·simp only [Eff.new,qGW] at hu;split at hu
  ·rename_i he; cases hu; subst he; exact hent
  ·cases hu
 ·rcases inv k L1 h1 with ⟨e1,e2⟩ | ⟨n1,h1'⟩ <;> rcases inv k' L2 h2 with ⟨e3,e4⟩ | ⟨n2,h2'⟩
  ·rw [e1,e3]
  ·rw [e2] at hb1; have:=(hb b hb1).2.1; have:=blk k' L2 b h2' hb2; omega
  ·rw [e4] at hb2; have:=(hb b hb2).2.1; have:=blk k L1 b h1' hb1; omega
  ·exact h.mem.apart k k' L1 L2 b h1' h2' hb1 hb2
 ·rcases inv k L' hk with ⟨rfl,rfl⟩ | ⟨_,hk⟩
  ·have:=hb b hb'
   exact ⟨this.1,this.2.2,.inl (Nat.le_trans h.mem.grow.size this.2.1)⟩
  ·have:=h.mem.off k L' b hk hb'
   exact ⟨fun hf=>by rcases hF' b hf with h1 | h1; exact this.1 h1; omega,vZK this.2.1 g.size,this.2.2⟩
 ·rcases hF' k hk with h1 | h1
  ·exact ⟨vZK (h.mem.fz k h1).1 g.size,(h.mem.fz k h1).2⟩
  ·exact ⟨h1.2,.inr (.inl (Nat.le_trans h.mem.grow.size h1.1))⟩
theorem apply_frz {rs:Regs} {x:HV} {dst:Option Nat}:Eqv ((σ.apply (.frz rs .un) none).apply (.val x) dst) (σ.apply (.frz rs x) dst):=by
 have e1:∀ y,(Eff.frz rs y).up=rs.map fun r=>(r.1,none):=fun y=>by cases rs <;> rfl
 have e2:∀ y,(Eff.frz rs y).sb=rs.map fun r=>(r.1,some r.2):=fun y=>by cases rs <;> rfl
 have e3:∀ y,(Eff.frz rs y).x=y:=fun y=>by cases rs <;> rfl
 refine ⟨fun t => ?_,fun i => ?_⟩
 ·rw [qKH,qKH,qKH,e2,e2];simp only [e3];by_cases h:dst=some t
  ·rw [if_pos h,if_pos h]; rfl
  ·rw [if_neg h,if_neg h,if_neg (by simp)];cases uG σ.S t <;> simp [Eff.val,HV.sub_nil]
 ·rw [qYX,qYX,qYX,e1,e1,e2,e2];cases kZ (rs.map fun r=>(r.1,(none:Option Ent))) i with
  | some y=>cases y <;> simp [Eff.val,kZ,Ent.sub_nil]
  | none=>cases zH σ.M i <;> simp [Eff.val,kZ,Ent.sub_nil]
def allF (ρ:Own) (F:Nat→Prop):Nat→Prop:=fun k=>F k ∨ ∃ id L,ρ id=some L∧L.bl=some k
theorem cells_fz {M:Mem} {hc:List HV} {cs:List CV} {ps:List PV} {us:List Value} {F':Nat→Prop} (hm:MemOk E ρ F M w) (hF:∀ k,F k→F' k) (hall:∀ id ad c k s b,ρ id=some (.reg ad c k s)→ad.map (·.block)=some b→F' b) (h:mapO (cvOf M) hc=some cs) (hal:Al (RH ρ F w) hc us) (hp:mapO CV.fz cs=some ps):Al (RP F' w) ps us:=by
 have hcv:=zKW h hal;have h1:=jQ hp;refine ⟨by rw [← h1.1,hcv.1],fun i p v hpi hv => ?_⟩;have hil:=(List.getElem?_eq_some_iff.1 hpi).1;have hl:i < cs.length:=by rw [h1.1]; exact hil
 have hfz:=h1.2 i _ p (vQK hl) hpi;obtain ⟨hrh,ho⟩:=hcv.2 i _ v (vQK hl) hv;generalize cs[i]=c at hfz hrh ho;unfold CV.fz at hfz;split at hfz
 ·cases hfz; exact RP.mono (fun k hk=>⟨hF k hk,rfl⟩) hrh
 ·cases hfz; have:v=.slice none 0 0:=hrh; subst this; exact .l0 _ _
 ·rename_i id e' sz rows;cases hfz;obtain ⟨ad,c',k,sz',hρ,rfl⟩:=hrh;exact (qQG (hm.ent id _ (ho _ _ _ _ rfl)) hF (fun L b hL hb=>by rw [hρ] at hL; cases hL; exact hall id _ _ _ _ b hρ hb) ad c' k sz' hρ).1
 ·cases hfz
theorem jGG {M:Mem} {F':Nat→Prop} (hm:MemOk E ρ F M w) (hF:∀ k,F k→F' k) {r:RV} {p:PV} {v:Value} (hp:r.fz=some p) (hr:RH ρ F w r.back v) (hres:RRes M r) (hall:(r.still=true∧∀ x ∈ r.regs,∀ L b,ρ x.1=some L→L.bl=some b→F' b) ∨ ∀ id L b,ρ id=some L→L.bl=some b→F' b):RP F' w p v:=by
 have mono:∀ {p:PV} {v:Value},RP F w p v→RP F' w p v:=fun h=>h.mono fun k hk=>⟨hF k hk,rfl⟩
 cases r with
 | v x=>cases hp; exact mono hr
 | nl=>cases hp; have:v=.slice none 0 0:=hr; subst this; exact .l0 _ _
 | o id e' sz rows =>
  cases hp;obtain ⟨ad,c',k,sz',hρ,rfl⟩:=hr;refine (qQG (hm.ent id _ hres) hF (fun L b hL hb => ?_) ad c' k sz' hρ).1;rcases hall with ⟨_,h⟩ | h
  ·exact h (id,rows) (by simp [RV.regs]) L b hL hb
  ·exact h id L b hL hb
 | q id j off e' sz rows =>
  cases hp;obtain ⟨b0,c',k,sz',hρ,hjk,rfl⟩:=hr;refine (qQG (hm.ent id _ hres) hF (fun L b hL hb => ?_) _ c' k sz' hρ).2 b0 j off rfl hjk;rcases hall with ⟨_,h⟩ | h
  ·exact h (id,rows) (by simp [RV.regs]) L b hL hb
  ·exact h id L b hL hb
 | p id off cells =>
  rcases hall with ⟨h,_⟩ | hall
  ·simp [RV.still] at h
  ·simp only [RV.fz,vQQ,vQZ] at hp;obtain ⟨cs,hcs,rfl⟩:=hp;obtain ⟨hc,hlk,hcc⟩:=hres;obtain ⟨b,hρ,rfl⟩:=hr;obtain ⟨b2,us,ty',hρ2,hheap,hal,hone⟩:=hm.ent id _ hlk;rw [hρ] at hρ2;cases hρ2
   have:=cells_fz hm hF (fun id ad c k s b hL hb=>hall id _ b hL hb) hcc hal hcs
   exact .c cs us b off ty' (hall id _ b hρ rfl) hheap this.1 hone this.2
 | i id off s pos=>cases hp
 | g fn first cap =>
  simp only [RV.fz,vQQ,vQZ] at hp;obtain ⟨cs,hcs,rfl⟩:=hp;obtain ⟨fs,us,rfl,hf,hu⟩:=hr;have h1:=jQ hcs;have hu':=hu.map_left_inv;have hcap:Al (RP F' w) cs us:=by
   refine ⟨by rw [← h1.1,hu'.1],fun i p v hpi hv => ?_⟩;have hil:=(List.getElem?_eq_some_iff.1 hpi).1;have hl:i < cap.length:=by rw [h1.1]; exact hil
   have hfz:=h1.2 i _ p (vQK hl) hpi;have hrc:=hu'.2 i _ v (vQK hl) hv;have hst:=hres _ (List.getElem_mem hl);have hstill:(∃ x,cap[i]=.v x) ∨ ∀ id L b,ρ id=some L→L.bl=some b→F' b:=by
    rcases hall with ⟨h,_⟩ | h
    ·simp only [RV.still,vZZ] at h
     have:=h _ (List.getElem_mem hl)
     cases hc:cap[i] with
     | v x=>exact .inl ⟨x,rfl⟩
     | p id off cells=>rw [hc] at this; simp at this
    ·exact .inr h
   generalize cap[i]=c at hfz hrc hst hstill;cases c with
   | v x=>cases hfz; exact mono hrc
   | p id off cells =>
    rcases hstill with ⟨x,hx⟩ | hall
    ·cases hx
    ·simp only [RC.fz,vQQ,vQZ] at hfz;obtain ⟨cs',hcs',rfl⟩:=hfz;obtain ⟨hc,hlk,hcc⟩:=hst;obtain ⟨b,hρ,rfl⟩:=hrc;obtain ⟨b2,us',ty',hρ2,hheap,hal,hone⟩:=hm.ent id _ hlk;rw [hρ] at hρ2;cases hρ2
     have:=cells_fz hm hF (fun id ad c k s b hL hb=>hall id _ b hL hb) hcc hal hcs'
     exact .c cs' us' b off ty' (hall id _ b hρ rfl) hheap this.1 hone this.2
  exact .f fn first cs fs us hf.1 hcap.1 (fun i p v hp hv=>mono (hf.2 i p v hp hv)) hcap.2
 | w x=>cases hp
 | un=>cases hp
theorem catR_mem {xs:List RV} {r:RV} (hr:r ∈ xs) {y:Nat × Rows} (hy:y ∈ r.regs):y ∈ catR RV.regs xs:=mem_catR.2 ⟨r,hr,hy⟩
theorem jZJ {M:Mem} {r:RV} (hres:RRes M r):∀ y ∈ r.regs,∃ e sz,zH M y.1=some (.reg e sz y.2):=by
 cases r with
 | o id e' sz rows=>intro y hy; simp only [RV.regs,List.mem_singleton] at hy; subst hy; exact ⟨e',sz,hres⟩
 | q id j off e' sz rows=>intro y hy; simp only [RV.regs,List.mem_singleton] at hy; subst hy; exact ⟨e',sz,hres⟩
 | _=>intro y hy; cases hy
theorem ret_rel (h:Rel' E C.n ρ F σ a w) (hs:Regs) (hrs:∀ r ∈ hs,∃ e sz,zH σ.M r.1=some (.reg e sz r.2)) {F':Nat→Prop} {w':World} (gr:Grow w w') (hF:∀ k,frzF hs ρ F k→F' k) (hF':∀ k,F' k→frzF hs ρ F k ∨ (w.heap.size≤k∧k < w'.heap.size)) {dst me:Nat} {r:Ret} {v:Value} (hr:RRet F' w w' r v) (he:yGW C.T me dst hs r=some e) (hn:∀ i ∈ e.nw,zH σ.M i=none) {d:Option Nat} (hd:dstB C.n d=true) :
  Rel E C.n (σ.apply e d) (a.put d v) w':=by
 have hfz:∀ k,F' k→k < w'.heap.size:=fun k hk=>by
  rcases hF' k hk with h1 | h1
  ·rcases h1 with h1 | ⟨id,L,_,hL,hb⟩
   ·exact vZK (h.mem.fz k h1).1 gr.size
   ·exact vZK (h.mem.off id L k hL hb).2.1 gr.size
  ·exact h1.2
 have nil:hs=[]→(∀ k,F k→F' k)∧(∀ k,F' k→F k ∨ (w.heap.size≤k∧k < w'.heap.size)):=by
  rintro rfl
  refine ⟨fun k hk=>hF k (.inl hk),fun k hk => ?_⟩;rcases hF' k hk with (h1 | ⟨id,L,hm,_⟩) | h1
  ·exact .inl h1
  ·cases hm
  ·exact .inr h1
 -- a pure value
 have pure:∀ (x:PV),RP F' w' x v→(∀ k,F' k→frzF hs ρ F k ∨ (w.heap.size≤k∧k < w'.heap.size))→Rel E C.n (σ.apply (.frz hs (.v x)) d) (a.put d v) w':=by
  intro x hx hF2;have h1:=h.froze hs hrs;have h2:Rel E C.n ((σ.apply (.frz hs .un) none).apply (.val (.v x)) d) (a.put d v) w':=⟨_,_,h1.val gr hF hF2 (show RH _ F' w' (.v x) v from hx) hd⟩
  exact h2.eqv apply_frz
 have pureF:∀ (x:PV),x.flat=true→RP F' w' x v→Rel E C.n (σ.apply (.val (.v x)) d) (a.put d v) w':=by
  intro x hf hx;exact ⟨ρ,F,h.val gr (fun _ h=>h) (fun _ h=>.inl h) (show RH ρ F w' (.v x) v from hx.flat hf) hd⟩
 cases r with
 | v x =>
  cases hs with
  | nil=>cases he; exact pure x hr hF'
  | cons y ys =>
   simp only [yGW] at he;cases hf:x.flat with
   | true=>rw [hf] at he; cases he; exact pureF x hf hr
   | false=>rw [hf] at he; cases he; exact pure x hr hF'
 | ow e' sz rows =>
  obtain ⟨ad,c,vr,rfl,h0,hal,hrl,hone,hown,hb⟩:=hr
  -- the slice, frozen
  have frozen:∃ F2:Nat→Prop,(∀ k,F' k→F2 k)∧(∀ k,F2 k→frzF hs ρ F k ∨ (w.heap.size≤k∧k < w'.heap.size))∧RP F2 w' rows.pv (.slice ad rows.len c):=by
   refine ⟨fun k=>F' k ∨ ad.map (·.block)=some k,fun k hk=>.inl hk,fun k hk => ?_,?_⟩
   ·rcases hk with hk | hk
    ·exact hF' k hk
    ·exact .inr (hb k hk).2
   ·exact (qQG (ρ:=fun i=>if i=0 then some (.reg ad c rows.len sz) else none) (id:=0) (e:=e') (sz:=sz) (F:=F') ⟨ad,c,vr,by simp,h0,hal,hrl,hone,hown⟩ (fun k hk=>.inl hk) (fun L b hL hbl=>by simp at hL; subst hL; exact .inr hbl) ad c rows.len sz (by simp)).1
  simp only [yGW] at he;cases ho:C.T.ownR me dst with
  | true =>
   rw [ho] at he;cases hs with
   | cons y ys=>cases he
   | nil =>
    cases he;obtain ⟨n1,n2⟩:=nil rfl;exact ⟨updO ρ dst (.reg ad c rows.len sz),F',h.adopt (ent:=.reg e' sz rows) (x:=.o dst) (L:=.reg ad c rows.len sz) (hn _ (by simp [Eff.new])) gr n1 n2 hb ⟨ad,c,vr,jV _ _ _,h0,hal,hrl,hone,hown⟩ ⟨_,_,_,_,jV _ _ _,rfl⟩ hd⟩
  | false =>
   rw [ho] at he;obtain ⟨F2,f1,f2,f3⟩:=frozen;have main:Rel E C.n (σ.apply (.frz hs (.v rows.pv)) d) (a.put d (.slice ad rows.len c)) w':=by
    have h1:=h.froze hs hrs;have h2:Rel E C.n ((σ.apply (.frz hs .un) none).apply (.val (.v rows.pv)) d) (a.put d (.slice ad rows.len c)) w':=⟨_,_,h1.val gr (fun k hk=>f1 k (hF k hk)) f2 (show RH _ F2 w' (.v rows.pv) _ from f3) hd⟩
    exact h2.eqv apply_frz
   cases hs with
   | nil=>cases he; exact main
   | cons y ys=>cases he; exact main
 | pb cells =>
  cases hs with
  | cons y ys=>cases he
  | nil =>
   cases he;obtain ⟨n1,n2⟩:=nil rfl;obtain ⟨b,us,ty',rfl,hheap,hal,hone,hb1,hb2⟩:=hr;exact ⟨updO ρ dst (.blk b),F',h.adopt (ent:=.blk (cells.map .v)) (x:=.p dst 0) (L:=.blk b) (hn _ (by simp [Eff.new])) gr n1 n2 (fun b' hb'=>by simp only [Loc.bl,vQZ] at hb'; subst hb'; exact ⟨hb1,hb2⟩)
    ⟨b,us,ty',jV _ _ _,hheap,Al.map_left (show Al (fun z y=>RH (updO ρ dst (.blk b)) F' w' (HV.v z) y) cells us from hal),hone⟩ ⟨b,jV _ _ _,rfl⟩ hd⟩
theorem call_rel (hA:SndA P C.cA) (h:Rel' E C.n ρ F σ a w) {o:Oper} (hd:dstB C.n o.dst=true) {f:Nat} {args:List RV} {us:List Value} (hu:Al (fun r v=>RH ρ F w r.back v) args us) (hres:∀ r ∈ args,RRes σ.M r) (he:yYH C.T C.cA C.me (o.dst.getD 0) f args=some e) (hn:∀ i ∈ e.nw,zH σ.M i=none)
  (hrun:kU P f→(execOp a.eval o).run P w=.ok (.enter f us.toArray) w):OK P E C σ a w e o:=by
 simp only [yYH,vQQ] at he;obtain ⟨ps,hps,r,hr,he⟩:=he;obtain ⟨hent,hcall⟩:=hA f ps r hr;have h1:=jQ hps;have al:∀ (F1:Nat→Prop),(∀ k,F k→F1 k)→(∀ x ∈ args,(x.still=true∧∀ y ∈ x.regs,∀ L b,ρ y.1=some L→L.bl=some b→F1 b) ∨ ∀ id L b,ρ id=some L→L.bl=some b→F1 b)→Al (RP F1 w) ps us:=by
  intro F1 hF1 hx;refine ⟨by rw [← h1.1,hu.1],fun i p v hp hv => ?_⟩;have hil:=(List.getElem?_eq_some_iff.1 hp).1;have hl:i < args.length:=by rw [h1.1]; exact hil
  have hm:=List.getElem_mem hl;exact jGG h.mem hF1 (h1.2 i _ p (vQK hl) hp) (hu.2 i _ v (vQK hl) hv) (hres _ hm) (hx _ hm)
 unfold OK Goes;rw [hrun hent];simp only;cases hst:args.all RV.still with
 | true =>
  rw [hst] at he;simp only [vYV] at he;have hrs:∀ y ∈ catR RV.regs args,∃ e sz,zH σ.M y.1=some (.reg e sz y.2):=fun y hy=>by
   obtain ⟨x,hx,hy'⟩:=mem_catR.1 hy;exact jZJ (hres x hx) y hy'
  refine Calls.mono (hcall w (frzF (catR RV.regs args) ρ F) us (fun k hk => ?_) (al _ (fun k hk=>.inl hk) fun x hx=>.inl ⟨List.all_eq_true.1 hst x hx,fun y hy L b hL hb=>.inr ⟨y.1,L,List.mem_map.2 ⟨y,catR_mem hx hy,rfl⟩,hL,hb⟩⟩)) fun en w' ⟨v,F',hv,gr,hF,hF',hrr⟩=>⟨v,hv,ret_rel h _ hrs gr hF hF' hrr he hn hd⟩
  rcases hk with hk | ⟨id,L,_,hL,hb⟩
  ·exact (h.mem.fz k hk).1
  ·exact (h.mem.off id L k hL hb).2.1
 | false =>
  rw [hst] at he;simp only [vYG] at he;cases r with
  | v x =>
   simp only at he;obtain ⟨hf,he⟩:=qY he;cases he;refine Calls.mono (hcall w (allF ρ F) us (fun k hk => ?_) (al _ (fun k hk=>.inl hk) fun x hx=>.inr fun id L b hL hb=>.inr ⟨id,L,hL,hb⟩)) fun en w' ⟨v,F',hv,gr,hF,hF',hrr⟩=>⟨v,hv,ρ,F,h.val gr (fun _ h=>h) (fun _ h=>.inl h) (show RH ρ F w' (.v x) v from RP.flat hrr hf) hd⟩
   rcases hk with hk | ⟨id,L,hL,hb⟩
   ·exact (h.mem.fz k hk).1
   ·exact (h.mem.off id L k hL hb).2.1
  | ow e' sz rows =>
   cases rows with
   | fo n f=>simp only at he; cases he
   | l rows =>
   simp only at he;obtain ⟨hf,he⟩:=qY he;cases he;refine Calls.mono (hcall w (allF ρ F) us (fun k hk => ?_) (al _ (fun k hk=>.inl hk) fun x hx=>.inr fun id L b hL hb=>.inr ⟨id,L,hL,hb⟩)) fun en w' ⟨v,F',hv,gr,hF,hF',hrr⟩ => ?_
   ·rcases hk with hk | ⟨id,L,hL,hb⟩
    ·exact (h.mem.fz k hk).1
    ·exact (h.mem.off id L k hL hb).2.1
   ·obtain ⟨ad,c,vr,rfl,h0,hal,hrl,hone,hown,hb⟩:=hrr;have hal2:Al (Al (RP (fun k=>F k ∨ ad.map (·.block)=some k) w')) rows vr:=hal.imp fun r u hr hru=>hru.imp fun p q hp hpq=>hpq.flat1 (List.all_eq_true.1 (List.all_eq_true.1 hf r hr) p hp)
    have fr:=(qQG (ρ:=fun i=>if i=0 then some (.reg ad c rows.length sz) else none) (id:=0) (e:=e') (sz:=sz) (rows:=.l rows) (F:=fun k=>F k ∨ ad.map (·.block)=some k) (F':=fun k=>F k ∨ ad.map (·.block)=some k) ⟨ad,c,vr,by simp [Rows.len],h0,hal2,hrl,hone,hown⟩ (fun k hk=>hk) (fun L b hL hbl=>by simp at hL; subst hL; exact .inr hbl) ad c rows.length sz (by simp [Rows.len])).1;exact ⟨_,hv,ρ,_,h.val gr (fun k hk=>.inl hk) (fun k hk=>hk.imp id fun hk=>(hb k hk).2) (show RH ρ _ w' (.v (.l rows)) _ from fr) hd⟩
  | _=>cases he
end
end Go.Rx

/- Part 6 of the texts behind the last one: rules and contracts. No condition. -/
import Derived.Test.YtmeldddgjfocdaaGreatGL5
open Option renaming bind_eq_some_iff → vQQ, map_eq_some_iff → vZW, bind_some → vYQ
open Option.some renaming injEq → vQZ
open Prod.mk renaming injEq → vQY
open Bool renaming and_eq_true → vQJ
open List renaming getElem?_eq_getElem → vQK, mem_of_getElem? → vQG, mem_cons_of_mem → vQH, mem_cons_self → vZQ, all_eq_true → vZZ, getElem?_take → vZV
open Nat renaming eq_of_beq_eq_true → vQX, lt_of_lt_of_le → vZK, le_of_ble_eq_true → vZX
namespace Go.Rx
open Go.RowKit Go.Sx
section
variable {P:Program} {E:Env} {C:Cx} {ρ:Own} {F:Nat→Prop} {σ:St} {a:Act} {w:World} {vs:List RV} {e:Eff}
variable {d:Option Tmp} {ty:TypeId} {pos:String} {af:Array Edge} {g:Option (Nat × Bool)}
theorem xGL {id:Nat} {l:List Nat} (h:disj [id] l=true):id ∉ l:=zWK h id vZQ
theorem yJV {t:TypeId} {x y:Operand} {id j off e' sz:Nat} {rows:Rows} {yr:RV} {c:List PV × Regs} {r r':List PV} {k:Bool × Nat} {v u:Value} (hT:TabOk P C.T) (h:Rel' E C.n ρ F σ a w) (hk:C.T.sz t=some k) (hx:ev (actS a) x=some v) (hy:ev (actS a) y=some u)
  (hv:RH ρ F w (.q id j off) v) (hl:yK σ.M id=some (.reg e' sz rows)) (hu:RH ρ F w yr.back u) (hres:RRes σ.M yr) (hc:yr.pcells=some c) (hr0:rows.at j=some r) (hlen:c.1.length=k.2) (hdis:id ∉ c.2.map (·.1)) (hsp:qYC r off c.1=some r') (hd:dstB C.n d=true) :
  OK P E C σ a w ((Eff.set id (.reg e' sz (rows.set j r')) .un).and c.2) ⟨d,.store t x y,ty,pos,af,g⟩:=by
 obtain ⟨p1,p2,p3⟩:=zZV h c.2 hc hu hres (fun x hx=>hx);have h1:=h.froze c.2 p3;obtain ⟨b,cc,kk,sz',hρ,hjk,rfl⟩:=hv;have hl1:=kGX hdis hl;have hρ1:frzρ c.2 ρ id=some (.reg (some ⟨b,0,none⟩) cc kk sz'):=by rw [zWQ hdis]; exact hρ
 obtain ⟨ad,c2,vr,q1,q2,q3,q4,q5,q6,q7,q8,q9⟩:=zVV h1 hl1 (v:=.slice (some ⟨b,0,none⟩) kk cc) ⟨_,_,_,_,hρ1,rfl⟩;simp only [Value.slice.injEq] at q2;obtain ⟨rfl,rfl,rfl⟩:=q2;rw [hρ1] at q1;simp only [vQZ,Loc.reg.injEq] at q1;obtain ⟨_,_,_,rfl⟩:=q1;have hr:=Rows.at_L hr0 hjk;have hsL:=Rows.set_L rows j r';have hsl0:(rows.set j r').len=rows.L.length:=by rw [← Rows.len_L,hsL,List.length_set]
 rw [← Rows.len_L] at hρ1 q8;obtain ⟨e1,e2⟩:=qVQ hsp;obtain ⟨ur,hur,hral⟩:=q4.get hr;have hjl:=(List.getElem?_eq_some_iff.1 hr).1;have hrl:r.length=sz':=q5 r (vQG hr);have hvl:u.cells.toList.length=c.1.length:=p1.1.symm;have hfl:=qZW vr q6;have hle:j * sz' + sz'≤rows.L.length * sz':=by
  have:=Nat.mul_le_mul_right sz' (show j + 1≤rows.L.length from hjl)
  rw [Nat.add_mul] at this; omega
 rcases q8.2 with ⟨hnil,_⟩ | ⟨gg,cap,cur,hsl,_,hg,hcap,hmax,hcur,htake⟩
 ·simp at hnil
 simp only [Value.slice.injEq,vQZ,Addr.mk.injEq,and_true,true_and] at hsl;obtain ⟨rfl,rfl⟩:=hsl;have hcapsz:rows.L.length * sz'≤cc * sz':=Nat.mul_le_mul_right _ hcap;have hst:=run_storeCells_at P b (j * sz' + off) e' u.cells.toList 0 cur w hg (by rw [hvl]; omega) p2;obtain ⟨R,hR,hst'⟩:∃ R:List Value,R=cur.toList.take (j * sz' + off) ++ u.cells.toList ++ cur.toList.drop (j * sz' + off + u.cells.toList.length)∧(storeCells ⟨b,j * sz' + off,none⟩ u.cells.toList 0).run P w=.ok () (w.setRow b R.toArray):=⟨_,rfl,by simpa using hst⟩
 have hrun:(execOp a.eval ⟨d,.store t x y,ty,pos,af,g⟩).run P w=.ok .skip (w.setRow b R.toArray):=by
  have hz:u.cells.size=k.2:=by rw [← hlen,← hvl]; simp
  have hTt:=qJD (hT.sz t k.1 k.2 hk).1;simp [execOp,qZD h hx,qZD h hy,Instr.storeAt,Instr.sureAddr,storeVar,hTt,hz,hst']
 have hset:=setRow_heap w b _ R.toArray e' _ hg;have hoff:=h1.mem.off id _ b hρ1 rfl;have hF:∀ k,frzF c.2 ρ F k→frzF c.2 ρ F k∧(w.setRow b R.toArray).heap[k]? = w.heap[k]?:=fun k hk=>⟨hk,(GrowB.set b w R.toArray).block k (h1.mem.fz k hk).1 fun e=>by subst e; exact hoff.1 hk⟩
 have hcl:cur.toList.length=cc * sz':=by simpa using hcur
 have hsplit:cur.toList=vr.flatten ++ cur.toList.drop (rows.L.length * sz'):=by rw [← htake]; exact (List.take_append_drop _ _).symm
 have hnew:(ur.take off ++ u.cells.toList ++ ur.drop (off + u.cells.toList.length)).length=sz':=by
  have:ur.length=sz':=q6 ur (vQG hur)
  simp only [List.length_append,List.length_take,List.length_drop,hvl,this];rw [hrl] at e2;omega
 have hfr:=yXZ (off:=off) (vals:=u.cells.toList) q6 hur (by rw [hvl,← hrl]; exact e2);have hrow:Al (RP (frzF c.2 ρ F) w) r' (ur.take off ++ u.cells.toList ++ ur.drop (off + u.cells.toList.length)):=by
  rw [e1,hvl];exact ((hral.take off).append p1).append (hral.drop _)
 have hRtake:R.take (rows.L.length * sz')=(vr.set j (ur.take off ++ u.cells.toList ++ ur.drop (off + u.cells.toList.length))).flatten:=by
  rw [hfr,hR,hsplit];have hlv:vr.flatten.length=rows.L.length * sz':=by rw [hfl,q4.1]
  have:=yXQ (ys:=vr.flatten) (rest:=cur.toList.drop (rows.L.length * sz')) (vs:=u.cells.toList) (p:=j * sz' + off) (s:=u.cells.toList.length) (by rw [hlv,hvl]; omega) rfl
  rw [hlv] at this;exact this
 have hrel:Rel' E C.n (frzρ c.2 ρ) (frzF c.2 ρ F) ((σ.apply (.frz c.2 .un) none).apply (.set id (.reg e' sz' (rows.set j r')) .un) d) (a.put d undef) (w.setRow b R.toArray):=by
  refine h1.set (ent:=.reg e' sz' (rows.set j r')) (x:=.un) hρ1 rfl (GrowB.set b w R.toArray) ⟨some ⟨b,0,none⟩,cc,vr.set j (ur.take off ++ u.cells.toList ++ ur.drop (off + u.cells.toList.length)),by rw [hsl0]; exact hρ1,q3,by rw [hsL]; exact (q4.set hrow j).imp fun _ _ _ h=>h.imp fun _ _ _ h=>h.mono hF,fun x hx => ?_,fun x hx z hz => ?_,?_,.inr ⟨b,cc,R.toArray,by rw [hsl0],Nat.zero_le _,hset,by rw [hsl0]; exact hcap,hmax,?_,?_⟩⟩ trivial hd
  ·rw [hsL] at hx;rcases List.mem_or_eq_of_mem_set hx with h | h
   ·exact q5 x h
   ·rw [h,hrow.1]; exact hnew
  ·rcases List.mem_or_eq_of_mem_set hx with h | h
   ·exact q7 x h z hz
   ·rw [h] at hz;simp only [List.mem_append] at hz;rcases hz with (hz | hz) | hz
    ·exact q7 ur (vQG hur) z (List.mem_of_mem_take hz)
    ·exact p2 z hz
    ·exact q7 ur (vQG hur) z (List.mem_of_mem_drop hz)
  ·rw [hsl0,← hRtake,List.length_take,hR];simp only [List.length_append,List.length_take,List.length_drop,hcl,hvl];omega
  ·rw [List.size_toArray,hR];simp only [List.length_append,List.length_take,List.length_drop,hcl,hvl];omega
  ·rw [hsl0,List.toList_toArray]; exact hRtake
 have hrel2:Rel E C.n ((σ.apply (.frz c.2 .un) none).apply (.set id (.reg e' sz' (rows.set j r')) .un) d) (a.put d undef) (w.setRow b R.toArray):=⟨_,_,hrel⟩
 exact yKU hrun (hrel2.eqv (zQE (ent:=.reg e' sz' (rows.set j r')) rfl rfl hdis))
theorem yJG {t:TypeId} {x y:Operand} {id off:Nat} {cells:List CV} {yr:RV} {c:List PV × Regs} {cs:List HV} {k:Bool × Nat} {v u:Value} (hT:TabOk P C.T) (h:Rel' E C.n ρ F σ a w) (hk:C.T.sz t=some k) (hx:ev (actS a) x=some v) (hy:ev (actS a) y=some u)
  (hv:RH ρ F w (.p id off) v) (hres0:RRes σ.M (.p id off cells)) (hu:RH ρ F w yr.back u) (hres:RRes σ.M yr) (hc:yr.pcells=some c) (hlen:c.1.length=k.2) (hdis:id ∉ c.2.map (·.1)) (hsp:qYC ((cells.map CV.back).map (HV.sub (c.2.map fun r=>(r.1,some r.2)))) off (c.1.map HV.v)=some cs) (hd:dstB C.n d=true) :
  OK P E C σ a w ((Eff.set id (.blk cs) .un).and c.2) ⟨d,.store t x y,ty,pos,af,g⟩:=by
 obtain ⟨p1,p2,p3⟩:=zZV h c.2 hc hu hres (fun x hx=>hx);have h1:=h.froze c.2 p3;obtain ⟨hcl,hlk,hcc⟩:=hres0;rw [jZB hcc] at hsp;obtain ⟨b,hρ,rfl⟩:=hv;have e1:(Eff.frz c.2 .un).up=c.2.map fun r=>(r.1,none):=by cases c.2 <;> rfl
 have e2:(Eff.frz c.2 .un).sb=c.2.map fun r=>(r.1,some r.2):=by cases c.2 <;> rfl
 have hlk1:yK (σ.apply (.frz c.2 .un) none).M id=some (.blk (hcl.map (HV.sub (c.2.map fun r=>(r.1,some r.2))))):=by
  rw [qYQ,e1,up_none_iff.2 hdis,hlk,e2]; rfl
 have q:=qHF (C:=C) (d:=d) (ty:=ty) (pos:=pos) (af:=af) (g:=g) hT h1 hk hx hy ⟨b,by rw [zWQ hdis]; exact hρ,rfl⟩ hlk1 (Al.map_left (show Al (fun z y=>RH (frzρ c.2 ρ) (frzF c.2 ρ F) w (HV.v z) y) c.1 u.cells.toList from p1)) p2 (by rw [List.length_map]; exact hlen) hsp hd;unfold OK at q ⊢;exact q.mono fun u w' hr=>hr.eqv (zQE (ent:=.blk cs) rfl rfl hdis)
theorem kUE {t:TypeId} {x y:Operand} (hT:TabOk P C.T) (h:Rel' E C.n ρ F σ a w) (hd:dstB C.n d=true) (hvs:mapO (opv 0 σ) [x,y]=some vs) (he:zH C.T C.cA C.cB C.me (d.getD 0) (.store t x y) vs=some e):OK P E C σ a w e ⟨d,.store t x y,ty,pos,af,g⟩:=by
 obtain ⟨rx,ry,hx,hy,rfl⟩:=jKQ hvs;obtain ⟨vx,x1,x2,x3⟩:=jW h hx;obtain ⟨vy,y1,y2,y3⟩:=jW h hy;simp only [zH,vQQ] at he;obtain ⟨k,hk,he⟩:=he;cases rx with
 | p id off cells =>
  cases hsf:C.T.sf C.me && ry.isO with
  | true =>
   simp only [hsf,vYV,vQQ] at he;obtain ⟨c,hc,he⟩:=he;obtain ⟨hb,he⟩:=qQ he;simp only [vQQ,vQZ] at he;obtain ⟨cs,hcs,rfl⟩:=he;rw [vQJ] at hb;exact yJG hT h hk x1 y1 x2 x3 y2 y3 hc (vQX hb.1) (xGL hb.2) hcs hd
  | false =>
  simp only [hsf,vYG,vQQ] at he;obtain ⟨hs,hh,he⟩:=he;obtain ⟨hb,he⟩:=qQ he;simp only [vQQ,vQZ] at he;obtain ⟨cs,hcs,rfl⟩:=he;exact yJH hT h hk x1 y1 x2 x3 y2 hh (vQX hb) hcs hd
 | q id j off e' sz rows =>
  simp only [vQQ] at he;obtain ⟨c,hc,r,hr,he⟩:=he;obtain ⟨hb,he⟩:=qQ he;simp only [vQQ,vQZ] at he;obtain ⟨r',hr',rfl⟩:=he;rw [vQJ] at hb;exact yJV hT h hk x1 y1 x2 x3 y2 y3 hc hr (vQX hb.1) (xGL hb.2) hr' hd
 | _=>simp only at he; cases he
theorem kUF {t:TypeId} {x:Operand} {lo hi mx:Option Operand} (hT:TabOk P C.T) (h:Rel' E C.n ρ F σ a w) (hd:dstB C.n d=true) (hvs:mapO (opv 0 σ) (#[x] ++ lo.toArray ++ hi.toArray ++ mx.toArray).toList=some vs) (he:zH C.T C.cA C.cB C.me (d.getD 0) (.slice t x lo hi mx) vs=some e):OK P E C σ a w e ⟨d,.slice t x lo hi mx,ty,pos,af,g⟩:=by
 cases mx with
 | some m=>simp only [zH] at he; cases he
 | none =>
  obtain ⟨rx,vs',vx,rfl,x1,x2,x3,hb⟩:=jUE h hvs;simp only [zH,vQQ] at he;obtain ⟨b,hbb,he⟩:=he;obtain ⟨vlo,vhi,b1,b2,b3,b4,b5,b6⟩:=hb b hbb;cases rx with
  | v p =>
   cases p with
   | s s =>
    simp only at he;obtain ⟨hc,he⟩:=qQ he;cases he;rw [vQJ] at hc;have hu:=hT.str t hc.1;have hvx:vx=.string s:=qGU x2;subst hvx;refine jU h (qHE x1 b3 b4 b5 b6 fun w => ?_) (.s _) hd;rw [run_sliceAt_string w t _ _ _ _ hu];simp only [Instr.slice,Sem.run_bind,run_underlying hu,Result.andThen_ok,Option.isSome_none,Bool.false_eq_true,if_false,zVK b1 b2 (Nat.le_refl _) hc.2];rfl
   | lf n f =>
    simp only [vQQ] at he;obtain ⟨⟨el,sz⟩,hsl,he⟩:=he;obtain ⟨hc,he⟩:=qQ he;obtain ⟨hr,he⟩:=qQ he;cases he;have hr:=vQX hr;obtain ⟨hslc,_⟩:=hT.sl t el sz hsl;have x2':RP F w (.l ((List.range n).map f)) vx:=yYH x2;have hlen:((List.range n).map f).length=n:=by simp
    have hrow:zWE ((List.range n).map f) (loOf b.1) sz=true:=by
     unfold zWE;by_cases hl:loOf b.1 < n
     ·rw [qYZ f hl,Option.all_some,hr]; exact Nat.beq_refl _
     ·rw [List.getElem?_eq_none (by rw [hlen]; omega)]; rfl
    obtain ⟨ad,c,hvx,hcap⟩:=rp_l x2';subst hvx;obtain ⟨_,_,i3,i4⟩:=yQD hc;have e:(((List.range n).map f).take (hiOf b.2 n)).drop (loOf b.1)=(List.range (hiOf b.2 n - loOf b.1)).map fun v=>f (v + loOf b.1):=by
     refine List.ext_getElem? fun i => ?_
     rw [List.getElem?_drop,vZV];by_cases hi:i < hiOf b.2 n - loOf b.1
     ·rw [if_pos (by omega),qYZ f (by omega),qYZ _ hi,Nat.add_comm]
     ·rw [if_neg (by omega)];exact (List.getElem?_eq_none (by simp; omega)).symm
    have:=jXX x2' hrow i3 (by rw [hlen]; exact i4)
    rw [e] at this;rw [hlen] at x1;rw [hlen] at hcap;exact jU h (qHE x1 b3 b4 b5 b6 fun w=>yXW hslc b1 b2 hcap hc) (.lf _ _ _ this) hd
   | l rows =>
    simp only [vQQ] at he;obtain ⟨⟨el,sz⟩,hsl,he⟩:=he;obtain ⟨hc,he⟩:=qQ he;cases he;rw [vQJ] at hc;obtain ⟨hslc,_⟩:=hT.sl t el sz hsl;have x2':RP F w (.l rows) vx:=x2;obtain ⟨ad,c,hvx,hcap⟩:=rp_l x2';subst hvx;obtain ⟨_,_,i3,i4⟩:=yQD hc.1;exact jU h (qHE x1 b3 b4 b5 b6 fun w=>yXW hslc b1 b2 hcap hc.1) (jXX x2' hc.2 i3 i4) hd
   | _=>simp only at he; cases he
  | o id e' sz' rows =>
   simp only at he;obtain ⟨bi,bj⟩:=b;cases bi with
   | some i=>simp only at he; cases he
   | none =>
    cases bj with
    | none=>simp only at he; cases he
    | some j =>
     simp only [vQQ] at he;obtain ⟨⟨el,sz⟩,hsl,he⟩:=he;obtain ⟨hc,he⟩:=qQ he;cases he;simp only [vQJ,decide_eq_true_eq] at hc;obtain ⟨⟨hc1,hc2⟩,hc3⟩:=hc;have hc1:=vQX hc1;obtain ⟨hslc,_⟩:=hT.sl t el sz hsl;obtain ⟨ad,c,vr,hρ,rfl,h0,hal,hrl,hvl,hone,hown,_⟩:=zVV h x3 x2;have hcap:rows.len≤c:=by
      rcases hown.2 with ⟨hx,h00⟩ | ⟨g2,cap2,cur,hsl2,_,_,hc,_⟩
      ·omega
      ·simp only [Value.slice.injEq] at hsl2; omega
     have hin:inS none (some j) rows.len=true:=by simp [inS,loOf,hiOf,hc2,hc3]
     have hop:OpV P ⟨w,[]⟩ (actS a) [] ⟨d,.slice t x lo hi none,ty,pos,af,g⟩ (sliced ad 0 j.toNat c sz):=qHE x1 b3 b4 b5 b6 fun w=>yXW hslc b1 b2 hcap hin
     have hsd:sliced ad 0 j.toNat c sz=.slice ad j.toNat c:=by
      unfold sliced
      have:ad.map (fun x=>x.add (0 * sz))=ad:=by cases ad <;> simp [Addr.add]
      simp only [this,Nat.sub_zero,ite_self]
     have hlen:(rows.take j.toNat).len=j.toNat:=by rw [← Rows.len_L,Rows.take_L hc3,List.length_take,Rows.len_L]; omega
     have hTL:=Rows.take_L hc3;refine (yVI h.size hop).mono fun u w' ⟨hu,gr⟩ => ?_
     subst hu;rw [hsd];have h':=h.grow gr;obtain ⟨ad2,c2,vr2,hρ2,heq,_,hal2,_,hvl2,hone2,hown2,_⟩:=zVV h' x3 x2;simp only [Value.slice.injEq] at heq;obtain ⟨rfl,_,rfl⟩:=heq;refine ⟨updO ρ id (.reg ad c j.toNat sz'),F,h'.app (L':=.reg ad c j.toNat sz') (ent:=.reg e' sz' (rows.take j.toNat)) (x:=.o id) hρ ⟨_,_,_,_,rfl⟩ (GrowB.refl _ w') (fun b hb=>.inl hb)
      ⟨ad,c,vr2.take j.toNat,by rw [hlen]; exact kX _ _ _,h0,by rw [hTL]; exact hal2.take _,fun r hr=>hrl r (List.mem_of_mem_take (by rw [hTL] at hr; exact hr)),fun v hv=>hone2 v (List.mem_of_mem_take hv),?_⟩ ⟨_,_,_,_,kX _ _ _,rfl⟩ hd⟩
     rw [hlen,zJX hvl2];refine ⟨?_,?_⟩
     ·rw [List.length_take,qZW vr2 hvl2,← hal2.1,Rows.len_L,Nat.min_eq_left (Nat.mul_le_mul_right _ hc3)]
     ·rcases hown2.2 with ⟨hx,h00⟩ | ⟨g2,cap2,cur,hsl2,m1,m2,m3,m4,m5,m6⟩
      ·have:j.toNat=0:=by omega
       simp only [Value.slice.injEq] at hx;rw [this,hx.1,hx.2.2];exact .inl ⟨rfl,rfl⟩
      ·simp only [Value.slice.injEq] at hsl2;obtain ⟨rfl,_,rfl⟩:=hsl2;refine .inr ⟨g2,c,cur,rfl,m1,m2,by omega,m4,m5,?_⟩;rw [← m6,List.take_take,Nat.min_eq_left (Nat.mul_le_mul_right _ hc3)]
  | _=>simp only at he; cases he
end
end Go.Rx
namespace Go.Rx
open Go.RowKit Go.Sx
def RRet (F:Nat→Prop) (w w':World):Ret→Value→Prop
 | .v x,v=>RP F w' x v
 | .ow e sz rows,v=>∃ ad c vr,v=.slice ad rows.len c∧0 < sz∧Al (Al (RP F w')) rows.L vr∧(∀ r ∈ rows.L,r.length=sz)∧(∀ v ∈ vr,∀ u ∈ v,u.oneCell'=true)∧w'.ownsRow 0 e sz (.slice ad rows.len c) rows.len vr.flatten ∧
   ∀ b,ad.map (·.block)=some b→¬ F b∧w.heap.size≤b∧b < w'.heap.size
 | .pb cells,v=>∃ b us ty,v=.pointer (some ⟨b,0,none⟩)∧w'.heap[b]? = some (.cells us.toArray ty)∧Al (RP F w') cells us∧(∀ u ∈ us,u.oneCell'=true)∧¬ F b∧w.heap.size≤b∧b < w'.heap.size
def SndA (P:Program) (cA:kZD):Prop:=∀ g ps r,cA g ps=some r→uV P g∧∀ (w:World) (F:Nat→Prop) (vals:List Value),(∀ k,F k→k < w.heap.size)→Al (RP F w) ps vals →
 Calls P g vals.toArray w (fun e w'=>∃ v F',e=.returned v∧Grow w w'∧(∀ k,F k→F' k)∧(∀ k,F' k→F k ∨ (w.heap.size≤k∧k < w'.heap.size))∧RRet F' w w' r v)
section
variable {P:Program} {E:Env} {C:Cx} {ρ:Own} {F:Nat→Prop} {σ:St} {a:Act} {w:World} {vs:List RV} {e:Eff}
variable {d:Option Tmp} {ty:TypeId} {pos:String} {af:Array Edge} {g:Option (Nat × Bool)}
theorem Rel'.adopt {n:Nat} (h:Rel' E n ρ F σ a w) {F':Nat→Prop} {id:Nat} (hid:yK σ.M id=none) {ent:Ent} {L:Loc} {w':World} (g:Grow w w') (hF:∀ k,F k→F' k) (hF':∀ k,F' k→F k ∨ (w.heap.size≤k∧k < w'.heap.size))
  (hb:∀ b,L.bl=some b→¬ F' b∧w.heap.size≤b∧b < w'.heap.size) (hent:EntOk (updO ρ id L) F' w' id ent)
  {x:HV} {v:Value} (hx:RH (updO ρ id L) F' w' x v) {dst:Option Nat} (hd:dstB n dst=true):Rel' E n (updO ρ id L) F' (σ.apply (.new id ent x) dst) (a.put dst v) w':=by
 have hnone:ρ id=none:=by
  cases hc:ρ id with
  | none=>rfl
  | some L'=>obtain ⟨e,he⟩:=h.mem.dom id L' hc; rw [hid] at he; cases he
 have old:∀ k L',ρ k=some L'→updO ρ id L k=some L':=fun k L' hk=>by
  rw [qKH (fun e=>by subst e; rw [hnone] at hk; cases hk)]; exact hk
 have inv:∀ k L',updO ρ id L k=some L'→(k=id∧L'=L) ∨ (k ≠ id∧ρ k=some L'):=fun k L' hk=>by
  by_cases e:k=id
  ·subst e; rw [kX] at hk; cases hk; exact .inl ⟨rfl,rfl⟩
  ·rw [qKH e] at hk; exact .inr ⟨e,hk⟩
 have blk:∀ k L' b,ρ k=some L'→L'.bl=some b→b < w.heap.size:=fun k L' b hk hb'=>(h.mem.off k L' b hk hb').2.1
 refine h.apply (.new id ent x) dst v (fun d e=>by subst e; simpa [dstB] using hd) ⟨fun k b hk=>old k _ hk,fun k L' hk _=>old k L' hk,fun k rows a' c' kk sz _ hs=>by simp [Eff.new,uJ] at hs,fun k hk=>⟨hF k hk,g.block k (h.mem.fz k hk).1⟩⟩ hx
  (fun k L' b _ hk hb'=>g.block b (blk k L' b hk hb')) (fun _ _=>rfl) (fun k hu => ?_) (fun k y hu => ?_) (fun k k' L1 L2 b h1 h2 hb1 hb2 => ?_) (fun k L' b hk hb' => ?_) (fun k hk => ?_) (qVE h.mem.grow g)
 ·simp only [Eff.new,qXU] at hu;split at hu
  ·cases hu
  ·rename_i hne; exact qKH (Ne.symm hne)
 ·simp only [Eff.new,qXU] at hu;split at hu
  ·rename_i he; cases hu; subst he; exact hent
  ·cases hu
 ·rcases inv k L1 h1 with ⟨e1,e2⟩ | ⟨n1,h1'⟩ <;> rcases inv k' L2 h2 with ⟨e3,e4⟩ | ⟨n2,h2'⟩
  ·rw [e1,e3]
  ·rw [e2] at hb1; have:=(hb b hb1).2.1; have:=blk k' L2 b h2' hb2; omega
  ·rw [e4] at hb2; have:=(hb b hb2).2.1; have:=blk k L1 b h1' hb1; omega
  ·exact h.mem.apart k k' L1 L2 b h1' h2' hb1 hb2
 ·rcases inv k L' hk with ⟨rfl,rfl⟩ | ⟨_,hk⟩
  ·have:=hb b hb'
   exact ⟨this.1,this.2.2,.inl (Nat.le_trans h.mem.grow.size this.2.1)⟩
  ·have:=h.mem.off k L' b hk hb'
   exact ⟨fun hf=>by rcases hF' b hf with h1 | h1; exact this.1 h1; omega,vZK this.2.1 g.size,this.2.2⟩
 ·rcases hF' k hk with h1 | h1
  ·exact ⟨vZK (h.mem.fz k h1).1 g.size,(h.mem.fz k h1).2⟩
  ·exact ⟨h1.2,.inr (.inl (Nat.le_trans h.mem.grow.size h1.1))⟩
theorem yUJ {rs:Regs} {x:HV} {dst:Option Nat}:Eqv ((σ.apply (.frz rs .un) none).apply (.val x) dst) (σ.apply (.frz rs x) dst):=by
 have e1:∀ y,(Eff.frz rs y).up=rs.map fun r=>(r.1,none):=fun y=>by cases rs <;> rfl
 have e2:∀ y,(Eff.frz rs y).sb=rs.map fun r=>(r.1,some r.2):=fun y=>by cases rs <;> rfl
 have e3:∀ y,(Eff.frz rs y).x=y:=fun y=>by cases rs <;> rfl
 refine ⟨fun t => ?_,fun i => ?_⟩
 ·rw [qJH,qJH,qJH,e2,e2];simp only [e3];by_cases h:dst=some t
  ·rw [if_pos h,if_pos h]; rfl
  ·rw [if_neg h,if_neg h,if_neg (by simp)];cases qQB σ.S t <;> simp [Eff.val,HV.sub_nil]
 ·rw [qYQ,qYQ,qYQ,e1,e1,e2,e2];cases uQ (rs.map fun r=>(r.1,(none:Option Ent))) i with
  | some y=>cases y <;> simp [Eff.val,uQ,Ent.sub_nil]
  | none=>cases yK σ.M i <;> simp [Eff.val,uQ,Ent.sub_nil]
def allF (ρ:Own) (F:Nat→Prop):Nat→Prop:=fun k=>F k ∨ ∃ id L,ρ id=some L∧L.bl=some k
theorem jZE {M:Mem} {hc:List HV} {cs:List CV} {ps:List PV} {us:List Value} {F':Nat→Prop} (hm:MemOk E ρ F M w) (hF:∀ k,F k→F' k) (hall:∀ id ad c k s b,ρ id=some (.reg ad c k s)→ad.map (·.block)=some b→F' b) (h:mapO (cvOf M) hc=some cs) (hal:Al (RH ρ F w) hc us) (hp:mapO CV.fz cs=some ps):Al (RP F' w) ps us:=by
 have hcv:=zYG h hal;have h1:=kJ hp;refine ⟨by rw [← h1.1,hcv.1],fun i p v hpi hv => ?_⟩;have hil:=(List.getElem?_eq_some_iff.1 hpi).1;have hl:i < cs.length:=by rw [h1.1]; exact hil
 have hfz:=h1.2 i _ p (vQK hl) hpi;obtain ⟨hrh,ho⟩:=hcv.2 i _ v (vQK hl) hv;generalize cs[i]=c at hfz hrh ho;unfold CV.fz at hfz;split at hfz
 ·cases hfz; exact RP.mono (fun k hk=>⟨hF k hk,rfl⟩) hrh
 ·cases hfz; have:v=.slice none 0 0:=hrh; subst this; exact .l0 _ _
 ·rename_i id e' sz rows;cases hfz;obtain ⟨ad,c',k,sz',hρ,rfl⟩:=hrh;exact (qZA (hm.ent id _ (ho _ _ _ _ rfl)) hF (fun L b hL hb=>by rw [hρ] at hL; cases hL; exact hall id _ _ _ _ b hρ hb) ad c' k sz' hρ).1
 ·cases hfz
theorem jHD {M:Mem} {F':Nat→Prop} (hm:MemOk E ρ F M w) (hF:∀ k,F k→F' k) {r:RV} {p:PV} {v:Value} (hp:r.fz=some p) (hr:RH ρ F w r.back v) (hres:RRes M r) (hall:(r.still=true∧∀ x ∈ r.regs,∀ L b,ρ x.1=some L→L.bl=some b→F' b) ∨ ∀ id L b,ρ id=some L→L.bl=some b→F' b):RP F' w p v:=by
 have mono:∀ {p:PV} {v:Value},RP F w p v→RP F' w p v:=fun h=>h.mono fun k hk=>⟨hF k hk,rfl⟩
 cases r with
 | v x=>cases hp; exact mono hr
 | nl=>cases hp; have:v=.slice none 0 0:=hr; subst this; exact .l0 _ _
 | o id e' sz rows =>
  cases hp;obtain ⟨ad,c',k,sz',hρ,rfl⟩:=hr;refine (qZA (hm.ent id _ hres) hF (fun L b hL hb => ?_) ad c' k sz' hρ).1;rcases hall with ⟨_,h⟩ | h
  ·exact h (id,rows) (by simp [RV.regs]) L b hL hb
  ·exact h id L b hL hb
 | q id j off e' sz rows =>
  cases hp;obtain ⟨b0,c',k,sz',hρ,hjk,rfl⟩:=hr;refine (qZA (hm.ent id _ hres) hF (fun L b hL hb => ?_) _ c' k sz' hρ).2 b0 j off rfl hjk;rcases hall with ⟨_,h⟩ | h
  ·exact h (id,rows) (by simp [RV.regs]) L b hL hb
  ·exact h id L b hL hb
 | p id off cells =>
  rcases hall with ⟨h,_⟩ | hall
  ·simp [RV.still] at h
  ·simp only [RV.fz,vQQ,vQZ] at hp;obtain ⟨cs,hcs,rfl⟩:=hp;obtain ⟨hc,hlk,hcc⟩:=hres;obtain ⟨b,hρ,rfl⟩:=hr;obtain ⟨b2,us,ty',hρ2,hheap,hal,hone⟩:=hm.ent id _ hlk;rw [hρ] at hρ2;cases hρ2
   have:=jZE hm hF (fun id ad c k s b hL hb=>hall id _ b hL hb) hcc hal hcs
   exact .c cs us b off ty' (hall id _ b hρ rfl) hheap this.1 hone this.2
 | i id off s pos=>cases hp
 | g fn first cap =>
  simp only [RV.fz,vQQ,vQZ] at hp;obtain ⟨cs,hcs,rfl⟩:=hp;obtain ⟨fs,us,rfl,hf,hu⟩:=hr;have h1:=kJ hcs;have hu':=hu.map_left_inv;have hcap:Al (RP F' w) cs us:=by
   refine ⟨by rw [← h1.1,hu'.1],fun i p v hpi hv => ?_⟩;have hil:=(List.getElem?_eq_some_iff.1 hpi).1;have hl:i < cap.length:=by rw [h1.1]; exact hil
   have hfz:=h1.2 i _ p (vQK hl) hpi;have hrc:=hu'.2 i _ v (vQK hl) hv;have hst:=hres _ (List.getElem_mem hl);have hstill:(∃ x,cap[i]=.v x) ∨ ∀ id L b,ρ id=some L→L.bl=some b→F' b:=by
    rcases hall with ⟨h,_⟩ | h
    ·simp only [RV.still,vZZ] at h
     have:=h _ (List.getElem_mem hl)
     cases hc:cap[i] with
     | v x=>exact .inl ⟨x,rfl⟩
     | p id off cells=>rw [hc] at this; simp at this
    ·exact .inr h
   generalize cap[i]=c at hfz hrc hst hstill;cases c with
   | v x=>cases hfz; exact mono hrc
   | p id off cells =>
    rcases hstill with ⟨x,hx⟩ | hall
    ·cases hx
    ·simp only [RC.fz,vQQ,vQZ] at hfz;obtain ⟨cs',hcs',rfl⟩:=hfz;obtain ⟨hc,hlk,hcc⟩:=hst;obtain ⟨b,hρ,rfl⟩:=hrc;obtain ⟨b2,us',ty',hρ2,hheap,hal,hone⟩:=hm.ent id _ hlk;rw [hρ] at hρ2;cases hρ2
     have:=jZE hm hF (fun id ad c k s b hL hb=>hall id _ b hL hb) hcc hal hcs'
     exact .c cs' us' b off ty' (hall id _ b hρ rfl) hheap this.1 hone this.2
  exact .f fn first cs fs us hf.1 hcap.1 (fun i p v hp hv=>mono (hf.2 i p v hp hv)) hcap.2
 | w x=>cases hp
 | un=>cases hp
theorem jZF {xs:List RV} {r:RV} (hr:r ∈ xs) {y:Nat × Rows} (hy:y ∈ r.regs):y ∈ catR RV.regs xs:=mem_catR.2 ⟨r,hr,hy⟩
theorem yXB {M:Mem} {r:RV} (hres:RRes M r):∀ y ∈ r.regs,∃ e sz,yK M y.1=some (.reg e sz y.2):=by
 cases r with
 | o id e' sz rows=>intro y hy; simp only [RV.regs,List.mem_singleton] at hy; subst hy; exact ⟨e',sz,hres⟩
 | q id j off e' sz rows=>intro y hy; simp only [RV.regs,List.mem_singleton] at hy; subst hy; exact ⟨e',sz,hres⟩
 | _=>intro y hy; cases hy
theorem uXU (h:Rel' E C.n ρ F σ a w) (hs:Regs) (hrs:∀ r ∈ hs,∃ e sz,yK σ.M r.1=some (.reg e sz r.2)) {F':Nat→Prop} {w':World} (gr:Grow w w') (hF:∀ k,frzF hs ρ F k→F' k) (hF':∀ k,F' k→frzF hs ρ F k ∨ (w.heap.size≤k∧k < w'.heap.size)) {dst me:Nat} {r:Ret} {v:Value} (hr:RRet F' w w' r v) (he:yYC C.T me dst hs r=some e) (hn:∀ i ∈ e.nw,yK σ.M i=none) {d:Option Nat} (hd:dstB C.n d=true) :
  Rel E C.n (σ.apply e d) (a.put d v) w':=by
 have hfz:∀ k,F' k→k < w'.heap.size:=fun k hk=>by
  rcases hF' k hk with h1 | h1
  ·rcases h1 with h1 | ⟨id,L,_,hL,hb⟩
   ·exact vZK (h.mem.fz k h1).1 gr.size
   ·exact vZK (h.mem.off id L k hL hb).2.1 gr.size
  ·exact h1.2
 have nil:hs=[]→(∀ k,F k→F' k)∧(∀ k,F' k→F k ∨ (w.heap.size≤k∧k < w'.heap.size)):=by
  rintro rfl
  refine ⟨fun k hk=>hF k (.inl hk),fun k hk => ?_⟩;rcases hF' k hk with (h1 | ⟨id,L,hm,_⟩) | h1
  ·exact .inl h1
  ·cases hm
  ·exact .inr h1
 -- a pure value
 have pure:∀ (x:PV),RP F' w' x v→(∀ k,F' k→frzF hs ρ F k ∨ (w.heap.size≤k∧k < w'.heap.size))→Rel E C.n (σ.apply (.frz hs (.v x)) d) (a.put d v) w':=by
  intro x hx hF2;have h1:=h.froze hs hrs;have h2:Rel E C.n ((σ.apply (.frz hs .un) none).apply (.val (.v x)) d) (a.put d v) w':=⟨_,_,h1.val gr hF hF2 (show RH _ F' w' (.v x) v from hx) hd⟩
  exact h2.eqv yUJ
 have pureF:∀ (x:PV),x.flat=true→RP F' w' x v→Rel E C.n (σ.apply (.val (.v x)) d) (a.put d v) w':=by
  intro x hf hx;exact ⟨ρ,F,h.val gr (fun _ h=>h) (fun _ h=>.inl h) (show RH ρ F w' (.v x) v from hx.flat hf) hd⟩
 cases r with
 | v x =>
  cases hs with
  | nil=>cases he; exact pure x hr hF'
  | cons y ys =>
   simp only [yYC] at he;cases hf:x.flat with
   | true=>rw [hf] at he; cases he; exact pureF x hf hr
   | false=>rw [hf] at he; cases he; exact pure x hr hF'
 | ow e' sz rows =>
  obtain ⟨ad,c,vr,rfl,h0,hal,hrl,hone,hown,hb⟩:=hr
  -- the slice, frozen
  have frozen:∃ F2:Nat→Prop,(∀ k,F' k→F2 k)∧(∀ k,F2 k→frzF hs ρ F k ∨ (w.heap.size≤k∧k < w'.heap.size))∧RP F2 w' rows.pv (.slice ad rows.len c):=by
   refine ⟨fun k=>F' k ∨ ad.map (·.block)=some k,fun k hk=>.inl hk,fun k hk => ?_,?_⟩
   ·rcases hk with hk | hk
    ·exact hF' k hk
    ·exact .inr (hb k hk).2
   ·exact (qZA (ρ:=fun i=>if i=0 then some (.reg ad c rows.len sz) else none) (id:=0) (e:=e') (sz:=sz) (F:=F') ⟨ad,c,vr,by simp,h0,hal,hrl,hone,hown⟩ (fun k hk=>.inl hk) (fun L b hL hbl=>by simp at hL; subst hL; exact .inr hbl) ad c rows.len sz (by simp)).1
  simp only [yYC] at he;cases ho:C.T.ownR me dst with
  | true =>
   rw [ho] at he;cases hs with
   | cons y ys=>cases he
   | nil =>
    cases he;obtain ⟨n1,n2⟩:=nil rfl;exact ⟨updO ρ dst (.reg ad c rows.len sz),F',h.adopt (ent:=.reg e' sz rows) (x:=.o dst) (L:=.reg ad c rows.len sz) (hn _ (by simp [Eff.new])) gr n1 n2 hb ⟨ad,c,vr,kX _ _ _,h0,hal,hrl,hone,hown⟩ ⟨_,_,_,_,kX _ _ _,rfl⟩ hd⟩
  | false =>
   rw [ho] at he;obtain ⟨F2,f1,f2,f3⟩:=frozen;have main:Rel E C.n (σ.apply (.frz hs (.v rows.pv)) d) (a.put d (.slice ad rows.len c)) w':=by
    have h1:=h.froze hs hrs;have h2:Rel E C.n ((σ.apply (.frz hs .un) none).apply (.val (.v rows.pv)) d) (a.put d (.slice ad rows.len c)) w':=⟨_,_,h1.val gr (fun k hk=>f1 k (hF k hk)) f2 (show RH _ F2 w' (.v rows.pv) _ from f3) hd⟩
    exact h2.eqv yUJ
   cases hs with
   | nil=>cases he; exact main
   | cons y ys=>cases he; exact main
 | pb cells =>
  cases hs with
  | cons y ys=>cases he
  | nil =>
   cases he;obtain ⟨n1,n2⟩:=nil rfl;obtain ⟨b,us,ty',rfl,hheap,hal,hone,hb1,hb2⟩:=hr;exact ⟨updO ρ dst (.blk b),F',h.adopt (ent:=.blk (cells.map .v)) (x:=.p dst 0) (L:=.blk b) (hn _ (by simp [Eff.new])) gr n1 n2 (fun b' hb'=>by simp only [Loc.bl,vQZ] at hb'; subst hb'; exact ⟨hb1,hb2⟩)
    ⟨b,us,ty',kX _ _ _,hheap,Al.map_left (show Al (fun z y=>RH (updO ρ dst (.blk b)) F' w' (HV.v z) y) cells us from hal),hone⟩ ⟨b,kX _ _ _,rfl⟩ hd⟩
theorem jZI (hA:SndA P C.cA) (h:Rel' E C.n ρ F σ a w) {o:Oper} (hd:dstB C.n o.dst=true) {f:Nat} {args:List RV} {us:List Value} (hu:Al (fun r v=>RH ρ F w r.back v) args us) (hres:∀ r ∈ args,RRes σ.M r) (he:zWV C.T C.cA C.me (o.dst.getD 0) f args=some e) (hn:∀ i ∈ e.nw,yK σ.M i=none)
  (hrun:uV P f→(execOp a.eval o).run P w=.ok (.enter f us.toArray) w):OK P E C σ a w e o:=by
 simp only [zWV,vQQ] at he;obtain ⟨ps,hps,r,hr,he⟩:=he;obtain ⟨hent,hcall⟩:=hA f ps r hr;have h1:=kJ hps;have al:∀ (F1:Nat→Prop),(∀ k,F k→F1 k)→(∀ x ∈ args,(x.still=true∧∀ y ∈ x.regs,∀ L b,ρ y.1=some L→L.bl=some b→F1 b) ∨ ∀ id L b,ρ id=some L→L.bl=some b→F1 b)→Al (RP F1 w) ps us:=by
  intro F1 hF1 hx;refine ⟨by rw [← h1.1,hu.1],fun i p v hp hv => ?_⟩;have hil:=(List.getElem?_eq_some_iff.1 hp).1;have hl:i < args.length:=by rw [h1.1]; exact hil
  have hm:=List.getElem_mem hl;exact jHD h.mem hF1 (h1.2 i _ p (vQK hl) hp) (hu.2 i _ v (vQK hl) hv) (hres _ hm) (hx _ hm)
 unfold OK Goes;rw [hrun hent];simp only;cases hst:args.all RV.still with
 | true =>
  rw [hst] at he;simp only [vYV] at he;have hrs:∀ y ∈ catR RV.regs args,∃ e sz,yK σ.M y.1=some (.reg e sz y.2):=fun y hy=>by
   obtain ⟨x,hx,hy'⟩:=mem_catR.1 hy;exact yXB (hres x hx) y hy'
  refine Calls.mono (hcall w (frzF (catR RV.regs args) ρ F) us (fun k hk => ?_) (al _ (fun k hk=>.inl hk) fun x hx=>.inl ⟨List.all_eq_true.1 hst x hx,fun y hy L b hL hb=>.inr ⟨y.1,L,List.mem_map.2 ⟨y,jZF hx hy,rfl⟩,hL,hb⟩⟩)) fun en w' ⟨v,F',hv,gr,hF,hF',hrr⟩=>⟨v,hv,uXU h _ hrs gr hF hF' hrr he hn hd⟩
  rcases hk with hk | ⟨id,L,_,hL,hb⟩
  ·exact (h.mem.fz k hk).1
  ·exact (h.mem.off id L k hL hb).2.1
 | false =>
  rw [hst] at he;simp only [vYG] at he;cases r with
  | v x =>
   simp only at he;obtain ⟨hf,he⟩:=qQ he;cases he;refine Calls.mono (hcall w (allF ρ F) us (fun k hk => ?_) (al _ (fun k hk=>.inl hk) fun x hx=>.inr fun id L b hL hb=>.inr ⟨id,L,hL,hb⟩)) fun en w' ⟨v,F',hv,gr,hF,hF',hrr⟩=>⟨v,hv,ρ,F,h.val gr (fun _ h=>h) (fun _ h=>.inl h) (show RH ρ F w' (.v x) v from RP.flat hrr hf) hd⟩
   rcases hk with hk | ⟨id,L,hL,hb⟩
   ·exact (h.mem.fz k hk).1
   ·exact (h.mem.off id L k hL hb).2.1
  | ow e' sz rows =>
   cases rows with
   | fo n f=>simp only at he; cases he
   | l rows =>
   simp only at he;obtain ⟨hf,he⟩:=qQ he;cases he;refine Calls.mono (hcall w (allF ρ F) us (fun k hk => ?_) (al _ (fun k hk=>.inl hk) fun x hx=>.inr fun id L b hL hb=>.inr ⟨id,L,hL,hb⟩)) fun en w' ⟨v,F',hv,gr,hF,hF',hrr⟩ => ?_
   ·rcases hk with hk | ⟨id,L,hL,hb⟩
    ·exact (h.mem.fz k hk).1
    ·exact (h.mem.off id L k hL hb).2.1
   ·obtain ⟨ad,c,vr,rfl,h0,hal,hrl,hone,hown,hb⟩:=hrr;have hal2:Al (Al (RP (fun k=>F k ∨ ad.map (·.block)=some k) w')) rows vr:=hal.imp fun r u hr hru=>hru.imp fun p q hp hpq=>hpq.flat1 (List.all_eq_true.1 (List.all_eq_true.1 hf r hr) p hp)
    have fr:=(qZA (ρ:=fun i=>if i=0 then some (.reg ad c rows.length sz) else none) (id:=0) (e:=e') (sz:=sz) (rows:=.l rows) (F:=fun k=>F k ∨ ad.map (·.block)=some k) (F':=fun k=>F k ∨ ad.map (·.block)=some k) ⟨ad,c,vr,by simp [Rows.len],h0,hal2,hrl,hone,hown⟩ (fun k hk=>hk) (fun L b hL hbl=>by simp at hL; subst hL; exact .inr hbl) ad c rows.length sz (by simp [Rows.len])).1;exact ⟨_,hv,ρ,_,h.val gr (fun k hk=>.inl hk) (fun k hk=>hk.imp id fun hk=>(hb k hk).2) (show RH ρ _ w' (.v (.l rows)) _ from fr) hd⟩
  | _=>cases he
end
end Go.Rx
namespace Go.Rx
open Go.RowKit Go.Sx
def ArgB (F:Nat→Prop) (w:World) (b:Nat):HV→Value→Prop
 | .v x,v=>RP F w x v
 | .p _ off,v=>v=.pointer (some ⟨b,off,none⟩)
 | _,_=>False
def SndB (P:Program) (cB:kZE):Prop:=∀ g hs ps x ps',cB g hs ps=some (x,ps')→uV P g∧∀ (w:World) (F:Nat→Prop) (b:Nat) (vals us:List Value) (ty:TypeId),(∀ k,F k→k < w.heap.size)→¬ F b→b < w.heap.size →
 w.heap[b]? = some (.cells us.toArray ty)→Al (RP F w) ps us→(∀ u ∈ us,u.oneCell'=true)→(∀ h ∈ hs,∀ id off,h=.p id off→id=pid)→Al (ArgB F w b) hs vals →
 Calls P g vals.toArray w (fun e w'=>∃ v F' us' ty',e=.returned v∧GrowB (· = b) w w'∧(∀ k,F k→F' k)∧(∀ k,F' k→F k ∨ (w.heap.size≤k∧k < w'.heap.size))∧RP F' w' x v ∧
  w'.heap[b]? = some (.cells us'.toArray ty')∧Al (RP F' w') ps' us'∧∀ u ∈ us',u.oneCell'=true)
section
variable {P:Program} {E:Env} {C:Cx} {ρ:Own} {F:Nat→Prop} {σ:St} {a:Act} {w:World} {vs:List RV} {e:Eff}
variable {d:Option Tmp} {ty:TypeId} {pos:String} {af:Array Edge} {g:Option (Nat × Bool)}
theorem Rel'.setB {n:Nat} (h:Rel' E n ρ F σ a w) {id b:Nat} (hρ:ρ id=some (.blk b)) {F':Nat→Prop} {ent:Ent} {w':World} (g:GrowB (· = b) w w') (hF:∀ k,F k→F' k) (hF':∀ k,F' k→F k ∨ (w.heap.size≤k∧k < w'.heap.size)) (hent:EntOk ρ F' w' id ent) {x:HV} {v:Value} (hx:RH ρ F' w' x v) {dst:Option Nat} (hd:dstB n dst=true) :
  Rel' E n ρ F' (σ.apply (.set id ent x) dst) (a.put dst v) w':=by
 have hb:(Loc.blk b).bl=some b:=rfl;have hoff:=h.mem.off id _ b hρ hb;have fzb:∀ k,F k→w'.heap[k]? = w.heap[k]?:=fun k hk=>g.block k (h.mem.fz k hk).1 fun e=>by subst e; exact hoff.1 hk
 refine h.apply (.set id ent x) dst v (fun d e=>by subst e; simpa [dstB] using hd) ⟨fun k b hk=>hk,fun k L' hk _=>hk,fun k rows a' c' kk sz _ hs=>by simp [Eff.set,uJ] at hs,fun k hk=>⟨hF k hk,fzb k hk⟩⟩ hx
  (fun k L' b' hu hk hb' => ?_) (fun _ _=>rfl) (fun k hu=>rfl) (fun k y hu => ?_) h.mem.apart (fun k L' b' hk hb' => ?_) (fun k hk => ?_) ?_
 ·refine g.block b' (h.mem.off k L' b' hk hb').2.1 fun e => ?_
  subst e
  have:=h.mem.apart k id L' _ b' hk hρ hb' hb
  subst this;simp [Eff.set,qXU] at hu
 ·simp only [Eff.set,qXU] at hu;split at hu
  ·rename_i he; cases hu; subst he; exact hent
  ·cases hu
 ·have:=h.mem.off k L' b' hk hb'
  exact ⟨fun hf=>by rcases hF' b' hf with h1 | h1; exact this.1 h1; omega,vZK this.2.1 g.size,this.2.2⟩
 ·rcases hF' k hk with h1 | h1
  ·exact ⟨vZK (h.mem.fz k h1).1 g.size,(h.mem.fz k h1).2⟩
  ·exact ⟨h1.2,.inr (.inl (Nat.le_trans h.mem.grow.size h1.1))⟩
 ·refine ⟨g.os.trans h.mem.grow.os,g.tape.trans h.mem.grow.tape,g.output.trans h.mem.grow.output,Nat.le_trans h.mem.grow.size g.size,fun k hk hW => ?_⟩;rw [g.block k (vZK hk h.mem.grow.size) fun e => ?_]
  ·exact h.mem.grow.block k hk hW
  ·subst e;rcases hoff.2.2 with h1 | h1
   ·omega
   ·exact hW h1
theorem yKA:∀ {xs:List RV} {p:Nat × List CV},kQY xs=some p→∃ off,RV.p p.1 off p.2 ∈ xs
 | [],p,h=>by cases h
 | x :: xs,p,h=>by
  simp only [kQY] at h;split at h
  ·cases h; exact ⟨_,vZQ⟩
  ·obtain ⟨off,ho⟩:=yKA h; exact ⟨off,vQH _ ho⟩
theorem fWW {M:Mem} {hc:List HV} {cs:List CV} {ps:List PV} {us:List Value} (h:mapO (cvOf M) hc=some cs) (hal:Al (RH ρ F w) hc us) (hp:mapO CV.pv cs=some ps):Al (RP F w) ps us:=by
 have hcv:=zYG h hal;have h1:=kJ hp;refine ⟨by rw [← h1.1,hcv.1],fun i p v hpi hv => ?_⟩;have hil:=(List.getElem?_eq_some_iff.1 hpi).1;have hl:i < cs.length:=by rw [h1.1]; exact hil
 have hfz:=h1.2 i _ p (vQK hl) hpi;obtain ⟨hrh,ho⟩:=hcv.2 i _ v (vQK hl) hv;generalize cs[i]=c at hfz hrh ho;unfold CV.pv at hfz;split at hfz
 ·cases hfz; exact hrh
 ·cases hfz;have e:v=.slice none 0 0:=hrh;subst e;exact .zs
 ·cases hfz
theorem kQI (hB:SndB P C.cB) (h:Rel' E C.n ρ F σ a w) {o:Oper} (hd:dstB C.n o.dst=true) {f:Nat} {args:List RV} {us:List Value} (hu:Al (fun r v=>RH ρ F w r.back v) args us) (hres:∀ r ∈ args,RRes σ.M r) (he:zKG C.cB f args=some e)
  (hrun:uV P f→(execOp a.eval o).run P w=.ok (.enter f us.toArray) w):OK P E C σ a w e o:=by
 simp only [zKG,vQQ,vQZ] at he;obtain ⟨⟨id,cs⟩,hp,ps,hps,hs,hhs,⟨x,ps'⟩,hr,rfl⟩:=he;obtain ⟨hent,hcall⟩:=hB f hs ps x ps' hr;obtain ⟨off,hmem⟩:=yKA hp;obtain ⟨hc,hlk,hcc⟩:=hres _ hmem;obtain ⟨b,cu,ty',hρ,hheap,hal,hone⟩:=h.mem.ent id _ hlk;have hpu:=fWW hcc hal hps;have hoff:=h.mem.off id _ b hρ rfl;have hrs:∀ y ∈ catR RV.regs args,∃ e sz,yK σ.M y.1=some (.reg e sz y.2):=fun y hy=>by
  obtain ⟨x,hx,hy'⟩:=mem_catR.1 hy;exact yXB (hres x hx) y hy'
 have hid:id ∉ (catR RV.regs args).map (·.1):=fun hm=>by
  obtain ⟨r,hr,hre⟩:=List.mem_map.1 hm;obtain ⟨e',sz,hl⟩:=hrs r hr;have hre':r.1=id:=hre;rw [hre',hlk] at hl; cases hl
 have h1:=h.froze (catR RV.regs args) hrs;generalize hFF:frzF (catR RV.regs args) ρ F=F1 at h1;have hF1:∀ k,F k→F1 k:=fun k hk=>by rw [← hFF]; exact .inl hk
 have hρ1:frzρ (catR RV.regs args) ρ id=some (.blk b):=by rw [zWQ hid]; exact hρ
 have hmo:=kJ hhs;unfold OK Goes;rw [hrun hent];simp only;refine Calls.mono (hcall w F1 b us cu ty' (fun k hk=>(h1.mem.fz k hk).1) (h1.mem.off id _ b hρ1 rfl).1 hoff.2.1 hheap (hpu.imp fun _ _ _ hx=>hx.mono fun k hk=>⟨hF1 k hk,rfl⟩) hone ?_ ?_) fun en w' ⟨v,F',us',ty2,hv,gr,f1,f2,hx,hb',hal',hone'⟩=>⟨v,hv,?_⟩
 ·intro hh hhm id' off' he';obtain ⟨i,hi⟩:=List.mem_iff_getElem?.1 hhm;have hil:=(List.getElem?_eq_some_iff.1 hi).1;have hl:i < args.length:=by rw [hmo.1]; exact hil
  have ht:=hmo.2 i _ hh (vQK hl) hi;rw [he'] at ht;generalize args[i]=r at ht;cases r <;> simp only [RV.toB] at ht
  case p id2 off2 c2 =>
   obtain ⟨_,ht⟩:=qQ ht;cases ht; rfl
  all_goals
   obtain ⟨_,ht⟩:=qQ ht;simp only [vQQ] at ht;obtain ⟨_,_,ht⟩:=ht;cases ht
 ·refine ⟨by rw [← hmo.1,hu.1],fun i hh v hi hv => ?_⟩;have hil:=(List.getElem?_eq_some_iff.1 hi).1;have hl:i < args.length:=by rw [hmo.1]; exact hil
  have ht:=hmo.2 i _ hh (vQK hl) hi;have hrv:=hu.2 i _ v (vQK hl) hv;have hmm:=List.getElem_mem hl;have hrr:=hres _ hmm;generalize args[i]=r at ht hrv hmm hrr;have gen:r.still=true→∀ y,r.fz=some y→RP F1 w y v:=fun hst y hy=>jHD h.mem hF1 hy hrv hrr (.inl ⟨hst,fun x hx L b hL hb=>by rw [← hFF]; exact .inr ⟨x.1,L,List.mem_map.2 ⟨x,jZF hmm hx,rfl⟩,hL,hb⟩⟩)
  cases r <;> simp only [RV.toB] at ht
  case p id2 off2 c2 =>
   obtain ⟨he2,ht⟩:=qQ ht;cases ht
   have:=vQX he2
   subst this;obtain ⟨b2,hb2,rfl⟩:=hrv;rw [hρ] at hb2; cases hb2; rfl
  all_goals
   obtain ⟨hst,ht⟩:=qQ ht;simp only [vQQ] at ht;obtain ⟨y,hy,ht⟩:=ht;cases ht;exact gen hst y hy
 ·have h2:=h1.setB (id:=id) hρ1 gr f1 f2 (ent:=.blk (ps'.map PV.toH)) ⟨b,us',ty2,hρ1,hb',Al.map_left (hal'.imp fun _ _ _ h=>zUB h),hone'⟩ (x:=.v x) (v:=v) hx hd;exact Rel.eqv ⟨_,_,h2⟩ (zQE (e:=.set id (.blk (ps'.map PV.toH)) (.v x)) rfl rfl hid)
theorem zUV {fx:Operand} {args:Array Operand} {ats:Array TypeId} {f:Nat} {fs us cs:List Value} (h:Rel' E C.n ρ F σ a w) (hf:ev (actS a) fx=some (.func (.func f) fs.toArray cs.toArray)) (hu:evs (actS a) args.toList=some us) (hent:uV P f) :
  (execOp a.eval ⟨d,.call ⟨.value fx,args,ats⟩,ty,pos,af,g⟩).run P w=.ok (.enter f (fs ++ us ++ cs).toArray) w:=by
 have e3:args.map a.eval=us.toArray:=by
  have h1:=(qVI hu).1;have h2:=(qVI hu).2
  have:args.toList.map a.eval=us:=by
   rw [← h1];refine List.map_congr_left fun x hx => ?_
   have:=h2 x hx
   cases hv:ev (actS a) x with
   | none=>rw [hv] at this; cases this
   | some v=>rw [qZD h hv,yY hv]
  apply Array.ext'; rw [Array.toList_map,this]
 simp [execOp,resolve,qZD h hf,Deferred.ofValue,invoke,e3]
 simpa using hent (fs ++ us ++ cs).toArray w
theorem al_v {ps:List PV} {us:List Value} (h:Al (RP F w) ps us):Al (fun r v=>RH ρ F w r.back v) (ps.map RV.v) us:=Al.map_left h
theorem uVU {fx:Operand} {args:Array Operand} {ats:Array TypeId} (hA:SndA P C.cA) (hB:SndB P C.cB) (h:Rel' E C.n ρ F σ a w) (hd:dstB C.n d=true) (hvs:mapO (opv 0 σ) (#[fx] ++ args).toList=some vs) (he:zH C.T C.cA C.cB C.me (d.getD 0) (.call ⟨.value fx,args,ats⟩) vs=some e) (hn:∀ i ∈ e.nw,yK σ.M i=none) :
  OK P E C σ a w e ⟨d,.call ⟨.value fx,args,ats⟩,ty,pos,af,g⟩:=by
 rw [show (#[fx] ++ args).toList=fx :: args.toList by simp] at hvs;simp only [mapO,vQQ,vQZ] at hvs;obtain ⟨rx,hrx,rs,hrs,rfl⟩:=hvs;obtain ⟨v,v1,v2,v3⟩:=jW h hrx;obtain ⟨us,u1,u2,u3⟩:=zKQ h hrs;cases rx with
 | v p =>
  cases p with
  | f fn first cap =>
   simp only [zH] at he;cases v2 with
   | f _ _ _ fs cs hl hm hf hc =>
    have hal:=((al_v (ρ:=ρ) ⟨hl,hf⟩).append u2).append (al_v ⟨hm,hc⟩);have hres:∀ r ∈ first.map RV.v ++ rs ++ cap.map RV.v,RRes σ.M r:=fun r hr=>by
     rcases List.mem_append.1 hr with hr | hr
     ·rcases List.mem_append.1 hr with hr | hr
      ·obtain ⟨_,_,rfl⟩:=List.mem_map.1 hr; trivial
      ·exact u3 r hr
     ·obtain ⟨_,_,rfl⟩:=List.mem_map.1 hr; trivial
    cases hrw:C.T.rw fn with
    | true=>rw [hrw] at he; exact kQI hB h hd hal hres he fun hent=>zUV h v1 u1 hent
    | false=>rw [hrw] at he; exact jZI hA h hd hal hres he hn fun hent=>zUV h v1 u1 hent
  | _=>simp only [zH] at he; cases he
 | g fn first cap =>
  simp only [zH] at he;obtain ⟨fs,cs,rfl,hf,hc⟩:=v2;have hal:=((al_v (ρ:=ρ) hf).append u2).append (Al.map_left (f:=fun c:RC=>(match c with | .v x=>RV.v x | .p id off cells=>RV.p id off cells)) (R:=fun r v=>RH ρ F w r.back v) (hc.map_left_inv.imp fun c v _ hh=>(by cases c <;> exact hh)));refine jZI hA h hd hal (fun r hr => ?_) he hn fun hent=>zUV h v1 u1 hent
  rcases List.mem_append.1 hr with hr | hr
  ·rcases List.mem_append.1 hr with hr | hr
   ·obtain ⟨_,_,rfl⟩:=List.mem_map.1 hr; trivial
   ·exact u3 r hr
  ·obtain ⟨c,hcm,rfl⟩:=List.mem_map.1 hr
   have:=v3 c hcm
   cases c <;> exact this
 | _=>simp only [zH] at he; cases he
theorem yKK {ops:Array Oper} {o:Oper} {b:Bool} (h:Rel' E C.n ρ F σ a w) (hg:qQI ops σ o=some b):Region.wanted o (yielded ops a.tmps)=b:=by
 unfold qQI at hg;unfold Region.wanted;cases hgd:o.guard with
 | none=>rw [hgd] at hg; cases hg; rfl
 | some jb =>
  obtain ⟨j,c⟩:=jb;rw [hgd] at hg;simp only at hg ⊢;split at hg
  ·rename_i dd hdd;split at hg
   ·rename_i x hx;cases hg;obtain ⟨v,hv,hr⟩:=h.slots dd _ hx
    have:=qXZ hr
    subst this;simp [yielded,hdd,Array.getD_eq_getD_getElem?,hv]
   ·rename_i hx;cases hg;obtain ⟨v,hv,hr⟩:=h.slots dd _ hx;cases hr with
    | t _ vs hl _ =>
     simp [yielded,hdd,hv]
   ·cases hg
  ·cases hg
theorem uYI {op:Op} (hT:TabOk P C.T) (hA:SndA P C.cA) (hB:SndB P C.cB) (h:Rel' E C.n ρ F σ a w) (hd:dstB C.n d=true) (hvs:mapO (opv (mode op) σ) op.operands.toList=some vs) (he:zH C.T C.cA C.cB C.me (d.getD 0) op vs=some e) (hn:∀ i ∈ e.nw,yK σ.M i=none) (hnd:∀ c,op ≠ .defer c) :
  OK P E C σ a w e ⟨d,op,ty,pos,af,g⟩:=by
 cases op with
 | defer c=>exact absurd rfl (hnd c)
 | move x=>exact uWL h hd hvs he
 | assign x=>exact jVU h hd hvs he
 | pick c x y=>exact uWE h hd hvs he
 | alloc t=>exact kXE hT h hd hvs he hn
 | box t x=>exact xWD h hd hvs he hn
 | build t ps=>exact kXD hT h hd hvs he
 | buildSlice t len ps=>exact jVK hT h hd hvs he hn
 | load t x=>exact uVY hT h hd hvs he
 | store t x y=>exact kUE hT h hd hvs he
 | nilCheck x=>exact xXA h hd hvs he
 | binOp op t x y t'=>exact xWF hT h hd hvs he
 | unOp op t x =>
  cases op with
  | not=>exact xXH h hd hvs he
  | neg=>exact xXB h hd hvs he
  | _=>simp only [zH] at he; cases he
 | convert s t x=>exact jJE hT h hd hvs he
 | makeFunc fn first cap=>exact yWG h hd hvs he
 | makeSlice t x y=>exact uVQ hT h hd hvs he hn
 | slice t x lo hi mx=>exact kUF hT h hd hvs he
 | fieldAddr t x f=>exact yJC hT h hd hvs he
 | field t x f=>exact kXA hT h hd hvs he
 | indexAddr t x y=>exact yJB hT h hd hvs he
 | index t x y=>exact kXG hT h hd hvs he
 | range t x=>exact kUI hT h hd hvs he hn
 | next x b=>exact uWI h hd hvs he
 | extract x i=>exact jJD h hd hvs he
 | call c =>
  obtain ⟨callee,args,ats⟩:=c;cases callee with
  | value fx=>exact uVU hA hB h hd hvs he hn
  | builtin b =>
   cases b with
   | len=>exact xXI hT h hd hvs he
   | min=>exact xXD h hd hvs he
   | max=>exact xXE h hd hvs he
   | append=>exact jVX hT h hd hvs he hn
   | _=>simp only [zH] at he; cases he
  | _=>simp only [zH] at he; cases he
 | _=>simp only [zH] at he; cases he
theorem kXC (hT:TabOk P C.T) (hE:E.D=Harm P) (h:Rel' E C.n ρ F σ a w) {d:Option Tmp} {ty:TypeId} {pos:String} {af:Array Edge} {g:Option (Nat × Bool)} {c:Call} {vs:List RV} {e:Eff} (hd:dstB C.n d=true)
  (hvs:mapO (opv 0 σ) c.operands.toList=some vs) (he:zH C.T C.cA C.cB C.me (d.getD 0) (.defer c) vs=some e):GoesD P E.D ⟨d,.defer c,ty,pos,af,g⟩ a w fun a' w'=>Rel E C.n (σ.apply e d) a' w':=by
 obtain ⟨callee,args,ats⟩:=c;cases callee with
 | value fx =>
  cases vs with
  | nil=>simp only [zH] at he; cases he
  | cons x vs =>
   simp only [zH] at he;obtain ⟨hargs,he1⟩:=qQ he
   clear he
   have hargs0:args=#[]:=by simpa using hargs
   subst hargs0;have hvs':mapO (opv 0 σ) [fx]=some (x :: vs):=by simpa [Call.operands] using hvs
   obtain ⟨y,hy,hys⟩:=qGY hvs';cases hys;have key:∀ (f:Nat) (fs cs:List Value),a.eval fx=.func (.func f) fs.toArray cs.toArray→C.T.dd f=true→e=.val .un→GoesD P E.D ⟨d,.defer ⟨.value fx,#[],ats⟩,ty,pos,af,g⟩ a w fun a' w'=>Rel E C.n (σ.apply e d) a' w':=by
    intro f fs cs hev hdd he;subst he;obtain ⟨hent,hc⟩:=hT.dd f hdd;have hh:Harm P { target:=.fn (.func f) cs.toArray,args:=fs.toArray }:=⟨f,cs.toArray,rfl,hent,hc⟩
    refine .inr ⟨{ target:=.fn (.func f) cs.toArray,args:=fs.toArray },?_,by rw [hE]; exact hh,?_⟩
    ·simp [execOp,resolve,hev,Deferred.ofValue]
    ·have h':Rel' E C.n ρ F σ { a with defers:={ target:=.fn (.func f) cs.toArray,args:=fs.toArray } :: a.defers } w:=⟨h.size,fun d hd=>by
      rcases List.mem_cons.1 hd with rfl | hd
      ·rw [hE]; exact hh
      ·exact h.defers d hd,h.slots,h.mem⟩
     exact ⟨ρ,F,h'.val (x:=.un) (Grow.refl w) (fun _ h=>h) (fun _ h=>.inl h) trivial hd⟩
   cases x with
   | v p =>
    cases p with
    | f fn first cap =>
     simp only at he1;obtain ⟨hdd,he⟩:=qQ he1;obtain ⟨v,v1,v2,v3⟩:=jW h hy;cases v2 with
     | f _ _ _ fs cs hl hm hf hc=>exact key fn fs cs (qZD h v1) hdd (by injection he with he; exact he.symm)
    | _=>simp only at he1; cases he1
   | g fn first cap =>
    simp only at he1;obtain ⟨hdd,he⟩:=qQ he1;obtain ⟨v,v1,v2,v3⟩:=jW h hy;obtain ⟨fs,cs,rfl,hf,hc⟩:=v2;exact key fn fs cs (qZD h v1) hdd (by injection he with he; exact he.symm)
   | _=>simp only at he1; cases he1
 | _=>simp only [zH] at he; cases he
theorem jUL {ops:Array Oper} (hT:TabOk P C.T) (hE:E.D=Harm P) (hA:SndA P C.cA) (hB:SndB P C.cB):Sim P E C ops:=by
 intro o σ r a w hs hr;obtain ⟨ρ,F,h⟩:=hr;unfold qKJ at hs;simp only [vQQ] at hs;obtain ⟨gb,hg,hs⟩:=hs;have hw:=yKK h hg;obtain ⟨hd,hs⟩:=qQ hs;cases gb with
 | true =>
  rw [if_pos hw];simp only [vYV,vQQ] at hs;obtain ⟨vs,hvs,e,he,hs⟩:=hs;obtain ⟨hn,hs⟩:=qQ hs;cases hs;have hn':∀ i ∈ e.nw,yK σ.M i=none:=fun i hi=>by
   have:=List.all_eq_true.1 hn i hi
   simpa using this
  obtain ⟨d,op,ty,pos,af,g⟩:=o;by_cases hdf:∃ c,op=.defer c
  ·obtain ⟨c,rfl⟩:=hdf;exact kXC hT hE h hd hvs he
  ·exact .inl (uYI hT hA hB h hd hvs he hn' (fun c hc=>hdf ⟨c,hc⟩))
 | false =>
  rw [if_neg (by rw [hw]; simp)];simp only [vYG,vQZ] at hs;subst hs;exact ⟨ρ,F,h.val (x:=.v (.t [])) (Grow.refl w) (fun _ h=>h) (fun _ h=>.inl h) (RP.t [] [] rfl fun i p v hp=>by simp at hp) hd⟩
end
end Go.Rx
namespace Go.Rx
open Go.RowKit Go.Sx
section
variable {P:Program} {E:Env} {n:Nat} {C:Cx} {ρ:Own} {F:Nat→Prop} {σ:St} {a:Act} {w:World}
theorem yHB {t:Nat} {v:Value} (h:a.tmps[t]? = some v):a.put (some t) v=a:=by
 have:a.tmps.setIfInBounds t v=a.tmps:=by
  refine Array.ext_getElem? fun i => ?_
  rw [Array.getElem?_setIfInBounds];split
  ·rename_i e;subst e;have hl:=(Array.getElem?_eq_some_iff.1 h).1;rw [if_pos hl,h]
  ·rfl
 simp [Act.put,this]
theorem uYY (h:Rel' E n ρ F σ a w) {t:Nat} {v:Value} (hv:a.tmps[t]? = some v):dstB n (some t)=true:=by
 have hl:=(Array.getElem?_eq_some_iff.1 hv).1;rw [h.size] at hl
 simpa [dstB] using hl
theorem Rel'.tell (h:Rel' E n ρ F σ a w) {t:Nat} (ht:qQB σ.S t=some .nl):Rel' E n ρ F (σ.apply (.val (.v (.l []))) (some t)) a w:=by
 obtain ⟨v,hv,hr⟩:=h.slots t _ ht;have hr':v=.slice none 0 0:=hr;subst hr'
 have:=h.val (Grow.refl w) (fun _ h=>h) (fun _ h=>.inl h) (x:=.v (.l [])) (v:=.slice none 0 0) (RP.l0 _ _) (uYY h hv)
 rwa [yHB hv] at this
theorem zQX:∀ (l:List Nat) {σ:St},Rel E C.n σ a w→Rel E C.n (frzL l σ) a w
 | [],σ,h=>h
 | t :: l,σ,h=>by
  simp only [frzL];split
  ·rename_i hx;obtain ⟨ρ,F,h⟩:=h;exact zQX l ⟨ρ,F,h.tell hx⟩
  ·rename_i id hx;split
   ·rename_i e sz rows hl;obtain ⟨ρ,F,h⟩:=h;exact zQX l ⟨_,_,h.froze [(id,rows)] (fun r hr=>by simp only [List.mem_singleton] at hr; subst hr; exact ⟨e,sz,hl⟩)⟩
   ·exact zQX l h
  ·exact zQX l h
theorem zJI:∀ (l:List (Nat × Nat × Nat × Nat)) {σ:St},Rel E C.n σ a w→Rel E C.n (ownL l σ) a w
 | [],σ,h=>h
 | (t,id,e,sz) :: l,σ,h=>by
  simp only [ownL];split
  ·rename_i hx hl;cases hz:Nat.blt 0 sz with
   | false=>exact zJI l h
   | true =>
    have hz':0 < sz:=by rw [Nat.blt_eq] at hz; exact hz
    obtain ⟨ρ,F,h⟩:=h;obtain ⟨v,hv,hr⟩:=h.slots t _ hx;have hr':v=.slice none 0 0:=hr;subst hr'
    have:=h.adopt (id:=id) hl (ent:=.reg e sz (.l [])) (L:=.reg none 0 0 sz) (x:=.o id) (v:=.slice none 0 0) (Grow.refl w) (fun _ h=>h) (fun _ h=>.inl h) (fun b hb=>by cases hb)
     ⟨none,0,[],kX _ _ _,hz',Al.nil,(fun r hr=>by cases hr),(fun r hr=>by cases hr),⟨by simp [Rows.len],.inl (by simp [Rows.len])⟩⟩ ⟨_,_,_,_,kX _ _ _,rfl⟩ (uYY h hv)
    rw [yHB hv] at this;exact zJI l ⟨_,_,this⟩
  ·exact zJI l h
theorem qVY:∀ (l:List (Nat × Nat × Nat × Nat × Nat)) {σ:St},Rel E C.n σ a w→Rel E C.n (yJK l σ) a w
 | [],σ,h=>h
 | (b,k,id,e,sz) :: l,σ,h=>by
  simp only [yJK];split
  ·rename_i cells hb hl;split
   ·rename_i hc;cases hz:Nat.blt 0 sz with
    | false=>exact qVY l h
    | true =>
     have hz':0 < sz:=by rw [Nat.blt_eq] at hz; exact hz
     rw [vYV];refine qVY l ?_;obtain ⟨ρ,F,h⟩:=h;have hnone:ρ id=none:=by
      cases hc:ρ id with
      | none=>rfl
      | some L'=>obtain ⟨e,he⟩:=h.mem.dom id L' hc; rw [hl] at he; cases he
     have hne:b ≠ id:=fun e=>by rw [e,hl] at hb; cases hb
     have old:∀ k L',ρ k=some L'→updO ρ id (.reg none 0 0 sz) k=some L':=fun k L' hk=>by
      rw [qKH (fun e=>by subst e; rw [hnone] at hk; cases hk)]; exact hk
     have inv:∀ k L',updO ρ id (.reg none 0 0 sz) k=some L'→(k=id∧L'=.reg none 0 0 sz) ∨ (k ≠ id∧ρ k=some L'):=fun k L' hk=>by
      by_cases e:k=id
      ·subst e; rw [kX] at hk; cases hk; exact .inl ⟨rfl,rfl⟩
      ·rw [qKH e] at hk; exact .inr ⟨e,hk⟩
     have hF:∀ k,F k→F k∧w.heap[k]? = w.heap[k]?:=fun k hk=>⟨hk,rfl⟩
     have ht:Turns [] ρ (updO ρ id (.reg none 0 0 sz)) F F w w:=⟨fun k b hk=>old k _ hk,fun k L' hk _=>old k _ hk,fun k rows a' c' kk sz _ hs=>by simp [uJ] at hs,hF⟩
     refine ⟨updO ρ id (.reg none 0 0 sz),F,h.size,h.defers,fun t x hx => ?_,⟨fun k y hk => ?_,fun k L hk => ?_,fun k k' L L' b' h1 h2 h3 h4 => ?_,fun k L b' hk hb' => ?_,h.mem.fz,h.mem.fz0,h.mem.grow,fun b' hb' => ?_⟩⟩
     ·obtain ⟨v,hv,hr⟩:=h.slots t x hx;exact ⟨v,hv,hr.mono old hF⟩
     ·simp only [qVX] at hk;split at hk
      ·rename_i e1;cases hk;subst e1;exact ⟨none,0,[],kX _ _ _,hz',Al.nil,(fun r hr=>by cases hr),(fun r hr=>by cases hr),⟨by simp [Rows.len],.inl (by simp [Rows.len])⟩⟩
      ·split at hk
       ·rename_i e2;cases hk;subst e2;obtain ⟨bb,vs,ty,h1,h2,h3,h4⟩:=h.mem.ent _ _ hb;obtain ⟨v,hv,hr⟩:=h3.get hc;have hr':v=.slice none 0 0:=hr;subst hr';refine ⟨bb,vs,ty,old _ _ h1,h2,?_,h4⟩;have h5:=(h3.imp (R':=RH (updO ρ id (.reg none 0 0 sz)) F w) fun x v _ hx=>hx.mono old hF).set (x:=.o id) (y:=.slice none 0 0) ⟨none,0,0,sz,kX _ _ _,rfl⟩ k;have e3:vs.set k (.slice none 0 0)=vs:=by
         refine List.ext_getElem? fun i => ?_
         rw [List.getElem?_set];split
         ·rename_i e4;subst e4;have hlt:=(List.getElem?_eq_some_iff.1 hv).1;rw [if_pos hlt,hv]
         ·rfl
        rw [e3] at h5;exact h5
       ·have:=(h.mem.ent k y hk).sub ht (by simp [uJ]) (fun _ _ _ _=>rfl)
        rw [Ent.sub_nil] at this;exact this
     ·simp only [qVX];rcases inv k L hk with ⟨rfl,_⟩ | ⟨h1,h2⟩
      ·exact ⟨_,if_pos rfl⟩
      ·obtain ⟨y,hy⟩:=h.mem.dom k L h2;rw [if_neg (Ne.symm h1)];split
       ·exact ⟨_,rfl⟩
       ·exact ⟨y,hy⟩
     ·rcases inv k L h1 with ⟨rfl,rfl⟩ | ⟨a1,a2⟩
      ·cases h3
      ·rcases inv k' L' h2 with ⟨rfl,rfl⟩ | ⟨b1,b2⟩
       ·cases h4
       ·exact h.mem.apart k k' L L' b' a2 b2 h3 h4
     ·rcases inv k L hk with ⟨rfl,rfl⟩ | ⟨a1,a2⟩
      ·cases hb'
      ·exact h.mem.off k L b' a2 hb'
     ·exact old _ _ (h.mem.pin b' hb')
   ·exact qVY l h
  ·exact qVY l h
def inI (ids:List Nat) (i:Nat):Bool:=ids.any (Nat.beq i)
theorem inI_iff {ids:List Nat} {i:Nat}:inI ids i=true ↔ i ∈ ids:=by
 simp only [inI,List.any_eq_true];constructor
 ·rintro ⟨x,hx,he⟩; rw [vQX he]; exact hx
 ·intro h; exact ⟨i,h,Nat.beq_refl i⟩
def yWQ (ids:List Nat) (ρ:Own):Own:=fun id=>if id ∈ ids then ρ id else none
theorem qKI {ids:List Nat} {id:Nat} (h:id ∈ ids):yWQ ids ρ id=ρ id:=by simp only [yWQ,if_pos h]
theorem qVD {ids:List Nat} {id:Nat} {L:Loc} (h:yWQ ids ρ id=some L):id ∈ ids∧ρ id=some L:=by
 unfold yWQ at h;split at h
 ·rename_i hm; exact ⟨hm,h⟩
 ·cases h
theorem yHE {ids:List Nat} {x:HV} {v:Value} (h:RH ρ F w x v):RH (yWQ ids ρ) F w (x.only ids) v:=by
 unfold HV.only;cases hc:x.every.all (fun i=>ids.any (Nat.beq i)) with
 | false=>trivial
 | true =>
  have hin:∀ i ∈ x.every,i ∈ ids:=fun i hi=>inI_iff.1 (List.all_eq_true.1 hc i hi)
  simp only [vYV];cases x with
  | v x=>exact h
  | nl=>exact h
  | un=>trivial
  | o id =>
   obtain ⟨ad,c,k,sz,h1,h2⟩:=h;exact ⟨ad,c,k,sz,by rw [qKI (hin id (by simp [HV.every]))]; exact h1,h2⟩
  | p id off =>
   obtain ⟨b,h1,h2⟩:=h;exact ⟨b,by rw [qKI (hin id (by simp [HV.every]))]; exact h1,h2⟩
  | q id j off =>
   obtain ⟨b,c,k,sz,h1,h2⟩:=h;exact ⟨b,c,k,sz,by rw [qKI (hin id (by simp [HV.every]))]; exact h1,h2⟩
  | g fn first cap =>
   obtain ⟨fs,cs,h1,h2,h3⟩:=h;refine ⟨fs,cs,h1,h2,h3.imp fun c v hm hr => ?_⟩;cases c with
   | v x=>exact hr
   | p id off =>
    obtain ⟨b,h4,h5⟩:=hr;exact ⟨b,by rw [qKI (hin id (mem_catL.2 ⟨_,hm,by simp [Cap.every]⟩))]; exact h4,h5⟩
  | ag cs =>
   obtain ⟨vs,h1,h2,h3⟩:=h;refine ⟨vs,h1,h2.imp fun c v hm hr => ?_,h3⟩;cases c with
   | o id =>
    obtain ⟨ad,c,k,sz,h4,h5⟩:=hr;exact ⟨ad,c,k,sz,by rw [qKI (hin id (mem_catL.2 ⟨_,hm,by simp [HC.ids]⟩))]; exact h4,h5⟩
   | v x=>exact hr
   | nl=>exact hr
   | un=>trivial
theorem kUD {ids:List Nat} {id:Nat} {e:Ent} (hid:id ∈ ids) (h:EntOk ρ F w id e):EntOk (yWQ ids ρ) F w id (e.only ids):=by
 cases e with
 | blk cells =>
  obtain ⟨b,vs,ty,h1,h2,h3,h4⟩:=h;exact ⟨b,vs,ty,by rw [qKI hid]; exact h1,h2,Al.map_left (h3.imp fun _ _ _ h=>yHE h),h4⟩
 | reg e sz rows =>
  obtain ⟨ad,c,vr,h1,h2⟩:=h;exact ⟨ad,c,vr,by rw [qKI hid]; exact h1,h2⟩
 | itr s pos =>
  obtain ⟨b,h1,h2⟩:=h;exact ⟨b,by rw [qKI hid]; exact h1,h2⟩
theorem jKK {M:Mem} {ids:List Nat} {i:Nat} {x:Ent} (h:yK (yVG M ids) i=some x):i ∈ ids∧yK M i=some x:=by
 induction ids with
 | nil=>cases h
 | cons t ts ih =>
  simp only [yVG] at h;split at h
  ·rename_i y hy;by_cases e:t=i
   ·subst e;simp only [yK,Nat.beq_refl,vYV,vQZ] at h;subst h;exact ⟨vZQ,hy⟩
   ·simp only [yK,qYI e,vYG] at h;exact ⟨vQH _ (ih h).1,(ih h).2⟩
  ·exact ⟨vQH _ (ih h).1,(ih h).2⟩
theorem jHK {M:Mem} {ids:List Nat} {i:Nat} {x:Ent} (hm:i ∈ ids) (h:yK M i=some x):yK (yVG M ids) i=some x:=by
 induction ids with
 | nil=>cases hm
 | cons t ts ih =>
  simp only [yVG];by_cases e:t=i
  ·subst e; rw [h]; simp [yK]
  ·have hm':i ∈ ts:=by
    rcases List.mem_cons.1 hm with h | h
    ·exact absurd h.symm e
    ·exact h
   split
   ·simp only [yK,qYI e,vYG]; exact ih hm'
   ·exact ih hm'
theorem jKJ {ts:List Nat} {t:Nat} {x:HV} (h:qQB (jHJ σ ts) t=some x):qQB σ.S t=some x:=by
 induction ts with
 | nil=>cases h
 | cons u ts ih =>
  simp only [jHJ] at h;split at h
  ·rename_i y hy;by_cases e:u=t
   ·subst e;rw [zGQ] at h; cases h; exact hy
   ·rw [yQA e] at h; exact ih h
  ·exact ih h
theorem yQI:∀ (l:List (Nat × List PV)) {S:List (Nat × HV)} {M:Mem},Rel E C.n ⟨S,M⟩ a w→Rel E C.n ⟨S,funL l M⟩ a w
 | [],S,M,h=>h
 | (id,z) :: l,S,M,h=>by
  simp only [funL];split
  ·rename_i e sz rows hl;refine yQI l ?_;obtain ⟨ρ,F,h⟩:=h;refine ⟨ρ,F,h.size,h.defers,h.slots,⟨fun i x hx => ?_,fun i L hL => ?_,h.mem.apart,h.mem.off,h.mem.fz,h.mem.fz0,h.mem.grow,h.mem.pin⟩⟩
   ·rw [qVX] at hx;split at hx
    ·rename_i e1;cases hx;subst e1;obtain ⟨ad,c,vr,h1,h2,h3,h4,h5,h6⟩:=h.mem.ent id _ hl;have el:(rows.toF z).len=rows.len:=by rw [← Rows.len_L,Rows.toF_L,Rows.len_L]
     exact ⟨ad,c,vr,by rw [el]; exact h1,h2,by rw [Rows.toF_L]; exact h3,by rw [Rows.toF_L]; exact h4,h5,by rw [el]; exact h6⟩
    ·exact h.mem.ent i x hx
   ·obtain ⟨x,hx⟩:=h.mem.dom i L hL;show ∃ e,yK (putM id _ M) i=some e;rw [qVX];split
    ·exact ⟨_,rfl⟩
    ·exact ⟨x,hx⟩
  ·exact yQI l h
theorem yYL {hi:Hint} (h:Rel E C.n σ a w):Rel E C.n (qJW hi σ) a w:=by
 have h1:=qVY (C:=C) hi.ownB (zJI (C:=C) hi.own (zQX (C:=C) hi.frz h));unfold qJW;generalize yJK hi.ownB (ownL hi.own (frzL hi.frz σ))=τ at h1;refine yQI (C:=C) hi.fun_ ?_;obtain ⟨ρ,F,h⟩:=h1;refine ⟨yWQ (pid :: hi.ids) ρ,F,h.size,h.defers,fun t x hx => ?_,⟨fun id e hl => ?_,fun id L hL => ?_,fun id id' L L' b h1 h2 => ?_,fun id L b hL hb => ?_,h.mem.fz,h.mem.fz0,h.mem.grow,fun b hb => ?_⟩⟩
 ·simp only [yJI,vZW] at hx;obtain ⟨y,hy,rfl⟩:=hx;obtain ⟨v,hv,hr⟩:=h.slots t y (jKJ hy);exact ⟨v,hv,yHE hr⟩
 ·simp only [zXH,vZW] at hl;obtain ⟨y,hy,rfl⟩:=hl;obtain ⟨k1,k2⟩:=jKK hy;exact kUD k1 (h.mem.ent id y k2)
 ·obtain ⟨k1,k2⟩:=qVD hL;obtain ⟨e,he⟩:=h.mem.dom id L k2;exact ⟨_,by simp only [zXH]; rw [jHK k1 he]; rfl⟩
 ·exact h.mem.apart id id' L L' b (qVD h1).2 (qVD h2).2
 ·exact h.mem.off id L b (qVD hL).2 hb
 ·rw [qKI vZQ]; exact h.mem.pin b hb
def exOf:Ex→Exit
 | .normal=>.normal
 | .exit id=>.exit id
 | .ret=>.ret
theorem zVG {hi:Hint} (h:Rel E C.n σ a w):Rel E C.n (qYB hi σ) a w:=by
 unfold qYB;split
 ·exact h
 ·exact yYL h
theorem jJY {N:Nat} {r:Ret × Mem} (hT:TabOk P C.T) (hE:E.D=Harm P) (hA:SndA P C.cA) (hB:SndB P C.cB) (hm:P.follows .mixedOrders=true):∀ (c:Code) (K:Ex→St→Option (Ret × Mem)) (σ:St) (a:Act) (w:World) (Q:Exit→Act→World→Prop),runC N C c K σ=some r→Rel E C.n σ a w →
  (∀ e τ a w,K e τ=some r→Rel E C.n τ a w→Q (exOf e) a w)→c.wp P Q a w:=by
 intro c;induction c with
 | skip=>intro K σ a w Q h hr hK; exact wp_skip (hK .normal σ a w h hr)
 | label l=>intro K σ a w Q h hr hK; exact wp_label (hK .normal σ a w h hr)
 | scope x ih =>
  intro K σ a w Q h hr hK;exact wp_scope_straight (ih K σ a w _ h hr fun e τ a w hk hr'=>by cases e <;> exact hK _ τ a w hk hr')
 | ret=>intro K σ a w Q h hr hK; exact wp_ret (hK .ret σ a w h hr)
 | exit id=>intro K σ a w Q h hr hK; exact wp_exit (hK (.exit id) σ a w h hr)
 | region id ops d =>
  intro K σ a w Q h hr hK;cases d with
  | true =>
   simp only [runC,vYV] at h;exact uYG hm (jUL hT hE hA hB) h hr (fun h=>h.grow (Grow.drew (Grow.refl _))) fun τ a w hk hr=>hK .normal τ a w hk hr
  | false =>
   simp only [runC,vYG] at h;exact wp_region_list (yUD (jUL hT hE hA hB) (fun τ a w hk hr=>hK .normal τ a w hk hr) _ _ _ _ h hr)
 | seq x y ihx ihy =>
  intro K σ a w Q h hr hK;refine wp_seq (ihx _ σ a w _ h hr fun e τ a' w' hk hr' => ?_);cases e with
  | normal=>exact ihy K τ a' w' Q hk hr' hK
  | exit id=>exact hK (.exit id) τ a' w' hk hr'
  | ret=>exact hK .ret τ a' w' hk hr'
 | cond c x y ihx ihy =>
  intro K σ a w Q h hr hK;simp only [runC,vQQ] at h;obtain ⟨v,hv,h⟩:=h;have hr0:=hr;obtain ⟨ρ,F,hr'⟩:=hr;obtain ⟨u,u1,u2,u3⟩:=jW hr' hv;split at h
  ·rename_i t
   have:=qXZ u2
   subst this;refine wp_cond (t:=t) (qZD hr' u1) ?_;cases t with
   | true=>exact ihx K σ a w Q h hr0 hK
   | false=>exact ihy K σ a w Q h hr0 hK
  ·cases h
 | block id x ih =>
  intro K σ a w Q h hr hK;refine wp_block (ih _ σ a w _ h hr fun e τ a' w' hk hr' => ?_);cases e with
  | normal=>exact hK .normal τ a' w' hk hr'
  | ret=>exact hK .ret τ a' w' hk hr'
  | exit id' =>
   simp only at hk;by_cases e:id'=id
   ·subst e;rw [Nat.beq_refl] at hk
    simpa [exOf,Exit.inBlock] using hK .normal τ a' w' hk hr'
   ·rw [qYI e] at hk
    simpa [exOf,Exit.inBlock,e] using hK (.exit id') τ a' w' hk hr'
 | loop x ih =>
  intro K σ a w Q h hr hK;simp only [runC] at h;have key:∀ M σ a w,qGJ (fun again σ=>runC N C x (fun e σ=>match e with
   | .normal=>again σ
   | e=>K e (qYB (C.T.hint C.me (yZ x)) σ)) (qJW (C.T.hint C.me (yZ x)) σ)) M σ=some r→Rel E C.n σ a w→Code.rounds P x Q M a w:=by
   intro M;induction M with
   | zero=>intro σ a w h; cases h
   | succ M ihM =>
    intro σ a w h hr;rw [rounds_succ];refine ih _ _ a w _ h (yYL hr) fun e τ a' w' hk hr' => ?_
    cases e with
    | normal=>exact ihM τ a' w' hk hr'
    | exit id=>exact hK (.exit id) _ a' w' hk (zVG hr')
    | ret=>exact hK .ret _ a' w' hk (zVG hr')
  exact wp_loop_rounds N (key N σ a w h hr)
 | _=>intro K σ a w Q h; simp only [runC] at h; cases h
end
end Go.Rx
namespace Go.Rx
open Go.RowKit Go.Sx
section
variable {P:Program} {E:Env} {T:Tab} {ρ:Own} {F:Nat→Prop} {σ:St} {a:Act} {w:World}
theorem uHJ {M:Mem} {cs:List CV} {ps:List PV} {us:List Value} {F':Nat→Prop} (hm:MemOk E ρ F M w) (hF:∀ k,F k→F' k) (hall:∀ id ad c k s b,ρ id=some (.reg ad c k s)→ad.map (·.block)=some b→F' b) (hcv:Al (fun c v=>RH ρ F w c.back v∧∀ id e sz rows,c=.o id e sz rows→yK M id=some (.reg e sz rows)) cs us) (hp:mapO CV.fz cs=some ps):Al (RP F' w) ps us:=by
 have h1:=kJ hp;refine ⟨by rw [← h1.1,hcv.1],fun i p v hpi hv => ?_⟩;have hil:=(List.getElem?_eq_some_iff.1 hpi).1;have hl:i < cs.length:=by rw [h1.1]; exact hil
 have hfz:=h1.2 i _ p (vQK hl) hpi;obtain ⟨hrh,ho⟩:=hcv.2 i _ v (vQK hl) hv;generalize cs[i]=c at hfz hrh ho;unfold CV.fz at hfz;split at hfz
 ·cases hfz; exact RP.mono (fun k hk=>⟨hF k hk,rfl⟩) hrh
 ·cases hfz; have:v=.slice none 0 0:=hrh; subst this; exact .l0 _ _
 ·rename_i id e' sz rows;cases hfz;obtain ⟨ad,c',k,sz',hρ,rfl⟩:=hrh;exact (qZA (hm.ent id _ (ho _ _ _ _ rfl)) hF (fun L b hL hb=>by rw [hρ] at hL; cases hL; exact hall id _ _ _ _ b hρ hb) ad c' k sz' hρ).1
 ·cases hfz
def ResR (E:Env) (ρ:Own) (F:Nat→Prop) (M:Mem) (w:World) (r:RV) (v:Value):Prop :=
 (RH ρ F w r.back v∧RRes M r) ∨ (∃ p,r=.v p∧∀ F':Nat→Prop,(∀ k,F k→F' k)→(∀ id ad c k s b,ρ id=some (.reg ad c k s)→ad.map (·.block)=some b→F' b)→RP F' w p v)
theorem uXG {n:Nat} (hT:TabOk P T) (h:Rel' E n ρ F σ a w) {x:ResultVar} {r:RV} (hx:jJW T σ x=some r):∃ v,(resF a.tmps x).run P w=.ok v w∧ResR E ρ F σ.M w r v:=by
 cases x with
 | tmp t =>
  simp only [jJW,vQQ] at hx;obtain ⟨y,hy,hr⟩:=hx;obtain ⟨v,hv,hrh⟩:=h.slots t y hy;obtain ⟨hb,hres⟩:=zJF hr;refine ⟨v,by simp [resF,Array.getD_eq_getD_getElem?,hv],.inl ⟨by rw [hb]; exact hrh,hres⟩⟩
 | cell x t =>
  simp only [jJW,vQQ] at hx;obtain ⟨y,hy,p,hp,⟨kb,k⟩,hk,hx⟩:=hx;obtain ⟨v,hv,hrh⟩:=h.slots x y hy;obtain ⟨hb,hres⟩:=zJF hp;rw [← hb] at hrh;obtain ⟨hty,hk1⟩:=hT.sz t kb k hk;cases p with
  | p id off cells =>
   obtain ⟨b,hρ,rfl⟩:=hrh;obtain ⟨hc,hlk,hcc⟩:=hres;obtain ⟨b2,us,ty',hρ2,hheap,hal,hone⟩:=h.mem.ent id _ hlk;rw [hρ] at hρ2;cases hρ2;cases kb with
   | false =>
    have hk1':=hk1 rfl;subst hk1';simp only [vYG,vQQ,vQZ] at hx;obtain ⟨c,hcs,q,hq,rfl⟩:=hx;have hcv:=zYG hcc hal;obtain ⟨u,hu,hru⟩:=hcv.get hcs;have hr:=qVG (w:=w) hheap off;rw [hu] at hr;refine ⟨u,by simp [resF,Array.getD_eq_getD_getElem?,hv,asAddr,loadVar,qUU hty,hr],.inr ⟨_,rfl,fun F' hF hall => ?_⟩⟩;exact (uHJ h.mem hF hall (cs:=[c]) (us:=[u]) ⟨rfl,fun i c' u' hc' hu'=>by
     cases i with
     | zero=>simp at hc' hu'; subst hc' hu'; exact hru
     | succ i=>simp at hc'⟩ (ps:=[q]) (by simp [mapO,hq])).2 0 q u rfl rfl
   | true =>
   simp only [vYV,vQQ,vQZ] at hx;obtain ⟨cs,hcs,ps,hps,rfl⟩:=hx;obtain ⟨rfl,hle⟩:=qUX hcs;have hcv:=zYG hcc hal;have hlen:cells.length=us.length:=hcv.1;have hr:=qKU (P:=P) (w:=w) (b:=b) (off:=off) (k:=k) (vs:=(us.drop off).take k) (fun i hi=>by
    rw [qVG hheap];simp [vZV,hi]) (by simp; omega)
   refine ⟨.agg ((us.drop off).take k).toArray,by simp [resF,Array.getD_eq_getD_getElem?,hv,asAddr,loadVar,qUU hty,qJD hty,hr],.inr ⟨_,rfl,fun F' hF hall => ?_⟩⟩;exact qHV (uHJ h.mem hF hall ((hcv.drop off).take k) hps) fun u hu=>hone u (List.mem_of_mem_drop (List.mem_of_mem_take hu))
  | _=>simp only at hx; cases hx
theorem yHU {n:Nat} (hT:TabOk P T) (h:Rel' E n ρ F σ a w):∀ {xs:List ResultVar} {rs:List RV},mapO (jJW T σ) xs=some rs→∃ vs,(xs.mapM (resF a.tmps)).run P w=.ok vs w∧Al (ResR E ρ F σ.M w) rs vs
 | [],rs,hx=>by simp [mapO] at hx; subst hx; exact ⟨[],by simp,Al.nil⟩
 | x :: xs,rs,hx=>by
  simp only [mapO,vQQ,vQZ] at hx;obtain ⟨r,hr,rs',hrs,rfl⟩:=hx;obtain ⟨v,h1,h2⟩:=uXG hT h hr;obtain ⟨vs,h3,h4⟩:=yHU hT h hrs;exact ⟨v :: vs,by simp [List.mapM_cons,Sem.run_bind,h1,h3],Al.cons h2 h4⟩
def outF (E:Env) (ρ:Own) (F:Nat→Prop):Nat→Prop:=fun k=>F k ∨ ∃ id L,ρ id=some L∧L.bl=some k∧¬ E.W k
theorem xJU {M:Mem} (hm:MemOk E ρ F M w) {id:Nat} {ad:Option Addr} {c k s b:Nat} (h:ρ id=some (.reg ad c k s)) (hb:ad.map (·.block)=some b):¬ E.W b:=fun hw=>by
 have h1:=hm.pin b hw
 have:=hm.apart id pid _ _ b h h1 hb rfl
 subst this;rw [h] at h1; cases h1
theorem F_W {M:Mem} (hm:MemOk E ρ F M w) {k:Nat} (h:F k):E.F0 k ∨ E.w0.heap.size≤k:=by
 rcases (hm.fz k h).2 with h1 | h1 | h1
 ·exact .inl h1
 ·exact .inr h1
 ·exact absurd h (hm.off pid _ k (hm.pin k h1) rfl).1
theorem zJL {M:Mem} (hm:MemOk E ρ F M w) {k:Nat} (h:outF E ρ F k):E.F0 k ∨ (E.w0.heap.size≤k∧k < w.heap.size):=by
 rcases h with h | ⟨id,L,hL,hb,hW⟩
 ·rcases F_W hm h with h1 | h1
  ·exact .inl h1
  ·exact .inr ⟨h1,(hm.fz k h).1⟩
 ·have:=hm.off id L k hL hb
  rcases this.2.2 with h1 | h1
  ·exact .inr ⟨h1,this.2.1⟩
  ·exact absurd h1 hW
theorem uXH {M:Mem} (hm:MemOk E ρ F M w) {r:RV} {p:PV} {v:Value} (hr:ResR E ρ F M w r v) (hp:r.fz=some p) (hs:r.still=true ∨ ∀ k,¬ E.W k):RP (outF E ρ F) w p v:=by
 have hreg:∀ id ad c k s b,ρ id=some (.reg ad c k s)→ad.map (·.block)=some b→outF E ρ F b:=fun id ad c k s b h hb=>.inr ⟨id,_,h,hb,xJU hm h hb⟩
 rcases hr with ⟨h1,h2⟩ | ⟨p',rfl,h1⟩
 ·refine jHD hm (fun k hk=>.inl hk) hp h1 h2 ?_;rcases hs with hs | hs
  ·refine .inl ⟨hs,fun x hx L b hL hb => ?_⟩;obtain ⟨e,sz,hl⟩:=yXB h2 x hx;obtain ⟨ad,c,vr,hρ,_⟩:=hm.ent x.1 _ hl;rw [hL] at hρ;cases hρ;exact hreg _ _ _ _ _ b hL hb
  ·exact .inr fun id L b hL hb=>.inr ⟨id,L,hL,hb,hs b⟩
 ·cases hp; exact h1 _ (fun k hk=>.inl hk) hreg
theorem jXC {M:Mem} (hm:MemOk E ρ F M w):∀ {rs:List RV} {ps:List PV} {vs:List Value},Al (ResR E ρ F M w) rs vs→mapO RV.fz rs=some ps→(rs.all RV.still=true ∨ ∀ k,¬ E.W k)→Al (RP (outF E ρ F) w) ps vs
 | [],ps,vs,hal,hp,_=>by cases hp; rw [hal.nil_left]; exact Al.nil
 | r :: rs,ps,vs,hal,hp,hs=>by
  simp only [mapO,vQQ,vQZ] at hp;obtain ⟨p,hp,ps',hps,rfl⟩:=hp;obtain ⟨v,vs',rfl,hr,hal'⟩:=hal.cons_left;have h1:r.still=true ∨ ∀ k,¬ E.W k:=hs.imp (fun h=>by simp only [List.all_cons,vQJ] at h; exact h.1) id;have h2:rs.all RV.still=true ∨ ∀ k,¬ E.W k:=hs.imp (fun h=>by simp only [List.all_cons,vQJ] at h; exact h.2) id;exact Al.cons (uXH hm hr hp h1) (jXC hm hal' hps h2)
theorem fZE {M:Mem} (hm:MemOk E ρ F M w) {id e sz:Nat} {rows:Rows} {v:Value} (hr:ResR E ρ F M w (.o id e sz rows) v):RRet F E.w0 w (.ow e sz rows) v:=by
 rcases hr with ⟨h1,h2⟩ | ⟨p,hp,_⟩
 ·obtain ⟨ad,c,k,sz',hρ,rfl⟩:=h1;obtain ⟨ad2,c2,vr,hρ2,h0,hal,hrl,hone,hown⟩:=hm.ent id _ h2;rw [hρ] at hρ2;cases hρ2;refine ⟨ad,c,vr,rfl,h0,hal,hrl,hone,hown,fun b hb => ?_⟩
  have:=hm.off id _ b hρ hb
  refine ⟨this.1,?_,this.2.1⟩;rcases this.2.2 with h | h
  ·exact h
  ·exact absurd h (xJU hm hρ hb)
 ·cases hp
def regF (ρ:Own) (F:Nat→Prop):Nat→Prop:=fun k=>F k ∨ ∃ id ad c n s,ρ id=some (.reg ad c n s)∧ad.map (·.block)=some k
theorem fZD {M:Mem} (hm:MemOk E ρ F M w) {id:Nat} {cells:List CV} {ps:List PV} {v:Value} (hr:ResR E ρ F M w (.p id 0 cells) v) (hp:mapO CV.fz cells=some ps) (hW:∀ k,¬ E.W k):RRet (regF ρ F) E.w0 w (.pb ps) v:=by
 rcases hr with ⟨h1,h2⟩ | ⟨p,hp,_⟩
 ·obtain ⟨b,hρ,rfl⟩:=h1;obtain ⟨hc,hlk,hcc⟩:=h2;obtain ⟨b2,us,ty',hρ2,hheap,hal,hone⟩:=hm.ent id _ hlk;rw [hρ] at hρ2;cases hρ2;have hoff:=hm.off id _ b hρ rfl;refine ⟨b,us,ty',rfl,hheap,uHJ hm (fun k hk=>.inl hk) (fun id ad c k s b h hb=>.inr ⟨id,ad,c,k,s,h,hb⟩) (zYG hcc hal) hp,hone,fun hf => ?_,?_,hoff.2.1⟩
  ·rcases hf with hf | ⟨id',ad,c,k,s,h,hb⟩
   ·exact hoff.1 hf
   ·have:=hm.apart id id' _ _ b hρ h rfl hb
    subst this;rw [hρ] at h; cases h
  ·exact hoff.2.2.resolve_right (hW b)
 ·cases hp
theorem kYQ {xs:List ResultVar} {vs:List Value} {fn:Func} (hfn:fn.results=xs.toArray) (h:(xs.mapM (resF a.tmps)).run P w=.ok vs w):(results fn a.tmps).run P w=.ok (Sx.valOf vs) w:=by
 unfold results;rw [hfn];change Sem.run P (do let us ← xs.toArray.mapM (resF a.tmps); pure (if h:us.size=1 then us[0] else .tuple us)) w=_;simp only [Sem.run_bind,List.mapM_toArray,Sem.run_map,h,Result.andThen_ok]
 match vs with
 | []=>rfl
 | [v]=>rfl
 | v :: u :: vs=>simp [Sx.valOf]
theorem uXW {M:Mem} (hm:MemOk E ρ F M w) {rs:List RV} {vs:List Value} {r:Ret} (hal:Al (ResR E ρ F M w) rs vs) (hr:jJX rs=some r) (hs:rs.all RV.still=true ∨ ∀ k,¬ E.W k) :
  ∃ F',(∀ k,F k→F' k)∧(∀ k,F' k→E.F0 k ∨ (E.w0.heap.size≤k∧k < w.heap.size))∧RRet F' E.w0 w r (Sx.valOf vs):=by
 have gen:∀ ps,mapO RV.fz rs=some ps→Al (RP (outF E ρ F) w) ps vs:=fun ps hps=>jXC hm hal hps hs
 have tup:∀ ps,mapO RV.fz rs=some ps→Sx.valOf vs=.tuple vs.toArray→r=.v (.t ps)→∃ F',(∀ k,F k→F' k)∧(∀ k,F' k→E.F0 k ∨ (E.w0.heap.size≤k∧k < w.heap.size))∧RRet F' E.w0 w r (Sx.valOf vs):=fun ps hps hv hr=>by
  subst hr;rw [hv];exact ⟨outF E ρ F,fun k hk=>.inl hk,fun k hk=>zJL hm hk,.t ps vs (gen ps hps).1 (gen ps hps).2⟩
 have one:∀ x p v,rs=[x]→vs=[v]→x.fz=some p→r=.v p→∃ F',(∀ k,F k→F' k)∧(∀ k,F' k→E.F0 k ∨ (E.w0.heap.size≤k∧k < w.heap.size))∧RRet F' E.w0 w r (Sx.valOf vs):=fun x p v hx hv hp hr=>by
  subst hr hx hv
  have:=gen [p] (by simp [mapO,hp])
  exact ⟨outF E ρ F,fun k hk=>.inl hk,fun k hk=>zJL hm hk,this.2 0 p v rfl rfl⟩
 cases rs with
 | nil =>
  have:=hal.nil_left
  subst this;simp only [jJX,mapO,vYQ,vQZ] at hr;exact tup [] rfl rfl hr.symm
 | cons x rs =>
  obtain ⟨v,vs',rfl,hx,hal'⟩:=hal.cons_left;cases rs with
  | nil =>
   have:=hal'.nil_left
   subst this;have oth:(x.fz.bind fun y=>some (Ret.v y))=some r→∃ F',(∀ k,F k→F' k)∧(∀ k,F' k→E.F0 k ∨ (E.w0.heap.size≤k∧k < w.heap.size))∧RRet F' E.w0 w r (Sx.valOf [v]):=fun hr=>by
    simp only [vQQ,vQZ] at hr;obtain ⟨y,hy,rfl⟩:=hr;exact one x y v rfl rfl hy rfl
   cases x with
   | o id e sz rows =>
    cases hr;exact ⟨F,fun k hk=>hk,fun k hk=>by
     rcases F_W hm hk with h | h
     ·exact .inl h
     ·exact .inr ⟨h,(hm.fz k hk).1⟩,fZE hm hx⟩
   | p id off cells =>
    cases off with
    | zero =>
     simp only [jJX,vQQ,vQZ] at hr;obtain ⟨cs,hcs,rfl⟩:=hr;have hW:∀ k,¬ E.W k:=hs.resolve_left (by simp [RV.still]);refine ⟨regF ρ F,fun k hk=>.inl hk,fun k hk => ?_,fZD hm hx hcs hW⟩;rcases hk with hk | ⟨id',ad,c,n,s,h,hb⟩
     ·exact zJL hm (.inl hk)
     ·exact zJL hm (.inr ⟨id',_,h,hb,hW k⟩)
    | succ off=>exact oth hr
   | _=>exact oth hr
  | cons y rs =>
   obtain ⟨u,vs'',rfl,hy,hal''⟩:=hal'.cons_left;simp only [jJX,vQQ,vQZ] at hr;obtain ⟨ys,hys,rfl⟩:=hr;exact tup ys hys rfl rfl
theorem zGZ:∀ {hs:List HV} {k t:Nat} {x:HV},qQB (initS k hs) t=some x→k≤t∧hs[t - k]? = some x
 | [],k,t,x,h=>by cases h
 | y :: hs,k,t,x,h=>by
  simp only [initS] at h;by_cases e:k=t
  ·subst e; rw [zGQ] at h; simpa using h
  ·rw [yQA e] at h;obtain ⟨h1,h2⟩:=zGZ h;refine ⟨by omega,?_⟩;rw [show t - k=(t - (k + 1)) + 1 by omega]
   simpa using h2
theorem zKV {N f:Nat} {orc:Orc} {hs:List HV} {M M':Mem} {r:Ret} {vals:List Value} (hT:TabOk P T) (hm:P.follows .mixedOrders=true) (hE:E.D=Harm P) (hA:SndA P (qUB orc (runF T orc N))) (hB:SndB P (qWE orc (runF T orc N)))
  (h:runF T orc (N + 1) f hs M=some (r,M')):uV P f∧∀ (hal:Al (RH ρ F w) hs vals) (hmem:MemOk E ρ F M w) (hW:M.isEmpty=true→∀ k,¬ E.W k),
   Calls P f vals.toArray w (fun e w'=>∃ v F' ρ' F1,e=.returned v∧GrowB E.W E.w0 w'∧MemOk E ρ' F1 M' w'∧(∀ k,F1 k→F' k)∧(∀ k,F' k→E.F0 k ∨ (E.w0.heap.size≤k∧k < w'.heap.size))∧RRet F' E.w0 w' r v):=by
 simp only [runF] at h;split at h
 ·cases h
 ·rename_i fi hfi;obtain ⟨hle,h⟩:=qQ h;obtain ⟨hent,fn,hf,hb,hn,hres⟩:=hT.fn f fi hfi;refine ⟨hent,fun hal hmem hW=>calls_of_wp_defers hf hb ?_⟩;have hle':hs.length≤fi.ntmps:=vZX hle;have hl:vals.length=hs.length:=hal.1.symm;refine jJY (E:=E) (C:=⟨T,qUB orc (runF T orc N),qWE orc (runF T orc N),f,fi.ntmps⟩) hT hE hA hB hm fi.body _ _ _ _ _ h ⟨ρ,F,by simp [hn]; omega,fun d hd=>by simp at hd,fun t x hx => ?_,hmem⟩ fun e τ a' w' hk hr' => ?_
  ·obtain ⟨_,h2⟩:=zGZ hx;simp only [Nat.sub_zero] at h2;obtain ⟨v,hv,hrv⟩:=hal.get h2;have hlt:=(List.getElem?_eq_some_iff.1 hv).1;refine ⟨v,?_,hrv⟩;rw [vQK hlt] at hv;simp [Array.getElem?_append,hlt]
   simpa using hv
  ·obtain ⟨ρ',F',hr'⟩:=hr';have key:∀ rs,mapO (jJW T τ) fi.results=some rs→∀ r',jJX rs=some r'→(bif M.isEmpty || rs.all RV.still then some (r',τ.M) else none)=some (r,M')→Leaves P fn a'.tmps (fun e w'=>∃ v2 F' ρ' F1,e=.returned v2∧GrowB E.W E.w0 w'∧MemOk E ρ' F1 M' w'∧(∀ k,F1 k→F' k)∧(∀ k,F' k→E.F0 k ∨ (E.w0.heap.size≤k∧k < w'.heap.size))∧RRet F' E.w0 w' r v2) a'.defers .returning w':=by
    intro rs hrs r' hr2 hb2;obtain ⟨hor,hb2⟩:=qQ hb2;cases hb2;obtain ⟨vs,h1,h2⟩:=yHU hT hr' hrs;have hst:rs.all RV.still=true ∨ ∀ k,¬ E.W k:=by
     rcases Bool.or_eq_true _ _ ▸ hor with h | h
     ·exact .inr (hW h)
     ·exact .inl h
    obtain ⟨F2,f1,f2,f3⟩:=uXW hr'.mem h2 hr2 hst;exact zXF (kYQ hres h1) ⟨Sx.valOf vs,F2,ρ',F',rfl,hr'.mem.grow,hr'.mem,f1,f2,f3⟩ a'.defers fun d hd=>by rw [← hE]; exact hr'.defers d hd
   cases e with
   | exit id=>simp only [endK] at hk; cases hk
   | normal =>
    simp only [endK,vQQ] at hk;obtain ⟨rs,hrs,r',hr2,hb2⟩:=hk;exact key rs hrs r' hr2 hb2
   | ret =>
    simp only [endK,vQQ] at hk;obtain ⟨rs,hrs,r',hr2,hb2⟩:=hk;exact key rs hrs r' hr2 hb2
theorem RRet.pv {w0:World} {r:Ret} {x:PV} {v:Value} (h:RRet F w0 w r v) (hx:jJU r=some x):∃ F2:Nat→Prop,(∀ k,F k→F2 k)∧(∀ k,F2 k→F k ∨ (w0.heap.size≤k∧k < w.heap.size))∧RP F2 w x v:=by
 cases r with
 | v y=>cases hx; exact ⟨F,fun _ h=>h,fun _ h=>.inl h,h⟩
 | ow e sz rows =>
  cases hx;obtain ⟨ad,c,vr,rfl,h0,hal,hrl,hone,hown,hb⟩:=h;refine ⟨fun k=>F k ∨ ad.map (·.block)=some k,fun k hk=>.inl hk,fun k hk => ?_,?_⟩
  ·rcases hk with hk | hk
   ·exact .inl hk
   ·exact .inr (hb k hk).2
  ·exact (qZA (ρ:=fun i=>if i=0 then some (.reg ad c rows.len sz) else none) (id:=0) (e:=e) (sz:=sz) (F:=F) ⟨ad,c,vr,by simp,h0,hal,hrl,hone,hown⟩ (fun k hk=>.inl hk) (fun L b hL hbl=>by simp at hL; subst hL; exact .inr hbl) ad c rows.len sz (by simp)).1
 | pb cells=>cases hx
def zG (P:Program) (g:Nat) (ps:List PV) (r:Ret):Prop:=uV P g∧∀ (w:World) (F:Nat→Prop) (vals:List Value),(∀ k,F k→k < w.heap.size)→Al (RP F w) ps vals →
 Calls P g vals.toArray w (fun e w'=>∃ v F',e=.returned v∧Grow w w'∧(∀ k,F k→F' k)∧(∀ k,F' k→F k ∨ (w.heap.size≤k∧k < w'.heap.size))∧RRet F' w w' r v)
def yUW (P:Program) (g:Nat) (hs:List HV) (ps:List PV) (x:PV) (ps':List PV):Prop:=uV P g∧∀ (w:World) (F:Nat→Prop) (b:Nat) (vals us:List Value) (ty:TypeId),(∀ k,F k→k < w.heap.size)→¬ F b→b < w.heap.size →
 w.heap[b]? = some (.cells us.toArray ty)→Al (RP F w) ps us→(∀ u ∈ us,u.oneCell'=true)→(∀ h ∈ hs,∀ id off,h=.p id off→id=pid)→Al (ArgB F w b) hs vals →
 Calls P g vals.toArray w (fun e w'=>∃ v F' us' ty',e=.returned v∧GrowB (· = b) w w'∧(∀ k,F k→F' k)∧(∀ k,F' k→F k ∨ (w.heap.size≤k∧k < w'.heap.size))∧RP F' w' x v ∧
  w'.heap[b]? = some (.cells us'.toArray ty')∧Al (RP F' w') ps' us'∧∀ u ∈ us',u.oneCell'=true)
structure OrcOk (P:Program) (orc:Orc):Prop where
 a:∀ g o,orc.a g=some o→∀ ps r,o ps=some r→zG P g ps r
 b:∀ g o,orc.b g=some o→∀ hs ps x ps',o hs ps=some (x,ps')→yUW P g hs ps x ps'
theorem yKW {N f:Nat} {orc:Orc} {ps:List PV} {r:Ret} (hT:TabOk P T) (hm:P.follows .mixedOrders=true) (hA:SndA P (qUB orc (runF T orc N))) (hB:SndB P (qWE orc (runF T orc N)))
  (h:run T orc (N + 1) f ps=some r):zG P f ps r:=by
 simp only [run,vQQ,vQZ] at h;obtain ⟨⟨r',M'⟩,h,rfl⟩:=h;refine ⟨(zKV (E:=⟨default,fun _=>False,fun _=>False,Harm P⟩) (ρ:=fun _=>none) (F:=fun _=>False) (w:=default) (vals:=[]) hT hm rfl hA hB h).1,fun w F vals hF hal => ?_⟩;refine Calls.mono ((zKV (E:=⟨w,F,fun _=>False,Harm P⟩) (ρ:=fun _=>none) (F:=F) (w:=w) (vals:=vals) hT hm rfl hA hB h).2 (Al.map_left hal) ⟨(fun id e hl=>by cases hl),(fun id L hL=>by cases hL),(fun id id' L L' b h=>by cases h),(fun id L b h=>by cases h),fun k hk=>⟨hF k hk,.inl hk⟩,fun k hk=>hk,GrowB.refl _ _,fun b hb=>hb.elim⟩ (fun _ k hk=>hk)) ?_
 rintro e w' ⟨v,F',ρ',F1,rfl,g,hmem,f1,f2,hr⟩
 exact ⟨v,F',rfl,⟨g.os,g.tape,g.output,g.size,fun k hk=>g.block k hk (fun h=>h)⟩,fun k hk=>f1 k (hmem.fz0 k hk),f2,hr⟩
theorem yKX {N f:Nat} {orc:Orc} {hs:List HV} {ps ps':List PV} {x:PV} (hT:TabOk P T) (hm:P.follows .mixedOrders=true) (hA:SndA P (qUB orc (runF T orc N))) (hB:SndB P (qWE orc (runF T orc N)))
  (h:runB T orc (N + 1) f hs ps=some (x,ps')):yUW P f hs ps x ps':=by
 simp only [runB,vQQ,vQZ,vQY] at h;obtain ⟨⟨r',M'⟩,h,ps2,hps,x2,hx2,rfl,rfl⟩:=h;refine ⟨(zKV (E:=⟨default,fun _=>False,fun _=>False,Harm P⟩) (ρ:=fun _=>none) (F:=fun _=>False) (w:=default) (vals:=[]) hT hm rfl hA hB h).1,fun w F b vals us ty hF hFb hb hheap hpu hone hpid hal => ?_⟩
 let ρ:Own:=fun i=>if i=pid then some (.blk b) else none
 have hρ:ρ pid=some (.blk b):=if_pos rfl;have inv:∀ id L,ρ id=some L→id=pid∧L=.blk b:=fun id L hL=>by
  by_cases e:id=pid
  ·subst e; rw [hρ] at hL; cases hL; exact ⟨rfl,rfl⟩
  ·simp only [ρ,if_neg e] at hL; cases hL
 refine Calls.mono ((zKV (E:=⟨w,F,(· = b),Harm P⟩) (ρ:=ρ) (F:=F) (w:=w) (vals:=vals) hT hm rfl hA hB h).2 ⟨hal.1,fun i y v hy hv => ?_⟩ ⟨fun id e hl => ?_,fun id L hL => ?_,fun id id' L L' b h1 h2 _ _ => ?_,fun id L b' hL hb' => ?_,fun k hk=>⟨hF k hk,.inl hk⟩,fun k hk=>hk,GrowB.refl _ _,fun b' hb' => ?_⟩ (fun h=>by cases h)) ?_
 ·have:=hal.2 i y v hy hv
  cases y with
  | v p=>exact this
  | p id off =>
   have hid:=hpid _ (vQG hy) id off rfl;subst hid;have hv':v=.pointer (some ⟨b,off,none⟩):=this;subst hv';exact ⟨b,hρ,rfl⟩
  | _=>exact this.elim
 ·by_cases e1:pid=id
  ·subst e1;simp only [yK,Nat.beq_refl,vYV,vQZ] at hl;subst hl;exact ⟨b,us,ty,hρ,hheap,Al.map_left (hpu.imp fun _ _ _ h=>zUB h),hone⟩
  ·simp only [yK,qYI e1,vYG] at hl; cases hl
 ·obtain ⟨rfl,rfl⟩:=inv id L hL;exact ⟨.blk (ps.map PV.toH),by simp only [yK,Nat.beq_refl,vYV]⟩
 ·rw [(inv id L h1).1,(inv id' L' h2).1]
 ·obtain ⟨rfl,rfl⟩:=inv id L hL;cases hb';exact ⟨hFb,hb,.inr rfl⟩
 ·have:b'=b:=hb'
  subst this; exact hρ
 ·rintro e w' ⟨v,F',ρ',F1,rfl,g,hmem,f1,f2,hr⟩
  obtain ⟨F2,f3,f4,hx⟩:=hr.pv hx2;unfold qXX at hps;split at hps
  ·rename_i hc hl;obtain ⟨b2,us',ty',hρ2,hheap',hal',hone'⟩:=hmem.ent pid _ hl
   have:=hmem.pin b rfl
   rw [hρ2] at this;cases this;have h1:=kJ hps;have hbl:∀ id L k,ρ' id=some L→(∃ a c n sz,L=.reg a c n sz)→L.bl=some k→¬ F1 k∧w.heap.size≤k∧k < w'.heap.size:=fun id L k hL hreg hk=>by
    have ho:=hmem.off id L k hL hk;refine ⟨ho.1,?_,ho.2.1⟩;rcases ho.2.2 with h | h
    ·exact h
    ·have hp:=hmem.apart id pid L _ k hL hρ2 hk (by have hkb:k=b:=h; rw [hkb]; rfl);subst hp;rw [hρ2] at hL;obtain ⟨a,c,n,sz,rfl⟩:=hreg;cases hL
   let F3:Nat→Prop:=fun k=>F2 k ∨ ∃ id L,ρ' id=some L∧(∃ a c n sz,L=.reg a c n sz)∧L.bl=some k
   refine ⟨v,F3,us',ty',rfl,g,fun k hk=>.inl (f3 k (f1 k (hmem.fz0 k hk))),fun k hk => ?_,hx.mono fun k hk=>⟨.inl hk,rfl⟩,hheap',⟨by rw [← h1.1,hal'.1],fun i p u hp hu => ?_⟩,hone'⟩
   ·rcases hk with hk | ⟨id,L,hL,hreg,hk⟩
    ·rcases f4 k hk with h | h
     ·exact f2 k h
     ·exact .inr h
    ·exact .inr (hbl id L k hL hreg hk).2
   ·have hil:=(List.getElem?_eq_some_iff.1 hp).1;have hl2:i < hc.length:=by rw [h1.1]; exact hil
    have hpv:=h1.2 i _ p (vQK hl2) hp;have hrh:=hal'.2 i _ u (vQK hl2) hu;generalize hc[i]=y at hpv hrh;unfold HV.pz at hpv;split at hpv
    ·cases hpv; exact RP.mono (fun k hk=>⟨.inl (f3 k (f1 k hk)),rfl⟩) hrh
    ·cases hpv;have e:u=.slice none 0 0:=hrh;subst e;exact .zs
    ·rename_i id;split at hpv
     ·rename_i e sz rows hl3;cases hpv;obtain ⟨a,c,k,sz',hr1,rfl⟩:=hrh;exact (qZA (hmem.ent id _ hl3) (F':=F3) (fun k hk=>.inl (f3 k (f1 k hk))) (fun L b hL hb=>.inr ⟨id,L,hL,⟨_,_,_,_,by rw [hr1] at hL; cases hL; rfl⟩,hb⟩) a c k sz' hr1).1
     ·cases hpv
    ·cases hpv
  ·cases hps
theorem zUZ {orc:Orc} (hT:TabOk P T) (hm:P.follows .mixedOrders=true) (hO:OrcOk P orc):∀ N,SndA P (qUB orc (runF T orc N))∧SndB P (qWE orc (runF T orc N))
 | 0=>by
  refine ⟨fun g ps r h => ?_,fun g hs ps x ps' h => ?_⟩
  ·unfold qUB at h;split at h
   ·rename_i o ho; exact hO.a g o ho ps r h
   ·cases h
  ·unfold qWE at h;split at h
   ·rename_i o ho; exact hO.b g o ho hs ps x ps' h
   ·cases h
 | N + 1=>by
  obtain ⟨hA,hB⟩:=zUZ hT hm hO N;refine ⟨fun g ps r h => ?_,fun g hs ps x ps' h => ?_⟩
  ·unfold qUB at h;split at h
   ·rename_i o ho; exact hO.a g o ho ps r h
   ·exact yKW hT hm hA hB h
  ·unfold qWE at h;split at h
   ·rename_i o ho; exact hO.b g o ho hs ps x ps' h
   ·exact yKX hT hm hA hB h
theorem uH {orc:Orc} {N f:Nat} {ps:List PV} {r:Ret} (hT:TabOk P T) (hm:P.follows .mixedOrders=true) (hO:OrcOk P orc) (h:run T orc N f ps=some r):zG P f ps r:=by
 cases N with
 | zero=>cases h
 | succ N=>exact yKW hT hm (zUZ hT hm hO N).1 (zUZ hT hm hO N).2 h
theorem jJJ {orc:Orc} {N f:Nat} {hs:List HV} {ps ps':List PV} {x:PV} (hT:TabOk P T) (hm:P.follows .mixedOrders=true) (hO:OrcOk P orc) (h:runB T orc N f hs ps=some (x,ps')):yUW P f hs ps x ps':=by
 cases N with
 | zero=>cases h
 | succ N=>exact yKX hT hm (zUZ hT hm hO N).1 (zUZ hT hm hO N).2 h
theorem qJE:OrcOk P Orc.none:=⟨(fun g o h=>by cases h),(fun g o h=>by cases h)⟩
end
end Go.Rx

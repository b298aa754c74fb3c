/- Part 11 of the texts behind the last one: rules and contracts. No condition. -/
import Derived.Test.YtklmegnpfhiibaaGreatBK10
open Option renaming bind_eq_some_iff → vQQ
open Option.some renaming injEq → vQZ
open Prod.mk renaming injEq → vQY
open Bool renaming and_eq_true → vQJ
open List renaming getElem?_eq_getElem → vQK, length_cons → vQX, mem_of_getElem? → vQW, mem_cons_self → vQG, getElem?_map → vQH, getElem?_take → vZU
open Nat renaming eq_of_beq_eq_true → vQU, lt_of_lt_of_le → vZZ, le_of_ble_eq_true → vZJ
namespace Go.Rx
open Go.RowKit Go.Sx
section
variable {P:Program} {E:Env} {C:Cx} {ρ:Own} {F:Nat→Prop} {σ:St} {a:Act} {w:World} {vs:List RV} {e:Eff}
variable {d:Option Tmp} {ty:TypeId} {pos:String} {af:Array Edge} {g:Option (Nat × Bool)}
theorem rowZ_flat (zs:List Value):∀ len,rowZ zs len=(List.replicate len zs).flatten
 | 0=>rfl
 | k + 1=>by simp [rowZ,rowZ_flat zs k,List.replicate_succ]
theorem rowPl_get {len sz i:Nat} (h:i < len):(zYH len sz)[i]? = some (i * sz,sz):=by
 simp [zYH,h]
theorem fillR_rel {R:PV→Value→Prop} {sz len:Nat}:∀ {is:List Nat} {ps rows rows':List (List PV)} {vr:List (List Value)} {us:List Value},yYB sz rows is ps=some rows'→rows.length=len→(∀ r ∈ rows,r.length=sz)→Al (Al (fun p v=>R p v∧v.oneCell'=true)) rows vr →
  Al (fun ps (v:Value)=>Al R ps v.cells.toList∧∀ u ∈ v.cells.toList,u.oneCell'=true) ps us →
  ∃ vr',qVZ (zYH len sz) vr.flatten (is.zip us)=some vr'.flatten∧Al (Al (fun p v=>R p v∧v.oneCell'=true)) rows' vr'∧(∀ r ∈ rows',r.length=sz)∧rows'.length=len
 | [],[],rows,rows',vr,us,hf,hl,hr,hal,hu=>by cases hf; rw [hu.nil_left]; exact ⟨vr,rfl,hal,hr,hl⟩
 | i :: is,p :: ps,rows,rows',vr,us,hf,hl,hr,hal,hu=>by
  obtain ⟨u,us',rfl,⟨hu1,hu2⟩,hu'⟩:=hu.cons_left;simp only [yYB] at hf;obtain ⟨hb,hf⟩:=qQ hf;rw [vQJ] at hb;have hi:i < rows.length:=by simpa using hb.1
  have hp:=vQU hb.2;have hvl:∀ r ∈ vr,r.length=sz:=fun r hrv=>by
   obtain ⟨k,hk⟩:=List.mem_iff_getElem?.1 hrv;have hkl:=(List.getElem?_eq_some_iff.1 hk).1;have hlt:k < rows.length:=by rw [hal.1]; exact hkl
   have:=hal.2 k _ r (vQK hlt) hk
   rw [← this.1]; exact hr _ (List.getElem_mem hlt)
  have hul:u.cells.toList.length=sz:=by rw [← hu1.1]; exact hp
  have hiv:i < vr.length:=by rw [← hal.1]; exact hi
  have hrow:Al (fun p v=>R p v∧v.oneCell'=true) p u.cells.toList:=⟨hu1.1,fun j q v hq hv=>⟨hu1.2 j q v hq hv,hu2 v (vQW hv)⟩⟩
  obtain ⟨vr',h1,h2,h3,h4⟩:=fillR_rel (len:=len) hf (by simpa using hl) (fun r hrr=>by
   rcases List.mem_or_eq_of_mem_set hrr with h | h
   ·exact hr r h
   ·rw [h]; exact hp) (hal.set hrow i) hu'
  refine ⟨vr',?_,h2,h3,h4⟩;simp only [List.zip_cons_cons,qVZ,rowPl_get (show i < len by omega)];have hbe:Nat.beq u.cells.size sz=true:=by
   have:u.cells.size=sz:=by rw [← hul]; simp
   rw [this]; exact Nat.beq_refl _
  have hfl:=rows_len vr hvl;have hle:i * sz + sz≤vr.length * sz:=by
   have:=Nat.mul_le_mul_right sz (show i + 1≤vr.length from hiv)
   rw [Nat.add_mul] at this; omega
  rw [hbe,vYZ,spliceV_of (by rw [hul,hfl]; exact hle),hul,← zJI vr i u.cells.toList hvl hiv hul];exact h1
 | [],_ :: _,_,_,_,_,hf,_,_,_,_=>by cases hf
 | _ :: _,[],_,_,_,_,hf,_,_,_,_=>by cases hf
theorem yQX {α β:Type} {R:α→β→Prop} {xs:List α} {ys:List β} (h:Al R xs ys) {y:β} (hy:y ∈ ys):∃ x ∈ xs,R x y:=by
 obtain ⟨k,hk⟩:=List.mem_iff_getElem?.1 hy;have hkl:=(List.getElem?_eq_some_iff.1 hk).1;have hlt:k < xs.length:=by rw [h.1]; exact hkl
 exact ⟨_,List.getElem_mem hlt,h.2 k _ y (vQK hlt) hk⟩
theorem run_bslice0 {P:Program} {t e size len:Nat} {z:Value} {parts:List (Nat × Value)} {cs:List Value} (hs:slcB P t e size=true) (hz:qQW P e z) (hzs:Nat.beq z.cells.size size=true) (h0:Nat.blt 0 size=true) (hl:Nat.ble (len * size) 16777216=true)
  (hf:qVZ (zYH len size) (rowZ z.cells.toList len) parts=some cs) (w:World) :
  (Instr.buildSlice t len parts.toArray).run P w=.ok (.slice (some ⟨w.heap.size,0,none⟩) len len) (w.alloc (.cells cs.toArray e)):=by
 cases len with
 | succ len=>exact run_bslice hs hz hzs h0 hl (by simp) hf w
 | zero =>
  cases parts with
  | cons p ps=>obtain ⟨i,v⟩:=p; simp [qVZ,zYH] at hf
  | nil =>
   simp [qVZ,rowZ] at hf;subst hf;unfold slcB at hs;cases hu:P.underlying t with
   | none=>simp [hu] at hs
   | some ds =>
    cases ds <;> simp [hu] at hs
    rename_i e';obtain ⟨rfl,h2⟩:=hs;cases hi:P.info? e' with
    | none=>simp [hi] at h2
    | some inf =>
     simp [hi] at h2;have hsz:(sizeOf e').run P w=.ok size w:=by simp [sizeOf,typeInfo,hi,h2]
     simp only [Instr.buildSlice,Sem.run_bind,run_underlying hu,Result.andThen_ok,hsz,Sem.run_ite];rw [if_neg (by omega)];simp [Instr.fill,newRow];congr;exact Array.eq_empty_of_size_eq_zero (by simp)
theorem ok_bslice {t:TypeId} {len:Nat} {ps:Array (Nat × Operand)} (hT:TabOk P C.T) (h:Rel' E C.n ρ F σ a w) (hd:dstB C.n d=true) (hvs:mapO (opv 0 σ) ((ps.toList.map (·.2)).toArray).toList=some vs) (he:qU C.T C.cA C.cB C.me (d.getD 0) (.buildSlice t len ps) vs=some e) (hn:∀ i ∈ e.nw,qJB σ.M i) :
  OK P E C σ a w e ⟨d,.buildSlice t len ps,ty,pos,af,g⟩:=by
 rw [show ((ps.toList.map (·.2)).toArray).toList=ps.toList.map (·.2) from rfl] at hvs;obtain ⟨us,u1,u2,u3⟩:=zQD h hvs;simp only [qU,vQQ] at he;obtain ⟨⟨el,sz⟩,hsl,zs,hzs,r,hr,he⟩:=he;obtain ⟨hb,he⟩:=qQ he;simp only [vQQ,vQZ] at he;obtain ⟨rows,hrows,rfl⟩:=he;obtain ⟨hslc,hs0,hsk,bytes,happ,hby,_⟩:=hT.sl t el sz hsl;obtain ⟨z,hz,hzal⟩:=hT.zr el zs hzs;obtain ⟨_,i0,z',hi0,hz',hisz,_,hzc,hzl,_⟩:=qJI happ hz;have hzlen:z.cells.toList.length=sz:=hzl;have hzs2:zs.length=sz:=by rw [hzal.1]; exact hzlen
 obtain ⟨p1,p2⟩:=zZE h r.2 hr u2 u3 (fun x hx=>hx);have hnw:=hn (d.getD 0) (by cases hr2:r.2 <;> simp [Eff.and,Eff.new,hr2]);have hrepl:(qJE zs len).length=len:=by rw [(Al.repl (R:=fun _ _=>True) (y:=()) trivial len).1]; simp
 have hmr:∀ r ∈ qJE zs len,r.length=sz:=fun r hr=>by
  have:∀ k,r ∈ qJE zs k→r=zs:=fun k=>by
   induction k with
   | zero=>intro h; cases h
   | succ k ih=>intro h; rcases List.mem_cons.1 h with h | h; exact h; exact ih h
  rw [this _ hr]; exact hzs2
 obtain ⟨vr,f1,f2,f3,f4⟩:=fillR_rel (R:=RP (frzF r.2 ρ F) w) (len:=len) hrows hrepl hmr (Al.repl (hzal.imp fun _ _ _ h=>⟨h.1 _ _,h.2⟩) len) p1;rw [← rowZ_flat] at f1;have hzsz:z.cells.size=sz:=by rw [← hzlen]; simp
 have hrun:=run_bslice0 (P:=P) hslc hz (by rw [hzsz]; exact Nat.beq_refl _) (by simpa using hs0) hb f1 w;have hvl:∀ x ∈ vr,x.length=sz:=fun x hx=>by obtain ⟨y,hy,hal⟩:=yQX f2 hx; rw [← hal.1]; exact f3 y hy
 have hx:(execOp a.eval ⟨d,.buildSlice t len ps,ty,pos,af,g⟩).run P w=.ok (.value (.slice (some ⟨w.heap.size,0,none⟩) len len)) (w.alloc (.cells vr.flatten.toArray el)):=by
  have hev:ps.map (fun (x:Nat × Operand)=>(x.1,a.eval x.2))=((ps.toList.map (·.1)).zip us).toArray:=by
   obtain ⟨e1,_⟩:=zUX (zUU u1);rw [← e1];have hk:=qWE u1;rw [← Array.toArray_toList (xs:=ps.map _),Array.toList_map]
   congr 1
   refine List.map_congr_left fun x hx => ?_
   have:=hk.2 x.2 (List.mem_map.2 ⟨x,hx,rfl⟩)
   obtain ⟨v,hv⟩:=Option.isSome_iff_exists.1 this;rw [uQ h hv,zQ hv]
  simp only [execOp,hev,Sem.run_bind,hrun];rfl
 refine qQQ hx ?_;have h1:=h.froze r.2 p2;obtain ⟨hl1,hl2⟩:=frz_look_none hnw p2;have hNw:(bif C.T.bf C.me then (Rows.l rows).toF zs else Rows.l rows).L=rows:=by
  cases C.T.bf C.me with
  | true=>exact Rows.toF_L zs (Rows.l rows)
  | false=>rfl
 have:=qGJ (nw:=bif C.T.bf C.me then (Rows.l rows).toF zs else Rows.l rows) (rows:=rows) (hN:=hNw) (C:=C) (id:=d.getD 0) (e':=el) (sz:=sz) (c:=len) (ad:=some ⟨w.heap.size,0,none⟩) (vr:=vr) h1 hd hl1 ((Grow.refl w).alloc (.cells vr.flatten.toArray el)) (fun b hb => ?_) hs0 (f2.imp fun _ _ _ h=>h.imp fun _ _ _ h=>h.1) f3 (fun v hv u hu => ?_)
  ⟨by rw [rows_len vr hvl,f2.1],.inr ⟨w.heap.size,len,vr.flatten.toArray,by rw [f4],Nat.zero_le _,?_,?_,?_,?_,?_⟩⟩
 ·rw [f4] at this;exact this.eqv (qHQ (ent:=.reg el sz (bif C.T.bf C.me then (Rows.l rows).toF zs else Rows.l rows)) rfl rfl hl2)
 ·simp only [Option.map_some,vQZ] at hb;subst hb;exact ⟨Nat.le_refl _,by show w.heap.size < (w.heap.push _).size; simp⟩
 ·obtain ⟨x,_,hal⟩:=yQX f2 hv;obtain ⟨y,_,hy⟩:=yQX hal hu;exact hy.2
 ·show (w.heap.push _)[w.heap.size]? = _; simp
 ·rw [f4]; exact Nat.le_refl _
 ·have h6:len * sz≤16777216:=vZJ hb;show len≤9223372036854775807
  have:len≤len * sz:=Nat.le_mul_of_pos_right _ hs0
  omega
 ·rw [List.size_toArray,rows_len vr hvl,← f2.1,f4]
 ·rw [List.toList_toArray,List.take_of_length_le]; rw [rows_len vr hvl,← f2.1]; exact Nat.le_refl _
theorem ok_range {t:TypeId} {x:Operand} (hT:TabOk P C.T) (h:Rel' E C.n ρ F σ a w) (hd:dstB C.n d=true) (hvs:mapO (opv 0 σ) [x]=some vs) (he:qU C.T C.cA C.cB C.me (d.getD 0) (.range t x) vs=some e) (hn:∀ i ∈ e.nw,qJB σ.M i):OK P E C σ a w e ⟨d,.range t x,ty,pos,af,g⟩:=by
 obtain ⟨r,hr,rfl⟩:=qWI hvs;obtain ⟨v,h1,h2,h3⟩:=yU h hr;cases r with
 | v p =>
  cases p with
  | s s =>
   simp only [qU] at he;obtain ⟨hb,he⟩:=qQ he;cases he;have hu:=hT.str t hb;rw [qVY h2] at h1;have hrun:(execOp a.eval ⟨d,.range t x,ty,pos,af,g⟩).run P w=.ok (.value (.pointer (some ⟨w.heap.size,0,none⟩))) (w.alloc (.stringIter s 0)):=by
    simp [execOp,uQ h h1,Instr.range,run_underlying hu,run_newObj]
   refine qQQ hrun ⟨updO ρ (d.getD 0) (.blk w.heap.size),F,h.new (ent:=.itr s 0) (x:=.p (d.getD 0) 0) (L:=.blk w.heap.size) (hn _ (by simp [Eff.new])) ((Grow.refl w).alloc _) (fun b hb => ?_) ⟨w.heap.size,yW _ _ _,?_⟩ ⟨w.heap.size,yW _ _ _,rfl⟩ hd⟩
   ·simp only [Loc.bl,vQZ] at hb;subst hb;exact ⟨Nat.le_refl _,by show w.heap.size < (w.heap.push _).size; simp⟩
   ·show (w.heap.push _)[w.heap.size]? = _; simp
  | _=>simp only [qU] at he; cases he
 | _=>simp only [qU] at he; cases he
theorem ok_next {x:Operand} {b:Bool} (h:Rel' E C.n ρ F σ a w) (hd:dstB C.n d=true) (hvs:mapO (opv 0 σ) [x]=some vs) (he:qU C.T C.cA C.cB C.me (d.getD 0) (.next x b) vs=some e):OK P E C σ a w e ⟨d,.next x b,ty,pos,af,g⟩:=by
 obtain ⟨r,hr,rfl⟩:=qWI hvs;obtain ⟨v,h1,h2,h3⟩:=yU h hr;cases b with
 | false=>simp only [qU] at he; cases he
 | true =>
  cases r with
  | i id off s p =>
   cases off with
   | succ off=>simp only [qU] at he; cases he
   | zero =>
    obtain ⟨b,hρ,rfl⟩:=h2;obtain ⟨b2,hρ2,hF⟩:=h.mem.ent id _ h3;rw [hρ] at hρ2;cases hρ2;simp only [qU] at he;have hb2:Nat.beq id pid2=false:=by
     cases hb2:Nat.beq id pid2 with
     | false=>rfl
     | true=>rw [hb2] at he; cases he
    have hne2:id ≠ pid2:=fun e0=>by rw [e0,Nat.beq_refl] at hb2; cases hb2
    rw [hb2,vYY] at he;cases hp:decide (p < s.size) with
    | true =>
     rw [hp] at he;cases he;have hp':=vYU hp;have hrun:(execOp a.eval ⟨d,.next x true,ty,pos,af,g⟩).run P w=.ok (.value (.tuple #[.bool true,.int .i64 (p:Int),.int .i32 ((Utf8.decode s p).1:Int)])) { w with heap:=w.heap.setIfInBounds b (.stringIter s (p + (Utf8.decode s p).2)) }:=by
      simp [execOp,uQ h h1,Instr.next,run_getIter hF,run_setIter _ hF,hp',goInt]
     refine qQQ hrun ⟨ρ,F,h.set (ent:=.itr s (p + (Utf8.decode s p).2)) hρ rfl setObj_growB ⟨b,hρ,by simp [qZW hF]⟩ ?_ hd⟩;exact RP.t _ [.bool true,.int .i64 (p:Int),.int .i32 ((Utf8.decode s p).1:Int)] rfl (fun i q u hq hu=>by
      match i with
      | 0=>simp at hq hu; subst hq; subst hu; exact .b _
      | 1=>simp at hq hu; subst hq; subst hu; exact .n _ _
      | 2=>simp at hq hu; subst hq; subst hu; exact .n _ _
      | i + 3=>simp at hq)
    | false =>
     rw [hp] at he;cases he;have hp':=vYX hp;have hrun:(execOp a.eval ⟨d,.next x true,ty,pos,af,g⟩).run P w=.ok (.value (.tuple #[.bool false])) w:=by
      simp [execOp,uQ h h1,Instr.next,run_getIter hF,hp']
     refine qQQ hrun ⟨ρ,F,h.val (Grow.refl w) (fun _ h=>h) (fun _ h=>.inl h) ?_ hd⟩;exact RP.t _ [.bool false] rfl (fun i q u hq hu=>by
      match i with
      | 0=>simp at hq hu; subst hq; subst hu; exact .b _
      | i + 1=>simp at hq)
  | _=>simp only [qU] at he; cases he
theorem splice_rows {sz j off:Nat} {vr:List (List Value)} {r vals:List Value} (hvl:∀ x ∈ vr,x.length=sz) (hr:vr[j]? = some r) (_:off + vals.length≤sz) :
  (vr.set j (r.take off ++ vals ++ r.drop (off + vals.length))).flatten=vr.flatten.take (j * sz + off) ++ vals ++ vr.flatten.drop (j * sz + off + vals.length):=by
 have hj:=(List.getElem?_eq_some_iff.1 hr).1;have hrl:=hvl r (vQW hr);have hnew:(r.take off ++ vals ++ r.drop (off + vals.length)).length=sz:=by simp; omega
 rw [zJI vr j _ hvl hj hnew];have hre:r=(vr.flatten.drop (j * sz)).take sz:=by
  refine List.ext_getElem? fun k => ?_
  rw [vZU,List.getElem?_drop];split
  ·rename_i hk;rw [qXB vr hvl j r hr k hk]
  ·rename_i hk;exact List.getElem?_eq_none (by omega)
 have hfl:=rows_len vr hvl;have hle:j * sz + sz≤vr.flatten.length:=by
  rw [hfl]
  have:=Nat.mul_le_mul_right sz (show j + 1≤vr.length from hj)
  rw [Nat.add_mul] at this; omega
 have e1:vr.flatten.take (j * sz + off)=vr.flatten.take (j * sz) ++ r.take off:=by
  rw [List.take_add,hre,List.take_take,Nat.min_eq_left (by omega)]
 have e2:vr.flatten.drop (j * sz + off + vals.length)=r.drop (off + vals.length) ++ vr.flatten.drop (j * sz + sz):=by
  rw [Nat.add_assoc,← List.drop_drop,← List.drop_drop (i:=sz)]
  conv=>lhs; rw [← List.take_append_drop sz (vr.flatten.drop (j * sz)),← hre]
  rw [List.drop_append_of_le_length (by omega)]
 rw [e1,e2];simp [List.append_assoc]
end
end Go.Rx
namespace Go.Rx
open Go.RowKit Go.Sx
section
variable {P:Program} {E:Env} {C:Cx} {ρ:Own} {F:Nat→Prop} {σ:St} {a:Act} {w:World} {vs:List RV} {e:Eff}
variable {d:Option Tmp} {ty:TypeId} {pos:String} {af:Array Edge} {g:Option (Nat × Bool)}
theorem disj1 {id:Nat} {l:List Nat} (h:disj [id] l=true):id ∉ l:=qGD h id vQG
theorem ok_store_reg {t:TypeId} {x y:Operand} {id j off e' sz:Nat} {rows:Rows} {yr:RV} {c:List PV × Regs} {r r':List PV} {k:Bool × Nat} {v u:Value} (hT:TabOk P C.T) (h:Rel' E C.n ρ F σ a w) (hk:C.T.sz t=some k) (hx:ev (actS a) x=some v) (hy:ev (actS a) y=some u)
  (hv:RH ρ F w (.q id j off) v) (hl:qV σ.M id=some (.reg e' sz rows)) (hu:RH ρ F w yr.back u) (hres:RRes σ.M yr) (hc:yr.pcells=some c) (hr0:rows.at j=some r) (hlen:c.1.length=k.2) (hdis:id ∉ c.2.map (·.1)) (hsp:qZY r off c.1=some r') (hd:dstB C.n d=true) :
  OK P E C σ a w ((Eff.set id (.reg e' sz (rows.set j r')) .un).and c.2) ⟨d,.store t x y,ty,pos,af,g⟩:=by
 obtain ⟨p1,p2,p3⟩:=qHG h c.2 hc hu hres (fun x hx=>hx);have h1:=h.froze c.2 p3;obtain ⟨b,cc,kk,sz',hρ,hjk,rfl⟩:=hv;have hl1:=frz_look hdis hl;have hρ1:frzρ c.2 ρ id=some (.reg (some ⟨b,0,none⟩) cc kk sz'):=by rw [zYX hdis]; exact hρ
 obtain ⟨ad,c2,vr,q1,q2,q3,q4,q5,q6,q7,q8,q9⟩:=zJQ h1 hl1 (v:=.slice (some ⟨b,0,none⟩) kk cc) ⟨_,_,_,_,hρ1,rfl⟩;simp only [Value.slice.injEq] at q2;obtain ⟨rfl,rfl,rfl⟩:=q2;rw [hρ1] at q1;simp only [vQZ,Loc.reg.injEq] at q1;obtain ⟨_,_,_,rfl⟩:=q1;have hr:=Rows.at_L hr0 hjk;have hsL:=Rows.set_L rows j r';have hsl0:(rows.set j r').len=rows.L.length:=by rw [← Rows.len_L,hsL,List.length_set]
 rw [← Rows.len_L] at hρ1 q8;obtain ⟨e1,e2⟩:=qWY hsp;obtain ⟨ur,hur,hral⟩:=q4.get hr;have hjl:=(List.getElem?_eq_some_iff.1 hr).1;have hrl:r.length=sz':=q5 r (vQW hr);have hvl:u.cells.toList.length=c.1.length:=p1.1.symm;have hfl:=rows_len vr q6;have hle:j * sz' + sz'≤rows.L.length * sz':=by
  have:=Nat.mul_le_mul_right sz' (show j + 1≤rows.L.length from hjl)
  rw [Nat.add_mul] at this; omega
 rcases q8.2 with ⟨hnil,_⟩ | ⟨gg,cap,cur,hsl,_,hg,hcap,hmax,hcur,htake⟩
 ·simp at hnil
 simp only [Value.slice.injEq,vQZ,Addr.mk.injEq,and_true,true_and] at hsl;obtain ⟨rfl,rfl⟩:=hsl;have hcapsz:rows.L.length * sz'≤cc * sz':=Nat.mul_le_mul_right _ hcap;have hst:=run_storeCells_at P b (j * sz' + off) e' u.cells.toList 0 cur w hg (by rw [hvl]; omega) p2;obtain ⟨R,hR,hst'⟩:∃ R:List Value,R=cur.toList.take (j * sz' + off) ++ u.cells.toList ++ cur.toList.drop (j * sz' + off + u.cells.toList.length)∧(storeCells ⟨b,j * sz' + off,none⟩ u.cells.toList 0).run P w=.ok () (w.setRow b R.toArray):=⟨_,rfl,by simpa using hst⟩
 have hrun:(execOp a.eval ⟨d,.store t x y,ty,pos,af,g⟩).run P w=.ok .skip (w.setRow b R.toArray):=by
  have hz:u.cells.size=k.2:=by rw [← hlen,← hvl]; simp
  have hTt:=qJZ (hT.sz t k.1 k.2 hk).1;simp [execOp,uQ h hx,uQ h hy,Instr.storeAt,Instr.sureAddr,storeVar,hTt,hz,hst']
 have hset:=setRow_heap w b _ R.toArray e' _ hg;have hoff:=h1.mem.off id _ b hρ1 rfl;have hF:∀ k,frzF c.2 ρ F k→frzF c.2 ρ F k∧(w.setRow b R.toArray).heap[k]? = w.heap[k]?:=fun k hk=>⟨hk,(GrowB.set b w R.toArray).block k (h1.mem.fz k hk).1 fun e=>by subst e; exact hoff.1 hk⟩
 have hcl:cur.toList.length=cc * sz':=by simpa using hcur
 have hsplit:cur.toList=vr.flatten ++ cur.toList.drop (rows.L.length * sz'):=by rw [← htake]; exact (List.take_append_drop _ _).symm
 have hnew:(ur.take off ++ u.cells.toList ++ ur.drop (off + u.cells.toList.length)).length=sz':=by
  have:ur.length=sz':=q6 ur (vQW hur)
  simp only [List.length_append,List.length_take,List.length_drop,hvl,this];rw [hrl] at e2;omega
 have hfr:=splice_rows (off:=off) (vals:=u.cells.toList) q6 hur (by rw [hvl,← hrl]; exact e2);have hrow:Al (RP (frzF c.2 ρ F) w) r' (ur.take off ++ u.cells.toList ++ ur.drop (off + u.cells.toList.length)):=by
  rw [e1,hvl];exact ((hral.take off).append p1).append (hral.drop _)
 have hRtake:R.take (rows.L.length * sz')=(vr.set j (ur.take off ++ u.cells.toList ++ ur.drop (off + u.cells.toList.length))).flatten:=by
  rw [hfr,hR,hsplit];have hlv:vr.flatten.length=rows.L.length * sz':=by rw [hfl,q4.1]
  have:=splice_take (ys:=vr.flatten) (rest:=cur.toList.drop (rows.L.length * sz')) (vs:=u.cells.toList) (p:=j * sz' + off) (s:=u.cells.toList.length) (by rw [hlv,hvl]; omega) rfl
  rw [hlv] at this;exact this
 have hrel:Rel' E C.n (frzρ c.2 ρ) (frzF c.2 ρ F) ((σ.apply (.frz c.2 .un) none).apply (.set id (.reg e' sz' (rows.set j r')) .un) d) (a.put d undef) (w.setRow b R.toArray):=by
  refine h1.set (ent:=.reg e' sz' (rows.set j r')) (x:=.un) hρ1 rfl (GrowB.set b w R.toArray) ⟨some ⟨b,0,none⟩,cc,vr.set j (ur.take off ++ u.cells.toList ++ ur.drop (off + u.cells.toList.length)),by rw [hsl0]; exact hρ1,q3,by rw [hsL]; exact (q4.set hrow j).imp fun _ _ _ h=>h.imp fun _ _ _ h=>h.mono hF,fun x hx => ?_,fun x hx z hz => ?_,?_,.inr ⟨b,cc,R.toArray,by rw [hsl0],Nat.zero_le _,hset,by rw [hsl0]; exact hcap,hmax,?_,?_⟩⟩ trivial hd
  ·rw [hsL] at hx;rcases List.mem_or_eq_of_mem_set hx with h | h
   ·exact q5 x h
   ·rw [h,hrow.1]; exact hnew
  ·rcases List.mem_or_eq_of_mem_set hx with h | h
   ·exact q7 x h z hz
   ·rw [h] at hz;simp only [List.mem_append] at hz;rcases hz with (hz | hz) | hz
    ·exact q7 ur (vQW hur) z (List.mem_of_mem_take hz)
    ·exact p2 z hz
    ·exact q7 ur (vQW hur) z (List.mem_of_mem_drop hz)
  ·rw [hsl0,← hRtake,List.length_take,hR];simp only [List.length_append,List.length_take,List.length_drop,hcl,hvl];omega
  ·rw [List.size_toArray,hR];simp only [List.length_append,List.length_take,List.length_drop,hcl,hvl];omega
  ·rw [hsl0,List.toList_toArray]; exact hRtake
 have hrel2:Rel E C.n ((σ.apply (.frz c.2 .un) none).apply (.set id (.reg e' sz' (rows.set j r')) .un) d) (a.put d undef) (w.setRow b R.toArray):=⟨_,_,hrel⟩
 exact zYK hrun (hrel2.eqv (qHQ (ent:=.reg e' sz' (rows.set j r')) rfl rfl hdis))
theorem ok_store_frz {t:TypeId} {x y:Operand} {id off:Nat} {cells:List CV} {yr:RV} {c:List PV × Regs} {cs:List HV} {k:Bool × Nat} {v u:Value} (hT:TabOk P C.T) (h:Rel' E C.n ρ F σ a w) (hk:C.T.sz t=some k) (hx:ev (actS a) x=some v) (hy:ev (actS a) y=some u)
  (hv:RH ρ F w (.p id off) v) (hres0:RRes σ.M (.p id off cells)) (hu:RH ρ F w yr.back u) (hres:RRes σ.M yr) (hc:yr.pcells=some c) (hlen:c.1.length=k.2) (hdis:id ∉ c.2.map (·.1)) (hsp:qZY ((cells.map CV.back).map (HV.sub (c.2.map fun r=>(r.1,some r.2)))) off (c.1.map HV.v)=some cs) (hd:dstB C.n d=true) (hne:id ≠ pid2) :
  OK P E C σ a w ((Eff.set id (.blk cs) .un).and c.2) ⟨d,.store t x y,ty,pos,af,g⟩:=by
 obtain ⟨p1,p2,p3⟩:=qHG h c.2 hc hu hres (fun x hx=>hx);have h1:=h.froze c.2 p3;obtain ⟨hcl,hlk,hcc⟩:=hres0;rw [cvs_back hcc] at hsp;obtain ⟨b,hρ,rfl⟩:=hv;have e1:(Eff.frz c.2 .un).up=c.2.map fun r=>(r.1,none):=by cases c.2 <;> rfl
 have e2:(Eff.frz c.2 .un).sb=c.2.map fun r=>(r.1,some r.2):=by cases c.2 <;> rfl
 have hlk1:qV (σ.apply (.frz c.2 .un) none).M id=some (.blk (hcl.map (HV.sub (c.2.map fun r=>(r.1,some r.2))))):=by
  rw [qQY,e1,up_none_iff.2 hdis,hlk,e2]; rfl
 have q:=ok_store_blk2 (C:=C) (d:=d) (ty:=ty) (pos:=pos) (af:=af) (g:=g) hT h1 hk hx hy ⟨b,by rw [zYX hdis]; exact hρ,rfl⟩ hlk1 (Al.map_left (show Al (fun z y=>RH (frzρ c.2 ρ) (frzF c.2 ρ F) w (HV.v z) y) c.1 u.cells.toList from p1)) p2 (by rw [List.length_map]; exact hlen) hsp hd hne;unfold OK at q ⊢;exact q.mono fun u w' hr=>hr.eqv (qHQ (ent:=.blk cs) rfl rfl hdis)
theorem NR.set_len (rows:NR) (j:Nat) (r:Rows):(rows.set j r).len=rows.len:=by
 cases rows <;> simp [NR.set,NR.len]
theorem mergeRows_eq (c:Bool) (x y:Rows):qGW c x y=bif c then x else y:=by
 unfold qGW;split
 ·cases c
  ·simp only [vYY,qKK]
  ·simp only [vYZ,qKJ]
 ·rfl
theorem NR.set_at {rows:NR} {j v:Nat} (r:Rows) (hj:j < rows.len):(rows.set j r).at v=if v=j then some r else rows.at v:=by
 cases rows with
 | l rows =>
  show (rows.set j r)[v]? = if v=j then some r else rows[v]?
  rw [List.getElem?_set];by_cases e:v=j
  ·subst e;have hj':v < rows.length:=hj;rw [if_pos rfl,if_pos hj',if_pos rfl]
  ·rw [if_neg fun h=>e h.symm,if_neg e]
 | fo n f =>
  show some (qGW (Nat.beq v j) r (f v))=_;rw [mergeRows_eq];by_cases e:v=j
  ·subst e; rw [if_pos rfl,Nat.beq_refl]; rfl
  ·rw [if_neg e,uW e]; rfl
theorem ok_store_nst {t:TypeId} {x y:Operand} {id j e' ie isz:Nat} {rows:NR} {r:Rows} {k:Bool × Nat} {v u:Value} (hT:TabOk P C.T) (h:Rel' E C.n ρ F σ a w) (hk:C.T.sz t=some k) (hk1:k.1=false) (hx:ev (actS a) x=some v) (hy:ev (actS a) y=some u)
  (hv:RH ρ F w (.q id j 0) v) (hl:qV σ.M id=some (.nst e' ie isz rows (some (j,r)))) (hu:RH ρ F w (.mp id j) u) (hd:dstB C.n d=true) :
  OK P E C σ a w ⟨[(id,some (.nst e' ie isz (rows.set j r) none))],[(mid id,none)],.un,[]⟩ ⟨d,.store t x y,ty,pos,af,g⟩:=by
 obtain ⟨b,cc,kk,sz',hρ,hjk,rfl⟩:=hv;obtain ⟨a0,c0,H,q1,q2,q3,q4,q5,q6⟩:=h.mem.ent id _ hl;have hρ0:=hρ;rw [hρ] at q1;simp only [vQZ,Loc.reg.injEq] at q1;obtain ⟨rfl,rfl,rfl,rfl⟩:=q1;obtain ⟨av,cv,nn,s',⟨hρn,rfl⟩,hlt,_⟩:=hu;obtain ⟨r1,av1,cv1,vr1,p1,p2,p3,p4,p5,p6,p7⟩:=q6 j hjk;have er:r1=r:=by unfold yQY at p1; simpa using p1.symm
 subst er;have hp2:=p2;rw [hρn] at p2;simp only [vQZ,Loc.inn.injEq] at p2;obtain ⟨rfl,rfl,rfl,e4⟩:=p2;have e4':=e4.symm;subst e4';rcases q3.2 with ⟨hnil,_⟩ | ⟨gg,cap,cur,hsl,_,hg,hcap,hmax,hcur,htake⟩
 ·omega
 simp only [Value.slice.injEq,vQZ,Addr.mk.injEq,and_true,true_and] at hsl;obtain ⟨rfl,rfl⟩:=hsl;have hone:∀ z ∈ [Value.slice av r1.len cv],z.oneCell'=true:=fun z hz=>by simp at hz; subst hz; rfl
 have hst:=run_storeCells_at P b (j * 1 + 0) e' [Value.slice av r1.len cv] 0 cur w hg (by simp only [vQX,List.length_nil]; omega) hone;obtain ⟨R,hR,hst'⟩:∃ R:List Value,R=cur.toList.take (j * 1 + 0) ++ [Value.slice av r1.len cv] ++ cur.toList.drop (j * 1 + 0 + 1)∧(storeCells ⟨b,j * 1 + 0,none⟩ [Value.slice av r1.len cv] 0).run P w=.ok () (w.setRow b R.toArray):=⟨_,rfl,by simpa using hst⟩
 have hrun:(execOp a.eval ⟨d,.store t x y,ty,pos,af,g⟩).run P w=.ok .skip (w.setRow b R.toArray):=by
  obtain ⟨hty,hk2⟩:=hT.sz t k.1 k.2 hk;have hTt:=qJZ hty;have hz:(Value.slice av r1.len cv).cells=#[Value.slice av r1.len cv]:=rfl;have h2:=hk2 hk1;have hst2:(storeCells ⟨b,j,none⟩ [Value.slice av r1.len cv] 0).run P w=.ok () (w.setRow b R.toArray):=by simpa using hst'
  simp [execOp,uQ h hx,uQ h hy,Instr.storeAt,Instr.sureAddr,storeVar,hTt,hz,h2,hst2]
 have hset:=setRow_heap w b _ R.toArray e' _ hg;have gB:=GrowB.set b w R.toArray;have hoff:=h.mem.off id _ b hρ rfl;have hF:∀ k,F k→F k∧(w.setRow b R.toArray).heap[k]? = w.heap[k]?:=fun k hk=>⟨hk,gB.block k (h.mem.fz k hk).1 fun e=>by subst e; exact hoff.1 hk⟩
 have hcl:cur.toList.length=cc * 1:=by simpa using hcur
 have hmap:(List.range rows.len).map (fun v=>if v=j then Value.slice av r1.len cv else H v)=((List.range rows.len).map H).set j (Value.slice av r1.len cv):=by
  refine List.ext_getElem? fun i => ?_
  rw [vQH,List.getElem?_set];by_cases hi:i < rows.len
  ·rw [List.getElem?_range hi,Option.map_some];by_cases e:j=i
   ·subst e; rw [if_pos rfl,if_pos rfl,if_pos (by simpa using hi)]
   ·rw [if_neg fun e2=>e e2.symm,if_neg e,vQH,List.getElem?_range hi]; rfl
  ·rw [List.getElem?_eq_none (by simp; omega),Option.map_none];rw [if_neg (by omega),List.getElem?_eq_none (by simp; omega)]
 have hRtake:R.take (rows.len * 1)=((List.range rows.len).map H).set j (Value.slice av r1.len cv):=by
  have htake':cur.toList.take (rows.len * 1)=(List.range rows.len).map H:=htake;rw [← htake',hR];refine List.ext_getElem? fun i => ?_
  rw [vZU,List.getElem?_set];by_cases hi:i < rows.len * 1
  ·rw [if_pos hi,Nat.add_zero,Nat.mul_one,List.append_assoc,List.getElem?_append];have hl1:(cur.toList.take j).length=j:=by rw [List.length_take]; omega
   rw [hl1];by_cases e:i < j
   ·rw [if_pos e,if_neg (by omega),vZU,if_pos e,vZU,if_pos hi]
   ·rw [if_neg e];by_cases e2:j=i
    ·subst e2;rw [if_pos rfl,if_pos (by rw [List.length_take]; omega),Nat.sub_self]; rfl
    ·rw [if_neg e2,vZU,if_pos hi,show i - j=(i - (j + 1)) + 1 by omega,List.singleton_append,List.getElem?_cons_succ,List.getElem?_drop]
     congr 1; omega
  ·rw [if_neg hi];split
   ·split
    ·rename_i h1 h2; rw [List.length_take] at h2; omega
    ·rfl
   ·rw [vZU,if_neg hi]
 have hrel:Rel' E C.n ρ F (σ.apply ⟨[(id,some (.nst e' ie isz (rows.set j r1) none))],[(mid id,none)],.un,[]⟩ d) (a.put d undef) (w.setRow b R.toArray):=by
  refine h.apply2 ⟨[(id,some (.nst e' ie isz (rows.set j r1) none))],[(mid id,none)],.un,[]⟩ d undef (fun d' e=>by subst e; simpa [dstB] using hd)
   ⟨fun k b hk=>hk,fun k L' hk _ _=>hk,fun k i a' c' kk s _ hk _ _=>hk,fun k rows a' c' kk sz _ hs=>(by simp only [qQU] at hs; split at hs <;> cases hs),hF⟩ trivial
   (fun k L' b' hu _ hk hb'=>gB.block b' (h.mem.off k L' b' hk hb').2.1 fun e => ?_) (fun k hk _ => ?_) (fun k hk hu => ?_) (fun k y hu => ?_) (fun k L' _ hL _=>hL) (fun k y hu => ?_) h.mem.inr h.mem.apart (fun k L' b' hk hb' => ?_) (fun k hk=>⟨vZZ (h.mem.fz k hk).1 gB.size,(h.mem.fz k hk).2⟩) ?_ (fun b2 hb2=>zYG (qHW hρ0 hb2))
  ·subst e
   have:=h.mem.apart k id L' _ b' hk hρ hb' rfl
   subst this;simp [jX] at hu
  ·simp only [qQU]; rw [if_neg (by unfold mid; omega)]
  ·simp only [jX] at hu;simp only [qQU];split at hu
   ·cases hu
   ·rename_i hne; rw [if_neg (by unfold mid; omega)]
  ·simp only [jX] at hu;split at hu
   ·rename_i e; rw [← e]; exact hlt
   ·cases hu
  ·simp only [jX] at hu;split at hu
   ·rename_i he;cases hu;subst he;refine ⟨some ⟨b,0,none⟩,cc,fun v=>if v=j then Value.slice av r1.len cv else H v,by rw [NR.set_len]; exact hρ,q2,?_,fun v hv => ?_,(fun _ _ e=>by cases e),fun v hv => ?_⟩
    ·rw [NR.set_len,hmap];refine ⟨by simp,.inr ⟨b,cc,R.toArray,rfl,Nat.zero_le _,hset,hcap,hmax,?_,?_⟩⟩
     ·rw [List.size_toArray,hR];simp only [List.length_append,List.length_take,List.length_drop,vQX,List.length_nil,hcl];omega
     ·rw [List.toList_toArray]; exact hRtake
    ·show (if v=j then Value.slice av r1.len cv else H v).oneCell'=true;split
     ·rfl
     ·rw [NR.set_len] at hv; exact q4 v hv
    ·rw [NR.set_len] at hv;have nb:∀ {k':Nat} {L':Loc} {b':Nat},ρ (nid id k')=some L'→L'.bl=some b'→(w.setRow b R.toArray).heap[b']? = w.heap[b']?:=fun {k' L' b'} h1 h2=>gB.block b' (h.mem.off _ _ b' h1 h2).2.1 fun e=>by
      subst e
      have:=h.mem.apart _ id _ _ b' h1 hρ h2 rfl
      have:=qKI id k'
      omega
     by_cases e:v=j
     ·subst e;refine ⟨r1,av,cv,vr1,?_,hρn,fun _=>if_pos rfl,p4.imp fun _ _ _ h=>h.imp fun _ _ _ h=>h.mono hF,p5,p6,qZK p7 fun b' hb'=>nb hp2 hb'⟩;show (rows.set v r1).at v=_;rw [NR.set_at r1 hv,if_pos rfl]
     ·obtain ⟨r2,av2,cv2,vr2,z1,z2,z3,z4,z5,z6,z7⟩:=q6 v hv;refine ⟨r2,av2,cv2,vr2,?_,z2,fun _ => ?_,z4.imp fun _ _ _ h=>h.imp fun _ _ _ h=>h.mono hF,z5,z6,qZK z7 fun b' hb'=>nb z2 hb'⟩
      ·show (rows.set j r1).at v=_;rw [NR.set_at r1 hjk,if_neg e];unfold yQY at z1
       simpa [e] using z1
      ·show (if v=j then Value.slice av r1.len cv else H v)=_;rw [if_neg e];exact z3 (fun r' hr'=>by simp only [vQZ,vQY] at hr'; exact e hr'.1.symm)
   ·cases hu
  ·have:=h.mem.off k L' b' hk hb'
   exact ⟨this.1,vZZ this.2.1 gB.size,this.2.2⟩
  ·refine ⟨gB.os.trans h.mem.grow.os,gB.tape.trans h.mem.grow.tape,gB.output.trans h.mem.grow.output,Nat.le_trans h.mem.grow.size gB.size,fun k hk hW => ?_⟩;rw [gB.block k (vZZ hk h.mem.grow.size) fun e => ?_]
   ·exact h.mem.grow.block k hk hW
   ·subst e;rcases hoff.2.2 with h1 | h1
    ·omega
    ·exact hW h1
 exact zYK hrun ⟨ρ,F,hrel⟩
theorem ok_store {t:TypeId} {x y:Operand} (hT:TabOk P C.T) (h:Rel' E C.n ρ F σ a w) (hd:dstB C.n d=true) (hvs:mapO (opv 0 σ) [x,y]=some vs) (he:qU C.T C.cA C.cB C.me (d.getD 0) (.store t x y) vs=some e):OK P E C σ a w e ⟨d,.store t x y,ty,pos,af,g⟩:=by
 obtain ⟨rx,ry,hx,hy,rfl⟩:=zHB hvs;obtain ⟨vx,x1,x2,x3⟩:=yU h hx;obtain ⟨vy,y1,y2,y3⟩:=yU h hy;simp only [qU,vQQ] at he;obtain ⟨k,hk,he⟩:=he;cases rx with
 | p id off cells =>
  have hb2:Nat.beq id pid2=false:=by
   cases hb2:Nat.beq id pid2 with
   | false=>rfl
   | true=>simp only [hb2,vYZ] at he; cases he
  have hne:id ≠ pid2:=fun e0=>by rw [e0,Nat.beq_refl] at hb2; cases hb2
  simp only [hb2,vYY] at he;cases hsf:C.T.sf C.me && ry.isO with
  | true =>
   simp only [hsf,vYZ,vQQ] at he;obtain ⟨c,hc,he⟩:=he;obtain ⟨hb,he⟩:=qQ he;simp only [vQQ,vQZ] at he;obtain ⟨cs,hcs,rfl⟩:=he;rw [vQJ] at hb;exact ok_store_frz hT h hk x1 y1 x2 x3 y2 y3 hc (vQU hb.1) (disj1 hb.2) hcs hd hne
  | false =>
  simp only [hsf,vYY,vQQ] at he;obtain ⟨hs,hh,he⟩:=he;obtain ⟨hb,he⟩:=qQ he;simp only [vQQ,vQZ] at he;obtain ⟨cs,hcs,rfl⟩:=he;exact ok_store_blk hT h hk x1 y1 x2 x3 y2 hh (vQU hb) hcs hd hne
 | q id j off e' sz rows =>
  simp only [vQQ] at he;obtain ⟨c,hc,r,hr,he⟩:=he;obtain ⟨hb,he⟩:=qQ he;simp only [vQQ,vQZ] at he;obtain ⟨r',hr',rfl⟩:=he;rw [vQJ] at hb;exact ok_store_reg hT h hk x1 y1 x2 x3 y2 y3 hc hr (vQU hb.1) (disj1 hb.2) hr' hd
 | nq id j off e' ie isz rows pd =>
  cases off with
  | succ o=>simp only at he; cases he
  | zero =>
   cases pd with
   | none=>simp only at he; cases he
   | some q =>
    obtain ⟨j',r⟩:=q;cases ry with
    | w y' =>
     cases y' with
     | mp id' j'' =>
      simp only at he;obtain ⟨hb,he⟩:=qQ he;cases he;simp only [vQJ,Bool.not_eq_true'] at hb;obtain ⟨⟨⟨hk1,e1⟩,e2⟩,e3⟩:=hb;have e1:=vQU e1;have e2:=vQU e2;have e3:=vQU e3;subst e1; subst e2; subst e3;exact ok_store_nst hT h hk hk1 x1 y1 x2 x3 y2 hd
     | _=>simp only at he; cases he
    | _=>simp only at he; cases he
 | _=>simp only at he; cases he
theorem ok_slice {t:TypeId} {x:Operand} {lo hi mx:Option Operand} (hT:TabOk P C.T) (h:Rel' E C.n ρ F σ a w) (hd:dstB C.n d=true) (hvs:mapO (opv 0 σ) (#[x] ++ lo.toArray ++ hi.toArray ++ mx.toArray).toList=some vs) (he:qU C.T C.cA C.cB C.me (d.getD 0) (.slice t x lo hi mx) vs=some e):OK P E C σ a w e ⟨d,.slice t x lo hi mx,ty,pos,af,g⟩:=by
 cases mx with
 | some m=>simp only [qU] at he; cases he
 | none =>
  obtain ⟨rx,vs',vx,rfl,x1,x2,x3,hb⟩:=slice_ops h hvs;simp only [qU,vQQ] at he;obtain ⟨b,hbb,he⟩:=he;obtain ⟨vlo,vhi,b1,b2,b3,b4,b5,b6⟩:=hb b hbb;cases rx with
  | v p =>
   cases p with
   | s s =>
    simp only at he;obtain ⟨hc,he⟩:=qQ he;cases he;rw [vQJ] at hc;have hu:=hT.str t hc.1;have hvx:vx=.string s:=qVY x2;subst hvx;refine zG h (qGX x1 b3 b4 b5 b6 fun w => ?_) (.s _) hd;rw [run_sliceAt_string w t _ _ _ _ hu];simp only [Instr.slice,Sem.run_bind,run_underlying hu,Result.andThen_ok,Option.isSome_none,Bool.false_eq_true,if_false,run_bounds b1 b2 (Nat.le_refl _) hc.2];rfl
   | lf n f =>
    simp only [vQQ] at he;obtain ⟨⟨el,sz⟩,hsl,he⟩:=he;obtain ⟨hc,he⟩:=qQ he;obtain ⟨hr,he⟩:=qQ he;cases he;have hr:=vQU hr;obtain ⟨hslc,_⟩:=hT.sl t el sz hsl;have x2':RP F w (.l ((List.range n).map f)) vx:=zUC x2;have hlen:((List.range n).map f).length=n:=by simp
    have hrow:zYA ((List.range n).map f) (loOf b.1) sz=true:=by
     unfold zYA;by_cases hl:loOf b.1 < n
     ·rw [uU f hl,Option.all_some,hr]; exact Nat.beq_refl _
     ·rw [List.getElem?_eq_none (by rw [hlen]; omega)]; rfl
    obtain ⟨ad,c,hvx,hcap⟩:=rp_l x2';subst hvx;obtain ⟨_,_,i3,i4⟩:=zKF hc;have e:(((List.range n).map f).take (hiOf b.2 n)).drop (loOf b.1)=(List.range (hiOf b.2 n - loOf b.1)).map fun v=>f (v + loOf b.1):=by
     refine List.ext_getElem? fun i => ?_
     rw [List.getElem?_drop,vZU];by_cases hi:i < hiOf b.2 n - loOf b.1
     ·rw [if_pos (by omega),uU f (by omega),uU _ hi,Nat.add_comm]
     ·rw [if_neg (by omega)];exact (List.getElem?_eq_none (by simp; omega)).symm
    have:=rp_part x2' hrow i3 (by rw [hlen]; exact i4)
    rw [e] at this;rw [hlen] at x1;rw [hlen] at hcap;exact zG h (qGX x1 b3 b4 b5 b6 fun w=>zWU hslc b1 b2 hcap hc) (.lf _ _ _ this) hd
   | l rows =>
    simp only [vQQ] at he;obtain ⟨⟨el,sz⟩,hsl,he⟩:=he;obtain ⟨hc,he⟩:=qQ he;cases he;rw [vQJ] at hc;obtain ⟨hslc,_⟩:=hT.sl t el sz hsl;have x2':RP F w (.l rows) vx:=x2;obtain ⟨ad,c,hvx,hcap⟩:=rp_l x2';subst hvx;obtain ⟨_,_,i3,i4⟩:=zKF hc.1;exact zG h (qGX x1 b3 b4 b5 b6 fun w=>zWU hslc b1 b2 hcap hc.1) (rp_part x2' hc.2 i3 i4) hd
   | _=>simp only at he; cases he
  | o id e' sz' rows =>
   simp only at he;obtain ⟨bi,bj⟩:=b;cases bi with
   | some i=>simp only at he; cases he
   | none =>
    cases bj with
    | none=>simp only at he; cases he
    | some j =>
     simp only [vQQ] at he;obtain ⟨⟨el,sz⟩,hsl,he⟩:=he;obtain ⟨hc,he⟩:=qQ he;cases he;simp only [vQJ,decide_eq_true_eq] at hc;obtain ⟨⟨hc1,hc2⟩,hc3⟩:=hc;have hc1:=vQU hc1;obtain ⟨hslc,_⟩:=hT.sl t el sz hsl;obtain ⟨ad,c,vr,hρ,rfl,h0,hal,hrl,hvl,hone,hown,_⟩:=zJQ h x3 x2;have hcap:rows.len≤c:=by
      rcases hown.2 with ⟨hx,h00⟩ | ⟨g2,cap2,cur,hsl2,_,_,hc,_⟩
      ·omega
      ·simp only [Value.slice.injEq] at hsl2; omega
     have hin:inS none (some j) rows.len=true:=by simp [inS,loOf,hiOf,hc2,hc3]
     have hop:OpV P ⟨w,[]⟩ (actS a) [] ⟨d,.slice t x lo hi none,ty,pos,af,g⟩ (sliced ad 0 j.toNat c sz):=qGX x1 b3 b4 b5 b6 fun w=>zWU hslc b1 b2 hcap hin
     have hsd:sliced ad 0 j.toNat c sz=.slice ad j.toNat c:=by
      unfold sliced
      have:ad.map (fun x=>x.add (0 * sz))=ad:=by cases ad <;> simp [Addr.add]
      simp only [this,Nat.sub_zero,ite_self]
     have hlen:(rows.take j.toNat).len=j.toNat:=by rw [← Rows.len_L,Rows.take_L hc3,List.length_take,Rows.len_L]; omega
     have hTL:=Rows.take_L hc3;refine (zVJ h.size hop).mono fun u w' ⟨hu,gr⟩ => ?_
     subst hu;rw [hsd];have h':=h.grow gr;obtain ⟨ad2,c2,vr2,hρ2,heq,_,hal2,_,hvl2,hone2,hown2,_⟩:=zJQ h' x3 x2;simp only [Value.slice.injEq] at heq;obtain ⟨rfl,_,rfl⟩:=heq;refine ⟨updO ρ id (.reg ad c j.toNat sz'),F,h'.app (L':=.reg ad c j.toNat sz') (ent:=.reg e' sz' (rows.take j.toNat)) (x:=.o id) hρ ⟨_,_,_,_,rfl⟩ (GrowB.refl _ w') (fun b hb=>.inl hb)
      ⟨ad,c,vr2.take j.toNat,by rw [hlen]; exact yW _ _ _,h0,by rw [hTL]; exact hal2.take _,fun r hr=>hrl r (List.mem_of_mem_take (by rw [hTL] at hr; exact hr)),fun v hv=>hone2 v (List.mem_of_mem_take hv),?_⟩ ⟨_,_,_,_,yW _ _ _,rfl⟩ hd⟩
     rw [hlen,flatten_take hvl2];refine ⟨?_,?_⟩
     ·rw [List.length_take,rows_len vr2 hvl2,← hal2.1,Rows.len_L,Nat.min_eq_left (Nat.mul_le_mul_right _ hc3)]
     ·rcases hown2.2 with ⟨hx,h00⟩ | ⟨g2,cap2,cur,hsl2,m1,m2,m3,m4,m5,m6⟩
      ·have:j.toNat=0:=by omega
       simp only [Value.slice.injEq] at hx;rw [this,hx.1,hx.2.2];exact .inl ⟨rfl,rfl⟩
      ·simp only [Value.slice.injEq] at hsl2;obtain ⟨rfl,_,rfl⟩:=hsl2;refine .inr ⟨g2,c,cur,rfl,m1,m2,by omega,m4,m5,?_⟩;rw [← m6,List.take_take,Nat.min_eq_left (Nat.mul_le_mul_right _ hc3)]
  | _=>simp only at he; cases he
end
end Go.Rx

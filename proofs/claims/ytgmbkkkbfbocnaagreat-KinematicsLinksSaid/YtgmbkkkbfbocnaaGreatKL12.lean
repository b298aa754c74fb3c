/- Part 12 of the texts behind the last one: rules and contracts. No condition. -/
import Derived.Test.YtgmbkkkbfbocnaaGreatKL11
open Option renaming bind_eq_some_iff → vQQ, bind_some → vYQ
open Option.some renaming injEq → vQZ
open Bool renaming and_eq_true → vQJ
open List renaming getElem?_eq_getElem → vQK, length_cons → vQW, mem_cons_of_mem → vQH, mem_cons_self → vZQ, getElem?_take → vZV, take_succ_cons → vYK
open Nat renaming eq_of_beq_eq_true → vQX, lt_of_lt_of_le → vZK
open Array renaming all_eq_true_iff_forall_mem → vYY
namespace Go.Rx
open Go.RowKit Go.Sx
section
variable {P:Program} {E:Env} {C:Cx} {ρ:Own} {F:Nat→Prop} {σ:St} {a:Act} {w:World} {vs:List RV} {e:Eff}
variable {d:Option Tmp} {ty:TypeId} {pos:String} {af:Array Edge} {g:Option (Nat × Bool)}
theorem rp_l {rows:List (List PV)} {v:Value} (h:RP F w (.l rows) v):∃ ad c,v=.slice ad rows.length c∧rows.length≤c:=by
 cases h with
 | l0 ad c=>exact ⟨ad,c,rfl,Nat.zero_le _⟩
 | l _ b off n c sz g hn hcap hs hF hc hh=>subst hn; exact ⟨_,c,rfl,hcap⟩
theorem slice_len (h:Rel' E C.n ρ F σ a w) {r:RV} {v:Value} {rows:List (List PV)} (hr:(r=.v (.l rows)) ∨ (r=.nl∧rows=[]) ∨ ∃ id e sz rr,r=.o id e sz rr∧rr.L=rows) (hv:RH ρ F w r.back v) (hs:RRes σ.M r):∃ ad c,v=.slice ad rows.length c:=by
 rcases hr with rfl | ⟨rfl,rfl⟩ | ⟨id,e,sz,rr,rfl,rfl⟩
 ·obtain ⟨ad,c,h,_⟩:=rp_l hv; exact ⟨ad,c,h⟩
 ·exact ⟨none,0,hv⟩
 ·obtain ⟨ad,c,k,sz',hρ,rfl⟩:=hv;obtain ⟨a2,c2,vr,hρ2,_⟩:=h.mem.ent id _ hs;rw [hρ] at hρ2;simp only [vQZ,Loc.reg.injEq] at hρ2;obtain ⟨rfl,rfl,rfl,rfl⟩:=hρ2;exact ⟨ad,c,by rw [Rows.len_L]⟩
theorem opV_len {S:yZ} {H:Heap} {w0:Base} {x:Operand} {ats:Array TypeId} {t e' k n c:Nat} {ad:Option Addr} (ha:ats[0]? = some t) (hs:slcB P t e' k=true) (hx:ev S x=some (.slice ad n c)) :
  OpV P w0 S H ⟨d,.call ⟨.builtin .len,#[x],ats⟩,ty,pos,af,g⟩ (.int .i64 (n:Int)) :=
 jJ (by simp [yK,Op.operands,Call.operands,hx]) rfl fun w _=>by
  unfold slcB at hs;cases hu:P.underlying t with
  | none=>simp [hu] at hs
  | some ds =>
   cases ds <;> simp [hu] at hs
   have ha':ats.getD 0 0=t:=by simp [Array.getD_eq_getD_getElem?,ha]
   simp [execOp,resolve,invoke,builtin,zG hx,Builtin.len_,ha,run_underlying hu,goInt]
theorem arr1 {args:Array Operand} {m:Nat} {r:RV} (h:mapO (opv m σ) (#[] ++ args).toList=some [r]):∃ x,args=#[x]∧opv m σ x=some r:=by
 have h1:=jQ h;rw [show ((#[]:Array Operand) ++ args).toList=args.toList by simp] at h1
 match hl:args.toList with
 | []=>rw [hl] at h1; have:=h1.1; simp at this
 | [x]=>rw [hl] at h1; exact ⟨x,by rw [← Array.toArray_toList (xs:=args),hl],h1.2 0 x r rfl rfl⟩
 | x :: y :: l=>rw [hl] at h1; have:=h1.1; simp at this
theorem arr2 {args:Array Operand} {m:Nat} {r r':RV} (h:mapO (opv m σ) (#[] ++ args).toList=some [r,r']):∃ x x',args=#[x,x']∧opv m σ x=some r∧opv m σ x'=some r':=by
 have h1:=jQ h;rw [show ((#[]:Array Operand) ++ args).toList=args.toList by simp] at h1
 match hl:args.toList with
 | []=>rw [hl] at h1; have:=h1.1; simp at this
 | [x]=>rw [hl] at h1; have:=h1.1; simp at this
 | [x,y]=>rw [hl] at h1; exact ⟨x,y,by rw [← Array.toArray_toList (xs:=args),hl],h1.2 0 x r rfl rfl,h1.2 1 y r' rfl rfl⟩
 | x :: y :: z :: l=>rw [hl] at h1; have:=h1.1; simp at this
theorem opV_lenS {S:yZ} {H:Heap} {w0:Base} {x:Operand} {ats:Array TypeId} {t:Nat} {s:ByteArray} (ha:ats[0]? = some t) (hs:P.underlying t=some .string) (hx:ev S x=some (.string s)) :
  OpV P w0 S H ⟨d,.call ⟨.builtin .len,#[x],ats⟩,ty,pos,af,g⟩ (.int .i64 (s.size:Int)) :=
 jJ (by simp [yK,Op.operands,Call.operands,hx]) rfl fun w _=>by
  simp [execOp,resolve,invoke,builtin,zG hx,Builtin.len_,ha,run_underlying hs,goInt]
theorem ok_len {args:Array Operand} {ats:Array TypeId} (hT:TabOk P C.T) (h:Rel' E C.n ρ F σ a w) (hd:dstB C.n d=true) (hvs:mapO (opv 0 σ) (#[] ++ args).toList=some vs) (he:zV C.T C.cA C.cB C.me (d.getD 0) (.call ⟨.builtin .len,args,ats⟩) vs=some e):OK P E C σ a w e ⟨d,.call ⟨.builtin .len,args,ats⟩,ty,pos,af,g⟩:=by
 match vs with
 | []=>simp only [zV] at he; cases he
 | _ :: _ :: _=>simp only [zV] at he; cases he
 | [r] =>
  obtain ⟨x,rfl,hx⟩:=arr1 hvs;obtain ⟨v,h1,h2,h3⟩:=yV h hx;have main:∀ (rows:List (List PV)),((r=.v (.l rows)) ∨ (r=.nl∧rows=[]) ∨ ∃ id e sz rr,r=.o id e sz rr∧rr.L=rows)→∀ t,ats[0]? = some t→(C.T.sl t).isSome=true→OK P E C σ a w (.val (.v (.n .i64 (rows.length:Int)))) ⟨d,.call ⟨.builtin .len,#[x],ats⟩,ty,pos,af,g⟩:=by
   intro rows hr t ht hs;obtain ⟨⟨e',k⟩,hs⟩:=Option.isSome_iff_exists.1 hs;obtain ⟨ad,c,rfl⟩:=slice_len h hr h2 h3;exact jY h (opV_len ht (hT.sl t e' k hs).1 h1) (.n _ _) hd
  cases r with
  | v p =>
   cases p with
   | s s =>
    simp only [zV] at he;split at he
    ·rename_i t ht;obtain ⟨hb,he⟩:=qY he;cases he;rw [zJU h2] at h1;exact jY h (opV_lenS ht (hT.str t hb) h1) (.n _ _) hd
    ·cases he
   | l rows =>
    simp only [zV] at he;split at he
    ·rename_i t ht;simp only [vQQ,vQZ] at he;obtain ⟨y,hy,rfl⟩:=he;exact main rows (.inl rfl) t ht (by rw [hy]; rfl)
    ·cases he
   | lf n f =>
    simp only [zV] at he;split at he
    ·rename_i t ht;simp only [vQQ,vQZ] at he;obtain ⟨⟨e',k⟩,hy,rfl⟩:=he;obtain ⟨ad,c,rfl⟩:=slice_len (rows:=(List.range n).map f) h (.inl rfl) (jZZ h2) trivial;rw [List.length_map,List.length_range] at h1;exact jY h (opV_len ht (hT.sl t e' k hy).1 h1) (.n _ _) hd
    ·cases he
   | _=>simp only [zV] at he; cases he
  | nl =>
   simp only [zV] at he;split at he
   ·rename_i t ht;simp only [vQQ,vQZ] at he;obtain ⟨y,hy,rfl⟩:=he;exact main [] (.inr (.inl ⟨rfl,rfl⟩)) t ht (by rw [hy]; rfl)
   ·cases he
  | o id e' sz rows =>
   simp only [zV] at he;split at he
   ·rename_i t ht;simp only [vQQ,vQZ] at he;obtain ⟨y,hy,rfl⟩:=he
    have:=main rows.L (.inr (.inr ⟨_,_,_,_,rfl,rfl⟩)) t ht (by rw [hy]; rfl)
    rw [Rows.len_L] at this;exact this
   ·cases he
  | _=>simp only [zV] at he; cases he
theorem ok_min {args:Array Operand} {ats:Array TypeId} (h:Rel' E C.n ρ F σ a w) (hd:dstB C.n d=true) (hvs:mapO (opv 0 σ) (#[] ++ args).toList=some vs) (he:zV C.T C.cA C.cB C.me (d.getD 0) (.call ⟨.builtin .min,args,ats⟩) vs=some e):OK P E C σ a w e ⟨d,.call ⟨.builtin .min,args,ats⟩,ty,pos,af,g⟩:=by
 match vs with
 | []=>simp only [zV] at he; cases he
 | [_]=>simp only [zV] at he; cases he
 | _ :: _ :: _ :: _=>simp only [zV] at he; cases he
 | [r,r'] =>
  obtain ⟨p,q,rfl,hp,hq⟩:=arr2 hvs;obtain ⟨vx,x1,x2,_⟩:=yV h hp;obtain ⟨vy,y1,y2,_⟩:=yV h hq;cases r with
  | v r =>
   cases r' with
   | v r' =>
    cases r with
    | n k x =>
     cases r' with
     | n k' y =>
      simp only [zV] at he;obtain ⟨hb,he⟩:=qY he;cases he
      have:=vJZ hb
      subst this;rw [qJJ x2] at x1; rw [qJJ y2] at y1;exact jY h (qHW x1 y1) (.n _ _) hd
     | _=>simp only [zV] at he; cases he
    | _=>simp only [zV] at he; cases he
   | _=>cases r <;> (simp only [zV] at he; cases he)
  | _=>simp only [zV] at he; cases he
theorem ok_max {args:Array Operand} {ats:Array TypeId} (h:Rel' E C.n ρ F σ a w) (hd:dstB C.n d=true) (hvs:mapO (opv 0 σ) (#[] ++ args).toList=some vs) (he:zV C.T C.cA C.cB C.me (d.getD 0) (.call ⟨.builtin .max,args,ats⟩) vs=some e):OK P E C σ a w e ⟨d,.call ⟨.builtin .max,args,ats⟩,ty,pos,af,g⟩:=by
 match vs with
 | []=>simp only [zV] at he; cases he
 | [_]=>simp only [zV] at he; cases he
 | _ :: _ :: _ :: _=>simp only [zV] at he; cases he
 | [r,r'] =>
  obtain ⟨p,q,rfl,hp,hq⟩:=arr2 hvs;obtain ⟨vx,x1,x2,_⟩:=yV h hp;obtain ⟨vy,y1,y2,_⟩:=yV h hq;cases r with
  | v r =>
   cases r' with
   | v r' =>
    cases r with
    | n k x =>
     cases r' with
     | n k' y =>
      simp only [zV] at he;obtain ⟨hb,he⟩:=qY he;cases he
      have:=vJZ hb
      subst this;rw [qJJ x2] at x1; rw [qJJ y2] at y1;exact jY h (qHV x1 y1) (.n _ _) hd
     | _=>simp only [zV] at he; cases he
    | _=>simp only [zV] at he; cases he
   | _=>cases r <;> (simp only [zV] at he; cases he)
  | _=>simp only [zV] at he; cases he
theorem rp_part {rows:List (List PV)} {ad:Option Addr} {n c l h k:Nat} (hr:RP F w (.l rows) (.slice ad n c)) (hk:yJW rows l k=true) (hl:l≤h) (hh:h≤rows.length):RP F w (.l ((rows.take h).drop l)) (sliced ad l h c k):=by
 have hlen:((rows.take h).drop l).length=h - l:=by simp; omega
 by_cases h0:h - l=0
 ·have:(rows.take h).drop l=[]:=List.eq_nil_of_length_eq_zero (by omega)
  rw [this];unfold sliced;rw [h0];exact .l0 _ _
 ·cases hr with
  | l0=>simp at hh; omega
  | l _ b off n c sz g hn hcap hs hF hc hh' =>
   subst hn;have hll:l < rows.length:=by omega
   have hsz:sz=k:=by
    unfold yJW at hk;rw [vQK hll] at hk;simp only [Option.all_some] at hk;rw [← hs _ (List.getElem_mem hll)]; exact vQX hk
   subst hsz;have hml:¬ c=l:=by omega
   unfold sliced;rw [if_neg hml];simp only [Option.map_some,qJY];refine .l _ b (off + l * sz) (h - l) (c - l) sz (fun j t=>g (l + j) t) hlen.symm (by omega) (fun r hr=>hs r (List.mem_of_mem_take (List.mem_of_mem_drop hr))) hF (fun j t hj ht => ?_) (fun j r t p hj ht => ?_)
   ·have:=hc (l + j) t (by omega) ht
    rw [show off + l * sz + (j * sz + t)=off + ((l + j) * sz + t) by rw [Nat.add_mul]; omega];exact this
   ·rw [List.getElem?_drop,vZV] at hj;split at hj
    ·exact hh' (l + j) r t p hj ht
    ·cases hj
theorem yWV {i j:Option Int} {n:Nat} (h:inS i j n=true):(∀ x,i=some x→0≤x)∧(∀ x,j=some x→0≤x)∧loOf i≤hiOf j n∧hiOf j n≤n:=by
 unfold inS at h;simp only [vQJ,decide_eq_true_eq] at h;obtain ⟨⟨⟨h1,h2⟩,h3⟩,h4⟩:=h;exact ⟨fun x e=>by subst e; simpa using h1,fun x e=>by subst e; simpa using h2,h3,h4⟩
def BV (i:Option Int) (v:Option Value):Prop:=(i=none∧v=none) ∨ ∃ k x,i=some x∧v=some (.int k x)
theorem run_bounds {w:World} {isS:Bool} {n c:Nat} {i j:Option Int} {vi vj:Option Value} (hi:BV i vi) (hj:BV j vj) (hn:n≤c) (h:inS i j n=true) :
  (Instr.sliceBounds isS n c vi vj none).run P w=.ok (loOf i,hiOf j n,c) w:=by
 obtain ⟨h1,h2,h3,h4⟩:=yWV h;rcases hi with ⟨rfl,rfl⟩ | ⟨k,x,rfl,rfl⟩ <;> rcases hj with ⟨rfl,rfl⟩ | ⟨k',y,rfl,rfl⟩
 ·simp [Instr.sliceBounds,loOf,hiOf]
 ·have:=h2 y rfl
  simp only [loOf,hiOf] at h3 h4;have hy:y≤(c:Int):=by omega
  simp [Instr.sliceBounds,loOf,hiOf,run_sliceBound,this,hy]
 ·have:=h1 x rfl
  simp only [loOf,hiOf] at h3 h4;have hx:x≤(n:Int):=by omega
  simp [Instr.sliceBounds,loOf,hiOf,run_sliceBound,this,hx]
 ·have hx0:=h1 x rfl;have hy0:=h2 y rfl;simp only [loOf,hiOf] at h3 h4;have hy:y≤(c:Int):=by omega
  have hx:x≤(y.toNat:Int):=by omega
  have e1:=run_sliceBound (P:=P) w k' y c (if isS then .sliceAcap else .sliceAlen) hy0 hy;have e2:=run_sliceBound (P:=P) w k x y.toNat .sliceB hx0 hx;simp [Instr.sliceBounds,loOf,hiOf,e1,e2]
theorem zUU {S:yZ} {H:Heap} {w0:Base} {t:TypeId} {x:Operand} {lo hi:Option Operand} {vx:Value} {vlo vhi:Option Value} {v:Value} (hx:ev S x=some vx) (hlo:∀ o,lo=some o→∃ u,ev S o=some u∧vlo=some u) (hlo':lo=none→vlo=none)
  (hhi:∀ o,hi=some o→∃ u,ev S o=some u∧vhi=some u) (hhi':hi=none→vhi=none) (hr:∀ w,(Instr.sliceAt t vx vlo vhi none).run P w=.ok v w):OpV P w0 S H ⟨d,.slice t x lo hi none,ty,pos,af,g⟩ v:=by
 have e1:lo.map (evD S)=vlo:=by
  cases lo with
  | none=>rw [hlo' rfl]; rfl
  | some o=>obtain ⟨u,h1,h2⟩:=hlo o rfl; rw [h2,Option.map_some,zG h1]
 have e2:hi.map (evD S)=vhi:=by
  cases hi with
  | none=>rw [hhi' rfl]; rfl
  | some o=>obtain ⟨u,h1,h2⟩:=hhi o rfl; rw [h2,Option.map_some,zG h1]
 refine jJ ?_ rfl fun w _ => ?_
 ·simp only [yK,Op.operands];rw [vYY];intro y hy;simp only [Array.mem_append,List.mem_toArray,Option.mem_toArray,List.mem_singleton,Option.not_mem_none,or_false] at hy;rcases hy with ((rfl | hy) | hy) | hy
  ·simp [hx]
  ·obtain ⟨u,h1,_⟩:=hlo y hy; simp [h1]
  ·obtain ⟨u,h1,_⟩:=hhi y hy; simp [h1]
  ·cases hy
 ·simp only [execOp,e1,e2,zG hx];simp [hr w]
theorem elem_of {t e' k:Nat} (h:slcB P t e' k=true):P.underlying t=some (.slice (P.elem t))∧P.elem t=e'∧∀ w,(sizeOf e').run P w=.ok k w:=by
 unfold slcB at h;cases hu:P.underlying t with
 | none=>simp [hu] at h
 | some ds =>
  cases ds <;> simp [hu] at h
  rename_i el;obtain ⟨rfl,h2⟩:=h;cases hi:P.info? el with
  | none=>simp [hi] at h2
  | some i =>
   simp [hi] at h2;have he:P.elem t=el:=by simp [Program.elem,hu]
   exact ⟨by rw [he],he,fun w=>by simp [sizeOf,typeInfo,hi,h2]⟩
theorem jQH {w:World} {t e' k n c:Nat} {ad:Option Addr} {i j:Option Int} {vi vj:Option Value} (hs:slcB P t e' k=true) (hi:BV i vi) (hj:BV j vj) (hn:n≤c) (h:inS i j n=true) :
  (Instr.sliceAt t (.slice ad n c) vi vj none).run P w=.ok (sliced ad (loOf i) (hiOf j n) c k) w:=by
 obtain ⟨h1,h2,h3⟩:=elem_of hs;rw [run_sliceAt_slice w t _ _ _ _ h1,run_slice_any w t ad n c h1,run_bounds hi hj hn h];simp only [Result.andThen_ok,h2,h3]
theorem slice_ops {x:Operand} {lo hi:Option Operand} (h:Rel' E C.n ρ F σ a w) (hvs:mapO (opv 0 σ) (#[x] ++ lo.toArray ++ hi.toArray ++ (none:Option Operand).toArray).toList=some vs):∃ rx vs' vx,vs=rx :: vs'∧ev (actS a) x=some vx∧RH ρ F w rx.back vx∧RRes σ.M rx ∧
  ∀ b,yKX lo hi vs'=some b→∃ vlo vhi,BV b.1 vlo∧BV b.2 vhi∧(∀ o,lo=some o→∃ u,ev (actS a) o=some u∧vlo=some u)∧(lo=none→vlo=none)∧(∀ o,hi=some o→∃ u,ev (actS a) o=some u∧vhi=some u)∧(hi=none→vhi=none):=by
 have hl:(#[x] ++ lo.toArray ++ hi.toArray ++ (none:Option Operand).toArray).toList=x :: (lo.toList ++ hi.toList):=by cases lo <;> cases hi <;> rfl
 rw [hl] at hvs;simp only [mapO,vQQ,vQZ] at hvs;obtain ⟨rx,hx,vs',hvs',rfl⟩:=hvs;obtain ⟨vx,x1,x2,x3⟩:=yV h hx;refine ⟨rx,vs',vx,rfl,x1,x2,x3,fun b hb => ?_⟩;have no:∀ {b':Option Value} (o:Operand),(none:Option Operand)=some o→∃ u,ev (actS a) o=some u∧b'=some u:=fun o ho=>by cases ho
 have yes:∀ {o':Operand} {v:Value},ev (actS a) o'=some v→∀ o,some o'=some o→∃ u,ev (actS a) o=some u∧some v=some u:=fun hv o ho=>by cases ho; exact ⟨_,hv,rfl⟩
 cases lo with
 | none =>
  cases hi with
  | none=>simp [yKX] at hb
  | some oj =>
   simp only [Option.toList_none,Option.toList_some,List.nil_append] at hvs';obtain ⟨r,hr,rfl⟩:=zJJ hvs';obtain ⟨v,h1,h2,_⟩:=yV h hr;cases r with
   | v p =>
    cases p with
    | n k j=>cases hb; exact ⟨none,some v,.inl ⟨rfl,rfl⟩,.inr ⟨k,j,rfl,by rw [qJJ h2]⟩,no,(fun _=>rfl),yes h1,(fun ho=>by cases ho)⟩
    | _=>cases hb
   | _=>cases hb
 | some oi =>
  cases hi with
  | none =>
   simp only [Option.toList_none,Option.toList_some,List.append_nil] at hvs';obtain ⟨r,hr,rfl⟩:=zJJ hvs';obtain ⟨v,h1,h2,_⟩:=yV h hr;cases r with
   | v p =>
    cases p with
    | n k j=>cases hb; exact ⟨some v,none,.inr ⟨k,j,rfl,by rw [qJJ h2]⟩,.inl ⟨rfl,rfl⟩,yes h1,(fun ho=>by cases ho),no,(fun _=>rfl)⟩
    | _=>cases hb
   | _=>cases hb
  | some oj =>
   simp only [Option.toList_some,List.singleton_append] at hvs';obtain ⟨r,r',hr,hr',rfl⟩:=jXV hvs';obtain ⟨v,h1,h2,_⟩:=yV h hr;obtain ⟨v',h1',h2',_⟩:=yV h hr';cases r with
   | v p =>
    cases r' with
    | v p' =>
     cases p with
     | n k j =>
      cases p' with
      | n k' j'=>cases hb; exact ⟨some v,some v',.inr ⟨k,j,rfl,by rw [qJJ h2]⟩,.inr ⟨k',j',rfl,by rw [qJJ h2']⟩,yes h1,(fun ho=>by cases ho),yes h1',(fun ho=>by cases ho)⟩
      | _=>cases hb
     | _=>cases hb
    | _=>cases p <;> cases hb
   | _=>cases hb
end
end Go.Rx
namespace Go.Rx
open Go.RowKit Go.Sx
def updO (ρ:Own) (id:Nat) (L:Loc):Own:=fun k=>if k=id then some L else ρ k
theorem jV (ρ:Own) (id:Nat) (L:Loc):updO ρ id L id=some L:=by simp [updO]
theorem qWJ {ρ:Own} {id k:Nat} {L:Loc} (h:k ≠ id):updO ρ id L k=ρ k:=by simp [updO,h]
theorem qGW {id k:Nat} {e:Option Ent}:kZ [(id,e)] k=if id=k then some e else none:=by
 simp only [kZ];by_cases h:id=k
 ·subst h; simp
 ·simp [qJW h,h]
section
variable {P:Program} {E:Env} {n:Nat} {ρ:Own} {F:Nat→Prop} {σ:St} {a:Act} {w:World}
theorem Rel'.new (h:Rel' E n ρ F σ a w) {id:Nat} (hid:zH σ.M id=none) {ent:Ent} {L:Loc} {w':World} (g:Grow w w') (hb:∀ b,L.bl=some b→w.heap.size≤b∧b < w'.heap.size) (hent:EntOk (updO ρ id L) F w' id ent)
  {x:HV} {v:Value} (hx:RH (updO ρ id L) F w' x v) {dst:Option Nat} (hd:dstB n dst=true):Rel' E n (updO ρ id L) F (σ.apply (.new id ent x) dst) (a.put dst v) w':=by
 have hnone:ρ id=none:=by
  cases hc:ρ id with
  | none=>rfl
  | some L'=>obtain ⟨e,he⟩:=h.mem.dom id L' hc; rw [hid] at he; cases he
 have old:∀ k L',ρ k=some L'→updO ρ id L k=some L':=fun k L' hk=>by
  rw [qWJ (fun e=>by subst e; rw [hnone] at hk; cases hk)]; exact hk
 have inv:∀ k L',updO ρ id L k=some L'→(k=id∧L'=L) ∨ (k ≠ id∧ρ k=some L'):=fun k L' hk=>by
  by_cases e:k=id
  ·subst e; rw [jV] at hk; cases hk; exact .inl ⟨rfl,rfl⟩
  ·rw [qWJ e] at hk; exact .inr ⟨e,hk⟩
 have blk:∀ k L' b,ρ k=some L'→L'.bl=some b→b < w.heap.size:=fun k L' b hk hb'=>(h.mem.off k L' b hk hb').2.1
 refine h.apply (.new id ent x) dst v (fun d e=>by subst e; simpa [dstB] using hd) ⟨fun k b hk=>old k _ hk,fun k L' hk _=>old k L' hk,fun k rows a' c' kk sz _ hs=>by simp [Eff.new,kK] at hs,fun k hk=>⟨hk,g.block k (h.mem.fz k hk).1⟩⟩ hx
  (fun k L' b _ hk hb'=>g.block b (blk k L' b hk hb')) (fun _ _=>rfl) (fun k hu => ?_) (fun k y hu => ?_) (fun k k' L1 L2 b h1 h2 hb1 hb2 => ?_) (fun k L' b hk hb' => ?_) (fun k hk=>⟨vZK (h.mem.fz k hk).1 g.size,(h.mem.fz k hk).2⟩) (zYG h.mem.grow g)
 ·simp only [Eff.new,qGW] at hu;split at hu
  ·cases hu
  ·rename_i hne; exact qWJ (Ne.symm hne)
 ·simp only [Eff.new,qGW] at hu;split at hu
  ·rename_i he; cases hu; subst he; exact hent
  ·cases hu
 ·rcases inv k L1 h1 with ⟨e1,e2⟩ | ⟨n1,h1'⟩ <;> rcases inv k' L2 h2 with ⟨e3,e4⟩ | ⟨n2,h2'⟩
  ·rw [e1,e3]
  ·rw [e2] at hb1; have:=(hb b hb1).1; have:=blk k' L2 b h2' hb2; omega
  ·rw [e4] at hb2; have:=(hb b hb2).1; have:=blk k L1 b h1' hb1; omega
  ·exact h.mem.apart k k' L1 L2 b h1' h2' hb1 hb2
 ·rcases inv k L' hk with ⟨rfl,rfl⟩ | ⟨_,hk⟩
  ·have:=hb b hb'
   exact ⟨fun hf=>by have:=(h.mem.fz b hf).1; omega,this.2,.inl (Nat.le_trans h.mem.grow.size this.1)⟩
  ·have:=h.mem.off k L' b hk hb'
   exact ⟨this.1,vZK this.2.1 g.size,this.2.2⟩
theorem Rel'.set (h:Rel' E n ρ F σ a w) {id b:Nat} {L:Loc} (hρ:ρ id=some L) (hb:L.bl=some b) {ent:Ent} {w':World} (g:GrowB (· = b) w w') (hent:EntOk ρ F w' id ent) {x:HV} {v:Value} (hx:RH ρ F w' x v) {dst:Option Nat} (hd:dstB n dst=true) :
  Rel' E n ρ F (σ.apply (.set id ent x) dst) (a.put dst v) w':=by
 have hoff:=h.mem.off id L b hρ hb;have fzb:∀ k,F k→w'.heap[k]? = w.heap[k]?:=fun k hk=>g.block k (h.mem.fz k hk).1 fun e=>by subst e; exact hoff.1 hk
 refine h.apply (.set id ent x) dst v (fun d e=>by subst e; simpa [dstB] using hd) ⟨fun k b hk=>hk,fun k L' hk _=>hk,fun k rows a' c' kk sz _ hs=>by simp [Eff.set,kK] at hs,fun k hk=>⟨hk,fzb k hk⟩⟩ hx
  (fun k L' b' hu hk hb' => ?_) (fun _ _=>rfl) (fun k hu=>rfl) (fun k y hu => ?_) h.mem.apart (fun k L' b' hk hb' => ?_) (fun k hk=>⟨vZK (h.mem.fz k hk).1 g.size,(h.mem.fz k hk).2⟩) ?_
 ·refine g.block b' (h.mem.off k L' b' hk hb').2.1 fun e => ?_
  subst e
  have:=h.mem.apart k id L' L b' hk hρ hb' hb
  subst this;simp [Eff.set,qGW] at hu
 ·simp only [Eff.set,qGW] at hu;split at hu
  ·rename_i he; cases hu; subst he; exact hent
  ·cases hu
 ·have:=h.mem.off k L' b' hk hb'
  exact ⟨this.1,vZK this.2.1 g.size,this.2.2⟩
 ·refine ⟨g.os.trans h.mem.grow.os,g.tape.trans h.mem.grow.tape,g.output.trans h.mem.grow.output,Nat.le_trans h.mem.grow.size g.size,fun k hk hW => ?_⟩;rw [g.block k (vZK hk h.mem.grow.size) fun e => ?_]
  ·exact h.mem.grow.block k hk hW
  ·subst e;rcases hoff.2.2 with h1 | h1
   ·omega
   ·exact hW h1
theorem Rel'.app (h:Rel' E n ρ F σ a w) {id:Nat} {L L':Loc} (hρ:ρ id=some L) (hreg:∃ a c k s,L=.reg a c k s) {ent:Ent} {w':World} (g:GrowB (fun k=>L.bl=some k) w w') (hb:∀ b,L'.bl=some b→L.bl=some b ∨ (w.heap.size≤b∧b < w'.heap.size))
  (hent:EntOk (updO ρ id L') F w' id ent) {x:HV} {v:Value} (hx:RH (updO ρ id L') F w' x v) {dst:Option Nat} (hd:dstB n dst=true):Rel' E n (updO ρ id L') F (σ.apply (.app id ent x) dst) (a.put dst v) w':=by
 have hoff:=fun b hb=>h.mem.off id L b hρ hb
 have fzb:∀ k,F k→w'.heap[k]? = w.heap[k]?:=fun k hk=>g.block k (h.mem.fz k hk).1 fun e=>(hoff k e).1 hk
 have sub1:∀ k,kK [(id,(none:Option Rows))] k=if id=k then some none else none:=fun k=>by
  simp only [kK];by_cases e:id=k
  ·subst e; simp
  ·simp [qJW e,e]
 have old:∀ k L1,ρ k=some L1→k ≠ id→updO ρ id L' k=some L1:=fun k L1 hk hne=>by rw [qWJ hne]; exact hk
 have inv:∀ k L1,updO ρ id L' k=some L1→(k=id∧L1=L') ∨ (k ≠ id∧ρ k=some L1):=fun k L1 hk=>by
  by_cases e:k=id
  ·subst e; rw [jV] at hk; cases hk; exact .inl ⟨rfl,rfl⟩
  ·rw [qWJ e] at hk; exact .inr ⟨e,hk⟩
 obtain ⟨ra,rc,rk,rs,rfl⟩:=hreg;have blkne:∀ k b,ρ k=some (.blk b)→k ≠ id:=fun k b hk e=>by subst e; rw [hρ] at hk; cases hk
 have offs:∀ k L1 b,ρ k=some L1→L1.bl=some b→k ≠ id→Loc.bl (.reg ra rc rk rs) ≠ some b:=fun k L1 b hk hb1 hne he=>hne (h.mem.apart k id L1 _ b hk hρ hb1 he)
 refine h.apply (.app id ent x) dst v (fun d e=>by subst e; simpa [dstB] using hd)
  ⟨fun k b hk=>old k _ hk (blkne k b hk),fun k L1 hk hs=>old k L1 hk fun e=>by subst e; simp [Eff.app,sub1] at hs,fun k rows a' c' kk sz _ hs=>(by simp only [Eff.app,sub1] at hs; split at hs <;> cases hs),fun k hk=>⟨hk,fzb k hk⟩⟩ hx
  (fun k L1 b' hu hk hb' => ?_) (fun k hu => ?_) (fun k hu => ?_) (fun k y hu => ?_) (fun k k' L1 L2 b h1 h2 hb1 hb2 => ?_) (fun k L1 b' hk hb' => ?_) (fun k hk=>⟨vZK (h.mem.fz k hk).1 g.size,(h.mem.fz k hk).2⟩) ?_
 ·simp only [Eff.app,qGW] at hu;split at hu
  ·cases hu
  ·rename_i hne;exact g.block b' (h.mem.off k L1 b' hk hb').2.1 (offs k L1 b' hk hb' (Ne.symm hne))
 ·simp only [Eff.app,qGW] at hu;split at hu
  ·cases hu
  ·rename_i hne; simp only [Eff.app,sub1,if_neg hne]
 ·simp only [Eff.app,qGW] at hu;split at hu
  ·cases hu
  ·rename_i hne; exact qWJ (Ne.symm hne)
 ·simp only [Eff.app,qGW] at hu;split at hu
  ·rename_i he; cases hu; subst he; exact hent
  ·cases hu
 ·have cross:∀ k L1 b,k ≠ id→ρ k=some L1→L1.bl=some b→L'.bl=some b→False:=fun k L1 b hne hk hb1 hb2=>by
   rcases hb b hb2 with h3 | h3
   ·exact offs k L1 b hk hb1 hne h3
   ·have:=(h.mem.off k L1 b hk hb1).2.1; omega
  rcases inv k L1 h1 with ⟨e1,e2⟩ | ⟨n1,h1'⟩ <;> rcases inv k' L2 h2 with ⟨e3,e4⟩ | ⟨n2,h2'⟩
  ·rw [e1,e3]
  ·rw [e2] at hb1; exact (cross k' L2 b n2 h2' hb2 hb1).elim
  ·rw [e4] at hb2; exact (cross k L1 b n1 h1' hb1 hb2).elim
  ·exact h.mem.apart k k' L1 L2 b h1' h2' hb1 hb2
 ·rcases inv k L1 hk with ⟨rfl,rfl⟩ | ⟨_,hk⟩
  ·rcases hb b' hb' with h3 | h3
   ·have:=hoff b' h3; exact ⟨this.1,vZK this.2.1 g.size,this.2.2⟩
   ·exact ⟨fun hf=>by have:=(h.mem.fz b' hf).1; omega,h3.2,.inl (Nat.le_trans h.mem.grow.size h3.1)⟩
  ·have:=h.mem.off k L1 b' hk hb'
   exact ⟨this.1,vZK this.2.1 g.size,this.2.2⟩
 ·refine ⟨g.os.trans h.mem.grow.os,g.tape.trans h.mem.grow.tape,g.output.trans h.mem.grow.output,Nat.le_trans h.mem.grow.size g.size,fun k hk hW => ?_⟩;rw [g.block k (vZK hk h.mem.grow.size) fun e => ?_]
  ·exact h.mem.grow.block k hk hW
  ·rcases (hoff k e).2.2 with h1 | h1
   ·omega
   ·exact hW h1
end
section
variable {P:Program} {E:Env} {C:Cx} {ρ:Own} {F:Nat→Prop} {σ:St} {a:Act} {w:World} {vs:List RV} {e:Eff}
variable {d:Option Tmp} {ty:TypeId} {pos:String} {af:Array Edge} {g:Option (Nat × Bool)}
theorem qUW {o:Oper} {v:Value} {w':World} {T:Value→World→Prop} (h:(execOp a.eval o).run P w=.ok (.value v) w') (hT:T v w'):Goes P o a w T:=by unfold Goes; rw [h]; exact hT
theorem goes_skip {o:Oper} {w':World} {T:Value→World→Prop} (h:(execOp a.eval o).run P w=.ok .skip w') (hT:T undef w'):Goes P o a w T:=by unfold Goes; rw [h]; exact hT
theorem qYU {x:Operand} {v:Value} (h:Rel' E C.n ρ F σ a w) (hx:ev (actS a) x=some v):a.eval x=v:=(fits_act h.size).ev hx
theorem new_blk (h:Rel' E C.n ρ F σ a w) {o:Oper} {id:Nat} {hs:List HV} {us:List Value} {t:TypeId} (hd:dstB C.n o.dst=true) (hid:zH σ.M id=none) (hrun:(execOp a.eval o).run P w=.ok (.value (.pointer (some ⟨w.heap.size,0,none⟩))) (w.alloc (.cells us.toArray t)))
  (hal:Al (RH ρ F w) hs us) (h1:∀ u ∈ us,u.oneCell'=true):OK P E C σ a w (.new id (.blk hs) (.p id 0)) o:=by
 have gr:Grow w (w.alloc (.cells us.toArray t)):=(Grow.refl w).alloc _;have hF:∀ k,F k→F k∧(w.alloc (.cells us.toArray t)).heap[k]? = w.heap[k]?:=fun k hk=>⟨hk,gr.block k (h.mem.fz k hk).1⟩
 have hnone:ρ id=none:=by
  cases hc:ρ id with
  | none=>rfl
  | some L'=>obtain ⟨e,he⟩:=h.mem.dom id L' hc; rw [hid] at he; cases he
 refine qUW hrun ⟨updO ρ id (.blk w.heap.size),F,h.new (ent:=.blk hs) (x:=.p id 0) (L:=.blk w.heap.size) hid gr (fun b hb => ?_) ⟨w.heap.size,us,t,jV _ _ _,?_,hal.imp fun x y _ hr=>hr.mono (fun k L hk => ?_) hF,h1⟩ ⟨w.heap.size,jV _ _ _,rfl⟩ hd⟩
 ·simp only [Loc.bl,vQZ] at hb;subst hb;exact ⟨Nat.le_refl _,by show w.heap.size < (w.heap.push _).size; simp⟩
 ·show (w.heap.push _)[w.heap.size]? = _; simp
 ·rw [qWJ (fun e=>by subst e; rw [hnone] at hk; cases hk)]; exact hk
theorem ok_alloc {t:TypeId} (hT:TabOk P C.T) (h:Rel' E C.n ρ F σ a w) (hd:dstB C.n d=true) (hvs:mapO (opv 0 σ) []=some vs) (he:zV C.T C.cA C.cB C.me (d.getD 0) (.alloc t) vs=some e) (hn:∀ i ∈ e.nw,zH σ.M i=none):OK P E C σ a w e ⟨d,.alloc t,ty,pos,af,g⟩:=by
 simp [mapO] at hvs;subst hvs;simp only [zV,vQQ,vQZ] at he;obtain ⟨hs,hz,rfl⟩:=he;obtain ⟨z,hz,hal⟩:=hT.zh t hs hz;refine new_blk h hd (hn _ (by simp [Eff.new])) (us:=z.cells.toList) (t:=t) ?_ (hal.imp fun x y _ hr=>hr.1 ρ F w) (fun u hu => ?_)
 ·simp [execOp,Instr.alloc,zKH hz,newVar,newRow]
 ·obtain ⟨i,hi⟩:=List.mem_iff_getElem?.1 hu;have hil:=(List.getElem?_eq_some_iff.1 hi).1;have hl:i < hs.length:=by rw [hal.1]; exact hil
  exact (hal.2 i _ u (vQK hl) hi).2
theorem hcells_rel {r:RV} {hs:List HV} {v:Value} (hh:r.hcells=some hs) (hr:RH ρ F w r.back v):Al (RH ρ F w) hs v.cells.toList∧∀ u ∈ v.cells.toList,u.oneCell'=true:=by
 have one:∀ {x:HV},some [x]=some hs→v.oneCell'=true→v.cells=#[v]→RH ρ F w x v→Al (RH ρ F w) hs v.cells.toList∧∀ u ∈ v.cells.toList,u.oneCell'=true:=by
  intro x h1 h2 h3 h4;cases h1;rw [h3];exact ⟨Al.cons h4 Al.nil,fun u hu=>by simp at hu; subst hu; exact h2⟩
 cases r with
 | v p =>
  cases p with
  | a cs =>
   cases hh;obtain ⟨us,rfl,hal,h1⟩:=zGJ hr;exact ⟨Al.map_left (show Al (fun z y=>RH ρ F w (PV.toH z) y) cs us from hal.imp fun _ _ _ h=>yQV h),fun u hu=>h1 u hu⟩
  | t cs=>cases hh
  | lf n f=>have hr2:=jZZ hr; generalize (List.range n).map f=rows at hr2; cases hr2 <;> exact one hh rfl rfl hr
  | zf n f j o=>obtain ⟨_,b,off,sz,g,rfl,_⟩:=jXK hr; exact one hh rfl rfl hr
  | _=>have hr2:RP F w _ v:=hr; cases hr2 <;> exact one hh rfl rfl hr
 | nl=>have:v=.slice none 0 0:=hr; subst this; exact one hh rfl rfl hr
 | o id e sz rows=>have hr2:=hr; obtain ⟨a',c,k,sz',_,rfl⟩:=hr2; exact one hh rfl rfl hr
 | p id off cells=>have hr2:=hr; obtain ⟨b,_,rfl⟩:=hr2; exact one hh rfl rfl hr
 | q id j off e sz rows=>have hr2:=hr; obtain ⟨b,c,k,sz',_,_,rfl⟩:=hr2; exact one hh rfl rfl hr
 | i id off s pos=>have hr2:=hr; obtain ⟨b,_,rfl⟩:=hr2; exact one hh rfl rfl hr
 | g fn first cap=>have hr2:=hr; obtain ⟨fs,cs,rfl,_⟩:=hr2; exact one hh rfl rfl hr
 | w x =>
  cases x with
  | un=>cases hh
  | v p=>cases hh
  | nl=>have:v=.slice none 0 0:=hr; subst this; exact one hh rfl rfl hr
  | o id=>have hr2:=hr; obtain ⟨a',c,k,sz',_,rfl⟩:=hr2; exact one hh rfl rfl hr
  | p id off=>have hr2:=hr; obtain ⟨b,_,rfl⟩:=hr2; exact one hh rfl rfl hr
  | q id j off=>have hr2:=hr; obtain ⟨b,c,k,sz',_,_,rfl⟩:=hr2; exact one hh rfl rfl hr
  | g fn first cap=>have hr2:=hr; obtain ⟨fs,cs,rfl,_⟩:=hr2; exact one hh rfl rfl hr
 | un=>cases hh
theorem ok_box {t:TypeId} {x:Operand} (h:Rel' E C.n ρ F σ a w) (hd:dstB C.n d=true) (hvs:mapO (opv 1 σ) [x]=some vs) (he:zV C.T C.cA C.cB C.me (d.getD 0) (.box t x) vs=some e) (hn:∀ i ∈ e.nw,zH σ.M i=none):OK P E C σ a w e ⟨d,.box t x,ty,pos,af,g⟩:=by
 obtain ⟨r,hr,rfl⟩:=zJJ hvs;obtain ⟨v,h1,h2,h3⟩:=yV h hr;simp only [zV,vQQ,vQZ] at he;obtain ⟨hs,hh,rfl⟩:=he;obtain ⟨q1,q2⟩:=hcells_rel hh h2;refine new_blk h hd (hn _ (by simp [Eff.new])) (us:=v.cells.toList) (t:=t) ?_ q1 q2;simp [execOp,Instr.box,qYU h h1,newVar,newRow]
theorem ok_store_blk {t:TypeId} {x y:Operand} {id off:Nat} {cells:List CV} {r:RV} {hs cs:List HV} {k:Bool × Nat} {v u:Value} (hT:TabOk P C.T) (h:Rel' E C.n ρ F σ a w) (hk:C.T.sz t=some k) (hx:ev (actS a) x=some v) (hy:ev (actS a) y=some u)
  (hv:RH ρ F w (.p id off) v) (hres:RRes σ.M (.p id off cells)) (hu:RH ρ F w r.back u) (hh:r.hcells=some hs) (hl:hs.length=k.2) (hcs:qUK (cells.map CV.back) off hs=some cs) (hd:dstB C.n d=true) :
  OK P E C σ a w (.set id (.blk cs) .un) ⟨d,.store t x y,ty,pos,af,g⟩:=by
 obtain ⟨hc,hlk,hcc⟩:=hres;obtain ⟨b,hρ,rfl⟩:=hv;obtain ⟨b2,us,ty',hρ2,hheap,hal,hone⟩:=h.mem.ent id _ hlk;rw [hρ] at hρ2;cases hρ2;obtain ⟨q1,q2⟩:=hcells_rel hh hu;obtain ⟨e1,e2⟩:=zZX hcs;have hcells:Al (RH ρ F w) (cells.map CV.back) us:=Al.map_left ((zKW hcc hal).imp fun _ _ _ h=>h.1);have hul:u.cells.toList.length=hs.length:=q1.1.symm;have hst:=run_storeCells_at P b off ty' u.cells.toList 0 us.toArray w hheap (by rw [hul]; have:=hcells.1; simp at this ⊢; simp at e2; omega) q2;obtain ⟨R,hR,hst'⟩:∃ R:List Value,R=us.take off ++ u.cells.toList ++ us.drop (off + hs.length)∧(storeCells ⟨b,off,none⟩ u.cells.toList 0).run P w=.ok () (w.setRow b R.toArray):=⟨_,rfl,by rw [← hul]; simpa using hst⟩
 have hrun:(execOp a.eval ⟨d,.store t x y,ty,pos,af,g⟩).run P w=.ok .skip (w.setRow b R.toArray):=by
  have hz:u.cells.size=k.2:=by rw [← hl,← hul]; simp
  have hTt:=qUJ (hT.sz t k.1 k.2 hk).1;simp [execOp,qYU h hx,qYU h hy,Instr.storeAt,Instr.sureAddr,storeVar,hTt,hz,hst']
 have hset:=setRow_heap w b _ R.toArray ty' _ hheap;have hoff:=h.mem.off id _ b hρ rfl;have hF:∀ k,F k→F k∧(w.setRow b R.toArray).heap[k]? = w.heap[k]?:=fun k hk=>⟨hk,(GrowB.set b w R.toArray).block k (h.mem.fz k hk).1 fun e=>by subst e; exact hoff.1 hk⟩
 have hcs2:Al (RH ρ F w) cs R:=by
  rw [e1,hR];exact ((hcells.take off).append q1).append (hcells.drop _)
 refine goes_skip hrun ⟨ρ,F,h.set (ent:=.blk cs) (x:=.un) hρ rfl (GrowB.set b w R.toArray) ⟨b,R,ty',hρ,hset,hcs2.imp fun _ _ _ h=>h.mono (fun _ _ h=>h) hF,fun z hz => ?_⟩ trivial hd⟩;rw [hR] at hz;simp only [List.mem_append] at hz;rcases hz with (hz | hz) | hz
 ·exact hone z (List.mem_of_mem_take hz)
 ·exact q2 z hz
 ·exact hone z (List.mem_of_mem_drop hz)
end
end Go.Rx
namespace Go.Rx
open Go.RowKit Go.Sx
section
variable {P:Program} {E:Env} {C:Cx} {ρ:Own} {F:Nat→Prop} {σ:St} {a:Act} {w:World} {vs:List RV} {e:Eff}
variable {d:Option Tmp} {ty:TypeId} {pos:String} {af:Array Edge} {g:Option (Nat × Bool)}
theorem rel_reg (h:Rel' E C.n ρ F σ a w) {id e' sz c:Nat} {ad:Option Addr} {rows:Rows} {vr:List (List Value)} {w':World} {dst:Option Nat} (hd:dstB C.n dst=true) (hid:zH σ.M id=none) (gr:Grow w w')
  (hb:∀ b,ad.map (·.block)=some b→w.heap.size≤b∧b < w'.heap.size) (h0:0 < sz) (hal:Al (Al (RP F w)) rows.L vr) (hrl:∀ r ∈ rows.L,r.length=sz) (hone:∀ v ∈ vr,∀ u ∈ v,u.oneCell'=true)
  (hown:w'.ownsRow 0 e' sz (.slice ad rows.len c) rows.len vr.flatten):Rel E C.n (σ.apply (.new id (.reg e' sz rows) (.o id)) dst) (a.put dst (.slice ad rows.len c)) w':=by
 have hF:∀ k,F k→F k∧w'.heap[k]? = w.heap[k]?:=fun k hk=>⟨hk,gr.block k (h.mem.fz k hk).1⟩
 exact ⟨updO ρ id (.reg ad c rows.len sz),F,h.new (ent:=.reg e' sz rows) (x:=.o id) (L:=.reg ad c rows.len sz) hid gr hb ⟨ad,c,vr,jV _ _ _,h0,hal.imp fun _ _ _ h=>h.imp fun _ _ _ h=>h.mono hF,hrl,hone,hown⟩ ⟨ad,c,rows.len,sz,jV _ _ _,rfl⟩ hd⟩
theorem zHJ {nw:Rows} {rows:List (List PV)} (hN:nw.L=rows) (h:Rel' E C.n ρ F σ a w) {id e' sz c:Nat} {ad:Option Addr} {vr:List (List Value)} {w':World} {dst:Option Nat} (hd:dstB C.n dst=true) (hid:zH σ.M id=none) (gr:Grow w w')
  (hb:∀ b,ad.map (·.block)=some b→w.heap.size≤b∧b < w'.heap.size) (h0:0 < sz) (hal:Al (Al (RP F w)) rows vr) (hrl:∀ r ∈ rows,r.length=sz) (hone:∀ v ∈ vr,∀ u ∈ v,u.oneCell'=true)
  (hown:w'.ownsRow 0 e' sz (.slice ad rows.length c) rows.length vr.flatten):Rel E C.n (σ.apply (.new id (.reg e' sz nw) (.o id)) dst) (a.put dst (.slice ad rows.length c)) w':=by
 subst hN;rw [Rows.len_L] at hown ⊢;exact rel_reg h hd hid gr hb h0 hal hrl hone hown
theorem replL_len {α:Type} (x:α):∀ k,(zQH x k).length=k
 | 0=>rfl
 | k + 1=>by rw [zQH,vQW,replL_len x k]
theorem replL_map {α:Type} (x:α) (n:Nat):(List.range n).map (fun _=>x)=zQH x n:=by
 have:∀ n,zQH x n=List.replicate n x:=fun n=>by
  induction n with
  | zero=>rfl
  | succ n ih=>rw [zQH,ih]; rfl
 rw [this,List.map_const',List.length_range]
theorem flatten_take {sz n:Nat} {vr:List (List Value)} (h:∀ r ∈ vr,r.length=sz):(vr.take n).flatten=vr.flatten.take (n * sz):=by
 induction vr generalizing n with
 | nil=>simp
 | cons r vr ih =>
  cases n with
  | zero=>simp
  | succ n =>
   have hr:=h r vZQ;simp only [vYK,List.flatten_cons,ih fun x hx=>h x (vQH _ hx)];have e1:r.take ((n + 1) * sz)=r:=List.take_of_length_le (by rw [hr,Nat.add_mul]; omega);rw [List.take_append,e1,hr,show (n + 1) * sz - sz=n * sz by rw [Nat.add_mul]; omega]
theorem ok_make {t:TypeId} {x y:Operand} (hT:TabOk P C.T) (h:Rel' E C.n ρ F σ a w) (hd:dstB C.n d=true) (hvs:mapO (opv 0 σ) [x,y]=some vs) (he:zV C.T C.cA C.cB C.me (d.getD 0) (.makeSlice t x y) vs=some e) (hn:∀ i ∈ e.nw,zH σ.M i=none):OK P E C σ a w e ⟨d,.makeSlice t x y,ty,pos,af,g⟩:=by
 obtain ⟨rx,ry,hx,hy,rfl⟩:=jXV hvs;obtain ⟨vx,x1,x2,_⟩:=yV h hx;obtain ⟨vy,y1,y2,_⟩:=yV h hy;cases rx with
 | v px =>
  cases ry with
  | v py =>
   cases px with
   | n k1 m =>
    cases py with
    | n k2 c =>
     simp only [zV,vQQ] at he;obtain ⟨⟨el,sz⟩,hsl,zs,hzs,he⟩:=he;obtain ⟨hb,he⟩:=qY he;simp only [vQZ] at he;subst he;simp only [vQJ,decide_eq_true_eq] at hb;obtain ⟨⟨hm0,hmc⟩,hc6⟩:=hb;rw [qJJ x2] at x1; rw [qJJ y2] at y1;obtain ⟨hslc,hs0,hsk,bytes,happ,hby,_⟩:=hT.sl t el sz hsl;obtain ⟨z,hz,hal⟩:=hT.zr el zs hzs;obtain ⟨ht,i,z',hi,hz',hisz,hib,hzc,hzl,_⟩:=yWU happ hz;have hzz:z'=z:=by
      unfold qKZ at hz;rw [hi] at hz;simp only [vYQ] at hz;rw [hz'] at hz; exact Option.some.inj hz
     subst hzz;have hrun:=run_make (P:=P) w t el i z' ht hi hz' k1 k2 m c hm0 hmc (by
      have hb1:(i.bytes:Int)≤100000:=by rw [hib]; omega
      have hc0:0≤c:=by omega
      calc (i.bytes:Int) * c≤100000 * c:=Int.mul_le_mul_of_nonneg_right hb1 hc0
       _≤281474976710656:=by omega) (by omega)
     have hrow:=made_rows (zs:=z'.cells.toList) (m:=c.toNat) hzl hs0;rw [Array.toArray_toList] at hrow;rw [hisz,hrow] at hrun;have hle:m.toNat≤c.toNat:=by omega
     have hrep:(List.replicate m.toNat z'.cells.toList)=(List.replicate c.toNat z'.cells.toList).take m.toNat:=by rw [List.take_replicate,Nat.min_eq_left hle]
     have hzlen:zs.length=sz:=by rw [hal.1]; exact hzl
     have hRL:(bif C.T.ff C.me then Rows.fo m.toNat (fun _=>zs) else Rows.l (zQH zs m.toNat)).L=zQH zs m.toNat:=by
      cases C.T.ff C.me
      ·rfl
      ·exact replL_map zs m.toNat
     have hrl:(bif C.T.ff C.me then Rows.fo m.toNat (fun _=>zs) else Rows.l (zQH zs m.toNat)).len=m.toNat:=by rw [← Rows.len_L,hRL,replL_len]
     generalize (bif C.T.ff C.me then Rows.fo m.toNat (fun _=>zs) else Rows.l (zQH zs m.toNat))=R0 at hRL hrl hn ⊢;refine qUW (v:=.slice (some ⟨w.heap.size,0,none⟩) m.toNat c.toNat) (w':=w.alloc (.cells (List.replicate c.toNat z'.cells.toList).flatten.toArray el)) (by simp only [execOp,qYU h x1,qYU h y1,Sem.run_bind,hrun]; rfl) ?_
     have:=rel_reg (id:=d.getD 0) (e':=el) (sz:=sz) (c:=c.toNat) (ad:=some ⟨w.heap.size,0,none⟩) (rows:=R0) (vr:=List.replicate m.toNat z'.cells.toList) h hd (hn _ (by simp [Eff.new])) ((Grow.refl w).alloc (.cells (List.replicate c.toNat z'.cells.toList).flatten.toArray el)) (fun b hb => ?_) hs0
      (by rw [hRL]; exact Al.repl (hal.imp fun _ _ _ h=>h.1 F w) _) (fun r hr => ?_) (fun v hv u hu => ?_) ⟨?_,.inr ⟨w.heap.size,c.toNat,(List.replicate c.toNat z'.cells.toList).flatten.toArray,rfl,Nat.zero_le _,?_,?_,?_,?_,?_⟩⟩
     ·rw [hrl] at this; exact this
     ·simp only [Option.map_some,vQZ] at hb;subst hb;exact ⟨Nat.le_refl _,by show w.heap.size < (w.heap.push _).size; simp⟩
     ·have:∀ k,r ∈ zQH zs k→r=zs:=fun k=>by
       induction k with
       | zero=>intro h; cases h
       | succ k ih=>intro h; rcases List.mem_cons.1 h with h | h; exact h; exact ih h
      rw [hRL] at hr;rw [this _ hr]; exact hzlen
     ·rw [List.eq_of_mem_replicate hv] at hu;obtain ⟨j,hj⟩:=List.mem_iff_getElem?.1 hu;have hjl:=(List.getElem?_eq_some_iff.1 hj).1;have hl:j < zs.length:=by rw [hal.1]; exact hjl
      exact (hal.2 j _ u (vQK hl) hj).2
     ·rw [hrl,qZV (sz:=sz) _ (fun r hr=>by rw [List.eq_of_mem_replicate hr]; exact hzl)]; simp
     ·show (w.heap.push _)[w.heap.size]? = _; simp
     ·rw [hrl]; exact hle
     ·show c.toNat≤9223372036854775807; omega
     ·rw [List.size_toArray,qZV (sz:=sz) _ (fun r hr=>by rw [List.eq_of_mem_replicate hr]; exact hzl)]; simp
     ·rw [hrl,hrep,flatten_take (sz:=sz) (fun r hr=>by rw [List.eq_of_mem_replicate hr]; exact hzl)]
    | _=>simp only [zV] at he; cases he
   | _=>simp only [zV] at he; cases he
  | _=>cases px <;> (simp only [zV] at he; cases he)
 | _=>simp only [zV] at he; cases he
end
end Go.Rx

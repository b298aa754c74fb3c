/- Part 5 of the texts behind the last one: rules and contracts. No condition. -/
import Derived.Test.YtmeldddgjfocdaaGreatGL4
open Option renaming bind_eq_some_iff → vQQ, map_eq_some_iff → vZW, bind_some → vYQ
open Option.some renaming injEq → vQZ
open Bool renaming and_eq_true → vQJ
open List renaming getElem?_eq_getElem → vQK, length_cons → vQW, mem_of_getElem? → vQG, mem_cons_of_mem → vQH, mem_cons_self → vZQ, getElem?_map → vZY, getElem?_take → vZV, take_succ_cons → vYK
open Nat renaming eq_of_beq_eq_true → vQX, lt_of_lt_of_le → vZK, le_of_ble_eq_true → vZX
open Array renaming all_eq_true_iff_forall_mem → vYY
namespace Go.Rx
open Go.RowKit Go.Sx
section
variable {P:Program} {E:Env} {C:Cx} {ρ:Own} {F:Nat→Prop} {σ:St} {a:Act} {w:World} {vs:List RV} {e:Eff}
variable {d:Option Tmp} {ty:TypeId} {pos:String} {af:Array Edge} {g:Option (Nat × Bool)}
theorem rp_l {rows:List (List PV)} {v:Value} (h:RP F w (.l rows) v):∃ ad c,v=.slice ad rows.length c∧rows.length≤c:=by
 cases h with
 | l0 ad c=>exact ⟨ad,c,rfl,Nat.zero_le _⟩
 | l _ b off n c sz g hn hcap hs hF hc hh=>subst hn; exact ⟨_,c,rfl,hcap⟩
theorem yYJ (h:Rel' E C.n ρ F σ a w) {r:RV} {v:Value} {rows:List (List PV)} (hr:(r=.v (.l rows)) ∨ (r=.nl∧rows=[]) ∨ ∃ id e sz rr,r=.o id e sz rr∧rr.L=rows) (hv:RH ρ F w r.back v) (hs:RRes σ.M r):∃ ad c,v=.slice ad rows.length c:=by
 rcases hr with rfl | ⟨rfl,rfl⟩ | ⟨id,e,sz,rr,rfl,rfl⟩
 ·obtain ⟨ad,c,h,_⟩:=rp_l hv; exact ⟨ad,c,h⟩
 ·exact ⟨none,0,hv⟩
 ·obtain ⟨ad,c,k,sz',hρ,rfl⟩:=hv;obtain ⟨a2,c2,vr,hρ2,_⟩:=h.mem.ent id _ hs;rw [hρ] at hρ2;simp only [vQZ,Loc.reg.injEq] at hρ2;obtain ⟨rfl,rfl,rfl,rfl⟩:=hρ2;exact ⟨ad,c,by rw [Rows.len_L]⟩
theorem jWV {S:yV} {H:Heap} {w0:Base} {x:Operand} {ats:Array TypeId} {t e' k n c:Nat} {ad:Option Addr} (ha:ats[0]? = some t) (hs:slcB P t e' k=true) (hx:ev S x=some (.slice ad n c)) :
  OpV P w0 S H ⟨d,.call ⟨.builtin .len,#[x],ats⟩,ty,pos,af,g⟩ (.int .i64 (n:Int)) :=
 kY (by simp [yH,Op.operands,Call.operands,hx]) rfl fun w _=>by
  unfold slcB at hs;cases hu:P.underlying t with
  | none=>simp [hu] at hs
  | some ds =>
   cases ds <;> simp [hu] at hs
   have ha':ats.getD 0 0=t:=by simp [Array.getD_eq_getD_getElem?,ha]
   simp [execOp,resolve,invoke,builtin,yY hx,Builtin.len_,ha,run_underlying hu,goInt]
theorem arr1 {args:Array Operand} {m:Nat} {r:RV} (h:mapO (opv m σ) (#[] ++ args).toList=some [r]):∃ x,args=#[x]∧opv m σ x=some r:=by
 have h1:=kJ h;rw [show ((#[]:Array Operand) ++ args).toList=args.toList by simp] at h1
 match hl:args.toList with
 | []=>rw [hl] at h1; have:=h1.1; simp at this
 | [x]=>rw [hl] at h1; exact ⟨x,by rw [← Array.toArray_toList (xs:=args),hl],h1.2 0 x r rfl rfl⟩
 | x :: y :: l=>rw [hl] at h1; have:=h1.1; simp at this
theorem arr2 {args:Array Operand} {m:Nat} {r r':RV} (h:mapO (opv m σ) (#[] ++ args).toList=some [r,r']):∃ x x',args=#[x,x']∧opv m σ x=some r∧opv m σ x'=some r':=by
 have h1:=kJ h;rw [show ((#[]:Array Operand) ++ args).toList=args.toList by simp] at h1
 match hl:args.toList with
 | []=>rw [hl] at h1; have:=h1.1; simp at this
 | [x]=>rw [hl] at h1; have:=h1.1; simp at this
 | [x,y]=>rw [hl] at h1; exact ⟨x,y,by rw [← Array.toArray_toList (xs:=args),hl],h1.2 0 x r rfl rfl,h1.2 1 y r' rfl rfl⟩
 | x :: y :: z :: l=>rw [hl] at h1; have:=h1.1; simp at this
theorem kUH {S:yV} {H:Heap} {w0:Base} {x:Operand} {ats:Array TypeId} {t:Nat} {s:ByteArray} (ha:ats[0]? = some t) (hs:P.underlying t=some .string) (hx:ev S x=some (.string s)) :
  OpV P w0 S H ⟨d,.call ⟨.builtin .len,#[x],ats⟩,ty,pos,af,g⟩ (.int .i64 (s.size:Int)) :=
 kY (by simp [yH,Op.operands,Call.operands,hx]) rfl fun w _=>by
  simp [execOp,resolve,invoke,builtin,yY hx,Builtin.len_,ha,run_underlying hs,goInt]
theorem xXI {args:Array Operand} {ats:Array TypeId} (hT:TabOk P C.T) (h:Rel' E C.n ρ F σ a w) (hd:dstB C.n d=true) (hvs:mapO (opv 0 σ) (#[] ++ args).toList=some vs) (he:zH C.T C.cA C.cB C.me (d.getD 0) (.call ⟨.builtin .len,args,ats⟩) vs=some e):OK P E C σ a w e ⟨d,.call ⟨.builtin .len,args,ats⟩,ty,pos,af,g⟩:=by
 match vs with
 | []=>simp only [zH] at he; cases he
 | _ :: _ :: _=>simp only [zH] at he; cases he
 | [r] =>
  obtain ⟨x,rfl,hx⟩:=arr1 hvs;obtain ⟨v,h1,h2,h3⟩:=jW h hx;have main:∀ (rows:List (List PV)),((r=.v (.l rows)) ∨ (r=.nl∧rows=[]) ∨ ∃ id e sz rr,r=.o id e sz rr∧rr.L=rows)→∀ t,ats[0]? = some t→(C.T.sl t).isSome=true→OK P E C σ a w (.val (.v (.n .i64 (rows.length:Int)))) ⟨d,.call ⟨.builtin .len,#[x],ats⟩,ty,pos,af,g⟩:=by
   intro rows hr t ht hs;obtain ⟨⟨e',k⟩,hs⟩:=Option.isSome_iff_exists.1 hs;obtain ⟨ad,c,rfl⟩:=yYJ h hr h2 h3;exact jU h (jWV ht (hT.sl t e' k hs).1 h1) (.n _ _) hd
  cases r with
  | v p =>
   cases p with
   | s s =>
    simp only [zH] at he;split at he
    ·rename_i t ht;obtain ⟨hb,he⟩:=qQ he;cases he;rw [qGU h2] at h1;exact jU h (kUH ht (hT.str t hb) h1) (.n _ _) hd
    ·cases he
   | l rows =>
    simp only [zH] at he;split at he
    ·rename_i t ht;simp only [vQQ,vQZ] at he;obtain ⟨y,hy,rfl⟩:=he;exact main rows (.inl rfl) t ht (by rw [hy]; rfl)
    ·cases he
   | lf n f =>
    simp only [zH] at he;split at he
    ·rename_i t ht;simp only [vQQ,vQZ] at he;obtain ⟨⟨e',k⟩,hy,rfl⟩:=he;obtain ⟨ad,c,rfl⟩:=yYJ (rows:=(List.range n).map f) h (.inl rfl) (yYH h2) trivial;rw [List.length_map,List.length_range] at h1;exact jU h (jWV ht (hT.sl t e' k hy).1 h1) (.n _ _) hd
    ·cases he
   | _=>simp only [zH] at he; cases he
  | nl =>
   simp only [zH] at he;split at he
   ·rename_i t ht;simp only [vQQ,vQZ] at he;obtain ⟨y,hy,rfl⟩:=he;exact main [] (.inr (.inl ⟨rfl,rfl⟩)) t ht (by rw [hy]; rfl)
   ·cases he
  | o id e' sz rows =>
   simp only [zH] at he;split at he
   ·rename_i t ht;simp only [vQQ,vQZ] at he;obtain ⟨y,hy,rfl⟩:=he
    have:=main rows.L (.inr (.inr ⟨_,_,_,_,rfl,rfl⟩)) t ht (by rw [hy]; rfl)
    rw [Rows.len_L] at this;exact this
   ·cases he
  | _=>simp only [zH] at he; cases he
theorem xXD {args:Array Operand} {ats:Array TypeId} (h:Rel' E C.n ρ F σ a w) (hd:dstB C.n d=true) (hvs:mapO (opv 0 σ) (#[] ++ args).toList=some vs) (he:zH C.T C.cA C.cB C.me (d.getD 0) (.call ⟨.builtin .min,args,ats⟩) vs=some e):OK P E C σ a w e ⟨d,.call ⟨.builtin .min,args,ats⟩,ty,pos,af,g⟩:=by
 match vs with
 | []=>simp only [zH] at he; cases he
 | [_]=>simp only [zH] at he; cases he
 | _ :: _ :: _ :: _=>simp only [zH] at he; cases he
 | [r,r'] =>
  obtain ⟨p,q,rfl,hp,hq⟩:=arr2 hvs;obtain ⟨vx,x1,x2,_⟩:=jW h hp;obtain ⟨vy,y1,y2,_⟩:=jW h hq;cases r with
  | v r =>
   cases r' with
   | v r' =>
    cases r with
    | n k x =>
     cases r' with
     | n k' y =>
      simp only [zH] at he;obtain ⟨hb,he⟩:=qQ he;cases he
      have:=vJZ hb
      subst this;rw [qYA x2] at x1; rw [qYA y2] at y1;exact jU h (qXL x1 y1) (.n _ _) hd
     | _=>simp only [zH] at he; cases he
    | _=>simp only [zH] at he; cases he
   | _=>cases r <;> (simp only [zH] at he; cases he)
  | _=>simp only [zH] at he; cases he
theorem xXE {args:Array Operand} {ats:Array TypeId} (h:Rel' E C.n ρ F σ a w) (hd:dstB C.n d=true) (hvs:mapO (opv 0 σ) (#[] ++ args).toList=some vs) (he:zH C.T C.cA C.cB C.me (d.getD 0) (.call ⟨.builtin .max,args,ats⟩) vs=some e):OK P E C σ a w e ⟨d,.call ⟨.builtin .max,args,ats⟩,ty,pos,af,g⟩:=by
 match vs with
 | []=>simp only [zH] at he; cases he
 | [_]=>simp only [zH] at he; cases he
 | _ :: _ :: _ :: _=>simp only [zH] at he; cases he
 | [r,r'] =>
  obtain ⟨p,q,rfl,hp,hq⟩:=arr2 hvs;obtain ⟨vx,x1,x2,_⟩:=jW h hp;obtain ⟨vy,y1,y2,_⟩:=jW h hq;cases r with
  | v r =>
   cases r' with
   | v r' =>
    cases r with
    | n k x =>
     cases r' with
     | n k' y =>
      simp only [zH] at he;obtain ⟨hb,he⟩:=qQ he;cases he
      have:=vJZ hb
      subst this;rw [qYA x2] at x1; rw [qYA y2] at y1;exact jU h (qWQ x1 y1) (.n _ _) hd
     | _=>simp only [zH] at he; cases he
    | _=>simp only [zH] at he; cases he
   | _=>cases r <;> (simp only [zH] at he; cases he)
  | _=>simp only [zH] at he; cases he
theorem jXX {rows:List (List PV)} {ad:Option Addr} {n c l h k:Nat} (hr:RP F w (.l rows) (.slice ad n c)) (hk:zWE rows l k=true) (_:l≤h) (hh:h≤rows.length):RP F w (.l ((rows.take h).drop l)) (sliced ad l h c k):=by
 have hlen:((rows.take h).drop l).length=h - l:=by simp; omega
 by_cases h0:h - l=0
 ·have:(rows.take h).drop l=[]:=List.eq_nil_of_length_eq_zero (by omega)
  rw [this];unfold sliced;rw [h0];exact .l0 _ _
 ·cases hr with
  | l0=>simp at hh; omega
  | l _ b off n c sz g hn hcap hs hF hc hh' =>
   subst hn;have hll:l < rows.length:=by omega
   have hsz:sz=k:=by
    unfold zWE at hk;rw [vQK hll] at hk;simp only [Option.all_some] at hk;rw [← hs _ (List.getElem_mem hll)]; exact vQX hk
   subst hsz;have hml:¬ c=l:=by omega
   unfold sliced;rw [if_neg hml];simp only [Option.map_some,qUZ];refine .l _ b (off + l * sz) (h - l) (c - l) sz (fun j t=>g (l + j) t) hlen.symm (by omega) (fun r hr=>hs r (List.mem_of_mem_take (List.mem_of_mem_drop hr))) hF (fun j t hj ht => ?_) (fun j r t p hj ht => ?_)
   ·have:=hc (l + j) t (by omega) ht
    rw [show off + l * sz + (j * sz + t)=off + ((l + j) * sz + t) by rw [Nat.add_mul]; omega];exact this
   ·rw [List.getElem?_drop,vZV] at hj;split at hj
    ·exact hh' (l + j) r t p hj ht
    ·cases hj
theorem yQD {i j:Option Int} {n:Nat} (h:inS i j n=true):(∀ x,i=some x→0≤x)∧(∀ x,j=some x→0≤x)∧loOf i≤hiOf j n∧hiOf j n≤n:=by
 unfold inS at h;simp only [vQJ,decide_eq_true_eq] at h;obtain ⟨⟨⟨h1,h2⟩,h3⟩,h4⟩:=h;exact ⟨fun x e=>by subst e; simpa using h1,fun x e=>by subst e; simpa using h2,h3,h4⟩
def BV (i:Option Int) (v:Option Value):Prop:=(i=none∧v=none) ∨ ∃ k x,i=some x∧v=some (.int k x)
theorem zVK {w:World} {isS:Bool} {n c:Nat} {i j:Option Int} {vi vj:Option Value} (hi:BV i vi) (hj:BV j vj) (_:n≤c) (h:inS i j n=true) :
  (Instr.sliceBounds isS n c vi vj none).run P w=.ok (loOf i,hiOf j n,c) w:=by
 obtain ⟨h1,h2,h3,h4⟩:=yQD h;rcases hi with ⟨rfl,rfl⟩ | ⟨k,x,rfl,rfl⟩ <;> rcases hj with ⟨rfl,rfl⟩ | ⟨k',y,rfl,rfl⟩
 ·simp [Instr.sliceBounds,loOf,hiOf]
 ·have:=h2 y rfl
  simp only [loOf,hiOf] at h3 h4;have hy:y≤(c:Int):=by omega
  simp [Instr.sliceBounds,loOf,hiOf,run_sliceBound,this,hy]
 ·have:=h1 x rfl
  simp only [loOf,hiOf] at h3 h4;have hx:x≤(n:Int):=by omega
  simp [Instr.sliceBounds,loOf,hiOf,run_sliceBound,this,hx]
 ·have hx0:=h1 x rfl;have hy0:=h2 y rfl;simp only [loOf,hiOf] at h3 h4;have hy:y≤(c:Int):=by omega
  have hx:x≤(y.toNat:Int):=by omega
  have e1:=run_sliceBound (P:=P) w k' y c (if isS then .sliceAcap else .sliceAlen) hy0 hy;have e2:=run_sliceBound (P:=P) w k x y.toNat .sliceB hx0 hx;simp [Instr.sliceBounds,loOf,hiOf,e1,e2]
theorem qHE {S:yV} {H:Heap} {w0:Base} {t:TypeId} {x:Operand} {lo hi:Option Operand} {vx:Value} {vlo vhi:Option Value} {v:Value} (hx:ev S x=some vx) (hlo:∀ o,lo=some o→∃ u,ev S o=some u∧vlo=some u) (hlo':lo=none→vlo=none)
  (hhi:∀ o,hi=some o→∃ u,ev S o=some u∧vhi=some u) (hhi':hi=none→vhi=none) (hr:∀ w,(Instr.sliceAt t vx vlo vhi none).run P w=.ok v w):OpV P w0 S H ⟨d,.slice t x lo hi none,ty,pos,af,g⟩ v:=by
 have e1:lo.map (evD S)=vlo:=by
  cases lo with
  | none=>rw [hlo' rfl]; rfl
  | some o=>obtain ⟨u,h1,h2⟩:=hlo o rfl; rw [h2,Option.map_some,yY h1]
 have e2:hi.map (evD S)=vhi:=by
  cases hi with
  | none=>rw [hhi' rfl]; rfl
  | some o=>obtain ⟨u,h1,h2⟩:=hhi o rfl; rw [h2,Option.map_some,yY h1]
 refine kY ?_ rfl fun w _ => ?_
 ·simp only [yH,Op.operands];rw [vYY];intro y hy;simp only [Array.mem_append,List.mem_toArray,Option.mem_toArray,List.mem_singleton,Option.not_mem_none,or_false] at hy;rcases hy with ((rfl | hy) | hy) | hy
  ·simp [hx]
  ·obtain ⟨u,h1,_⟩:=hlo y hy; simp [h1]
  ·obtain ⟨u,h1,_⟩:=hhi y hy; simp [h1]
  ·cases hy
 ·simp only [execOp,e1,e2,yY hx];simp [hr w]
theorem uGB {t e' k:Nat} (h:slcB P t e' k=true):P.underlying t=some (.slice (P.elem t))∧P.elem t=e'∧∀ w,(sizeOf e').run P w=.ok k w:=by
 unfold slcB at h;cases hu:P.underlying t with
 | none=>simp [hu] at h
 | some ds =>
  cases ds <;> simp [hu] at h
  rename_i el;obtain ⟨rfl,h2⟩:=h;cases hi:P.info? el with
  | none=>simp [hi] at h2
  | some i =>
   simp [hi] at h2;have he:P.elem t=el:=by simp [Program.elem,hu]
   exact ⟨by rw [he],he,fun w=>by simp [sizeOf,typeInfo,hi,h2]⟩
theorem yXW {w:World} {t e' k n c:Nat} {ad:Option Addr} {i j:Option Int} {vi vj:Option Value} (hs:slcB P t e' k=true) (hi:BV i vi) (hj:BV j vj) (hn:n≤c) (h:inS i j n=true) :
  (Instr.sliceAt t (.slice ad n c) vi vj none).run P w=.ok (sliced ad (loOf i) (hiOf j n) c k) w:=by
 obtain ⟨h1,h2,h3⟩:=uGB hs;rw [run_sliceAt_slice w t _ _ _ _ h1,run_slice_any w t ad n c h1,zVK hi hj hn h];simp only [Result.andThen_ok,h2,h3]
theorem jUE {x:Operand} {lo hi:Option Operand} (h:Rel' E C.n ρ F σ a w) (hvs:mapO (opv 0 σ) (#[x] ++ lo.toArray ++ hi.toArray ++ (none:Option Operand).toArray).toList=some vs):∃ rx vs' vx,vs=rx :: vs'∧ev (actS a) x=some vx∧RH ρ F w rx.back vx∧RRes σ.M rx ∧
  ∀ b,zGH lo hi vs'=some b→∃ vlo vhi,BV b.1 vlo∧BV b.2 vhi∧(∀ o,lo=some o→∃ u,ev (actS a) o=some u∧vlo=some u)∧(lo=none→vlo=none)∧(∀ o,hi=some o→∃ u,ev (actS a) o=some u∧vhi=some u)∧(hi=none→vhi=none):=by
 have hl:(#[x] ++ lo.toArray ++ hi.toArray ++ (none:Option Operand).toArray).toList=x :: (lo.toList ++ hi.toList):=by cases lo <;> cases hi <;> rfl
 rw [hl] at hvs;simp only [mapO,vQQ,vQZ] at hvs;obtain ⟨rx,hx,vs',hvs',rfl⟩:=hvs;obtain ⟨vx,x1,x2,x3⟩:=jW h hx;refine ⟨rx,vs',vx,rfl,x1,x2,x3,fun b hb => ?_⟩;have no:∀ {b':Option Value} (o:Operand),(none:Option Operand)=some o→∃ u,ev (actS a) o=some u∧b'=some u:=fun o ho=>by cases ho
 have yes:∀ {o':Operand} {v:Value},ev (actS a) o'=some v→∀ o,some o'=some o→∃ u,ev (actS a) o=some u∧some v=some u:=fun hv o ho=>by cases ho; exact ⟨_,hv,rfl⟩
 cases lo with
 | none =>
  cases hi with
  | none=>simp [zGH] at hb
  | some oj =>
   simp only [Option.toList_none,Option.toList_some,List.nil_append] at hvs';obtain ⟨r,hr,rfl⟩:=qGY hvs';obtain ⟨v,h1,h2,_⟩:=jW h hr;cases r with
   | v p =>
    cases p with
    | n k j=>cases hb; exact ⟨none,some v,.inl ⟨rfl,rfl⟩,.inr ⟨k,j,rfl,by rw [qYA h2]⟩,no,(fun _=>rfl),yes h1,(fun ho=>by cases ho)⟩
    | _=>cases hb
   | _=>cases hb
 | some oi =>
  cases hi with
  | none =>
   simp only [Option.toList_none,Option.toList_some,List.append_nil] at hvs';obtain ⟨r,hr,rfl⟩:=qGY hvs';obtain ⟨v,h1,h2,_⟩:=jW h hr;cases r with
   | v p =>
    cases p with
    | n k j=>cases hb; exact ⟨some v,none,.inr ⟨k,j,rfl,by rw [qYA h2]⟩,.inl ⟨rfl,rfl⟩,yes h1,(fun ho=>by cases ho),no,(fun _=>rfl)⟩
    | _=>cases hb
   | _=>cases hb
  | some oj =>
   simp only [Option.toList_some,List.singleton_append] at hvs';obtain ⟨r,r',hr,hr',rfl⟩:=jKQ hvs';obtain ⟨v,h1,h2,_⟩:=jW h hr;obtain ⟨v',h1',h2',_⟩:=jW h hr';cases r with
   | v p =>
    cases r' with
    | v p' =>
     cases p with
     | n k j =>
      cases p' with
      | n k' j'=>cases hb; exact ⟨some v,some v',.inr ⟨k,j,rfl,by rw [qYA h2]⟩,.inr ⟨k',j',rfl,by rw [qYA h2']⟩,yes h1,(fun ho=>by cases ho),yes h1',(fun ho=>by cases ho)⟩
      | _=>cases hb
     | _=>cases hb
    | _=>cases p <;> cases hb
   | _=>cases hb
end
end Go.Rx
namespace Go.Rx
open Go.RowKit Go.Sx
def updO (ρ:Own) (id:Nat) (L:Loc):Own:=fun k=>if k=id then some L else ρ k
theorem kX (ρ:Own) (id:Nat) (L:Loc):updO ρ id L id=some L:=by simp [updO]
theorem qKH {ρ:Own} {id k:Nat} {L:Loc} (h:k ≠ id):updO ρ id L k=ρ k:=by simp [updO,h]
theorem qXU {id k:Nat} {e:Option Ent}:uQ [(id,e)] k=if id=k then some e else none:=by
 simp only [uQ];by_cases h:id=k
 ·subst h; simp
 ·simp [qYI h,h]
section
variable {P:Program} {E:Env} {n:Nat} {ρ:Own} {F:Nat→Prop} {σ:St} {a:Act} {w:World}
theorem Rel'.new (h:Rel' E n ρ F σ a w) {id:Nat} (hid:yK σ.M id=none) {ent:Ent} {L:Loc} {w':World} (g:Grow w w') (hb:∀ b,L.bl=some b→w.heap.size≤b∧b < w'.heap.size) (hent:EntOk (updO ρ id L) F w' id ent)
  {x:HV} {v:Value} (hx:RH (updO ρ id L) F w' x v) {dst:Option Nat} (hd:dstB n dst=true):Rel' E n (updO ρ id L) F (σ.apply (.new id ent x) dst) (a.put dst v) w':=by
 have hnone:ρ id=none:=by
  cases hc:ρ id with
  | none=>rfl
  | some L'=>obtain ⟨e,he⟩:=h.mem.dom id L' hc; rw [hid] at he; cases he
 have old:∀ k L',ρ k=some L'→updO ρ id L k=some L':=fun k L' hk=>by
  rw [qKH (fun e=>by subst e; rw [hnone] at hk; cases hk)]; exact hk
 have inv:∀ k L',updO ρ id L k=some L'→(k=id∧L'=L) ∨ (k ≠ id∧ρ k=some L'):=fun k L' hk=>by
  by_cases e:k=id
  ·subst e; rw [kX] at hk; cases hk; exact .inl ⟨rfl,rfl⟩
  ·rw [qKH e] at hk; exact .inr ⟨e,hk⟩
 have blk:∀ k L' b,ρ k=some L'→L'.bl=some b→b < w.heap.size:=fun k L' b hk hb'=>(h.mem.off k L' b hk hb').2.1
 refine h.apply (.new id ent x) dst v (fun d e=>by subst e; simpa [dstB] using hd) ⟨fun k b hk=>old k _ hk,fun k L' hk _=>old k L' hk,fun k rows a' c' kk sz _ hs=>by simp [Eff.new,uJ] at hs,fun k hk=>⟨hk,g.block k (h.mem.fz k hk).1⟩⟩ hx
  (fun k L' b _ hk hb'=>g.block b (blk k L' b hk hb')) (fun _ _=>rfl) (fun k hu => ?_) (fun k y hu => ?_) (fun k k' L1 L2 b h1 h2 hb1 hb2 => ?_) (fun k L' b hk hb' => ?_) (fun k hk=>⟨vZK (h.mem.fz k hk).1 g.size,(h.mem.fz k hk).2⟩) (qVE h.mem.grow g)
 ·simp only [Eff.new,qXU] at hu;split at hu
  ·cases hu
  ·rename_i hne; exact qKH (Ne.symm hne)
 ·simp only [Eff.new,qXU] at hu;split at hu
  ·rename_i he; cases hu; subst he; exact hent
  ·cases hu
 ·rcases inv k L1 h1 with ⟨e1,e2⟩ | ⟨n1,h1'⟩ <;> rcases inv k' L2 h2 with ⟨e3,e4⟩ | ⟨n2,h2'⟩
  ·rw [e1,e3]
  ·rw [e2] at hb1; have:=(hb b hb1).1; have:=blk k' L2 b h2' hb2; omega
  ·rw [e4] at hb2; have:=(hb b hb2).1; have:=blk k L1 b h1' hb1; omega
  ·exact h.mem.apart k k' L1 L2 b h1' h2' hb1 hb2
 ·rcases inv k L' hk with ⟨rfl,rfl⟩ | ⟨_,hk⟩
  ·have:=hb b hb'
   exact ⟨fun hf=>by have:=(h.mem.fz b hf).1; omega,this.2,.inl (Nat.le_trans h.mem.grow.size this.1)⟩
  ·have:=h.mem.off k L' b hk hb'
   exact ⟨this.1,vZK this.2.1 g.size,this.2.2⟩
theorem Rel'.set (h:Rel' E n ρ F σ a w) {id b:Nat} {L:Loc} (hρ:ρ id=some L) (hb:L.bl=some b) {ent:Ent} {w':World} (g:GrowB (· = b) w w') (hent:EntOk ρ F w' id ent) {x:HV} {v:Value} (hx:RH ρ F w' x v) {dst:Option Nat} (hd:dstB n dst=true) :
  Rel' E n ρ F (σ.apply (.set id ent x) dst) (a.put dst v) w':=by
 have hoff:=h.mem.off id L b hρ hb;have fzb:∀ k,F k→w'.heap[k]? = w.heap[k]?:=fun k hk=>g.block k (h.mem.fz k hk).1 fun e=>by subst e; exact hoff.1 hk
 refine h.apply (.set id ent x) dst v (fun d e=>by subst e; simpa [dstB] using hd) ⟨fun k b hk=>hk,fun k L' hk _=>hk,fun k rows a' c' kk sz _ hs=>by simp [Eff.set,uJ] at hs,fun k hk=>⟨hk,fzb k hk⟩⟩ hx
  (fun k L' b' hu hk hb' => ?_) (fun _ _=>rfl) (fun k hu=>rfl) (fun k y hu => ?_) h.mem.apart (fun k L' b' hk hb' => ?_) (fun k hk=>⟨vZK (h.mem.fz k hk).1 g.size,(h.mem.fz k hk).2⟩) ?_
 ·refine g.block b' (h.mem.off k L' b' hk hb').2.1 fun e => ?_
  subst e
  have:=h.mem.apart k id L' L b' hk hρ hb' hb
  subst this;simp [Eff.set,qXU] at hu
 ·simp only [Eff.set,qXU] at hu;split at hu
  ·rename_i he; cases hu; subst he; exact hent
  ·cases hu
 ·have:=h.mem.off k L' b' hk hb'
  exact ⟨this.1,vZK this.2.1 g.size,this.2.2⟩
 ·refine ⟨g.os.trans h.mem.grow.os,g.tape.trans h.mem.grow.tape,g.output.trans h.mem.grow.output,Nat.le_trans h.mem.grow.size g.size,fun k hk hW => ?_⟩;rw [g.block k (vZK hk h.mem.grow.size) fun e => ?_]
  ·exact h.mem.grow.block k hk hW
  ·subst e;rcases hoff.2.2 with h1 | h1
   ·omega
   ·exact hW h1
theorem Rel'.app (h:Rel' E n ρ F σ a w) {id:Nat} {L L':Loc} (hρ:ρ id=some L) (hreg:∃ a c k s,L=.reg a c k s) {ent:Ent} {w':World} (g:GrowB (fun k=>L.bl=some k) w w') (hb:∀ b,L'.bl=some b→L.bl=some b ∨ (w.heap.size≤b∧b < w'.heap.size))
  (hent:EntOk (updO ρ id L') F w' id ent) {x:HV} {v:Value} (hx:RH (updO ρ id L') F w' x v) {dst:Option Nat} (hd:dstB n dst=true):Rel' E n (updO ρ id L') F (σ.apply (.app id ent x) dst) (a.put dst v) w':=by
 have hoff:=fun b hb=>h.mem.off id L b hρ hb
 have fzb:∀ k,F k→w'.heap[k]? = w.heap[k]?:=fun k hk=>g.block k (h.mem.fz k hk).1 fun e=>(hoff k e).1 hk
 have sub1:∀ k,uJ [(id,(none:Option Rows))] k=if id=k then some none else none:=fun k=>by
  simp only [uJ];by_cases e:id=k
  ·subst e; simp
  ·simp [qYI e,e]
 have old:∀ k L1,ρ k=some L1→k ≠ id→updO ρ id L' k=some L1:=fun k L1 hk hne=>by rw [qKH hne]; exact hk
 have inv:∀ k L1,updO ρ id L' k=some L1→(k=id∧L1=L') ∨ (k ≠ id∧ρ k=some L1):=fun k L1 hk=>by
  by_cases e:k=id
  ·subst e; rw [kX] at hk; cases hk; exact .inl ⟨rfl,rfl⟩
  ·rw [qKH e] at hk; exact .inr ⟨e,hk⟩
 obtain ⟨ra,rc,rk,rs,rfl⟩:=hreg;have blkne:∀ k b,ρ k=some (.blk b)→k ≠ id:=fun k b hk e=>by subst e; rw [hρ] at hk; cases hk
 have offs:∀ k L1 b,ρ k=some L1→L1.bl=some b→k ≠ id→Loc.bl (.reg ra rc rk rs) ≠ some b:=fun k L1 b hk hb1 hne he=>hne (h.mem.apart k id L1 _ b hk hρ hb1 he)
 refine h.apply (.app id ent x) dst v (fun d e=>by subst e; simpa [dstB] using hd)
  ⟨fun k b hk=>old k _ hk (blkne k b hk),fun k L1 hk hs=>old k L1 hk fun e=>by subst e; simp [Eff.app,sub1] at hs,fun k rows a' c' kk sz _ hs=>(by simp only [Eff.app,sub1] at hs; split at hs <;> cases hs),fun k hk=>⟨hk,fzb k hk⟩⟩ hx
  (fun k L1 b' hu hk hb' => ?_) (fun k hu => ?_) (fun k hu => ?_) (fun k y hu => ?_) (fun k k' L1 L2 b h1 h2 hb1 hb2 => ?_) (fun k L1 b' hk hb' => ?_) (fun k hk=>⟨vZK (h.mem.fz k hk).1 g.size,(h.mem.fz k hk).2⟩) ?_
 ·simp only [Eff.app,qXU] at hu;split at hu
  ·cases hu
  ·rename_i hne;exact g.block b' (h.mem.off k L1 b' hk hb').2.1 (offs k L1 b' hk hb' (Ne.symm hne))
 ·simp only [Eff.app,qXU] at hu;split at hu
  ·cases hu
  ·rename_i hne; simp only [Eff.app,sub1,if_neg hne]
 ·simp only [Eff.app,qXU] at hu;split at hu
  ·cases hu
  ·rename_i hne; exact qKH (Ne.symm hne)
 ·simp only [Eff.app,qXU] at hu;split at hu
  ·rename_i he; cases hu; subst he; exact hent
  ·cases hu
 ·have cross:∀ k L1 b,k ≠ id→ρ k=some L1→L1.bl=some b→L'.bl=some b→False:=fun k L1 b hne hk hb1 hb2=>by
   rcases hb b hb2 with h3 | h3
   ·exact offs k L1 b hk hb1 hne h3
   ·have:=(h.mem.off k L1 b hk hb1).2.1; omega
  rcases inv k L1 h1 with ⟨e1,e2⟩ | ⟨n1,h1'⟩ <;> rcases inv k' L2 h2 with ⟨e3,e4⟩ | ⟨n2,h2'⟩
  ·rw [e1,e3]
  ·rw [e2] at hb1; exact (cross k' L2 b n2 h2' hb2 hb1).elim
  ·rw [e4] at hb2; exact (cross k L1 b n1 h1' hb1 hb2).elim
  ·exact h.mem.apart k k' L1 L2 b h1' h2' hb1 hb2
 ·rcases inv k L1 hk with ⟨rfl,rfl⟩ | ⟨_,hk⟩
  ·rcases hb b' hb' with h3 | h3
   ·have:=hoff b' h3; exact ⟨this.1,vZK this.2.1 g.size,this.2.2⟩
   ·exact ⟨fun hf=>by have:=(h.mem.fz b' hf).1; omega,h3.2,.inl (Nat.le_trans h.mem.grow.size h3.1)⟩
  ·have:=h.mem.off k L1 b' hk hb'
   exact ⟨this.1,vZK this.2.1 g.size,this.2.2⟩
 ·refine ⟨g.os.trans h.mem.grow.os,g.tape.trans h.mem.grow.tape,g.output.trans h.mem.grow.output,Nat.le_trans h.mem.grow.size g.size,fun k hk hW => ?_⟩;rw [g.block k (vZK hk h.mem.grow.size) fun e => ?_]
  ·exact h.mem.grow.block k hk hW
  ·rcases (hoff k e).2.2 with h1 | h1
   ·omega
   ·exact hW h1
end
section
variable {P:Program} {E:Env} {C:Cx} {ρ:Own} {F:Nat→Prop} {σ:St} {a:Act} {w:World} {vs:List RV} {e:Eff}
variable {d:Option Tmp} {ty:TypeId} {pos:String} {af:Array Edge} {g:Option (Nat × Bool)}
theorem qYE {o:Oper} {v:Value} {w':World} {T:Value→World→Prop} (h:(execOp a.eval o).run P w=.ok (.value v) w') (hT:T v w'):Goes P o a w T:=by unfold Goes; rw [h]; exact hT
theorem yKU {o:Oper} {w':World} {T:Value→World→Prop} (h:(execOp a.eval o).run P w=.ok .skip w') (hT:T undef w'):Goes P o a w T:=by unfold Goes; rw [h]; exact hT
theorem qZD {x:Operand} {v:Value} (h:Rel' E C.n ρ F σ a w) (hx:ev (actS a) x=some v):a.eval x=v:=(jZX h.size).ev hx
theorem jGU (h:Rel' E C.n ρ F σ a w) {o:Oper} {id:Nat} {hs:List HV} {us:List Value} {t:TypeId} (hd:dstB C.n o.dst=true) (hid:yK σ.M id=none) (hrun:(execOp a.eval o).run P w=.ok (.value (.pointer (some ⟨w.heap.size,0,none⟩))) (w.alloc (.cells us.toArray t)))
  (hal:Al (RH ρ F w) hs us) (h1:∀ u ∈ us,u.oneCell'=true):OK P E C σ a w (.new id (.blk hs) (.p id 0)) o:=by
 have gr:Grow w (w.alloc (.cells us.toArray t)):=(Grow.refl w).alloc _;have hF:∀ k,F k→F k∧(w.alloc (.cells us.toArray t)).heap[k]? = w.heap[k]?:=fun k hk=>⟨hk,gr.block k (h.mem.fz k hk).1⟩
 have hnone:ρ id=none:=by
  cases hc:ρ id with
  | none=>rfl
  | some L'=>obtain ⟨e,he⟩:=h.mem.dom id L' hc; rw [hid] at he; cases he
 refine qYE hrun ⟨updO ρ id (.blk w.heap.size),F,h.new (ent:=.blk hs) (x:=.p id 0) (L:=.blk w.heap.size) hid gr (fun b hb => ?_) ⟨w.heap.size,us,t,kX _ _ _,?_,hal.imp fun x y _ hr=>hr.mono (fun k L hk => ?_) hF,h1⟩ ⟨w.heap.size,kX _ _ _,rfl⟩ hd⟩
 ·simp only [Loc.bl,vQZ] at hb;subst hb;exact ⟨Nat.le_refl _,by show w.heap.size < (w.heap.push _).size; simp⟩
 ·show (w.heap.push _)[w.heap.size]? = _; simp
 ·rw [qKH (fun e=>by subst e; rw [hnone] at hk; cases hk)]; exact hk
theorem kXE {t:TypeId} (hT:TabOk P C.T) (h:Rel' E C.n ρ F σ a w) (hd:dstB C.n d=true) (hvs:mapO (opv 0 σ) []=some vs) (he:zH C.T C.cA C.cB C.me (d.getD 0) (.alloc t) vs=some e) (hn:∀ i ∈ e.nw,yK σ.M i=none):OK P E C σ a w e ⟨d,.alloc t,ty,pos,af,g⟩:=by
 simp [mapO] at hvs;subst hvs;simp only [zH,vQQ,vQZ] at he;obtain ⟨hs,hz,rfl⟩:=he;obtain ⟨z,hz,hal⟩:=hT.zh t hs hz;refine jGU h hd (hn _ (by simp [Eff.new])) (us:=z.cells.toList) (t:=t) ?_ (hal.imp fun x y _ hr=>hr.1 ρ F w) (fun u hu => ?_)
 ·simp [execOp,Instr.alloc,qHJ hz,newVar,newRow]
 ·obtain ⟨i,hi⟩:=List.mem_iff_getElem?.1 hu;have hil:=(List.getElem?_eq_some_iff.1 hi).1;have hl:i < hs.length:=by rw [hal.1]; exact hil
  exact (hal.2 i _ u (vQK hl) hi).2
theorem zGJ {r:RV} {hs:List HV} {v:Value} (hh:r.hcells=some hs) (hr:RH ρ F w r.back v):Al (RH ρ F w) hs v.cells.toList∧∀ u ∈ v.cells.toList,u.oneCell'=true:=by
 have one:∀ {x:HV},some [x]=some hs→v.oneCell'=true→v.cells=#[v]→RH ρ F w x v→Al (RH ρ F w) hs v.cells.toList∧∀ u ∈ v.cells.toList,u.oneCell'=true:=by
  intro x h1 h2 h3 h4;cases h1;rw [h3];exact ⟨Al.cons h4 Al.nil,fun u hu=>by simp at hu; subst hu; exact h2⟩
 cases r with
 | v p =>
  cases p with
  | a cs =>
   cases hh;obtain ⟨us,rfl,hal,h1⟩:=qHG hr;exact ⟨Al.map_left (show Al (fun z y=>RH ρ F w (PV.toH z) y) cs us from hal.imp fun _ _ _ h=>zUB h),fun u hu=>h1 u hu⟩
  | t cs=>cases hh
  | lf n f=>have hr2:=yYH hr; generalize (List.range n).map f=rows at hr2; cases hr2 <;> exact one hh rfl rfl hr
  | zf n f j o=>obtain ⟨_,b,off,sz,g,rfl,_⟩:=yXA hr; exact one hh rfl rfl hr
  | _=>have hr2:RP F w _ v:=hr; cases hr2 <;> exact one hh rfl rfl hr
 | nl=>have:v=.slice none 0 0:=hr; subst this; exact one hh rfl rfl hr
 | o id e sz rows=>have hr2:=hr; obtain ⟨a',c,k,sz',_,rfl⟩:=hr2; exact one hh rfl rfl hr
 | p id off cells=>have hr2:=hr; obtain ⟨b,_,rfl⟩:=hr2; exact one hh rfl rfl hr
 | q id j off e sz rows=>have hr2:=hr; obtain ⟨b,c,k,sz',_,_,rfl⟩:=hr2; exact one hh rfl rfl hr
 | i id off s pos=>have hr2:=hr; obtain ⟨b,_,rfl⟩:=hr2; exact one hh rfl rfl hr
 | g fn first cap=>have hr2:=hr; obtain ⟨fs,cs,rfl,_⟩:=hr2; exact one hh rfl rfl hr
 | w x =>
  cases x with
  | un=>cases hh
  | v p=>cases hh
  | nl=>have:v=.slice none 0 0:=hr; subst this; exact one hh rfl rfl hr
  | o id=>have hr2:=hr; obtain ⟨a',c,k,sz',_,rfl⟩:=hr2; exact one hh rfl rfl hr
  | p id off=>have hr2:=hr; obtain ⟨b,_,rfl⟩:=hr2; exact one hh rfl rfl hr
  | q id j off=>have hr2:=hr; obtain ⟨b,c,k,sz',_,_,rfl⟩:=hr2; exact one hh rfl rfl hr
  | g fn first cap=>have hr2:=hr; obtain ⟨fs,cs,rfl,_⟩:=hr2; exact one hh rfl rfl hr
  | ag cs =>
   cases hh;obtain ⟨us,rfl,hal,h1⟩:=hr;exact ⟨Al.map_left (show Al (fun z y=>RH ρ F w (HC.h z) y) cs us from hal.imp fun _ _ _ h=>h.h),fun u hu=>h1 u hu⟩
 | un=>cases hh
theorem xWD {t:TypeId} {x:Operand} (h:Rel' E C.n ρ F σ a w) (hd:dstB C.n d=true) (hvs:mapO (opv 1 σ) [x]=some vs) (he:zH C.T C.cA C.cB C.me (d.getD 0) (.box t x) vs=some e) (hn:∀ i ∈ e.nw,yK σ.M i=none):OK P E C σ a w e ⟨d,.box t x,ty,pos,af,g⟩:=by
 obtain ⟨r,hr,rfl⟩:=qGY hvs;obtain ⟨v,h1,h2,h3⟩:=jW h hr;simp only [zH,vQQ,vQZ] at he;obtain ⟨hs,hh,rfl⟩:=he;obtain ⟨q1,q2⟩:=zGJ hh h2;refine jGU h hd (hn _ (by simp [Eff.new])) (us:=v.cells.toList) (t:=t) ?_ q1 q2;simp [execOp,Instr.box,qZD h h1,newVar,newRow]
theorem qHF {t:TypeId} {x y:Operand} {id off:Nat} {hc hs cs:List HV} {k:Bool × Nat} {v u:Value} (hT:TabOk P C.T) (h:Rel' E C.n ρ F σ a w) (hk:C.T.sz t=some k) (hx:ev (actS a) x=some v) (hy:ev (actS a) y=some u)
  (hv:RH ρ F w (.p id off) v) (hlk:yK σ.M id=some (.blk hc)) (q1:Al (RH ρ F w) hs u.cells.toList) (q2:∀ z ∈ u.cells.toList,z.oneCell'=true) (hl:hs.length=k.2) (hcs:qYC hc off hs=some cs) (hd:dstB C.n d=true) :
  OK P E C σ a w (.set id (.blk cs) .un) ⟨d,.store t x y,ty,pos,af,g⟩:=by
 obtain ⟨b,hρ,rfl⟩:=hv;obtain ⟨b2,us,ty',hρ2,hheap,hcells,hone⟩:=h.mem.ent id _ hlk;rw [hρ] at hρ2;cases hρ2;obtain ⟨e1,e2⟩:=qVQ hcs;have hul:u.cells.toList.length=hs.length:=q1.1.symm;have hst:=run_storeCells_at P b off ty' u.cells.toList 0 us.toArray w hheap (by rw [hul]; have:=hcells.1; simp only [List.size_toArray]; omega) q2;obtain ⟨R,hR,hst'⟩:∃ R:List Value,R=us.take off ++ u.cells.toList ++ us.drop (off + hs.length)∧(storeCells ⟨b,off,none⟩ u.cells.toList 0).run P w=.ok () (w.setRow b R.toArray):=⟨_,rfl,by rw [← hul]; simpa using hst⟩
 have hrun:(execOp a.eval ⟨d,.store t x y,ty,pos,af,g⟩).run P w=.ok .skip (w.setRow b R.toArray):=by
  have hz:u.cells.size=k.2:=by rw [← hl,← hul]; simp
  have hTt:=qJD (hT.sz t k.1 k.2 hk).1;simp [execOp,qZD h hx,qZD h hy,Instr.storeAt,Instr.sureAddr,storeVar,hTt,hz,hst']
 have hset:=setRow_heap w b _ R.toArray ty' _ hheap;have hoff:=h.mem.off id _ b hρ rfl;have hF:∀ k,F k→F k∧(w.setRow b R.toArray).heap[k]? = w.heap[k]?:=fun k hk=>⟨hk,(GrowB.set b w R.toArray).block k (h.mem.fz k hk).1 fun e=>by subst e; exact hoff.1 hk⟩
 have hcs2:Al (RH ρ F w) cs R:=by
  rw [e1,hR];exact ((hcells.take off).append q1).append (hcells.drop _)
 refine yKU hrun ⟨ρ,F,h.set (ent:=.blk cs) (x:=.un) hρ rfl (GrowB.set b w R.toArray) ⟨b,R,ty',hρ,hset,hcs2.imp fun _ _ _ h=>h.mono (fun _ _ h=>h) hF,fun z hz => ?_⟩ trivial hd⟩;rw [hR] at hz;simp only [List.mem_append] at hz;rcases hz with (hz | hz) | hz
 ·exact hone z (List.mem_of_mem_take hz)
 ·exact q2 z hz
 ·exact hone z (List.mem_of_mem_drop hz)
theorem jZB {M:Mem}:∀ {hc:List HV} {cells:List CV},mapO (cvOf M) hc=some cells→cells.map CV.back=hc:=by
 intro hc;induction hc with
 | nil=>intro cells h; simp only [mapO,vQZ] at h; subst h; rfl
 | cons x hc ih =>
  intro cells h;simp only [mapO,vQQ,vQZ] at h;obtain ⟨c,hc1,l,hl,rfl⟩:=h;rw [List.map_cons,ih hl]
  have:c.back=x:=by
   cases x <;> simp only [cvOf] at hc1
   all_goals first | (cases hc1; rfl) | (split at hc1 <;> cases hc1 <;> rfl)
  rw [this]
theorem yJH {t:TypeId} {x y:Operand} {id off:Nat} {cells:List CV} {r:RV} {hs cs:List HV} {k:Bool × Nat} {v u:Value} (hT:TabOk P C.T) (h:Rel' E C.n ρ F σ a w) (hk:C.T.sz t=some k) (hx:ev (actS a) x=some v) (hy:ev (actS a) y=some u)
  (hv:RH ρ F w (.p id off) v) (hres:RRes σ.M (.p id off cells)) (hu:RH ρ F w r.back u) (hh:r.hcells=some hs) (hl:hs.length=k.2) (hcs:qYC (cells.map CV.back) off hs=some cs) (hd:dstB C.n d=true) :
  OK P E C σ a w (.set id (.blk cs) .un) ⟨d,.store t x y,ty,pos,af,g⟩:=by
 obtain ⟨hc,hlk,hcc⟩:=hres;obtain ⟨q1,q2⟩:=zGJ hh hu;exact qHF hT h hk hx hy hv hlk q1 q2 hl (by rw [← jZB hcc]; exact hcs) hd
end
end Go.Rx
namespace Go.Rx
open Go.RowKit Go.Sx
section
variable {P:Program} {E:Env} {C:Cx} {ρ:Own} {F:Nat→Prop} {σ:St} {a:Act} {w:World} {vs:List RV} {e:Eff}
variable {d:Option Tmp} {ty:TypeId} {pos:String} {af:Array Edge} {g:Option (Nat × Bool)}
theorem jWQ (h:Rel' E C.n ρ F σ a w) {id e' sz c:Nat} {ad:Option Addr} {rows:Rows} {vr:List (List Value)} {w':World} {dst:Option Nat} (hd:dstB C.n dst=true) (hid:yK σ.M id=none) (gr:Grow w w')
  (hb:∀ b,ad.map (·.block)=some b→w.heap.size≤b∧b < w'.heap.size) (h0:0 < sz) (hal:Al (Al (RP F w)) rows.L vr) (hrl:∀ r ∈ rows.L,r.length=sz) (hone:∀ v ∈ vr,∀ u ∈ v,u.oneCell'=true)
  (hown:w'.ownsRow 0 e' sz (.slice ad rows.len c) rows.len vr.flatten):Rel E C.n (σ.apply (.new id (.reg e' sz rows) (.o id)) dst) (a.put dst (.slice ad rows.len c)) w':=by
 have hF:∀ k,F k→F k∧w'.heap[k]? = w.heap[k]?:=fun k hk=>⟨hk,gr.block k (h.mem.fz k hk).1⟩
 exact ⟨updO ρ id (.reg ad c rows.len sz),F,h.new (ent:=.reg e' sz rows) (x:=.o id) (L:=.reg ad c rows.len sz) hid gr hb ⟨ad,c,vr,kX _ _ _,h0,hal.imp fun _ _ _ h=>h.imp fun _ _ _ h=>h.mono hF,hrl,hone,hown⟩ ⟨ad,c,rows.len,sz,kX _ _ _,rfl⟩ hd⟩
theorem qHB {nw:Rows} {rows:List (List PV)} (hN:nw.L=rows) (h:Rel' E C.n ρ F σ a w) {id e' sz c:Nat} {ad:Option Addr} {vr:List (List Value)} {w':World} {dst:Option Nat} (hd:dstB C.n dst=true) (hid:yK σ.M id=none) (gr:Grow w w')
  (hb:∀ b,ad.map (·.block)=some b→w.heap.size≤b∧b < w'.heap.size) (h0:0 < sz) (hal:Al (Al (RP F w)) rows vr) (hrl:∀ r ∈ rows,r.length=sz) (hone:∀ v ∈ vr,∀ u ∈ v,u.oneCell'=true)
  (hown:w'.ownsRow 0 e' sz (.slice ad rows.length c) rows.length vr.flatten):Rel E C.n (σ.apply (.new id (.reg e' sz nw) (.o id)) dst) (a.put dst (.slice ad rows.length c)) w':=by
 subst hN;rw [Rows.len_L] at hown ⊢;exact jWQ h hd hid gr hb h0 hal hrl hone hown
theorem yYE {α:Type} (x:α):∀ k,(qWB x k).length=k
 | 0=>rfl
 | k + 1=>by rw [qWB,vQW,yYE x k]
theorem jXL {α:Type} (x:α) (n:Nat):(List.range n).map (fun _=>x)=qWB x n:=by
 have:∀ n,qWB x n=List.replicate n x:=fun n=>by
  induction n with
  | zero=>rfl
  | succ n ih=>rw [qWB,ih]; rfl
 rw [this,List.map_const',List.length_range]
theorem zJX {sz n:Nat} {vr:List (List Value)} (h:∀ r ∈ vr,r.length=sz):(vr.take n).flatten=vr.flatten.take (n * sz):=by
 induction vr generalizing n with
 | nil=>simp
 | cons r vr ih =>
  cases n with
  | zero=>simp
  | succ n =>
   have hr:=h r vZQ;simp only [vYK,List.flatten_cons,ih fun x hx=>h x (vQH _ hx)];have e1:r.take ((n + 1) * sz)=r:=List.take_of_length_le (by rw [hr,Nat.add_mul]; omega);rw [List.take_append,e1,hr,show (n + 1) * sz - sz=n * sz by rw [Nat.add_mul]; omega]
theorem uVQ {t:TypeId} {x y:Operand} (hT:TabOk P C.T) (h:Rel' E C.n ρ F σ a w) (hd:dstB C.n d=true) (hvs:mapO (opv 0 σ) [x,y]=some vs) (he:zH C.T C.cA C.cB C.me (d.getD 0) (.makeSlice t x y) vs=some e) (hn:∀ i ∈ e.nw,yK σ.M i=none):OK P E C σ a w e ⟨d,.makeSlice t x y,ty,pos,af,g⟩:=by
 obtain ⟨rx,ry,hx,hy,rfl⟩:=jKQ hvs;obtain ⟨vx,x1,x2,_⟩:=jW h hx;obtain ⟨vy,y1,y2,_⟩:=jW h hy;cases rx with
 | v px =>
  cases ry with
  | v py =>
   cases px with
   | n k1 m =>
    cases py with
    | n k2 c =>
     simp only [zH,vQQ] at he;obtain ⟨⟨el,sz⟩,hsl,zs,hzs,he⟩:=he;cases hzf:(C.T.zf C.me && (decide (m=0) && decide (c=0))) with
     | true =>
      rw [hzf,vYV] at he;cases he;simp only [vQJ,decide_eq_true_eq] at hzf;obtain ⟨_,rfl,rfl⟩:=hzf;rw [qYA x2] at x1; rw [qYA y2] at y1;obtain ⟨hslc,hs0,hsk,bytes,happ,hby,_⟩:=hT.sl t el sz hsl;obtain ⟨z,hz,hal⟩:=hT.zr el zs hzs;obtain ⟨ht,i,z',hi,hz',hisz,hib,hzc,hzl,_⟩:=zKU happ hz;have hrun:=run_make (P:=P) w t el i z' ht hi hz' k1 k2 0 0 (by decide) (by decide) (by simp) (by decide);refine qYE (by simp only [execOp,qZD h x1,qZD h y1,Sem.run_bind,hrun]; rfl) ?_;exact ⟨ρ,F,h.val ((Grow.refl w).alloc _) (fun _ h=>h) (fun _ h=>.inl h) (x:=.v .ze) (RP.ze _) hd⟩
     | false =>
     rw [hzf,vYG] at he;obtain ⟨hb,he⟩:=qQ he;simp only [vQZ] at he;subst he;simp only [vQJ,decide_eq_true_eq] at hb;obtain ⟨⟨hm0,hmc⟩,hc6⟩:=hb;rw [qYA x2] at x1; rw [qYA y2] at y1;obtain ⟨hslc,hs0,hsk,bytes,happ,hby,_⟩:=hT.sl t el sz hsl;obtain ⟨z,hz,hal⟩:=hT.zr el zs hzs;obtain ⟨ht,i,z',hi,hz',hisz,hib,hzc,hzl,_⟩:=zKU happ hz;have hzz:z'=z:=by
      unfold qJY at hz;rw [hi] at hz;simp only [vYQ] at hz;rw [hz'] at hz; exact Option.some.inj hz
     subst hzz;have hrun:=run_make (P:=P) w t el i z' ht hi hz' k1 k2 m c hm0 hmc (by
      have hb1:(i.bytes:Int)≤100000:=by rw [hib]; omega
      have hc0:0≤c:=by omega
      calc (i.bytes:Int) * c≤100000 * c:=Int.mul_le_mul_of_nonneg_right hb1 hc0
       _≤281474976710656:=by omega) (by omega)
     have hrow:=yJE (zs:=z'.cells.toList) (m:=c.toNat) hzl hs0;rw [Array.toArray_toList] at hrow;rw [hisz,hrow] at hrun;have hle:m.toNat≤c.toNat:=by omega
     have hrep:(List.replicate m.toNat z'.cells.toList)=(List.replicate c.toNat z'.cells.toList).take m.toNat:=by rw [List.take_replicate,Nat.min_eq_left hle]
     have hzlen:zs.length=sz:=by rw [hal.1]; exact hzl
     have hRL:(bif C.T.ff C.me then Rows.fo m.toNat (fun _=>zs) else Rows.l (qWB zs m.toNat)).L=qWB zs m.toNat:=by
      cases C.T.ff C.me
      ·rfl
      ·exact jXL zs m.toNat
     have hrl:(bif C.T.ff C.me then Rows.fo m.toNat (fun _=>zs) else Rows.l (qWB zs m.toNat)).len=m.toNat:=by rw [← Rows.len_L,hRL,yYE]
     generalize (bif C.T.ff C.me then Rows.fo m.toNat (fun _=>zs) else Rows.l (qWB zs m.toNat))=R0 at hRL hrl hn ⊢;refine qYE (v:=.slice (some ⟨w.heap.size,0,none⟩) m.toNat c.toNat) (w':=w.alloc (.cells (List.replicate c.toNat z'.cells.toList).flatten.toArray el)) (by simp only [execOp,qZD h x1,qZD h y1,Sem.run_bind,hrun]; rfl) ?_
     have:=jWQ (id:=d.getD 0) (e':=el) (sz:=sz) (c:=c.toNat) (ad:=some ⟨w.heap.size,0,none⟩) (rows:=R0) (vr:=List.replicate m.toNat z'.cells.toList) h hd (hn _ (by simp [Eff.new])) ((Grow.refl w).alloc (.cells (List.replicate c.toNat z'.cells.toList).flatten.toArray el)) (fun b hb => ?_) hs0
      (by rw [hRL]; exact Al.repl (hal.imp fun _ _ _ h=>h.1 F w) _) (fun r hr => ?_) (fun v hv u hu => ?_) ⟨?_,.inr ⟨w.heap.size,c.toNat,(List.replicate c.toNat z'.cells.toList).flatten.toArray,rfl,Nat.zero_le _,?_,?_,?_,?_,?_⟩⟩
     ·rw [hrl] at this; exact this
     ·simp only [Option.map_some,vQZ] at hb;subst hb;exact ⟨Nat.le_refl _,by show w.heap.size < (w.heap.push _).size; simp⟩
     ·have:∀ k,r ∈ qWB zs k→r=zs:=fun k=>by
       induction k with
       | zero=>intro h; cases h
       | succ k ih=>intro h; rcases List.mem_cons.1 h with h | h; exact h; exact ih h
      rw [hRL] at hr;rw [this _ hr]; exact hzlen
     ·rw [List.eq_of_mem_replicate hv] at hu;obtain ⟨j,hj⟩:=List.mem_iff_getElem?.1 hu;have hjl:=(List.getElem?_eq_some_iff.1 hj).1;have hl:j < zs.length:=by rw [hal.1]; exact hjl
      exact (hal.2 j _ u (vQK hl) hj).2
     ·rw [hrl,qZW (sz:=sz) _ (fun r hr=>by rw [List.eq_of_mem_replicate hr]; exact hzl)]; simp
     ·show (w.heap.push _)[w.heap.size]? = _; simp
     ·rw [hrl]; exact hle
     ·show c.toNat≤9223372036854775807; omega
     ·rw [List.size_toArray,qZW (sz:=sz) _ (fun r hr=>by rw [List.eq_of_mem_replicate hr]; exact hzl)]; simp
     ·rw [hrl,hrep,zJX (sz:=sz) (fun r hr=>by rw [List.eq_of_mem_replicate hr]; exact hzl)]
    | _=>simp only [zH] at he; cases he
   | _=>simp only [zH] at he; cases he
  | _=>cases px <;> (simp only [zH] at he; cases he)
 | _=>simp only [zH] at he; cases he
end
end Go.Rx
namespace Go.Rx
open Go.RowKit Go.Sx
section
variable {P:Program} {E:Env} {C:Cx} {ρ:Own} {F:Nat→Prop} {σ:St} {a:Act} {w:World} {vs:List RV} {e:Eff}
variable {d:Option Tmp} {ty:TypeId} {pos:String} {af:Array Edge} {g:Option (Nat × Bool)}
theorem yYK {sz b off:Nat} {vn:List (List Value)} (hF:qJA sz (some ⟨b,off,none⟩) vn w) (hall:∀ r ∈ vn,r.length=sz) (hs0:0 < sz):∀ j u,vn.flatten[j]? = some u→w.cell? ((⟨b,off,none⟩:Addr).add j)=some u:=fun j v hj=>by
 have hjl:=(List.getElem?_eq_some_iff.1 hj).1;rw [qZW vn hall] at hjl;have hd:j / sz < vn.length:=(Nat.div_lt_iff_lt_mul hs0).2 hjl;have hmod:=Nat.mod_lt j hs0;have hrow:vn[j / sz]? = some vn[j / sz]:=vQK hd;have hg:=qVF (sz:=sz) vn hall (j / sz) _ hrow (j % sz) hmod;rw [show j / sz * sz + j % sz=j by rw [Nat.mul_comm]; exact Nat.div_add_mod j sz] at hg;obtain ⟨_,b1,off1,he,_,hc⟩:=hF _ _ hrow;simp only [vQZ,Addr.mk.injEq,and_true] at he;obtain ⟨rfl,rfl⟩:=he
 have:=hc _ hmod
 rw [← hg,hj,Nat.add_assoc,show j / sz * sz + j % sz=j by rw [Nat.mul_comm]; exact Nat.div_add_mod j sz] at this;rw [qUZ];exact this
theorem zVV (h:Rel' E C.n ρ F σ a w) {id e' sz:Nat} {rows:Rows} {v:Value} (hl:yK σ.M id=some (.reg e' sz rows)) (hv:RH ρ F w (.o id) v):∃ ad c vr,ρ id=some (.reg ad c rows.len sz)∧v=.slice ad rows.len c∧0 < sz∧Al (Al (RP F w)) rows.L vr∧(∀ r ∈ rows.L,r.length=sz)∧(∀ r ∈ vr,r.length=sz)∧(∀ v ∈ vr,∀ u ∈ v,u.oneCell'=true) ∧
  w.ownsRow 0 e' sz (.slice ad rows.len c) rows.len vr.flatten∧qJA sz ad vr w:=by
 obtain ⟨ad,c,k,sz',hρ,rfl⟩:=hv;obtain ⟨a2,c2,vr,hρ2,h0,hal,hrl,hone,hown⟩:=h.mem.ent id _ hl;rw [hρ] at hρ2;simp only [vQZ,Loc.reg.injEq] at hρ2;obtain ⟨rfl,rfl,rfl,rfl⟩:=hρ2;have hvr:=jKI hal hrl;refine ⟨ad,c,vr,hρ,rfl,h0,hal,hrl,hvr,hone,hown,?_⟩
 have:OwnF 0 e' sz' ad c vr.length vr.flatten w:=by unfold OwnF; rw [← hal.1,Rows.len_L]; exact hown
 exact zHV hvr this
theorem uGJ (h:Rel' E C.n ρ F σ a w) {y:RV} {nw:Rows} {news:List (List PV)} {v:Value} {sz:Nat} (hy:yHI y=some nw) (hN:nw.L=news) (hv:RH ρ F w y.back v) (hr:RRes σ.M y) (hok:zWE news 0 sz=true) (hs0:0 < sz):∃ ad c,v=.slice ad news.length c ∧
  (news=[] ∨ ∃ b off vn,ad=some ⟨b,off,none⟩∧Al (Al (RP F w)) news vn∧(∀ r ∈ news,r.length=sz)∧(∀ r ∈ vn,r.length=sz)∧(∀ v ∈ vn,∀ u ∈ v,u.oneCell'=true)∧∀ j u,vn.flatten[j]? = some u→w.cell? ((⟨b,off,none⟩:Addr).add j)=some u):=by
 by_cases hne:news=[]
 ·subst hne;cases y with
  | v p =>
   cases p with
   | l rows =>
    cases hy;have hN':rows=[]:=hN;subst hN';obtain ⟨ad,c,h,_⟩:=rp_l hv; exact ⟨ad,c,h,.inl rfl⟩
   | lf n f =>
    cases hy;have hN':(List.range n).map f=[]:=hN;have hv':=yYH hv;rw [hN'] at hv';obtain ⟨ad,c,h,_⟩:=rp_l hv'; exact ⟨ad,c,h,.inl rfl⟩
   | ne =>
    have hv':RP F w .ne v:=hv;cases hv' with
    | ne ad c=>exact ⟨some ad,c,rfl,.inl rfl⟩
   | _=>cases hy
  | nl=>exact ⟨none,0,hv,.inl rfl⟩
  | o id e' sz' rows =>
   cases hy;obtain ⟨ad,c,vr,_,rfl,_⟩:=zVV h hr hv;rw [← Rows.len_L,hN];exact ⟨ad,c,rfl,.inl rfl⟩
  | _=>cases hy
 ·have hlen:0 < news.length:=List.length_pos_iff.2 hne;have hk:∀ {k:Nat},(∀ r ∈ news,r.length=k)→k=sz:=fun {k} hr=>by
   unfold zWE at hok;rw [vQK hlen] at hok;simp only [Option.all_some] at hok;rw [← hr _ (List.getElem_mem hlen)]; exact vQX hok
  have slc:∀ {v:Value},RP F w (.l news) v→∃ ad c,v=.slice ad news.length c∧(news=[] ∨ ∃ b off vn,ad=some ⟨b,off,none⟩∧Al (Al (RP F w)) news vn∧(∀ r ∈ news,r.length=sz)∧(∀ r ∈ vn,r.length=sz)∧(∀ v ∈ vn,∀ u ∈ v,u.oneCell'=true)∧∀ j u,vn.flatten[j]? = some u→w.cell? ((⟨b,off,none⟩:Addr).add j)=some u):=by
    intro v hv;cases hv with
    | l0=>exact absurd rfl hne
    | l _ b off n c sz' g' hn hcap hs hF hc hh =>
     have:=hk hs
     subst this;subst hn;refine ⟨_,c,rfl,.inr ⟨b,off,(List.range news.length).map fun j=>(List.range sz').map (g' j),rfl,⟨by simp,fun j r u hr hu => ?_⟩,hs,fun r hr => ?_,fun r hr u hu => ?_,?_⟩⟩
     ·rw [vZY,vZW] at hu;obtain ⟨m,hm,rfl⟩:=hu;have hm2:=List.getElem?_eq_some_iff.1 hm;obtain ⟨hm3,hm4⟩:=hm2;simp at hm3 hm4;subst hm4;refine ⟨by simp [hs r (vQG hr)],fun t p v hp hv => ?_⟩;rw [vZY,vZW] at hv;obtain ⟨m,hm,rfl⟩:=hv;have hm2:=List.getElem?_eq_some_iff.1 hm;obtain ⟨hm5,hm6⟩:=hm2;simp at hm5 hm6;subst hm6;exact hh j r t p hr hp
     ·obtain ⟨j,_,rfl⟩:=List.mem_map.1 hr; simp
     ·obtain ⟨j,hj,rfl⟩:=List.mem_map.1 hr;obtain ⟨t,ht,rfl⟩:=List.mem_map.1 hu;exact (hc j t (List.mem_range.1 hj) (List.mem_range.1 ht)).2
     ·refine yYK (sz:=sz') (fun j r hj => ?_) (fun r hr=>by obtain ⟨j,_,rfl⟩:=List.mem_map.1 hr; simp) hs0;rw [vZY,vZW] at hj;obtain ⟨m,hm,rfl⟩:=hj;have hm2:=List.getElem?_eq_some_iff.1 hm;obtain ⟨hm3,hm4⟩:=hm2;simp at hm3 hm4;subst hm4;refine ⟨by simp,b,off,rfl,(h.mem.fz b hF).1,fun k hk => ?_⟩;rw [Nat.add_assoc,(hc j k hm3 hk).1]; simp [hk]
  cases y with
  | v p =>
   cases p with
   | lf n f =>
    cases hy;have hv':=yYH hv;have hN':(List.range n).map f=news:=hN;rw [hN'] at hv';exact slc hv'
   | l rows =>
    cases hy;have hN':rows=news:=hN;subst hN';exact slc hv
   | ne=>cases hy; exact absurd hN.symm hne
   | _=>cases hy
  | nl=>cases hy; exact absurd hN.symm hne
  | o id e' sz' rows =>
   cases hy;obtain ⟨ad,c,vr,hρ,rfl,h0,hal,hrl,hvr,hone,hown,hslc⟩:=zVV h hr hv;rw [← Rows.len_L] at hρ ⊢;rw [hN] at hal hrl ⊢
   have:=hk hrl
   subst this;obtain ⟨u,hu,_⟩:=hal.get (vQK hlen);obtain ⟨_,b,off,rfl,_,_⟩:=hslc 0 u hu;exact ⟨_,c,rfl,.inr ⟨b,off,vr,rfl,hal,hrl,hvr,hone,yYK hslc hvr h0⟩⟩
  | _=>cases hy
theorem qGH {t e' k bytes l c cy:Nat} {ty:TypeId} {base ady:Option Addr} (happ:appB P t e' k bytes=true) (hle:l≤c) (w:World) :
  (Builtin.append_ #[t,t] ty #[.slice base l c,.slice ady 0 cy]).run P w=.ok (.slice base l c) w:=by
 unfold appB at happ;cases hu:P.underlying t with
 | none=>simp [hu] at happ
 | some ds =>
  cases ds <;> simp [hu] at happ
  rename_i el;cases hi:P.info? e' with
  | none=>simp [hi] at happ
  | some i =>
   simp [hi] at happ;obtain ⟨⟨⟨⟨rfl,h2⟩,h3⟩,h4⟩,h5⟩:=happ;cases base <;> cases ady <;> simp [Builtin.append_,run_underlying hu,sizeOf,typeInfo,hi,hle,storeCells,loadCells,loadCellsFrom,Builtin.lenOf,Builtin.firstCells]
theorem zHU {w:World} {t e size bytes:Nat} {ty:TypeId} (hB:appB P t e size bytes=true) (base:Option Addr)
  {ad:Addr} {m c:Nat} {news:List Value} (hm:0 < m) (hl:news.length=m * size) (hnews:∀ j u,news[j]? = some u→w.cell? (ad.add j)=some u) (h1:∀ u ∈ news,u.oneCell'=true)
  (h63:m≤9223372036854775807) (hby:m * bytes≤140737488355328) :
  (Builtin.append_ #[t,t] ty #[.slice base 0 0,.slice (some ad) m c]).run P w=(Builtin.append_ #[t,t] ty #[.slice none 0 0,.slice (some ad) m c]).run P w:=by
 unfold appB at hB;cases hu:P.underlying t with
 | none=>simp [hu] at hB
 | some ds =>
  cases ds <;> simp [hu] at hB
  rename_i e';cases hi:P.info? e with
  | none=>simp [hi] at hB
  | some i =>
   simp [hi] at hB;obtain ⟨⟨⟨⟨rfl,h2⟩,h3⟩,h4⟩,h5⟩:=hB;cases hz:i.zero with
   | none=>simp [hz] at h5
   | some z =>
    subst h2; subst h3;have hs:Src P i.size t (.slice (some ad) m c) m news w:=Src.ofSlice w hu ad m c news hl hnews h1;have hf:Builtin.nextslicecap (0 + m) 0 * i.bytes≤281474976710656:=growslice_fits (by omega) (by rw [Nat.zero_add]; exact hby);have hold:∀ b:Option Addr,(Builtin.firstCells i.size 0 (.slice b 0 0)).run P w.drew=.ok ([]:List Value).toArray w.drew:=fun b=>by
     cases b with
     | none=>exact run_firstCells_none w.drew i.size 0 0 0
     | some a=>exact run_firstCells_some w.drew i.size 0 a 0 0 [] (by simp) (fun j u h=>by simp at h)
    rw [run_append_grow_src w t t ty e' i z hu hi hz base 0 0 [] (hold base) _ m news hs (by omega) (by omega) hf,run_append_grow_src w t t ty e' i z hu hi hz none 0 0 [] (hold none) _ m news hs (by omega) (by omega) hf]
theorem zGU {w w':World} (h:w.grownBy w' none):Grow w w':=⟨h.os,h.tape,h.output,h.size,fun k hk=>h.block k hk (by simp)⟩
theorem jVX {args:Array Operand} {ats:Array TypeId} (hT:TabOk P C.T) (h:Rel' E C.n ρ F σ a w) (hd:dstB C.n d=true) (hvs:mapO (opv 0 σ) (#[] ++ args).toList=some vs) (he:zH C.T C.cA C.cB C.me (d.getD 0) (.call ⟨.builtin .append,args,ats⟩) vs=some e) (hn:∀ i ∈ e.nw,yK σ.M i=none) :
  OK P E C σ a w e ⟨d,.call ⟨.builtin .append,args,ats⟩,ty,pos,af,g⟩:=by
 match vs with
 | []=>simp only [zH] at he; cases he
 | [_]=>simp only [zH] at he; cases he
 | _ :: _ :: _ :: _=>simp only [zH] at he; cases he
 | [x,y] =>
  obtain ⟨p,q,rfl,hp,hq⟩:=arr2 hvs;obtain ⟨vx,x1,x2,x3⟩:=jW h hp;obtain ⟨vy,y1,y2,y3⟩:=jW h hq;simp only [zH] at he;split at he
  case h_2=>cases he
  case h_1 t t' hats =>
  replace he:=qQ he
  obtain ⟨htt,he⟩:=he
  replace htt:=vQX htt
  subst htt;have hats':ats=#[t,t]:=by rw [← Array.toArray_toList (xs:=ats),hats]
  subst hats';simp only [vQQ] at he;obtain ⟨⟨el,sz⟩,hsl,nw,hnews,he⟩:=he;obtain ⟨hok,he⟩:=qQ he;have hok:=Rows.ok_L hok;obtain ⟨news,hN⟩:∃ news,nw.L=news:=⟨_,rfl⟩
  have hNl:nw.len=news.length:=by rw [← hN,Rows.len_L]
  rw [hN] at hok;obtain ⟨hslc,hs0,hsk,bytes,happ,hby,hbd,hbd2⟩:=hT.sl t el sz hsl;obtain ⟨ady,cy,rfl,hnn⟩:=uGJ h hnews hN y2 y3 hok hs0;have run:∀ {v:Value} {w':World},(Builtin.append_ #[t,t] ty #[vx,.slice ady news.length cy]).run P w=.ok v w'→(execOp a.eval ⟨d,.call ⟨.builtin .append,#[p,q],#[t,t]⟩,ty,pos,af,g⟩).run P w=.ok (.value v) w':=fun {v w'} hr=>by
   simp [execOp,resolve,invoke,builtin,qZD h x1,qZD h y1,hr]
  have small:∀ m,m≤C.T.bd el→m * bytes≤140737488355328:=fun m hm=>Nat.le_trans (Nat.mul_le_mul_right bytes hm) hbd
  cases x with
  | nl =>
   simp only at he;obtain ⟨hlen,he⟩:=qQ he;cases he;have hlen:=vJZ hlen;rw [hNl] at hlen
   have:vx=.slice none 0 0:=x2
   subst this;have hid:=hn (d.getD 0) (by simp [Eff.new]);rcases hnn with rfl | ⟨b,off,vn,rfl,hal,hnl,hvl,hone,hcell⟩
   ·refine qYE (run (qGH happ (Nat.le_refl _) w)) ?_;exact qHB hN (ad:=none) (rows:=[]) (vr:=[]) (c:=0) h hd hid (Grow.refl w) (fun b hb=>by cases hb) hs0 Al.nil (fun r hr=>by cases hr) (fun v hv=>by cases hv) ⟨by simp,.inl ⟨rfl,rfl⟩⟩
   ·by_cases h0:news.length=0
    ·have:=List.eq_nil_of_length_eq_zero h0
     subst this;refine qYE (run (qGH happ (Nat.le_refl _) w)) ?_;exact qHB hN (ad:=none) (rows:=[]) (vr:=[]) (c:=0) h hd hid (Grow.refl w) (fun b hb=>by cases hb) hs0 Al.nil (fun r hr=>by cases hr) (fun v hv=>by cases hv) ⟨by simp,.inl ⟨rfl,rfl⟩⟩
    ·obtain ⟨gg,cap,w',hr,ho,hg,hgg⟩:=qXC (P:=P) (w:=w) (base:=0) (ty:=ty) happ (v:=.slice none 0 0) (k:=0) (ys:=[]) ⟨by simp,.inl ⟨rfl,rfl⟩⟩ (ad:=⟨b,off,none⟩) (m:=news.length) (c:=cy) (news:=vn.flatten) (by omega) (by rw [qZW vn hvl,hal.1]) hcell
      (fun u hu=>by obtain ⟨r,hr,hur⟩:=List.mem_flatten.1 hu; exact hone r hr u hur) (by omega) (by rw [Nat.zero_add]; exact small _ hlen) (Nat.zero_le _)
     rw [Nat.zero_add] at hr ho;refine qYE (run hr) ?_;rcases hgg with hgg | hgg
     ·cases hgg
     ·refine qHB hN (rows:=news) (vr:=vn) (c:=cap) h hd hid (zGU hg) (fun b hb => ?_) hs0 hal hnl hone (by simpa using ho);simp only [Option.map_some,vQZ] at hb;subst hb;refine ⟨hgg,?_⟩;rcases ho.2 with ⟨hx,_⟩ | ⟨g2,cap2,cur,hsl2,_,hg2,_⟩
      ·cases hx
      ·simp only [Value.slice.injEq,vQZ,Addr.mk.injEq,and_true] at hsl2;rw [hsl2.1]; exact qZC hg2
  | v px =>
   cases px with
   | ze =>
    simp only at he;obtain ⟨hlen,he⟩:=qQ he;cases he;simp only [vQJ,decide_eq_true_eq] at hlen;obtain ⟨hlen,h00⟩:=hlen;rw [hNl] at hlen h00;obtain ⟨ad0,rfl⟩:∃ ad0,vx=.slice ad0 0 0:=by
     cases x2 with
     | ze ad0=>exact ⟨ad0,rfl⟩
    have hid:=hn (d.getD 0) (by simp [Eff.new]);rcases hnn with rfl | ⟨b,off,vn,rfl,hal,hnl,hvl,hone,hcell⟩
    ·exact absurd h00 (by simp)
    ·have hvn:vn.flatten.length=news.length * sz:=by rw [qZW vn hvl,hal.1]
     have hone':∀ u ∈ vn.flatten,u.oneCell'=true:=fun u hu=>by obtain ⟨r,hr,hur⟩:=List.mem_flatten.1 hu; exact hone r hr u hur
     have hze:=zHU (P:=P) (w:=w) (ty:=ty) happ ad0 (ad:=⟨b,off,none⟩) (m:=news.length) (c:=cy) (news:=vn.flatten) h00 hvn hcell hone' (by omega) (small _ hlen);obtain ⟨gg,cap,w',hr,ho,hg,hgg⟩:=qXC (P:=P) (w:=w) (base:=0) (ty:=ty) happ (v:=.slice none 0 0) (k:=0) (ys:=[]) ⟨by simp,.inl ⟨rfl,rfl⟩⟩ (ad:=⟨b,off,none⟩) (m:=news.length) (c:=cy) (news:=vn.flatten) (by omega) hvn hcell hone' (by omega) (by rw [Nat.zero_add]; exact small _ hlen) (Nat.zero_le _);rw [← hze] at hr;rw [Nat.zero_add] at hr ho;refine qYE (run hr) ?_;rcases hgg with hgg | hgg
     ·cases hgg
     ·refine qHB hN (rows:=news) (vr:=vn) (c:=cap) h hd hid (zGU hg) (fun b hb => ?_) hs0 hal hnl hone (by simpa using ho);simp only [Option.map_some,vQZ] at hb;subst hb;refine ⟨hgg,?_⟩;rcases ho.2 with ⟨hx,_⟩ | ⟨g2,cap2,cur,hsl2,_,hg2,_⟩
      ·cases hx
      ·simp only [Value.slice.injEq,vQZ,Addr.mk.injEq,and_true] at hsl2;rw [hsl2.1]; exact qZC hg2
   | _=>cases he
  | o id e' sz' rows =>
   simp only at he;obtain ⟨hb,he⟩:=qQ he;cases he;simp only [vQJ,decide_eq_true_eq] at hb;obtain ⟨⟨⟨hb1,hb2⟩,hlen⟩,_⟩:=hb;rw [hNl] at hlen;have hb1:=vQX hb1;have hb2:=vQX hb2;subst hb1; subst hb2;obtain ⟨ad,c,vr,hρ,rfl,h0,hral,hrl,hvrl,hrone,hown,hslc2⟩:=zVV h x3 x2;have hAL:(rows.app nw).L=rows.L ++ news:=by rw [Rows.app_L,hN]
   have hAl:(rows.app nw).len=(rows.L ++ news).length:=by rw [← Rows.len_L,hAL]
   have hRl:=rows.len_L;have finish:∀ {ad':Option Addr} {c':Nat} {vn:List (List Value)} {w':World},GrowB (fun k=>(Loc.reg ad c rows.len sz').bl=some k) w w'→(∀ b,ad'.map (·.block)=some b→ad.map (·.block)=some b ∨ (w.heap.size≤b∧b < w'.heap.size))→Al (Al (RP F w)) news vn→(∀ r ∈ news,r.length=sz')→(∀ v ∈ vn,∀ u ∈ v,u.oneCell'=true) →
     w'.ownsRow 0 e' sz' (.slice ad' (rows.L ++ news).length c') (rows.L ++ news).length (vr ++ vn).flatten→Rel E C.n (σ.apply (.app id (.reg e' sz' (rows.app nw)) (.o id)) d) (a.put d (.slice ad' (rows.L ++ news).length c')) w':=by
    intro ad' c' vn w' gB hb hnal hnl hnone how;have hF:∀ k,F k→F k∧w'.heap[k]? = w.heap[k]?:=fun k hk=>⟨hk,gB.block k (h.mem.fz k hk).1 fun e=>(h.mem.off id _ k hρ e).1 hk⟩
    refine ⟨updO ρ id (.reg ad' c' (rows.L ++ news).length sz'),F,h.app (L':=.reg ad' c' (rows.L ++ news).length sz') (ent:=.reg e' sz' (rows.app nw)) (x:=.o id) hρ ⟨_,_,_,_,rfl⟩ gB hb ⟨ad',c',vr ++ vn,by rw [hAl]; exact kX _ _ _,h0,by rw [hAL]; exact (hral.append hnal).imp fun _ _ _ h=>h.imp fun _ _ _ h=>h.mono hF,fun r hr => ?_,fun r hr => ?_,by rw [hAl]; exact how⟩ ⟨_,_,_,_,kX _ _ _,rfl⟩ hd⟩
    ·rw [hAL] at hr;rcases List.mem_append.1 hr with hr | hr
     ·exact hrl r hr
     ·exact hnl r hr
    ·rcases List.mem_append.1 hr with hr | hr
     ·exact hrone r hr
     ·exact hnone r hr
   have capk:rows.len≤c:=by
    rcases hown.2 with ⟨hx,h00⟩ | ⟨g2,cap2,cur,hsl2,_,_,hc,_⟩
    ·omega
    ·simp only [Value.slice.injEq] at hsl2;omega
   have empty:news=[]→OK P E C σ a w (.app id (.reg e' sz' (rows.app nw)) (.o id)) ⟨d,.call ⟨.builtin .append,#[p,q],#[t,t]⟩,ty,pos,af,g⟩:=by
    rintro rfl
    refine qYE (run (qGH happ capk w)) ?_
    have:=finish (ad':=ad) (c':=c) (vn:=[]) (GrowB.refl _ w) (fun b hb=>.inl hb) Al.nil (fun r hr=>by cases hr) (fun v hv=>by cases hv) (by simpa [hRl] using hown)
    simpa [hRl] using this
   rcases hnn with rfl | ⟨b,off,vn,rfl,hal,hnl,hvl,hone,hcell⟩
   ·exact empty rfl
   ·by_cases h00:news.length=0
    ·exact empty (List.eq_nil_of_length_eq_zero h00)
    ·obtain ⟨gg,cap,w',hr,ho,hg,hgg⟩:=qXC (P:=P) (w:=w) (base:=0) (ty:=ty) happ (v:=.slice ad rows.len c) (k:=rows.len) (ys:=vr.flatten) hown (ad:=⟨b,off,none⟩) (m:=news.length) (c:=cy) (news:=vn.flatten) (by omega) (by rw [qZW vn hvl,hal.1]) hcell
      (fun u hu=>by obtain ⟨r,hr,hur⟩:=List.mem_flatten.1 hu; exact hone r hr u hur) (by omega) (small _ hlen) (Nat.zero_le _)
     refine qYE (run hr) ?_;have hob:(Value.slice ad rows.len c).ownBlock=ad.map (·.block):=by cases ad <;> rfl
     rw [hob] at hg hgg
     have:=finish (ad':=some ⟨gg,0,none⟩) (c':=cap) (vn:=vn) (w':=w') ⟨hg.os,hg.tape,hg.output,hg.size,fun k hk hne=>hg.block k hk fun e=>hne e.symm⟩ (fun b hb => ?_) hal hnl hone (by rw [List.flatten_append,List.length_append,hRl]; exact ho)
     ·rw [List.length_append,hRl] at this; exact this
     ·simp only [Option.map_some,vQZ] at hb;subst hb;rcases hgg with hgg | hgg
      ·exact .inl hgg
      ·refine .inr ⟨hgg,?_⟩;rcases ho.2 with ⟨hx,_⟩ | ⟨g2,cap2,cur,hsl2,_,hg2,_⟩
       ·cases hx
       ·simp only [Value.slice.injEq,vQZ,Addr.mk.injEq,and_true] at hsl2;rw [hsl2.1]; exact qZC hg2
  | _=>simp only at he; cases he
end
end Go.Rx
namespace Go.Rx
open Go.RowKit Go.Sx
section
variable {P:Program} {E:Env} {C:Cx} {ρ:Own} {F:Nat→Prop} {σ:St} {a:Act} {w:World} {vs:List RV} {e:Eff}
variable {d:Option Tmp} {ty:TypeId} {pos:String} {af:Array Edge} {g:Option (Nat × Bool)}
theorem zQE {e:Eff} {rs:Regs} {id:Nat} {ent:Ent} {dst:Option Nat} (hup:e.up=[(id,some ent)]) (hsb:e.sb=[]) (hid:id ∉ rs.map (·.1)):Eqv ((σ.apply (.frz rs .un) none).apply e dst) (σ.apply (e.and rs) dst):=by
 have e1:(Eff.frz rs .un).up=rs.map fun r=>(r.1,none):=by cases rs <;> rfl
 have e2:(Eff.frz rs .un).sb=rs.map fun r=>(r.1,some r.2):=by cases rs <;> rfl
 have e3:(e.and rs).up=e.up ++ rs.map fun r=>(r.1,none):=by cases rs <;> simp [Eff.and]
 have e4:(e.and rs).sb=rs.map fun r=>(r.1,some r.2):=by cases rs <;> simp [Eff.and,hsb]
 have e5:(e.and rs).x=e.x:=by cases rs <;> rfl
 have ap:∀ (l l':List (Nat × Option Ent)) i,uQ (l ++ l') i=match uQ l' i with | some y=>some y | none=>uQ l i:=by
  intro l l' i;induction l with
  | nil=>simp only [List.nil_append]; cases uQ l' i <;> rfl
  | cons x l ih =>
   simp only [List.cons_append,uQ,ih];cases uQ l' i <;> rfl
 refine ⟨fun t => ?_,fun i => ?_⟩
 ·rw [qJH,qJH,qJH,e4,e5,e2,hsb];by_cases h:dst=some t
  ·rw [if_pos h,if_pos h]
  ·rw [if_neg h,if_neg h,if_neg (by simp)];cases qQB σ.S t <;> simp [HV.sub_nil]
 ·rw [qYQ,qYQ,qYQ,e1,e2,e3,e4,hsb,ap,hup,qXU];by_cases hm:i ∈ rs.map (·.1)
  ·have hne:¬ id=i:=fun e=>hid (e ▸ hm)
   cases hu:uQ (rs.map fun r=>(r.1,(none:Option Ent))) i with
   | none=>exact absurd hm (up_none_iff.1 hu)
   | some x=>obtain ⟨rfl,_⟩:=jUK hu; simp [hne]
  ·rw [up_none_iff.2 hm];by_cases hi:id=i
   ·simp [hi]
   ·simp only [if_neg hi];cases yK σ.M i <;> simp [Ent.sub_nil]
theorem kUY (a:Act) (v:Value):a.put none v=a:=rfl
theorem Rel'.froze (h:Rel' E C.n ρ F σ a w) (rs:Regs) (hrs:∀ r ∈ rs,∃ e sz,yK σ.M r.1=some (.reg e sz r.2)):Rel' E C.n (frzρ rs ρ) (frzF rs ρ F) (σ.apply (.frz rs .un) none) a w:=by
 have:=h.frz rs hrs (x:=.un) (v:=undef) (dst:=none) rfl trivial
 rwa [kUY] at this
theorem zWQ {rs:Regs} {id:Nat} (h:id ∉ rs.map (·.1)):frzρ rs ρ id=ρ id:=by simp only [frzρ,if_neg h]
theorem kGX {rs:Regs} {id e' sz:Nat} {rows:Rows} (h:id ∉ rs.map (·.1)) (hl:yK σ.M id=some (.reg e' sz rows)):yK (σ.apply (.frz rs .un) none).M id=some (.reg e' sz rows):=by
 have e1:(Eff.frz rs .un).up=rs.map fun r=>(r.1,none):=by cases rs <;> rfl
 rw [qYQ,e1,up_none_iff.2 h,hl]; rfl
theorem yQL {rs:Regs} {id:Nat} (h:yK σ.M id=none) (hrs:∀ r ∈ rs,∃ e sz,yK σ.M r.1=some (.reg e sz r.2)):yK (σ.apply (.frz rs .un) none).M id=none∧id ∉ rs.map (·.1):=by
 have hn:id ∉ rs.map (·.1):=fun hm=>by
  obtain ⟨r,hr,rfl⟩:=List.mem_map.1 hm;obtain ⟨e',sz,hl⟩:=hrs r hr;rw [h] at hl; cases hl
 have e1:(Eff.frz rs .un).up=rs.map fun r=>(r.1,none):=by cases rs <;> rfl
 exact ⟨by rw [qYQ,e1,up_none_iff.2 hn,h]; rfl,hn⟩
theorem zZV (h:Rel' E C.n ρ F σ a w) (rs:Regs) {r:RV} {c:List PV × Regs} {v:Value} (hc:r.pcells=some c) (hr:RH ρ F w r.back v) (hres:RRes σ.M r) (hin:∀ x ∈ c.2,x ∈ rs) :
  Al (RP (frzF rs ρ F) w) c.1 v.cells.toList∧(∀ u ∈ v.cells.toList,u.oneCell'=true)∧∀ x ∈ c.2,∃ e sz,yK σ.M x.1=some (.reg e sz x.2):=by
 have hF:∀ k,F k→frzF rs ρ F k∧w.heap[k]? = w.heap[k]?:=fun k hk=>⟨.inl hk,rfl⟩
 cases r with
 | v p =>
  cases p with
  | t cs=>cases hc
  | a cs =>
   cases hc;obtain ⟨us,rfl,hal,h1⟩:=qHG hr;exact ⟨show Al _ cs us from hal.imp fun _ _ _ h=>h.mono hF,fun u hu=>h1 u hu,fun x hx=>by cases hx⟩
  | lf n f =>
   cases hc;have hm:=RP.mono hF hr;have hr2:=yYH hr;generalize (List.range n).map f=rows at hr2;cases hr2 <;> exact ⟨Al.cons hm Al.nil,fun u hu=>by simp [Value.cells] at hu; subst hu; rfl,fun x hx=>by cases hx⟩
  | zf n f j o =>
   cases hc;have hm:=RP.mono hF hr;obtain ⟨_,b,off,sz,g,rfl,_⟩:=yXA hr;exact ⟨Al.cons hm Al.nil,fun u hu=>by simp [Value.cells] at hu; subst hu; rfl,fun x hx=>by cases hx⟩
  | _ =>
   cases hc;have hr2:RP F w _ v:=hr;have hm:=hr2.mono hF;cases hr2 <;> exact ⟨Al.cons hm Al.nil,fun u hu=>by simp [Value.cells] at hu; subst hu; rfl,fun x hx=>by cases hx⟩
 | nl =>
  cases hc
  have:v=.slice none 0 0:=hr
  subst this;exact ⟨Al.cons (.l0 _ _) Al.nil,fun u hu=>by simp [Value.cells] at hu; subst hu; rfl,fun x hx=>by cases hx⟩
 | o id e' sz rows =>
  cases hc;have hr2:=hr;obtain ⟨ad,c',k,sz',hρ,rfl⟩:=hr2
  have:=(qZA (h.mem.ent id _ hres) (F':=frzF rs ρ F) (fun k hk=>.inl hk) (fun L b hL hb=>.inr ⟨id,L,List.mem_map.2 ⟨(id,rows),hin _ (by simp),rfl⟩,hL,hb⟩) ad c' k sz' hρ).1
  exact ⟨Al.cons this Al.nil,fun u hu=>by simp [Value.cells] at hu; subst hu; rfl,fun x hx=>by simp at hx; subst hx; exact ⟨e',sz,hres⟩⟩
 | _=>cases hc
theorem zUF (h:Rel' E C.n ρ F σ a w) (rs:Regs):∀ {vs:List RV} {us:List Value} {r:List (List PV) × Regs},yJZ vs=some r→Al (fun r v=>RH ρ F w r.back v) vs us→(∀ x ∈ vs,RRes σ.M x)→(∀ x ∈ r.2,x ∈ rs) →
  Al (fun ps (v:Value)=>Al (RP (frzF rs ρ F) w) ps v.cells.toList∧∀ u ∈ v.cells.toList,u.oneCell'=true) r.1 us∧∀ x ∈ r.2,∃ e sz,yK σ.M x.1=some (.reg e sz x.2)
 | [],us,r,hp,hal,_,_=>by cases hp; rw [hal.nil_left]; exact ⟨Al.nil,fun x hx=>by cases hx⟩
 | x :: xs,us,r,hp,hal,hres,hin=>by
  simp only [yJZ,vQQ,vQZ] at hp;obtain ⟨c,hc,r',hr',rfl⟩:=hp;obtain ⟨u,us',rfl,hu,hal'⟩:=hal.cons_left;have hcat:∀ y,y ∈ (match c.2 with | []=>r'.2 | q=>q ++ r'.2) ↔ y ∈ c.2 ∨ y ∈ r'.2:=fun y=>by cases hc2:c.2 <;> simp [or_assoc]
  obtain ⟨p1,p2,p3⟩:=zZV h rs hc hu (hres x vZQ) (fun y hy=>hin y ((hcat y).2 (.inl hy)));obtain ⟨q1,q2⟩:=zUF h rs hr' hal' (fun y hy=>hres y (vQH _ hy)) (fun y hy=>hin y ((hcat y).2 (.inr hy)));exact ⟨Al.cons ⟨p1,p2⟩ q1,fun y hy=>by rcases (hcat y).1 hy with h | h; exact p3 y h; exact q2 y h⟩
theorem zVY {cs vs:List Value} {off:Nat} (h:off + vs.length≤cs.length):qYL cs off vs=some (cs.take off ++ vs ++ cs.drop (off + vs.length)):=by
 induction cs generalizing off vs with
 | nil =>
  simp at h;obtain ⟨rfl,rfl⟩:=h;rfl
 | cons c cs ih =>
  cases off with
  | zero =>
   cases vs with
   | nil=>simp [qYL]
   | cons v vs=>simp at h; simp [qYL,ih (off:=0) (vs:=vs) (by omega),qWD]
  | succ off=>simp at h; simp [qYL,ih (off:=off) (vs:=vs) (by omega),qWD,show off + 1 + vs.length=off + vs.length + 1 by omega]
variable {α:Type} {R:α→Value→Prop}
theorem yZY {pl:List (Nat × Nat)}:∀ {cells:List α} {is:List Nat} {ps:List (List α)} {cs:List α} {zs us:List Value},kQU pl cells is ps=some cs→Al (fun p v=>R p v∧v.oneCell'=true) cells zs→Al (fun ps (v:Value)=>Al R ps v.cells.toList∧∀ u ∈ v.cells.toList,u.oneCell'=true) ps us →
  ∃ ws,qGK pl zs (is.zip us)=some ws∧Al (fun p v=>R p v∧v.oneCell'=true) cs ws
 | cells,[],[],cs,zs,us,hf,hz,hu=>by cases hf; rw [hu.nil_left]; exact ⟨zs,rfl,hz⟩
 | cells,i :: is,p :: ps,cs,zs,us,hf,hz,hu=>by
  obtain ⟨u,us',rfl,⟨hu1,hu2⟩,hu'⟩:=hu.cons_left;simp only [kQU,vQQ] at hf;obtain ⟨x,hx,hf⟩:=hf;obtain ⟨hb,hf⟩:=qQ hf;simp only [vQQ] at hf;obtain ⟨cs',hcs,hf⟩:=hf;obtain ⟨e1,e2⟩:=qVQ hcs;have hlen:u.cells.toList.length=p.length:=hu1.1.symm;have hz2:Al (fun p v=>R p v∧v.oneCell'=true) cs' (zs.take x.1 ++ u.cells.toList ++ zs.drop (x.1 + u.cells.toList.length)):=by
   rw [e1,hlen];refine ((hz.take _).append ?_).append (hz.drop _);exact ⟨hu1.1,fun j q v hq hv=>⟨hu1.2 j q v hq hv,hu2 v (vQG hv)⟩⟩
  obtain ⟨ws,h1,h2⟩:=yZY hf hz2 hu';refine ⟨ws,?_,h2⟩;obtain ⟨off,size⟩:=x;simp only [List.zip_cons_cons,qGK,hx];have hbe:Nat.beq u.cells.size size=true:=by
   have:u.cells.size=p.length:=by rw [← hlen]; simp
   rw [this]; exact hb
  rw [hbe,vYV,zVY (by rw [hlen,← hz.1]; exact e2)];exact h1
 | _,[],_ :: _,_,_,_,hf,_,_=>by cases hf
 | _,_ :: _,[],_,_,_,hf,_,_=>by cases hf
theorem yZX {S:yV}:∀ {ps:List (Nat × Operand)} {us:List Value},evs S (ps.map (·.2))=some us→evp S ps=some ((ps.map (·.1)).zip us)
 | [],us,h=>by cases h; rfl
 | (i,x) :: ps,us,h=>by
  simp only [List.map_cons,evs] at h;cases hx:ev S x with
  | none=>rw [hx] at h; cases h
  | some v =>
   rw [hx] at h;obtain ⟨l,hl,rfl⟩:=qQC h;simp [evp,hx,yZX hl,qWD]
theorem jXB {p:PV} {v:Value} (h:RP F w p v):RHc ρ F w p.toC v:=by
 cases p with
 | zs=>cases h; rfl
 | _=>exact h
theorem jKC {r:RV} {c:List HC} {v:Value} (hc:r.ccells=some c) (hr:RH ρ F w r.back v):Al (RHc ρ F w) c v.cells.toList∧∀ u ∈ v.cells.toList,u.oneCell'=true:=by
 cases r with
 | v p =>
  cases p with
  | t cs=>cases hc
  | a cs =>
   cases hc;obtain ⟨us,rfl,hal,h1⟩:=qHG hr;exact ⟨Al.map_left (show Al (fun z y=>RHc ρ F w (PV.toC z) y) cs us from hal.imp fun _ _ _ h=>jXB h),fun u hu=>h1 u hu⟩
  | lf n f =>
   cases hc;have hm:RP F w (.lf n f) v:=hr;have hr2:=yYH hr;generalize (List.range n).map f=rows at hr2;cases hr2 <;> exact ⟨Al.cons hm Al.nil,fun u hu=>by simp [Value.cells] at hu; subst hu; rfl⟩
  | zf n f j o =>
   cases hc;have hm:RP F w (.zf n f j o) v:=hr;obtain ⟨_,b,off,sz,g,rfl,_⟩:=yXA hr;exact ⟨Al.cons hm Al.nil,fun u hu=>by simp [Value.cells] at hu; subst hu; rfl⟩
  | zs =>
   cases hc;have hr2:RP F w .zs v:=hr;cases hr2;exact ⟨Al.cons (rfl:RHc ρ F w .nl _) Al.nil,fun u hu=>by simp [Value.cells] at hu; subst hu; rfl⟩
  | _ =>
   cases hc;have hr2:RP F w _ v:=hr;have hm:=hr2;cases hr2 <;> exact ⟨Al.cons hm Al.nil,fun u hu=>by simp [Value.cells] at hu; subst hu; rfl⟩
 | nl =>
  cases hc
  have:v=.slice none 0 0:=hr
  subst this;exact ⟨Al.cons (rfl:RHc ρ F w .nl _) Al.nil,fun u hu=>by simp [Value.cells] at hu; subst hu; rfl⟩
 | o id e' sz rows =>
  cases hc;have hr2:=hr;obtain ⟨ad,c',k,sz',hρ,rfl⟩:=hr2;exact ⟨Al.cons (⟨ad,c',k,sz',hρ,rfl⟩:RHc ρ F w (.o id) _) Al.nil,fun u hu=>by simp [Value.cells] at hu; subst hu; rfl⟩
 | w x =>
  cases x with
  | ag cs =>
   cases hc;obtain ⟨us,rfl,hal,h1⟩:=hr;exact ⟨hal,h1⟩
  | _=>cases hc
 | _=>cases hc
theorem zGG:∀ {vs:List RV} {us:List Value} {r:List (List HC)},mapO RV.ccells vs=some r→Al (fun r v=>RH ρ F w r.back v) vs us →
  Al (fun ps (v:Value)=>Al (RHc ρ F w) ps v.cells.toList∧∀ u ∈ v.cells.toList,u.oneCell'=true) r us
 | [],us,r,hp,hal=>by cases hp; rw [hal.nil_left]; exact Al.nil
 | x :: xs,us,r,hp,hal=>by
  simp only [mapO,vQQ,vQZ] at hp;obtain ⟨c,hc,r',hr',rfl⟩:=hp;obtain ⟨u,us',rfl,hu,hal'⟩:=hal.cons_left;exact Al.cons (jKC hc hu) (zGG hr' hal')
theorem kXD {t:TypeId} {ps:Array (Nat × Operand)} (hT:TabOk P C.T) (h:Rel' E C.n ρ F σ a w) (hd:dstB C.n d=true) (hvs:mapO (opv 0 σ) ((ps.toList.map (·.2)).toArray).toList=some vs) (he:zH C.T C.cA C.cB C.me (d.getD 0) (.build t ps) vs=some e):OK P E C σ a w e ⟨d,.build t ps,ty,pos,af,g⟩:=by
 rw [show ((ps.toList.map (·.2)).toArray).toList=ps.toList.map (·.2) from rfl] at hvs;obtain ⟨us,u1,u2,u3⟩:=zKQ h hvs;simp only [zH,vQQ,vQZ] at he;obtain ⟨zs,hzs,pl,hpl,he⟩:=he;obtain ⟨z,hly,hzal⟩:=hT.ly t pl hpl;cases hag:(C.T.agf C.me && vs.any RV.isO) with
 | true =>
  rw [hag,vYV] at he;simp only [vQQ,vQZ] at he;obtain ⟨r,hr,cs,hcs,rfl⟩:=he;obtain ⟨ws,f1,f2⟩:=yZY (R:=RHc ρ F w) hcs (Al.map_left ((hzal zs hzs).imp fun _ _ _ h=>⟨jXB (h.1 F w),h.2⟩)) (zGG hr u2);have hop:OpV P ⟨w,[]⟩ (actS a) [] ⟨d,.build t ps,ty,pos,af,g⟩ (.agg ws.toArray):=by
   have:=qKX (P:=P) (w0:=⟨w,[]⟩) (H:=[]) (d:=d) (ty:=ty) (pos:=pos) (af:=af) (g:=g) hly (yZX u1) f1
   simpa using this
  refine jU h hop ?_ hd;exact ⟨ws,rfl,f2.imp fun _ _ _ h=>h.1,fun v hv=>by
   obtain ⟨i,hi⟩:=List.mem_iff_getElem?.1 hv;have hil:=(List.getElem?_eq_some_iff.1 hi).1;have hl:i < cs.length:=by rw [f2.1]; exact hil
   exact (f2.2 i _ v (vQK hl) hi).2⟩
 | false =>
 rw [hag,vYG] at he;simp only [vQQ,vQZ] at he;obtain ⟨r,hr,cs,hcs,rfl⟩:=he;obtain ⟨p1,p2⟩:=zUF h r.2 hr u2 u3 (fun x hx=>hx);obtain ⟨ws,f1,f2⟩:=yZY (R:=RP (frzF r.2 ρ F) w) hcs ((hzal zs hzs).imp fun _ _ _ h=>⟨h.1 _ _,h.2⟩) p1;have hop:OpV P ⟨w,[]⟩ (actS a) [] ⟨d,.build t ps,ty,pos,af,g⟩ (.agg ws.toArray):=by
  have:=qKX (P:=P) (w0:=⟨w,[]⟩) (H:=[]) (d:=d) (ty:=ty) (pos:=pos) (af:=af) (g:=g) hly (yZX u1) f1
  simpa using this
 refine jUI r.2 h p2 hop ?_ hd;exact RP.a cs ws f2.1 (fun v hv=>by
  obtain ⟨i,hi⟩:=List.mem_iff_getElem?.1 hv;have hil:=(List.getElem?_eq_some_iff.1 hi).1;have hl:i < cs.length:=by rw [f2.1]; exact hil
  exact (f2.2 i _ v (vQK hl) hi).2) (fun i p v hp hv=>(f2.2 i p v hp hv).1)
end
end Go.Rx
namespace Go.Rx
open Go.RowKit Go.Sx
section
variable {P:Program} {E:Env} {C:Cx} {ρ:Own} {F:Nat→Prop} {σ:St} {a:Act} {w:World} {vs:List RV} {e:Eff}
variable {d:Option Tmp} {ty:TypeId} {pos:String} {af:Array Edge} {g:Option (Nat × Bool)}
theorem yYB (zs:List Value):∀ len,rowZ zs len=(List.replicate len zs).flatten
 | 0=>rfl
 | k + 1=>by simp [rowZ,yYB zs k,List.replicate_succ]
theorem jXG {len sz i:Nat} (h:i < len):(zWD len sz)[i]? = some (i * sz,sz):=by
 simp [zWD,h]
theorem yKB {R:PV→Value→Prop} {sz len:Nat}:∀ {is:List Nat} {ps rows rows':List (List PV)} {vr:List (List Value)} {us:List Value},kGV sz rows is ps=some rows'→rows.length=len→(∀ r ∈ rows,r.length=sz)→Al (Al (fun p v=>R p v∧v.oneCell'=true)) rows vr →
  Al (fun ps (v:Value)=>Al R ps v.cells.toList∧∀ u ∈ v.cells.toList,u.oneCell'=true) ps us →
  ∃ vr',qGK (zWD len sz) vr.flatten (is.zip us)=some vr'.flatten∧Al (Al (fun p v=>R p v∧v.oneCell'=true)) rows' vr'∧(∀ r ∈ rows',r.length=sz)∧rows'.length=len
 | [],[],rows,rows',vr,us,hf,hl,hr,hal,hu=>by cases hf; rw [hu.nil_left]; exact ⟨vr,rfl,hal,hr,hl⟩
 | i :: is,p :: ps,rows,rows',vr,us,hf,hl,hr,hal,hu=>by
  obtain ⟨u,us',rfl,⟨hu1,hu2⟩,hu'⟩:=hu.cons_left;simp only [kGV] at hf;obtain ⟨hb,hf⟩:=qQ hf;rw [vQJ] at hb;have hi:i < rows.length:=by simpa using hb.1
  have hp:=vQX hb.2;have hvl:∀ r ∈ vr,r.length=sz:=fun r hrv=>by
   obtain ⟨k,hk⟩:=List.mem_iff_getElem?.1 hrv;have hkl:=(List.getElem?_eq_some_iff.1 hk).1;have hlt:k < rows.length:=by rw [hal.1]; exact hkl
   have:=hal.2 k _ r (vQK hlt) hk
   rw [← this.1]; exact hr _ (List.getElem_mem hlt)
  have hul:u.cells.toList.length=sz:=by rw [← hu1.1]; exact hp
  have hiv:i < vr.length:=by rw [← hal.1]; exact hi
  have hrow:Al (fun p v=>R p v∧v.oneCell'=true) p u.cells.toList:=⟨hu1.1,fun j q v hq hv=>⟨hu1.2 j q v hq hv,hu2 v (vQG hv)⟩⟩
  obtain ⟨vr',h1,h2,h3,h4⟩:=yKB (len:=len) hf (by simpa using hl) (fun r hrr=>by
   rcases List.mem_or_eq_of_mem_set hrr with h | h
   ·exact hr r h
   ·rw [h]; exact hp) (hal.set hrow i) hu'
  refine ⟨vr',?_,h2,h3,h4⟩;simp only [List.zip_cons_cons,qGK,jXG (show i < len by omega)];have hbe:Nat.beq u.cells.size sz=true:=by
   have:u.cells.size=sz:=by rw [← hul]; simp
   rw [this]; exact Nat.beq_refl _
  have hfl:=qZW vr hvl;have hle:i * sz + sz≤vr.length * sz:=by
   have:=Nat.mul_le_mul_right sz (show i + 1≤vr.length from hiv)
   rw [Nat.add_mul] at this; omega
  rw [hbe,vYV,zVY (by rw [hul,hfl]; exact hle),hul,← zJE vr i u.cells.toList hvl hiv hul];exact h1
 | [],_ :: _,_,_,_,_,hf,_,_,_,_=>by cases hf
 | _ :: _,[],_,_,_,_,hf,_,_,_,_=>by cases hf
theorem jGA {α β:Type} {R:α→β→Prop} {xs:List α} {ys:List β} (h:Al R xs ys) {y:β} (hy:y ∈ ys):∃ x ∈ xs,R x y:=by
 obtain ⟨k,hk⟩:=List.mem_iff_getElem?.1 hy;have hkl:=(List.getElem?_eq_some_iff.1 hk).1;have hlt:k < xs.length:=by rw [h.1]; exact hkl
 exact ⟨_,List.getElem_mem hlt,h.2 k _ y (vQK hlt) hk⟩
theorem yXG {P:Program} {t e size len:Nat} {z:Value} {parts:List (Nat × Value)} {cs:List Value} (hs:slcB P t e size=true) (hz:qJY P e z) (hzs:Nat.beq z.cells.size size=true) (h0:Nat.blt 0 size=true) (hl:Nat.ble (len * size) 16777216=true)
  (hf:qGK (zWD len size) (rowZ z.cells.toList len) parts=some cs) (w:World) :
  (Instr.buildSlice t len parts.toArray).run P w=.ok (.slice (some ⟨w.heap.size,0,none⟩) len len) (w.alloc (.cells cs.toArray e)):=by
 cases len with
 | succ len=>exact zVJ hs hz hzs h0 hl (by simp) hf w
 | zero =>
  cases parts with
  | cons p ps=>obtain ⟨i,v⟩:=p; simp [qGK,zWD] at hf
  | nil =>
   simp [qGK,rowZ] at hf;subst hf;unfold slcB at hs;cases hu:P.underlying t with
   | none=>simp [hu] at hs
   | some ds =>
    cases ds <;> simp [hu] at hs
    rename_i e';obtain ⟨rfl,h2⟩:=hs;cases hi:P.info? e' with
    | none=>simp [hi] at h2
    | some inf =>
     simp [hi] at h2;have hsz:(sizeOf e').run P w=.ok size w:=by simp [sizeOf,typeInfo,hi,h2]
     simp only [Instr.buildSlice,Sem.run_bind,run_underlying hu,Result.andThen_ok,hsz,Sem.run_ite];rw [if_neg (by omega)];simp [Instr.fill,newRow];congr;exact Array.eq_empty_of_size_eq_zero (by simp)
theorem jVK {t:TypeId} {len:Nat} {ps:Array (Nat × Operand)} (hT:TabOk P C.T) (h:Rel' E C.n ρ F σ a w) (hd:dstB C.n d=true) (hvs:mapO (opv 0 σ) ((ps.toList.map (·.2)).toArray).toList=some vs) (he:zH C.T C.cA C.cB C.me (d.getD 0) (.buildSlice t len ps) vs=some e) (hn:∀ i ∈ e.nw,yK σ.M i=none) :
  OK P E C σ a w e ⟨d,.buildSlice t len ps,ty,pos,af,g⟩:=by
 rw [show ((ps.toList.map (·.2)).toArray).toList=ps.toList.map (·.2) from rfl] at hvs;obtain ⟨us,u1,u2,u3⟩:=zKQ h hvs;simp only [zH,vQQ] at he;obtain ⟨⟨el,sz⟩,hsl,zs,hzs,r,hr,he⟩:=he;obtain ⟨hb,he⟩:=qQ he;simp only [vQQ,vQZ] at he;obtain ⟨rows,hrows,rfl⟩:=he;obtain ⟨hslc,hs0,hsk,bytes,happ,hby,_⟩:=hT.sl t el sz hsl;obtain ⟨z,hz,hzal⟩:=hT.zr el zs hzs;obtain ⟨_,i0,z',hi0,hz',hisz,_,hzc,hzl,_⟩:=zKU happ hz;have hzlen:z.cells.toList.length=sz:=hzl;have hzs2:zs.length=sz:=by rw [hzal.1]; exact hzlen
 obtain ⟨p1,p2⟩:=zUF h r.2 hr u2 u3 (fun x hx=>hx);have hnw:=hn (d.getD 0) (by cases hr2:r.2 <;> simp [Eff.and,Eff.new,hr2]);have hrepl:(qWB zs len).length=len:=by rw [(Al.repl (R:=fun _ _=>True) (y:=()) trivial len).1]; simp
 have hmr:∀ r ∈ qWB zs len,r.length=sz:=fun r hr=>by
  have:∀ k,r ∈ qWB zs k→r=zs:=fun k=>by
   induction k with
   | zero=>intro h; cases h
   | succ k ih=>intro h; rcases List.mem_cons.1 h with h | h; exact h; exact ih h
  rw [this _ hr]; exact hzs2
 obtain ⟨vr,f1,f2,f3,f4⟩:=yKB (R:=RP (frzF r.2 ρ F) w) (len:=len) hrows hrepl hmr (Al.repl (hzal.imp fun _ _ _ h=>⟨h.1 _ _,h.2⟩) len) p1;rw [← yYB] at f1;have hzsz:z.cells.size=sz:=by rw [← hzlen]; simp
 have hrun:=yXG (P:=P) hslc hz (by rw [hzsz]; exact Nat.beq_refl _) (by simpa using hs0) hb f1 w;have hvl:∀ x ∈ vr,x.length=sz:=fun x hx=>by obtain ⟨y,hy,hal⟩:=jGA f2 hx; rw [← hal.1]; exact f3 y hy
 have hx:(execOp a.eval ⟨d,.buildSlice t len ps,ty,pos,af,g⟩).run P w=.ok (.value (.slice (some ⟨w.heap.size,0,none⟩) len len)) (w.alloc (.cells vr.flatten.toArray el)):=by
  have hev:ps.map (fun (x:Nat × Operand)=>(x.1,a.eval x.2))=((ps.toList.map (·.1)).zip us).toArray:=by
   obtain ⟨e1,_⟩:=yZW (yZX u1);rw [← e1];have hk:=qVI u1;rw [← Array.toArray_toList (xs:=ps.map _),Array.toList_map]
   congr 1
   refine List.map_congr_left fun x hx => ?_
   have:=hk.2 x.2 (List.mem_map.2 ⟨x,hx,rfl⟩)
   obtain ⟨v,hv⟩:=Option.isSome_iff_exists.1 this;rw [qZD h hv,yY hv]
  simp only [execOp,hev,Sem.run_bind,hrun];rfl
 refine qYE hx ?_;have h1:=h.froze r.2 p2;obtain ⟨hl1,hl2⟩:=yQL hnw p2;have hNw:(bif C.T.bf C.me then (Rows.l rows).toF zs else Rows.l rows).L=rows:=by
  cases C.T.bf C.me with
  | true=>exact Rows.toF_L zs (Rows.l rows)
  | false=>rfl
 have:=qHB (nw:=bif C.T.bf C.me then (Rows.l rows).toF zs else Rows.l rows) (rows:=rows) (hN:=hNw) (C:=C) (id:=d.getD 0) (e':=el) (sz:=sz) (c:=len) (ad:=some ⟨w.heap.size,0,none⟩) (vr:=vr) h1 hd hl1 ((Grow.refl w).alloc (.cells vr.flatten.toArray el)) (fun b hb => ?_) hs0 (f2.imp fun _ _ _ h=>h.imp fun _ _ _ h=>h.1) f3 (fun v hv u hu => ?_)
  ⟨by rw [qZW vr hvl,f2.1],.inr ⟨w.heap.size,len,vr.flatten.toArray,by rw [f4],Nat.zero_le _,?_,?_,?_,?_,?_⟩⟩
 ·rw [f4] at this;exact this.eqv (zQE (ent:=.reg el sz (bif C.T.bf C.me then (Rows.l rows).toF zs else Rows.l rows)) rfl rfl hl2)
 ·simp only [Option.map_some,vQZ] at hb;subst hb;exact ⟨Nat.le_refl _,by show w.heap.size < (w.heap.push _).size; simp⟩
 ·obtain ⟨x,_,hal⟩:=jGA f2 hv;obtain ⟨y,_,hy⟩:=jGA hal hu;exact hy.2
 ·show (w.heap.push _)[w.heap.size]? = _; simp
 ·rw [f4]; exact Nat.le_refl _
 ·have h6:len * sz≤16777216:=vZX hb;show len≤9223372036854775807
  have:len≤len * sz:=Nat.le_mul_of_pos_right _ hs0
  omega
 ·rw [List.size_toArray,qZW vr hvl,← f2.1,f4]
 ·rw [List.toList_toArray,List.take_of_length_le]; rw [qZW vr hvl,← f2.1]; exact Nat.le_refl _
theorem kUI {t:TypeId} {x:Operand} (hT:TabOk P C.T) (h:Rel' E C.n ρ F σ a w) (hd:dstB C.n d=true) (hvs:mapO (opv 0 σ) [x]=some vs) (he:zH C.T C.cA C.cB C.me (d.getD 0) (.range t x) vs=some e) (hn:∀ i ∈ e.nw,yK σ.M i=none):OK P E C σ a w e ⟨d,.range t x,ty,pos,af,g⟩:=by
 obtain ⟨r,hr,rfl⟩:=qGY hvs;obtain ⟨v,h1,h2,h3⟩:=jW h hr;cases r with
 | v p =>
  cases p with
  | s s =>
   simp only [zH] at he;obtain ⟨hb,he⟩:=qQ he;cases he;have hu:=hT.str t hb;rw [qGU h2] at h1;have hrun:(execOp a.eval ⟨d,.range t x,ty,pos,af,g⟩).run P w=.ok (.value (.pointer (some ⟨w.heap.size,0,none⟩))) (w.alloc (.stringIter s 0)):=by
    simp [execOp,qZD h h1,Instr.range,run_underlying hu,jYL]
   refine qYE hrun ⟨updO ρ (d.getD 0) (.blk w.heap.size),F,h.new (ent:=.itr s 0) (x:=.p (d.getD 0) 0) (L:=.blk w.heap.size) (hn _ (by simp [Eff.new])) ((Grow.refl w).alloc _) (fun b hb => ?_) ⟨w.heap.size,kX _ _ _,?_⟩ ⟨w.heap.size,kX _ _ _,rfl⟩ hd⟩
   ·simp only [Loc.bl,vQZ] at hb;subst hb;exact ⟨Nat.le_refl _,by show w.heap.size < (w.heap.push _).size; simp⟩
   ·show (w.heap.push _)[w.heap.size]? = _; simp
  | _=>simp only [zH] at he; cases he
 | _=>simp only [zH] at he; cases he
theorem uWI {x:Operand} {b:Bool} (h:Rel' E C.n ρ F σ a w) (hd:dstB C.n d=true) (hvs:mapO (opv 0 σ) [x]=some vs) (he:zH C.T C.cA C.cB C.me (d.getD 0) (.next x b) vs=some e):OK P E C σ a w e ⟨d,.next x b,ty,pos,af,g⟩:=by
 obtain ⟨r,hr,rfl⟩:=qGY hvs;obtain ⟨v,h1,h2,h3⟩:=jW h hr;cases b with
 | false=>simp only [zH] at he; cases he
 | true =>
  cases r with
  | i id off s p =>
   cases off with
   | succ off=>simp only [zH] at he; cases he
   | zero =>
    obtain ⟨b,hρ,rfl⟩:=h2;obtain ⟨b2,hρ2,hF⟩:=h.mem.ent id _ h3;rw [hρ] at hρ2;cases hρ2;simp only [zH] at he;cases hp:decide (p < s.size) with
    | true =>
     rw [hp] at he;cases he;have hp':=vJZ hp;have hrun:(execOp a.eval ⟨d,.next x true,ty,pos,af,g⟩).run P w=.ok (.value (.tuple #[.bool true,.int .i64 (p:Int),.int .i32 ((Utf8.decode s p).1:Int)])) { w with heap:=w.heap.setIfInBounds b (.stringIter s (p + (Utf8.decode s p).2)) }:=by
      simp [execOp,qZD h h1,Instr.next,zUW hF,yXV _ hF,hp',goInt]
     refine qYE hrun ⟨ρ,F,h.set (ent:=.itr s (p + (Utf8.decode s p).2)) hρ rfl yYX ⟨b,hρ,by simp [qZC hF]⟩ ?_ hd⟩;exact RP.t _ [.bool true,.int .i64 (p:Int),.int .i32 ((Utf8.decode s p).1:Int)] rfl (fun i q u hq hu=>by
      match i with
      | 0=>simp at hq hu; subst hq; subst hu; exact .b _
      | 1=>simp at hq hu; subst hq; subst hu; exact .n _ _
      | 2=>simp at hq hu; subst hq; subst hu; exact .n _ _
      | i + 3=>simp at hq)
    | false =>
     rw [hp] at he;cases he;have hp':=vJY hp;have hrun:(execOp a.eval ⟨d,.next x true,ty,pos,af,g⟩).run P w=.ok (.value (.tuple #[.bool false])) w:=by
      simp [execOp,qZD h h1,Instr.next,zUW hF,hp']
     refine qYE hrun ⟨ρ,F,h.val (Grow.refl w) (fun _ h=>h) (fun _ h=>.inl h) ?_ hd⟩;exact RP.t _ [.bool false] rfl (fun i q u hq hu=>by
      match i with
      | 0=>simp at hq hu; subst hq; subst hu; exact .b _
      | i + 1=>simp at hq)
  | _=>simp only [zH] at he; cases he
theorem yXZ {sz j off:Nat} {vr:List (List Value)} {r vals:List Value} (hvl:∀ x ∈ vr,x.length=sz) (hr:vr[j]? = some r) (_:off + vals.length≤sz) :
  (vr.set j (r.take off ++ vals ++ r.drop (off + vals.length))).flatten=vr.flatten.take (j * sz + off) ++ vals ++ vr.flatten.drop (j * sz + off + vals.length):=by
 have hj:=(List.getElem?_eq_some_iff.1 hr).1;have hrl:=hvl r (vQG hr);have hnew:(r.take off ++ vals ++ r.drop (off + vals.length)).length=sz:=by simp; omega
 rw [zJE vr j _ hvl hj hnew];have hre:r=(vr.flatten.drop (j * sz)).take sz:=by
  refine List.ext_getElem? fun k => ?_
  rw [vZV,List.getElem?_drop];split
  ·rename_i hk;rw [qVF vr hvl j r hr k hk]
  ·rename_i hk;exact List.getElem?_eq_none (by omega)
 have hfl:=qZW vr hvl;have hle:j * sz + sz≤vr.flatten.length:=by
  rw [hfl]
  have:=Nat.mul_le_mul_right sz (show j + 1≤vr.length from hj)
  rw [Nat.add_mul] at this; omega
 have e1:vr.flatten.take (j * sz + off)=vr.flatten.take (j * sz) ++ r.take off:=by
  rw [List.take_add,hre,List.take_take,Nat.min_eq_left (by omega)]
 have e2:vr.flatten.drop (j * sz + off + vals.length)=r.drop (off + vals.length) ++ vr.flatten.drop (j * sz + sz):=by
  rw [Nat.add_assoc,← List.drop_drop,← List.drop_drop (i:=sz)]
  conv=>lhs; rw [← List.take_append_drop sz (vr.flatten.drop (j * sz)),← hre]
  rw [List.drop_append_of_le_length (by omega)]
 rw [e1,e2];simp [List.append_assoc]
end
end Go.Rx

/- Part 10 of the texts behind the last one: rules and contracts. No condition. -/
import Derived.Test.YtgmbkkkbfbocnaaGreatKL9
open Option renaming bind_eq_some_iff → vQQ
open Option.some renaming injEq → vQZ
open Bool renaming and_eq_true → vQJ
open List renaming mem_of_getElem? → vQG, getElem?_map → vZY
open Nat renaming eq_of_beq_eq_true → vQX
namespace Go.Rx
open Go.RowKit Go.Sx
theorem zJJ {α β:Type} {f:α→Option β} {x:α} {ys:List β} (h:mapO f [x]=some ys):∃ y,f x=some y∧ys=[y]:=by
 simp only [mapO,vQQ,vQZ] at h;obtain ⟨y,hy,zs,rfl,rfl⟩:=h;exact ⟨y,hy,rfl⟩
theorem jXV {α β:Type} {f:α→Option β} {x x':α} {ys:List β} (h:mapO f [x,x']=some ys):∃ y y',f x=some y∧f x'=some y'∧ys=[y,y']:=by
 simp only [mapO,vQQ,vQZ] at h;obtain ⟨y,hy,zs,⟨y',hy',zs',rfl,rfl⟩,rfl⟩:=h;exact ⟨y,y',hy,hy',rfl⟩
theorem mapO3 {α β:Type} {f:α→Option β} {x x' x'':α} {ys:List β} (h:mapO f [x,x',x'']=some ys):∃ y y' y'',f x=some y∧f x'=some y'∧f x''=some y''∧ys=[y,y',y'']:=by
 simp only [mapO,vQQ,vQZ] at h;obtain ⟨y,hy,zs,⟨y',hy',zs',⟨y'',hy'',zs'',rfl,rfl⟩,rfl⟩,rfl⟩:=h;exact ⟨y,y',y'',hy,hy',hy'',rfl⟩
theorem qY {α:Type} {c:Bool} {x:Option α} {y:α} (h:(bif c then x else none)=some y):c=true∧x=some y:=by
 cases c with
 | true=>exact ⟨rfl,h⟩
 | false=>cases h
section
variable {P:Program} {E:Env} {C:Cx} {ρ:Own} {F:Nat→Prop} {σ:St} {a:Act} {w:World} {vs:List RV} {e:Eff}
variable {d:Option Tmp} {ty:TypeId} {pos:String} {af:Array Edge} {g:Option (Nat × Bool)}
def OK (P:Program) (E:Env) (C:Cx) (σ:St) (a:Act) (w:World) (e:Eff) (o:Oper):Prop:=Goes P o a w (fun u w'=>Rel E C.n (σ.apply e o.dst) (a.put o.dst u) w')
theorem ok_move {x:Operand} (h:Rel' E C.n ρ F σ a w) (hd:dstB C.n d=true) (hvs:mapO (opv 1 σ) [x]=some vs) (he:zV C.T C.cA C.cB C.me (d.getD 0) (.move x) vs=some e):OK P E C σ a w e ⟨d,.move x,ty,pos,af,g⟩:=by
 obtain ⟨r,hr,rfl⟩:=zJJ hvs;obtain ⟨v,h1,h2,h3⟩:=yV h hr;cases he;exact jY h (qV h1) h2 hd
theorem ok_assign {x:Operand} (h:Rel' E C.n ρ F σ a w) (hd:dstB C.n d=true) (hvs:mapO (opv 1 σ) [x]=some vs) (he:zV C.T C.cA C.cB C.me (d.getD 0) (.assign x) vs=some e):OK P E C σ a w e ⟨d,.assign x,ty,pos,af,g⟩:=by
 obtain ⟨r,hr,rfl⟩:=zJJ hvs;obtain ⟨v,h1,h2,h3⟩:=yV h hr;cases he;exact jY h (qH h1) h2 hd
theorem qGU {x:Bool} {v:Value} (h:RP F w (.b x) v):v=.bool x:=by cases h; rfl
theorem qJJ {k:IntKind} {x:Int} {v:Value} (h:RP F w (.n k x) v):v=.int k x:=by cases h; rfl
theorem zJU {x:ByteArray} {v:Value} (h:RP F w (.s x) v):v=.string x:=by cases h; rfl
theorem zGJ {cs:List PV} {v:Value} (h:RP F w (.a cs) v):∃ vs:List Value,v=.agg vs.toArray∧Al (RP F w) cs vs∧∀ u ∈ vs,u.oneCell'=true:=by
 cases h with
 | a _ vs hl h1 h=>exact ⟨vs,rfl,⟨hl,h⟩,h1⟩
theorem rp_tup {cs:List PV} {v:Value} (h:RP F w (.t cs) v):∃ vs:List Value,v=.tuple vs.toArray∧Al (RP F w) cs vs:=by
 cases h with
 | t _ vs hl h=>exact ⟨vs,rfl,hl,h⟩
theorem ok_pick {c x y:Operand} (h:Rel' E C.n ρ F σ a w) (hd:dstB C.n d=true) (hvs:mapO (opv 1 σ) [c,x,y]=some vs) (he:zV C.T C.cA C.cB C.me (d.getD 0) (.pick c x y) vs=some e):OK P E C σ a w e ⟨d,.pick c x y,ty,pos,af,g⟩:=by
 obtain ⟨rc,rx,ry,hc,hx,hy,rfl⟩:=mapO3 hvs;obtain ⟨vc,c1,c2,_⟩:=yV h hc;obtain ⟨vx,x1,x2,_⟩:=yV h hx;obtain ⟨vy,y1,y2,_⟩:=yV h hy;cases rc with
 | v p =>
  cases p with
  | b t =>
   cases he;rw [qGU c2] at c1;cases t with
   | true=>exact jY h (opV_pick_t c1 rfl x1 y1) x2 hd
   | false=>exact jY h (zWK c1 rfl x1 y1) y2 hd
  | _=>cases he
 | _=>cases he
theorem ok_not {t:TypeId} {x:Operand} (h:Rel' E C.n ρ F σ a w) (hd:dstB C.n d=true) (hvs:mapO (opv 0 σ) [x]=some vs) (he:zV C.T C.cA C.cB C.me (d.getD 0) (.unOp .not t x) vs=some e):OK P E C σ a w e ⟨d,.unOp .not t x,ty,pos,af,g⟩:=by
 obtain ⟨r,hr,rfl⟩:=zJJ hvs;obtain ⟨v,h1,h2,h3⟩:=yV h hr;cases r with
 | v p =>
  cases p with
  | b b =>
   cases he;rw [qGU h2] at h1;exact jY h (yZZ h1) (.b _) hd
  | _=>cases he
 | _=>cases he
theorem ok_neg {t:TypeId} {x:Operand} (h:Rel' E C.n ρ F σ a w) (hd:dstB C.n d=true) (hvs:mapO (opv 0 σ) [x]=some vs) (he:zV C.T C.cA C.cB C.me (d.getD 0) (.unOp .neg t x) vs=some e):OK P E C σ a w e ⟨d,.unOp .neg t x,ty,pos,af,g⟩:=by
 obtain ⟨r,hr,rfl⟩:=zJJ hvs;obtain ⟨v,h1,h2,h3⟩:=yV h hr;cases r with
 | v p =>
  cases p with
  | n k b =>
   cases he;rw [qJJ h2] at h1;exact jY h (opV_neg h1 rfl) (.n _ _) hd
  | _=>cases he
 | _=>cases he
theorem opV_neqB {S:yZ} {H:Heap} {w0:Base} {x y:Operand} {t t':TypeId} {p q:Bool} (hb:P.underlying t=some .bool) (hx:ev S x=some (.bool p)) (hy:ev S y=some (.bool q)):OpV P w0 S H ⟨d,.binOp .neq t x y t',ty,pos,af,g⟩ (.bool (!(p == q))) :=
 jJ (by simp [yK,Op.operands,hx,hy]) rfl fun w _=>by
  have:=run_neq_bool (P:=P) (w:=w) t p q hb
  simp [execOp,zG hx,zG hy,eqGuard,this]
theorem opV_neqS {S:yZ} {H:Heap} {w0:Base} {x y:Operand} {t t':TypeId} {p q:ByteArray} (hb:P.underlying t=some .string) (hx:ev S x=some (.string p)) (hy:ev S y=some (.string q)):OpV P w0 S H ⟨d,.binOp .neq t x y t',ty,pos,af,g⟩ (.bool (!(p.toList == q.toList))) :=
 jJ (by simp [yK,Op.operands,hx,hy]) rfl fun w _=>by simp [execOp,zG hx,zG hy,eqGuard,binOp,Op.stringOp]
theorem opV_nil {S:yZ} {H:Heap} {w0:Base} {x y:Operand} {t t' el:TypeId} {ad:Option Addr} {n c:Nat} {op:BinOp} {r:Bool} (hu:P.underlying t=some (.slice el)) (hx:ev S x=some (.slice ad n c)) (hy:ev S y=some (.slice none 0 0)) (hop:(op=.eql∧r=ad.isNone) ∨ (op=.neq∧r = !ad.isNone)) :
  OpV P w0 S H ⟨d,.binOp op t x y t',ty,pos,af,g⟩ (.bool r) :=
 jJ (by simp [yK,Op.operands,hx,hy]) rfl fun w _=>by
  rcases hop with ⟨rfl,rfl⟩ | ⟨rfl,rfl⟩
  ·have:=run_equal_slice_nil (P:=P) w t el ad n c hu
   simp [execOp,zG hx,zG hy,eqGuard,binOp,this]
  ·have:=run_neq_slice_nil (P:=P) w t el ad n c hu
   simp [execOp,zG hx,zG hy,eqGuard,this]
theorem binI_spec {op:BinOp} {k:IntKind} {x y:Int} {r:PV} {S:yZ} {H:Heap} {w0:Base} {p q:Operand} {t t':TypeId} (hr:binI op k x y=some r) (hx:ev S p=some (.int k x)) (hy:ev S q=some (.int k y)) :
  ∃ v,OpV P w0 S H ⟨d,.binOp op t p q t',ty,pos,af,g⟩ v∧RP F w r v:=by
 cases op <;> first | (cases hr; done) | skip
 all_goals first
  | (cases hr; exact ⟨_,qJG hx hy rfl,.n _ _⟩)
  | (cases hr; exact ⟨_,yZQ hx hy rfl,.n _ _⟩)
  | (cases hr; exact ⟨_,qHX hx hy rfl,.n _ _⟩)
  | (cases hr; exact ⟨_,opV_and hx hy rfl,.n _ _⟩)
  | (cases hr; exact ⟨_,qWU hx hy,.b _⟩)
  | (cases hr; exact ⟨_,opV_leq hx hy,.b _⟩)
  | (cases hr; exact ⟨_,opV_gtr hx hy,.b _⟩)
  | (cases hr; exact ⟨_,opV_geq hx hy,.b _⟩)
  | (cases hr; exact ⟨_,opV_eql hx hy,.b _⟩)
  | (cases hr; exact ⟨_,yZY hx hy,.b _⟩)
  | (simp only [binI] at hr
     cases hz:decide (y=0) with
     | true=>rw [hz] at hr; cases hr
     | false =>
      rw [hz] at hr; cases hr
      have:y ≠ 0:=vJY hz
      first | exact ⟨_,yUU hx hy this rfl,.n _ _⟩ | exact ⟨_,zWJ hx hy this rfl,.n _ _⟩)
theorem zKV {F:Nat→Prop} {w:World} {ks:List Kd}:∀ {xs ys:List PV} {us vs:List Value} {e:Bool},yYG xs ys=some e→Al (RP F w) xs us→Al (RP F w) ys vs→eqCells us vs=e
 | [],[],us,vs,e,h,hx,hy=>by rw [hx.nil_left,hy.nil_left]; cases h; rfl
 | x :: xs,y :: ys,us,vs,e,h,hx,hy=>by
  simp only [yYG,vQQ,vQZ] at h;obtain ⟨e1,h1,e2,h2,rfl⟩:=h;obtain ⟨u,us',rfl,hu,hx'⟩:=hx.cons_left;obtain ⟨v,vs',rfl,hv,hy'⟩:=hy.cons_left;simp only [eqCells,zKV (ks:=ks) h2 hx' hy']
  congr 1
  cases x <;> cases y <;> first | (cases h1; done) | skip
  ·rw [qJJ hu,qJJ hv]; cases h1; rfl
  ·rw [qGU hu,qGU hv]; cases h1; rfl
  ·rw [zJU hu,zJU hv]; cases h1; rfl
 | [],_ :: _,_,_,_,h,_,_=>by cases h
 | _ :: _,[],_,_,_,h,_,_=>by cases h
theorem ok_bin {op:BinOp} {t t':TypeId} {x y:Operand} (hT:TabOk P C.T) (h:Rel' E C.n ρ F σ a w) (hd:dstB C.n d=true) (hvs:mapO (opv 0 σ) [x,y]=some vs) (he:zV C.T C.cA C.cB C.me (d.getD 0) (.binOp op t x y t') vs=some e):OK P E C σ a w e ⟨d,.binOp op t x y t',ty,pos,af,g⟩:=by
 obtain ⟨rx,ry,hx,hy,rfl⟩:=jXV hvs;obtain ⟨vx,x1,x2,_⟩:=yV h hx;obtain ⟨vy,y1,y2,_⟩:=yV h hy;cases rx with
 | v p =>
  cases ry with
  | v q =>
   have he:((binP C.T op t p q).bind fun r=>some (Eff.val (.v r)))=some e:=he;simp only [vQQ,vQZ] at he;obtain ⟨r,hr,rfl⟩:=he;have x2:RP F w p vx:=x2;have y2:RP F w q vy:=y2
   suffices hs:∃ v,OpV P ⟨w,[]⟩ (actS a) [] ⟨d,.binOp op t x y t',ty,pos,af,g⟩ v∧RP F w r v by
    obtain ⟨v,h1,h2⟩:=hs;exact jY h h1 h2 hd
   unfold binP at hr;split at hr
   ·obtain ⟨hb,hr⟩:=qY hr;cases hr;rw [qJJ x2] at x1; rw [qJJ y2] at y1;exact ⟨_,opV_shl x1 y1 (vJZ hb) rfl,.n _ _⟩
   ·obtain ⟨hb,hr⟩:=qY hr;cases hr;rw [qJJ x2] at x1; rw [qJJ y2] at y1;exact ⟨_,jZX x1 y1 (vJZ hb) rfl,.n _ _⟩
   ·obtain ⟨hb,hr2⟩:=qY hr
    have:=vJZ hb
    subst this;rw [qJJ x2] at x1; rw [qJJ y2] at y1;exact binI_spec hr2 x1 y1
   ·obtain ⟨hb,hr⟩:=qY hr;cases hr;rw [zJU x2] at x1; rw [zJU y2] at y1;exact ⟨_,opV_eqlS (hT.str t hb) x1 y1,.b _⟩
   ·obtain ⟨hb,hr⟩:=qY hr;cases hr;rw [zJU x2] at x1; rw [zJU y2] at y1;exact ⟨_,opV_neqS (hT.str t hb) x1 y1,.b _⟩
   ·obtain ⟨hb,hr⟩:=qY hr;cases hr;rw [qGU x2] at x1; rw [qGU y2] at y1;exact ⟨_,opV_eqlB (hT.bo t hb) x1 y1,.b _⟩
   ·obtain ⟨hb,hr⟩:=qY hr;cases hr;rw [qGU x2] at x1; rw [qGU y2] at y1;exact ⟨_,opV_neqB (hT.bo t hb) x1 y1,.b _⟩
   ·simp only [vQQ] at hr;obtain ⟨ks,hks,hr⟩:=hr;obtain ⟨hb,hr⟩:=qY hr;simp only [vQQ,vQZ] at hr;obtain ⟨b,hb2,rfl⟩:=hr;rw [vQJ] at hb;obtain ⟨us,rfl,hu,_⟩:=zGJ x2;obtain ⟨ws,rfl,hw,_⟩:=zGJ y2;obtain ⟨hag,hce⟩:=hT.eqK t ks hks;refine ⟨_,opV_eqA 12 rfl hag x1 y1 (hce us ⟨_,F,w,hb.1,hu⟩) (hce ws ⟨_,F,w,hb.2,hw⟩),?_⟩;rw [zKV (ks:=ks) hb2 hu hw]; exact .b _
   ·simp only [vQQ] at hr;obtain ⟨ks,hks,hr⟩:=hr;obtain ⟨hb,hr⟩:=qY hr;simp only [vQQ,vQZ] at hr;obtain ⟨b,hb2,rfl⟩:=hr;rw [vQJ] at hb;obtain ⟨us,rfl,hu,_⟩:=zGJ x2;obtain ⟨ws,rfl,hw,_⟩:=zGJ y2;obtain ⟨hag,hce⟩:=hT.eqK t ks hks;refine ⟨_,opV_neA 12 rfl hag x1 y1 (hce us ⟨_,F,w,hb.1,hu⟩) (hce ws ⟨_,F,w,hb.2,hw⟩),?_⟩;rw [zKV (ks:=ks) hb2 hu hw]; exact .b _
   ·cases hr
  | nl =>
   simp only [zV,vQQ,vQZ] at he;obtain ⟨⟨el,sz⟩,hsl,r,hr,rfl⟩:=he;obtain ⟨hslc,_⟩:=hT.sl t el sz hsl;have hu:P.underlying t=some (.slice el):=by
    unfold slcB at hslc;split at hslc
    ·rename_i e' hu;rw [vQJ] at hslc
     have:e'=el:=by simpa using hslc.1
     rw [hu,this]
    ·cases hslc
   have y2:vy=.slice none 0 0:=y2;subst y2;have x2:RP F w p vx:=x2;unfold nilCmp at hr;split at hr
   ·cases hr;cases x2 with
    | l=>exact jY h (opV_nil hu x1 y1 (.inl ⟨rfl,rfl⟩)) (RP.b _) hd
   ·cases hr;cases x2 with
    | l=>exact jY h (opV_nil hu x1 y1 (.inr ⟨rfl,rfl⟩)) (RP.b _) hd
   ·cases hr
  | _=>cases he
 | _=>cases he
end
end Go.Rx
namespace Go.Sx
open Go.RowKit
theorem splice_take {ys rest vs:List Value} {p s:Nat} (h:p + s≤ys.length) (hv:vs.length=s):((ys ++ rest).take p ++ vs ++ (ys ++ rest).drop (p + s)).take ys.length=ys.take p ++ vs ++ ys.drop (p + s):=by
 have e1:(ys ++ rest).take p=ys.take p:=List.take_append_of_le_length (by omega);have e2:(ys ++ rest).drop (p + s)=ys.drop (p + s) ++ rest:=List.drop_append_of_le_length h;have hl:(ys.take p ++ vs ++ ys.drop (p + s)).length=ys.length:=by simp; omega
 rw [e1,e2,← List.append_assoc,← hl,List.take_left]
section
variable {P:Program} {n:Nat} {w0:Base} {ops:Array Oper} {Q:Exit→Act→World→Prop} {S:yZ} {H:Heap}
variable {ty:TypeId} {pos:String} {af:Array Edge} {g:Option (Nat × Bool)} {rest:List Oper}
end
end Go.Sx
namespace Go.Rx
open Go.RowKit Go.Sx
theorem takeL_spec {α:Type} {cs:List α} {k:Nat} {vs:List α} (h:jXQ cs k=some vs):vs=cs.take k∧k≤cs.length:=by
 induction k generalizing cs vs with
 | zero=>simp [jXQ] at h; simp [h]
 | succ k ih =>
  cases cs with
  | nil=>simp [jXQ] at h
  | cons c cs =>
   simp only [jXQ,vQQ,vQZ] at h;obtain ⟨ws,hw,rfl⟩:=h;obtain ⟨e,hl⟩:=ih hw;simp [← e,hl]
theorem qVJ {α:Type} {cs:List α} {off k:Nat} {vs:List α} (h:qGZ cs off k=some vs):vs=(cs.drop off).take k∧off + k≤cs.length:=by
 induction off generalizing cs with
 | zero =>
  have:=takeL_spec (by simpa [qGZ] using h)
  simpa using this
 | succ off ih =>
  cases cs with
  | nil=>simp [qGZ] at h
  | cons c cs =>
   have:=ih (by simpa [qGZ] using h)
   simp [this.1]; omega
theorem zZX {α:Type} {cs:List α} {off:Nat} {vs cs':List α} (h:qUK cs off vs=some cs') :
  cs'=cs.take off ++ vs ++ cs.drop (off + vs.length)∧off + vs.length≤cs.length:=by
 induction cs generalizing off vs cs' with
 | nil =>
  cases off with
  | zero=>cases vs with
   | nil=>simp [qUK] at h; simp [h]
   | cons v vs=>simp [qUK] at h
  | succ off=>simp [qUK] at h
 | cons c cs ih =>
  cases off with
  | zero=>cases vs with
   | nil=>simp [qUK] at h; simp [h]
   | cons v vs =>
    simp only [qUK,vQQ,vQZ] at h;obtain ⟨ws,hw,rfl⟩:=h;obtain ⟨e,hl⟩:=ih hw;simp at e hl ⊢;exact ⟨e,hl⟩
  | succ off =>
   simp only [qUK,vQQ,vQZ] at h;obtain ⟨ws,hw,rfl⟩:=h;obtain ⟨e,hl⟩:=ih hw;simp [e,show off + 1 + vs.length=(off + vs.length) + 1 by omega]; omega
section
variable {P:Program} {E:Env} {C:Cx} {ρ:Own} {F:Nat→Prop} {σ:St} {a:Act} {w:World} {vs:List RV} {e:Eff}
variable {d:Option Tmp} {ty:TypeId} {pos:String} {af:Array Edge} {g:Option (Nat × Bool)}
theorem rp_z {rows:List (List PV)} {j o:Nat} {v:Value} (h:RP F w (.z rows j o) v):∃ (b off sz:Nat) (g:Nat→Nat→Value),v=.pointer (some ⟨b,off + (j * sz + o),none⟩)∧(∀ r ∈ rows,r.length=sz)∧F b ∧
  (∀ j t,j < rows.length→t < sz→w.cell? ⟨b,off + (j * sz + t),none⟩=some (g j t)∧(g j t).oneCell'=true)∧(∀ (j:Nat) r (t:Nat) p,rows[j]? = some r→r[t]? = some p→RP F w p (g j t)):=by
 cases h with
 | z _ b off sz _ _ g hs hF hc h=>exact ⟨b,off,sz,g,rfl,hs,hF,hc,h⟩
theorem rp_c {cells:List PV} {o:Nat} {v:Value} (h:RP F w (.c cells o) v):∃ b ty vs,v=.pointer (some ⟨b,o,none⟩)∧F b∧w.heap[b]? = some (.cells vs.toArray ty)∧Al (RP F w) cells vs∧∀ u ∈ vs,u.oneCell'=true:=by
 cases h with
 | c _ vs b _ ty hF hb hl h1 h=>exact ⟨b,ty,vs,rfl,hF,hb,⟨hl,h⟩,h1⟩
theorem zKY {rows:List (List PV)} {b off sz:Nat} {g:Nat→Nat→Value} (hs:∀ r ∈ rows,r.length=sz) (hF:F b)
  (hc:∀ j t,j < rows.length→t < sz→w.cell? ⟨b,off + (j * sz + t),none⟩=some (g j t)∧(g j t).oneCell'=true) (h:∀ (j:Nat) r (t:Nat) p,rows[j]? = some r→r[t]? = some p→RP F w p (g j t))
  {j o x:Nat} (hx:x=off + (j * sz + o)):RP F w (.z rows j o) (.pointer (some ⟨b,x,none⟩)):=by
 subst hx; exact .z rows b off sz j o g hs hF hc h
theorem jZZ {n:Nat} {f:Nat→List PV} {v:Value} (h:RP F w (.lf n f) v):RP F w (.l ((List.range n).map f)) v:=by
 cases h with
 | lf _ _ _ h=>exact h
theorem jXK {n:Nat} {f:Nat→List PV} {j o:Nat} {v:Value} (h:RP F w (.zf n f j o) v):j < n∧∃ (b off sz:Nat) (g:Nat→Nat→Value),v=.pointer (some ⟨b,off + (j * sz + o),none⟩)∧(∀ r ∈ (List.range n).map f,r.length=sz)∧F b ∧
  (∀ j t,j < ((List.range n).map f).length→t < sz→w.cell? ⟨b,off + (j * sz + t),none⟩=some (g j t)∧(g j t).oneCell'=true)∧∀ (j:Nat) r (t:Nat) p,((List.range n).map f)[j]? = some r→r[t]? = some p→RP F w p (g j t):=by
 cases h with
 | zf _ _ _ _ _ hj h=>exact ⟨hj,rp_z h⟩
theorem opV_nilC {S:yZ} {H:Heap} {w0:Base} {x:Operand} {ad:Addr} (hx:ev S x=some (.pointer (some ad))):OpV P w0 S H ⟨d,.nilCheck x,ty,pos,af,g⟩ (.pointer (some ad)):=opV_nilCheck hx
theorem ok_nil {x:Operand} (h:Rel' E C.n ρ F σ a w) (hd:dstB C.n d=true) (hvs:mapO (opv 1 σ) [x]=some vs) (he:zV C.T C.cA C.cB C.me (d.getD 0) (.nilCheck x) vs=some e):OK P E C σ a w e ⟨d,.nilCheck x,ty,pos,af,g⟩:=by
 obtain ⟨r,hr,rfl⟩:=zJJ hvs;obtain ⟨v,h1,h2,h3⟩:=yV h hr
 suffices hs:∃ ad,v=.pointer (some ad)∧e=.val r.back by
  obtain ⟨ad,rfl,rfl⟩:=hs;exact jY h (opV_nilC h1) h2 hd
 cases r with
 | v p =>
  cases p with
  | z rows j o=>cases he; obtain ⟨b,off,sz,g,rfl,_⟩:=rp_z h2; exact ⟨_,rfl,rfl⟩
  | c cells o=>cases he; obtain ⟨b,ty,vs,rfl,_⟩:=rp_c h2; exact ⟨_,rfl,rfl⟩
  | zf n f j o=>cases he; obtain ⟨_,b,off,sz,g,rfl,_⟩:=jXK h2; exact ⟨_,rfl,rfl⟩
  | _=>cases he
 | w x =>
  cases x with
  | p id off=>cases he; obtain ⟨b,_,rfl⟩:=h2; exact ⟨_,rfl,rfl⟩
  | q id j off=>cases he; obtain ⟨b,c,k,sz,_,_,rfl⟩:=h2; exact ⟨_,rfl,rfl⟩
  | _=>cases he
 | _=>cases he
theorem ok_fieldAddr {t:TypeId} {f:Nat} {x:Operand} (hT:TabOk P C.T) (h:Rel' E C.n ρ F σ a w) (hd:dstB C.n d=true) (hvs:mapO (opv 1 σ) [x]=some vs) (he:zV C.T C.cA C.cB C.me (d.getD 0) (.fieldAddr t x f) vs=some e):OK P E C σ a w e ⟨d,.fieldAddr t x f,ty,pos,af,g⟩:=by
 obtain ⟨r,hr,rfl⟩:=zJJ hvs;obtain ⟨v,h1,h2,h3⟩:=yV h hr;cases hf:C.T.fd t f with
 | none=>simp only [zV,hf] at he; cases he
 | some o =>
  have hF:=hT.fd t f o hf;cases r with
  | v p =>
   cases p with
   | z rows j off =>
    simp only [zV,hf] at he; cases he;obtain ⟨b,off0,sz,g,rfl,q1,q2,q3,q4⟩:=rp_z h2;exact jY h (zW hF h1) (zKY q1 q2 q3 q4 (by omega)) hd
   | c cells off =>
    simp only [zV,hf] at he; cases he;obtain ⟨b,ty',vs,rfl,q1,q2,q3,q4⟩:=rp_c h2;exact jY h (zW hF h1) (RP.c cells vs b _ ty' q1 q2 q3.1 q4 q3.2) hd
   | zf n f j off =>
    simp only [zV,hf] at he; cases he;obtain ⟨hj,b,off0,sz,g,rfl,q1,q2,q3,q4⟩:=jXK h2;exact jY h (zW hF h1) (RP.zf _ _ _ _ _ hj (zKY q1 q2 q3 q4 (by omega))) hd
   | _=>simp only [zV,hf] at he; cases he
  | w x =>
   cases x with
   | p id off=>simp only [zV,hf] at he; cases he; obtain ⟨b,q,rfl⟩:=h2; exact jY h (zW hF h1) ⟨b,q,rfl⟩ hd
   | q id j off=>simp only [zV,hf] at he; cases he; obtain ⟨b,c,k,sz,q,hj,rfl⟩:=h2; exact jY h (zW hF h1) ⟨b,c,k,sz,q,hj,by rw [Nat.add_assoc]⟩ hd
   | _=>simp only [zV,hf] at he; cases he
  | _=>simp only [zV,hf] at he; cases he
theorem qGK {i:Int} {n:Nat} (h:inB i n=true):0≤i∧i < n:=by
 simp only [inB,vQJ,decide_eq_true_eq] at h; omega
theorem ok_indexAddr {t:TypeId} {x y:Operand} (hT:TabOk P C.T) (h:Rel' E C.n ρ F σ a w) (hd:dstB C.n d=true) (hvs:mapO (opv 2 σ) [x,y]=some vs) (he:zV C.T C.cA C.cB C.me (d.getD 0) (.indexAddr t x y) vs=some e):OK P E C σ a w e ⟨d,.indexAddr t x y,ty,pos,af,g⟩:=by
 obtain ⟨rx,ry,hx,hy,rfl⟩:=jXV hvs;obtain ⟨vx,x1,x2,x3⟩:=yV h hx;obtain ⟨vy,y1,y2,_⟩:=yV h hy;cases ry with
 | v py =>
  cases py with
  | n k i =>
   rw [qJJ y2] at y1;have arr:∀ {b off len size:Nat} {x':HV},vx=.pointer (some ⟨b,off,none⟩)→arrB P t len size=true→inB i len=true→e=.val x'→RH ρ F w x' (.pointer (some ⟨b,off + i.toNat * size,none⟩))→OK P E C σ a w e ⟨d,.indexAddr t x y,ty,pos,af,g⟩:=by
    intro b off len size x' hv hA hi he hr;subst hv; subst he;obtain ⟨i0,i1⟩:=qGK hi;exact jY h (qHH hA x1 y1 i0 i1) hr hd
   cases rx with
   | v p =>
    cases p with
    | c cells off =>
     simp only [zV,vQQ] at he;obtain ⟨kk,hk,he⟩:=he;obtain ⟨hi,he⟩:=qY he;cases he;obtain ⟨b,ty',vs,hv,q1,q2,q3,q4⟩:=rp_c x2;exact arr hv (hT.ar t kk.1 kk.2.1 kk.2.2 hk).1 hi rfl (RP.c cells vs b _ ty' q1 q2 q3.1 q4 q3.2)
    | z rows j off =>
     simp only [zV,vQQ] at he;obtain ⟨kk,hk,he⟩:=he;obtain ⟨hi,he⟩:=qY he;cases he;obtain ⟨b,off0,sz,g,hv,q1,q2,q3,q4⟩:=rp_z x2;exact arr hv (hT.ar t kk.1 kk.2.1 kk.2.2 hk).1 hi rfl (zKY q1 q2 q3 q4 (by omega))
    | zf n f j off =>
     simp only [zV,vQQ] at he;obtain ⟨kk,hk,he⟩:=he;obtain ⟨hi,he⟩:=qY he;cases he;obtain ⟨hj,b,off0,sz,g,hv,q1,q2,q3,q4⟩:=jXK x2;exact arr hv (hT.ar t kk.1 kk.2.1 kk.2.2 hk).1 hi rfl (RP.zf _ _ _ _ _ hj (zKY q1 q2 q3 q4 (by omega)))
    | lf n f =>
     simp only [zV,vQQ] at he;obtain ⟨kk,hk,he⟩:=he;obtain ⟨hi,he⟩:=qY he;cases he;rw [vQJ] at hi;obtain ⟨i0,i1⟩:=qGK hi.1;have hl:=vQX hi.2;have hr:((List.range n).map f)[i.toNat]? = some (f i.toNat):=by
      rw [vZY,List.getElem?_range (by omega)]; rfl
     have x3:=jZZ x2;have hz:∀ v,RP F w (.z ((List.range n).map f) i.toNat 0) v→RP F w (.zf n f i.toNat 0) v:=fun v hv=>.zf _ _ _ _ _ (by omega) hv
     generalize (List.range n).map f=rows at hr x3 hz;have hlt:=(List.getElem?_eq_some_iff.1 hr).1;cases x3 with
     | l0=>simp at hr
     | l _ b off n c sz g hn hcap hs hF hc hh =>
      have hsz:sz=kk.2:=by rw [← hs _ (vQG hr)]; exact hl
      subst hn;refine jY h (qGX (hT.sl t kk.1 kk.2 hk).1 x1 y1 i0 (by omega)) (hz _ (zKY hs hF (fun j t hj ht=>hc j t hj ht) hh (by rw [hsz]; omega))) hd
    | l rows =>
     simp only [zV,vQQ] at he;obtain ⟨kk,hk,r,hr,he⟩:=he;obtain ⟨hi,he⟩:=qY he;cases he;simp only [vQJ,decide_eq_true_eq] at hi;obtain ⟨i0,hl⟩:=hi;have hl:=vQX hl;have hlt:=(List.getElem?_eq_some_iff.1 hr).1;cases x2 with
     | l0=>simp at hr
     | l _ b off n c sz g hn hcap hs hF hc hh =>
      have hsz:sz=kk.2:=by rw [← hs r (vQG hr)]; exact hl
      subst hn;refine jY h (qGX (hT.sl t kk.1 kk.2 hk).1 x1 y1 i0 (by omega)) (zKY hs hF (fun j t hj ht=>hc j t hj ht) hh (by rw [hsz]; omega)) hd
    | _=>simp only [zV] at he; cases he
   | o id e' sz rows =>
    simp only [zV,vQQ] at he;obtain ⟨kk,hk,he⟩:=he;obtain ⟨hi,he⟩:=qY he;cases he;rw [vQJ] at hi;obtain ⟨i0,i1⟩:=qGK hi.1;have hsz:=vQX hi.2;obtain ⟨ad,c,k',sz',hρ,rfl⟩:=x2;obtain ⟨ad2,c2,vr,hρ2,h0,hal,hrl,hone,hown⟩:=h.mem.ent id _ x3;rw [hρ] at hρ2;simp only [vQZ,Loc.reg.injEq] at hρ2;obtain ⟨rfl,rfl,rfl,rfl⟩:=hρ2;rcases hown.2 with ⟨hnil,h00⟩ | ⟨gg,cap,cur,hsl,_⟩
    ·omega
    ·simp only [Value.slice.injEq] at hsl;obtain ⟨rfl,_,rfl⟩:=hsl;refine jY h (qGX (hT.sl t kk.1 kk.2 hk).1 x1 y1 i0 i1) ⟨gg,c,rows.len,sz',hρ,by omega,by rw [Nat.zero_add,Nat.add_zero,hsz]⟩ hd
   | w xx =>
    cases xx with
    | p id off =>
     simp only [zV,vQQ] at he;obtain ⟨kk,hk,he⟩:=he;obtain ⟨hi,he⟩:=qY he;cases he;obtain ⟨b,q,hv⟩:=x2;exact arr hv (hT.ar t kk.1 kk.2.1 kk.2.2 hk).1 hi rfl ⟨b,q,rfl⟩
    | q id j off =>
     simp only [zV,vQQ] at he;obtain ⟨kk,hk,he⟩:=he;obtain ⟨hi,he⟩:=qY he;cases he;obtain ⟨b,c,k',sz,q,hj,hv⟩:=x2;exact arr hv (hT.ar t kk.1 kk.2.1 kk.2.2 hk).1 hi rfl ⟨b,c,k',sz,q,hj,by rw [Nat.add_assoc]⟩
    | _=>simp only [zV] at he; cases he
   | _=>simp only [zV] at he; cases he
  | _=>cases rx <;> (simp only [zV] at he; cases he)
 | _=>cases rx <;> (simp only [zV] at he; cases he)
theorem ok_extract {x:Operand} {i:Nat} (h:Rel' E C.n ρ F σ a w) (hd:dstB C.n d=true) (hvs:mapO (opv 0 σ) [x]=some vs) (he:zV C.T C.cA C.cB C.me (d.getD 0) (.extract x i) vs=some e):OK P E C σ a w e ⟨d,.extract x i,ty,pos,af,g⟩:=by
 obtain ⟨r,hr,rfl⟩:=zJJ hvs;obtain ⟨v,h1,h2,h3⟩:=yV h hr;cases r with
 | v p =>
  cases p with
  | t cs =>
   simp only [zV,vQQ] at he;obtain ⟨c,hc,he⟩:=he;cases he;obtain ⟨us,rfl,hu⟩:=rp_tup h2;obtain ⟨u,hu1,hu2⟩:=hu.get hc;exact jY h (opV_extract h1 (by simpa using hu1)) (yQV hu2) hd
  | _=>simp only [zV] at he; cases he
 | _=>simp only [zV] at he; cases he
end
end Go.Rx

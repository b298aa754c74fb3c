/- Part 4 of the texts behind the last one: rules and contracts. No condition. -/
import Derived.Test.YtbfcbojgnppacaaGreatMI3
open Option renaming bind_eq_some_iff → vQQ, map_eq_some_iff → vZW, bind_some → vYQ
open Option.some renaming injEq → vQZ
open Prod.mk renaming injEq → vQY
open Bool renaming and_eq_true → vQJ
open List renaming getElem?_eq_getElem → vQK, length_cons → vQW, mem_of_getElem? → vQG, mem_cons_of_mem → vQH, mem_cons_self → vZQ, getElem?_map → vZY, getElem?_take → vZV, getD_eq_getElem?_getD → vZG, mem_cons → vYZ, take_succ_cons → vYK
open Nat renaming eq_of_beq_eq_true → vQX, lt_of_lt_of_le → vZK
open Array renaming all_eq_true_iff_forall_mem → vYY
open Classical renaming propDecidable → vYJ
namespace Go.Rx
open Go.RowKit Go.Sx
theorem takeL_spec {α:Type} {cs:List α} {k:Nat} {vs:List α} (h:yKL cs k=some vs):vs=cs.take k∧k≤cs.length:=by
 induction k generalizing cs vs with
 | zero=>simp [yKL] at h; simp [h]
 | succ k ih =>
  cases cs with
  | nil=>simp [yKL] at h
  | cons c cs =>
   simp only [yKL,vQQ,vQZ] at h;obtain ⟨ws,hw,rfl⟩:=h;obtain ⟨e,hl⟩:=ih hw;simp [← e,hl]
theorem qKJ {α:Type} {cs:List α} {off k:Nat} {vs:List α} (h:qUK cs off k=some vs):vs=(cs.drop off).take k∧off + k≤cs.length:=by
 induction off generalizing cs with
 | zero =>
  have:=takeL_spec (by simpa [qUK] using h)
  simpa using this
 | succ off ih =>
  cases cs with
  | nil=>simp [qUK] at h
  | cons c cs =>
   have:=ih (by simpa [qUK] using h)
   simp [this.1]; omega
theorem qWI {α:Type} {cs:List α} {off:Nat} {vs cs':List α} (h:qZG cs off vs=some cs') :
  cs'=cs.take off ++ vs ++ cs.drop (off + vs.length)∧off + vs.length≤cs.length:=by
 induction cs generalizing off vs cs' with
 | nil =>
  cases off with
  | zero=>cases vs with
   | nil=>simp [qZG] at h; simp [h]
   | cons v vs=>simp [qZG] at h
  | succ off=>simp [qZG] at h
 | cons c cs ih =>
  cases off with
  | zero=>cases vs with
   | nil=>simp [qZG] at h; simp [h]
   | cons v vs =>
    simp only [qZG,vQQ,vQZ] at h;obtain ⟨ws,hw,rfl⟩:=h;obtain ⟨e,hl⟩:=ih hw;simp at e hl ⊢;exact ⟨e,hl⟩
  | succ off =>
   simp only [qZG,vQQ,vQZ] at h;obtain ⟨ws,hw,rfl⟩:=h;obtain ⟨e,hl⟩:=ih hw;simp [e,show off + 1 + vs.length=(off + vs.length) + 1 by omega]; omega
section
variable {P:Program} {E:Env} {C:Cx} {ρ:Own} {F:Nat→Prop} {σ:St} {a:Act} {w:World} {vs:List RV} {e:Eff}
variable {d:Option Tmp} {ty:TypeId} {pos:String} {af:Array Edge} {g:Option (Nat × Bool)}
theorem rp_z {rows:List (List PV)} {j o:Nat} {v:Value} (h:RP F w (.z rows j o) v):∃ (b off sz:Nat) (g:Nat→Nat→Value),v=.pointer (some ⟨b,off + (j * sz + o),none⟩)∧(∀ r ∈ rows,r.length=sz)∧F b ∧
  (∀ j t,j < rows.length→t < sz→w.cell? ⟨b,off + (j * sz + t),none⟩=some (g j t)∧(g j t).oneCell'=true)∧(∀ (j:Nat) r (t:Nat) p,rows[j]? = some r→r[t]? = some p→RP F w p (g j t)):=by
 cases h with
 | z _ b off sz _ _ g hs hF hc h=>exact ⟨b,off,sz,g,rfl,hs,hF,hc,h⟩
theorem rp_c {cells:List PV} {o:Nat} {v:Value} (h:RP F w (.c cells o) v):∃ b ty vs,v=.pointer (some ⟨b,o,none⟩)∧F b∧w.heap[b]? = some (.cells vs.toArray ty)∧Al (RP F w) cells vs∧∀ u ∈ vs,u.oneCell'=true:=by
 cases h with
 | c _ vs b _ ty hF hb hl h1 h=>exact ⟨b,ty,vs,rfl,hF,hb,⟨hl,h⟩,h1⟩
theorem qGH {rows:List (List PV)} {b off sz:Nat} {g:Nat→Nat→Value} (hs:∀ r ∈ rows,r.length=sz) (hF:F b)
  (hc:∀ j t,j < rows.length→t < sz→w.cell? ⟨b,off + (j * sz + t),none⟩=some (g j t)∧(g j t).oneCell'=true) (h:∀ (j:Nat) r (t:Nat) p,rows[j]? = some r→r[t]? = some p→RP F w p (g j t))
  {j o x:Nat} (hx:x=off + (j * sz + o)):RP F w (.z rows j o) (.pointer (some ⟨b,x,none⟩)):=by
 subst hx; exact .z rows b off sz j o g hs hF hc h
theorem yQX {n:Nat} {f:Nat→List PV} {v:Value} (h:RP F w (.lf n f) v):RP F w (.l ((List.range n).map f)) v:=by
 cases h with
 | lf _ _ _ h=>exact h
theorem yYQ {n:Nat} {f:Nat→List PV} {j o:Nat} {v:Value} (h:RP F w (.zf n f j o) v):j < n∧∃ (b off sz:Nat) (g:Nat→Nat→Value),v=.pointer (some ⟨b,off + (j * sz + o),none⟩)∧(∀ r ∈ (List.range n).map f,r.length=sz)∧F b ∧
  (∀ j t,j < ((List.range n).map f).length→t < sz→w.cell? ⟨b,off + (j * sz + t),none⟩=some (g j t)∧(g j t).oneCell'=true)∧∀ (j:Nat) r (t:Nat) p,((List.range n).map f)[j]? = some r→r[t]? = some p→RP F w p (g j t):=by
 cases h with
 | zf _ _ _ _ _ hj h=>exact ⟨hj,rp_z h⟩
theorem opV_nilC {S:yU} {H:Heap} {w0:Base} {x:Operand} {ad:Addr} (hx:ev S x=some (.pointer (some ad))):OpV P w0 S H ⟨d,.nilCheck x,ty,pos,af,g⟩ (.pointer (some ad)):=opV_nilCheck hx
theorem ok_nil {x:Operand} (h:Rel' E C.n ρ F σ a w) (hd:dstB C.n d=true) (hvs:mapO (opv 1 σ) [x]=some vs) (he:zU C.T C.cA C.cB C.me (d.getD 0) (.nilCheck x) vs=some e):OK P E C σ a w e ⟨d,.nilCheck x,ty,pos,af,g⟩:=by
 obtain ⟨r,hr,rfl⟩:=qGK hvs;obtain ⟨v,h1,h2,h3⟩:=jY h hr
 suffices hs:∃ ad,v=.pointer (some ad)∧e=.val r.back by
  obtain ⟨ad,rfl,rfl⟩:=hs;exact yW h (opV_nilC h1) h2 hd
 cases r with
 | v p =>
  cases p with
  | z rows j o=>cases he; obtain ⟨b,off,sz,g,rfl,_⟩:=rp_z h2; exact ⟨_,rfl,rfl⟩
  | c cells o=>cases he; obtain ⟨b,ty,vs,rfl,_⟩:=rp_c h2; exact ⟨_,rfl,rfl⟩
  | zf n f j o=>cases he; obtain ⟨_,b,off,sz,g,rfl,_⟩:=yYQ h2; exact ⟨_,rfl,rfl⟩
  | _=>cases he
 | w x =>
  cases x with
  | p id off=>cases he; obtain ⟨b,_,rfl⟩:=h2; exact ⟨_,rfl,rfl⟩
  | q id j off=>cases he; obtain ⟨b,c,k,sz,_,_,rfl⟩:=h2; exact ⟨_,rfl,rfl⟩
  | _=>cases he
 | _=>cases he
theorem ok_fieldAddr {t:TypeId} {f:Nat} {x:Operand} (hT:TabOk P C.T) (h:Rel' E C.n ρ F σ a w) (hd:dstB C.n d=true) (hvs:mapO (opv 1 σ) [x]=some vs) (he:zU C.T C.cA C.cB C.me (d.getD 0) (.fieldAddr t x f) vs=some e):OK P E C σ a w e ⟨d,.fieldAddr t x f,ty,pos,af,g⟩:=by
 obtain ⟨r,hr,rfl⟩:=qGK hvs;obtain ⟨v,h1,h2,h3⟩:=jY h hr;cases hf:C.T.fd t f with
 | none=>simp only [zU,hf] at he; cases he
 | some o =>
  have hF:=hT.fd t f o hf;cases r with
  | v p =>
   cases p with
   | z rows j off =>
    simp only [zU,hf] at he; cases he;obtain ⟨b,off0,sz,g,rfl,q1,q2,q3,q4⟩:=rp_z h2;exact yW h (zX hF h1) (qGH q1 q2 q3 q4 (by omega)) hd
   | c cells off =>
    simp only [zU,hf] at he; cases he;obtain ⟨b,ty',vs,rfl,q1,q2,q3,q4⟩:=rp_c h2;exact yW h (zX hF h1) (RP.c cells vs b _ ty' q1 q2 q3.1 q4 q3.2) hd
   | zf n f j off =>
    simp only [zU,hf] at he; cases he;obtain ⟨hj,b,off0,sz,g,rfl,q1,q2,q3,q4⟩:=yYQ h2;exact yW h (zX hF h1) (RP.zf _ _ _ _ _ hj (qGH q1 q2 q3 q4 (by omega))) hd
   | _=>simp only [zU,hf] at he; cases he
  | w x =>
   cases x with
   | p id off=>simp only [zU,hf] at he; cases he; obtain ⟨b,q,rfl⟩:=h2; exact yW h (zX hF h1) ⟨b,q,rfl⟩ hd
   | q id j off=>simp only [zU,hf] at he; cases he; obtain ⟨b,c,k,sz,q,hj,rfl⟩:=h2; exact yW h (zX hF h1) ⟨b,c,k,sz,q,hj,by rw [Nat.add_assoc]⟩ hd
   | _=>simp only [zU,hf] at he; cases he
  | _=>simp only [zU,hf] at he; cases he
theorem qUX {i:Int} {n:Nat} (h:inB i n=true):0≤i∧i < n:=by
 simp only [inB,vQJ,decide_eq_true_eq] at h; omega
theorem ok_indexAddr {t:TypeId} {x y:Operand} (hT:TabOk P C.T) (h:Rel' E C.n ρ F σ a w) (hd:dstB C.n d=true) (hvs:mapO (opv 2 σ) [x,y]=some vs) (he:zU C.T C.cA C.cB C.me (d.getD 0) (.indexAddr t x y) vs=some e):OK P E C σ a w e ⟨d,.indexAddr t x y,ty,pos,af,g⟩:=by
 obtain ⟨rx,ry,hx,hy,rfl⟩:=yUX hvs;obtain ⟨vx,x1,x2,x3⟩:=jY h hx;obtain ⟨vy,y1,y2,_⟩:=jY h hy;cases ry with
 | v py =>
  cases py with
  | n k i =>
   rw [qQL y2] at y1;have arr:∀ {b off len size:Nat} {x':HV},vx=.pointer (some ⟨b,off,none⟩)→arrB P t len size=true→inB i len=true→e=.val x'→RH ρ F w x' (.pointer (some ⟨b,off + i.toNat * size,none⟩))→OK P E C σ a w e ⟨d,.indexAddr t x y,ty,pos,af,g⟩:=by
    intro b off len size x' hv hA hi he hr;subst hv; subst he;obtain ⟨i0,i1⟩:=qUX hi;exact yW h (qWQ hA x1 y1 i0 i1) hr hd
   cases rx with
   | v p =>
    cases p with
    | c cells off =>
     simp only [zU,vQQ] at he;obtain ⟨kk,hk,he⟩:=he;obtain ⟨hi,he⟩:=qQ he;cases he;obtain ⟨b,ty',vs,hv,q1,q2,q3,q4⟩:=rp_c x2;exact arr hv (hT.ar t kk.1 kk.2.1 kk.2.2 hk).1 hi rfl (RP.c cells vs b _ ty' q1 q2 q3.1 q4 q3.2)
    | z rows j off =>
     simp only [zU,vQQ] at he;obtain ⟨kk,hk,he⟩:=he;obtain ⟨hi,he⟩:=qQ he;cases he;obtain ⟨b,off0,sz,g,hv,q1,q2,q3,q4⟩:=rp_z x2;exact arr hv (hT.ar t kk.1 kk.2.1 kk.2.2 hk).1 hi rfl (qGH q1 q2 q3 q4 (by omega))
    | zf n f j off =>
     simp only [zU,vQQ] at he;obtain ⟨kk,hk,he⟩:=he;obtain ⟨hi,he⟩:=qQ he;cases he;obtain ⟨hj,b,off0,sz,g,hv,q1,q2,q3,q4⟩:=yYQ x2;exact arr hv (hT.ar t kk.1 kk.2.1 kk.2.2 hk).1 hi rfl (RP.zf _ _ _ _ _ hj (qGH q1 q2 q3 q4 (by omega)))
    | lf n f =>
     simp only [zU,vQQ] at he;obtain ⟨kk,hk,he⟩:=he;obtain ⟨hi,he⟩:=qQ he;cases he;rw [vQJ] at hi;obtain ⟨i0,i1⟩:=qUX hi.1;have hl:=vQX hi.2;have hr:((List.range n).map f)[i.toNat]? = some (f i.toNat):=by
      rw [vZY,List.getElem?_range (by omega)]; rfl
     have x3:=yQX x2;have hz:∀ v,RP F w (.z ((List.range n).map f) i.toNat 0) v→RP F w (.zf n f i.toNat 0) v:=fun v hv=>.zf _ _ _ _ _ (by omega) hv
     generalize (List.range n).map f=rows at hr x3 hz;have hlt:=(List.getElem?_eq_some_iff.1 hr).1;cases x3 with
     | l0=>simp at hr
     | l _ b off n c sz g hn hcap hs hF hc hh =>
      have hsz:sz=kk.2:=by rw [← hs _ (vQG hr)]; exact hl
      subst hn;refine yW h (qJJ (hT.sl t kk.1 kk.2 hk).1 x1 y1 i0 (by omega)) (hz _ (qGH hs hF (fun j t hj ht=>hc j t hj ht) hh (by rw [hsz]; omega))) hd
    | l rows =>
     simp only [zU,vQQ] at he;obtain ⟨kk,hk,r,hr,he⟩:=he;obtain ⟨hi,he⟩:=qQ he;cases he;simp only [vQJ,decide_eq_true_eq] at hi;obtain ⟨i0,hl⟩:=hi;have hl:=vQX hl;have hlt:=(List.getElem?_eq_some_iff.1 hr).1;cases x2 with
     | l0=>simp at hr
     | l _ b off n c sz g hn hcap hs hF hc hh =>
      have hsz:sz=kk.2:=by rw [← hs r (vQG hr)]; exact hl
      subst hn;refine yW h (qJJ (hT.sl t kk.1 kk.2 hk).1 x1 y1 i0 (by omega)) (qGH hs hF (fun j t hj ht=>hc j t hj ht) hh (by rw [hsz]; omega)) hd
    | _=>simp only [zU] at he; cases he
   | no id e' n =>
    simp only [zU,vQQ] at he;obtain ⟨kk,hk,he⟩:=he;obtain ⟨hi,he⟩:=qQ he;cases he;rw [vQJ] at hi;obtain ⟨i0,i1⟩:=qUX hi.1;have hsz:=vQX hi.2;obtain ⟨ad,c,k',sz',hρ,rfl⟩:=x2;obtain ⟨ie,isz,rows,pd,rfl,hl⟩:=x3;obtain ⟨ad2,c2,H,hρ2,h0,hown,_⟩:=h.mem.ent id _ hl;rw [hρ] at hρ2;simp only [vQZ,Loc.reg.injEq] at hρ2;obtain ⟨rfl,rfl,rfl,rfl⟩:=hρ2;rcases hown.2 with ⟨hnil,h00⟩ | ⟨gg,cap,cur,hsl,_⟩
    ·omega
    ·simp only [Value.slice.injEq] at hsl;obtain ⟨rfl,_,rfl⟩:=hsl;refine yW h (qJJ (hT.sl t kk.1 kk.2 hk).1 x1 y1 i0 i1) ⟨gg,c,rows.len,1,hρ,by omega,by rw [Nat.zero_add,Nat.add_zero,hsz]⟩ hd
   | o id e' sz rows =>
    simp only [zU,vQQ] at he;obtain ⟨kk,hk,he⟩:=he;obtain ⟨hi,he⟩:=qQ he;cases he;rw [vQJ] at hi;obtain ⟨i0,i1⟩:=qUX hi.1;have hsz:=vQX hi.2;obtain ⟨ad,c,k',sz',hρ,rfl⟩:=x2;obtain ⟨ad2,c2,vr,hρ2,h0,hal,hrl,hone,hown⟩:=h.mem.ent id _ x3;rw [hρ] at hρ2;simp only [vQZ,Loc.reg.injEq] at hρ2;obtain ⟨rfl,rfl,rfl,rfl⟩:=hρ2;rcases hown.2 with ⟨hnil,h00⟩ | ⟨gg,cap,cur,hsl,_⟩
    ·omega
    ·simp only [Value.slice.injEq] at hsl;obtain ⟨rfl,_,rfl⟩:=hsl;refine yW h (qJJ (hT.sl t kk.1 kk.2 hk).1 x1 y1 i0 i1) ⟨gg,c,rows.len,sz',hρ,by omega,by rw [Nat.zero_add,Nat.add_zero,hsz]⟩ hd
   | w xx =>
    cases xx with
    | p id off =>
     simp only [zU,vQQ] at he;obtain ⟨kk,hk,he⟩:=he;obtain ⟨hi,he⟩:=qQ he;cases he;obtain ⟨b,q,hv⟩:=x2;exact arr hv (hT.ar t kk.1 kk.2.1 kk.2.2 hk).1 hi rfl ⟨b,q,rfl⟩
    | q id j off =>
     simp only [zU,vQQ] at he;obtain ⟨kk,hk,he⟩:=he;obtain ⟨hi,he⟩:=qQ he;cases he;obtain ⟨b,c,k',sz,q,hj,hv⟩:=x2;exact arr hv (hT.ar t kk.1 kk.2.1 kk.2.2 hk).1 hi rfl ⟨b,c,k',sz,q,hj,by rw [Nat.add_assoc]⟩
    | _=>simp only [zU] at he; cases he
   | _=>simp only [zU] at he; cases he
  | _=>cases rx <;> (simp only [zU] at he; cases he)
 | _=>cases rx <;> (simp only [zU] at he; cases he)
theorem ok_extract {x:Operand} {i:Nat} (h:Rel' E C.n ρ F σ a w) (hd:dstB C.n d=true) (hvs:mapO (opv 0 σ) [x]=some vs) (he:zU C.T C.cA C.cB C.me (d.getD 0) (.extract x i) vs=some e):OK P E C σ a w e ⟨d,.extract x i,ty,pos,af,g⟩:=by
 obtain ⟨r,hr,rfl⟩:=qGK hvs;obtain ⟨v,h1,h2,h3⟩:=jY h hr;cases r with
 | v p =>
  cases p with
  | t cs =>
   simp only [zU,vQQ] at he;obtain ⟨c,hc,he⟩:=he;cases he;obtain ⟨us,rfl,hu⟩:=rp_tup h2;obtain ⟨u,hu1,hu2⟩:=hu.get hc;exact yW h (opV_extract h1 (by simpa using hu1)) (zUX hu2) hd
  | _=>simp only [zU] at he; cases he
 | _=>simp only [zU] at he; cases he
end
end Go.Rx
namespace Go.Rx
open Go.RowKit Go.Sx
theorem mem_catR {α:Type} {f:α→Regs} {xs:List α} {i:Nat × Rows}:i ∈ catR f xs ↔ ∃ x ∈ xs,i ∈ f x:=by
 induction xs with
 | nil=>simp [catR]
 | cons x xs ih =>
  have:catR f (x :: xs)=f x ++ catR f xs:=by simp only [catR]; cases f x <;> simp
  simp [this,ih]
def frzρ (rs:Regs) (ρ:Own):Own:=fun id=>if id ∈ rs.map (·.1) then none else ρ id
def frzF (rs:Regs) (ρ:Own) (F:Nat→Prop):Nat→Prop:=fun k=>F k ∨ ∃ id L,id ∈ rs.map (·.1)∧ρ id=some L∧L.bl=some k
section
variable {P:Program} {E:Env} {n:Nat} {ρ:Own} {F:Nat→Prop} {σ:St} {a:Act} {w:World}
theorem yKQ {sz:Nat} {rows:List (List PV)} {vr:List (List Value)} (hal:Al (Al (RP F w)) rows vr) (hr:∀ r ∈ rows,r.length=sz):∀ r ∈ vr,r.length=sz:=fun r hrv=>by
 obtain ⟨i,hi⟩:=List.mem_iff_getElem?.1 hrv;have hil:=(List.getElem?_eq_some_iff.1 hi).1;have hl:i < rows.length:=by rw [hal.1]; exact hil
 have:=hal.2 i _ r (vQK hl) hi
 rw [← this.1]; exact hr _ (List.getElem_mem hl)
theorem reg_frozenL {id e sz:Nat} {rows:Rows} (h:EntOk ρ F w id (.reg e sz rows)) {F':Nat→Prop} (hF:∀ k,F k→F' k) (hb:∀ L b,ρ id=some L→L.bl=some b→F' b) :
  ∀ a c k sz',ρ id=some (.reg a c k sz')→RP F' w (.l rows.L) (.slice a k c)∧∀ b j off,a=some ⟨b,0,none⟩→RP F' w (.z rows.L j off) (.pointer (some ⟨b,j * sz' + off,none⟩)):=by
 intro a' c' k' sz' hρ;obtain ⟨a,c,vr,h1,h2,h3,h4,h5,h6⟩:=h;rw [← Rows.len_L] at h1 h6;generalize rows.L=rows at *;rw [hρ] at h1;simp only [vQZ,Loc.reg.injEq] at h1;obtain ⟨rfl,rfl,rfl,rfl⟩:=h1;have hvr:=yKQ h3 h4;have hlen:=h3.1;have hslc:qJQ sz' a' vr w:=by
  have:OwnF 0 e sz' a' c' vr.length vr.flatten w:=by unfold OwnF; rw [← hlen]; exact h6
  exact zVD hvr this
 have cells:∀ (b:Nat),a'=some ⟨b,0,none⟩→(∀ j t,j < rows.length→t < sz'→w.cell? ⟨b,0 + (j * sz' + t),none⟩=some (((vr.getD j []).getD t undef))∧(((vr.getD j []).getD t undef)).oneCell'=true):=by
  intro b hab j t hj ht;have hjv:j < vr.length:=by omega
  have hg:vr[j]? = some vr[j]:=vQK hjv;obtain ⟨hl,b2,off2,he,_,hc⟩:=hslc j _ hg;rw [hab] at he;simp only [vQZ,Addr.mk.injEq,and_true] at he;obtain ⟨rfl,rfl⟩:=he
  have:=hc t ht
  have ht2:t < vr[j].length:=by rw [hl]; exact ht
  rw [vQK ht2] at this;have e1:(vr.getD j []).getD t undef=vr[j][t]:=by simp [vZG,hg,vQK ht2]
  rw [e1];refine ⟨by rw [← Nat.add_assoc]; exact this,h5 _ (List.getElem_mem hjv) _ (List.getElem_mem ht2)⟩
 have vals:∀ (j:Nat) r (t:Nat) p,rows[j]? = some r→r[t]? = some p→RP F' w p ((vr.getD j []).getD t undef):=by
  intro j r t p hj ht;obtain ⟨u,hu,hru⟩:=h3.get hj;obtain ⟨v,hv,hrv⟩:=hru.get ht;have e1:(vr.getD j []).getD t undef=v:=by simp [vZG,hu,hv]
  rw [e1];exact hrv.mono fun k hk=>⟨hF k hk,rfl⟩
 refine ⟨?_,fun b j off hab => ?_⟩
 ·rcases h6.2 with ⟨hnil,h0⟩ | ⟨gg,cap,cur,hsl,_⟩
  ·have:rows=[]:=List.eq_nil_of_length_eq_zero h0
   subst this;exact .l0 _ _
  ·rename_i hrest;simp only [Value.slice.injEq] at hsl;obtain ⟨rfl,_,rfl⟩:=hsl;exact .l rows gg 0 rows.length _ sz' (fun j t=>(vr.getD j []).getD t undef) rfl hrest.2.2.1 h4 (hb _ gg hρ rfl) (cells gg rfl) vals
 ·subst hab;exact qGH (off:=0) h4 (hb _ b hρ rfl) (cells b rfl) vals (by omega)
theorem rp_pv {rows:Rows} {F:Nat→Prop} {v:Value} (h:RP F w (.l rows.L) v):RP F w rows.pv v:=by
 cases rows with
 | l rows=>exact h
 | fo n f=>exact .lf _ _ _ h
theorem rp_pz {rows:Rows} {j off:Nat} {F:Nat→Prop} {v:Value} (hj:j < rows.len) (h:RP F w (.z rows.L j off) v):RP F w (rows.pz j off) v:=by
 cases rows with
 | l rows=>exact h
 | fo n f=>exact .zf _ _ _ _ _ hj h
theorem uW {id e sz:Nat} {rows:Rows} (h:EntOk ρ F w id (.reg e sz rows)) {F':Nat→Prop} (hF:∀ k,F k→F' k) (hb:∀ L b,ρ id=some L→L.bl=some b→F' b) :
  ∀ a c k sz',ρ id=some (.reg a c k sz')→RP F' w rows.pv (.slice a k c)∧∀ b j off,a=some ⟨b,0,none⟩→j < k→RP F' w (rows.pz j off) (.pointer (some ⟨b,j * sz' + off,none⟩)):=by
 intro a c k sz' hρ;obtain ⟨h1,h2⟩:=reg_frozenL h hF hb a c k sz' hρ;obtain ⟨a2,c2,vr,q1,_⟩:=h;rw [hρ] at q1;simp only [vQZ,Loc.reg.injEq] at q1;obtain ⟨_,_,rfl,_⟩:=q1;exact ⟨rp_pv h1,fun b j off e hj=>rp_pz hj (h2 b j off e)⟩
theorem sub_find {rs:Regs} {id:Nat} {x:Option Rows} (h:jZ (rs.map fun r=>(r.1,some r.2)) id=some x):∃ rows,x=some rows∧(id,rows) ∈ rs:=by
 induction rs with
 | nil=>simp [jZ] at h
 | cons r rs ih =>
  simp only [List.map_cons,jZ] at h;by_cases e:r.1=id
  ·subst e; simp at h; subst h; exact ⟨r.2,rfl,vZQ⟩
  ·rw [qQW e,vYG] at h;obtain ⟨rows,h1,h2⟩:=ih h;exact ⟨rows,h1,vQH _ h2⟩
theorem sub_find_none {rs:Regs} {id:Nat}:jZ (rs.map fun r=>(r.1,some r.2)) id=none ↔ id ∉ rs.map (·.1):=by
 induction rs with
 | nil=>simp [jZ]
 | cons r rs ih =>
  simp only [List.map_cons,jZ,vYZ,not_or];by_cases e:r.1=id
  ·subst e; simp
  ·rw [qQW e,vYG,ih]; simp [Ne.symm e]
theorem yZA {rs:Regs} {id:Nat} {x:Option Ent} (h:yG (rs.map fun r=>(r.1,none)) id=some x):x=none∧id ∈ rs.map (·.1):=by
 have:=zZG h
 obtain ⟨r,hr,he⟩:=List.mem_map.1 this;simp only [vQY] at he;exact ⟨he.2.symm,List.mem_map.2 ⟨r,hr,he.1⟩⟩
theorem up_none_iff {rs:Regs} {id:Nat}:yG (rs.map fun r=>(r.1,(none:Option Ent))) id=none ↔ id ∉ rs.map (·.1):=by
 rw [upFind_none]; simp
variable (rs:Regs)
theorem frz_turns (h:Rel' E n ρ F σ a w) (hrs:∀ r ∈ rs,∃ e sz,zG σ.M r.1=some (.reg e sz r.2)):Turns (rs.map fun r=>(r.1,some r.2)) ρ (frzρ rs ρ) F (frzF rs ρ F) w w:=by
 refine ⟨fun id b hb => ?_,fun id L hL hs _ => ?_,fun id j a c k s _ hL _ _ => ?_,fun id rows a' c k sz hρ hs => ?_,fun k hk=>⟨.inl hk,rfl⟩⟩
 ·unfold frzρ;rw [if_neg fun hm => ?_]
  ·exact hb
  ·obtain ⟨r,hr,rfl⟩:=List.mem_map.1 hm;obtain ⟨e,sz,hl⟩:=hrs r hr;obtain ⟨a2,c2,vr,h1,_⟩:=h.mem.ent r.1 _ hl;rw [hb] at h1; cases h1
 ·unfold frzρ;rw [if_neg (sub_find_none.1 hs)]; exact hL
 ·unfold frzρ;rw [if_neg fun hm => ?_]
  ·exact hL
  ·obtain ⟨r,hr,e⟩:=List.mem_map.1 hm;obtain ⟨e',sz,hl⟩:=hrs r hr;have h1:=h.mem.ord _ _ hl;have h2:=qKG id j;rw [← e] at h2;omega
 ·obtain ⟨rows',he,hm⟩:=sub_find hs;cases he;obtain ⟨e,sz2,hl⟩:=hrs _ hm;exact uW (h.mem.ent id _ hl) (fun k hk=>.inl hk) (fun L b hL hb=>.inr ⟨id,L,List.mem_map.2 ⟨_,hm,rfl⟩,hL,hb⟩) a' c k sz hρ
theorem Rel'.frz (h:Rel' E n ρ F σ a w) (hrs:∀ r ∈ rs,∃ e sz,zG σ.M r.1=some (.reg e sz r.2)) {x:HV} {v:Value} {dst:Option Nat} (hd:dstB n dst=true) (hx:RH (frzρ rs ρ) (frzF rs ρ F) w x v) :
  Rel' E n (frzρ rs ρ) (frzF rs ρ F) (σ.apply (.frz rs x) dst) (a.put dst v) w:=by
 have ht:=frz_turns rs h hrs;have e1:(Eff.frz rs x).up=rs.map fun r=>(r.1,none):=by cases rs <;> rfl
 have e2:(Eff.frz rs x).sb=rs.map fun r=>(r.1,some r.2):=by cases rs <;> rfl
 have e3:(Eff.frz rs x).x=x:=by cases rs <;> rfl
 have hsome:∀ id L,frzρ rs ρ id=some L→id ∉ rs.map (·.1)∧ρ id=some L:=fun id L hL=>by
  unfold frzρ at hL;split at hL
  ·cases hL
  ·rename_i hn; exact ⟨hn,hL⟩
 refine h.apply (.frz rs x) dst v (fun d e=>by subst e; simpa [dstB] using hd) (by rw [e2]; exact ht) (by rw [e3]; exact hx) (fun _ _ _ _ _ _=>rfl) (fun id hu => ?_) (fun id y hu => ?_) (fun id hu => ?_) (fun id y hu => ?_) (fun id id' L L' b hL hL' => ?_) (fun id L b hL hb => ?_) (fun k hk => ?_) h.mem.grow (fun b hb=>by
  rw [e1,up_none_iff];intro hm;obtain ⟨r,hr,he⟩:=List.mem_map.1 hm;obtain ⟨e',sz,hl⟩:=hrs r hr;obtain ⟨a,c,vr,h1,_⟩:=h.mem.ent _ _ hl;rw [he,hb] at h1; cases h1)
 ·rw [e1,up_none_iff] at hu; rw [e2]; exact sub_find_none.2 hu
 ·rw [e1] at hu;obtain ⟨_,hm⟩:=yZA hu;obtain ⟨r,hr,rfl⟩:=List.mem_map.1 hm;obtain ⟨e',sz,hl⟩:=hrs r hr;exact h.mem.ord _ _ hl
 ·rw [e1,up_none_iff] at hu; unfold frzρ; rw [if_neg hu]
 ·rw [e1] at hu;obtain ⟨rfl,hm⟩:=yZA hu;simp only [frzρ,if_pos hm]
 ·exact h.mem.apart id id' L L' b (hsome id L hL).2 (hsome id' L' hL').2
 ·obtain ⟨hn,hL⟩:=hsome id L hL
  have:=h.mem.off id L b hL hb
  refine ⟨fun hf => ?_,this.2⟩;rcases hf with hf | ⟨id',L',hm,hL',hb'⟩
  ·exact this.1 hf
  ·exact hn ((h.mem.apart id id' L L' b hL hL' hb hb') ▸ hm)
 ·rcases hk with hk | ⟨id,L,hm,hL,hb⟩
  ·exact h.mem.fz k hk
  ·have:=(h.mem.off id L k hL hb).2; exact ⟨this.1,.inr this.2⟩
theorem sim_frz {o:Oper} (h:Rel' E n ρ F σ a w) (hrs:∀ r ∈ rs,∃ e sz,zG σ.M r.1=some (.reg e sz r.2)) {x:HV} {v:Value} (hop:OpV P ⟨w,[]⟩ (actS a) [] o v) (hx:RH (frzρ rs ρ) (frzF rs ρ F) w x v) (hd:dstB n o.dst=true) :
  Goes P o a w (fun u w'=>Rel E n (σ.apply (.frz rs x) o.dst) (a.put o.dst u) w') :=
 (yJY h.size hop).mono fun u w' ⟨hu,g⟩=>by
  subst hu;have hb:∀ k,frzF rs ρ F k→frzF rs ρ F k∧w'.heap[k]? = w.heap[k]?:=fun k hk=>⟨hk,g.block k (by
   rcases hk with hk | ⟨id,L,_,hL,hb⟩
   ·exact (h.mem.fz k hk).1
   ·exact (h.mem.off id L k hL hb).2.1)⟩
  exact ⟨_,_,(h.grow g).frz rs hrs hd (hx.mono (fun _ _ h=>h) hb)⟩
end
section
variable {P:Program} {E:Env} {C:Cx} {ρ:Own} {F:Nat→Prop} {σ:St} {a:Act} {w:World} {vs:List RV} {e:Eff}
variable {d:Option Tmp} {ty:TypeId} {pos:String} {af:Array Edge} {g:Option (Nat × Bool)}
def At (w:World) (b base:Nat) (vr:List Value):Prop:=∀ (i:Nat) v,vr[i]? = some v→w.cell? ⟨b,base + i,none⟩=some v
theorem zKW {t:TypeId} {x:Operand} {b base o:Nat} {vr:List Value} {v:Value} (hT:tyB P t false 1=true) (hx:ev (actS a) x=some (.pointer (some ⟨b,base + o,none⟩))) (hb:b < w.heap.size) (hA:At w b base vr) (hv:vr[o]? = some v) :
  OpV P ⟨w,[]⟩ (actS a) [] ⟨d,.load t x,ty,pos,af,g⟩ v:=opV_load1_old hT hx hb (hA o v hv)
theorem load_many {t:TypeId} {x:Operand} {b base o k:Nat} {vr:List Value} (hT:tyB P t true k=true) (hx:ev (actS a) x=some (.pointer (some ⟨b,base + o,none⟩))) (hb:b < w.heap.size) (hA:At w b base vr) (_:o + k≤vr.length) :
  OpV P ⟨w,[]⟩ (actS a) [] ⟨d,.load t x,ty,pos,af,g⟩ (.agg ((vr.drop o).take k).toArray) :=
 opV_loadA_old hT hx hb (by simp; omega) fun i hi=>by
  rw [vZV,if_pos hi,List.getElem?_drop];have hlt:o + i < vr.length:=by omega
  rw [vQK hlt,Nat.add_assoc];exact hA (o + i) _ (vQK hlt)
theorem zHE {R:PV→Value→Prop} {r:List PV} {vr:List Value} {o k:Nat} (h:Al R r vr):Al R ((r.drop o).take k) ((vr.drop o).take k):=(h.drop o).take k
theorem qHV {cs:List PV} {vs:List Value} (h:Al (RP F w) cs vs) (h1:∀ u ∈ vs,u.oneCell'=true):RP F w (.a cs) (.agg vs.toArray):=.a cs vs h.1 h1 h.2
theorem zGY {t:TypeId} {x:Operand} {k:Bool × Nat} {b base off:Nat} {r:List PV} {vr:List Value} (hT:TabOk P C.T) (h:Rel' E C.n ρ F σ a w) (hd:dstB C.n d=true) (hk:C.T.sz t=some k)
  (hx:ev (actS a) x=some (.pointer (some ⟨b,base + off,none⟩))) (hb:b < w.heap.size) (hA:At w b base vr) (hal:Al (RP F w) r vr) (h1:∀ u ∈ vr,u.oneCell'=true)
  (he:(bif k.1 then (qUK r off k.2).bind fun cs=>some (Eff.val (.v (.a cs))) else (r[off]?).bind fun c=>some (Eff.val c.toH))=some e):OK P E C σ a w e ⟨d,.load t x,ty,pos,af,g⟩:=by
 obtain ⟨kb,kn⟩:=k;obtain ⟨hty,hone⟩:=hT.sz t kb kn hk;cases kb with
 | true =>
  simp only [vYV,vQQ,vQZ] at he;obtain ⟨cs,hcs,rfl⟩:=he;obtain ⟨rfl,hl⟩:=qKJ hcs;exact yW h (load_many hty hx hb hA (by rw [← hal.1]; exact hl)) (qHV (zHE hal) fun u hu=>h1 u (List.mem_of_mem_drop (List.mem_of_mem_take hu))) hd
 | false =>
  simp only [vYG,vQQ,vQZ] at he;obtain ⟨c,hc,rfl⟩:=he;obtain ⟨v,hv,hr⟩:=hal.get hc;rw [hone rfl] at hty;exact yW h (zKW hty hx hb hA hv) (zUX hr) hd
theorem yKB {b:Nat} {vs:List Value} {ty':TypeId} (h:w.heap[b]? = some (.cells vs.toArray ty')):At w b 0 vs:=fun i v hv=>by
 rw [Nat.zero_add,qGL h,hv]
theorem qKC {M:Mem} {hc:List HV} {cs:List CV} {vs:List Value} (h:mapO (cvOf M) hc=some cs) (hal:Al (RH ρ F w) hc vs):Al (fun c v=>RH ρ F w c.back v∧∀ id e sz rows,c=.o id e sz rows→zG M id=some (.reg e sz rows)) cs vs:=by
 have h1:=jJ h;refine ⟨by rw [← h1.1,hal.1],fun i c v hc' hv => ?_⟩;have hil:=(List.getElem?_eq_some_iff.1 hc').1;have hl:i < hc.length:=by rw [h1.1]; exact hil
 have hcv:=h1.2 i _ c (vQK hl) hc';have hrh:=hal.2 i _ v (vQK hl) hv;generalize hc[i]=x at hcv hrh;cases x with
 | o id =>
  simp only [cvOf] at hcv;split at hcv
  ·rename_i e' sz rows hlk;cases hcv;refine ⟨hrh,fun id' e2 sz2 zJB heq => ?_⟩;cases heq; exact hlk
  ·cases hcv
 | _=>simp only [cvOf,vQZ] at hcv; subst hcv; exact ⟨hrh,fun id e sz rows heq=>by cases heq⟩
theorem cv_fz_rel (h:Rel' E C.n ρ F σ a w) (rs:Regs) {c:CV} {p:PV} {v:Value} (hp:c.fz=some p) (hc:RH ρ F w c.back v) (ho:∀ id e sz rows,c=.o id e sz rows→zG σ.M id=some (.reg e sz rows)) (hin:∀ r ∈ c.regs,r ∈ rs):RP (frzF rs ρ F) w p v:=by
 unfold CV.fz at hp;split at hp
 ·cases hp; exact RP.mono (fun k hk=>⟨.inl hk,rfl⟩) hc
 ·cases hp
  have:v=.slice none 0 0:=hc
  subst this; exact .l0 _ _
 ·rename_i id e sz rows;cases hp;obtain ⟨a',c',k',sz',hρ,rfl⟩:=hc;exact (uW (h.mem.ent id _ (ho id e sz rows rfl)) (fun k hk=>.inl hk) (fun L b hL hb=>.inr ⟨id,L,List.mem_map.2 ⟨(id,rows),hin _ (by simp [CV.regs]),rfl⟩,hL,hb⟩) a' c' k' sz' hρ).1
 ·cases hp
theorem flat_one (H:Nat→Value) (l:List Nat):(l.map fun v=>[H v]).flatten=l.map H:=by
 induction l with
 | nil=>rfl
 | cons x l ih=>simp only [List.map_cons,List.flatten_cons,ih]; rfl
theorem nst_slc {e' c n:Nat} {ad:Option Addr} {H:Nat→Value} (hown:w.ownsRow 0 e' 1 (.slice ad n c) n ((List.range n).map H)):qJQ 1 ad ((List.range n).map fun v=>[H v]) w:=by
 refine zVD (m:=0) (e:=e') (cap:=c) (fun r hr => ?_) ?_
 ·obtain ⟨_,_,rfl⟩:=List.mem_map.1 hr; rfl
 ·unfold OwnF; rw [flat_one]; simpa using hown
theorem ok_load {t:TypeId} {x:Operand} (hT:TabOk P C.T) (h:Rel' E C.n ρ F σ a w) (hd:dstB C.n d=true) (hvs:mapO (opv 3 σ) [x]=some vs) (he:zU C.T C.cA C.cB C.me (d.getD 0) (.load t x) vs=some e):OK P E C σ a w e ⟨d,.load t x,ty,pos,af,g⟩:=by
 obtain ⟨r,hr,rfl⟩:=qGK hvs;obtain ⟨v,h1,h2,h3⟩:=jY h hr;simp only [zU,vQQ] at he;obtain ⟨k,hk,he⟩:=he;cases r with
 | v p =>
  cases p with
  | z rows j off =>
   simp only at he;obtain ⟨b,off0,sz,g',rfl,q1,q2,q3,q4⟩:=rp_z h2;simp only [vQQ] at he;obtain ⟨r,hr',he⟩:=he;have hjl:=(List.getElem?_eq_some_iff.1 hr').1;have hrl:=q1 r (vQG hr');refine zGY (base:=off0 + j * sz) (vr:=(List.range sz).map (g' j)) hT h hd hk (by rw [Nat.add_assoc]; exact h1) (h.mem.fz b q2).1 (fun i v hv => ?_) ⟨by simp [hrl],fun i p v hp hv => ?_⟩ (fun u hu => ?_) he
   ·rw [vZY,vZW] at hv;obtain ⟨m,hm,rfl⟩:=hv;have hm2:=List.getElem?_eq_some_iff.1 hm;obtain ⟨hm3,hm4⟩:=hm2;simp at hm3 hm4;subst hm4;rw [Nat.add_assoc]; exact (q3 j i hjl hm3).1
   ·rw [vZY,vZW] at hv;obtain ⟨m,hm,rfl⟩:=hv;have hm2:=List.getElem?_eq_some_iff.1 hm;obtain ⟨hm3,hm4⟩:=hm2;simp at hm3 hm4;subst hm4;exact q4 j r i p hr' hp
   ·obtain ⟨m,hm,rfl⟩:=List.mem_map.1 hu;exact (q3 j m hjl (List.mem_range.1 hm)).2
  | zf n f j off =>
   simp only at he;obtain ⟨hj,b,off0,sz,g',rfl,q1,q2,q3,q4⟩:=yYQ h2;have hr':((List.range n).map f)[j]? = some (f j):=by rw [vZY,List.getElem?_range hj]; rfl
   generalize hrows:(List.range n).map f=rows at q1 q3 q4 hr';generalize f j=r at he hr';have hjl:=(List.getElem?_eq_some_iff.1 hr').1;have hrl:=q1 r (vQG hr');refine zGY (base:=off0 + j * sz) (vr:=(List.range sz).map (g' j)) hT h hd hk (by rw [Nat.add_assoc]; exact h1) (h.mem.fz b q2).1 (fun i v hv => ?_) ⟨by simp [hrl],fun i p v hp hv => ?_⟩ (fun u hu => ?_) he
   ·rw [vZY,vZW] at hv;obtain ⟨m,hm,rfl⟩:=hv;have hm2:=List.getElem?_eq_some_iff.1 hm;obtain ⟨hm3,hm4⟩:=hm2;simp at hm3 hm4;subst hm4;rw [Nat.add_assoc]; exact (q3 j i hjl hm3).1
   ·rw [vZY,vZW] at hv;obtain ⟨m,hm,rfl⟩:=hv;have hm2:=List.getElem?_eq_some_iff.1 hm;obtain ⟨hm3,hm4⟩:=hm2;simp at hm3 hm4;subst hm4;exact q4 j r i p hr' hp
   ·obtain ⟨m,hm,rfl⟩:=List.mem_map.1 hu;exact (q3 j m hjl (List.mem_range.1 hm)).2
  | c cells off =>
   simp only at he;obtain ⟨b,ty',us,rfl,q1,q2,q3,q4⟩:=rp_c h2;exact zGY (base:=0) hT h hd hk (by rw [Nat.zero_add]; exact h1) (h.mem.fz b q1).1 (yKB q2) q3 q4 he
  | _=>simp only at he; cases he
 | q id j off e' sz rows =>
  simp only at he;obtain ⟨b,c',k',sz',hρ,hjk,rfl⟩:=h2;obtain ⟨a2,c2,vr,hρ2,h0,hal,hrl,hone,hown⟩:=h.mem.ent id _ h3;rw [hρ] at hρ2;simp only [vQZ,Loc.reg.injEq] at hρ2;obtain ⟨rfl,rfl,rfl,rfl⟩:=hρ2;simp only [vQQ] at he;obtain ⟨r,hr',he⟩:=he;have hr':=Rows.at_L hr' hjk;obtain ⟨u,hu,hru⟩:=hal.get hr';have hvr:=yKQ hal hrl;have hslc:qJQ sz' (some ⟨b,0,none⟩) vr w:=by
   have:OwnF 0 e' sz' (some ⟨b,0,none⟩) c' vr.length vr.flatten w:=by unfold OwnF; rw [← hal.1,Rows.len_L]; exact hown
   exact zVD hvr this
  obtain ⟨hul,b2,off2,heq,hb2,hcell⟩:=hslc j u hu;simp only [vQZ,Addr.mk.injEq,and_true] at heq;obtain ⟨rfl,rfl⟩:=heq;refine zGY (base:=j * sz') hT h hd hk h1 hb2 (fun i v hv => ?_) hru (fun y hy=>hone u (vQG hu) y hy) he;have hlt:=(List.getElem?_eq_some_iff.1 hv).1
  have:=hcell i (by omega)
  rw [Nat.zero_add] at this;rw [this,hv]
 | p id off cells =>
  simp only at he;obtain ⟨hc,hlk,hcs⟩:=h3;obtain ⟨b,hρ,rfl⟩:=h2;obtain ⟨b2,us,ty',hρ2,hheap,hal,hone⟩:=h.mem.ent id _ hlk;rw [hρ] at hρ2;cases hρ2;have hcv:=qKC hcs hal;have hb:b < w.heap.size:=(h.mem.off id _ b hρ rfl).2.1;obtain ⟨kb,kn⟩:=k;obtain ⟨hty,hone1⟩:=hT.sz t kb kn hk;cases kb with
  | false =>
   simp only [vYG,vQQ,vQZ] at he;obtain ⟨c,hc',rfl⟩:=he;obtain ⟨v,hv,hr',_⟩:=hcv.get hc';rw [hone1 rfl] at hty;exact yW h (zKW (base:=0) hty (by rw [Nat.zero_add]; exact h1) hb (yKB hheap) hv) hr' hd
  | true =>
   simp only [vYV,vQQ,vQZ] at he;obtain ⟨cs,hsl,ps,hps,rfl⟩:=he;obtain ⟨rfl,hl⟩:=qKJ hsl;have hal2:=(hcv.drop off).take kn;have hp:=jJ hps;refine sim_frz _ h (fun r hr => ?_) (load_many (base:=0) hty (by rw [Nat.zero_add]; exact h1) hb (yKB hheap) (by rw [← hcv.1]; exact hl)) ?_ hd
   ·obtain ⟨c,hc',hin⟩:=mem_catR.1 hr;obtain ⟨i,hi⟩:=List.mem_iff_getElem?.1 hc';obtain ⟨v,_,_,ho⟩:=hal2.get hi;cases c with
    | h x=>simp [CV.regs] at hin
    | o id' e' sz' rows'=>simp only [CV.regs,List.mem_singleton] at hin; subst hin; exact ⟨e',sz',ho _ _ _ _ rfl⟩
   ·refine qHV ⟨by rw [← hp.1,hal2.1],fun i p v hpi hv => ?_⟩ fun u hu=>hone u (List.mem_of_mem_drop (List.mem_of_mem_take hu))
    have hil:=(List.getElem?_eq_some_iff.1 hpi).1;have hcl:i < ((cells.drop off).take kn).length:=by rw [hp.1]; exact hil
    have hci:=vQK hcl;have hfz:=hp.2 i _ p hci hpi;obtain ⟨hrh,ho⟩:=hal2.2 i _ v hci hv;exact cv_fz_rel h _ hfz hrh ho fun r hr=>mem_catR.2 ⟨_,vQG hci,hr⟩
 | ld id i =>
  simp only at he;obtain ⟨b,hρ,rfl⟩:=h2;obtain ⟨b2,us,ty',hρ2,hheap,hal,hone⟩:=h.mem.ent id _ h3;rw [hρ] at hρ2;cases hρ2;have hb:b < w.heap.size:=(h.mem.off id _ b hρ rfl).2.1;obtain ⟨kb,kn⟩:=k;obtain ⟨hty,hone1⟩:=hT.sz t kb kn hk;cases kb with
  | false =>
   simp only [vYG,vQZ] at he;subst he;obtain ⟨v,hv,hr'⟩:=hal.get (i:=0) rfl;rw [hone1 rfl] at hty;exact yW h (zKW (base:=0) hty h1 hb (yKB hheap) hv) hr' hd
  | true=>simp only [vYV] at he; cases he
 | nq id j off e' ie isz rows pd =>
  cases off with
  | succ o=>simp only at he; cases he
  | zero =>
   cases pd with
   | some q=>simp only at he; cases he
   | none =>
    simp only at he;obtain ⟨kb,kn⟩:=k;cases kb with
    | true=>cases he
    | false =>
     cases he;obtain ⟨hty,hone1⟩:=hT.sz t false kn hk;rw [hone1 rfl] at hty;obtain ⟨b,c',k',sz',hρ,hjk,rfl⟩:=h2;obtain ⟨a2,c2,H,hρ2,h0,hown,hH,_,hin⟩:=h.mem.ent id _ h3;have hρ3:=hρ;rw [hρ] at hρ2;simp only [vQZ,Loc.reg.injEq] at hρ2;obtain ⟨rfl,rfl,rfl,rfl⟩:=hρ2;have hu:((List.range rows.len).map fun v=>[H v])[j]? = some [H j]:=by rw [vZY,List.getElem?_range hjk]; rfl
     obtain ⟨hul,b2,off2,heq,hb2,hcell⟩:=nst_slc hown j _ hu;simp only [vQZ,Addr.mk.injEq,and_true] at heq;obtain ⟨rfl,rfl⟩:=heq;obtain ⟨r,av,cv,vr,q1,q2,q3,_⟩:=hin j hjk;have hHj:H j=.slice av r.len cv:=q3 (fun r' hr'=>by cases hr');refine yW h (zKW (base:=j * 1) (o:=0) (vr:=[H j]) hty h1 hb2 (fun i v hv => ?_) rfl) ⟨av,cv,r.len,isz,⟨q2,hHj⟩,h0.1,_,_,_,_,hρ3,hjk⟩ hd;have hlt:=(List.getElem?_eq_some_iff.1 hv).1
     have:=hcell i (by simpa using hlt)
     rw [Nat.zero_add] at this;rw [this,hv]
 | _=>simp only at he; cases he
end
end Go.Rx
namespace Go.Rx
open Go.RowKit Go.Sx
section
variable {P:Program} {E:Env} {C:Cx} {ρ:Own} {F:Nat→Prop} {σ:St} {a:Act} {w:World} {vs:List RV} {e:Eff}
variable {d:Option Tmp} {ty:TypeId} {pos:String} {af:Array Edge} {g:Option (Nat × Bool)}
theorem run_part1 {t:TypeId} {us:List Value} {o:Nat} {v:Value} (w:World) (hT:tyB P t false 1=true) (hv:us[o]? = some v):(part t us.toArray o).run P w=.ok v w:=by
 simp [part,qUA hT,hv]
theorem run_partA {t:TypeId} {us:List Value} {o k:Nat} (w:World) (hT:tyB P t true k=true):(part t us.toArray o).run P w=.ok (.agg ((us.drop o).take k).toArray) w:=by
 simp only [part,Sem.run_bind,qUA hT,Result.andThen_ok,Sem.run_ite,if_true,qYQ hT,Sem.run_pure];simp [List.extract_eq_take_drop]
theorem opV_field {S:yU} {H:Heap} {w0:Base} {t f:Nat} {x:Operand} {us:List Value} {v:Value} {fields:Array Field} {fld:Field} (hu:P.underlying t=some (.struct fields)) (hf:fields[f]? = some fld) (hx:ev S x=some (.agg us.toArray))
  (hp:∀ w,(part fld.type us.toArray fld.offset).run P w=.ok v w):OpV P w0 S H ⟨d,.field t x f,ty,pos,af,g⟩ v :=
 jX (by simp [jQ,Op.operands,hx]) rfl fun w _=>by
  simp [execOp,zV hx,Instr.field,run_underlying hu,hf,asAgg,hp w]
theorem ok_field {t:TypeId} {x:Operand} {f:Nat} (hT:TabOk P C.T) (h:Rel' E C.n ρ F σ a w) (hd:dstB C.n d=true) (hvs:mapO (opv 0 σ) [x]=some vs) (he:zU C.T C.cA C.cB C.me (d.getD 0) (.field t x f) vs=some e):OK P E C σ a w e ⟨d,.field t x f,ty,pos,af,g⟩:=by
 obtain ⟨r,hr,rfl⟩:=qGK hvs;obtain ⟨v,h1,h2,h3⟩:=jY h hr;cases r with
 | v p =>
  cases p with
  | a cs =>
   simp only [zU,vQQ] at he;obtain ⟨⟨o,b,k⟩,ho,he⟩:=he;obtain ⟨fields,fld,hu,hf,rfl,hty,hone⟩:=hT.fx t f o b k ho;obtain ⟨us,rfl,hus,hu1⟩:=qHG h2;cases b with
   | true =>
    simp only [vYV,vQQ,vQZ] at he;obtain ⟨r,hr,rfl⟩:=he;obtain ⟨rfl,hl⟩:=qKJ hr;exact yW h (opV_field hu hf h1 fun w=>run_partA w hty) (qHV (zHE hus) fun u hu=>hu1 u (List.mem_of_mem_drop (List.mem_of_mem_take hu))) hd
   | false =>
    simp only [vYG,vQQ,vQZ] at he;obtain ⟨r,hr,rfl⟩:=he;obtain ⟨u,hu',hru⟩:=hus.get hr;rw [hone rfl] at hty;exact yW h (opV_field hu hf h1 fun w=>run_part1 w hty hu') (zUX hru) hd
  | _=>simp only [zU] at he; cases he
 | _=>simp only [zU] at he; cases he
theorem ok_index {t:TypeId} {x y:Operand} (hT:TabOk P C.T) (h:Rel' E C.n ρ F σ a w) (hd:dstB C.n d=true) (hvs:mapO (opv 0 σ) [x,y]=some vs) (he:zU C.T C.cA C.cB C.me (d.getD 0) (.index t x y) vs=some e):OK P E C σ a w e ⟨d,.index t x y,ty,pos,af,g⟩:=by
 obtain ⟨rx,ry,hx,hy,rfl⟩:=yUX hvs;obtain ⟨vx,x1,x2,x3⟩:=jY h hx;obtain ⟨vy,y1,y2,_⟩:=jY h hy;cases ry with
 | v py =>
  cases py with
  | n kk i =>
   rw [qQL y2] at y1;cases rx with
   | v p =>
    cases p with
    | a cs =>
     simp only [zU,vQQ] at he;obtain ⟨⟨n,k,b⟩,ho,he⟩:=he;obtain ⟨hi,he⟩:=qQ he;obtain ⟨i0,i1⟩:=qUX hi;obtain ⟨_,el,hu,hty,hone⟩:=hT.ar t n k b ho;obtain ⟨us,rfl,hus,hu1⟩:=qHG x2;have run:∀ (v:Value),(∀ w,(part el us.toArray (i.toNat * k)).run P w=.ok v w)→OpV P ⟨w,[]⟩ (actS a) [] ⟨d,.index t x y,ty,pos,af,g⟩ v:=fun v hp =>
      qUF x1 y1 fun w=>by
       simp only [Instr.index,asIntOf,Sem.run_bind,Sem.run_pure,Result.andThen_ok,run_underlying hu];have i1':i < (n:Int):=i1;simp [i0,i1',qYQ hty,hp w]
     cases b with
     | true =>
      simp only [vYV,vQQ,vQZ] at he;obtain ⟨r,hr,rfl⟩:=he;obtain ⟨rfl,hl⟩:=qKJ hr;exact yW h (run _ fun w=>run_partA w hty) (qHV (zHE hus) fun u hu=>hu1 u (List.mem_of_mem_drop (List.mem_of_mem_take hu))) hd
     | false =>
      simp only [vYG,vQQ,vQZ] at he;obtain ⟨r,hr,rfl⟩:=he;obtain ⟨u,hu',hru⟩:=hus.get hr;have hk:=hone rfl;rw [hk] at hty;exact yW h (run _ fun w=>run_part1 w hty (by rw [hk,Nat.mul_one]; exact hu')) (zUX hru) hd
    | s s =>
     simp only [zU] at he;obtain ⟨hi,he⟩:=qQ he;rw [vQJ,decide_eq_true_eq] at hi;simp only [vQQ,vQZ] at he;obtain ⟨b,hb,rfl⟩:=he;rw [qGX x2] at x1;have hs:=hT.str t hi.1;exact yW h (qUF x1 y1 fun w=>by
      simp only [Instr.index,asIntOf,Sem.run_bind,Sem.run_pure,Result.andThen_ok,run_underlying hs];simp [hi.2,hb]) (.n _ _) hd
    | _=>simp only [zU] at he; cases he
   | _=>simp only [zU] at he; cases he
  | _=>cases rx <;> (simp only [zU] at he; cases he)
 | _=>cases rx <;> (simp only [zU] at he; cases he)
theorem ok_convert {s t:TypeId} {x:Operand} (hT:TabOk P C.T) (h:Rel' E C.n ρ F σ a w) (hd:dstB C.n d=true) (hvs:mapO (opv 0 σ) [x]=some vs) (he:zU C.T C.cA C.cB C.me (d.getD 0) (.convert s t x) vs=some e):OK P E C σ a w e ⟨d,.convert s t x,ty,pos,af,g⟩:=by
 obtain ⟨r,hr,rfl⟩:=qGK hvs;obtain ⟨v,h1,h2,h3⟩:=jY h hr;cases r with
 | v p =>
  cases p with
  | n k i =>
   simp only [zU,vQQ] at he;obtain ⟨k1,hk1,k2,hk2,he⟩:=he;obtain ⟨hb,he⟩:=qQ he;cases he;rw [qQL h2] at h1;have hs:=hT.ik s k1 hk1;have ht:=hT.ik t k2 hk2;have hkind:P.intKind t=k2:=by simp [Program.intKind,ht]
   refine yW h (jX (by simp [jQ,Op.operands,h1]) rfl fun w _ => ?_) (.n k2 _) hd
   have:=Go.run_convert_int (P:=P) (w:=w) s t k i (by rw [hs]; rfl) (by rw [hkind]; exact ht)
   rw [hkind] at this;simp [execOp,zV h1,this]
  | _=>simp only [zU] at he; cases he
 | _=>simp only [zU] at he; cases he
theorem pv_rel {rs:List RV} {ps:List PV} {us:List Value} (h:mapO RV.pv rs=some ps) (hr:Al (fun r v=>RH ρ F w r.back v) rs us):Al (RP F w) ps us:=by
 have h1:=jJ h;refine ⟨by rw [← h1.1,hr.1],fun i p v hp hv => ?_⟩;have hil:=(List.getElem?_eq_some_iff.1 hp).1;have hl:i < rs.length:=by rw [h1.1]; exact hil
 have e1:=h1.2 i _ p (vQK hl) hp;have e2:=hr.2 i _ v (vQK hl) hv;generalize rs[i]=r at e1 e2;cases r with
 | v x=>simp only [RV.pv,vQZ] at e1; subst e1; exact e2
 | _=>cases e1
theorem cap_rel {rs:List RV} {ps:List Cap} {us:List Value} (h:mapO yHJ rs=some ps) (hr:Al (fun r v=>RH ρ F w r.back v) rs us):Al (RCp ρ F w) ps us:=by
 have h1:=jJ h;refine ⟨by rw [← h1.1,hr.1],fun i p v hp hv => ?_⟩;have hil:=(List.getElem?_eq_some_iff.1 hp).1;have hl:i < rs.length:=by rw [h1.1]; exact hil
 have e1:=h1.2 i _ p (vQK hl) hp;have e2:=hr.2 i _ v (vQK hl) hv;generalize rs[i]=r at e1 e2;cases r with
 | v x=>simp only [yHJ,vQZ] at e1; subst e1; exact e2
 | w x =>
  cases x with
  | p id off=>simp only [yHJ,vQZ] at e1; subst e1; exact e2
  | _=>cases e1
 | _=>cases e1
theorem evs_split {S:yU} {xs ys:List Operand} {us:List Value} (h:evs S (xs ++ ys)=some us):evs S xs=some (us.take xs.length)∧evs S ys=some (us.drop xs.length):=by
 induction xs generalizing us with
 | nil=>exact ⟨rfl,h⟩
 | cons x xs ih =>
  simp only [List.cons_append,evs] at h;cases hx:ev S x with
  | none=>rw [hx] at h; cases h
  | some v =>
   rw [hx] at h;obtain ⟨l,hl,rfl⟩:=uG h;obtain ⟨h1,h2⟩:=ih hl;refine ⟨by simp [evs,hx,h1,qVW],by simpa using h2⟩
theorem ok_makeFunc {fn:Fn} {xs ys:Array Operand} (h:Rel' E C.n ρ F σ a w) (hd:dstB C.n d=true) (hvs:mapO (opv 1 σ) (xs ++ ys).toList=some vs) (he:zU C.T C.cA C.cB C.me (d.getD 0) (.makeFunc fn xs ys) vs=some e):OK P E C σ a w e ⟨d,.makeFunc fn xs ys,ty,pos,af,g⟩:=by
 obtain ⟨us,h1,h2,_⟩:=zKZ h hvs;rw [Array.toList_append] at h1;obtain ⟨h3,h4⟩:=evs_split h1;cases fn with
 | func f =>
  simp only [zU,vQQ] at he;obtain ⟨fs,hfs,he⟩:=he;have e1:=pv_rel hfs (h2.take _);have hop:OpV P ⟨w,[]⟩ (actS a) [] ⟨d,.makeFunc (.func f) xs ys,ty,pos,af,g⟩ (.func (.func f) (us.take xs.size).toArray (us.drop xs.size).toArray):=by
   have:=opV_makeFunc (P:=P) (w0:=⟨w,[]⟩) (H:=[]) (dd:=d) (ty:=ty) (pos:=pos) (af:=af) (g:=g) (fn:=.func f) h3 h4
   simpa using this
  split at he
  ·rename_i cs hcs;cases he;have e2:=pv_rel hcs (h2.drop _);exact yW h hop (RP.f f fs cs _ _ e1.1 e2.1 e1.2 e2.2) hd
  ·simp only [vQQ,vQZ] at he;obtain ⟨cs,hcs,rfl⟩:=he;have e2:=cap_rel hcs (h2.drop _);exact yW h hop ⟨_,_,rfl,e1,e2⟩ hd
 | _=>simp only [zU] at he; cases he
end
end Go.Rx
namespace Go.Rx
open Go.RowKit Go.Sx
section
variable {P:Program} {E:Env} {C:Cx} {ρ:Own} {F:Nat→Prop} {σ:St} {a:Act} {w:World} {vs:List RV} {e:Eff}
variable {d:Option Tmp} {ty:TypeId} {pos:String} {af:Array Edge} {g:Option (Nat × Bool)}
theorem rp_l {rows:List (List PV)} {v:Value} (h:RP F w (.l rows) v):∃ ad c,v=.slice ad rows.length c∧rows.length≤c:=by
 cases h with
 | l0 ad c=>exact ⟨ad,c,rfl,Nat.zero_le _⟩
 | l _ b off n c sz g hn hcap hs hF hc hh=>subst hn; exact ⟨_,c,rfl,hcap⟩
theorem slice_len (h:Rel' E C.n ρ F σ a w) {r:RV} {v:Value} {rows:List (List PV)} (hr:(r=.v (.l rows)) ∨ (r=.nl∧rows=[]) ∨ ∃ id e sz rr,r=.o id e sz rr∧rr.L=rows) (hv:RH ρ F w r.back v) (hs:RRes σ.M r):∃ ad c,v=.slice ad rows.length c:=by
 rcases hr with rfl | ⟨rfl,rfl⟩ | ⟨id,e,sz,rr,rfl,rfl⟩
 ·obtain ⟨ad,c,h,_⟩:=rp_l hv; exact ⟨ad,c,h⟩
 ·exact ⟨none,0,hv⟩
 ·obtain ⟨ad,c,k,sz',hρ,rfl⟩:=hv;obtain ⟨a2,c2,vr,hρ2,_⟩:=h.mem.ent id _ hs;rw [hρ] at hρ2;simp only [vQZ,Loc.reg.injEq] at hρ2;obtain ⟨rfl,rfl,rfl,rfl⟩:=hρ2;exact ⟨ad,c,by rw [Rows.len_L]⟩
theorem opV_len {S:yU} {H:Heap} {w0:Base} {x:Operand} {ats:Array TypeId} {t e' k n c:Nat} {ad:Option Addr} (ha:ats[0]? = some t) (hs:slcB P t e' k=true) (hx:ev S x=some (.slice ad n c)) :
  OpV P w0 S H ⟨d,.call ⟨.builtin .len,#[x],ats⟩,ty,pos,af,g⟩ (.int .i64 (n:Int)) :=
 jX (by simp [jQ,Op.operands,Call.operands,hx]) rfl fun w _=>by
  unfold slcB at hs;cases hu:P.underlying t with
  | none=>simp [hu] at hs
  | some ds =>
   cases ds <;> simp [hu] at hs
   have ha':ats.getD 0 0=t:=by simp [Array.getD_eq_getD_getElem?,ha]
   simp [execOp,resolve,invoke,builtin,zV hx,Builtin.len_,ha,run_underlying hu,goInt]
theorem arr1 {args:Array Operand} {m:Nat} {r:RV} (h:mapO (opv m σ) (#[] ++ args).toList=some [r]):∃ x,args=#[x]∧opv m σ x=some r:=by
 have h1:=jJ h;rw [show ((#[]:Array Operand) ++ args).toList=args.toList by simp] at h1
 match hl:args.toList with
 | []=>rw [hl] at h1; have:=h1.1; simp at this
 | [x]=>rw [hl] at h1; exact ⟨x,by rw [← Array.toArray_toList (xs:=args),hl],h1.2 0 x r rfl rfl⟩
 | x :: y :: l=>rw [hl] at h1; have:=h1.1; simp at this
theorem arr2 {args:Array Operand} {m:Nat} {r r':RV} (h:mapO (opv m σ) (#[] ++ args).toList=some [r,r']):∃ x x',args=#[x,x']∧opv m σ x=some r∧opv m σ x'=some r':=by
 have h1:=jJ h;rw [show ((#[]:Array Operand) ++ args).toList=args.toList by simp] at h1
 match hl:args.toList with
 | []=>rw [hl] at h1; have:=h1.1; simp at this
 | [x]=>rw [hl] at h1; have:=h1.1; simp at this
 | [x,y]=>rw [hl] at h1; exact ⟨x,y,by rw [← Array.toArray_toList (xs:=args),hl],h1.2 0 x r rfl rfl,h1.2 1 y r' rfl rfl⟩
 | x :: y :: z :: l=>rw [hl] at h1; have:=h1.1; simp at this
theorem opV_lenS {S:yU} {H:Heap} {w0:Base} {x:Operand} {ats:Array TypeId} {t:Nat} {s:ByteArray} (ha:ats[0]? = some t) (hs:P.underlying t=some .string) (hx:ev S x=some (.string s)) :
  OpV P w0 S H ⟨d,.call ⟨.builtin .len,#[x],ats⟩,ty,pos,af,g⟩ (.int .i64 (s.size:Int)) :=
 jX (by simp [jQ,Op.operands,Call.operands,hx]) rfl fun w _=>by
  simp [execOp,resolve,invoke,builtin,zV hx,Builtin.len_,ha,run_underlying hs,goInt]
theorem ok_len {args:Array Operand} {ats:Array TypeId} (hT:TabOk P C.T) (h:Rel' E C.n ρ F σ a w) (hd:dstB C.n d=true) (hvs:mapO (opv 0 σ) (#[] ++ args).toList=some vs) (he:zU C.T C.cA C.cB C.me (d.getD 0) (.call ⟨.builtin .len,args,ats⟩) vs=some e):OK P E C σ a w e ⟨d,.call ⟨.builtin .len,args,ats⟩,ty,pos,af,g⟩:=by
 match vs with
 | []=>simp only [zU] at he; cases he
 | _ :: _ :: _=>simp only [zU] at he; cases he
 | [r] =>
  obtain ⟨x,rfl,hx⟩:=arr1 hvs;obtain ⟨v,h1,h2,h3⟩:=jY h hx;have main:∀ (rows:List (List PV)),((r=.v (.l rows)) ∨ (r=.nl∧rows=[]) ∨ ∃ id e sz rr,r=.o id e sz rr∧rr.L=rows)→∀ t,ats[0]? = some t→(C.T.sl t).isSome=true→OK P E C σ a w (.val (.v (.n .i64 (rows.length:Int)))) ⟨d,.call ⟨.builtin .len,#[x],ats⟩,ty,pos,af,g⟩:=by
   intro rows hr t ht hs;obtain ⟨⟨e',k⟩,hs⟩:=Option.isSome_iff_exists.1 hs;obtain ⟨ad,c,rfl⟩:=slice_len h hr h2 h3;exact yW h (opV_len ht (hT.sl t e' k hs).1 h1) (.n _ _) hd
  cases r with
  | v p =>
   cases p with
   | s s =>
    simp only [zU] at he;split at he
    ·rename_i t ht;obtain ⟨hb,he⟩:=qQ he;cases he;rw [qGX h2] at h1;exact yW h (opV_lenS ht (hT.str t hb) h1) (.n _ _) hd
    ·cases he
   | l rows =>
    simp only [zU] at he;split at he
    ·rename_i t ht;simp only [vQQ,vQZ] at he;obtain ⟨y,hy,rfl⟩:=he;exact main rows (.inl rfl) t ht (by rw [hy]; rfl)
    ·cases he
   | lf n f =>
    simp only [zU] at he;split at he
    ·rename_i t ht;simp only [vQQ,vQZ] at he;obtain ⟨⟨e',k⟩,hy,rfl⟩:=he;obtain ⟨ad,c,rfl⟩:=slice_len (rows:=(List.range n).map f) h (.inl rfl) (yQX h2) trivial;rw [List.length_map,List.length_range] at h1;exact yW h (opV_len ht (hT.sl t e' k hy).1 h1) (.n _ _) hd
    ·cases he
   | _=>simp only [zU] at he; cases he
  | nl =>
   simp only [zU] at he;split at he
   ·rename_i t ht;simp only [vQQ,vQZ] at he;obtain ⟨y,hy,rfl⟩:=he;exact main [] (.inr (.inl ⟨rfl,rfl⟩)) t ht (by rw [hy]; rfl)
   ·cases he
  | o id e' sz rows =>
   simp only [zU] at he;split at he
   ·rename_i t ht;simp only [vQQ,vQZ] at he;obtain ⟨y,hy,rfl⟩:=he
    have:=main rows.L (.inr (.inr ⟨_,_,_,_,rfl,rfl⟩)) t ht (by rw [hy]; rfl)
    rw [Rows.len_L] at this;exact this
   ·cases he
  | _=>simp only [zU] at he; cases he
theorem ok_min {args:Array Operand} {ats:Array TypeId} (h:Rel' E C.n ρ F σ a w) (hd:dstB C.n d=true) (hvs:mapO (opv 0 σ) (#[] ++ args).toList=some vs) (he:zU C.T C.cA C.cB C.me (d.getD 0) (.call ⟨.builtin .min,args,ats⟩) vs=some e):OK P E C σ a w e ⟨d,.call ⟨.builtin .min,args,ats⟩,ty,pos,af,g⟩:=by
 match vs with
 | []=>simp only [zU] at he; cases he
 | [_]=>simp only [zU] at he; cases he
 | _ :: _ :: _ :: _=>simp only [zU] at he; cases he
 | [r,r'] =>
  obtain ⟨p,q,rfl,hp,hq⟩:=arr2 hvs;obtain ⟨vx,x1,x2,_⟩:=jY h hp;obtain ⟨vy,y1,y2,_⟩:=jY h hq;cases r with
  | v r =>
   cases r' with
   | v r' =>
    cases r with
    | n k x =>
     cases r' with
     | n k' y =>
      simp only [zU] at he;obtain ⟨hb,he⟩:=qQ he;cases he
      have:=vJZ hb
      subst this;rw [qQL x2] at x1; rw [qQL y2] at y1;exact yW h (qXI x1 y1) (.n _ _) hd
     | _=>simp only [zU] at he; cases he
    | _=>simp only [zU] at he; cases he
   | _=>cases r <;> (simp only [zU] at he; cases he)
  | _=>simp only [zU] at he; cases he
theorem ok_max {args:Array Operand} {ats:Array TypeId} (h:Rel' E C.n ρ F σ a w) (hd:dstB C.n d=true) (hvs:mapO (opv 0 σ) (#[] ++ args).toList=some vs) (he:zU C.T C.cA C.cB C.me (d.getD 0) (.call ⟨.builtin .max,args,ats⟩) vs=some e):OK P E C σ a w e ⟨d,.call ⟨.builtin .max,args,ats⟩,ty,pos,af,g⟩:=by
 match vs with
 | []=>simp only [zU] at he; cases he
 | [_]=>simp only [zU] at he; cases he
 | _ :: _ :: _ :: _=>simp only [zU] at he; cases he
 | [r,r'] =>
  obtain ⟨p,q,rfl,hp,hq⟩:=arr2 hvs;obtain ⟨vx,x1,x2,_⟩:=jY h hp;obtain ⟨vy,y1,y2,_⟩:=jY h hq;cases r with
  | v r =>
   cases r' with
   | v r' =>
    cases r with
    | n k x =>
     cases r' with
     | n k' y =>
      simp only [zU] at he;obtain ⟨hb,he⟩:=qQ he;cases he
      have:=vJZ hb
      subst this;rw [qQL x2] at x1; rw [qQL y2] at y1;exact yW h (qXL x1 y1) (.n _ _) hd
     | _=>simp only [zU] at he; cases he
    | _=>simp only [zU] at he; cases he
   | _=>cases r <;> (simp only [zU] at he; cases he)
  | _=>simp only [zU] at he; cases he
theorem rp_part {rows:List (List PV)} {ad:Option Addr} {n c l h k:Nat} (hr:RP F w (.l rows) (.slice ad n c)) (hk:zWV rows l k=true) (_:l≤h) (hh:h≤rows.length):RP F w (.l ((rows.take h).drop l)) (sliced ad l h c k):=by
 have hlen:((rows.take h).drop l).length=h - l:=by simp; omega
 by_cases h0:h - l=0
 ·have:(rows.take h).drop l=[]:=List.eq_nil_of_length_eq_zero (by omega)
  rw [this];unfold sliced;rw [h0];exact .l0 _ _
 ·cases hr with
  | l0=>simp at hh; omega
  | l _ b off n c sz g hn hcap hs hF hc hh' =>
   subst hn;have hll:l < rows.length:=by omega
   have hsz:sz=k:=by
    unfold zWV at hk;rw [vQK hll] at hk;simp only [Option.all_some] at hk;rw [← hs _ (List.getElem_mem hll)]; exact vQX hk
   subst hsz;have hml:¬ c=l:=by omega
   unfold sliced;rw [if_neg hml];simp only [Option.map_some,qUG];refine .l _ b (off + l * sz) (h - l) (c - l) sz (fun j t=>g (l + j) t) hlen.symm (by omega) (fun r hr=>hs r (List.mem_of_mem_take (List.mem_of_mem_drop hr))) hF (fun j t hj ht => ?_) (fun j r t p hj ht => ?_)
   ·have:=hc (l + j) t (by omega) ht
    rw [show off + l * sz + (j * sz + t)=off + ((l + j) * sz + t) by rw [Nat.add_mul]; omega];exact this
   ·rw [List.getElem?_drop,vZV] at hj;split at hj
    ·exact hh' (l + j) r t p hj ht
    ·cases hj
theorem zHQ {i j:Option Int} {n:Nat} (h:inS i j n=true):(∀ x,i=some x→0≤x)∧(∀ x,j=some x→0≤x)∧loOf i≤hiOf j n∧hiOf j n≤n:=by
 unfold inS at h;simp only [vQJ,decide_eq_true_eq] at h;obtain ⟨⟨⟨h1,h2⟩,h3⟩,h4⟩:=h;exact ⟨fun x e=>by subst e; simpa using h1,fun x e=>by subst e; simpa using h2,h3,h4⟩
def BV (i:Option Int) (v:Option Value):Prop:=(i=none∧v=none) ∨ ∃ k x,i=some x∧v=some (.int k x)
theorem run_bounds {w:World} {isS:Bool} {n c:Nat} {i j:Option Int} {vi vj:Option Value} (hi:BV i vi) (hj:BV j vj) (_:n≤c) (h:inS i j n=true) :
  (Instr.sliceBounds isS n c vi vj none).run P w=.ok (loOf i,hiOf j n,c) w:=by
 obtain ⟨h1,h2,h3,h4⟩:=zHQ h;rcases hi with ⟨rfl,rfl⟩ | ⟨k,x,rfl,rfl⟩ <;> rcases hj with ⟨rfl,rfl⟩ | ⟨k',y,rfl,rfl⟩
 ·simp [Instr.sliceBounds,loOf,hiOf]
 ·have:=h2 y rfl
  simp only [loOf,hiOf] at h3 h4;have hy:y≤(c:Int):=by omega
  simp [Instr.sliceBounds,loOf,hiOf,run_sliceBound,this,hy]
 ·have:=h1 x rfl
  simp only [loOf,hiOf] at h3 h4;have hx:x≤(n:Int):=by omega
  simp [Instr.sliceBounds,loOf,hiOf,run_sliceBound,this,hx]
 ·have hx0:=h1 x rfl;have hy0:=h2 y rfl;simp only [loOf,hiOf] at h3 h4;have hy:y≤(c:Int):=by omega
  have hx:x≤(y.toNat:Int):=by omega
  have e1:=run_sliceBound (P:=P) w k' y c (if isS then .sliceAcap else .sliceAlen) hy0 hy;have e2:=run_sliceBound (P:=P) w k x y.toNat .sliceB hx0 hx;simp [Instr.sliceBounds,loOf,hiOf,e1,e2]
theorem qHE {S:yU} {H:Heap} {w0:Base} {t:TypeId} {x:Operand} {lo hi:Option Operand} {vx:Value} {vlo vhi:Option Value} {v:Value} (hx:ev S x=some vx) (hlo:∀ o,lo=some o→∃ u,ev S o=some u∧vlo=some u) (hlo':lo=none→vlo=none)
  (hhi:∀ o,hi=some o→∃ u,ev S o=some u∧vhi=some u) (hhi':hi=none→vhi=none) (hr:∀ w,(Instr.sliceAt t vx vlo vhi none).run P w=.ok v w):OpV P w0 S H ⟨d,.slice t x lo hi none,ty,pos,af,g⟩ v:=by
 have e1:lo.map (evD S)=vlo:=by
  cases lo with
  | none=>rw [hlo' rfl]; rfl
  | some o=>obtain ⟨u,h1,h2⟩:=hlo o rfl; rw [h2,Option.map_some,zV h1]
 have e2:hi.map (evD S)=vhi:=by
  cases hi with
  | none=>rw [hhi' rfl]; rfl
  | some o=>obtain ⟨u,h1,h2⟩:=hhi o rfl; rw [h2,Option.map_some,zV h1]
 refine jX ?_ rfl fun w _ => ?_
 ·simp only [jQ,Op.operands];rw [vYY];intro y hy;simp only [Array.mem_append,List.mem_toArray,Option.mem_toArray,List.mem_singleton,Option.not_mem_none,or_false] at hy;rcases hy with ((rfl | hy) | hy) | hy
  ·simp [hx]
  ·obtain ⟨u,h1,_⟩:=hlo y hy; simp [h1]
  ·obtain ⟨u,h1,_⟩:=hhi y hy; simp [h1]
  ·cases hy
 ·simp only [execOp,e1,e2,zV hx];simp [hr w]
theorem elem_of {t e' k:Nat} (h:slcB P t e' k=true):P.underlying t=some (.slice (P.elem t))∧P.elem t=e'∧∀ w,(sizeOf e').run P w=.ok k w:=by
 unfold slcB at h;cases hu:P.underlying t with
 | none=>simp [hu] at h
 | some ds =>
  cases ds <;> simp [hu] at h
  rename_i el;obtain ⟨rfl,h2⟩:=h;cases hi:P.info? el with
  | none=>simp [hi] at h2
  | some i =>
   simp [hi] at h2;have he:P.elem t=el:=by simp [Program.elem,hu]
   exact ⟨by rw [he],he,fun w=>by simp [sizeOf,typeInfo,hi,h2]⟩
theorem yZL {w:World} {t e' k n c:Nat} {ad:Option Addr} {i j:Option Int} {vi vj:Option Value} (hs:slcB P t e' k=true) (hi:BV i vi) (hj:BV j vj) (hn:n≤c) (h:inS i j n=true) :
  (Instr.sliceAt t (.slice ad n c) vi vj none).run P w=.ok (sliced ad (loOf i) (hiOf j n) c k) w:=by
 obtain ⟨h1,h2,h3⟩:=elem_of hs;rw [run_sliceAt_slice w t _ _ _ _ h1,run_slice_any w t ad n c h1,run_bounds hi hj hn h];simp only [Result.andThen_ok,h2,h3]
theorem slice_ops {x:Operand} {lo hi:Option Operand} (h:Rel' E C.n ρ F σ a w) (hvs:mapO (opv 0 σ) (#[x] ++ lo.toArray ++ hi.toArray ++ (none:Option Operand).toArray).toList=some vs):∃ rx vs' vx,vs=rx :: vs'∧ev (actS a) x=some vx∧RH ρ F w rx.back vx∧RRes σ.M rx ∧
  ∀ b,zVY lo hi vs'=some b→∃ vlo vhi,BV b.1 vlo∧BV b.2 vhi∧(∀ o,lo=some o→∃ u,ev (actS a) o=some u∧vlo=some u)∧(lo=none→vlo=none)∧(∀ o,hi=some o→∃ u,ev (actS a) o=some u∧vhi=some u)∧(hi=none→vhi=none):=by
 have hl:(#[x] ++ lo.toArray ++ hi.toArray ++ (none:Option Operand).toArray).toList=x :: (lo.toList ++ hi.toList):=by cases lo <;> cases hi <;> rfl
 rw [hl] at hvs;simp only [mapO,vQQ,vQZ] at hvs;obtain ⟨rx,hx,vs',hvs',rfl⟩:=hvs;obtain ⟨vx,x1,x2,x3⟩:=jY h hx;refine ⟨rx,vs',vx,rfl,x1,x2,x3,fun b hb => ?_⟩;have no:∀ {b':Option Value} (o:Operand),(none:Option Operand)=some o→∃ u,ev (actS a) o=some u∧b'=some u:=fun o ho=>by cases ho
 have yes:∀ {o':Operand} {v:Value},ev (actS a) o'=some v→∀ o,some o'=some o→∃ u,ev (actS a) o=some u∧some v=some u:=fun hv o ho=>by cases ho; exact ⟨_,hv,rfl⟩
 cases lo with
 | none =>
  cases hi with
  | none=>simp [zVY] at hb
  | some oj =>
   simp only [Option.toList_none,Option.toList_some,List.nil_append] at hvs';obtain ⟨r,hr,rfl⟩:=qGK hvs';obtain ⟨v,h1,h2,_⟩:=jY h hr;cases r with
   | v p =>
    cases p with
    | n k j=>cases hb; exact ⟨none,some v,.inl ⟨rfl,rfl⟩,.inr ⟨k,j,rfl,by rw [qQL h2]⟩,no,(fun _=>rfl),yes h1,(fun ho=>by cases ho)⟩
    | _=>cases hb
   | _=>cases hb
 | some oi =>
  cases hi with
  | none =>
   simp only [Option.toList_none,Option.toList_some,List.append_nil] at hvs';obtain ⟨r,hr,rfl⟩:=qGK hvs';obtain ⟨v,h1,h2,_⟩:=jY h hr;cases r with
   | v p =>
    cases p with
    | n k j=>cases hb; exact ⟨some v,none,.inr ⟨k,j,rfl,by rw [qQL h2]⟩,.inl ⟨rfl,rfl⟩,yes h1,(fun ho=>by cases ho),no,(fun _=>rfl)⟩
    | _=>cases hb
   | _=>cases hb
  | some oj =>
   simp only [Option.toList_some,List.singleton_append] at hvs';obtain ⟨r,r',hr,hr',rfl⟩:=yUX hvs';obtain ⟨v,h1,h2,_⟩:=jY h hr;obtain ⟨v',h1',h2',_⟩:=jY h hr';cases r with
   | v p =>
    cases r' with
    | v p' =>
     cases p with
     | n k j =>
      cases p' with
      | n k' j'=>cases hb; exact ⟨some v,some v',.inr ⟨k,j,rfl,by rw [qQL h2]⟩,.inr ⟨k',j',rfl,by rw [qQL h2']⟩,yes h1,(fun ho=>by cases ho),yes h1',(fun ho=>by cases ho)⟩
      | _=>cases hb
     | _=>cases hb
    | _=>cases p <;> cases hb
   | _=>cases hb
end
end Go.Rx
namespace Go.Rx
open Go.RowKit Go.Sx
def updO (ρ:Own) (id:Nat) (L:Loc):Own:=fun k=>if k=id then some L else ρ k
theorem jU (ρ:Own) (id:Nat) (L:Loc):updO ρ id L id=some L:=by simp [updO]
theorem qYG {ρ:Own} {id k:Nat} {L:Loc} (h:k ≠ id):updO ρ id L k=ρ k:=by simp [updO,h]
theorem kW {id k:Nat} {e:Option Ent}:yG [(id,e)] k=if id=k then some e else none:=by
 simp only [yG];by_cases h:id=k
 ·subst h; simp
 ·simp [qQW h,h]
theorem zWX {id k:Nat} {x:Option Ent} (h:id ≠ k):yG [(id,x)] k=none:=by rw [kW,if_neg h]
theorem zZI {ρ:Own} {id:Nat} {a:Option Addr} {c k s b:Nat} (h:ρ id=some (.reg a c k s)) (hb:ρ pid2=some (.blk b)):id ≠ pid2:=fun e=>by rw [e,hb] at h; cases h
theorem zGD {ρ:Own} {id b:Nat} (h:ρ id=none) (hb:ρ pid2=some (.blk b)):id ≠ pid2:=fun e=>by rw [e,hb] at h; cases h
section
variable {P:Program} {E:Env} {n:Nat} {ρ:Own} {F:Nat→Prop} {σ:St} {a:Act} {w:World}
theorem Rel'.new (h:Rel' E n ρ F σ a w) {id:Nat} (hid:qJC σ.M id) {ent:Ent} {L:Loc} {w':World} (g:Grow w w') (hb:∀ b,L.bl=some b→w.heap.size≤b∧b < w'.heap.size) (hent:EntOk (updO ρ id L) F w' id ent)
  {x:HV} {v:Value} (hx:RH (updO ρ id L) F w' x v) {dst:Option Nat} (hd:dstB n dst=true):Rel' E n (updO ρ id L) F (σ.apply (.new id ent x) dst) (a.put dst v) w':=by
 have hnone:ρ id=none:=h.mem.fresh hid;have old:∀ k L',ρ k=some L'→updO ρ id L k=some L':=fun k L' hk=>by
  rw [qYG (fun e=>by subst e; rw [hnone] at hk; cases hk)]; exact hk
 have inv:∀ k L',updO ρ id L k=some L'→(k=id∧L'=L) ∨ (k ≠ id∧ρ k=some L'):=fun k L' hk=>by
  by_cases e:k=id
  ·subst e; rw [jU] at hk; cases hk; exact .inl ⟨rfl,rfl⟩
  ·rw [qYG e] at hk; exact .inr ⟨e,hk⟩
 have blk:∀ k L' b,ρ k=some L'→L'.bl=some b→b < w.heap.size:=fun k L' b hk hb'=>(h.mem.off k L' b hk hb').2.1
 refine h.apply (.new id ent x) dst v (fun d e=>by subst e; simpa [dstB] using hd) ⟨fun k b hk=>old k _ hk,fun k L' hk _ _=>old k L' hk,fun k j a' c' kk s _ hk _ _=>old _ _ hk,fun k rows a' c' kk sz _ hs=>by simp [Eff.new,jZ] at hs,fun k hk=>⟨hk,g.block k (h.mem.fz k hk).1⟩⟩ hx
  (fun k L' b _ hk hb'=>g.block b (blk k L' b hk hb')) (fun _ _=>rfl) (fun k y hu => ?_) (fun k hu => ?_) (fun k y hu => ?_) (fun k k' L1 L2 b h1 h2 hb1 hb2 => ?_) (fun k L' b hk hb' => ?_) (fun k hk=>⟨vZK (h.mem.fz k hk).1 g.size,(h.mem.fz k hk).2⟩) (qXQ h.mem.grow g) (fun b hb=>zWX (zGD hnone hb))
 ·simp only [Eff.new,kW] at hu;split at hu
  ·rename_i e; rw [← e]; exact hid.2
  ·cases hu
 ·simp only [Eff.new,kW] at hu;split at hu
  ·cases hu
  ·rename_i hne; exact qYG (Ne.symm hne)
 ·simp only [Eff.new,kW] at hu;split at hu
  ·rename_i he; cases hu; subst he; exact hent
  ·cases hu
 ·rcases inv k L1 h1 with ⟨e1,e2⟩ | ⟨n1,h1'⟩ <;> rcases inv k' L2 h2 with ⟨e3,e4⟩ | ⟨n2,h2'⟩
  ·rw [e1,e3]
  ·rw [e2] at hb1; have:=(hb b hb1).1; have:=blk k' L2 b h2' hb2; omega
  ·rw [e4] at hb2; have:=(hb b hb2).1; have:=blk k L1 b h1' hb1; omega
  ·exact h.mem.apart k k' L1 L2 b h1' h2' hb1 hb2
 ·rcases inv k L' hk with ⟨rfl,rfl⟩ | ⟨_,hk⟩
  ·have:=hb b hb'
   exact ⟨fun hf=>by have:=(h.mem.fz b hf).1; omega,this.2,.inl (Nat.le_trans h.mem.grow.size this.1)⟩
  ·have:=h.mem.off k L' b hk hb'
   exact ⟨this.1,vZK this.2.1 g.size,this.2.2⟩
theorem Rel'.set (h:Rel' E n ρ F σ a w) {id b:Nat} {L:Loc} (hρ:ρ id=some L) (hb:L.bl=some b) {ent:Ent} {w':World} (g:GrowB (· = b) w w') (hent:EntOk ρ F w' id ent) {x:HV} {v:Value} (hx:RH ρ F w' x v) {dst:Option Nat} (hd:dstB n dst=true) (hni:L.inner=false:=by rfl) (h2:id ≠ pid2 ∨ ∃ a c k s,L=.reg a c k s:=by first | exact .inr ⟨_,_,_,_,rfl⟩ | exact .inl (by assumption)) :
  Rel' E n ρ F (σ.apply (.set id ent x) dst) (a.put dst v) w':=by
 have hoff:=h.mem.off id L b hρ hb;have fzb:∀ k,F k→w'.heap[k]? = w.heap[k]?:=fun k hk=>g.block k (h.mem.fz k hk).1 fun e=>by subst e; exact hoff.1 hk
 refine h.apply (.set id ent x) dst v (fun d e=>by subst e; simpa [dstB] using hd) ⟨fun k b hk=>hk,fun k L' hk _ _=>hk,fun _ _ _ _ _ _ _ hk _ _=>hk,fun k rows a' c' kk sz _ hs=>by simp [Eff.set,jZ] at hs,fun k hk=>⟨hk,fzb k hk⟩⟩ hx
  (fun k L' b' hu hk hb' => ?_) (fun _ _=>rfl) (fun k y hu => ?_) (fun k hu=>rfl) (fun k y hu => ?_) h.mem.apart (fun k L' b' hk hb' => ?_) (fun k hk=>⟨vZK (h.mem.fz k hk).1 g.size,(h.mem.fz k hk).2⟩) ?_ (fun b2 hb2=>zWX (by
   rcases h2 with h2 | ⟨_,_,_,_,e2⟩
   ·exact h2
   ·rw [e2] at hρ; exact zZI hρ hb2))
 ·refine g.block b' (h.mem.off k L' b' hk hb').2.1 fun e => ?_
  subst e
  have:=h.mem.apart k id L' L b' hk hρ hb' hb
  subst this;simp [Eff.set,kW] at hu
 ·simp only [Eff.set,kW] at hu;split at hu
  ·rename_i he; rw [← he]; exact h.mem.lt hρ hni
  ·cases hu
 ·simp only [Eff.set,kW] at hu;split at hu
  ·rename_i he; cases hu; subst he; exact hent
  ·cases hu
 ·have:=h.mem.off k L' b' hk hb'
  exact ⟨this.1,vZK this.2.1 g.size,this.2.2⟩
 ·refine ⟨g.os.trans h.mem.grow.os,g.tape.trans h.mem.grow.tape,g.output.trans h.mem.grow.output,Nat.le_trans h.mem.grow.size g.size,fun k hk hW => ?_⟩;rw [g.block k (vZK hk h.mem.grow.size) fun e => ?_]
  ·exact h.mem.grow.block k hk hW
  ·subst e;rcases hoff.2.2 with h1 | h1
   ·omega
   ·exact hW h1
theorem Rel'.app (h:Rel' E n ρ F σ a w) {id:Nat} {L L':Loc} (hρ:ρ id=some L) (hreg:∃ a c k s,L=.reg a c k s) {ent:Ent} {w':World} (g:GrowB (fun k=>L.bl=some k) w w') (hb:∀ b,L'.bl=some b→L.bl=some b ∨ (w.heap.size≤b∧b < w'.heap.size))
  (hent:EntOk (updO ρ id L') F w' id ent) {x:HV} {v:Value} (hx:RH (updO ρ id L') F w' x v) {dst:Option Nat} (hd:dstB n dst=true):Rel' E n (updO ρ id L') F (σ.apply (.app id ent x) dst) (a.put dst v) w':=by
 have hoff:=fun b hb=>h.mem.off id L b hρ hb
 have fzb:∀ k,F k→w'.heap[k]? = w.heap[k]?:=fun k hk=>g.block k (h.mem.fz k hk).1 fun e=>(hoff k e).1 hk
 have sub1:∀ k,jZ [(id,(none:Option Rows))] k=if id=k then some none else none:=fun k=>by
  simp only [jZ];by_cases e:id=k
  ·subst e; simp
  ·simp [qQW e,e]
 have old:∀ k L1,ρ k=some L1→k ≠ id→updO ρ id L' k=some L1:=fun k L1 hk hne=>by rw [qYG hne]; exact hk
 have inv:∀ k L1,updO ρ id L' k=some L1→(k=id∧L1=L') ∨ (k ≠ id∧ρ k=some L1):=fun k L1 hk=>by
  by_cases e:k=id
  ·subst e; rw [jU] at hk; cases hk; exact .inl ⟨rfl,rfl⟩
  ·rw [qYG e] at hk; exact .inr ⟨e,hk⟩
 obtain ⟨ra,rc,rk,rs,rfl⟩:=hreg;have blkne:∀ k b,ρ k=some (.blk b)→k ≠ id:=fun k b hk e=>by subst e; rw [hρ] at hk; cases hk
 have offs:∀ k L1 b,ρ k=some L1→L1.bl=some b→k ≠ id→Loc.bl (.reg ra rc rk rs) ≠ some b:=fun k L1 b hk hb1 hne he=>hne (h.mem.apart k id L1 _ b hk hρ hb1 he)
 refine h.apply (.app id ent x) dst v (fun d e=>by subst e; simpa [dstB] using hd)
  ⟨fun k b hk=>old k _ hk (blkne k b hk),fun k L1 hk hs _=>old k L1 hk fun e=>by subst e; simp [Eff.app,sub1] at hs,fun k j a' c' kk s _ hk _ _=>old _ _ hk fun e=>by have h1:=h.mem.lt hρ rfl; have h2:=qKG k j; omega,fun k rows a' c' kk sz _ hs=>(by simp only [Eff.app,sub1] at hs; split at hs <;> cases hs),fun k hk=>⟨hk,fzb k hk⟩⟩ hx
  (fun k L1 b' hu hk hb' => ?_) (fun k hu => ?_) (fun k y hu => ?_) (fun k hu => ?_) (fun k y hu => ?_) (fun k k' L1 L2 b h1 h2 hb1 hb2 => ?_) (fun k L1 b' hk hb' => ?_) (fun k hk=>⟨vZK (h.mem.fz k hk).1 g.size,(h.mem.fz k hk).2⟩) ?_ (fun b hb=>zWX (zZI hρ hb))
 ·simp only [Eff.app,kW] at hu;split at hu
  ·cases hu
  ·rename_i hne;exact g.block b' (h.mem.off k L1 b' hk hb').2.1 (offs k L1 b' hk hb' (Ne.symm hne))
 ·simp only [Eff.app,kW] at hu;split at hu
  ·cases hu
  ·rename_i hne; simp only [Eff.app,sub1,if_neg hne]
 ·simp only [Eff.app,kW] at hu;split at hu
  ·rename_i he; rw [← he]; exact h.mem.lt hρ rfl
  ·cases hu
 ·simp only [Eff.app,kW] at hu;split at hu
  ·cases hu
  ·rename_i hne; exact qYG (Ne.symm hne)
 ·simp only [Eff.app,kW] at hu;split at hu
  ·rename_i he; cases hu; subst he; exact hent
  ·cases hu
 ·have cross:∀ k L1 b,k ≠ id→ρ k=some L1→L1.bl=some b→L'.bl=some b→False:=fun k L1 b hne hk hb1 hb2=>by
   rcases hb b hb2 with h3 | h3
   ·exact offs k L1 b hk hb1 hne h3
   ·have:=(h.mem.off k L1 b hk hb1).2.1; omega
  rcases inv k L1 h1 with ⟨e1,e2⟩ | ⟨n1,h1'⟩ <;> rcases inv k' L2 h2 with ⟨e3,e4⟩ | ⟨n2,h2'⟩
  ·rw [e1,e3]
  ·rw [e2] at hb1; exact (cross k' L2 b n2 h2' hb2 hb1).elim
  ·rw [e4] at hb2; exact (cross k L1 b n1 h1' hb1 hb2).elim
  ·exact h.mem.apart k k' L1 L2 b h1' h2' hb1 hb2
 ·rcases inv k L1 hk with ⟨rfl,rfl⟩ | ⟨_,hk⟩
  ·rcases hb b' hb' with h3 | h3
   ·have:=hoff b' h3; exact ⟨this.1,vZK this.2.1 g.size,this.2.2⟩
   ·exact ⟨fun hf=>by have:=(h.mem.fz b' hf).1; omega,h3.2,.inl (Nat.le_trans h.mem.grow.size h3.1)⟩
  ·have:=h.mem.off k L1 b' hk hb'
   exact ⟨this.1,vZK this.2.1 g.size,this.2.2⟩
 ·refine ⟨g.os.trans h.mem.grow.os,g.tape.trans h.mem.grow.tape,g.output.trans h.mem.grow.output,Nat.le_trans h.mem.grow.size g.size,fun k hk hW => ?_⟩;rw [g.block k (vZK hk h.mem.grow.size) fun e => ?_]
  ·exact h.mem.grow.block k hk hW
  ·rcases (hoff k e).2.2 with h1 | h1
   ·omega
   ·exact hW h1
end
section
variable {P:Program} {E:Env} {C:Cx} {ρ:Own} {F:Nat→Prop} {σ:St} {a:Act} {w:World} {vs:List RV} {e:Eff}
variable {d:Option Tmp} {ty:TypeId} {pos:String} {af:Array Edge} {g:Option (Nat × Bool)}
theorem qQA {o:Oper} {v:Value} {w':World} {T:Value→World→Prop} (h:(execOp a.eval o).run P w=.ok (.value v) w') (hT:T v w'):Goes P o a w T:=by unfold Goes; rw [h]; exact hT
theorem zXC {o:Oper} {w':World} {T:Value→World→Prop} (h:(execOp a.eval o).run P w=.ok .skip w') (hT:T undef w'):Goes P o a w T:=by unfold Goes; rw [h]; exact hT
theorem uU {x:Operand} {v:Value} (h:Rel' E C.n ρ F σ a w) (hx:ev (actS a) x=some v):a.eval x=v:=(fits_act h.size).ev hx
theorem new_blk (h:Rel' E C.n ρ F σ a w) {o:Oper} {id:Nat} {hs:List HV} {us:List Value} {t:TypeId} (hd:dstB C.n o.dst=true) (hid:qJC σ.M id) (hrun:(execOp a.eval o).run P w=.ok (.value (.pointer (some ⟨w.heap.size,0,none⟩))) (w.alloc (.cells us.toArray t)))
  (hal:Al (RH ρ F w) hs us) (h1:∀ u ∈ us,u.oneCell'=true):OK P E C σ a w (.new id (.blk hs) (.p id 0)) o:=by
 have gr:Grow w (w.alloc (.cells us.toArray t)):=(Grow.refl w).alloc _;have hF:∀ k,F k→F k∧(w.alloc (.cells us.toArray t)).heap[k]? = w.heap[k]?:=fun k hk=>⟨hk,gr.block k (h.mem.fz k hk).1⟩
 have hnone:ρ id=none:=h.mem.fresh hid;refine qQA hrun ⟨updO ρ id (.blk w.heap.size),F,h.new (ent:=.blk hs) (x:=.p id 0) (L:=.blk w.heap.size) hid gr (fun b hb => ?_) ⟨w.heap.size,us,t,jU _ _ _,?_,hal.imp fun x y _ hr=>hr.mono (fun k L hk => ?_) hF,h1⟩ ⟨w.heap.size,jU _ _ _,rfl⟩ hd⟩
 ·simp only [Loc.bl,vQZ] at hb;subst hb;exact ⟨Nat.le_refl _,by show w.heap.size < (w.heap.push _).size; simp⟩
 ·show (w.heap.push _)[w.heap.size]? = _; simp
 ·rw [qYG (fun e=>by subst e; rw [hnone] at hk; cases hk)]; exact hk
theorem ok_alloc {t:TypeId} (hT:TabOk P C.T) (h:Rel' E C.n ρ F σ a w) (hd:dstB C.n d=true) (hvs:mapO (opv 0 σ) []=some vs) (he:zU C.T C.cA C.cB C.me (d.getD 0) (.alloc t) vs=some e) (hn:∀ i ∈ e.nw,qJC σ.M i):OK P E C σ a w e ⟨d,.alloc t,ty,pos,af,g⟩:=by
 simp [mapO] at hvs;subst hvs;simp only [zU,vQQ,vQZ] at he;obtain ⟨hs,hz,rfl⟩:=he;obtain ⟨z,hz,hal⟩:=hT.zh t hs hz;refine new_blk h hd (hn _ (by simp [Eff.new])) (us:=z.cells.toList) (t:=t) ?_ (hal.imp fun x y _ hr=>hr.1 ρ F w) (fun u hu => ?_)
 ·simp [execOp,Instr.alloc,zJE hz,newVar,newRow]
 ·obtain ⟨i,hi⟩:=List.mem_iff_getElem?.1 hu;have hil:=(List.getElem?_eq_some_iff.1 hi).1;have hl:i < hs.length:=by rw [hal.1]; exact hil
  exact (hal.2 i _ u (vQK hl) hi).2
theorem hcells_rel {r:RV} {hs:List HV} {v:Value} (hh:r.hcells=some hs) (hr:RH ρ F w r.back v):Al (RH ρ F w) hs v.cells.toList∧∀ u ∈ v.cells.toList,u.oneCell'=true:=by
 have one:∀ {x:HV},some [x]=some hs→v.oneCell'=true→v.cells=#[v]→RH ρ F w x v→Al (RH ρ F w) hs v.cells.toList∧∀ u ∈ v.cells.toList,u.oneCell'=true:=by
  intro x h1 h2 h3 h4;cases h1;rw [h3];exact ⟨Al.cons h4 Al.nil,fun u hu=>by simp at hu; subst hu; exact h2⟩
 cases r with
 | v p =>
  cases p with
  | a cs =>
   cases hh;obtain ⟨us,rfl,hal,h1⟩:=qHG hr;exact ⟨Al.map_left (show Al (fun z y=>RH ρ F w (PV.toH z) y) cs us from hal.imp fun _ _ _ h=>zUX h),fun u hu=>h1 u hu⟩
  | t cs=>cases hh
  | lf n f=>have hr2:=yQX hr; generalize (List.range n).map f=rows at hr2; cases hr2 <;> exact one hh rfl rfl hr
  | zf n f j o=>obtain ⟨_,b,off,sz,g,rfl,_⟩:=yYQ hr; exact one hh rfl rfl hr
  | _=>have hr2:RP F w _ v:=hr; cases hr2 <;> exact one hh rfl rfl hr
 | nl=>have:v=.slice none 0 0:=hr; subst this; exact one hh rfl rfl hr
 | o id e sz rows=>have hr2:=hr; obtain ⟨a',c,k,sz',_,rfl⟩:=hr2; exact one hh rfl rfl hr
 | p id off cells=>have hr2:=hr; obtain ⟨b,_,rfl⟩:=hr2; exact one hh rfl rfl hr
 | q id j off e sz rows=>have hr2:=hr; obtain ⟨b,c,k,sz',_,_,rfl⟩:=hr2; exact one hh rfl rfl hr
 | no id e n=>have hr2:=hr; obtain ⟨a',c,k,sz',_,rfl⟩:=hr2; exact one hh rfl rfl hr
 | nq id j off e ie isz rows pd=>have hr2:=hr; obtain ⟨b,c,k,sz',_,_,rfl⟩:=hr2; exact one hh rfl rfl hr
 | mi id j e ie isz rows pd=>have hr2:=hr; obtain ⟨a',c,k,sz',⟨_,rfl⟩,_⟩:=hr2; exact one hh rfl rfl hr
 | i id off s pos=>have hr2:=hr; obtain ⟨b,_,rfl⟩:=hr2; exact one hh rfl rfl hr
 | ld id i=>have hr2:=hr; obtain ⟨b,_,rfl⟩:=hr2; exact one hh rfl rfl hr
 | g fn first cap=>have hr2:=hr; obtain ⟨fs,cs,rfl,_⟩:=hr2; exact one hh rfl rfl hr
 | w x =>
  cases x with
  | un=>cases hh
  | v p=>cases hh
  | nl=>have:v=.slice none 0 0:=hr; subst this; exact one hh rfl rfl hr
  | o id=>have hr2:=hr; obtain ⟨a',c,k,sz',_,rfl⟩:=hr2; exact one hh rfl rfl hr
  | p id off=>have hr2:=hr; obtain ⟨b,_,rfl⟩:=hr2; exact one hh rfl rfl hr
  | q id j off=>have hr2:=hr; obtain ⟨b,c,k,sz',_,_,rfl⟩:=hr2; exact one hh rfl rfl hr
  | g fn first cap=>have hr2:=hr; obtain ⟨fs,cs,rfl,_⟩:=hr2; exact one hh rfl rfl hr
  | m id j=>have hr2:=hr; obtain ⟨a',c,k,sz',⟨_,rfl⟩,_⟩:=hr2; exact one hh rfl rfl hr
  | mp id j=>have hr2:=hr; obtain ⟨a',c,k,sz',⟨_,rfl⟩,_⟩:=hr2; exact one hh rfl rfl hr
  | ag cs =>
   cases hh;obtain ⟨us,rfl,hal,h1⟩:=hr;exact ⟨Al.map_left (show Al (fun z y=>RH ρ F w (HC.h z) y) cs us from hal.imp fun _ _ _ h=>h.h),fun u hu=>h1 u hu⟩
 | un=>cases hh
theorem ok_box {t:TypeId} {x:Operand} (h:Rel' E C.n ρ F σ a w) (hd:dstB C.n d=true) (hvs:mapO (opv 1 σ) [x]=some vs) (he:zU C.T C.cA C.cB C.me (d.getD 0) (.box t x) vs=some e) (hn:∀ i ∈ e.nw,qJC σ.M i):OK P E C σ a w e ⟨d,.box t x,ty,pos,af,g⟩:=by
 obtain ⟨r,hr,rfl⟩:=qGK hvs;obtain ⟨v,h1,h2,h3⟩:=jY h hr;simp only [zU,vQQ,vQZ] at he;obtain ⟨hs,hh,rfl⟩:=he;obtain ⟨q1,q2⟩:=hcells_rel hh h2;refine new_blk h hd (hn _ (by simp [Eff.new])) (us:=v.cells.toList) (t:=t) ?_ q1 q2;simp [execOp,Instr.box,uU h h1,newVar,newRow]
theorem ok_store_blk2 {t:TypeId} {x y:Operand} {id off:Nat} {hc hs cs:List HV} {k:Bool × Nat} {v u:Value} (hT:TabOk P C.T) (h:Rel' E C.n ρ F σ a w) (hk:C.T.sz t=some k) (hx:ev (actS a) x=some v) (hy:ev (actS a) y=some u)
  (hv:RH ρ F w (.p id off) v) (hlk:zG σ.M id=some (.blk hc)) (q1:Al (RH ρ F w) hs u.cells.toList) (q2:∀ z ∈ u.cells.toList,z.oneCell'=true) (hl:hs.length=k.2) (hcs:qZG hc off hs=some cs) (hd:dstB C.n d=true) (hne:id ≠ pid2) :
  OK P E C σ a w (.set id (.blk cs) .un) ⟨d,.store t x y,ty,pos,af,g⟩:=by
 obtain ⟨b,hρ,rfl⟩:=hv;obtain ⟨b2,us,ty',hρ2,hheap,hcells,hone⟩:=h.mem.ent id _ hlk;rw [hρ] at hρ2;cases hρ2;obtain ⟨e1,e2⟩:=qWI hcs;have hul:u.cells.toList.length=hs.length:=q1.1.symm;have hst:=run_storeCells_at P b off ty' u.cells.toList 0 us.toArray w hheap (by rw [hul]; have:=hcells.1; simp only [List.size_toArray]; omega) q2;obtain ⟨R,hR,hst'⟩:∃ R:List Value,R=us.take off ++ u.cells.toList ++ us.drop (off + hs.length)∧(storeCells ⟨b,off,none⟩ u.cells.toList 0).run P w=.ok () (w.setRow b R.toArray):=⟨_,rfl,by rw [← hul]; simpa using hst⟩
 have hrun:(execOp a.eval ⟨d,.store t x y,ty,pos,af,g⟩).run P w=.ok .skip (w.setRow b R.toArray):=by
  have hz:u.cells.size=k.2:=by rw [← hl,← hul]; simp
  have hTt:=qYQ (hT.sz t k.1 k.2 hk).1;simp [execOp,uU h hx,uU h hy,Instr.storeAt,Instr.sureAddr,storeVar,hTt,hz,hst']
 have hset:=setRow_heap w b _ R.toArray ty' _ hheap;have hoff:=h.mem.off id _ b hρ rfl;have hF:∀ k,F k→F k∧(w.setRow b R.toArray).heap[k]? = w.heap[k]?:=fun k hk=>⟨hk,(GrowB.set b w R.toArray).block k (h.mem.fz k hk).1 fun e=>by subst e; exact hoff.1 hk⟩
 have hcs2:Al (RH ρ F w) cs R:=by
  rw [e1,hR];exact ((hcells.take off).append q1).append (hcells.drop _)
 refine zXC hrun ⟨ρ,F,h.set (ent:=.blk cs) (x:=.un) hρ rfl (GrowB.set b w R.toArray) ⟨b,R,ty',hρ,hset,hcs2.imp fun _ _ _ h=>h.mono (fun _ _ h=>h) hF,fun z hz => ?_⟩ trivial hd⟩;rw [hR] at hz;simp only [List.mem_append] at hz;rcases hz with (hz | hz) | hz
 ·exact hone z (List.mem_of_mem_take hz)
 ·exact q2 z hz
 ·exact hone z (List.mem_of_mem_drop hz)
theorem cvs_back {M:Mem}:∀ {hc:List HV} {cells:List CV},mapO (cvOf M) hc=some cells→cells.map CV.back=hc:=by
 intro hc;induction hc with
 | nil=>intro cells h; simp only [mapO,vQZ] at h; subst h; rfl
 | cons x hc ih =>
  intro cells h;simp only [mapO,vQQ,vQZ] at h;obtain ⟨c,hc1,l,hl,rfl⟩:=h;rw [List.map_cons,ih hl]
  have:c.back=x:=by
   cases x <;> simp only [cvOf] at hc1
   all_goals first | (cases hc1; rfl) | (split at hc1 <;> cases hc1 <;> rfl)
  rw [this]
theorem ok_store_blk {t:TypeId} {x y:Operand} {id off:Nat} {cells:List CV} {r:RV} {hs cs:List HV} {k:Bool × Nat} {v u:Value} (hT:TabOk P C.T) (h:Rel' E C.n ρ F σ a w) (hk:C.T.sz t=some k) (hx:ev (actS a) x=some v) (hy:ev (actS a) y=some u)
  (hv:RH ρ F w (.p id off) v) (hres:RRes σ.M (.p id off cells)) (hu:RH ρ F w r.back u) (hh:r.hcells=some hs) (hl:hs.length=k.2) (hcs:qZG (cells.map CV.back) off hs=some cs) (hd:dstB C.n d=true) (hne:id ≠ pid2) :
  OK P E C σ a w (.set id (.blk cs) .un) ⟨d,.store t x y,ty,pos,af,g⟩:=by
 obtain ⟨hc,hlk,hcc⟩:=hres;obtain ⟨q1,q2⟩:=hcells_rel hh hu;exact ok_store_blk2 hT h hk hx hy hv hlk q1 q2 hl (by rw [← cvs_back hcc]; exact hcs) hd hne
end
end Go.Rx
namespace Go.Rx
open Go.RowKit Go.Sx
section
variable {P:Program} {E:Env} {C:Cx} {ρ:Own} {F:Nat→Prop} {σ:St} {a:Act} {w:World} {vs:List RV} {e:Eff}
variable {d:Option Tmp} {ty:TypeId} {pos:String} {af:Array Edge} {g:Option (Nat × Bool)}
theorem rel_reg (h:Rel' E C.n ρ F σ a w) {id e' sz c:Nat} {ad:Option Addr} {rows:Rows} {vr:List (List Value)} {w':World} {dst:Option Nat} (hd:dstB C.n dst=true) (hid:qJC σ.M id) (gr:Grow w w')
  (hb:∀ b,ad.map (·.block)=some b→w.heap.size≤b∧b < w'.heap.size) (h0:0 < sz) (hal:Al (Al (RP F w)) rows.L vr) (hrl:∀ r ∈ rows.L,r.length=sz) (hone:∀ v ∈ vr,∀ u ∈ v,u.oneCell'=true)
  (hown:w'.ownsRow 0 e' sz (.slice ad rows.len c) rows.len vr.flatten):Rel E C.n (σ.apply (.new id (.reg e' sz rows) (.o id)) dst) (a.put dst (.slice ad rows.len c)) w':=by
 have hF:∀ k,F k→F k∧w'.heap[k]? = w.heap[k]?:=fun k hk=>⟨hk,gr.block k (h.mem.fz k hk).1⟩
 exact ⟨updO ρ id (.reg ad c rows.len sz),F,h.new (ent:=.reg e' sz rows) (x:=.o id) (L:=.reg ad c rows.len sz) hid gr hb ⟨ad,c,vr,jU _ _ _,h0,hal.imp fun _ _ _ h=>h.imp fun _ _ _ h=>h.mono hF,hrl,hone,hown⟩ ⟨ad,c,rows.len,sz,jU _ _ _,rfl⟩ hd⟩
theorem qHA {nw:Rows} {rows:List (List PV)} (hN:nw.L=rows) (h:Rel' E C.n ρ F σ a w) {id e' sz c:Nat} {ad:Option Addr} {vr:List (List Value)} {w':World} {dst:Option Nat} (hd:dstB C.n dst=true) (hid:qJC σ.M id) (gr:Grow w w')
  (hb:∀ b,ad.map (·.block)=some b→w.heap.size≤b∧b < w'.heap.size) (h0:0 < sz) (hal:Al (Al (RP F w)) rows vr) (hrl:∀ r ∈ rows,r.length=sz) (hone:∀ v ∈ vr,∀ u ∈ v,u.oneCell'=true)
  (hown:w'.ownsRow 0 e' sz (.slice ad rows.length c) rows.length vr.flatten):Rel E C.n (σ.apply (.new id (.reg e' sz nw) (.o id)) dst) (a.put dst (.slice ad rows.length c)) w':=by
 subst hN;rw [Rows.len_L] at hown ⊢;exact rel_reg h hd hid gr hb h0 hal hrl hone hown
theorem zUV {α:Type} (x:α):∀ k,(qJF x k).length=k
 | 0=>rfl
 | k + 1=>by rw [qJF,vQW,zUV x k]
theorem replL_map {α:Type} (x:α) (n:Nat):(List.range n).map (fun _=>x)=qJF x n:=by
 have:∀ n,qJF x n=List.replicate n x:=fun n=>by
  induction n with
  | zero=>rfl
  | succ n ih=>rw [qJF,ih]; rfl
 rw [this,List.map_const',List.length_range]
theorem flatten_take {sz n:Nat} {vr:List (List Value)} (h:∀ r ∈ vr,r.length=sz):(vr.take n).flatten=vr.flatten.take (n * sz):=by
 induction vr generalizing n with
 | nil=>simp
 | cons r vr ih =>
  cases n with
  | zero=>simp
  | succ n =>
   have hr:=h r vZQ;simp only [vYK,List.flatten_cons,ih fun x hx=>h x (vQH _ hx)];have e1:r.take ((n + 1) * sz)=r:=List.take_of_length_le (by rw [hr,Nat.add_mul]; omega);rw [List.take_append,e1,hr,show (n + 1) * sz - sz=n * sz by rw [Nat.add_mul]; omega]
theorem qZQ {x k:Nat}:jZ [(x,(none:Option Rows))] k=if x=k then some none else none:=by
 simp only [jZ];by_cases e:x=k
 ·subst e; simp
 ·simp [qQW e,e]
noncomputable def newN (ρ:Own) (id:Nat) (L:Loc) (isz:Nat):Own:=fun k=>if k=id then some L else @ite _ (∃ j,k=nid id j) (vYJ _) (some (.inn none 0 0 isz)) (ρ k)
theorem yYE (ρ:Own) (id:Nat) (L:Loc) (isz:Nat):newN ρ id L isz id=some L:=if_pos rfl
theorem newN_in {ρ:Own} {id:Nat} {L:Loc} {isz:Nat} (h:id < 2000000) (j:Nat):newN ρ id L isz (nid id j)=some (.inn none 0 0 isz):=by
 unfold newN;rw [if_neg (by have:=qKG id j; omega),if_pos ⟨j,rfl⟩]
theorem yYD {ρ:Own} {id k:Nat} {L:Loc} {isz:Nat} (h1:k ≠ id) (h2:∀ j,k ≠ nid id j):newN ρ id L isz k=ρ k:=by
 unfold newN;rw [if_neg h1,if_neg (fun ⟨j,e⟩=>h2 j e)]
theorem qKY {ρ:Own} {id k:Nat} {L L':Loc} {isz:Nat} (h:newN ρ id L isz k=some L'):(k=id∧L'=L) ∨ (k ≠ id∧(∃ j,k=nid id j)∧L'=.inn none 0 0 isz) ∨ (k ≠ id∧(∀ j,k ≠ nid id j)∧ρ k=some L'):=by
 by_cases h1:k=id
 ·subst h1; rw [yYE] at h; cases h; exact .inl ⟨rfl,rfl⟩
 ·by_cases h2:∃ j,k=nid id j
  ·unfold newN at h; rw [if_neg h1,if_pos h2] at h; cases h; exact .inr (.inl ⟨h1,h2,rfl⟩)
  ·have h2':∀ j,k ≠ nid id j:=fun j e=>h2 ⟨j,e⟩
   rw [yYD h1 h2'] at h; exact .inr (.inr ⟨h1,h2',h⟩)
theorem Rel'.newN {n:Nat} (h:Rel' E n ρ F σ a w) {id:Nat} (hid:qJC σ.M id) {e ie isz b c:Nat} {rows:NR} {w':World} (g:Grow w w') (hb:w.heap.size≤b∧b < w'.heap.size) (hs:0 < isz)
  (hown:w'.ownsRow 0 e 1 (.slice (some ⟨b,0,none⟩) rows.len c) rows.len ((List.range rows.len).map fun _=>.slice none 0 0)) (hrow:∀ v,v < rows.len→∃ r,rows.at v=some r∧r.L=[]) {dst:Option Nat} (hd:dstB n dst=true) :
  Rel' E n (newN ρ id (.reg (some ⟨b,0,none⟩) c rows.len 1) isz) F (σ.apply ⟨[(id,some (.nst e ie isz rows none))],[(mid id,none)],.o id,[id]⟩ dst) (a.put dst (.slice (some ⟨b,0,none⟩) rows.len c)) w':=by
 have hnone:ρ id=none:=h.mem.fresh hid;have hlt:=hid.2;have old:∀ k L',ρ k=some L'→L'.inner=false→Go.Rx.newN ρ id (.reg (some ⟨b,0,none⟩) c rows.len 1) isz k=some L':=fun k L' hk hi=>by
  rw [yYD (fun e=>by subst e; rw [hnone] at hk; cases hk) fun j e=>by have h1:=h.mem.lt hk hi; have h2:=qKG id j; omega]; exact hk
 refine h.apply2 ⟨[(id,some (.nst e ie isz rows none))],[(mid id,none)],.o id,[id]⟩ dst _ (fun d e=>by subst e; simpa [dstB] using hd)
  ⟨fun k b hk=>old k _ hk rfl,fun k L' hk _ hi=>old k L' hk hi,fun k j a' c' kk s hk2 hk _ hs2 => ?_,fun k rows a' c' kk sz _ hs=>(by simp only [qZQ] at hs; split at hs <;> cases hs),fun k hk=>⟨hk,g.block k (h.mem.fz k hk).1⟩⟩ ⟨_,_,_,_,yYE _ _ _ _,rfl⟩
  (fun k L' b' _ _ hk hb'=>g.block b' (h.mem.off k L' b' hk hb').2.1) (fun k hk _ => ?_) (fun k hk hu => ?_) (fun k y hu => ?_) (fun k L' hu hL hi => ?_) (fun k y hu => ?_) (fun k L' hL hi => ?_) (fun k k' L1 L2 b' h1 h2 hb1 hb2 => ?_) (fun k L' b' hk hb' => ?_) (fun k hk=>⟨vZK (h.mem.fz k hk).1 g.size,(h.mem.fz k hk).2⟩) (qXQ h.mem.grow g) (fun b hb=>zWX (zGD hnone hb))
 ·have hne:k ≠ id:=fun e=>by subst e; simp [qZQ] at hs2
  rw [yYD (by have:=qKG k j; omega) fun j' e=>hne (zXW hk2 hlt e).1]; exact hk
 ·simp only [qZQ]; rw [if_neg (by unfold mid; omega)]
 ·simp only [kW] at hu;simp only [qZQ];split at hu
  ·cases hu
  ·rename_i hne; rw [if_neg (by unfold mid; omega)]
 ·simp only [kW] at hu;split at hu
  ·rename_i e; rw [← e]; exact hlt
  ·cases hu
 ·simp only [kW] at hu;split at hu
  ·cases hu
  ·rename_i hne;rcases qKY hL with ⟨e1,_⟩ | ⟨_,_,rfl⟩ | ⟨_,_,h3⟩
   ·exact absurd e1.symm hne
   ·cases hi
   ·exact h3
 ·simp only [kW] at hu;split at hu
  ·rename_i he;cases hu;subst he;refine ⟨some ⟨b,0,none⟩,c,fun _=>.slice none 0 0,yYE _ _ _ _,⟨hlt,hs⟩,hown,fun _ _=>rfl,(fun j r e=>by cases e),fun v hv => ?_⟩;obtain ⟨r,hr,hrL⟩:=hrow v hv;have hr0:r.len=0:=by rw [← Rows.len_L,hrL]; rfl
   exact ⟨r,none,0,[],hr,by rw [hr0]; exact newN_in hlt v,fun _=>by rw [hr0],by rw [hrL]; exact Al.nil,(fun x hx=>by rw [hrL] at hx; cases hx),(fun x hx=>by cases hx),by rw [hr0]; exact ⟨by simp,.inl (by simp)⟩⟩
  ·cases hu
 ·rcases qKY hL with ⟨_,rfl⟩ | ⟨_,⟨j,rfl⟩,_⟩ | ⟨_,_,h3⟩
  ·cases hi
  ·exact qKG id j
  ·exact h.mem.inr k L' h3 hi
 ·rcases qKY h1 with ⟨e1,rfl⟩ | ⟨_,_,rfl⟩ | ⟨_,_,h1'⟩
  ·rcases qKY h2 with ⟨e2,_⟩ | ⟨_,_,rfl⟩ | ⟨_,_,h2'⟩
   ·rw [e1,e2]
   ·cases hb2
   ·have:=(h.mem.off k' L2 b' h2' hb2).2.1
    simp only [Loc.bl,Option.map_some,vQZ] at hb1;omega
  ·cases hb1
  ·rcases qKY h2 with ⟨_,rfl⟩ | ⟨_,_,rfl⟩ | ⟨_,_,h2'⟩
   ·have:=(h.mem.off k L1 b' h1' hb1).2.1
    simp only [Loc.bl,Option.map_some,vQZ] at hb2;omega
   ·cases hb2
   ·exact h.mem.apart k k' L1 L2 b' h1' h2' hb1 hb2
 ·rcases qKY hk with ⟨_,rfl⟩ | ⟨_,_,rfl⟩ | ⟨_,_,hk'⟩
  ·simp only [Loc.bl,Option.map_some,vQZ] at hb';subst hb';exact ⟨fun hf=>by have:=(h.mem.fz b hf).1; omega,hb.2,.inl (Nat.le_trans h.mem.grow.size hb.1)⟩
  ·cases hb'
  ·have:=h.mem.off k L' b' hk' hb'
   exact ⟨this.1,vZK this.2.1 g.size,this.2.2⟩
theorem ok_make {t:TypeId} {x y:Operand} (hT:TabOk P C.T) (h:Rel' E C.n ρ F σ a w) (hd:dstB C.n d=true) (hvs:mapO (opv 0 σ) [x,y]=some vs) (he:zU C.T C.cA C.cB C.me (d.getD 0) (.makeSlice t x y) vs=some e) (hn:∀ i ∈ e.nw,qJC σ.M i):OK P E C σ a w e ⟨d,.makeSlice t x y,ty,pos,af,g⟩:=by
 obtain ⟨rx,ry,hx,hy,rfl⟩:=yUX hvs;obtain ⟨vx,x1,x2,_⟩:=jY h hx;obtain ⟨vy,y1,y2,_⟩:=jY h hy;cases rx with
 | v px =>
  cases ry with
  | v py =>
   cases px with
   | n k1 m =>
    cases py with
    | n k2 c =>
     simp only [zU,vQQ] at he;obtain ⟨⟨el,sz⟩,hsl,zs,hzs,he⟩:=he;cases hzf:(C.T.zf C.me && (decide (m=0) && decide (c=0))) with
     | true =>
      rw [hzf,vYV] at he;cases he;simp only [vQJ,decide_eq_true_eq] at hzf;obtain ⟨_,rfl,rfl⟩:=hzf;rw [qQL x2] at x1; rw [qQL y2] at y1;obtain ⟨hslc,hs0,hsk,bytes,happ,hby,_⟩:=hT.sl t el sz hsl;obtain ⟨z,hz,hal⟩:=hT.zr el zs hzs;obtain ⟨ht,i,z',hi,hz',hisz,hib,hzc,hzl,_⟩:=qHL happ hz;have hrun:=run_make (P:=P) w t el i z' ht hi hz' k1 k2 0 0 (by decide) (by decide) (by simp) (by decide);refine qQA (by simp only [execOp,uU h x1,uU h y1,Sem.run_bind,hrun]; rfl) ?_;exact ⟨ρ,F,h.val ((Grow.refl w).alloc _) (fun _ h=>h) (fun _ h=>.inl h) (x:=.v .ze) (RP.ze _) hd⟩
     | false =>
     rw [hzf,vYG] at he;cases hnf:C.T.nf C.me with
     | true =>
      rw [hnf,vYV] at he;simp only [vQQ] at he;obtain ⟨⟨ie,isz⟩,hsl2,z2,hz2,he⟩:=he;split at he
      ·obtain ⟨hb,he⟩:=qQ he;simp only [vQZ] at he;subst he;simp only [vQJ,decide_eq_true_eq] at hb;obtain ⟨⟨⟨hm0,hmc⟩,hc6⟩,hs1⟩:=hb;have hs1:sz=1:=vQX hs1;subst hs1;rw [qQL x2] at x1; rw [qQL y2] at y1;obtain ⟨hslc,hs0,hsk,bytes,happ,hby,_⟩:=hT.sl t el 1 hsl;obtain ⟨z,hz,hal⟩:=hT.zr el _ hzs;obtain ⟨ht,i,z',hi,hz',hisz,hib,hzc,hzl,_⟩:=qHL happ hz;have hzz:z'=z:=by
        unfold qYV at hz;rw [hi] at hz;simp only [vYQ] at hz;rw [hz'] at hz; exact Option.some.inj hz
       subst hzz;have hrun:=run_make (P:=P) w t el i z' ht hi hz' k1 k2 m c hm0 hmc (by
        have hb1:(i.bytes:Int)≤100000:=by rw [hib]; omega
        have hc0:0≤c:=by omega
        calc (i.bytes:Int) * c≤100000 * c:=Int.mul_le_mul_of_nonneg_right hb1 hc0
         _≤281474976710656:=by omega) (by omega)
       have hrow:=zXV (zs:=z'.cells.toList) (m:=c.toNat) hzl hs0;rw [Array.toArray_toList] at hrow;rw [hisz,hrow] at hrun;have hle:m.toNat≤c.toNat:=by omega
       have hcell:z'.cells.toList=[.slice none 0 0]:=by
        obtain ⟨u,us,e1,hu,hus⟩:=hal.cons_left
        have:=hus.nil_left
        subst this;have hu1:=hu.1 F w;cases hu1;exact e1
       have hrl:(bif C.T.ff C.me then NR.fo m.toNat (fun _=>.fo 0 (fun _=>z2)) else NR.l (qJF (.l []) m.toNat)).len=m.toNat:=by
        cases C.T.ff C.me
        ·exact zUV _ _
        ·rfl
       have hat:∀ v,v < m.toNat→∃ r,(bif C.T.ff C.me then NR.fo m.toNat (fun _=>.fo 0 (fun _=>z2)) else NR.l (qJF (.l []) m.toNat)).at v=some r∧r.L=[]:=by
        intro v hv;cases C.T.ff C.me
        ·refine ⟨.l [],?_,rfl⟩;show (qJF (Rows.l []) m.toNat)[v]? = _;rw [← replL_map,vZY,List.getElem?_range hv]; rfl
        ·exact ⟨_,rfl,rfl⟩
       generalize (bif C.T.ff C.me then NR.fo m.toNat (fun _=>.fo 0 (fun _=>z2)) else NR.l (qJF (.l []) m.toNat))=R0 at hrl hat hn ⊢;refine qQA (v:=.slice (some ⟨w.heap.size,0,none⟩) m.toNat c.toNat) (w':=w.alloc (.cells (List.replicate c.toNat z'.cells.toList).flatten.toArray el)) (by simp only [execOp,uU h x1,uU h y1,Sem.run_bind,hrun]; rfl) ?_;have hflat:∀ k:Nat,(List.replicate k z'.cells.toList).flatten=List.replicate k (.slice none 0 0):=fun k=>by
        rw [hcell];induction k with
        | zero=>rfl
        | succ k ih=>rw [List.replicate_succ,List.flatten_cons,ih]; rfl
       have:=h.newN (id:=d.getD 0) (e:=el) (ie:=ie) (isz:=isz) (b:=w.heap.size) (c:=c.toNat) (rows:=R0) (hn _ (by simp)) ((Grow.refl w).alloc (.cells (List.replicate c.toNat z'.cells.toList).flatten.toArray el)) ⟨Nat.le_refl _,by show w.heap.size < (w.heap.push _).size; simp⟩ (hT.sl el ie isz hsl2).2.1
        ⟨?_,.inr ⟨w.heap.size,c.toNat,(List.replicate c.toNat z'.cells.toList).flatten.toArray,rfl,Nat.zero_le _,?_,?_,?_,?_,?_⟩⟩ (by rw [hrl]; exact hat) hd
       ·rw [hrl] at this; exact ⟨_,_,this⟩
       ·simp
       ·show (w.heap.push _)[w.heap.size]? = _; simp
       ·rw [hrl]; exact hle
       ·show c.toNat≤9223372036854775807; omega
       ·rw [List.size_toArray,hflat]; simp
       ·rw [hrl,hflat,List.toList_toArray,List.take_replicate,Nat.mul_one,Nat.min_eq_left hle,List.map_const',List.length_range]
      ·cases he
     | false =>
     rw [hnf,vYG] at he;obtain ⟨hb,he⟩:=qQ he;simp only [vQZ] at he;subst he;simp only [vQJ,decide_eq_true_eq] at hb;obtain ⟨⟨hm0,hmc⟩,hc6⟩:=hb;rw [qQL x2] at x1; rw [qQL y2] at y1;obtain ⟨hslc,hs0,hsk,bytes,happ,hby,_⟩:=hT.sl t el sz hsl;obtain ⟨z,hz,hal⟩:=hT.zr el zs hzs;obtain ⟨ht,i,z',hi,hz',hisz,hib,hzc,hzl,_⟩:=qHL happ hz;have hzz:z'=z:=by
      unfold qYV at hz;rw [hi] at hz;simp only [vYQ] at hz;rw [hz'] at hz; exact Option.some.inj hz
     subst hzz;have hrun:=run_make (P:=P) w t el i z' ht hi hz' k1 k2 m c hm0 hmc (by
      have hb1:(i.bytes:Int)≤100000:=by rw [hib]; omega
      have hc0:0≤c:=by omega
      calc (i.bytes:Int) * c≤100000 * c:=Int.mul_le_mul_of_nonneg_right hb1 hc0
       _≤281474976710656:=by omega) (by omega)
     have hrow:=zXV (zs:=z'.cells.toList) (m:=c.toNat) hzl hs0;rw [Array.toArray_toList] at hrow;rw [hisz,hrow] at hrun;have hle:m.toNat≤c.toNat:=by omega
     have hrep:(List.replicate m.toNat z'.cells.toList)=(List.replicate c.toNat z'.cells.toList).take m.toNat:=by rw [List.take_replicate,Nat.min_eq_left hle]
     have hzlen:zs.length=sz:=by rw [hal.1]; exact hzl
     have hRL:(bif C.T.ff C.me then Rows.fo m.toNat (fun _=>zs) else Rows.l (qJF zs m.toNat)).L=qJF zs m.toNat:=by
      cases C.T.ff C.me
      ·rfl
      ·exact replL_map zs m.toNat
     have hrl:(bif C.T.ff C.me then Rows.fo m.toNat (fun _=>zs) else Rows.l (qJF zs m.toNat)).len=m.toNat:=by rw [← Rows.len_L,hRL,zUV]
     generalize (bif C.T.ff C.me then Rows.fo m.toNat (fun _=>zs) else Rows.l (qJF zs m.toNat))=R0 at hRL hrl hn ⊢;refine qQA (v:=.slice (some ⟨w.heap.size,0,none⟩) m.toNat c.toNat) (w':=w.alloc (.cells (List.replicate c.toNat z'.cells.toList).flatten.toArray el)) (by simp only [execOp,uU h x1,uU h y1,Sem.run_bind,hrun]; rfl) ?_
     have:=rel_reg (id:=d.getD 0) (e':=el) (sz:=sz) (c:=c.toNat) (ad:=some ⟨w.heap.size,0,none⟩) (rows:=R0) (vr:=List.replicate m.toNat z'.cells.toList) h hd (hn _ (by simp [Eff.new])) ((Grow.refl w).alloc (.cells (List.replicate c.toNat z'.cells.toList).flatten.toArray el)) (fun b hb => ?_) hs0
      (by rw [hRL]; exact Al.repl (hal.imp fun _ _ _ h=>h.1 F w) _) (fun r hr => ?_) (fun v hv u hu => ?_) ⟨?_,.inr ⟨w.heap.size,c.toNat,(List.replicate c.toNat z'.cells.toList).flatten.toArray,rfl,Nat.zero_le _,?_,?_,?_,?_,?_⟩⟩
     ·rw [hrl] at this; exact this
     ·simp only [Option.map_some,vQZ] at hb;subst hb;exact ⟨Nat.le_refl _,by show w.heap.size < (w.heap.push _).size; simp⟩
     ·have:∀ k,r ∈ qJF zs k→r=zs:=fun k=>by
       induction k with
       | zero=>intro h; cases h
       | succ k ih=>intro h; rcases List.mem_cons.1 h with h | h; exact h; exact ih h
      rw [hRL] at hr;rw [this _ hr]; exact hzlen
     ·rw [List.eq_of_mem_replicate hv] at hu;obtain ⟨j,hj⟩:=List.mem_iff_getElem?.1 hu;have hjl:=(List.getElem?_eq_some_iff.1 hj).1;have hl:j < zs.length:=by rw [hal.1]; exact hjl
      exact (hal.2 j _ u (vQK hl) hj).2
     ·rw [hrl,rows_len (sz:=sz) _ (fun r hr=>by rw [List.eq_of_mem_replicate hr]; exact hzl)]; simp
     ·show (w.heap.push _)[w.heap.size]? = _; simp
     ·rw [hrl]; exact hle
     ·show c.toNat≤9223372036854775807; omega
     ·rw [List.size_toArray,rows_len (sz:=sz) _ (fun r hr=>by rw [List.eq_of_mem_replicate hr]; exact hzl)]; simp
     ·rw [hrl,hrep,flatten_take (sz:=sz) (fun r hr=>by rw [List.eq_of_mem_replicate hr]; exact hzl)]
    | _=>simp only [zU] at he; cases he
   | _=>simp only [zU] at he; cases he
  | _=>cases px <;> (simp only [zU] at he; cases he)
 | _=>simp only [zU] at he; cases he
end
end Go.Rx

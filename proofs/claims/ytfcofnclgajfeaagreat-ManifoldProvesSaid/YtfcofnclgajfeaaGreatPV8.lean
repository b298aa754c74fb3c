/- Part 8 of the texts behind the last one: rules and contracts. No condition. -/
import Derived.Test.YtfcofnclgajfeaaGreatPV7
open Option renaming bind_eq_some_iff → vQQ, bind_some → vYQ
open Option.some renaming injEq → vQZ
open Prod.mk renaming injEq → vQY
open Bool renaming and_eq_true → vQJ, and_self → vZJ, true_and → vZH
open List renaming getElem?_eq_getElem → vQK, length_cons → vQW, length_nil → vQV, mem_of_getElem? → vQG, getElem?_map → vZY, getD_eq_getElem?_getD → vZG
open Nat renaming add_right_cancel_iff → vQU, eq_of_beq_eq_true → vQX, le_of_ble_eq_true → vZX
open Classical renaming propDecidable → vYJ
open Go.IntKind renaming wrap → vJJ
namespace Go.Rx
open Go.RowKit Go.Sx
theorem own_mem {D:Nat→Prop} {G:World→Prop} {e sz cap k:Nat} {a:Option Addr} {ys:List Value} {w:World} (hd:qKV D G) (hG:G w) (hi:∀ w,G w→OwnF 0 e sz a cap k ys w):∀ ad,a=some ad→D ad.block:=by
 rintro ad rfl
 apply Classical.byContradiction;intro hn;obtain ⟨_,h1⟩:=hi w hG;rcases h1 with ⟨h1,_⟩ | ⟨g,cp,cur,hv,_,hb,_,_,hs,_⟩
 ·cases h1
 ·simp only [Value.slice.injEq,vQZ] at hv;obtain ⟨rfl,_,rfl⟩:=hv;have hlt:g < w.heap.size:=qQU hb;have hG':G { w with heap:=w.heap.setIfInBounds g (.cells (cur.push (.bool true)) e (0,0)) }:=hd w _ (fun k hk=>by
   have e:g ≠ k:=fun e=>hn (e ▸ hk)
   show (w.heap.setIfInBounds g _)[k]? = _;exact Array.getElem?_setIfInBounds_ne e) hG
  obtain ⟨_,h2⟩:=hi _ hG';rcases h2 with ⟨h2,_⟩ | ⟨g',cp',cur',hv',_,hb',_,_,hs',_⟩
  ·cases h2
  ·simp only [Value.slice.injEq,vQZ,Addr.mk.injEq] at hv';obtain ⟨⟨rfl,_⟩,_,rfl⟩:=hv';have hb2:(w.heap.setIfInBounds g (.cells (cur.push (.bool true)) e (0,0)))[g]? = some (.cells cur' e (0,0)):=hb';rw [Array.getElem?_setIfInBounds_self_of_lt hlt] at hb2;simp only [vQZ,Obj.cells.injEq] at hb2;rw [← hb2.1,Array.size_push,hs] at hs';omega
theorem al_flat {F:Nat→Prop} {w:World} {sz:Nat} {rows:List (List PV)} (hs:qKE sz rows=true):Al (Al (RP F w)) rows (qYC rows)∧(∀ v ∈ qYC rows,∀ u ∈ v,u.oneCell'=true):=by
 unfold qYC;refine ⟨⟨by simp,fun i r v hr hv => ?_⟩,fun v hv u hu => ?_⟩
 ·rw [vZY,hr] at hv;cases hv;refine ⟨by simp,fun j p u hp hu => ?_⟩;rw [vZY,hp] at hu;cases hu;exact (qGI ((qYF hs (vQG hr)).2 p (vQG hp))).1
 ·obtain ⟨r,hr,rfl⟩:=List.mem_map.1 hv;obtain ⟨p,hp,rfl⟩:=List.mem_map.1 hu;exact (qGI (F:=F) (w:=w) ((qYF hs hr).2 p hp)).2
theorem snd_toldOw {P:Program} {f:Nat} {ps:List PV} {e sz:Nat} {rows:List (List PV)} {Φ:Option Addr × Nat→Prop} (hent:kH P f) (hs:qKE sz rows=true) (h0:0 < sz)
  (h:∀ (w:World) (F:Nat→Prop) (vals:List Value),(∀ k,F k→k < w.heap.size)→Al (RP F w) ps vals→Calls P f vals.toArray w (yGW Φ (fun x=>.slice x.1 rows.length x.2) (fun x=>OwnF 0 e sz x.1 x.2 rows.length (qYC rows).flatten) w)):yZ P f ps (.ow e sz rows):=by
 refine ⟨hent,fun w F vals hF hal=>(h w F vals hF hal).mono ?_⟩
 rintro en w' ⟨x,hx,rfl,hg,D,h1,h2,h3⟩
 have hal:=al_flat (F:=F) (w:=w') hs;refine ⟨_,F,rfl,hg,fun k hk=>hk,fun k hk=>.inl hk,x.1,x.2,qYC rows,rfl,h0,hal.1,fun r hr=>(qYF hs hr).1,hal.2,h3,fun b hb => ?_⟩;obtain ⟨ad,ha,rfl⟩:=Option.map_eq_some_iff.1 hb;have hD:=h2 _ (own_mem h1 h3 (fun _ h=>h) ad ha);exact ⟨fun hk=>by have:=hF _ hk; omega,hD.1,hD.2⟩
end Go.Rx
namespace Go.Rx
open Go.RowKit Go.Sx
def zJX {β:Type} (good:Nat→Bool) (KX:β) (KR:Nat→β):Nat→Nat→β
 | 0,_=>KX
 | k + 1,p=>bif good p then zJX good KX KR k (p + 1) else KR p
def allN (good:Nat→Bool):Nat→Nat→Bool
 | 0,_=>true
 | k + 1,p=>good p && allN good k (p + 1)
theorem qZF {β:Type} (good:Nat→Bool) (x y:β):∀ k p,zJX good x (fun _=>y) k p=bif allN good k p then x else y
 | 0,_=>rfl
 | k + 1,p=>by
  simp only [zJX,allN,qZF good x y k (p + 1)];cases good p <;> rfl
theorem allN_iff {good:Nat→Bool}:∀ {k p:Nat},allN good k p=true ↔ ∀ j,p≤j→j < p + k→good j=true
 | 0,p=>⟨fun _ j h1 h2=>by omega,fun _=>rfl⟩
 | k + 1,p=>by
  simp only [allN,vQJ,allN_iff (k:=k)];exact ⟨fun h j h1 h2=>by
   rcases Nat.eq_or_lt_of_le h1 with e | e
   ·exact e ▸ h.1
   ·exact h.2 j e (by omega),fun h=>⟨h p (Nat.le_refl _) (by omega),fun j h1 h2=>h j (by omega) (by omega)⟩⟩
theorem zJU {g g':Nat→Bool}:∀ {k p:Nat},(∀ j,p≤j→j < p + k→g j=g' j)→allN g k p=allN g' k p
 | 0,_,_=>rfl
 | k + 1,p,h=>by simp only [allN,h p (Nat.le_refl _) (by omega),zJU (k:=k) (p:=p + 1) fun j h1 h2=>h j (by omega) (by omega)]
def firstK (good:Nat→Bool):Nat→Nat→Nat
 | 0,p=>p
 | k + 1,p=>bif good p then firstK good k (p + 1) else p
theorem qJL {β:Type} (good:Nat→Bool) (x:β) (y:Nat→β):∀ k p,zJX good x y k p=bif allN good k p then x else y (firstK good k p)
 | 0,_=>rfl
 | k + 1,p=>by
  simp only [zJX,allN,firstK,qJL good x y k (p + 1)];cases good p <;> rfl
def qWL (N:Nat) (C:Cx) (cK:qJV) (x:Code) (h:Hint) (K:Cont) (G:St→Option (Ret × Mem)) (σ:St):Option (Ret × Mem):=qJI N C cK x (fun e τ=>match e with
 | .normal=>G (qYV h τ)
 | e=>K e (qZG h τ)) σ
theorem zHF {N:Nat} {C:Cx} {cK:qJV} {x:Code} {h:Hint} {K:Cont} {n:Nat} {σ:St}:LF N C cK x h K (n + 1) σ=qWL N C cK x h K (fun σ=>LF N C cK x h K n σ) σ:=rfl
theorem qWF {N:Nat} {C:Cx} {cK:qJV} {x:Code} {h:Hint} {K:Cont} (hd:Int→St) (good:Nat→Bool) {c:Nat} (KX:Option (Ret × Mem)) (KR:Nat→Option (Ret × Mem))
  (r1:∀ G (i:Nat),i < c→qWL N C cK x h K G (hd (i:Int))=bif good i then G (hd ((i + 1:Nat):Int)) else KR i)
  (r2:∀ G,qWL N C cK x h K G (hd (c:Int))=KX):∀ (k p q:Nat),p + k=c→k < q→LF N C cK x h K q (hd (p:Int))=zJX good KX KR k p
 | 0,p,q + 1,hp,_=>by
  rw [zHF,show p=c by omega];exact r2 _
 | k + 1,p,q + 1,hp,hq=>by
  rw [zHF,r1 _ p (by omega),qWF hd good KX KR r1 r2 k (p + 1) q (by omega) (by omega)];rfl
theorem yXF {N:Nat} {C:Cx} {cK:qJV} {x:Code} {h:Hint} {K:Cont} (hd:Int→List (List PV)→St) (g:Nat→List PV) {c:Nat} (KX:List (List PV)→Option (Ret × Mem))
  (r1:∀ G (i:Nat) rows,i < c→rows.length=i→qWL N C cK x h K G (hd (i:Int) rows)=G (hd ((i + 1:Nat):Int) (rows ++ [g i])))
  (r2:∀ G rows,rows.length=c→qWL N C cK x h K G (hd (c:Int) rows)=KX rows):∀ (k p q:Nat) (rows:List (List PV)),rows.length=p→p + k=c→k < q→LF N C cK x h K q (hd (p:Int) rows)=KX (rows ++ (List.range' p k).map g)
 | 0,p,q + 1,rows,hl,hp,_=>by
  rw [zHF,show p=c by omega,r2 _ rows (by omega)]
  simp
 | k + 1,p,q + 1,rows,hl,hp,hq=>by
  rw [zHF,r1 _ p rows (by omega) hl,yXF hd g KX r1 r2 k (p + 1) q (rows ++ [g p]) (by rw [List.length_append,hl]; rfl) (by omega) (by omega)];rw [List.range'_succ,List.map_cons,List.append_assoc];rfl
theorem rng0 (n:Nat) (g:Nat→List PV):[] ++ (List.range' 0 n).map g=(List.range n).map g:=by rw [List.nil_append,List.range_eq_range']
theorem rows_fn {α:Type} (d:α) (f:α→List PV) (l:List α):l.map f=(List.range l.length).map fun i=>f (l.getD i d):=by
 refine List.ext_getElem? fun i => ?_
 rw [vZY,vZY];by_cases h:i < l.length
 ·rw [List.getElem?_range h,vQK h];simp [vZG,h]
 ·rw [List.getElem?_eq_none (by omega),List.getElem?_eq_none (by simp; omega)];rfl
theorem snd_args {P:Program} {f:Nat} {ps ps':List PV} {r:Ret} (hs:∀ F w vals,Al (RP F w) ps' vals→Al (RP F w) ps vals) (h:yZ P f ps r):yZ P f ps' r :=
 ⟨h.1,fun w F vals hF hal=>h.2 w F vals hF (hs F w vals hal)⟩
theorem qYD {P:Program} {f:Nat} {ps:List PV} {x y:PV} (hs:∀ F w v,RP F w x v→RP F w y v) (h:yZ P f ps (.v x)):yZ P f ps (.v y) :=
 ⟨h.1,fun w F vals hF hal=>(h.2 w F vals hF hal).mono fun _ w' ⟨v,F',he,hg,f1,f2,hr⟩=>⟨v,F',he,hg,f1,f2,hs F' w' v hr⟩⟩
theorem yZB {F:Nat→Prop} {w:World} {n:Nat} {f:Nat→List PV} {rows:List (List PV)} {v:Value} (e:rows=(List.range n).map f) (h:RP F w (.l rows) v):RP F w (.lf n f) v:=.lf n f v (e ▸ h)
theorem zZF {F:Nat→Prop} {w:World} {n:Nat} {f:Nat→List PV} {rows:List (List PV)} {v:Value} (e:rows=(List.range n).map f) (h:RP F w (.lf n f) v):RP F w (.l rows) v:=by
 cases h with
 | lf _ _ _ h=>exact e ▸ h
def Same (x y:PV):Prop:=∀ F w v,RP F w x v→RP F w y v
theorem Same.refl (x:PV):Same x x:=fun _ _ _ h=>h
theorem Same.lf {n:Nat} {f:Nat→List PV} {rows:List (List PV)} (e:rows=(List.range n).map f):Same (.l rows) (.lf n f):=fun _ _ _=>yZB e
theorem Same.l {n:Nat} {f:Nat→List PV} {rows:List (List PV)} (e:rows=(List.range n).map f):Same (.lf n f) (.l rows):=fun _ _ _=>zZF e
def Sames:List PV→List PV→Prop
 | [],[]=>True
 | x :: xs,y :: ys=>Same x y∧Sames xs ys
 | _,_=>False
theorem Sames.al {F:Nat→Prop} {w:World}:∀ {xs ys:List PV} {vs:List Value},Sames xs ys→Al (RP F w) xs vs→Al (RP F w) ys vs
 | [],[],_,_,h=>h
 | x :: xs,y :: ys,vs,hs,h=>by
  obtain ⟨v,vs,rfl,h1,h2⟩:=qUA h;exact qYL (hs.1 F w v h1) (Sames.al hs.2 h2)
 | [],_ :: _,_,h,_=>h.elim
 | _ :: _,[],_,h,_=>h.elim
theorem Same.a {xs ys:List PV} (h:Sames xs ys):Same (.a xs) (.a ys):=fun F w v hv=>by
 cases hv with
 | a _ vs hl h1 hh =>
  have:=Sames.al h (show Al (RP F w) xs vs from ⟨hl,hh⟩)
  exact .a ys vs this.1 h1 this.2
theorem Same.t {xs ys:List PV} (h:Sames xs ys):Same (.t xs) (.t ys):=fun F w v hv=>by
 cases hv with
 | t _ vs hl hh =>
  have:=Sames.al h (show Al (RP F w) xs vs from ⟨hl,hh⟩)
  exact .t ys vs this.1 this.2
theorem snd_same {P:Program} {f:Nat} {ps ps':List PV} {x y:PV} (ha:Sames ps' ps) (hr:Same x y) (h:yZ P f ps (.v x)):yZ P f ps' (.v y) :=
 qYD hr (snd_args (fun _ _ _=>ha.al) h)
theorem zZB {P:Program} {f e sz:Nat} {ps:List PV} {rows:List (List PV)} (h:yZ P f ps (.ow e sz rows)):yZ P f ps (.v (.l rows)):=by
 refine ⟨h.1,fun w F vals hF hal=>(h.2 w F vals hF hal).mono ?_⟩
 rintro en w' ⟨v,F',he,hg,f1,f2,hr⟩
 obtain ⟨F2,f3,f4,hx⟩:=hr.pv (x:=.l rows) rfl;refine ⟨v,F2,he,hg,fun k hk=>f3 k (f1 k hk),fun k hk => ?_,hx⟩;rcases f4 k hk with h | h
 ·exact f2 k h
 ·exact .inr h
end Go.Rx
namespace Go.Rx
open Go.RowKit Go.Sx Go.ChangeShapes Go.WideShapes
section
variable {P:Program} {W:World} {H:Type} {enc:TypeId × Value→H}
def Fits (row:List Sh) (ps:List PV):Prop:=ps.length=row.length∧∀ (i:Nat) sh p,row[i]? = some sh→ps[i]? = some p→Fit sh p
theorem Fits.cons {s0:Sh} {row:List Sh} {ps:List PV} (h:Fits (s0 :: row) ps):∃ p qs,ps=p :: qs∧Fit s0 p∧Fits row qs:=by
 cases ps with
 | nil=>have:=h.1; simp at this
 | cons p qs=>exact ⟨p,qs,rfl,h.2 0 s0 p rfl rfl,by have:=h.1; simpa using this,fun i sh q h1 h2=>h.2 (i + 1) sh q h1 h2⟩
theorem Fits.nil {ps:List PV} (h:Fits [] ps):ps=[]:=List.eq_nil_of_length_eq_zero h.1
theorem Fit.int {k:IntKind} {p:PV} (h:Fit (.i k) p):∃ x,p=.n k x∧(Lit.int k x).wf=true:=by cases h with | i k x h=>exact ⟨x,rfl,h⟩
theorem Fit.str {p:PV} (h:Fit .s p):∃ x,p=.s x:=by cases h with | s x h=>exact ⟨x,rfl⟩
theorem Fit.bool {p:PV} (h:Fit .b p):∃ x,p=.b x:=by cases h with | b x=>exact ⟨x,rfl⟩
theorem Fit.slc {row:List Sh} {p:PV} (h:Fit (.l row) p):∃ n f,p=.lf n f∧∀ j,j < n→Fits row (f j):=by
 cases h with
 | l row n f hn hl h=>exact ⟨n,f,rfl,fun j hj=>⟨hl j hj,h j hj⟩⟩
theorem open_good {t:TypeId} {v:Value} {d:DataW H} {p:List MemPlace} {g:Nat} {shs:List Sh} (h:DataW.Trod enc P W 0 (fun _=>true) true t v d p) (hs:shT P g t=some shs):Good W shs v.cells.toList:=by
 obtain ⟨fuel,h⟩:=h;exact zVQ fuel t _ _ g shs h hs
theorem open_slc {t e:TypeId} {v:Value} {d:DataW H} {p:List MemPlace} {g:Nat} {row:List Sh} (ht:P.underlying t=some (.slice e)) {r:Reach} {base:Nat} (hv:Value.okWide P W r base t v)
  (h:DataW.Trod enc P W 0 (fun _=>true) true t v d p) (hs:shT P g t=some [.l row]):∃ n f,RP (fun k=>k < W.heap.size) W (.lf n f) v∧∀ j,j < n→Fits row (f j):=by
 obtain ⟨a,l,c,rfl⟩:=slice_of ht hv;obtain ⟨ps,h1,h2,h3,_⟩:=open_good h hs;obtain ⟨q,qs,rfl,hf,hq⟩:=Fits.cons ⟨h1,h2⟩;obtain ⟨n,f,rfl,hr⟩:=hf.slc;exact ⟨n,f,h3.2 0 _ _ rfl rfl,hr⟩
theorem open_str {t:TypeId} {fs:Array Field} {v:Value} {d:DataW H} {p:List MemPlace} {g:Nat} {row:List Sh} (ht:P.underlying t=some (.struct fs)) {r:Reach} {base:Nat} (hv:Value.okWide P W r base t v)
  (h:DataW.Trod enc P W 0 (fun _=>true) true t v d p) (hs:shT P g t=some row):∃ ps,RP (fun k=>k < W.heap.size) W (.a ps) v∧Fits row ps:=by
 have hcs:∃ cs,v=.agg cs:=by
  unfold Value.okWide at hv;cases v <;> simp [ht] at hv
  exact ⟨_,rfl⟩
 obtain ⟨cs,rfl⟩:=hcs;obtain ⟨ps,h1,h2,h3,h4⟩:=open_good h hs;exact ⟨ps,.a ps cs.toList h3.1 h4 h3.2,h1,h2⟩
theorem lf_fn {α:Type} {F:Nat→Prop} {w:World} {n:Nat} {f:Nat→List PV} {v:Value} {enc:α→List PV} {row:List Sh} (a0:α) (hr:∀ ps,Fits row ps→∃ a,ps=enc a) (hf:∀ j,j < n→Fits row (f j)) (h:RP F w (.lf n f) v) :
  ∃ g:Nat→α,RP F w (.lf n fun j=>enc (g j)) v:=by
 have each:∀ j,∃ a:α,j < n→f j=enc a:=fun j=>by
  by_cases hj:j < n
  ·obtain ⟨a,ha⟩:=hr _ (hf j hj);exact ⟨a,fun _=>ha⟩
  ·exact ⟨a0,fun h=>absurd h hj⟩
 obtain ⟨g,hg⟩:=Classical.axiomOfChoice each;refine ⟨g,yZB ?_ (zZF rfl h)⟩;exact List.map_congr_left fun j hj=>hg j (List.mem_range.1 hj)
theorem zYF {n:Nat} {f g:Nat→List PV} (h:∀ j,j < n→f j=g j):Same (.lf n f) (.lf n g):=fun F w v hv =>
 yZB (List.map_congr_left fun j hj=>h j (List.mem_range.1 hj)) (zZF rfl hv)
end
end Go.Rx
namespace Go.Rx
open Go.RowKit Go.Sx
def qJW (N:Nat) (C:Cx) (x:Code) (S:uU):Prop:=∀ (K K':Cont) (K0:Ret × Mem→Option (Ret × Mem)) (σ:St) (r:Ret × Mem),(∀ e τ,K e τ=some r→Gets K0 r (K' e τ))→S (qYV (C.T.hint C.me (zV x)) σ) K=some r →
 Gets K0 r (zQW (fun again σ=>runC N C x (fun e σ=>match e with
   | .normal=>again σ
   | e=>K' e (qZG (C.T.hint C.me (zV x)) σ)) (qYV (C.T.hint C.me (zV x)) σ)) N σ)
section
variable {C:Cx} {cK:qJV} {r:Ret × Mem} {K0:Ret × Mem→Option (Ret × Mem)}
end
theorem jK {N:Nat} {C:Cx} {L:List Nat→Code}:∀ {l:List (List Nat × uU)},AllP (fun x:List Nat × uU=>qJW N C (L x.1) x.2) l→∀ p S,zW l p=some S→qJW N C (L p) S
 | [],_,p,S,h=>by cases h
 | x :: xs,hl,p,S,h=>by
  simp only [zW] at h;cases hb:zWB x.1 p with
  | true =>
   rw [hb] at h;simp only [vYV,vQZ] at h;subst h
   have:=zUK hb
   subst this;exact hl.1
  | false =>
   rw [hb] at h;exact jK hl.2 p S h
noncomputable def sumF {τ:Type} (hd:τ→St) (ex:St→τ) (R:τ→Cont→Option (Ret × Mem)):uU:=fun σ K=>bif gSt σ (hd (ex σ)) then R (ex σ) K else none
theorem qVF {N:Nat} {C:Cx} {L:List Nat→Code}:∀ p S,zW [] p=some S→qJW N C (L p) S:=fun p S h=>by cases h
def qXX {τ υ:Type} (dec:τ→τ ⊕ υ):Nat→τ→Option υ
 | 0,_=>none
 | n + 1,s=>match dec s with
  | .inl s'=>qXX dec n s'
  | .inr y=>some y
theorem lp_gen {τ υ β:Type} {L:Nat→St→Option β} {stp:(St→Option β)→St→Option β} (hs:∀ n s,L (n + 1) s=stp (L n) s) (h0:∀ s,L 0 s=none) (hd:τ→St) (Inv:τ→Prop) (dec:τ→τ ⊕ υ) (KX:υ→Option β)
  (r1:∀ G s,Inv s→stp G (hd s)=match dec s with | .inl s'=>G (hd s') | .inr y=>KX y) (hi:∀ s s',Inv s→dec s=.inl s'→Inv s'):∀ n s,Inv s→L n (hd s)=(qXX dec n s).bind KX
 | 0,s,_=>by rw [h0]; rfl
 | n + 1,s,h=>by
  rw [hs,r1 _ s h,qXX];cases hd':dec s with
  | inl s'=>exact lp_gen hs h0 hd Inv dec KX r1 hi n s' (hi s s' h hd')
  | inr y=>rfl
def runS {τ β:Type} (good:Nat→τ→Bool) (nx:Nat→τ→τ) (KX:τ→β) (KR:Nat→τ→β):Nat→Nat→τ→β
 | 0,_,s=>KX s
 | k + 1,p,s=>bif good p s then runS good nx KX KR k (p + 1) (nx p s) else KR p s
theorem zXW {τ β:Type} {L:Nat→St→Option β} {stp:(St→Option β)→St→Option β} (hs:∀ n s,L (n + 1) s=stp (L n) s) (hd:Nat→τ→St) (Inv:Nat→τ→Prop) (good:Nat→τ→Bool) (nx:Nat→τ→τ) {c:Nat} (KX:τ→Option β) (KR:Nat→τ→Option β)
  (r1:∀ G i s,i < c→Inv i s→stp G (hd i s)=bif good i s then G (hd (i + 1) (nx i s)) else KR i s) (hi:∀ i s,i < c→Inv i s→good i s=true→Inv (i + 1) (nx i s))
  (r2:∀ G s,Inv c s→stp G (hd c s)=KX s):∀ k p q s,p + k=c→k < q→Inv p s→L q (hd p s)=runS good nx KX KR k p s
 | 0,p,q + 1,s,hp,_,hv=>by
  have e:p=c:=by omega
  subst e;rw [hs,r2 _ s hv]; rfl
 | k + 1,p,q + 1,s,hp,hq,hv=>by
  rw [hs,r1 _ p s (by omega) hv];simp only [runS];cases hg:good p s with
  | true=>exact zXW hs hd Inv good nx KX KR r1 hi r2 k (p + 1) q (nx p s) (by omega) (by omega) (hi p s (by omega) hv hg)
  | false=>rfl
def zHY (g:Nat→List PV):Nat→Nat→(Nat→List PV)→Nat→List PV
 | 0,_,f=>f
 | k + 1,p,f=>zHY g k (p + 1) fun v=>jH (Nat.beq v p) (g p) (f v)
theorem fillF_get (g:Nat→List PV):∀ (k p:Nat) (f:Nat→List PV) (v:Nat),zHY g k p f v=if p≤v∧v < p + k then g v else f v
 | 0,p,f,v=>by rw [zHY,if_neg (by omega)]
 | k + 1,p,f,v=>by
  rw [zHY,fillF_get g k (p + 1),uZ,qWE];by_cases h:v=p
  ·subst h;rw [if_neg (by omega),if_pos (by omega),vJQ rfl]; rfl
  ·rw [vYH h,vYG];by_cases h2:p + 1≤v∧v < p + 1 + k
   ·rw [if_pos h2,if_pos (by omega)]
   ·rw [if_neg h2,if_neg (by omega)]
theorem runS_fill {β:Type} {g:Nat→List PV} {KX:(Nat→List PV)→β} {KR:Nat→(Nat→List PV)→β}:∀ k p f,runS (fun _ _=>true) (fun i f v=>jH (Nat.beq v i) (g i) (f v)) KX KR k p f=KX (zHY g k p f)
 | 0,_,_=>rfl
 | k + 1,p,f=>by
  simp only [runS,vYV];exact runS_fill k (p + 1) _
end Go.Rx
namespace Go.Rx
open Go.RowKit Go.Sx
abbrev Ev:=Nat→Op→List RV→(Eff→Option (Ret × Mem))→Option (Ret × Mem)
def EvOk (C:Cx) (ev:Ev):Prop:=∀ dst op vs K r,ev dst op vs K=some r→∃ e,zX C.T C.cA C.cB C.me dst op vs=some e∧K e=some r
def goE (C:Cx) (ev:Ev) (o:Oper) (σ:St) (K:Eff × List RV→Option (Ret × Mem)):Option (Ret × Mem) :=
 bif dstB C.n o.dst then
  (mapO (opv (mode o.op) σ) o.op.operands.toList).bind fun vs=>ev (o.dst.getD 0) o.op vs fun e =>
   bif e.nw.all (fun id=>(zH σ.M id).isNone && Nat.blt id 2000000) then K (e,vs) else none
 else none
def yVZ (C:Cx) (ev:Ev) (ops:Array Oper) (o:Oper) (σ:St) (K:Eff × List RV→Option (Ret × Mem)):Option (Ret × Mem) :=
 match o.guard with
 | none=>goE C ev o σ K
 | some (j,b)=>match (ops[j]?).bind (·.dst) with
  | some d=>match qQK σ.S d with
   | some (.v (.b c))=>(match b with
    | true=>bif c then goE C ev o σ K else yQQ C o K
    | false=>bif c then yQQ C o K else goE C ev o σ K)
   | some (.v (.t []))=>yQQ C o K
   | _=>none
  | none=>none
def zVU (C:Cx) (ev:Ev) (ops:Array Oper):List Oper→(St→Option (Ret × Mem))→St→Option (Ret × Mem)
 | [],K,σ=>K σ
 | o :: l,K,σ=>yVZ C ev ops o σ fun r=>zVU C ev ops l K (σ.apply r.1 o.dst)
def qHF (C:Cx) (ev:Ev) (ops:Array Oper):Nat→List Oper→List Done→(St→Option (Ret × Mem))→St→Option (Ret × Mem)
 | _,[],acc,K,σ=>bif zJW ops acc.reverse && Sx.backB ops then K σ else none
 | i,o :: l,acc,K,σ=>yVZ C ev ops o σ fun r=>qHF C ev ops (i + 1) l ((i,r) :: acc) K (σ.apply r.1 o.dst)
def zZE (N:Nat) (C:Cx) (ev:Ev) (LO:List Nat→Option uU):Code→List Nat→Cont→St→Option (Ret × Mem)
 | .skip,_,K,σ=>K .normal σ
 | .label _,_,K,σ=>K .normal σ
 | .scope x,p,K,σ=>zZE N C ev LO x (0 :: p) K σ
 | .ret,_,K,σ=>K .ret σ
 | .exit id,_,K,σ=>K (.exit id) σ
 | .region id ops d,_,K,σ=>preK C id (fun σ=>bif d then qHF C ev ops 0 ops.toList [] (K .normal) σ else zVU C ev ops ops.toList (K .normal) σ) σ
 | .seq x y,p,K,σ=>zZE N C ev LO x (0 :: p) (fun e σ=>match e with
   | .normal=>zZE N C ev LO y (1 :: p) K σ
   | e=>K e σ) σ
 | .cond c x y,p,K,σ=>(opv 1 σ c).bind fun v=>match v with
   | .v (.b t)=>bif t then zZE N C ev LO x (0 :: p) K σ else zZE N C ev LO y (1 :: p) K σ
   | _=>none
 | .block id x,p,K,σ=>zZE N C ev LO x (0 :: p) (fun e σ=>match e with
   | .exit id'=>bif Nat.beq id' id then K .normal σ else K (.exit id') σ
   | e=>K e σ) σ
 | .loop x,p,K,σ=>match LO p with
   | some S=>S (qYV (C.T.hint C.me (zV x)) σ) K
   | none=>zQW (fun again σ=>zZE N C ev LO x (0 :: p) (fun e σ=>match e with
     | .normal=>again σ
     | e=>K e (qZG (C.T.hint C.me (zV x)) σ)) (qYV (C.T.hint C.me (zV x)) σ)) N σ
 | _,_,_,_=>none
section
variable {C:Cx} {ev:Ev} {ops:Array Oper} {r:Ret × Mem} {K0:Ret × Mem→Option (Ret × Mem)}
theorem zGC {o:Oper} {σ:St} {K:Eff × List RV→Option (Ret × Mem)} (hc:EvOk C ev) (hg:qQX ops σ o=some true) (h:goE C ev o σ K=some r):∃ x,qJE C ops o σ=some x∧K x=some r:=by
 unfold goE at h;obtain ⟨hd,h⟩:=qQ h;rw [vQQ] at h;obtain ⟨vs,hvs,h⟩:=h;obtain ⟨e,he,h⟩:=hc _ _ _ _ _ h;obtain ⟨hn,h⟩:=qQ h;exact ⟨(e,vs),qHA hd (.inr ⟨hg,hvs,he,fun i hi=>zKG (List.all_eq_true.1 hn i hi)⟩),h⟩
theorem stepE_some {o:Oper} {σ:St} {K:Eff × List RV→Option (Ret × Mem)} (hc:EvOk C ev) (h:yVZ C ev ops o σ K=some r):∃ x,qJE C ops o σ=some x∧K x=some r:=by
 unfold yVZ at h;cases hg:o.guard with
 | none=>rw [hg] at h; exact zGC hc (by unfold qQX; rw [hg]) h
 | some gb =>
  obtain ⟨j,b⟩:=gb;rw [hg] at h;simp only at h;split at h
  ·rename_i d hd;split at h
   ·rename_i c hlc;have gd:qQX ops σ o=some (c == b):=by
     unfold qQX;rw [hg];simp only [hd,hlc]
    cases b <;> cases c <;> simp only [vYV,vYG] at h
    ·exact zGC hc gd h
    ·exact qKF gd h
    ·exact qKF gd h
    ·exact zGC hc gd h
   ·rename_i hlc;exact qKF (by unfold qQX; rw [hg]; simp only [hd,hlc]) h
   ·cases h
  ·cases h
theorem runOpsE_some (hc:EvOk C ev) {K K':St→Option (Ret × Mem)} (hK:∀ σ,K σ=some r→Gets K0 r (K' σ)):∀ (l:List Oper) (σ:St),zVU C ev ops l K σ=some r→Gets K0 r (qVA C ops l K' σ)
 | [],σ,h=>hK σ h
 | o :: l,σ,h=>by
  simp only [zVU] at h;obtain ⟨x,hx,h⟩:=stepE_some hc h;simp only [qVA,hx,vYQ];exact runOpsE_some hc hK l _ h
theorem runDrawE_some (hc:EvOk C ev) {K K':St→Option (Ret × Mem)} (hK:∀ σ,K σ=some r→Gets K0 r (K' σ)):∀ (l:List Oper) (i:Nat) (acc:List Done) (σ:St),qHF C ev ops i l acc K σ=some r→Gets K0 r (qYE C ops i l acc K' σ)
 | [],i,acc,σ,h=>by
  simp only [qHF] at h;obtain ⟨hp,h⟩:=qQ h;simp only [qYE,hp,vYV];exact hK σ h
 | o :: l,i,acc,σ,h=>by
  simp only [qHF] at h;obtain ⟨x,hx,h⟩:=stepE_some hc h;simp only [qYE,hx,vYQ];exact runDrawE_some hc hK l _ _ _ h
theorem qZX {N:Nat} {LO:List Nat→Option uU} {B:Code} (hc:EvOk C ev) (hL:∀ p S,LO p=some S→qJW N C (qJX 0 (qZD B p)) S):∀ (c:Code) (p:List Nat) {K K':Cont} (hp:qZD B p=c) (hK:∀ e σ,K e σ=some r→Gets K0 r (K' e σ)) (σ:St),zZE N C ev LO c p K σ=some r→Gets K0 r (runC N C c K' σ)
 | .skip,p,K,K',hp,hK,σ,h=>hK _ _ h
 | .label _,p,K,K',hp,hK,σ,h=>hK _ _ h
 | .scope x,p,K,K',hp,hK,σ,h=>qZX hc hL x (0 :: p) (by simp only [qZD,hp,qJX]) hK σ h
 | .ret,p,K,K',hp,hK,σ,h=>hK _ _ h
 | .exit id,p,K,K',hp,hK,σ,h=>hK _ _ h
 | .region id ops d,p,K,K',hp,hK,σ,h=>by
  have h:=preK_eq.symm.trans h;refine Eq.mpr (congrArg (Gets K0 r) (preK_eq (F:=fun σ=>bif d then qYE C ops 0 ops.toList [] (K' .normal) σ else qVA C ops ops.toList (K' .normal) σ))) ?_;cases d with
  | true=>exact runDrawE_some hc (hK .normal) _ _ _ _ h
  | false=>exact runOpsE_some hc (hK .normal) _ _ h
 | .seq x y,p,K,K',hp,hK,σ,h=>by
  refine qZX hc hL x (0 :: p) (by simp only [qZD,hp,qJX]) (fun e τ hk => ?_) σ h;cases e with
  | normal=>exact qZX hc hL y (1 :: p) (by simp only [qZD,hp,qJX]) hK τ hk
  | _=>exact hK _ _ hk
 | .cond c x y,p,K,K',hp,hK,σ,h=>by
  simp only [zZE,vQQ] at h;obtain ⟨v,hv,h⟩:=h;simp only [runC,hv,vYQ];split at h
  ·rename_i t;cases t with
   | true=>exact qZX hc hL x (0 :: p) (by simp only [qZD,hp,qJX]) hK σ h
   | false=>exact qZX hc hL y (1 :: p) (by simp only [qZD,hp,qJX]) hK σ h
  ·cases h
 | .block id x,p,K,K',hp,hK,σ,h=>by
  refine qZX hc hL x (0 :: p) (by simp only [qZD,hp,qJX]) (fun e τ hk => ?_) σ h;cases e with
  | exit id' =>
   simp only at hk ⊢;cases hb:Nat.beq id' id with
   | true=>rw [hb] at hk; exact hK _ _ hk
   | false=>rw [hb] at hk; exact hK _ _ hk
  | _=>exact hK _ _ hk
 | .loop x,p,K,K',hp,hK,σ,h=>by
  simp only [zZE] at h;simp only [runC];cases hS:LO p with
  | none =>
   rw [hS] at h;refine qGU (fun a a' ha τ hs => ?_) N σ h;refine qZX hc hL x (0 :: p) (by simp only [qZD,hp,qJX]) (fun e υ hk => ?_) _ hs;cases e with
   | normal=>exact ha _ hk
   | _=>exact hK _ _ hk
  | some S =>
   rw [hS] at h
   have:=hL p S hS
   rw [hp] at this;exact this K K' K0 σ r hK h
 | .rangeFunc ..,p,K,K',hp,hK,σ,h=>by cases h
 | .goto _,p,K,K',hp,hK,σ,h=>by cases h
 | .refuse _,p,K,K',hp,hK,σ,h=>by cases h
end
def yGC (N:Nat) (C:Cx) (ev:Ev) (LO:List Nat→Option uU) (x:Code) (p:List Nat) (h:Hint) (K:Cont) (G:St→Option (Ret × Mem)) (σ:St):Option (Ret × Mem):=zZE N C ev LO x (0 :: p) (fun e τ=>match e with
 | .normal=>G (qYV h τ)
 | e=>K e (qZG h τ)) σ
def LFX (N:Nat) (C:Cx) (ev:Ev) (LO:List Nat→Option uU) (x:Code) (p:List Nat) (h:Hint) (K:Cont):Nat→St→Option (Ret × Mem)
 | 0,_=>none
 | n + 1,σ=>yGC N C ev LO x p h K (LFX N C ev LO x p h K n) σ
theorem LFX_get {N:Nat} {C:Cx} {ev:Ev} {LO:List Nat→Option uU} {B x:Code} {p:List Nat} {K K':Cont} {K0:Ret × Mem→Option (Ret × Mem)} {r:Ret × Mem} (hc:EvOk C ev) (hL:∀ p S,LO p=some S→qJW N C (qJX 0 (qZD B p)) S) (hx:qZD B (0 :: p)=x)
  (hK:∀ e τ,K e τ=some r→Gets K0 r (K' e τ)):∀ (n:Nat) (σ:St),LFX N C ev LO x p (C.T.hint C.me (zV x)) K n (qYV (C.T.hint C.me (zV x)) σ)=some r→Gets K0 r (zQW (fun again σ=>runC N C x (fun e σ=>match e with
   | .normal=>again σ
   | e=>K' e (qZG (C.T.hint C.me (zV x)) σ)) (qYV (C.T.hint C.me (zV x)) σ)) n σ)
 | 0,σ,h=>by cases h
 | n + 1,σ,h=>by
  simp only [LFX,yGC] at h;simp only [zQW];refine qZX hc hL x (0 :: p) hx (fun e τ hk => ?_) _ h;cases e with
  | normal=>exact LFX_get hc hL hx hK n τ hk
  | _=>exact hK _ _ hk
theorem loopX_of {N:Nat} {C:Cx} {ev:Ev} {LO:List Nat→Option uU} {B x:Code} {p:List Nat} {S:uU} (hc:EvOk C ev) (hL:∀ p S,LO p=some S→qJW N C (qJX 0 (qZD B p)) S) (hx:qZD B (0 :: p)=x)
  (hS:∀ K σ r,S σ K=some r→LFX N C ev LO x p (C.T.hint C.me (zV x)) K N σ=some r):qJW N C x S:=fun K _ _ σ r hK h =>
 LFX_get hc hL hx hK N σ (hS K _ r h)
abbrev zJD:=Nat→List HV→List PV→(PV × List PV→Option (Ret × Mem))→Option (Ret × Mem)
def zHL (r:PV × List PV) (K:PV × List PV→Option (Ret × Mem)):Option (Ret × Mem):=match r with
 | (.b c,ps)=>bif c then K (.b true,ps) else K (.b false,ps)
 | r=>K r
theorem qHC (r:PV × List PV) (K:PV × List PV→Option (Ret × Mem)):zHL r K=K r:=by
 unfold zHL;split
 ·rename_i c ps; cases c <;> rfl
 ·rfl
def callEffBK (cBK:zJD) (f:Nat) (args:List RV) (K:Eff→Option (Ret × Mem)):Option (Ret × Mem) :=
 (zGL args).bind fun p=>(mapO CV.pv p.2).bind fun ps=>(mapO (RV.toB p.1) args).bind fun hs=>cBK f hs ps fun r=>zHL r fun r =>
  bif Nat.beq p.1 pid2 then none else K (Eff.and (.set p.1 (.blk (r.2.map PV.toH)) (.v r.1)) (catR RV.regs args))
def zZY (cBK:zJD) (f:Nat) (args:List RV) (K:Eff→Option (Ret × Mem)):Option (Ret × Mem) :=
 (zGL args).bind fun p=>match p.2 with
  | [.o m e sz rows]=>(mapO (RV.toB p.1) args).bind fun hs=>cBK f hs [.gs e sz rows.pv] fun r=>zHL r fun r=>match r.2 with
   | [.gs e2 sz2 y]=>y.rowsO.bind fun zJE=>bif Nat.beq sz2 sz && (catR RV.regs args).isEmpty && !(Nat.beq p.1 m) && r.1.flat then K ⟨[(m,some (.reg e2 sz2 zJE))],[],.v r.1,[]⟩ else none
   | _=>none
  | _=>none
def zZJ (cBK:zJD) (dst f:Nat) (args:List RV) (K:Eff→Option (Ret × Mem)):Option (Ret × Mem) :=
 (zGL args).bind fun p=>(mapO CV.pvq p.2).bind fun ps=>(mapO (RV.toB p.1) args).bind fun hs=>cBK f hs ps fun r=>zHL r fun r =>
  (gEnt (qVY r.2)).bind fun ent=>bif oneG ps && oneG r.2 && (catR RV.regs args).isEmpty && !(Nat.beq p.1 ((qVQ p.2).getD (100000 + dst))) && r.1.flat && !(Nat.beq p.1 pid2) then
   K ⟨[(p.1,some (.blk (r.2.map (PV.toQ ((qVQ p.2).getD (100000 + dst)))))),((qVQ p.2).getD (100000 + dst),ent)],[((qVQ p.2).getD (100000 + dst),none)],.v r.1,match qVQ p.2 with | some _=>[] | none=>[100000 + dst]⟩ else none
def yHG (C:Cx) (cBK:zJD):Prop:=∀ f hs ps K r,cBK f hs ps K=some r→∃ x,C.cB f hs ps=some x∧K x=some r
def selC:List PV→Int→PV
 | [],_=>.ni
 | [x],_=>x
 | x :: y :: l,i=>zJG (decide (i=0)) x (selC (y :: l) (i - 1))
theorem selC_eq:∀ (l:List PV) (i:Int),0≤i→i.toNat < l.length→l[i.toNat]? = some (selC l i)
 | [],i,_,h=>by simp at h
 | [x],i,h0,h=>by
  have:i.toNat=0:=by simp at h; omega
  rw [this]; rfl
 | x :: y :: l,i,h0,h=>by
  rw [selC];by_cases e:i=0
  ·subst e; rw [vJQ rfl,zKU]; rfl
  ·rw [vYH e,zKX,show i.toNat=(i - 1).toNat + 1 by omega,List.getElem?_cons_succ];exact selC_eq (y :: l) (i - 1) (by omega) (by simp only [vQW] at h ⊢; omega)
def evS (C:Cx) (cK:qJV) (cBK:zJD):Ev:=fun dst op vs K=>match op,vs with
 | .call ⟨.value fx,axs,ats⟩,.v (.f f first cap) :: vs=>bif C.T.rw f then (bif C.T.gk f then zZY cBK f (first.map .v ++ vs ++ cap.map .v) K else bif C.T.gq f then zZJ cBK dst f (first.map .v ++ vs ++ cap.map .v) K else callEffBK cBK f (first.map .v ++ vs ++ cap.map .v) K) else yJJ C cK dst (.call ⟨.value fx,axs,ats⟩) (.v (.f f first cap) :: vs) K
 | .call ⟨.value fx,axs,ats⟩,.g f first cap :: vs=>bif C.T.rw f && C.T.gk f then zZY cBK f (first.map .v ++ vs ++ cap.map fun c=>match c with | .v x=>.v x | .p id off cells=>.p id off cells) K else bif C.T.rw f && C.T.gq f then zZJ cBK dst f (first.map .v ++ vs ++ cap.map fun c=>match c with | .v x=>.v x | .p id off cells=>.p id off cells) K else yJJ C cK dst (.call ⟨.value fx,axs,ats⟩) (.g f first cap :: vs) K
 | .index t a b,[.v (.a cs),.v (.n k i)]=>(C.T.ar t).bind fun q=>bif q.2.2 then yJJ C cK dst (.index t a b) [.v (.a cs),.v (.n k i)] K else bif inB i q.1 && Nat.ble q.1 cs.length then K (.val (selC cs i).toH) else none
 | .slice t a lo hi none,.v (.s s) :: vs=>(zWF lo hi vs).bind fun b=>bif C.T.str t then (bif inS b.1 b.2 s.size then K (.val (.v (.s (s.extract (loOf b.1) (hiOf b.2 s.size))))) else none) else none
 | op,vs=>yJJ C cK dst op vs K
theorem callEffWK_ok {C:Cx} {cBK:zJD} (hb:yHG C cBK) {f:Nat} {args:List RV} {K:Eff→Option (Ret × Mem)} {r:Ret × Mem} (h:zZY cBK f args K=some r):∃ e,qXZ C.cB f args=some e∧K e=some r:=by
 unfold zZY at h;simp only [vQQ] at h;obtain ⟨p,hp,h⟩:=h;split at h
 ·rename_i m e sz rows hcs;simp only [vQQ] at h;obtain ⟨hs,hhs,h⟩:=h;obtain ⟨x,hx,h⟩:=hb _ _ _ _ _ h;rw [qHC] at h;split at h
  ·rename_i e2 sz2 y hps;simp only [vQQ] at h;obtain ⟨zJE,hr2,h⟩:=h;obtain ⟨h1,h⟩:=qQ h;refine ⟨_,?_,h⟩;unfold qXZ;simp only [hp,hcs,hhs,hx,hps,hr2,vYQ,h1,vYV]
  ·cases h
 ·cases h
theorem evS_ok {C:Cx} {cK:qJV} {cBK:zJD} (hc:SndK C cK) (hb:yHG C cBK):EvOk C (evS C cK cBK):=fun dst op vs K r h=>by
 unfold evS at h;split at h
 ·rename_i fx axs ats f first cap vs
  cases hrw:C.T.rw f with
  | false =>
   rw [hrw,vYG] at h;exact qXH hc h
  | true =>
   rw [hrw,vYV] at h;cases hgk:C.T.gk f with
   | true =>
    rw [hgk,vYV] at h;obtain ⟨e,h1,h2⟩:=callEffWK_ok hb h;exact ⟨e,by simp only [zX,hrw,hgk,vYV]; exact h1,h2⟩
   | false =>
   rw [hgk,vYG] at h;cases hgq:C.T.gq f with
   | false =>
    rw [hgq,vYG] at h;simp only [callEffBK,vQQ] at h;obtain ⟨p,hp,ps,hps,hs,hhs,h⟩:=h;obtain ⟨x,hx,h⟩:=hb _ _ _ _ _ h;rw [qHC] at h;cases hp2:Nat.beq p.1 pid2 with
    | true=>rw [hp2] at h; cases h
    | false =>
    rw [hp2,vYG] at h;exact ⟨_,by simp only [zX,hrw,hgk,hgq,vYV,vYG,zKH,hp,hps,hhs,hx,hp2,vYQ],h⟩
   | true =>
    rw [hgq,vYV] at h;simp only [zZJ,vQQ] at h;obtain ⟨p,hp,ps,hps,hs,hhs,h⟩:=h;obtain ⟨x,hx,h⟩:=hb _ _ _ _ _ h;rw [qHC] at h;simp only [vQQ] at h;obtain ⟨ent,hent,h⟩:=h;obtain ⟨h1,h⟩:=qQ h;refine ⟨_,?_,h⟩;simp only [zX,hrw,hgk,hgq,vYV,vYG];unfold qWD;simp only [hp,hps,hhs,hx,hent,vYQ];rw [h1];rfl
 ·rename_i fx axs ats f first cap vs
  cases hrk:C.T.rw f && C.T.gk f with
  | true =>
   rw [hrk,vYV] at h;rw [vQJ] at hrk;obtain ⟨e,h1,h2⟩:=callEffWK_ok hb h;refine ⟨e,?_,h2⟩;show (bif C.T.rw f then (bif C.T.gk f then qXZ C.cB f (first.map .v ++ vs ++ cap.map fun c=>match c with | .v x=>.v x | .p id off cells=>.p id off cells) else _) else _)=some _;rw [hrk.1,hrk.2,vYV,vYV];exact h1
  | false =>
  rw [hrk,vYG] at h;cases hrw:C.T.rw f && C.T.gq f with
  | false =>
   rw [hrw,vYG] at h;exact qXH hc h
  | true =>
   rw [hrw,vYV] at h;rw [vQJ] at hrw;rw [hrw.1,vZH] at hrk;simp only [zZJ,vQQ] at h;obtain ⟨p,hp,ps,hps,hs,hhs,h⟩:=h;obtain ⟨x,hx,h⟩:=hb _ _ _ _ _ h;rw [qHC] at h;simp only [vQQ] at h;obtain ⟨ent,hent,h⟩:=h;obtain ⟨h1,h⟩:=qQ h;refine ⟨_,?_,h⟩;show (bif C.T.rw f then (bif C.T.gk f then qXZ C.cB f (first.map .v ++ vs ++ cap.map fun c=>match c with | .v x=>.v x | .p id off cells=>.p id off cells) else bif C.T.gq f then qWD C.cB dst f (first.map .v ++ vs ++ cap.map fun c=>match c with | .v x=>.v x | .p id off cells=>.p id off cells) else none) else zJK C.T C.cA C.me dst f (first.map .v ++ vs ++ cap.map fun c=>match c with | .v x=>.v x | .p id off cells=>.p id off cells))=some _;rw [hrw.1,hrk,hrw.2,vYV,vYG,vYV];unfold qWD;simp only [hp,hps,hhs,hx,hent,vYQ];rw [h1];rfl
 ·rename_i t a b cs k i;simp only [vQQ] at h;obtain ⟨q,hq,h⟩:=h;cases h2:q.2.2 with
  | true=>rw [h2,vYV] at h; exact qXH hc h
  | false =>
   rw [h2,vYG] at h;obtain ⟨hi,h⟩:=qQ h;rw [vQJ] at hi;obtain ⟨i0,i1⟩:=qKD hi.1;have hl:=vZX hi.2;exact ⟨_,by simp only [zX,hq,vYQ,hi.1,h2,vYV,vYG,selC_eq cs i i0 (by omega)],h⟩
 ·rename_i t a lo hi s vs;simp only [vQQ] at h;obtain ⟨b,hbd,h⟩:=h;obtain ⟨h1,h⟩:=qQ h;obtain ⟨h2,h⟩:=qQ h;exact ⟨_,by simp only [zX,hbd,vYQ,h1,h2,vZJ,vYV],h⟩
 ·exact qXH hc h
abbrev OrB:=Nat→Option (List HV→List PV→Option (Bool × (PV × List PV)))
structure OrS where
 a:OrK
 b:OrB
def OrS.orc (o:OrS):Orc:=⟨o.a.orc.a,fun g=>(o.b g).bind fun f=>some fun hs ps=>(f hs ps).bind fun x=>bif x.1 then some x.2 else none⟩
structure OrS.Ok (P:Program) (T:Tab) (o:OrS):Prop where
 a:o.a.Ok P
 b:∀ g f,o.b g=some f→∀ hs ps x ps',f hs ps=some (true,(x,ps'))→yGX P g hs ps x ps' (T.gq g) (T.gk g)
theorem OrS.Ok.orc {P:Program} {T:Tab} {o:OrS} (h:o.Ok P T):OrcOk P T o.orc:=by
 refine ⟨(h.a.orc (T:=T)).a,fun g f ho hs ps x ps' hr => ?_⟩;simp only [OrS.orc,vQQ,vQZ] at ho;obtain ⟨q,hq,rfl⟩:=ho;simp only [vQQ] at hr;obtain ⟨y,hy,hr⟩:=hr;obtain ⟨h1,hr⟩:=qQ hr;obtain ⟨y1,y2⟩:=y;cases hr;exact h.b g q hq hs ps x ps' (by rw [hy,← h1])
def cxS (T:Tab) (o:OrS) (N f n:Nat):Cx:=⟨T,qKX o.orc (runF T o.orc N),qJG T o.orc (runF T o.orc N),f,n⟩
def yKL (T:Tab) (o:OrS):Nat→Nat→List HV→Mem→(Ret × Mem→Option (Ret × Mem))→Option (Ret × Mem)
 | 0,_,_,_,_=>none
 | N + 1,f,hs,M,K=>match T.fn f with
  | none=>none
  | some fi=>bif Nat.ble hs.length fi.ntmps then zZE N (cxS T o N f fi.ntmps) (evS (cxS T o N f fi.ntmps)
    (zJC o.a fun g ps K=>yKL T o N g (ps.map .v) [] fun r=>K r.1)
    (fun g hs ps K=>match o.b g with
     | some q=>(q hs ps).bind fun x=>bif x.1 then K x.2 else none
     | none=>bif T.gk g then none else yKL T o N g hs (memB (T.gq g) ps) fun r=>(qUK (T.gq g) r.2).bind fun ps'=>(yUY r.1).bind fun x=>(yJY (T.gq g) x).bind fun x=>K (x,ps')))
    (fun _=>none) fi.body [] (fun e σ=>(endK T M fi.results e σ).bind K) ⟨initS 0 hs,M⟩ else none
def ckS (T:Tab) (o:OrS) (N:Nat):qJV:=zJC o.a fun g ps K=>yKL T o N g (ps.map .v) [] fun r=>K r.1
def cbS (T:Tab) (o:OrS) (N:Nat):zJD:=fun g hs ps K=>match o.b g with
 | some q=>(q hs ps).bind fun x=>bif x.1 then K x.2 else none
 | none=>bif T.gk g then none else yKL T o N g hs (memB (T.gq g) ps) fun r=>(qUK (T.gq g) r.2).bind fun ps'=>(yUY r.1).bind fun x=>(yJY (T.gq g) x).bind fun x=>K (x,ps')
def evX (T:Tab) (o:OrS) (N f n:Nat):Ev:=evS (cxS T o N f n) (ckS T o N) (cbS T o N)
section
variable {T:Tab} {o:OrS}
def FSnd (T:Tab) (o:OrS) (N:Nat):Prop:=∀ (f:Nat) (hs:List HV) (M:Mem) (K:Ret × Mem→Option (Ret × Mem)) (r:Ret × Mem),yKL T o N f hs M K=some r→∃ x,runF T o.orc N f hs M=some x∧K x=some r
theorem ckS_ok {N f n:Nat} (h:FSnd T o N):SndK (cxS T o N f n) (ckS T o N):=fun g qs K' r' hk=>by
 unfold ckS zJC at hk;show ∃ x,qKX o.orc (runF T o.orc N) g qs=some x∧K' x=some r';unfold qKX;cases ho:o.a g with
 | some q =>
  rw [ho] at hk;simp only [vQQ] at hk;obtain ⟨x,hx,hk⟩:=hk;obtain ⟨h1,hk⟩:=qQ hk;exact ⟨x.2,by simp only [OrS.orc,OrK.orc,ho,hx,vYQ,h1,vYV],hk⟩
 | none =>
  rw [ho] at hk;obtain ⟨x,hx,hk⟩:=h g _ _ _ r' hk;have e:o.orc.a g=none:=by simp only [OrS.orc,OrK.orc,ho,Option.bind_none]
  exact ⟨x.1,by simp only [e,hx,vYQ],hk⟩
theorem cbS_ok {N f n:Nat} (h:FSnd T o N):yHG (cxS T o N f n) (cbS T o N):=fun g hs ps K' r' hk=>by
 unfold cbS at hk;show ∃ x,qJG T o.orc (runF T o.orc N) g hs ps=some x∧K' x=some r';unfold qJG;cases ho:o.b g with
 | some q =>
  rw [ho] at hk;simp only [vQQ] at hk;obtain ⟨x,hx,hk⟩:=hk;obtain ⟨h1,hk⟩:=qQ hk;exact ⟨x.2,by simp only [OrS.orc,ho,hx,vYQ,h1,vYV],hk⟩
 | none =>
  rw [ho] at hk;cases hgk:T.gk g with
  | true=>rw [hgk] at hk; cases hk
  | false =>
  simp only [hgk,vYG] at hk;obtain ⟨x,hx,hk⟩:=h g _ _ _ r' hk;simp only [vQQ] at hk;obtain ⟨ps',h1,y,h2,z,h3,hk⟩:=hk;have e:o.orc.b g=none:=by simp only [OrS.orc,ho,Option.bind_none]
  exact ⟨(z,ps'),by simp only [e,hgk,vYG,hx,vYQ,h1,h2,h3],hk⟩
theorem yWV {N f n:Nat} (h:FSnd T o N):EvOk (cxS T o N f n) (evX T o N f n):=evS_ok (ckS_ok h) (cbS_ok h)
theorem zZC:∀ N,FSnd T o N
 | 0,f,hs,M,K,r,h=>by cases h
 | N + 1,f,hs,M,K,r,h=>by
  simp only [yKL] at h;split at h
  ·cases h
  ·rename_i fi hfi;obtain ⟨hb,h⟩:=qQ h;have ih:FSnd T o N:=zZC N;obtain ⟨q,h1,h2⟩:=qZX (K0:=K) (K':=endK T M fi.results) (B:=fi.body) (LO:=fun _=>none) (yWV (f:=f) (n:=fi.ntmps) ih) (fun p S hp=>by cases hp) fi.body [] rfl (fun e σ hk=>by
    simp only [vQQ] at hk;exact hk) _ h
   refine ⟨q,?_,h2⟩;simp only [runF,hfi,hb,vYV];exact h1
def yVY (T:Tab) (o:OrS) (LO:List Nat→Option uU) (N f:Nat) (hs:List HV) (M:Mem) (K:Ret × Mem→Option (Ret × Mem)):Option (Ret × Mem):=match T.fn f with
 | none=>none
 | some fi=>bif Nat.ble hs.length fi.ntmps then zZE N (cxS T o N f (ntmF T f)) (evX T o N f (ntmF T f)) LO (zJF T f) [] (fun e σ=>(endK T M fi.results e σ).bind K) ⟨initS 0 hs,M⟩ else none
theorem runXL_some {LO:List Nat→Option uU} {N f:Nat} {hs:List HV} {M:Mem} {K:Ret × Mem→Option (Ret × Mem)} {r:Ret × Mem} (hL:∀ p S,LO p=some S→qJW N (cxS T o N f (ntmF T f)) (qK T f p) S) (h:yVY T o LO N f hs M K=some r):∃ x,runF T o.orc (N + 1) f hs M=some x∧K x=some r:=by
 unfold yVY at h;split at h
 ·cases h
 ·rename_i fi hfi;obtain ⟨hb,h⟩:=qQ h;obtain ⟨q,h1,h2⟩:=qZX (K0:=K) (K':=endK T M fi.results) (B:=zJF T f) (yWV (zZC N)) hL (zJF T f) [] rfl (fun e σ hk=>by
   simp only [vQQ] at hk;exact hk) _ h
  have eb:zJF T f=fi.body:=by unfold zJF; rw [hfi]
  have en:ntmF T f=fi.ntmps:=by unfold ntmF; rw [hfi]
  rw [eb,en] at h1;refine ⟨q,?_,h2⟩;simp only [runF,hfi,hb,vYV];unfold cxS at h1;exact h1
def qXJ (T:Tab) (o:OrS) (LO:List Nat→Option uU) (N f:Nat) (ps:List PV):Option (Ret × Mem):=yVY T o LO N f (ps.map .v) [] fun r=>some (r.1,[])
def zVX (T:Tab) (o:OrS) (LO:List Nat→Option uU) (N f:Nat) (hs:List HV) (ps:List PV):Option (Ret × Mem):=yVY T o LO N f hs (memB (T.gq f) ps) fun r=>(qUK (T.gq f) r.2).bind fun ps'=>(yUY r.1).bind fun x=>(yJY (T.gq f) x).bind fun x=>some (.v (.t (x :: ps')),[])
theorem jX {P:Program} {LO:List Nat→Option uU} {N f:Nat} {ps:List PV} {r:Ret} (hT:TabOk P T) (hm:P.follows .mixedOrders=true) (hO:o.Ok P T) (hL:∀ p S,LO p=some S→qJW N (cxS T o N f (ntmF T f)) (qK T f p) S) (h:qXJ T o LO N f ps=some (r,[])):yZ P f ps r:=by
 obtain ⟨x,h1,h2⟩:=runXL_some hL h;cases h2;refine qVG (N:=N + 1) hT hm hO.orc ?_;unfold run;rw [h1];rfl
theorem runBX_soundq {P:Program} {LO:List Nat→Option uU} {N f:Nat} {hs:List HV} {ps ps':List PV} {x:PV} (hT:TabOk P T) (hm:P.follows .mixedOrders=true) (hO:o.Ok P T) (hL:∀ p S,LO p=some S→qJW N (cxS T o N f (ntmF T f)) (qK T f p) S) (h:zVX T o LO N f hs ps=some (.v (.t (x :: ps')),[])):yWH P f hs ps x ps' (T.gq f):=by
 obtain ⟨y,h1,h2⟩:=runXL_some hL h;simp only [vQQ,vQZ,vQY,Ret.v.injEq,PV.t.injEq,List.cons.injEq,and_true] at h2;obtain ⟨qs,h3,z,h4,z2,h5,rfl,rfl⟩:=h2;refine runB_sound (N:=N + 1) hT hm hO.orc ?_;unfold runB;rw [h1];simp only [vYQ,h3,h4,h5]
theorem qGL {P:Program} {LO:List Nat→Option uU} {N f:Nat} {hs:List HV} {ps ps':List PV} {x:PV} (hT:TabOk P T) (hm:P.follows .mixedOrders=true) (hO:o.Ok P T) (hL:∀ p S,LO p=some S→qJW N (cxS T o N f (ntmF T f)) (qK T f p) S) (h:zVX T o LO N f hs ps=some (.v (.t (x :: ps')),[])) (hq:T.gq f=false:=by rfl):qHG P f hs ps x ps':=by
 have:=runBX_soundq hT hm hO hL h
 rw [hq] at this;exact this
theorem runBX_soundQ {P:Program} {LO:List Nat→Option uU} {N f:Nat} {hs:List HV} {ps ps':List PV} {x:PV} (hT:TabOk P T) (hm:P.follows .mixedOrders=true) (hO:o.Ok P T) (hL:∀ p S,LO p=some S→qJW N (cxS T o N f (ntmF T f)) (qK T f p) S) (h:zVX T o LO N f hs ps=some (.v (.t (x :: ps')),[])) (hq:T.gq f=true:=by rfl):qHV P f hs ps x ps':=by
 have:=runBX_soundq hT hm hO hL h
 rw [hq] at this;exact this
end
theorem qVW {N:Nat} {T:Tab} {o:OrS} {f:Nat} {LO:List Nat→Option uU} {p:List Nat} {τ:Type} {hd:τ→St} {ex:St→τ} {R:τ→Cont→Option (Ret × Mem)}
  (hL:∀ p S,LO p=some S→qJW N (cxS T o N f (ntmF T f)) (qK T f p) S)
  (h:∀ s K r,R s K=some r→LFX N (cxS T o N f (ntmF T f)) (evX T o N f (ntmF T f)) LO (qK T f p) p (T.hint f (zV (qK T f p))) K N (hd s)=some r):qJW N (cxS T o N f (ntmF T f)) (qK T f p) (sumF hd ex R) :=
 loopX_of (B:=zJF T f) (ev:=evX T o N f (ntmF T f)) (yWV (zZC N)) hL rfl fun K σ r hr=>by
  unfold sumF at hr;obtain ⟨hg,hq⟩:=qQ hr;have e:=gSt_eq hg
  have:=h (ex σ) K r hq
  rw [← e] at this;exact this
abbrev OrBL:=List (Nat × (List HV→List PV→Option (Bool × (PV × List PV))))
def yQF (P:Program) (f:Nat) (o:List HV→List PV→Option (Bool × (PV × List PV))):Prop:=∀ hs ps x ps',o hs ps=some (true,(x,ps'))→qHG P f hs ps x ps'
def orS (l:OrL) (m:OrBL):OrS:=⟨OrL.k l,asc m⟩
def OneOkQ (P:Program) (f:Nat) (o:List HV→List PV→Option (Bool × (PV × List PV))):Prop:=∀ hs ps x ps',o hs ps=some (true,(x,ps'))→qHV P f hs ps x ps'
def OneOkBq (P:Program) (f:Nat) (o:List HV→List PV→Option (Bool × (PV × List PV))):Bool→Prop
 | false=>yQF P f o
 | true=>OneOkQ P f o
theorem OneOkBq.at {P:Program} {f:Nat} {o:List HV→List PV→Option (Bool × (PV × List PV))} {q:Bool} (h:OneOkBq P f o q) {hs:List HV} {ps ps':List PV} {x:PV} (ho:o hs ps=some (true,(x,ps'))):yWH P f hs ps x ps' q:=by
 cases q with
 | false=>exact h hs ps x ps' ho
 | true=>exact h hs ps x ps' ho
def OneOkK (P:Program) (f:Nat) (o:List HV→List PV→Option (Bool × (PV × List PV))):Prop:=∀ hs ps x ps',o hs ps=some (true,(x,ps'))→SndK1 P f hs ps x ps'
def OneOkBk (P:Program) (f:Nat) (o:List HV→List PV→Option (Bool × (PV × List PV))) (q:Bool):Bool→Prop
 | false=>OneOkBq P f o q
 | true=>OneOkK P f o
theorem OneOkBk.at {P:Program} {f:Nat} {o:List HV→List PV→Option (Bool × (PV × List PV))} {q k:Bool} (h:OneOkBk P f o q k) {hs:List HV} {ps ps':List PV} {x:PV} (ho:o hs ps=some (true,(x,ps'))):yGX P f hs ps x ps' q k:=by
 cases k with
 | false=>exact OneOkBq.at h ho
 | true=>exact h hs ps x ps' ho
theorem qZC {P:Program} {T:Tab} {l:OrL} {m:OrBL} (h:AllP (fun x:Nat × (List PV→Option (Bool × Ret))=>zY P x.1 x.2) l) (hb:AllP (fun x:Nat × (List HV→List PV→Option (Bool × (PV × List PV)))=>OneOkBk P x.1 x.2 (T.gq x.1) (T.gk x.1)) m):(orS l m).Ok P T :=
 ⟨OrL.ok h,fun _ _ ho hs ps x ps' hr=>(hb.of (qYW ho)).at hr⟩
def LFT (T:Tab) (f:Nat) (o:OrS) (N:Nat) (l:List (List Nat × uU)) (p:List Nat) (K:Cont):Nat→St→Option (Ret × Mem):=LFX N (cxS T o N f (ntmF T f)) (evX T o N f (ntmF T f)) (zW l) (qK T f p) p (T.hint f (zV (qK T f p))) K
def stpT (T:Tab) (f:Nat) (o:OrS) (N:Nat) (l:List (List Nat × uU)) (p:List Nat) (K:Cont) (G:St→Option (Ret × Mem)):St→Option (Ret × Mem):=yGC N (cxS T o N f (ntmF T f)) (evX T o N f (ntmF T f)) (zW l) (qK T f p) p (T.hint f (zV (qK T f p))) K G
end Go.Rx
namespace Go.Rx
open Go.RowKit Go.Sx
noncomputable def gEq (a b:PV):Bool:=@decide (a=b) (vYJ _)
theorem qWB (a:PV):gEq a a=true:=@vJQ _ (vYJ _) rfl
theorem qXG {a b:PV} (h:gEq a b=true):a=b:=@vJZ _ (vYJ _) h
noncomputable def g1 (l:List PV):Bool:=gEq (.t l) (.t l)
theorem g1_t (l:List PV):g1 l=true:=qWB _
noncomputable def o_lk (as_:List PV) (g:Bool) (r:Ret):List PV→Option (Bool × Ret):=fun ps=>some (gEq (.t ps) (.t as_) && g,r)
theorem zVC {P:Program} {f:Nat} {as_:List PV} {g:Bool} {r:Ret} (h:g=true→yZ P f as_ r):zY P f (o_lk as_ g r):=by
 intro ps q hh;unfold o_lk at hh;simp only [vQZ,vQY,vQJ] at hh;obtain ⟨⟨hg,hb⟩,rfl⟩:=hh
 have:=qXG hg
 simp only [PV.t.injEq] at this;rw [this];exact h hb
noncomputable def o_cr (as_:List PV) (r:Ret):List PV→Option (Bool × Ret):=fun ps=>some (gEq (.t ps) (.t as_),r)
theorem qJZ {P:Program} {f:Nat} {as_:List PV} {r:Ret} (h:yZ P f as_ r):zY P f (o_cr as_ r):=by
 intro ps q hh;unfold o_cr at hh;simp only [vQZ,vQY] at hh;obtain ⟨hg,rfl⟩:=hh
 have:=qXG hg
 simp only [PV.t.injEq] at this;rw [this];exact h
noncomputable def gP (p:Prop):Bool:=@decide p (vYJ _)
theorem yJZ {p:Prop} (h:p):gP p=true:=@vJQ _ (vYJ _) h
theorem qYX {p:Prop} (h:gP p=true):p:=@vJZ _ (vYJ _) h
noncomputable def gFam {τ:Type} (C:τ→Prop) (enc:τ→List PV) (t:τ) (ps:List PV):Bool:=gP (C t∧ps=enc t)
noncomputable def gF1 {τ:Type} (C:τ→Prop) (enc:τ→List PV) (t:τ):Bool:=gFam C enc t (enc t)
theorem qHX {τ:Type} {C:τ→Prop} {enc:τ→List PV} {t:τ} (h:C t):gF1 C enc t=true:=yJZ ⟨h,rfl⟩
noncomputable def o_fm {τ:Type} (dec:List PV→τ) (C:τ→Prop) (enc:τ→List PV) (res:τ→Ret):List PV→Option (Bool × Ret):=fun ps=>some (gFam C enc (dec ps) ps,res (dec ps))
theorem zUE {P:Program} {f:Nat} {τ:Type} {dec:List PV→τ} {C:τ→Prop} {enc:τ→List PV} {res:τ→Ret} (h:∀ t,C t→yZ P f (enc t) (res t)):zY P f (o_fm dec C enc res):=by
 intro ps r hh;unfold o_fm at hh;simp only [vQZ,vQY] at hh;obtain ⟨hg,rfl⟩:=hh;obtain ⟨hc,e⟩:=qYX hg
 have:=h _ hc
 rw [← e] at this;exact this
noncomputable def gFamB {τ:Type} (C:τ→Prop) (eh:τ→List HV) (ep:τ→List PV) (t:τ) (hs:List HV) (ps:List PV):Bool:=gP (C t∧hs=eh t∧ps=ep t)
noncomputable def gB1 {τ:Type} (C:τ→Prop) (eh:τ→List HV) (ep:τ→List PV) (t:τ):Bool:=gFamB C eh ep t (eh t) (ep t)
theorem qQB {τ:Type} {C:τ→Prop} {eh:τ→List HV} {ep:τ→List PV} {t:τ} (h:C t):gB1 C eh ep t=true:=yJZ ⟨h,rfl,rfl⟩
noncomputable def o_fb {τ:Type} (dec:List HV→List PV→τ) (C:τ→Prop) (eh:τ→List HV) (ep:τ→List PV) (x:τ→PV) (qs:τ→List PV):List HV→List PV→Option (Bool × (PV × List PV)):=fun hs ps=>some (gFamB C eh ep (dec hs ps) hs ps,(x (dec hs ps),qs (dec hs ps)))
theorem yHY {P:Program} {f:Nat} {τ:Type} {dec:List HV→List PV→τ} {C:τ→Prop} {eh:τ→List HV} {ep:τ→List PV} {x:τ→PV} {qs:τ→List PV} (h:∀ t,C t→qHG P f (eh t) (ep t) (x t) (qs t)):yQF P f (o_fb dec C eh ep x qs):=by
 intro hs ps y ps' hh;unfold o_fb at hh;simp only [vQZ,vQY] at hh;obtain ⟨hg,rfl,rfl⟩:=hh;obtain ⟨hc,e1,e2⟩:=qYX hg
 have:=h _ hc
 rw [← e1,← e2] at this;exact this
theorem ok_fq {P:Program} {f:Nat} {τ:Type} {dec:List HV→List PV→τ} {C:τ→Prop} {eh:τ→List HV} {ep:τ→List PV} {x:τ→PV} {qs:τ→List PV} (h:∀ t,C t→qHV P f (eh t) (ep t) (x t) (qs t)):OneOkQ P f (o_fb dec C eh ep x qs):=by
 intro hs ps y ps' hh;unfold o_fb at hh;simp only [vQZ,vQY] at hh;obtain ⟨hg,rfl,rfl⟩:=hh;obtain ⟨hc,e1,e2⟩:=qYX hg
 have:=h _ hc
 rw [← e1,← e2] at this;exact this
def fQ (q:Nat→Int):Nat→List PV:=fun v=>[.n .i64 (q v)]
def unFQ (f:Nat→List PV):Nat→Int:=fun i=>match f i with
 | [.n _ x]=>x
 | _=>0
def iqOf (l:List Int):Nat→Int:=fun i=>l.getD i 0
theorem qXW (l:List Int):Same (qHK l) (.lf l.length (fQ (iqOf l))):=Same.lf (rows_fn 0 (fun x=>[PV.n .i64 x]) l)
theorem toN (p:Nat):(p:Int).toNat=p:=by omega
theorem qZQ {p:Nat} (_:p < 1000000):vJJ .i64 ((p:Int) + 1)=((p + 1:Nat):Int):=by rw [qG (by omega)]; omega
theorem kZ {p n:Nat} (_:p < n):inB (p:Int) n=true:=by unfold inB; rw [vJQ (show (0:Int)≤p by omega),vJQ (show (p:Int).toNat < n by omega)]; rfl
def yYD {τ:Type} (nx:Nat→τ→τ):Nat→Nat→τ→τ
 | 0,_,s=>s
 | m + 1,p,s=>yYD nx m (p + 1) (nx p s)
theorem qHE {τ β:Type} {nx:Nat→τ→τ} {KX:τ→β} {KR:Nat→τ→β}:∀ m p s,runS (fun _ _=>true) nx KX KR m p s=KX (yYD nx m p s)
 | 0,_,_=>rfl
 | m + 1,p,s=>by
  simp only [runS,vYV,yYD];exact qHE m (p + 1) _
theorem zQA {τ:Type} {nx:Nat→τ→τ} {Q:Nat→τ→Prop} {c:Nat} (h:∀ i s,i < c→Q i s→Q (i + 1) (nx i s)):∀ r p s,p + r=c→Q p s→Q c (yYD nx r p s)
 | 0,p,s,hp,hq=>by
  obtain rfl:p=c:=by omega
  exact hq
 | r + 1,p,s,hp,hq=>zQA h r (p + 1) (nx p s) (by omega) (h p s (by omega) hq)
def qVI (g:Nat→Int):Nat→Nat→(Nat→Int)→Nat→Int
 | 0,_,a=>a
 | k + 1,p,a=>qVI g k (p + 1) fun v=>bif Nat.beq v p then g p else a v
theorem fillI_get (g:Nat→Int):∀ (k p:Nat) (a:Nat→Int) (v:Nat),qVI g k p a v=if p≤v∧v < p + k then g v else a v
 | 0,p,a,v=>by rw [qVI,if_neg (by omega)]
 | k + 1,p,a,v=>by
  rw [qVI,fillI_get g k (p + 1),qWE];by_cases h:v=p
  ·subst h;rw [if_neg (by omega),if_pos (by omega),vJQ rfl]; rfl
  ·rw [vYH h,vYG];by_cases h2:p + 1≤v∧v < p + 1 + k
   ·rw [if_pos h2,if_pos (by omega)]
   ·rw [if_neg h2,if_neg (by omega)]
theorem fillI_all {g a:Nat→Int} {k j:Nat} (_:j < k):qVI g k 0 a j=g j:=by rw [fillI_get,if_pos (by omega)]
theorem snd_ownF {P:Program} {f e sz n:Nat} {g:Nat→List PV} {ps:List PV} (h:yZ P f ps (.ow e sz (.fo n g))):yZ P f ps (.v (.lf n g)):=by
 refine ⟨h.1,fun w F vals hF hal=>(h.2 w F vals hF hal).mono ?_⟩
 rintro en w' ⟨v,F',he,hg,f1,f2,hr⟩
 obtain ⟨F2,f3,f4,hx⟩:=hr.pv (x:=.lf n g) rfl;refine ⟨v,F2,he,hg,fun k hk=>f3 k (f1 k hk),fun k hk => ?_,hx⟩;rcases f4 k hk with h | h
 ·exact f2 k h
 ·exact .inr h
theorem runS_unit {β:Type} (good:Nat→Bool) (KX:β) (KR:Nat→β):∀ k p,runS (fun (i:Nat) (_:Unit)=>good i) (fun _ _=>()) (fun _=>KX) (fun i _=>KR i) k p ()=zJX good KX KR k p
 | 0,_=>rfl
 | k + 1,p=>by simp only [runS,zJX,runS_unit good KX KR k (p + 1)]
def slI (σ:St) (k:Nat):Int:=match qQK σ.S k with
 | some (.v (.n _ x))=>x
 | _=>0
def rgN (σ:St) (k:Nat):Nat:=match zH σ.M k with
 | some (.reg _ _ (.fo n _))=>n
 | _=>0
def rgF (σ:St) (k:Nat):Nat→List PV:=match zH σ.M k with
 | some (.reg _ _ (.fo _ f))=>f
 | _=>fun _=>[]
def bkC (σ:St) (k i:Nat):Int:=match zH σ.M k with
 | some (.blk cs)=>match cs[i]? with
  | some (.v (.n _ x))=>x
  | _=>0
 | _=>0
def mA (w m:Nat):Nat→Nat
 | 0=>m
 | i + 1=>min (mA w m i + 1) w
theorem kG {w m:Nat} (h:m≤w):∀ i,mA w m i≤w
 | 0=>h
 | i + 1=>Nat.min_le_right _ _
def eW (e:Nat→Int) (w m:Nat):Int:=bif Nat.blt m w then e m else 0
def nxV (e:Nat→Int) (w m:Nat) (k:Int):Int:=eW e w m % k
theorem qKB {e:Nat→Int} {w m:Nat} {k:Int} (h:0 < k):0≤nxV e w m k∧nxV e w m k < k:=⟨Int.emod_nonneg _ (by omega),Int.emod_lt_of_pos _ h⟩
end Go.Rx
namespace Go.Sx
def dn (x:Int):Nat→Int
 | 0=>1073741824
 | 1=>x * 6746518852 / 65536
 | k + 2=>dn x (k + 1) * (x * 6746518852 / 65536) / 1073741824
def up (x:Int):Nat→Int
 | 0=>1073741824
 | 1=>zK (x * 6746518853) 65536
 | k + 2=>zK (up x (k + 1) * zK (x * 6746518853) 65536) 1073741824
theorem step_dn {m t r:Int} (h:r=m * t / 1073741824) (hm:0≤m∧m≤1073741824) (ht:0≤t∧t≤1073741824):0≤r∧r≤1073741824:=by
 subst h;have h1:0≤m * t:=Int.mul_nonneg hm.1 ht.1;have h2:m * t≤1073741824 * 1073741824:=Int.mul_le_mul hm.2 ht.2 ht.1 (by decide);omega
theorem zZQ {a b:Int} (hb:0 < b):a≤zK a b * b∧zK a b * b < a + b:=by
 unfold zK;have h1:=Int.ediv_mul_le (-a) (Int.ne_of_gt hb);have h2:=Int.lt_ediv_add_one_mul_self (-a) hb;rw [Int.add_mul] at h2;rw [Int.neg_mul];omega
theorem step_up {m t r:Int} (h:r=zK (m * t) 1073741824) (hm:0≤m∧m≤1073741824) (ht:0≤t∧t≤1073741824):0≤r∧r≤1073741824:=by
 subst h;have h1:0≤m * t:=Int.mul_nonneg hm.1 ht.1;have h2:m * t≤1073741824 * 1073741824:=Int.mul_le_mul hm.2 ht.2 ht.1 (by decide);have h3:=zZQ (a:=m * t) (b:=1073741824) (by decide);omega
theorem yZU {x r:Int} (_:r=zK (x * 6746518853) 65536) (_:0≤x∧x≤8192):0≤r∧r≤1073741824:=by
 have h3:=zZQ (a:=x * 6746518853) (b:=65536) (by decide);omega
theorem qJU {x:Int} (hx:0≤x∧x≤8192):∀ k,0≤dn x k∧dn x k≤1073741824
 | 0=>by simp [dn]
 | 1=>by simp only [dn]; omega
 | k + 2=>step_dn rfl (qJU hx (k + 1)) (by omega)
theorem qZV {x:Int} (hx:0≤x∧x≤8192):∀ k,0≤up x k∧up x k≤1073741824
 | 0=>by simp [up]
 | 1=>yZU rfl hx
 | k + 2=>step_up rfl (qZV hx (k + 1)) (yZU rfl hx)
def encI (low high:Int):Iv:=⟨max 0 (low / 16384),min 65536 (zK high 16384)⟩
def sinL (x:Int):Int:=dn x 1 - zK (up x 3) 6 + dn x 5 / 120 - zK (up x 7) 5040
def sinU (x:Int):Int:=up x 1 - dn x 3 / 6 + zK (up x 5) 120 - dn x 7 / 5040 + zK (up x 9) 362880
def cosL (x:Int):Int:=1073741824 - zK (up x 2) 2 + dn x 4 / 24 - zK (up x 6) 720 + dn x 8 / 40320 - zK (up x 10) 3628800
def cosU (x:Int):Int:=1073741824 - dn x 2 / 2 + zK (up x 4) 24 - dn x 6 / 720 + zK (up x 8) 40320
def zVK (x:Int):Iv:=encI (sinL x) (sinU x)
def qWC (x:Int):Iv:=encI (cosL x) (cosU x)
def qYZ (r:Int):Iv:=bif decide (r≤8192) then zVK r else qWC (16384 - r)
def sinM (m:Int):Iv:=bif decide (m / 16384=0) then qYZ (m % 16384) else bif decide (m / 16384=1) then qYZ (16384 - m % 16384)
 else bif decide (m / 16384=2) then Iv.neg (qYZ (m % 16384)) else Iv.neg (qYZ (16384 - m % 16384))
def sinI (a:Int):Iv:=sinM (a % 65536)
def cosI (a:Int):Iv:=sinI (a % 65536 + 16384)
def kU (a:Iv) (c:Int):Bool:=decide (a.lo + (c - a.lo) % 65536≤a.hi)
def overI (a:Iv) (low high:Iv) (top bottom:Int):Iv :=
 bif !a.valid then ⟨0,0⟩ else bif decide (65536≤a.hi - a.lo) then ⟨-65536,65536⟩ else
  let x:=Iv.hull low high
  let y:=bif kU a top then Iv.hull x (Iv.of 65536) else x
  bif kU a bottom then Iv.hull y (Iv.of (-65536)) else y
def kJ (a:Iv):Iv:=overI a (sinI a.lo) (sinI a.hi) 16384 49152
def kK (a:Iv):Iv:=overI a (cosI a.lo) (cosI a.hi) 0 32768
theorem ceiling_eq {a b:Int} (_:0≤a) (hb:0 < b):(a + b - 1) / b=zK a b:=by
 refine (zZZ hb ?_ ?_).symm
 ·have:=Int.lt_ediv_add_one_mul_self (a + b - 1) hb
  rw [Int.add_mul] at this;omega
 ·have:=Int.ediv_mul_le (a + b - 1) (Int.ne_of_gt hb)
  omega
theorem ceil_nonneg {a b:Int} (ha:0≤a) (hb:0 < b):0≤zK a b∧zK a b≤a:=by
 have h:=zZQ (a:=a) hb;constructor
 ·rcases Int.lt_or_le (zK a b) 0 with h1 | h1
  ·have:zK a b * b ≤ -1 * b:=Int.mul_le_mul_of_nonneg_right (by omega) (Int.le_of_lt hb)
   omega
  ·exact h1
 ·rcases Int.lt_or_le a (zK a b) with h1 | h1
  ·have:(a + 1) * b≤zK a b * b:=Int.mul_le_mul_of_nonneg_right (by omega) (Int.le_of_lt hb)
   rw [Int.add_mul] at this;have h3:a * 1≤a * b:=Int.mul_le_mul_of_nonneg_left (by omega) ha;omega
  ·exact h1
theorem yJ {r a b:Int} (_:r=zK a b) (ha:0≤a∧a≤1073741824) (hb:0 < b):0≤r∧r≤1073741824:=by
 have:=ceil_nonneg ha.1 hb
 omega
theorem ceil_quo {a b:Int} (ha:0≤a∧a≤1073741824) (hb:0 < b∧b≤1073741824):vJJ .i64 ((a + b - 1).tdiv b)=zK a b:=by
 rw [tdiv_nonneg (by omega) (by omega),ceiling_eq ha.1 hb.1];exact qG (by have:=ceil_nonneg ha.1 hb.1; omega)
theorem round_neg {n k:Int} (hk:0 < k) (h:n.tmod k < 0):n.tmod k + k=n % k:=by
 have e:=Int.tdiv_mul_add_tmod n k;have f:=zQC hk h;have g:=Int.mul_ediv_add_emod n k;rw [← f,Int.mul_comm,Int.sub_mul] at g;omega
theorem round_pos {n k:Int} (hk:0 < k) (h:¬ n.tmod k < 0):n.tmod k=n % k:=by
 have e:=Int.tdiv_mul_add_tmod n k;have f:=zXB hk h;have g:=Int.mul_ediv_add_emod n k;rw [← f,Int.mul_comm] at g;omega
end Go.Sx
namespace Go.Sx
def cN (a b:Nat):Nat:=(a + (b - 1)) / b
def d1N (x:Nat):Nat:=x * 6746518852 / 65536
def u1N (x:Nat):Nat:=(x * 6746518853 + 65535) / 65536
def dN (x:Nat):Nat→Nat
 | 0=>1073741824
 | 1=>d1N x
 | k + 2=>dN x (k + 1) * d1N x / 1073741824
def uN (x:Nat):Nat→Nat
 | 0=>1073741824
 | 1=>u1N x
 | k + 2=>(uN x (k + 1) * u1N x + 1073741823) / 1073741824
def sLo (x:Nat):Nat:=((dN x 1 + dN x 5 / 120) - (cN (uN x 3) 6 + cN (uN x 7) 5040)) / 16384
def sHi (x:Nat):Nat:=min 65536 ((((uN x 1 + cN (uN x 5) 120 + cN (uN x 9) 362880) - (dN x 3 / 6 + dN x 7 / 5040)) + 16383) / 16384)
def cLo (x:Nat):Nat:=((1073741824 + dN x 4 / 24 + dN x 8 / 40320) - (cN (uN x 2) 2 + cN (uN x 6) 720 + cN (uN x 10) 3628800)) / 16384
def cHi (x:Nat):Nat:=min 65536 ((((1073741824 + cN (uN x 4) 24 + cN (uN x 8) 40320) - (dN x 2 / 2 + dN x 6 / 720)) + 16383) / 16384)
def fLo (r:Nat):Nat:=if r≤8192 then sLo r else cLo (16384 - r)
def fHi (r:Nat):Nat:=if r≤8192 then sHi r else cHi (16384 - r)
theorem zWE {r:Nat} (h:r≤8192):fLo r=sLo r∧fHi r=sHi r:=⟨if_pos h,if_pos h⟩
theorem yKW {r:Nat} (_:8192 < r):fLo r=cLo (16384 - r)∧fHi r=cHi (16384 - r):=⟨if_neg (by omega),if_neg (by omega)⟩
def frc (n:Nat) (k:Nat→Bool):Bool:=Nat.rec (motive:=fun _=>Bool) (k 0) (fun m _=>k (Nat.succ m)) n
theorem yWU (n:Nat) (k:Nat→Bool):frc n k=k n:=by cases n <;> rfl
def yUH (x:Nat) (K:Nat→Nat→Nat→Nat→Bool):Bool :=
 frc x fun x=>frc (x * 6746518852 / 65536) fun d1=>frc ((x * 6746518853 + 65535) / 65536) fun u1 =>
 frc (d1 * d1 / 1073741824) fun d2=>frc ((u1 * u1 + 1073741823) / 1073741824) fun u2 =>
 frc (d2 * d1 / 1073741824) fun d3=>frc ((u2 * u1 + 1073741823) / 1073741824) fun u3 =>
 frc (d3 * d1 / 1073741824) fun d4=>frc ((u3 * u1 + 1073741823) / 1073741824) fun u4 =>
 frc (d4 * d1 / 1073741824) fun d5=>frc ((u4 * u1 + 1073741823) / 1073741824) fun u5 =>
 frc (d5 * d1 / 1073741824) fun d6=>frc ((u5 * u1 + 1073741823) / 1073741824) fun u6 =>
 frc (d6 * d1 / 1073741824) fun d7=>frc ((u6 * u1 + 1073741823) / 1073741824) fun u7 =>
 frc (d7 * d1 / 1073741824) fun d8=>frc ((u7 * u1 + 1073741823) / 1073741824) fun u8 =>
 frc ((u8 * u1 + 1073741823) / 1073741824) fun u9=>frc ((u9 * u1 + 1073741823) / 1073741824) fun u10 =>
 frc (((d1 + d5 / 120) - ((u3 + 5) / 6 + (u7 + 5039) / 5040)) / 16384) fun slo =>
 frc (min 65536 ((((u1 + (u5 + 119) / 120 + (u9 + 362879) / 362880) - (d3 / 6 + d7 / 5040)) + 16383) / 16384)) fun shi =>
 frc (((1073741824 + d4 / 24 + d8 / 40320) - ((u2 + 1) / 2 + (u6 + 719) / 720 + (u10 + 3628799) / 3628800)) / 16384) fun clo =>
 frc (min 65536 ((((1073741824 + (u4 + 23) / 24 + (u8 + 40319) / 40320) - (d2 / 2 + d6 / 720)) + 16383) / 16384)) fun chi=>K slo shi clo chi
theorem zWI (x:Nat) (K:Nat→Nat→Nat→Nat→Bool):yUH x K=K (sLo x) (sHi x) (cLo x) (cHi x):=by
 unfold yUH;simp only [yWU];rfl
def one (x a b c d:Nat):Bool :=
 Nat.ble a b && (Nat.ble b 65536 && (Nat.ble b (a + 2) && (Nat.ble c d && (Nat.ble d 65536 && (Nat.ble d (c + 2) &&
 (Nat.ble (4 * x) b && (Nat.ble (4 * x) (a + 2) && (Nat.ble a (x * 411775 / 65536 + 1) &&
 (Nat.ble (4 * (16384 - x)) d && (Nat.ble (4 * (16384 - x)) (c + 2) && (Nat.ble c ((16384 - x) * 411775 / 65536 + 1) &&
 (Nat.ble (a * a / 65536 + c * c / 65536) 65536 && Nat.ble 65536 ((b * b + 65535) / 65536 + (d * d + 65535) / 65536)))))))))))))
structure Fst (r:Nat):Prop where
 ord:fLo r≤fHi r
 top:fHi r≤65536
 wid:fHi r≤fLo r + 2
 ch1:4 * r≤fHi r
 ch2:4 * r≤fLo r + 2
 ch3:fLo r≤r * 411775 / 65536 + 1
end Go.Sx
namespace Go.Sx
theorem neg_mk {x y:Int} (_: -2147483648≤x∧x≤y∧y≤2147483648):Iv.neg ⟨x,y⟩=⟨-y,-x⟩:=by
 have:Iv.valid ⟨x,y⟩=true:=by simp [Iv.valid]; omega
 simp [Iv.neg,this]
theorem neg_of {a:Iv} (h : -2147483648≤a.lo∧a.lo≤a.hi∧a.hi≤2147483648):Iv.neg a=⟨-a.hi,-a.lo⟩:=neg_mk (x:=a.lo) (y:=a.hi) h
theorem valid_of {a:Iv} (_: -2147483648≤a.lo∧a.lo≤a.hi∧a.hi≤2147483648):a.valid=true:=by simp [Iv.valid]; omega
theorem neg_neg {a:Iv} (h : -2147483648≤a.lo∧a.lo≤a.hi∧a.hi≤2147483648):Iv.neg (Iv.neg a)=a:=by
 rw [neg_of h,neg_mk (by omega),Int.neg_neg,Int.neg_neg]
end Go.Sx
namespace Go.Sx
def nn:Nat:=340282366920938463463374607431768211456
def uu:Nat:=5192296858534827628530496329220096
def uc:Nat:=340282365357037221779282487371359009126
def us:Nat:=32624163282081701561065576601652201
def w:Nat→Nat × Nat
 | 0=>(nn,0)
 | n + 1=>(((w n).1 * uc - (w n).2 * us) / nn,((w n).1 * us + (w n).2 * uc) / nn)
def bx (S C a b c d:Nat):Bool:=Nat.ble (a * 5192296858534827628530496329220096) S && (Nat.ble S (b * 5192296858534827628530496329220096) && (Nat.ble (c * 5192296858534827628530496329220096) C && Nat.ble C (d * 5192296858534827628530496329220096)))
def goU (C' T':Nat):Nat→Nat→Nat→Nat→Bool
 | 0,C,T,_=>Nat.beq C C' && Nat.beq T T'
 | k + 1,C,T,x=>(yUH x fun a b c d=>bx T C a b c d) && (Nat.ble (T * 32624163282081701561065576601652201) (C * 340282365357037221779282487371359009126) && frc ((C * 340282365357037221779282487371359009126 - T * 32624163282081701561065576601652201) / 340282366920938463463374607431768211456) fun C2=>frc ((C * 32624163282081701561065576601652201 + T * 340282365357037221779282487371359009126) / 340282366920938463463374607431768211456) fun T2=>frc (x + 1) fun x2=>goU C' T' k C2 T2 x2)
def goD (C' T':Nat):Nat→Nat→Nat→Nat→Bool
 | 0,C,T,_=>Nat.beq C C' && Nat.beq T T'
 | k + 1,C,T,x=>(yUH x fun a b c d=>bx C T a b c d) && (Nat.ble (T * 32624163282081701561065576601652201) (C * 340282365357037221779282487371359009126) && frc ((C * 340282365357037221779282487371359009126 - T * 32624163282081701561065576601652201) / 340282366920938463463374607431768211456) fun C2=>frc ((C * 32624163282081701561065576601652201 + T * 340282365357037221779282487371359009126) / 340282366920938463463374607431768211456) fun T2=>frc (x - 1) fun x2=>goD C' T' k C2 T2 x2)
structure BoxU (r:Nat):Prop where
 sl:sLo r * uu≤(w r).2
 sh:(w r).2≤sHi r * uu
 cl:cLo r * uu≤(w r).1
 ch:(w r).1≤cHi r * uu
 st:(w r).2 * us≤(w r).1 * uc
structure BoxD (r:Nat):Prop where
 sl:sLo (16384 - r) * uu≤(w r).1
 sh:(w r).1≤sHi (16384 - r) * uu
 cl:cLo (16384 - r) * uu≤(w r).2
 ch:(w r).2≤cHi (16384 - r) * uu
 st:(w r).2 * us≤(w r).1 * uc
theorem qQV {C' T':Nat}:∀ k C T x,goU C' T' k C T x=true→w x=(C,T)→w (x + k)=(C',T')∧∀ i,x≤i→i < x + k→BoxU i
 | 0,C,T,x,h,e=>by
  simp only [goU,vQJ] at h;refine ⟨?_,fun i a b=>absurd b (by omega)⟩;rw [Nat.add_zero,e,vQX h.1,vQX h.2]
 | k + 1,C,T,x,h,e=>by
  simp only [goU,yWU,zWI,bx,vQJ] at h;obtain ⟨⟨h1,h2,h3,h4⟩,h5,h6⟩:=h;obtain ⟨q1,q2⟩:=qQV k _ _ (x + 1) h6 (by rw [w,e]; rfl);refine ⟨by rw [← q1]; congr 1; omega,fun i a b => ?_⟩;by_cases hi:i=x
  ·subst hi;exact ⟨by rw [e]; exact vZX h1,by rw [e]; exact vZX h2,by rw [e]; exact vZX h3,by rw [e]; exact vZX h4,by rw [e]; exact vZX h5⟩
  ·exact q2 i (by omega) (by omega)
theorem qQD {C' T':Nat}:∀ k C T r,r≤16384→k≤16384 - r→goD C' T' k C T (16384 - r)=true→w r=(C,T)→w (r + k)=(C',T')∧∀ i,r≤i→i < r + k→BoxD i
 | 0,C,T,x,_,_,h,e=>by
  simp only [goD,vQJ] at h;refine ⟨?_,fun i a b=>absurd b (by omega)⟩;rw [Nat.add_zero,e,vQX h.1,vQX h.2]
 | k + 1,C,T,x,g1,g2,h,e=>by
  simp only [goD,yWU,zWI,bx,vQJ] at h;obtain ⟨⟨h1,h2,h3,h4⟩,h5,h6⟩:=h;rw [show 16384 - x - 1=16384 - (x + 1) by omega] at h6;obtain ⟨q1,q2⟩:=qQD k _ _ (x + 1) (by omega) (by omega) h6 (by rw [w,e]; rfl);refine ⟨by rw [← q1]; congr 1; omega,fun i a b => ?_⟩;by_cases hi:i=x
  ·subst hi;exact ⟨by rw [e]; exact vZX h1,by rw [e]; exact vZX h2,by rw [e]; exact vZX h3,by rw [e]; exact vZX h4,by rw [e]; exact vZX h5⟩
  ·exact q2 i (by omega) (by omega)
theorem wk0:goU 338643814315582355912937410983956791763 33353504510164655995148692933346502990 1024 340282366920938463463374607431768211456 0 0=true:=by decide +kernel
theorem wk1:goU 333743936656827580393945988194117882553 66385796539016198537004233666266150132 1024 338643814315582355912937410983956791763 33353504510164655995148692933346502990 1024=true:=by decide +kernel
theorem wk2:goU 325629922445073537381874007154866693371 98778757057029163154891549979681820108 1024 333743936656827580393945988194117882553 66385796539016198537004233666266150132 2048=true:=by decide +kernel
theorem wk3:goU 314379914072750776175968446003616356708 130220424146621615521356287373662035415 1024 325629922445073537381874007154866693371 98778757057029163154891549979681820108 3072=true:=by decide +kernel
theorem wk4:goU 300102255270364911803307903246760032214 160407997365957196655387116525924829546 1024 314379914072750776175968446003616356708 130220424146621615521356287373662035415 4096=true:=by decide +kernel
theorem wk5:goU 282934447697145148265594844368147524013 189050753882727566157415671255032869469 1024 300102255270364911803307903246760032214 160407997365957196655387116525924829546 5120=true:=by decide +kernel
theorem wk6:goU 263041826724899848421390153308517431640 215872848293952797667059038248426017122 1024 282934447697145148265594844368147524013 189050753882727566157415671255032869469 6144=true:=by decide +kernel
theorem wk7:goU 240615969168004511545033772483698474358 240615969168004511545033772471550468243 1024 263041826724899848421390153308517431640 215872848293952797667059038248426017122 7168=true:=by decide +kernel
theorem wk8:goD 215872848293952797667059038261706108609 263041826724899848421390153297618474197 1024 240615969168004511545033772483698474358 240615969168004511545033772471550468243 8192=true:=by decide +kernel
theorem wk9:goD 189050753882727566157415671269317183057 282934447697145148265594844358602552466 1024 215872848293952797667059038261706108609 263041826724899848421390153297618474197 7168=true:=by decide +kernel
theorem wk10:goD 160407997365957196655387116541075833093 300102255270364911803307903238660947340 1024 189050753882727566157415671269317183057 282934447697145148265594844358602552466 6144=true:=by decide +kernel
theorem wk11:goD 130220424146621615521356287389533852184 314379914072750776175968445997041138024 1024 160407997365957196655387116541075833093 300102255270364911803307903238660947340 5120=true:=by decide +kernel
theorem wk12:goD 98778757057029163154891549996121633199 325629922445073537381874007149878648288 1024 130220424146621615521356287389533852184 314379914072750776175968445997041138024 4096=true:=by decide +kernel
theorem wk13:goD 66385796539016198537004233683115673837 333743936656827580393945988190765036869 1024 98778757057029163154891549996121633199 325629922445073537381874007149878648288 3072=true:=by decide +kernel
theorem wk14:goD 33353504510164655995148692950443506845 338643814315582355912937410982271427247 1024 66385796539016198537004233683115673837 333743936656827580393945988190765036869 2048=true:=by decide +kernel
theorem wk15:goD 17179870747 340282366920938463463374607431766555032 1024 33353504510164655995148692950443506845 338643814315582355912937410982271427247 1024=true:=by decide +kernel
theorem ws0:w 0=(340282366920938463463374607431768211456,0):=rfl
theorem ws1:w 1024=(338643814315582355912937410983956791763,33353504510164655995148692933346502990):=(qQV 1024 _ _ 0 wk0 ws0).1
theorem ws2:w 2048=(333743936656827580393945988194117882553,66385796539016198537004233666266150132):=(qQV 1024 _ _ 1024 wk1 ws1).1
theorem ws3:w 3072=(325629922445073537381874007154866693371,98778757057029163154891549979681820108):=(qQV 1024 _ _ 2048 wk2 ws2).1
theorem ws4:w 4096=(314379914072750776175968446003616356708,130220424146621615521356287373662035415):=(qQV 1024 _ _ 3072 wk3 ws3).1
theorem ws5:w 5120=(300102255270364911803307903246760032214,160407997365957196655387116525924829546):=(qQV 1024 _ _ 4096 wk4 ws4).1
theorem ws6:w 6144=(282934447697145148265594844368147524013,189050753882727566157415671255032869469):=(qQV 1024 _ _ 5120 wk5 ws5).1
theorem ws7:w 7168=(263041826724899848421390153308517431640,215872848293952797667059038248426017122):=(qQV 1024 _ _ 6144 wk6 ws6).1
theorem ws8:w 8192=(240615969168004511545033772483698474358,240615969168004511545033772471550468243):=(qQV 1024 _ _ 7168 wk7 ws7).1
theorem ws9:w 9216=(215872848293952797667059038261706108609,263041826724899848421390153297618474197):=(qQD 1024 _ _ 8192 (by decide) (by decide) wk8 ws8).1
theorem ws10:w 10240=(189050753882727566157415671269317183057,282934447697145148265594844358602552466):=(qQD 1024 _ _ 9216 (by decide) (by decide) wk9 ws9).1
theorem ws11:w 11264=(160407997365957196655387116541075833093,300102255270364911803307903238660947340):=(qQD 1024 _ _ 10240 (by decide) (by decide) wk10 ws10).1
theorem ws12:w 12288=(130220424146621615521356287389533852184,314379914072750776175968445997041138024):=(qQD 1024 _ _ 11264 (by decide) (by decide) wk11 ws11).1
theorem ws13:w 13312=(98778757057029163154891549996121633199,325629922445073537381874007149878648288):=(qQD 1024 _ _ 12288 (by decide) (by decide) wk12 ws12).1
theorem ws14:w 14336=(66385796539016198537004233683115673837,333743936656827580393945988190765036869):=(qQD 1024 _ _ 13312 (by decide) (by decide) wk13 ws13).1
theorem ws15:w 15360=(33353504510164655995148692950443506845,338643814315582355912937410982271427247):=(qQD 1024 _ _ 14336 (by decide) (by decide) wk14 ws14).1
theorem boxU {r:Nat} (h:r < 8192):BoxU r:=by
 have hq:(0≤r∧r < 1024) ∨ (1024≤r∧r < 2048) ∨ (2048≤r∧r < 3072) ∨ (3072≤r∧r < 4096) ∨ (4096≤r∧r < 5120) ∨ (5120≤r∧r < 6144) ∨ (6144≤r∧r < 7168) ∨ (7168≤r∧r < 8192):=by omega
 rcases hq with h | h | h | h | h | h | h | h
 ·exact (qQV 1024 _ _ 0 wk0 ws0).2 r h.1 h.2
 ·exact (qQV 1024 _ _ 1024 wk1 ws1).2 r h.1 h.2
 ·exact (qQV 1024 _ _ 2048 wk2 ws2).2 r h.1 h.2
 ·exact (qQV 1024 _ _ 3072 wk3 ws3).2 r h.1 h.2
 ·exact (qQV 1024 _ _ 4096 wk4 ws4).2 r h.1 h.2
 ·exact (qQV 1024 _ _ 5120 wk5 ws5).2 r h.1 h.2
 ·exact (qQV 1024 _ _ 6144 wk6 ws6).2 r h.1 h.2
 ·exact (qQV 1024 _ _ 7168 wk7 ws7).2 r h.1 h.2
theorem boxD {r:Nat} (g:8192≤r) (h:r < 16384):BoxD r:=by
 have hq:(8192≤r∧r < 9216) ∨ (9216≤r∧r < 10240) ∨ (10240≤r∧r < 11264) ∨ (11264≤r∧r < 12288) ∨ (12288≤r∧r < 13312) ∨ (13312≤r∧r < 14336) ∨ (14336≤r∧r < 15360) ∨ (15360≤r∧r < 16384):=by omega
 rcases hq with h | h | h | h | h | h | h | h
 ·exact (qQD 1024 _ _ 8192 (by decide) (by decide) wk8 ws8).2 r h.1 h.2
 ·exact (qQD 1024 _ _ 9216 (by decide) (by decide) wk9 ws9).2 r h.1 h.2
 ·exact (qQD 1024 _ _ 10240 (by decide) (by decide) wk10 ws10).2 r h.1 h.2
 ·exact (qQD 1024 _ _ 11264 (by decide) (by decide) wk11 ws11).2 r h.1 h.2
 ·exact (qQD 1024 _ _ 12288 (by decide) (by decide) wk12 ws12).2 r h.1 h.2
 ·exact (qQD 1024 _ _ 13312 (by decide) (by decide) wk13 ws13).2 r h.1 h.2
 ·exact (qQD 1024 _ _ 14336 (by decide) (by decide) wk14 ws14).2 r h.1 h.2
 ·exact (qQD 1024 _ _ 15360 (by decide) (by decide) wk15 ws15).2 r h.1 h.2
theorem mid0:(yUH 8192 fun a b c d=>bx 240615969168004511545033772471550468243 240615969168004511545033772483698474358 a b c d)=true:=by decide +kernel
theorem mid:sLo 8192 * uu≤(w 8192).2∧(w 8192).2≤sHi 8192 * uu:=by
 have:=mid0
 simp only [zWI,bx,vQJ] at this;rw [ws8];exact ⟨vZX this.1,vZX this.2.1⟩
theorem box {r:Nat} (h:r < 16384):fLo r * uu≤(w r).2∧(w r).2≤fHi r * uu∧fLo (16384 - r) * uu≤(w r).1∧(w r).1≤fHi (16384 - r) * uu:=by
 rcases Nat.lt_or_ge r 8192 with h1 | h1
 ·have b:=boxU h1;rw [(zWE (r:=r) (by omega)).1,(zWE (r:=r) (by omega)).2,(yKW (r:=16384 - r) (by omega)).1,(yKW (r:=16384 - r) (by omega)).2,show 16384 - (16384 - r)=r by omega];exact ⟨b.sl,b.sh,b.cl,b.ch⟩
 ·have b:=boxD h1 h;rw [(zWE (r:=16384 - r) (by omega)).1,(zWE (r:=16384 - r) (by omega)).2];rcases Nat.lt_or_ge 8192 r with h2 | h2
  ·rw [(yKW (r:=r) (by omega)).1,(yKW (r:=r) (by omega)).2];exact ⟨b.cl,b.ch,b.sl,b.sh⟩
  ·have e:r=8192:=by omega
   subst e;rw [(zWE (r:=8192) (by omega)).1,(zWE (r:=8192) (by omega)).2];have k:=mid;exact ⟨k.1,k.2,b.sl,b.sh⟩
end Go.Sx
namespace Go.Sx
def WC (r:Nat):Int:=((w r).1:Int)
def WT (r:Nat):Int:=((w r).2:Int)
theorem w0:WC 0=(340282366920938463463374607431768211456:Int)∧WT 0=0:=⟨rfl,rfl⟩
end Go.Sx
namespace Go.Sx
structure In (I:Iv) (m x:Int):Prop where
 lo:I.lo * m≤x
 hi:x≤I.hi * m
def Ok (a:Iv):Prop:=-2147483648≤a.lo∧a.lo≤a.hi∧a.hi≤2147483648
theorem clamp_bnd (z:Int) : -2147483648≤qQJ z∧qQJ z≤2147483648:=by unfold qQJ; omega
theorem clamp_mono {x y:Int} (_:x≤y):qQJ x≤qQJ y:=by unfold qQJ; omega
theorem mul_Ok (a b:Iv):Ok (Iv.mul a b):=by
 unfold Iv.mul;cases a.valid && b.valid
 ·exact (show Ok ⟨0,0⟩ by unfold Ok; decide)
 ·refine ⟨(clamp_bnd _).1,clamp_mono ?_,(clamp_bnd _).2⟩;have hc:=zZQ (a:=max4 (a.lo * b.lo) (a.lo * b.hi) (a.hi * b.lo) (a.hi * b.hi)) (b:=65536) (by decide)
  have:min4 (a.lo * b.lo) (a.lo * b.hi) (a.hi * b.lo) (a.hi * b.hi)≤max4 (a.lo * b.lo) (a.lo * b.hi) (a.hi * b.lo) (a.hi * b.hi):=by unfold min4 max4; omega
  omega
end Go.Sx
namespace Go.Sx
structure V3 where
 x:Iv
 y:Iv
 z:Iv
structure M3 where
 x:V3
 y:V3
 z:V3
structure Po where
 r:M3
 t:V3
structure Z3 where
 x:Int
 y:Int
 z:Int
def z3 (v:Z3):Value:=.agg #[.int .i64 v.x,.int .i64 v.y,.int .i64 v.z]
def v3 (v:V3):Value:=.agg #[.int .i64 v.x.lo,.int .i64 v.x.hi,.int .i64 v.y.lo,.int .i64 v.y.hi,.int .i64 v.z.lo,.int .i64 v.z.hi]
def m3 (v:M3):Value:=.agg #[.int .i64 v.x.x.lo,.int .i64 v.x.x.hi,.int .i64 v.x.y.lo,.int .i64 v.x.y.hi,.int .i64 v.x.z.lo,.int .i64 v.x.z.hi,
 .int .i64 v.y.x.lo,.int .i64 v.y.x.hi,.int .i64 v.y.y.lo,.int .i64 v.y.y.hi,.int .i64 v.y.z.lo,.int .i64 v.y.z.hi,
 .int .i64 v.z.x.lo,.int .i64 v.z.x.hi,.int .i64 v.z.y.lo,.int .i64 v.z.y.hi,.int .i64 v.z.z.lo,.int .i64 v.z.z.hi]
def po (p:Po):Value:=.agg #[.int .i64 p.r.x.x.lo,.int .i64 p.r.x.x.hi,.int .i64 p.r.x.y.lo,.int .i64 p.r.x.y.hi,.int .i64 p.r.x.z.lo,.int .i64 p.r.x.z.hi,
 .int .i64 p.r.y.x.lo,.int .i64 p.r.y.x.hi,.int .i64 p.r.y.y.lo,.int .i64 p.r.y.y.hi,.int .i64 p.r.y.z.lo,.int .i64 p.r.y.z.hi,
 .int .i64 p.r.z.x.lo,.int .i64 p.r.z.x.hi,.int .i64 p.r.z.y.lo,.int .i64 p.r.z.y.hi,.int .i64 p.r.z.z.lo,.int .i64 p.r.z.z.hi,
 .int .i64 p.t.x.lo,.int .i64 p.t.x.hi,.int .i64 p.t.y.lo,.int .i64 p.t.y.hi,.int .i64 p.t.z.lo,.int .i64 p.t.z.hi]
def V3.of (p:Z3):V3:=⟨Iv.of p.x,Iv.of p.y,Iv.of p.z⟩
def V3.add (a b:V3):V3:=⟨Iv.add a.x b.x,Iv.add a.y b.y,Iv.add a.z b.z⟩
def V3.sub (a b:V3):V3:=⟨Iv.sub a.x b.x,Iv.sub a.y b.y,Iv.sub a.z b.z⟩
def V3.neg (a:V3):V3:=⟨Iv.neg a.x,Iv.neg a.y,Iv.neg a.z⟩
def V3.within (a b:V3):Bool:=Iv.within a.x b.x && Iv.within a.y b.y && Iv.within a.z b.z
def V3.dot (a b:V3):Iv:=Iv.add (Iv.add (Iv.mul a.x b.x) (Iv.mul a.y b.y)) (Iv.mul a.z b.z)
def M3.apply (m:M3) (v:V3):V3:=⟨V3.dot m.x v,V3.dot m.y v,V3.dot m.z v⟩
def limI (x:Int):Int:=min (max x (-65536)) 65536
def limV (a:Iv):Iv:=⟨limI a.lo,limI a.hi⟩
def M3.tr (m:M3):M3:=⟨⟨m.x.x,m.y.x,m.z.x⟩,⟨m.x.y,m.y.y,m.z.y⟩,⟨m.x.z,m.y.z,m.z.z⟩⟩
def M3.row (a:V3) (b:M3):V3:=⟨limV (V3.dot a b.tr.x),limV (V3.dot a b.tr.y),limV (V3.dot a b.tr.z)⟩
def M3.mul (a b:M3):M3:=⟨M3.row a.x b,M3.row a.y b,M3.row a.z b⟩
def M3.within (a b:M3):Bool:=V3.within a.x b.x && V3.within a.y b.y && V3.within a.z b.z
def iv0:Iv:=⟨0,0⟩
def iv1:Iv:=⟨65536,65536⟩
def M3.unit:M3:=⟨⟨iv1,iv0,iv0⟩,⟨iv0,iv1,iv0⟩,⟨iv0,iv0,iv1⟩⟩
def M3.zero:M3:=⟨⟨iv0,iv0,iv0⟩,⟨iv0,iv0,iv0⟩,⟨iv0,iv0,iv0⟩⟩
def M3.turn (axis:Int) (a:Iv):M3:=bif !a.valid then M3.zero else
 bif decide (axis=0) then ⟨⟨iv1,iv0,iv0⟩,⟨iv0,kK a,Iv.neg (kJ a)⟩,⟨iv0,kJ a,kK a⟩⟩ else
 bif decide (axis=1) then ⟨⟨kK a,iv0,kJ a⟩,⟨iv0,iv1,iv0⟩,⟨Iv.neg (kJ a),iv0,kK a⟩⟩ else
 bif decide (axis=2) then ⟨⟨kK a,Iv.neg (kJ a),iv0⟩,⟨kJ a,kK a,iv0⟩,⟨iv0,iv0,iv1⟩⟩ else M3.zero
theorem of_one:Iv.of 65536=iv1:=by kernel_rfl
theorem of_zero:Iv.of 0=iv0:=by kernel_rfl
theorem add_zero_mul (a b:Iv):Iv.add ⟨0,0⟩ (Iv.mul a b)=Iv.mul a b:=by
 have h:=mul_Ok a b;have hz:Iv.valid ⟨0,0⟩=true:=by decide
 simp only [Iv.add,hz,valid_of h,vZJ,vYV,Int.zero_add];unfold Ok at h;rw [clampI_id (by omega),clampI_id (by omega)]
theorem lim_ref (x:Int):max (-65536) (min x 65536)=limI x:=by unfold limI; omega
end Go.Sx
namespace Go.Sx
def V3.zero:V3:=⟨iv0,iv0,iv0⟩
def Po.shift (v:V3):Po:=⟨M3.unit,v⟩
def Po.rest:Po:=⟨M3.unit,V3.zero⟩
def Po.turn (axis:Int) (a:Iv):Po:=⟨M3.turn axis a,V3.zero⟩
def Po.app (p:Po) (v:V3):V3:=V3.add p.t (M3.apply p.r v)
def Po.mul (p q:Po):Po:=⟨M3.mul p.r q.r,Po.app p q.t⟩
def Po.inv (p:Po):Po:=⟨M3.tr p.r,V3.neg (M3.apply (M3.tr p.r) p.t)⟩
def Po.within (p q:Po):Bool:=M3.within p.r q.r && V3.within p.t q.t
end Go.Sx
namespace Go.Sx
structure J where
 name:ByteArray
 kind:Int
 parent:Int
 off:Z3
 lo:Int
 hi:Int
 weight:Int
 speed:Int
 accel:Int
 torque:Int
def jc (j:J):List Value:=[.string j.name,.int .i64 j.kind,.int .i64 j.parent,.int .i64 j.off.x,.int .i64 j.off.y,.int .i64 j.off.z,.int .i64 j.lo,.int .i64 j.hi,.int .i64 j.weight,.int .i64 j.speed,.int .i64 j.accel,.int .i64 j.torque]
def z3c (v:Z3):List Value:=[.int .i64 v.x,.int .i64 v.y,.int .i64 v.z]
theorem yUZ (l:List Z3):∀ r ∈ l.map z3c,r.length=3:=fun r hr=>by
 obtain ⟨v,_,rfl⟩:=List.mem_map.1 hr;rfl
structure Ms where
 link:Int
 mass:Int
 p:Z3
def mc (m:Ms):List Value:=[.int .i64 m.link,.int .i64 m.mass,.int .i64 m.p.x,.int .i64 m.p.y,.int .i64 m.p.z]
structure Sp where
 link:Int
 radius:Int
 pts:List Z3
end Go.Sx
namespace Go.Sx
open Go.RowKit
structure Cn where
 kind:Int
 link:Int
 p:Z3
 n:Z3
 lo:Int
 hi:Int
section
variable {nf:Int→Int→Int→Z3} {L:List Int} {m:Int} {k q:Nat} {l:List Cn} {a0 a1 a2 a3 a4 a5 a6 a7 a8 a9 b0 b1:Int} {z:Z3}
end
end Go.Sx
namespace Go.Sx
def ivc (v:Iv):List Value:=[.int .i64 v.lo,.int .i64 v.hi]
def ivC (rows:List Iv):List Value:=(rows.map ivc).flatten
theorem zJE (l:List Iv):∀ r ∈ l.map ivc,r.length=2:=fun r hr=>by
 obtain ⟨v,_,rfl⟩:=List.mem_map.1 hr;rfl
end Go.Sx
namespace Go.Sx
section
variable {P:Program} {w0:Base} {S:yK} {H:Heap} {d:Option Tmp} {ty:TypeId} {pos:String} {af:Array Edge} {g:Option (Nat × Bool)}
end
def V3.put (k:Int) (a:Iv):V3:=if k=0 then ⟨a,iv0,iv0⟩ else if k=1 then ⟨iv0,a,iv0⟩ else ⟨iv0,iv0,a⟩
def jMot (k:Int) (a:Iv):Po:=if k=1 ∨ k=2 ∨ k=3 then Po.turn (k - 1) a else if k=4 ∨ k=5 ∨ k=6 then Po.shift (V3.put (k - 4) a) else Po.rest
def yUX (k:Int) (o:Z3) (a:Iv):Po:=Po.mul (Po.shift (V3.of o)) (jMot k a)
end Go.Sx
namespace Go.Sx
def pc (p:Po):List Value:=[.int .i64 p.r.x.x.lo,.int .i64 p.r.x.x.hi,.int .i64 p.r.x.y.lo,.int .i64 p.r.x.y.hi,.int .i64 p.r.x.z.lo,.int .i64 p.r.x.z.hi,.int .i64 p.r.y.x.lo,.int .i64 p.r.y.x.hi,.int .i64 p.r.y.y.lo,.int .i64 p.r.y.y.hi,.int .i64 p.r.y.z.lo,.int .i64 p.r.y.z.hi,.int .i64 p.r.z.x.lo,.int .i64 p.r.z.x.hi,.int .i64 p.r.z.y.lo,.int .i64 p.r.z.y.hi,.int .i64 p.r.z.z.lo,.int .i64 p.r.z.z.hi,.int .i64 p.t.x.lo,.int .i64 p.t.x.hi,.int .i64 p.t.y.lo,.int .i64 p.t.y.hi,.int .i64 p.t.z.lo,.int .i64 p.t.z.hi]
def zRow:List Value:=List.replicate 24 (.int .i64 0)
def lkP (ps:List Po) (j:J) (a:Iv):Po:=if j.parent = -1 then yUX j.kind j.off a else Po.mul (ps.getD j.parent.toNat Po.rest) (yUX j.kind j.off a)
def lks (js:List J) (bx:List Iv):Nat→List Po
 | 0=>[]
 | k + 1=>match js[k]?,bx[k]? with
  | some j,some a=>lks js bx k ++ [lkP (lks js bx k) j a]
  | _,_=>lks js bx k
theorem zKV {js:List J} {bx:List Iv} {k:Nat} {j:J} {a:Iv} (h1:js[k]? = some j) (h2:bx[k]? = some a):lks js bx (k + 1)=lks js bx k ++ [lkP (lks js bx k) j a]:=by
 simp only [lks,h1,h2]
def lkR (ps:List Po) (m:Nat):List (List Value):=ps.map pc ++ List.replicate m zRow
theorem lkR_set {ps:List Po} {m:Nat} (v:List Value):(lkR ps (m + 1)).set ps.length v=ps.map pc ++ v :: List.replicate m zRow:=by
 unfold lkR;rw [List.set_append_right _ _ (by simp)];simp [List.replicate_succ]
theorem lkR_set2 {ps:List Po} {m:Nat} (u v:List Value):(ps.map pc ++ u :: List.replicate m zRow).set ps.length v=ps.map pc ++ v :: List.replicate m zRow:=by
 rw [List.set_append_right _ _ (by simp)]
 simp
theorem lkR_done {ps:List Po} {m:Nat} (p:Po):ps.map pc ++ pc p :: List.replicate m zRow=lkR (ps ++ [p]) m:=by
 unfold lkR
 simp
theorem lkR_at {ps:List Po} {m i:Nat} {u:List Value} (h:i < ps.length):(ps.map pc ++ u :: List.replicate m zRow)[i]? = some (pc (ps.getD i Po.rest)):=by
 rw [List.getElem?_append_left (by simpa using h),vZY];simp [vZG,h]
theorem yXI {ps:List Po} {m:Nat} {u:List Value}:(ps.map pc ++ u :: List.replicate m zRow)[ps.length]? = some u:=by
 rw [List.getElem?_append_right (by simp)]
 simp
end Go.Sx
namespace Go.Rx
open Go.RowKit Go.Sx
def PV.i64:PV→Option Int
 | .n .i64 x=>some x
 | _=>none
def ints (cs:List PV):Option (List Int):=mapO PV.i64 cs
theorem zYL:∀ {cs:List PV} {l:List Int},ints cs=some l→cs=l.map fun x=>.n .i64 x
 | [],l,h=>by cases h; rfl
 | c :: cs,l,h=>by
  simp only [ints,mapO,vQQ,vQZ] at h;obtain ⟨x,hx,ys,hys,rfl⟩:=h;rw [List.map_cons,← zYL (cs:=cs) hys];unfold PV.i64 at hx;split at hx
  ·cases hx; rfl
  ·cases hx
def ivs:List Iv→List PV
 | []=>[]
 | p :: l=>.n .i64 p.lo :: .n .i64 p.hi :: ivs l
def ivC (p:Iv):List PV:=[.n .i64 p.lo,.n .i64 p.hi]
def ivD (cs:List PV):Option Iv:=(ints cs).bind fun l=>bif Nat.beq l.length 2 then some ⟨(l.getD 0 0),(l.getD 1 0)⟩ else none
theorem uK {cs:List PV} {p:Iv} (h:ivD cs=some p):cs=ivC p:=by
 simp only [ivD,vQQ] at h;obtain ⟨l,hl,h⟩:=h;obtain ⟨hn,h⟩:=qQ h;have hn:=vQX hn;rw [zYL hl];cases h;obtain _ | ⟨x0,l0⟩:=l <;> simp only [vQW,vQV,vQU] at hn <;> first | (exact absurd hn (by omega)) | skip
 obtain _ | ⟨x1,l1⟩:=l0 <;> simp only [vQW,vQV,vQU] at hn <;> first | (exact absurd hn (by omega)) | skip
 obtain _ | ⟨y,l⟩:=l1 <;> simp only [vQW,vQV] at hn <;> first | (exact absurd hn (by omega)) | skip
 rfl
def z3C (p:Z3):List PV:=[.n .i64 p.x,.n .i64 p.y,.n .i64 p.z]
def z3D (cs:List PV):Option Z3:=(ints cs).bind fun l=>bif Nat.beq l.length 3 then some ⟨(l.getD 0 0),(l.getD 1 0),(l.getD 2 0)⟩ else none
theorem zKD {cs:List PV} {p:Z3} (h:z3D cs=some p):cs=z3C p:=by
 simp only [z3D,vQQ] at h;obtain ⟨l,hl,h⟩:=h;obtain ⟨hn,h⟩:=qQ h;have hn:=vQX hn;rw [zYL hl];cases h;obtain _ | ⟨x0,l0⟩:=l <;> simp only [vQW,vQV,vQU] at hn <;> first | (exact absurd hn (by omega)) | skip
 obtain _ | ⟨x1,l1⟩:=l0 <;> simp only [vQW,vQV,vQU] at hn <;> first | (exact absurd hn (by omega)) | skip
 obtain _ | ⟨x2,l2⟩:=l1 <;> simp only [vQW,vQV,vQU] at hn <;> first | (exact absurd hn (by omega)) | skip
 obtain _ | ⟨y,l⟩:=l2 <;> simp only [vQW,vQV] at hn <;> first | (exact absurd hn (by omega)) | skip
 rfl
def v3C (p:V3):List PV:=[.n .i64 p.x.lo,.n .i64 p.x.hi,.n .i64 p.y.lo,.n .i64 p.y.hi,.n .i64 p.z.lo,.n .i64 p.z.hi]
def v3D (cs:List PV):Option V3:=(ints cs).bind fun l=>bif Nat.beq l.length 6 then some ⟨⟨(l.getD 0 0),(l.getD 1 0)⟩,⟨(l.getD 2 0),(l.getD 3 0)⟩,⟨(l.getD 4 0),(l.getD 5 0)⟩⟩ else none
theorem qUI {cs:List PV} {p:V3} (h:v3D cs=some p):cs=v3C p:=by
 simp only [v3D,vQQ] at h;obtain ⟨l,hl,h⟩:=h;obtain ⟨hn,h⟩:=qQ h;have hn:=vQX hn;rw [zYL hl];cases h;obtain _ | ⟨x0,l0⟩:=l <;> simp only [vQW,vQV,vQU] at hn <;> first | (exact absurd hn (by omega)) | skip
 obtain _ | ⟨x1,l1⟩:=l0 <;> simp only [vQW,vQV,vQU] at hn <;> first | (exact absurd hn (by omega)) | skip
 obtain _ | ⟨x2,l2⟩:=l1 <;> simp only [vQW,vQV,vQU] at hn <;> first | (exact absurd hn (by omega)) | skip
 obtain _ | ⟨x3,l3⟩:=l2 <;> simp only [vQW,vQV,vQU] at hn <;> first | (exact absurd hn (by omega)) | skip
 obtain _ | ⟨x4,l4⟩:=l3 <;> simp only [vQW,vQV,vQU] at hn <;> first | (exact absurd hn (by omega)) | skip
 obtain _ | ⟨x5,l5⟩:=l4 <;> simp only [vQW,vQV,vQU] at hn <;> first | (exact absurd hn (by omega)) | skip
 obtain _ | ⟨y,l⟩:=l5 <;> simp only [vQW,vQV] at hn <;> first | (exact absurd hn (by omega)) | skip
 rfl
def m3C (p:M3):List PV:=[.n .i64 p.x.x.lo,.n .i64 p.x.x.hi,.n .i64 p.x.y.lo,.n .i64 p.x.y.hi,.n .i64 p.x.z.lo,.n .i64 p.x.z.hi,.n .i64 p.y.x.lo,.n .i64 p.y.x.hi,.n .i64 p.y.y.lo,.n .i64 p.y.y.hi,.n .i64 p.y.z.lo,.n .i64 p.y.z.hi,.n .i64 p.z.x.lo,.n .i64 p.z.x.hi,.n .i64 p.z.y.lo,.n .i64 p.z.y.hi,.n .i64 p.z.z.lo,.n .i64 p.z.z.hi]
def m3D (cs:List PV):Option M3:=(ints cs).bind fun l=>bif Nat.beq l.length 18 then some ⟨⟨⟨(l.getD 0 0),(l.getD 1 0)⟩,⟨(l.getD 2 0),(l.getD 3 0)⟩,⟨(l.getD 4 0),(l.getD 5 0)⟩⟩,⟨⟨(l.getD 6 0),(l.getD 7 0)⟩,⟨(l.getD 8 0),(l.getD 9 0)⟩,⟨(l.getD 10 0),(l.getD 11 0)⟩⟩,⟨⟨(l.getD 12 0),(l.getD 13 0)⟩,⟨(l.getD 14 0),(l.getD 15 0)⟩,⟨(l.getD 16 0),(l.getD 17 0)⟩⟩⟩ else none
theorem zJA {cs:List PV} {p:M3} (h:m3D cs=some p):cs=m3C p:=by
 simp only [m3D,vQQ] at h;obtain ⟨l,hl,h⟩:=h;obtain ⟨hn,h⟩:=qQ h;have hn:=vQX hn;rw [zYL hl];cases h;obtain _ | ⟨x0,l0⟩:=l <;> simp only [vQW,vQV,vQU] at hn <;> first | (exact absurd hn (by omega)) | skip
 obtain _ | ⟨x1,l1⟩:=l0 <;> simp only [vQW,vQV,vQU] at hn <;> first | (exact absurd hn (by omega)) | skip
 obtain _ | ⟨x2,l2⟩:=l1 <;> simp only [vQW,vQV,vQU] at hn <;> first | (exact absurd hn (by omega)) | skip
 obtain _ | ⟨x3,l3⟩:=l2 <;> simp only [vQW,vQV,vQU] at hn <;> first | (exact absurd hn (by omega)) | skip
 obtain _ | ⟨x4,l4⟩:=l3 <;> simp only [vQW,vQV,vQU] at hn <;> first | (exact absurd hn (by omega)) | skip
 obtain _ | ⟨x5,l5⟩:=l4 <;> simp only [vQW,vQV,vQU] at hn <;> first | (exact absurd hn (by omega)) | skip
 obtain _ | ⟨x6,l6⟩:=l5 <;> simp only [vQW,vQV,vQU] at hn <;> first | (exact absurd hn (by omega)) | skip
 obtain _ | ⟨x7,l7⟩:=l6 <;> simp only [vQW,vQV,vQU] at hn <;> first | (exact absurd hn (by omega)) | skip
 obtain _ | ⟨x8,l8⟩:=l7 <;> simp only [vQW,vQV,vQU] at hn <;> first | (exact absurd hn (by omega)) | skip
 obtain _ | ⟨x9,l9⟩:=l8 <;> simp only [vQW,vQV,vQU] at hn <;> first | (exact absurd hn (by omega)) | skip
 obtain _ | ⟨x10,l10⟩:=l9 <;> simp only [vQW,vQV,vQU] at hn <;> first | (exact absurd hn (by omega)) | skip
 obtain _ | ⟨x11,l11⟩:=l10 <;> simp only [vQW,vQV,vQU] at hn <;> first | (exact absurd hn (by omega)) | skip
 obtain _ | ⟨x12,l12⟩:=l11 <;> simp only [vQW,vQV,vQU] at hn <;> first | (exact absurd hn (by omega)) | skip
 obtain _ | ⟨x13,l13⟩:=l12 <;> simp only [vQW,vQV,vQU] at hn <;> first | (exact absurd hn (by omega)) | skip
 obtain _ | ⟨x14,l14⟩:=l13 <;> simp only [vQW,vQV,vQU] at hn <;> first | (exact absurd hn (by omega)) | skip
 obtain _ | ⟨x15,l15⟩:=l14 <;> simp only [vQW,vQV,vQU] at hn <;> first | (exact absurd hn (by omega)) | skip
 obtain _ | ⟨x16,l16⟩:=l15 <;> simp only [vQW,vQV,vQU] at hn <;> first | (exact absurd hn (by omega)) | skip
 obtain _ | ⟨x17,l17⟩:=l16 <;> simp only [vQW,vQV,vQU] at hn <;> first | (exact absurd hn (by omega)) | skip
 obtain _ | ⟨y,l⟩:=l17 <;> simp only [vQW,vQV] at hn <;> first | (exact absurd hn (by omega)) | skip
 rfl
def poC (p:Po):List PV:=[.n .i64 p.r.x.x.lo,.n .i64 p.r.x.x.hi,.n .i64 p.r.x.y.lo,.n .i64 p.r.x.y.hi,.n .i64 p.r.x.z.lo,.n .i64 p.r.x.z.hi,.n .i64 p.r.y.x.lo,.n .i64 p.r.y.x.hi,.n .i64 p.r.y.y.lo,.n .i64 p.r.y.y.hi,.n .i64 p.r.y.z.lo,.n .i64 p.r.y.z.hi,.n .i64 p.r.z.x.lo,.n .i64 p.r.z.x.hi,.n .i64 p.r.z.y.lo,.n .i64 p.r.z.y.hi,.n .i64 p.r.z.z.lo,.n .i64 p.r.z.z.hi,.n .i64 p.t.x.lo,.n .i64 p.t.x.hi,.n .i64 p.t.y.lo,.n .i64 p.t.y.hi,.n .i64 p.t.z.lo,.n .i64 p.t.z.hi]
def poD (cs:List PV):Option Po:=(ints cs).bind fun l=>bif Nat.beq l.length 24 then some ⟨⟨⟨⟨(l.getD 0 0),(l.getD 1 0)⟩,⟨(l.getD 2 0),(l.getD 3 0)⟩,⟨(l.getD 4 0),(l.getD 5 0)⟩⟩,⟨⟨(l.getD 6 0),(l.getD 7 0)⟩,⟨(l.getD 8 0),(l.getD 9 0)⟩,⟨(l.getD 10 0),(l.getD 11 0)⟩⟩,⟨⟨(l.getD 12 0),(l.getD 13 0)⟩,⟨(l.getD 14 0),(l.getD 15 0)⟩,⟨(l.getD 16 0),(l.getD 17 0)⟩⟩⟩,⟨⟨(l.getD 18 0),(l.getD 19 0)⟩,⟨(l.getD 20 0),(l.getD 21 0)⟩,⟨(l.getD 22 0),(l.getD 23 0)⟩⟩⟩ else none
theorem zWA {cs:List PV} {p:Po} (h:poD cs=some p):cs=poC p:=by
 simp only [poD,vQQ] at h;obtain ⟨l,hl,h⟩:=h;obtain ⟨hn,h⟩:=qQ h;have hn:=vQX hn;rw [zYL hl];cases h;obtain _ | ⟨x0,l0⟩:=l <;> simp only [vQW,vQV,vQU] at hn <;> first | (exact absurd hn (by omega)) | skip
 obtain _ | ⟨x1,l1⟩:=l0 <;> simp only [vQW,vQV,vQU] at hn <;> first | (exact absurd hn (by omega)) | skip
 obtain _ | ⟨x2,l2⟩:=l1 <;> simp only [vQW,vQV,vQU] at hn <;> first | (exact absurd hn (by omega)) | skip
 obtain _ | ⟨x3,l3⟩:=l2 <;> simp only [vQW,vQV,vQU] at hn <;> first | (exact absurd hn (by omega)) | skip
 obtain _ | ⟨x4,l4⟩:=l3 <;> simp only [vQW,vQV,vQU] at hn <;> first | (exact absurd hn (by omega)) | skip
 obtain _ | ⟨x5,l5⟩:=l4 <;> simp only [vQW,vQV,vQU] at hn <;> first | (exact absurd hn (by omega)) | skip
 obtain _ | ⟨x6,l6⟩:=l5 <;> simp only [vQW,vQV,vQU] at hn <;> first | (exact absurd hn (by omega)) | skip
 obtain _ | ⟨x7,l7⟩:=l6 <;> simp only [vQW,vQV,vQU] at hn <;> first | (exact absurd hn (by omega)) | skip
 obtain _ | ⟨x8,l8⟩:=l7 <;> simp only [vQW,vQV,vQU] at hn <;> first | (exact absurd hn (by omega)) | skip
 obtain _ | ⟨x9,l9⟩:=l8 <;> simp only [vQW,vQV,vQU] at hn <;> first | (exact absurd hn (by omega)) | skip
 obtain _ | ⟨x10,l10⟩:=l9 <;> simp only [vQW,vQV,vQU] at hn <;> first | (exact absurd hn (by omega)) | skip
 obtain _ | ⟨x11,l11⟩:=l10 <;> simp only [vQW,vQV,vQU] at hn <;> first | (exact absurd hn (by omega)) | skip
 obtain _ | ⟨x12,l12⟩:=l11 <;> simp only [vQW,vQV,vQU] at hn <;> first | (exact absurd hn (by omega)) | skip
 obtain _ | ⟨x13,l13⟩:=l12 <;> simp only [vQW,vQV,vQU] at hn <;> first | (exact absurd hn (by omega)) | skip
 obtain _ | ⟨x14,l14⟩:=l13 <;> simp only [vQW,vQV,vQU] at hn <;> first | (exact absurd hn (by omega)) | skip
 obtain _ | ⟨x15,l15⟩:=l14 <;> simp only [vQW,vQV,vQU] at hn <;> first | (exact absurd hn (by omega)) | skip
 obtain _ | ⟨x16,l16⟩:=l15 <;> simp only [vQW,vQV,vQU] at hn <;> first | (exact absurd hn (by omega)) | skip
 obtain _ | ⟨x17,l17⟩:=l16 <;> simp only [vQW,vQV,vQU] at hn <;> first | (exact absurd hn (by omega)) | skip
 obtain _ | ⟨x18,l18⟩:=l17 <;> simp only [vQW,vQV,vQU] at hn <;> first | (exact absurd hn (by omega)) | skip
 obtain _ | ⟨x19,l19⟩:=l18 <;> simp only [vQW,vQV,vQU] at hn <;> first | (exact absurd hn (by omega)) | skip
 obtain _ | ⟨x20,l20⟩:=l19 <;> simp only [vQW,vQV,vQU] at hn <;> first | (exact absurd hn (by omega)) | skip
 obtain _ | ⟨x21,l21⟩:=l20 <;> simp only [vQW,vQV,vQU] at hn <;> first | (exact absurd hn (by omega)) | skip
 obtain _ | ⟨x22,l22⟩:=l21 <;> simp only [vQW,vQV,vQU] at hn <;> first | (exact absurd hn (by omega)) | skip
 obtain _ | ⟨x23,l23⟩:=l22 <;> simp only [vQW,vQV,vQU] at hn <;> first | (exact absurd hn (by omega)) | skip
 obtain _ | ⟨y,l⟩:=l23 <;> simp only [vQW,vQV] at hn <;> first | (exact absurd hn (by omega)) | skip
 rfl
end Go.Rx

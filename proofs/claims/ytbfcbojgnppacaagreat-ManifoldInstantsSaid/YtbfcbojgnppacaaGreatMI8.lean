/- Part 8 of the texts behind the last one: rules and contracts. No condition. -/
import Derived.Test.YtbfcbojgnppacaaGreatMI7
open Option renaming bind_eq_some_iff → vQQ, bind_some → vYQ
open Option.some renaming injEq → vQZ
open Prod.mk renaming injEq → vQY
open Bool renaming and_eq_true → vQJ, and_self → vZJ, true_and → vZH
open List renaming getElem?_eq_getElem → vQK, length_cons → vQW, getElem?_map → vZY, getD_eq_getElem?_getD → vZG
open Nat renaming eq_of_beq_eq_true → vQX, le_of_ble_eq_true → vZX
open Classical renaming propDecidable → vYJ
open Go.IntKind renaming wrap → vJJ
namespace Go.Rx
open Go.RowKit Go.Sx
def zWE {β:Type} (good:Nat→Bool) (KX:β) (KR:Nat→β):Nat→Nat→β
 | 0,_=>KX
 | k + 1,p=>bif good p then zWE good KX KR k (p + 1) else KR p
def allN (good:Nat→Bool):Nat→Nat→Bool
 | 0,_=>true
 | k + 1,p=>good p && allN good k (p + 1)
theorem qUE {β:Type} (good:Nat→Bool) (x y:β):∀ k p,zWE good x (fun _=>y) k p=bif allN good k p then x else y
 | 0,_=>rfl
 | k + 1,p=>by
  simp only [zWE,allN,qUE good x y k (p + 1)];cases good p <;> rfl
theorem allN_iff {good:Nat→Bool}:∀ {k p:Nat},allN good k p=true ↔ ∀ j,p≤j→j < p + k→good j=true
 | 0,p=>⟨fun _ j h1 h2=>by omega,fun _=>rfl⟩
 | k + 1,p=>by
  simp only [allN,vQJ,allN_iff (k:=k)];exact ⟨fun h j h1 h2=>by
   rcases Nat.eq_or_lt_of_le h1 with e | e
   ·exact e ▸ h.1
   ·exact h.2 j e (by omega),fun h=>⟨h p (Nat.le_refl _) (by omega),fun j h1 h2=>h j (by omega) (by omega)⟩⟩
def firstK (good:Nat→Bool):Nat→Nat→Nat
 | 0,p=>p
 | k + 1,p=>bif good p then firstK good k (p + 1) else p
theorem qJW {β:Type} (good:Nat→Bool) (x:β) (y:Nat→β):∀ k p,zWE good x y k p=bif allN good k p then x else y (firstK good k p)
 | 0,_=>rfl
 | k + 1,p=>by
  simp only [zWE,allN,firstK,qJW good x y k (p + 1)];cases good p <;> rfl
def qHK (N:Nat) (C:Cx) (cK:qYW) (x:Code) (h:Hint) (K:Cont) (G:St→Option (Ret × Mem)) (σ:St):Option (Ret × Mem):=qUQ N C cK x (fun e τ=>match e with
 | .normal=>G (qYD h τ)
 | e=>K e (qYX h τ)) σ
theorem yQZ {N:Nat} {C:Cx} {cK:qYW} {x:Code} {h:Hint} {K:Cont} {n:Nat} {σ:St}:LF N C cK x h K (n + 1) σ=qHK N C cK x h K (fun σ=>LF N C cK x h K n σ) σ:=rfl
theorem zQZ {N:Nat} {C:Cx} {cK:qYW} {x:Code} {h:Hint} {K:Cont} (hd:Int→St) (good:Nat→Bool) {c:Nat} (KX:Option (Ret × Mem)) (KR:Nat→Option (Ret × Mem))
  (r1:∀ G (i:Nat),i < c→qHK N C cK x h K G (hd (i:Int))=bif good i then G (hd ((i + 1:Nat):Int)) else KR i)
  (r2:∀ G,qHK N C cK x h K G (hd (c:Int))=KX):∀ (k p q:Nat),p + k=c→k < q→LF N C cK x h K q (hd (p:Int))=zWE good KX KR k p
 | 0,p,q + 1,hp,_=>by
  rw [yQZ,show p=c by omega];exact r2 _
 | k + 1,p,q + 1,hp,hq=>by
  rw [yQZ,r1 _ p (by omega),zQZ hd good KX KR r1 r2 k (p + 1) q (by omega) (by omega)];rfl
theorem lp_app {N:Nat} {C:Cx} {cK:qYW} {x:Code} {h:Hint} {K:Cont} (hd:Int→List (List PV)→St) (g:Nat→List PV) {c:Nat} (KX:List (List PV)→Option (Ret × Mem))
  (r1:∀ G (i:Nat) rows,i < c→rows.length=i→qHK N C cK x h K G (hd (i:Int) rows)=G (hd ((i + 1:Nat):Int) (rows ++ [g i])))
  (r2:∀ G rows,rows.length=c→qHK N C cK x h K G (hd (c:Int) rows)=KX rows):∀ (k p q:Nat) (rows:List (List PV)),rows.length=p→p + k=c→k < q→LF N C cK x h K q (hd (p:Int) rows)=KX (rows ++ (List.range' p k).map g)
 | 0,p,q + 1,rows,hl,hp,_=>by
  rw [yQZ,show p=c by omega,r2 _ rows (by omega)]
  simp
 | k + 1,p,q + 1,rows,hl,hp,hq=>by
  rw [yQZ,r1 _ p rows (by omega) hl,lp_app hd g KX r1 r2 k (p + 1) q (rows ++ [g p]) (by rw [List.length_append,hl]; rfl) (by omega) (by omega)];rw [List.range'_succ,List.map_cons,List.append_assoc];rfl
theorem rng0 (n:Nat) (g:Nat→List PV):[] ++ (List.range' 0 n).map g=(List.range n).map g:=by rw [List.nil_append,List.range_eq_range']
theorem rows_fn {α:Type} (d:α) (f:α→List PV) (l:List α):l.map f=(List.range l.length).map fun i=>f (l.getD i d):=by
 refine List.ext_getElem? fun i => ?_
 rw [vZY,vZY];by_cases h:i < l.length
 ·rw [List.getElem?_range h,vQK h];simp [vZG,h]
 ·rw [List.getElem?_eq_none (by omega),List.getElem?_eq_none (by simp; omega)];rfl
theorem snd_args {P:Program} {f:Nat} {ps ps':List PV} {r:Ret} (hs:∀ F w vals,Al (RP F w) ps' vals→Al (RP F w) ps vals) (h:zH P f ps r):zH P f ps' r :=
 ⟨h.1,fun w F vals hF hal=>h.2 w F vals hF (hs F w vals hal)⟩
theorem qXV {P:Program} {f:Nat} {ps:List PV} {x y:PV} (hs:∀ F w v,RP F w x v→RP F w y v) (h:zH P f ps (.v x)):zH P f ps (.v y) :=
 ⟨h.1,fun w F vals hF hal=>(h.2 w F vals hF hal).mono fun _ w' ⟨v,F',he,hg,f1,f2,hr⟩=>⟨v,F',he,hg,f1,f2,hs F' w' v hr⟩⟩
theorem rp_lf_l {F:Nat→Prop} {w:World} {n:Nat} {f:Nat→List PV} {rows:List (List PV)} {v:Value} (e:rows=(List.range n).map f) (h:RP F w (.l rows) v):RP F w (.lf n f) v:=.lf n f v (e ▸ h)
theorem zUU {F:Nat→Prop} {w:World} {n:Nat} {f:Nat→List PV} {rows:List (List PV)} {v:Value} (e:rows=(List.range n).map f) (h:RP F w (.lf n f) v):RP F w (.l rows) v:=by
 cases h with
 | lf _ _ _ h=>exact e ▸ h
def Same (x y:PV):Prop:=∀ F w v,RP F w x v→RP F w y v
theorem Same.refl (x:PV):Same x x:=fun _ _ _ h=>h
theorem Same.lf {n:Nat} {f:Nat→List PV} {rows:List (List PV)} (e:rows=(List.range n).map f):Same (.l rows) (.lf n f):=fun _ _ _=>rp_lf_l e
theorem Same.l {n:Nat} {f:Nat→List PV} {rows:List (List PV)} (e:rows=(List.range n).map f):Same (.lf n f) (.l rows):=fun _ _ _=>zUU e
def Sames:List PV→List PV→Prop
 | [],[]=>True
 | x :: xs,y :: ys=>Same x y∧Sames xs ys
 | _,_=>False
theorem Sames.al {F:Nat→Prop} {w:World}:∀ {xs ys:List PV} {vs:List Value},Sames xs ys→Al (RP F w) xs vs→Al (RP F w) ys vs
 | [],[],_,_,h=>h
 | x :: xs,y :: ys,vs,hs,h=>by
  obtain ⟨v,vs,rfl,h1,h2⟩:=qVV h;exact qWH (hs.1 F w v h1) (Sames.al hs.2 h2)
 | [],_ :: _,_,h,_=>h.elim
 | _ :: _,[],_,h,_=>h.elim
theorem Same.a {xs ys:List PV} (h:Sames xs ys):Same (.a xs) (.a ys):=fun F w v hv=>by
 cases hv with
 | a _ vs hl h1 hh =>
  have:=Sames.al h (show Al (RP F w) xs vs from ⟨hl,hh⟩)
  exact .a ys vs this.1 h1 this.2
theorem Same.t {xs ys:List PV} (h:Sames xs ys):Same (.t xs) (.t ys):=fun F w v hv=>by
 cases hv with
 | t _ vs hl hh =>
  have:=Sames.al h (show Al (RP F w) xs vs from ⟨hl,hh⟩)
  exact .t ys vs this.1 this.2
theorem zVW {P:Program} {f e sz:Nat} {ps:List PV} {rows:List (List PV)} (h:zH P f ps (.ow e sz rows)):zH P f ps (.v (.l rows)):=by
 refine ⟨h.1,fun w F vals hF hal=>(h.2 w F vals hF hal).mono ?_⟩
 rintro en w' ⟨v,F',he,hg,f1,f2,hr⟩
 obtain ⟨F2,f3,f4,hx⟩:=hr.pv (x:=.l rows) rfl;refine ⟨v,F2,he,hg,fun k hk=>f3 k (f1 k hk),fun k hk => ?_,hx⟩;rcases f4 k hk with h | h
 ·exact f2 k h
 ·exact .inr h
end Go.Rx
namespace Go.Rx
open Go.RowKit Go.Sx Go.ChangeShapes Go.WideShapes
section
variable {P:Program} {W:World} {H:Type} {enc:TypeId × Value→H}
def Fits (row:List Sh) (ps:List PV):Prop:=ps.length=row.length∧∀ (i:Nat) sh p,row[i]? = some sh→ps[i]? = some p→Fit sh p
theorem Fits.cons {s0:Sh} {row:List Sh} {ps:List PV} (h:Fits (s0 :: row) ps):∃ p qs,ps=p :: qs∧Fit s0 p∧Fits row qs:=by
 cases ps with
 | nil=>have:=h.1; simp at this
 | cons p qs=>exact ⟨p,qs,rfl,h.2 0 s0 p rfl rfl,by have:=h.1; simpa using this,fun i sh q h1 h2=>h.2 (i + 1) sh q h1 h2⟩
theorem Fits.nil {ps:List PV} (h:Fits [] ps):ps=[]:=List.eq_nil_of_length_eq_zero h.1
theorem Fit.int {k:IntKind} {p:PV} (h:Fit (.i k) p):∃ x,p=.n k x∧(Lit.int k x).wf=true:=by cases h with | i k x h=>exact ⟨x,rfl,h⟩
theorem Fit.str {p:PV} (h:Fit .s p):∃ x,p=.s x:=by cases h with | s x h=>exact ⟨x,rfl⟩
theorem Fit.bool {p:PV} (h:Fit .b p):∃ x,p=.b x:=by cases h with | b x=>exact ⟨x,rfl⟩
theorem Fit.slc {row:List Sh} {p:PV} (h:Fit (.l row) p):∃ n f,p=.lf n f∧∀ j,j < n→Fits row (f j):=by
 cases h with
 | l row n f hn hl h=>exact ⟨n,f,rfl,fun j hj=>⟨hl j hj,h j hj⟩⟩
theorem zXG {n:Nat} {f g:Nat→List PV} (h:∀ j,j < n→f j=g j):Same (.lf n f) (.lf n g):=fun F w v hv =>
 rp_lf_l (List.map_congr_left fun j hj=>h j (List.mem_range.1 hj)) (zUU rfl hv)
end
end Go.Rx
namespace Go.Rx
open Go.RowKit Go.Sx
def qYJ (N:Nat) (C:Cx) (x:Code) (S:kU):Prop:=∀ (K K':Cont) (K0:Ret × Mem→Option (Ret × Mem)) (σ:St) (r:Ret × Mem),(∀ e τ,K e τ=some r→Gets K0 r (K' e τ))→S (qYD (C.T.hint C.me (yQ x)) σ) K=some r →
 Gets K0 r (zQY (fun again σ=>runC N C x (fun e σ=>match e with
   | .normal=>again σ
   | e=>K' e (qYX (C.T.hint C.me (yQ x)) σ)) (qYD (C.T.hint C.me (yQ x)) σ)) N σ)
theorem LoopOk.two {N:Nat} {C:Cx} {cK:qYW} {x:Code} {S:kU} (hc:SndK C cK) (h:LoopOk N C cK x S):qYJ N C x S:=fun K K' K0 σ r hK hs=>by
 have h':=h K _ r hs;rw [← zGE] at h';refine qUL (fun a a' ha τ hs => ?_) N σ h';refine qZY hc x (fun e υ hk => ?_) _ hs;cases e with
 | normal=>exact ha _ hk
 | _=>exact hK _ _ hk
section
variable {C:Cx} {cK:qYW} {r:Ret × Mem} {K0:Ret × Mem→Option (Ret × Mem)}
end
theorem yX {N:Nat} {C:Cx} {L:List Nat→Code}:∀ {l:List (List Nat × kU)},AllP (fun x:List Nat × kU=>qYJ N C (L x.1) x.2) l→∀ p S,zW l p=some S→qYJ N C (L p) S
 | [],_,p,S,h=>by cases h
 | x :: xs,hl,p,S,h=>by
  simp only [zW] at h;cases hb:zWL x.1 p with
  | true =>
   rw [hb] at h;simp only [vYV,vQZ] at h;subst h
   have:=zUH hb
   subst this;exact hl.1
  | false =>
   rw [hb] at h;exact yX hl.2 p S h
noncomputable def sumF {τ:Type} (hd:τ→St) (ex:St→τ) (R:τ→Cont→Option (Ret × Mem)):kU:=fun σ K=>bif gSt σ (hd (ex σ)) then R (ex σ) K else none
theorem qWU {N:Nat} {C:Cx} {L:List Nat→Code}:∀ p S,zW [] p=some S→qYJ N C (L p) S:=fun p S h=>by cases h
def runS {τ β:Type} (good:Nat→τ→Bool) (nx:Nat→τ→τ) (KX:τ→β) (KR:Nat→τ→β):Nat→Nat→τ→β
 | 0,_,s=>KX s
 | k + 1,p,s=>bif good p s then runS good nx KX KR k (p + 1) (nx p s) else KR p s
theorem zQQ {τ β:Type} {L:Nat→St→Option β} {stp:(St→Option β)→St→Option β} (hs:∀ n s,L (n + 1) s=stp (L n) s) (hd:Nat→τ→St) (Inv:Nat→τ→Prop) (good:Nat→τ→Bool) (nx:Nat→τ→τ) {c:Nat} (KX:τ→Option β) (KR:Nat→τ→Option β)
  (r1:∀ G i s,i < c→Inv i s→stp G (hd i s)=bif good i s then G (hd (i + 1) (nx i s)) else KR i s) (hi:∀ i s,i < c→Inv i s→good i s=true→Inv (i + 1) (nx i s))
  (r2:∀ G s,Inv c s→stp G (hd c s)=KX s):∀ k p q s,p + k=c→k < q→Inv p s→L q (hd p s)=runS good nx KX KR k p s
 | 0,p,q + 1,s,hp,_,hv=>by
  have e:p=c:=by omega
  subst e;rw [hs,r2 _ s hv]; rfl
 | k + 1,p,q + 1,s,hp,hq,hv=>by
  rw [hs,r1 _ p s (by omega) hv];simp only [runS];cases hg:good p s with
  | true=>exact zQQ hs hd Inv good nx KX KR r1 hi r2 k (p + 1) q (nx p s) (by omega) (by omega) (hi p s (by omega) hv hg)
  | false=>rfl
def zYE (g:Nat→List PV):Nat→Nat→(Nat→List PV)→Nat→List PV
 | 0,_,f=>f
 | k + 1,p,f=>zYE g k (p + 1) fun v=>jV (Nat.beq v p) (g p) (f v)
theorem zXI (g:Nat→List PV):∀ (k p:Nat) (f:Nat→List PV) (v:Nat),zYE g k p f v=if p≤v∧v < p + k then g v else f v
 | 0,p,f,v=>by rw [zYE,if_neg (by omega)]
 | k + 1,p,f,v=>by
  rw [zYE,zXI g k (p + 1),kV,qKF];by_cases h:v=p
  ·subst h;rw [if_neg (by omega),if_pos (by omega),vJQ rfl]; rfl
  ·rw [vYH h,vYG];by_cases h2:p + 1≤v∧v < p + 1 + k
   ·rw [if_pos h2,if_pos (by omega)]
   ·rw [if_neg h2,if_neg (by omega)]
theorem zUJ {β:Type} {g:Nat→List PV} {KX:(Nat→List PV)→β} {KR:Nat→(Nat→List PV)→β}:∀ k p f,runS (fun _ _=>true) (fun i f v=>jV (Nat.beq v i) (g i) (f v)) KX KR k p f=KX (zYE g k p f)
 | 0,_,_=>rfl
 | k + 1,p,f=>by
  simp only [runS,vYV];exact zUJ k (p + 1) _
end Go.Rx
namespace Go.Rx
open Go.RowKit Go.Sx
abbrev Ev:=Nat→Op→List RV→(Eff→Option (Ret × Mem))→Option (Ret × Mem)
def EvOk (C:Cx) (ev:Ev):Prop:=∀ dst op vs K r,ev dst op vs K=some r→∃ e,zU C.T C.cA C.cB C.me dst op vs=some e∧K e=some r
def goE (C:Cx) (ev:Ev) (o:Oper) (σ:St) (K:Eff × List RV→Option (Ret × Mem)):Option (Ret × Mem) :=
 bif dstB C.n o.dst then
  (mapO (opv (mode o.op) σ) o.op.operands.toList).bind fun vs=>ev (o.dst.getD 0) o.op vs fun e =>
   bif e.nw.all (fun id=>(zG σ.M id).isNone && Nat.blt id 2000000) then K (e,vs) else none
 else none
def yVA (C:Cx) (ev:Ev) (ops:Array Oper) (o:Oper) (σ:St) (K:Eff × List RV→Option (Ret × Mem)):Option (Ret × Mem) :=
 match o.guard with
 | none=>goE C ev o σ K
 | some (j,b)=>match (ops[j]?).bind (·.dst) with
  | some d=>match qQY σ.S d with
   | some (.v (.b c))=>(match b with
    | true=>bif c then goE C ev o σ K else yQK C o K
    | false=>bif c then yQK C o K else goE C ev o σ K)
   | some (.v (.t []))=>yQK C o K
   | _=>none
  | none=>none
def zVA (C:Cx) (ev:Ev) (ops:Array Oper):List Oper→(St→Option (Ret × Mem))→St→Option (Ret × Mem)
 | [],K,σ=>K σ
 | o :: l,K,σ=>yVA C ev ops o σ fun r=>zVA C ev ops l K (σ.apply r.1 o.dst)
def qHW (C:Cx) (ev:Ev) (ops:Array Oper):Nat→List Oper→List Done→(St→Option (Ret × Mem))→St→Option (Ret × Mem)
 | _,[],acc,K,σ=>bif zJK ops acc.reverse && Sx.backB ops then K σ else none
 | i,o :: l,acc,K,σ=>yVA C ev ops o σ fun r=>qHW C ev ops (i + 1) l ((i,r) :: acc) K (σ.apply r.1 o.dst)
def zZF (N:Nat) (C:Cx) (ev:Ev) (LO:List Nat→Option kU):Code→List Nat→Cont→St→Option (Ret × Mem)
 | .skip,_,K,σ=>K .normal σ
 | .label _,_,K,σ=>K .normal σ
 | .scope x,p,K,σ=>zZF N C ev LO x (0 :: p) K σ
 | .ret,_,K,σ=>K .ret σ
 | .exit id,_,K,σ=>K (.exit id) σ
 | .region id ops d,_,K,σ=>preK C id (fun σ=>bif d then qHW C ev ops 0 ops.toList [] (K .normal) σ else zVA C ev ops ops.toList (K .normal) σ) σ
 | .seq x y,p,K,σ=>zZF N C ev LO x (0 :: p) (fun e σ=>match e with
   | .normal=>zZF N C ev LO y (1 :: p) K σ
   | e=>K e σ) σ
 | .cond c x y,p,K,σ=>(opv 1 σ c).bind fun v=>match v with
   | .v (.b t)=>bif t then zZF N C ev LO x (0 :: p) K σ else zZF N C ev LO y (1 :: p) K σ
   | _=>none
 | .block id x,p,K,σ=>zZF N C ev LO x (0 :: p) (fun e σ=>match e with
   | .exit id'=>bif Nat.beq id' id then K .normal σ else K (.exit id') σ
   | e=>K e σ) σ
 | .loop x,p,K,σ=>match LO p with
   | some S=>S (qYD (C.T.hint C.me (yQ x)) σ) K
   | none=>zQY (fun again σ=>zZF N C ev LO x (0 :: p) (fun e σ=>match e with
     | .normal=>again σ
     | e=>K e (qYX (C.T.hint C.me (yQ x)) σ)) (qYD (C.T.hint C.me (yQ x)) σ)) N σ
 | _,_,_,_=>none
section
variable {C:Cx} {ev:Ev} {ops:Array Oper} {r:Ret × Mem} {K0:Ret × Mem→Option (Ret × Mem)}
theorem zHJ {o:Oper} {σ:St} {K:Eff × List RV→Option (Ret × Mem)} (hc:EvOk C ev) (hg:qQJ ops σ o=some true) (h:goE C ev o σ K=some r):∃ x,qJU C ops o σ=some x∧K x=some r:=by
 unfold goE at h;obtain ⟨hd,h⟩:=qQ h;rw [vQQ] at h;obtain ⟨vs,hvs,h⟩:=h;obtain ⟨e,he,h⟩:=hc _ _ _ _ _ h;obtain ⟨hn,h⟩:=qQ h;exact ⟨(e,vs),qHJ hd (.inr ⟨hg,hvs,he,fun i hi=>zKV (List.all_eq_true.1 hn i hi)⟩),h⟩
theorem stepE_some {o:Oper} {σ:St} {K:Eff × List RV→Option (Ret × Mem)} (hc:EvOk C ev) (h:yVA C ev ops o σ K=some r):∃ x,qJU C ops o σ=some x∧K x=some r:=by
 unfold yVA at h;cases hg:o.guard with
 | none=>rw [hg] at h; exact zHJ hc (by unfold qQJ; rw [hg]) h
 | some gb =>
  obtain ⟨j,b⟩:=gb;rw [hg] at h;simp only at h;split at h
  ·rename_i d hd;split at h
   ·rename_i c hlc;have gd:qQJ ops σ o=some (c == b):=by
     unfold qQJ;rw [hg];simp only [hd,hlc]
    cases b <;> cases c <;> simp only [vYV,vYG] at h
    ·exact zHJ hc gd h
    ·exact qKQ gd h
    ·exact qKQ gd h
    ·exact zHJ hc gd h
   ·rename_i hlc;exact qKQ (by unfold qQJ; rw [hg]; simp only [hd,hlc]) h
   ·cases h
  ·cases h
theorem runOpsE_some (hc:EvOk C ev) {K K':St→Option (Ret × Mem)} (hK:∀ σ,K σ=some r→Gets K0 r (K' σ)):∀ (l:List Oper) (σ:St),zVA C ev ops l K σ=some r→Gets K0 r (qVZ C ops l K' σ)
 | [],σ,h=>hK σ h
 | o :: l,σ,h=>by
  simp only [zVA] at h;obtain ⟨x,hx,h⟩:=stepE_some hc h;simp only [qVZ,hx,vYQ];exact runOpsE_some hc hK l _ h
theorem runDrawE_some (hc:EvOk C ev) {K K':St→Option (Ret × Mem)} (hK:∀ σ,K σ=some r→Gets K0 r (K' σ)):∀ (l:List Oper) (i:Nat) (acc:List Done) (σ:St),qHW C ev ops i l acc K σ=some r→Gets K0 r (qYZ C ops i l acc K' σ)
 | [],i,acc,σ,h=>by
  simp only [qHW] at h;obtain ⟨hp,h⟩:=qQ h;simp only [qYZ,hp,vYV];exact hK σ h
 | o :: l,i,acc,σ,h=>by
  simp only [qHW] at h;obtain ⟨x,hx,h⟩:=stepE_some hc h;simp only [qYZ,hx,vYQ];exact runDrawE_some hc hK l _ _ _ h
theorem qZJ {N:Nat} {LO:List Nat→Option kU} {B:Code} (hc:EvOk C ev) (hL:∀ p S,LO p=some S→qYJ N C (qYC 0 (qZA B p)) S):∀ (c:Code) (p:List Nat) {K K':Cont} (hp:qZA B p=c) (hK:∀ e σ,K e σ=some r→Gets K0 r (K' e σ)) (σ:St),zZF N C ev LO c p K σ=some r→Gets K0 r (runC N C c K' σ)
 | .skip,p,K,K',hp,hK,σ,h=>hK _ _ h
 | .label _,p,K,K',hp,hK,σ,h=>hK _ _ h
 | .scope x,p,K,K',hp,hK,σ,h=>qZJ hc hL x (0 :: p) (by simp only [qZA,hp,qYC]) hK σ h
 | .ret,p,K,K',hp,hK,σ,h=>hK _ _ h
 | .exit id,p,K,K',hp,hK,σ,h=>hK _ _ h
 | .region id ops d,p,K,K',hp,hK,σ,h=>by
  have h:=preK_eq.symm.trans h;refine Eq.mpr (congrArg (Gets K0 r) (preK_eq (F:=fun σ=>bif d then qYZ C ops 0 ops.toList [] (K' .normal) σ else qVZ C ops ops.toList (K' .normal) σ))) ?_;cases d with
  | true=>exact runDrawE_some hc (hK .normal) _ _ _ _ h
  | false=>exact runOpsE_some hc (hK .normal) _ _ h
 | .seq x y,p,K,K',hp,hK,σ,h=>by
  refine qZJ hc hL x (0 :: p) (by simp only [qZA,hp,qYC]) (fun e τ hk => ?_) σ h;cases e with
  | normal=>exact qZJ hc hL y (1 :: p) (by simp only [qZA,hp,qYC]) hK τ hk
  | _=>exact hK _ _ hk
 | .cond c x y,p,K,K',hp,hK,σ,h=>by
  simp only [zZF,vQQ] at h;obtain ⟨v,hv,h⟩:=h;simp only [runC,hv,vYQ];split at h
  ·rename_i t;cases t with
   | true=>exact qZJ hc hL x (0 :: p) (by simp only [qZA,hp,qYC]) hK σ h
   | false=>exact qZJ hc hL y (1 :: p) (by simp only [qZA,hp,qYC]) hK σ h
  ·cases h
 | .block id x,p,K,K',hp,hK,σ,h=>by
  refine qZJ hc hL x (0 :: p) (by simp only [qZA,hp,qYC]) (fun e τ hk => ?_) σ h;cases e with
  | exit id' =>
   simp only at hk ⊢;cases hb:Nat.beq id' id with
   | true=>rw [hb] at hk; exact hK _ _ hk
   | false=>rw [hb] at hk; exact hK _ _ hk
  | _=>exact hK _ _ hk
 | .loop x,p,K,K',hp,hK,σ,h=>by
  simp only [zZF] at h;simp only [runC];cases hS:LO p with
  | none =>
   rw [hS] at h;refine qUL (fun a a' ha τ hs => ?_) N σ h;refine qZJ hc hL x (0 :: p) (by simp only [qZA,hp,qYC]) (fun e υ hk => ?_) _ hs;cases e with
   | normal=>exact ha _ hk
   | _=>exact hK _ _ hk
  | some S =>
   rw [hS] at h
   have:=hL p S hS
   rw [hp] at this;exact this K K' K0 σ r hK h
 | .rangeFunc ..,p,K,K',hp,hK,σ,h=>by cases h
 | .goto _,p,K,K',hp,hK,σ,h=>by cases h
 | .refuse _,p,K,K',hp,hK,σ,h=>by cases h
end
def yHH (N:Nat) (C:Cx) (ev:Ev) (LO:List Nat→Option kU) (x:Code) (p:List Nat) (h:Hint) (K:Cont) (G:St→Option (Ret × Mem)) (σ:St):Option (Ret × Mem):=zZF N C ev LO x (0 :: p) (fun e τ=>match e with
 | .normal=>G (qYD h τ)
 | e=>K e (qYX h τ)) σ
def LFX (N:Nat) (C:Cx) (ev:Ev) (LO:List Nat→Option kU) (x:Code) (p:List Nat) (h:Hint) (K:Cont):Nat→St→Option (Ret × Mem)
 | 0,_=>none
 | n + 1,σ=>yHH N C ev LO x p h K (LFX N C ev LO x p h K n) σ
theorem LFX_get {N:Nat} {C:Cx} {ev:Ev} {LO:List Nat→Option kU} {B x:Code} {p:List Nat} {K K':Cont} {K0:Ret × Mem→Option (Ret × Mem)} {r:Ret × Mem} (hc:EvOk C ev) (hL:∀ p S,LO p=some S→qYJ N C (qYC 0 (qZA B p)) S) (hx:qZA B (0 :: p)=x)
  (hK:∀ e τ,K e τ=some r→Gets K0 r (K' e τ)):∀ (n:Nat) (σ:St),LFX N C ev LO x p (C.T.hint C.me (yQ x)) K n (qYD (C.T.hint C.me (yQ x)) σ)=some r→Gets K0 r (zQY (fun again σ=>runC N C x (fun e σ=>match e with
   | .normal=>again σ
   | e=>K' e (qYX (C.T.hint C.me (yQ x)) σ)) (qYD (C.T.hint C.me (yQ x)) σ)) n σ)
 | 0,σ,h=>by cases h
 | n + 1,σ,h=>by
  simp only [LFX,yHH] at h;simp only [zQY];refine qZJ hc hL x (0 :: p) hx (fun e τ hk => ?_) _ h;cases e with
  | normal=>exact LFX_get hc hL hx hK n τ hk
  | _=>exact hK _ _ hk
theorem loopX_of {N:Nat} {C:Cx} {ev:Ev} {LO:List Nat→Option kU} {B x:Code} {p:List Nat} {S:kU} (hc:EvOk C ev) (hL:∀ p S,LO p=some S→qYJ N C (qYC 0 (qZA B p)) S) (hx:qZA B (0 :: p)=x)
  (hS:∀ K σ r,S σ K=some r→LFX N C ev LO x p (C.T.hint C.me (yQ x)) K N σ=some r):qYJ N C x S:=fun K _ _ σ r hK h =>
 LFX_get hc hL hx hK N σ (hS K _ r h)
abbrev zJA:=Nat→List HV→List PV→(PV × List PV→Option (Ret × Mem))→Option (Ret × Mem)
def yQY (r:PV × List PV) (K:PV × List PV→Option (Ret × Mem)):Option (Ret × Mem):=match r with
 | (.b c,ps)=>bif c then K (.b true,ps) else K (.b false,ps)
 | r=>K r
theorem qHX (r:PV × List PV) (K:PV × List PV→Option (Ret × Mem)):yQY r K=K r:=by
 unfold yQY;split
 ·rename_i c ps; cases c <;> rfl
 ·rfl
def callEffBK (cBK:zJA) (f:Nat) (args:List RV) (K:Eff→Option (Ret × Mem)):Option (Ret × Mem) :=
 (zHW args).bind fun p=>(mapO CV.pv p.2).bind fun ps=>(mapO (RV.toB p.1) args).bind fun hs=>cBK f hs ps fun r=>yQY r fun r =>
  bif Nat.beq p.1 pid2 then none else K (Eff.and (.set p.1 (.blk (r.2.map PV.toH)) (.v r.1)) (catR RV.regs args))
def zZY (cBK:zJA) (f:Nat) (args:List RV) (K:Eff→Option (Ret × Mem)):Option (Ret × Mem) :=
 (zHW args).bind fun p=>match p.2 with
  | [.o m e sz rows]=>(mapO (RV.toB p.1) args).bind fun hs=>cBK f hs [.gs e sz rows.pv] fun r=>yQY r fun r=>match r.2 with
   | [.gs e2 sz2 y]=>y.rowsO.bind fun zJB=>bif Nat.beq sz2 sz && (catR RV.regs args).isEmpty && !(Nat.beq p.1 m) && r.1.flat then K ⟨[(m,some (.reg e2 sz2 zJB))],[],.v r.1,[]⟩ else none
   | _=>none
  | _=>none
def zZJ (cBK:zJA) (dst f:Nat) (args:List RV) (K:Eff→Option (Ret × Mem)):Option (Ret × Mem) :=
 (zHW args).bind fun p=>(mapO CV.pvq p.2).bind fun ps=>(mapO (RV.toB p.1) args).bind fun hs=>cBK f hs ps fun r=>yQY r fun r =>
  (gEnt (qWD r.2)).bind fun ent=>bif oneG ps && oneG r.2 && (catR RV.regs args).isEmpty && !(Nat.beq p.1 ((qWC p.2).getD (100000 + dst))) && r.1.flat && !(Nat.beq p.1 pid2) then
   K ⟨[(p.1,some (.blk (r.2.map (PV.toQ ((qWC p.2).getD (100000 + dst)))))),((qWC p.2).getD (100000 + dst),ent)],[((qWC p.2).getD (100000 + dst),none)],.v r.1,match qWC p.2 with | some _=>[] | none=>[100000 + dst]⟩ else none
def jQG (C:Cx) (cBK:zJA):Prop:=∀ f hs ps K r,cBK f hs ps K=some r→∃ x,C.cB f hs ps=some x∧K x=some r
def selC:List PV→Int→PV
 | [],_=>.ni
 | [x],_=>x
 | x :: y :: l,i=>zJX (decide (i=0)) x (selC (y :: l) (i - 1))
theorem selC_eq:∀ (l:List PV) (i:Int),0≤i→i.toNat < l.length→l[i.toNat]? = some (selC l i)
 | [],i,_,h=>by simp at h
 | [x],i,h0,h=>by
  have:i.toNat=0:=by simp at h; omega
  rw [this]; rfl
 | x :: y :: l,i,h0,h=>by
  rw [selC];by_cases e:i=0
  ·subst e; rw [vJQ rfl,zKU]; rfl
  ·rw [vYH e,zKX,show i.toNat=(i - 1).toNat + 1 by omega,List.getElem?_cons_succ];exact selC_eq (y :: l) (i - 1) (by omega) (by simp only [vQW] at h ⊢; omega)
def evS (C:Cx) (cK:qYW) (cBK:zJA):Ev:=fun dst op vs K=>match op,vs with
 | .call ⟨.value fx,axs,ats⟩,.v (.f f first cap) :: vs=>bif C.T.rw f then (bif C.T.gk f then zZY cBK f (first.map .v ++ vs ++ cap.map .v) K else bif C.T.gq f then zZJ cBK dst f (first.map .v ++ vs ++ cap.map .v) K else callEffBK cBK f (first.map .v ++ vs ++ cap.map .v) K) else yJX C cK dst (.call ⟨.value fx,axs,ats⟩) (.v (.f f first cap) :: vs) K
 | .call ⟨.value fx,axs,ats⟩,.g f first cap :: vs=>bif C.T.rw f && C.T.gk f then zZY cBK f (first.map .v ++ vs ++ cap.map fun c=>match c with | .v x=>.v x | .p id off cells=>.p id off cells) K else bif C.T.rw f && C.T.gq f then zZJ cBK dst f (first.map .v ++ vs ++ cap.map fun c=>match c with | .v x=>.v x | .p id off cells=>.p id off cells) K else yJX C cK dst (.call ⟨.value fx,axs,ats⟩) (.g f first cap :: vs) K
 | .index t a b,[.v (.a cs),.v (.n k i)]=>(C.T.ar t).bind fun q=>bif q.2.2 then yJX C cK dst (.index t a b) [.v (.a cs),.v (.n k i)] K else bif inB i q.1 && Nat.ble q.1 cs.length then K (.val (selC cs i).toH) else none
 | .slice t a lo hi none,.v (.s s) :: vs=>(zVY lo hi vs).bind fun b=>bif C.T.str t then (bif inS b.1 b.2 s.size then K (.val (.v (.s (s.extract (loOf b.1) (hiOf b.2 s.size))))) else none) else none
 | op,vs=>yJX C cK dst op vs K
theorem callEffWK_ok {C:Cx} {cBK:zJA} (hb:jQG C cBK) {f:Nat} {args:List RV} {K:Eff→Option (Ret × Mem)} {r:Ret × Mem} (h:zZY cBK f args K=some r):∃ e,qUV C.cB f args=some e∧K e=some r:=by
 unfold zZY at h;simp only [vQQ] at h;obtain ⟨p,hp,h⟩:=h;split at h
 ·rename_i m e sz rows hcs;simp only [vQQ] at h;obtain ⟨hs,hhs,h⟩:=h;obtain ⟨x,hx,h⟩:=hb _ _ _ _ _ h;rw [qHX] at h;split at h
  ·rename_i e2 sz2 y hps;simp only [vQQ] at h;obtain ⟨zJB,hr2,h⟩:=h;obtain ⟨h1,h⟩:=qQ h;refine ⟨_,?_,h⟩;unfold qUV;simp only [hp,hcs,hhs,hx,hps,hr2,vYQ,h1,vYV]
  ·cases h
 ·cases h
theorem evS_ok {C:Cx} {cK:qYW} {cBK:zJA} (hc:SndK C cK) (hb:jQG C cBK):EvOk C (evS C cK cBK):=fun dst op vs K r h=>by
 unfold evS at h;split at h
 ·rename_i fx axs ats f first cap vs
  cases hrw:C.T.rw f with
  | false =>
   rw [hrw,vYG] at h;exact qXY hc h
  | true =>
   rw [hrw,vYV] at h;cases hgk:C.T.gk f with
   | true =>
    rw [hgk,vYV] at h;obtain ⟨e,h1,h2⟩:=callEffWK_ok hb h;exact ⟨e,by simp only [zU,hrw,hgk,vYV]; exact h1,h2⟩
   | false =>
   rw [hgk,vYG] at h;cases hgq:C.T.gq f with
   | false =>
    rw [hgq,vYG] at h;simp only [callEffBK,vQQ] at h;obtain ⟨p,hp,ps,hps,hs,hhs,h⟩:=h;obtain ⟨x,hx,h⟩:=hb _ _ _ _ _ h;rw [qHX] at h;cases hp2:Nat.beq p.1 pid2 with
    | true=>rw [hp2] at h; cases h
    | false =>
    rw [hp2,vYG] at h;exact ⟨_,by simp only [zU,hrw,hgk,hgq,vYV,vYG,zKG,hp,hps,hhs,hx,hp2,vYQ],h⟩
   | true =>
    rw [hgq,vYV] at h;simp only [zZJ,vQQ] at h;obtain ⟨p,hp,ps,hps,hs,hhs,h⟩:=h;obtain ⟨x,hx,h⟩:=hb _ _ _ _ _ h;rw [qHX] at h;simp only [vQQ] at h;obtain ⟨ent,hent,h⟩:=h;obtain ⟨h1,h⟩:=qQ h;refine ⟨_,?_,h⟩;simp only [zU,hrw,hgk,hgq,vYV,vYG];unfold qWG;simp only [hp,hps,hhs,hx,hent,vYQ];rw [h1];rfl
 ·rename_i fx axs ats f first cap vs
  cases hrk:C.T.rw f && C.T.gk f with
  | true =>
   rw [hrk,vYV] at h;rw [vQJ] at hrk;obtain ⟨e,h1,h2⟩:=callEffWK_ok hb h;refine ⟨e,?_,h2⟩;show (bif C.T.rw f then (bif C.T.gk f then qUV C.cB f (first.map .v ++ vs ++ cap.map fun c=>match c with | .v x=>.v x | .p id off cells=>.p id off cells) else _) else _)=some _;rw [hrk.1,hrk.2,vYV,vYV];exact h1
  | false =>
  rw [hrk,vYG] at h;cases hrw:C.T.rw f && C.T.gq f with
  | false =>
   rw [hrw,vYG] at h;exact qXY hc h
  | true =>
   rw [hrw,vYV] at h;rw [vQJ] at hrw;rw [hrw.1,vZH] at hrk;simp only [zZJ,vQQ] at h;obtain ⟨p,hp,ps,hps,hs,hhs,h⟩:=h;obtain ⟨x,hx,h⟩:=hb _ _ _ _ _ h;rw [qHX] at h;simp only [vQQ] at h;obtain ⟨ent,hent,h⟩:=h;obtain ⟨h1,h⟩:=qQ h;refine ⟨_,?_,h⟩;show (bif C.T.rw f then (bif C.T.gk f then qUV C.cB f (first.map .v ++ vs ++ cap.map fun c=>match c with | .v x=>.v x | .p id off cells=>.p id off cells) else bif C.T.gq f then qWG C.cB dst f (first.map .v ++ vs ++ cap.map fun c=>match c with | .v x=>.v x | .p id off cells=>.p id off cells) else none) else zJY C.T C.cA C.me dst f (first.map .v ++ vs ++ cap.map fun c=>match c with | .v x=>.v x | .p id off cells=>.p id off cells))=some _;rw [hrw.1,hrk,hrw.2,vYV,vYG,vYV];unfold qWG;simp only [hp,hps,hhs,hx,hent,vYQ];rw [h1];rfl
 ·rename_i t a b cs k i;simp only [vQQ] at h;obtain ⟨q,hq,h⟩:=h;cases h2:q.2.2 with
  | true=>rw [h2,vYV] at h; exact qXY hc h
  | false =>
   rw [h2,vYG] at h;obtain ⟨hi,h⟩:=qQ h;rw [vQJ] at hi;obtain ⟨i0,i1⟩:=qUX hi.1;have hl:=vZX hi.2;exact ⟨_,by simp only [zU,hq,vYQ,hi.1,h2,vYV,vYG,selC_eq cs i i0 (by omega)],h⟩
 ·rename_i t a lo hi s vs;simp only [vQQ] at h;obtain ⟨b,hbd,h⟩:=h;obtain ⟨h1,h⟩:=qQ h;obtain ⟨h2,h⟩:=qQ h;exact ⟨_,by simp only [zU,hbd,vYQ,h1,h2,vZJ,vYV],h⟩
 ·exact qXY hc h
abbrev OrB:=Nat→Option (List HV→List PV→Option (Bool × (PV × List PV)))
structure OrS where
 a:OrK
 b:OrB
def OrS.orc (o:OrS):Orc:=⟨o.a.orc.a,fun g=>(o.b g).bind fun f=>some fun hs ps=>(f hs ps).bind fun x=>bif x.1 then some x.2 else none⟩
structure OrS.Ok (P:Program) (T:Tab) (o:OrS):Prop where
 a:o.a.Ok P
 b:∀ g f,o.b g=some f→∀ hs ps x ps',f hs ps=some (true,(x,ps'))→yHK P g hs ps x ps' (T.gq g) (T.gk g)
theorem OrS.Ok.orc {P:Program} {T:Tab} {o:OrS} (h:o.Ok P T):OrcOk P T o.orc:=by
 refine ⟨(h.a.orc (T:=T)).a,fun g f ho hs ps x ps' hr => ?_⟩;simp only [OrS.orc,vQQ,vQZ] at ho;obtain ⟨q,hq,rfl⟩:=ho;simp only [vQQ] at hr;obtain ⟨y,hy,hr⟩:=hr;obtain ⟨h1,hr⟩:=qQ hr;obtain ⟨y1,y2⟩:=y;cases hr;exact h.b g q hq hs ps x ps' (by rw [hy,← h1])
def cxS (T:Tab) (o:OrS) (N f n:Nat):Cx:=⟨T,qJB o.orc (runF T o.orc N),qYE T o.orc (runF T o.orc N),f,n⟩
def yUQ (T:Tab) (o:OrS):Nat→Nat→List HV→Mem→(Ret × Mem→Option (Ret × Mem))→Option (Ret × Mem)
 | 0,_,_,_,_=>none
 | N + 1,f,hs,M,K=>match T.fn f with
  | none=>none
  | some fi=>bif Nat.ble hs.length fi.ntmps then zZF N (cxS T o N f fi.ntmps) (evS (cxS T o N f fi.ntmps)
    (zJH o.a fun g ps K=>yUQ T o N g (ps.map .v) [] fun r=>K r.1)
    (fun g hs ps K=>match o.b g with
     | some q=>(q hs ps).bind fun x=>bif x.1 then K x.2 else none
     | none=>bif T.gk g then none else yUQ T o N g hs (memB (T.gq g) ps) fun r=>(qKX (T.gq g) r.2).bind fun ps'=>(yUJ r.1).bind fun x=>(yJK (T.gq g) x).bind fun x=>K (x,ps')))
    (fun _=>none) fi.body [] (fun e σ=>(endK T M fi.results e σ).bind K) ⟨initS 0 hs,M⟩ else none
def ckS (T:Tab) (o:OrS) (N:Nat):qYW:=zJH o.a fun g ps K=>yUQ T o N g (ps.map .v) [] fun r=>K r.1
def cbS (T:Tab) (o:OrS) (N:Nat):zJA:=fun g hs ps K=>match o.b g with
 | some q=>(q hs ps).bind fun x=>bif x.1 then K x.2 else none
 | none=>bif T.gk g then none else yUQ T o N g hs (memB (T.gq g) ps) fun r=>(qKX (T.gq g) r.2).bind fun ps'=>(yUJ r.1).bind fun x=>(yJK (T.gq g) x).bind fun x=>K (x,ps')
def evX (T:Tab) (o:OrS) (N f n:Nat):Ev:=evS (cxS T o N f n) (ckS T o N) (cbS T o N)
section
variable {T:Tab} {o:OrS}
def FSnd (T:Tab) (o:OrS) (N:Nat):Prop:=∀ (f:Nat) (hs:List HV) (M:Mem) (K:Ret × Mem→Option (Ret × Mem)) (r:Ret × Mem),yUQ T o N f hs M K=some r→∃ x,runF T o.orc N f hs M=some x∧K x=some r
theorem ckS_ok {N f n:Nat} (h:FSnd T o N):SndK (cxS T o N f n) (ckS T o N):=fun g qs K' r' hk=>by
 unfold ckS zJH at hk;show ∃ x,qJB o.orc (runF T o.orc N) g qs=some x∧K' x=some r';unfold qJB;cases ho:o.a g with
 | some q =>
  rw [ho] at hk;simp only [vQQ] at hk;obtain ⟨x,hx,hk⟩:=hk;obtain ⟨h1,hk⟩:=qQ hk;exact ⟨x.2,by simp only [OrS.orc,OrK.orc,ho,hx,vYQ,h1,vYV],hk⟩
 | none =>
  rw [ho] at hk;obtain ⟨x,hx,hk⟩:=h g _ _ _ r' hk;have e:o.orc.a g=none:=by simp only [OrS.orc,OrK.orc,ho,Option.bind_none]
  exact ⟨x.1,by simp only [e,hx,vYQ],hk⟩
theorem cbS_ok {N f n:Nat} (h:FSnd T o N):jQG (cxS T o N f n) (cbS T o N):=fun g hs ps K' r' hk=>by
 unfold cbS at hk;show ∃ x,qYE T o.orc (runF T o.orc N) g hs ps=some x∧K' x=some r';unfold qYE;cases ho:o.b g with
 | some q =>
  rw [ho] at hk;simp only [vQQ] at hk;obtain ⟨x,hx,hk⟩:=hk;obtain ⟨h1,hk⟩:=qQ hk;exact ⟨x.2,by simp only [OrS.orc,ho,hx,vYQ,h1,vYV],hk⟩
 | none =>
  rw [ho] at hk;cases hgk:T.gk g with
  | true=>rw [hgk] at hk; cases hk
  | false =>
  simp only [hgk,vYG] at hk;obtain ⟨x,hx,hk⟩:=h g _ _ _ r' hk;simp only [vQQ] at hk;obtain ⟨ps',h1,y,h2,z,h3,hk⟩:=hk;have e:o.orc.b g=none:=by simp only [OrS.orc,ho,Option.bind_none]
  exact ⟨(z,ps'),by simp only [e,hgk,vYG,hx,vYQ,h1,h2,h3],hk⟩
theorem yWA {N f n:Nat} (h:FSnd T o N):EvOk (cxS T o N f n) (evX T o N f n):=evS_ok (ckS_ok h) (cbS_ok h)
theorem zZD:∀ N,FSnd T o N
 | 0,f,hs,M,K,r,h=>by cases h
 | N + 1,f,hs,M,K,r,h=>by
  simp only [yUQ] at h;split at h
  ·cases h
  ·rename_i fi hfi;obtain ⟨hb,h⟩:=qQ h;have ih:FSnd T o N:=zZD N;obtain ⟨q,h1,h2⟩:=qZJ (K0:=K) (K':=endK T M fi.results) (B:=fi.body) (LO:=fun _=>none) (yWA (f:=f) (n:=fi.ntmps) ih) (fun p S hp=>by cases hp) fi.body [] rfl (fun e σ hk=>by
    simp only [vQQ] at hk;exact hk) _ h
   refine ⟨q,?_,h2⟩;simp only [runF,hfi,hb,vYV];exact h1
def yVB (T:Tab) (o:OrS) (LO:List Nat→Option kU) (N f:Nat) (hs:List HV) (M:Mem) (K:Ret × Mem→Option (Ret × Mem)):Option (Ret × Mem):=match T.fn f with
 | none=>none
 | some fi=>bif Nat.ble hs.length fi.ntmps then zZF N (cxS T o N f (ntmF T f)) (evX T o N f (ntmF T f)) LO (zJD T f) [] (fun e σ=>(endK T M fi.results e σ).bind K) ⟨initS 0 hs,M⟩ else none
theorem runXL_some {LO:List Nat→Option kU} {N f:Nat} {hs:List HV} {M:Mem} {K:Ret × Mem→Option (Ret × Mem)} {r:Ret × Mem} (hL:∀ p S,LO p=some S→qYJ N (cxS T o N f (ntmF T f)) (qG T f p) S) (h:yVB T o LO N f hs M K=some r):∃ x,runF T o.orc (N + 1) f hs M=some x∧K x=some r:=by
 unfold yVB at h;split at h
 ·cases h
 ·rename_i fi hfi;obtain ⟨hb,h⟩:=qQ h;obtain ⟨q,h1,h2⟩:=qZJ (K0:=K) (K':=endK T M fi.results) (B:=zJD T f) (yWA (zZD N)) hL (zJD T f) [] rfl (fun e σ hk=>by
   simp only [vQQ] at hk;exact hk) _ h
  have eb:zJD T f=fi.body:=by unfold zJD; rw [hfi]
  have en:ntmF T f=fi.ntmps:=by unfold ntmF; rw [hfi]
  rw [eb,en] at h1;refine ⟨q,?_,h2⟩;simp only [runF,hfi,hb,vYV];unfold cxS at h1;exact h1
def qJE (T:Tab) (o:OrS) (LO:List Nat→Option kU) (N f:Nat) (ps:List PV):Option (Ret × Mem):=yVB T o LO N f (ps.map .v) [] fun r=>some (r.1,[])
def zVB (T:Tab) (o:OrS) (LO:List Nat→Option kU) (N f:Nat) (hs:List HV) (ps:List PV):Option (Ret × Mem):=yVB T o LO N f hs (memB (T.gq f) ps) fun r=>(qKX (T.gq f) r.2).bind fun ps'=>(yUJ r.1).bind fun x=>(yJK (T.gq f) x).bind fun x=>some (.v (.t (x :: ps')),[])
theorem yV {P:Program} {LO:List Nat→Option kU} {N f:Nat} {ps:List PV} {r:Ret} (hT:TabOk P T) (hm:P.follows .mixedOrders=true) (hO:o.Ok P T) (hL:∀ p S,LO p=some S→qYJ N (cxS T o N f (ntmF T f)) (qG T f p) S) (h:qJE T o LO N f ps=some (r,[])):zH P f ps r:=by
 obtain ⟨x,h1,h2⟩:=runXL_some hL h;cases h2;refine qWL (N:=N + 1) hT hm hO.orc ?_;unfold run;rw [h1];rfl
theorem runBX_soundq {P:Program} {LO:List Nat→Option kU} {N f:Nat} {hs:List HV} {ps ps':List PV} {x:PV} (hT:TabOk P T) (hm:P.follows .mixedOrders=true) (hO:o.Ok P T) (hL:∀ p S,LO p=some S→qYJ N (cxS T o N f (ntmF T f)) (qG T f p) S) (h:zVB T o LO N f hs ps=some (.v (.t (x :: ps')),[])):yWL P f hs ps x ps' (T.gq f):=by
 obtain ⟨y,h1,h2⟩:=runXL_some hL h;simp only [vQQ,vQZ,vQY,Ret.v.injEq,PV.t.injEq,List.cons.injEq,and_true] at h2;obtain ⟨qs,h3,z,h4,z2,h5,rfl,rfl⟩:=h2;refine runB_sound (N:=N + 1) hT hm hO.orc ?_;unfold runB;rw [h1];simp only [vYQ,h3,h4,h5]
theorem qGG {P:Program} {LO:List Nat→Option kU} {N f:Nat} {hs:List HV} {ps ps':List PV} {x:PV} (hT:TabOk P T) (hm:P.follows .mixedOrders=true) (hO:o.Ok P T) (hL:∀ p S,LO p=some S→qYJ N (cxS T o N f (ntmF T f)) (qG T f p) S) (h:zVB T o LO N f hs ps=some (.v (.t (x :: ps')),[])) (hq:T.gq f=false:=by rfl):qHZ P f hs ps x ps':=by
 have:=runBX_soundq hT hm hO hL h
 rw [hq] at this;exact this
theorem runBX_soundQ {P:Program} {LO:List Nat→Option kU} {N f:Nat} {hs:List HV} {ps ps':List PV} {x:PV} (hT:TabOk P T) (hm:P.follows .mixedOrders=true) (hO:o.Ok P T) (hL:∀ p S,LO p=some S→qYJ N (cxS T o N f (ntmF T f)) (qG T f p) S) (h:zVB T o LO N f hs ps=some (.v (.t (x :: ps')),[])) (hq:T.gq f=true:=by rfl):qHQ P f hs ps x ps':=by
 have:=runBX_soundq hT hm hO hL h
 rw [hq] at this;exact this
end
theorem qXW {N:Nat} {T:Tab} {o:OrS} {f:Nat} {LO:List Nat→Option kU} {p:List Nat} {τ:Type} {hd:τ→St} {ex:St→τ} {R:τ→Cont→Option (Ret × Mem)}
  (hL:∀ p S,LO p=some S→qYJ N (cxS T o N f (ntmF T f)) (qG T f p) S)
  (h:∀ s K r,R s K=some r→LFX N (cxS T o N f (ntmF T f)) (evX T o N f (ntmF T f)) LO (qG T f p) p (T.hint f (yQ (qG T f p))) K N (hd s)=some r):qYJ N (cxS T o N f (ntmF T f)) (qG T f p) (sumF hd ex R) :=
 loopX_of (B:=zJD T f) (ev:=evX T o N f (ntmF T f)) (yWA (zZD N)) hL rfl fun K σ r hr=>by
  unfold sumF at hr;obtain ⟨hg,hq⟩:=qQ hr;have e:=gSt_eq hg
  have:=h (ex σ) K r hq
  rw [← e] at this;exact this
abbrev OrBL:=List (Nat × (List HV→List PV→Option (Bool × (PV × List PV))))
def yZX (P:Program) (f:Nat) (o:List HV→List PV→Option (Bool × (PV × List PV))):Prop:=∀ hs ps x ps',o hs ps=some (true,(x,ps'))→qHZ P f hs ps x ps'
def orS (l:OrL) (m:OrBL):OrS:=⟨OrL.k l,asc m⟩
def OneOkQ (P:Program) (f:Nat) (o:List HV→List PV→Option (Bool × (PV × List PV))):Prop:=∀ hs ps x ps',o hs ps=some (true,(x,ps'))→qHQ P f hs ps x ps'
def OneOkBq (P:Program) (f:Nat) (o:List HV→List PV→Option (Bool × (PV × List PV))):Bool→Prop
 | false=>yZX P f o
 | true=>OneOkQ P f o
theorem OneOkBq.at {P:Program} {f:Nat} {o:List HV→List PV→Option (Bool × (PV × List PV))} {q:Bool} (h:OneOkBq P f o q) {hs:List HV} {ps ps':List PV} {x:PV} (ho:o hs ps=some (true,(x,ps'))):yWL P f hs ps x ps' q:=by
 cases q with
 | false=>exact h hs ps x ps' ho
 | true=>exact h hs ps x ps' ho
def OneOkK (P:Program) (f:Nat) (o:List HV→List PV→Option (Bool × (PV × List PV))):Prop:=∀ hs ps x ps',o hs ps=some (true,(x,ps'))→SndK1 P f hs ps x ps'
def OneOkBk (P:Program) (f:Nat) (o:List HV→List PV→Option (Bool × (PV × List PV))) (q:Bool):Bool→Prop
 | false=>OneOkBq P f o q
 | true=>OneOkK P f o
theorem OneOkBk.at {P:Program} {f:Nat} {o:List HV→List PV→Option (Bool × (PV × List PV))} {q k:Bool} (h:OneOkBk P f o q k) {hs:List HV} {ps ps':List PV} {x:PV} (ho:o hs ps=some (true,(x,ps'))):yHK P f hs ps x ps' q k:=by
 cases k with
 | false=>exact OneOkBq.at h ho
 | true=>exact h hs ps x ps' ho
theorem qQE {P:Program} {T:Tab} {l:OrL} {m:OrBL} (h:AllP (fun x:Nat × (List PV→Option (Bool × Ret))=>zY P x.1 x.2) l) (hb:AllP (fun x:Nat × (List HV→List PV→Option (Bool × (PV × List PV)))=>OneOkBk P x.1 x.2 (T.gq x.1) (T.gk x.1)) m):(orS l m).Ok P T :=
 ⟨OrL.ok h,fun _ _ ho hs ps x ps' hr=>(hb.of (qZI ho)).at hr⟩
def LFT (T:Tab) (f:Nat) (o:OrS) (N:Nat) (l:List (List Nat × kU)) (p:List Nat) (K:Cont):Nat→St→Option (Ret × Mem):=LFX N (cxS T o N f (ntmF T f)) (evX T o N f (ntmF T f)) (zW l) (qG T f p) p (T.hint f (yQ (qG T f p))) K
def stpT (T:Tab) (f:Nat) (o:OrS) (N:Nat) (l:List (List Nat × kU)) (p:List Nat) (K:Cont) (G:St→Option (Ret × Mem)):St→Option (Ret × Mem):=yHH N (cxS T o N f (ntmF T f)) (evX T o N f (ntmF T f)) (zW l) (qG T f p) p (T.hint f (yQ (qG T f p))) K G
end Go.Rx
namespace Go.Rx
open Go.RowKit Go.Sx
noncomputable def gEq (a b:PV):Bool:=@decide (a=b) (vYJ _)
theorem zQW (a:PV):gEq a a=true:=@vJQ _ (vYJ _) rfl
theorem zQV {a b:PV} (h:gEq a b=true):a=b:=@vJZ _ (vYJ _) h
noncomputable def g1 (l:List PV):Bool:=gEq (.t l) (.t l)
theorem g1_t (l:List PV):g1 l=true:=zQW _
noncomputable def o_lk (as_:List PV) (g:Bool) (r:Ret):List PV→Option (Bool × Ret):=fun ps=>some (gEq (.t ps) (.t as_) && g,r)
theorem zJC {P:Program} {f:Nat} {as_:List PV} {g:Bool} {r:Ret} (h:g=true→zH P f as_ r):zY P f (o_lk as_ g r):=by
 intro ps q hh;unfold o_lk at hh;simp only [vQZ,vQY,vQJ] at hh;obtain ⟨⟨hg,hb⟩,rfl⟩:=hh
 have:=zQV hg
 simp only [PV.t.injEq] at this;rw [this];exact h hb
noncomputable def o_cr (as_:List PV) (r:Ret):List PV→Option (Bool × Ret):=fun ps=>some (gEq (.t ps) (.t as_),r)
theorem qQI {P:Program} {f:Nat} {as_:List PV} {r:Ret} (h:zH P f as_ r):zY P f (o_cr as_ r):=by
 intro ps q hh;unfold o_cr at hh;simp only [vQZ,vQY] at hh;obtain ⟨hg,rfl⟩:=hh
 have:=zQV hg
 simp only [PV.t.injEq] at this;rw [this];exact h
noncomputable def gP (p:Prop):Bool:=@decide p (vYJ _)
theorem zXD {p:Prop} (h:p):gP p=true:=@vJQ _ (vYJ _) h
theorem qQG {p:Prop} (h:gP p=true):p:=@vJZ _ (vYJ _) h
noncomputable def gFam {τ:Type} (C:τ→Prop) (enc:τ→List PV) (t:τ) (ps:List PV):Bool:=gP (C t∧ps=enc t)
noncomputable def gF1 {τ:Type} (C:τ→Prop) (enc:τ→List PV) (t:τ):Bool:=gFam C enc t (enc t)
theorem qXZ {τ:Type} {C:τ→Prop} {enc:τ→List PV} {t:τ} (h:C t):gF1 C enc t=true:=zXD ⟨h,rfl⟩
noncomputable def o_fm {τ:Type} (dec:List PV→τ) (C:τ→Prop) (enc:τ→List PV) (res:τ→Ret):List PV→Option (Bool × Ret):=fun ps=>some (gFam C enc (dec ps) ps,res (dec ps))
theorem zUL {P:Program} {f:Nat} {τ:Type} {dec:List PV→τ} {C:τ→Prop} {enc:τ→List PV} {res:τ→Ret} (h:∀ t,C t→zH P f (enc t) (res t)):zY P f (o_fm dec C enc res):=by
 intro ps r hh;unfold o_fm at hh;simp only [vQZ,vQY] at hh;obtain ⟨hg,rfl⟩:=hh;obtain ⟨hc,e⟩:=qQG hg
 have:=h _ hc
 rw [← e] at this;exact this
noncomputable def gFamB {τ:Type} (C:τ→Prop) (eh:τ→List HV) (ep:τ→List PV) (t:τ) (hs:List HV) (ps:List PV):Bool:=gP (C t∧hs=eh t∧ps=ep t)
noncomputable def gB1 {τ:Type} (C:τ→Prop) (eh:τ→List HV) (ep:τ→List PV) (t:τ):Bool:=gFamB C eh ep t (eh t) (ep t)
theorem qQH {τ:Type} {C:τ→Prop} {eh:τ→List HV} {ep:τ→List PV} {t:τ} (h:C t):gB1 C eh ep t=true:=zXD ⟨h,rfl,rfl⟩
noncomputable def o_fb {τ:Type} (dec:List HV→List PV→τ) (C:τ→Prop) (eh:τ→List HV) (ep:τ→List PV) (x:τ→PV) (qs:τ→List PV):List HV→List PV→Option (Bool × (PV × List PV)):=fun hs ps=>some (gFamB C eh ep (dec hs ps) hs ps,(x (dec hs ps),qs (dec hs ps)))
theorem yHL {P:Program} {f:Nat} {τ:Type} {dec:List HV→List PV→τ} {C:τ→Prop} {eh:τ→List HV} {ep:τ→List PV} {x:τ→PV} {qs:τ→List PV} (h:∀ t,C t→qHZ P f (eh t) (ep t) (x t) (qs t)):yZX P f (o_fb dec C eh ep x qs):=by
 intro hs ps y ps' hh;unfold o_fb at hh;simp only [vQZ,vQY] at hh;obtain ⟨hg,rfl,rfl⟩:=hh;obtain ⟨hc,e1,e2⟩:=qQG hg
 have:=h _ hc
 rw [← e1,← e2] at this;exact this
theorem ok_fq {P:Program} {f:Nat} {τ:Type} {dec:List HV→List PV→τ} {C:τ→Prop} {eh:τ→List HV} {ep:τ→List PV} {x:τ→PV} {qs:τ→List PV} (h:∀ t,C t→qHQ P f (eh t) (ep t) (x t) (qs t)):OneOkQ P f (o_fb dec C eh ep x qs):=by
 intro hs ps y ps' hh;unfold o_fb at hh;simp only [vQZ,vQY] at hh;obtain ⟨hg,rfl,rfl⟩:=hh;obtain ⟨hc,e1,e2⟩:=qQG hg
 have:=h _ hc
 rw [← e1,← e2] at this;exact this
def fQ (q:Nat→Int):Nat→List PV:=fun v=>[.n .i64 (q v)]
def unFQ (f:Nat→List PV):Nat→Int:=fun i=>match f i with
 | [.n _ x]=>x
 | _=>0
def iqOf (l:List Int):Nat→Int:=fun i=>l.getD i 0
theorem zQX (l:List Int):Same (zXB l) (.lf l.length (fQ (iqOf l))):=Same.lf (rows_fn 0 (fun x=>[PV.n .i64 x]) l)
theorem toN (p:Nat):(p:Int).toNat=p:=by omega
theorem qYK {p:Nat} (h:p < 1000000):vJJ .i64 ((p:Int) + 1)=((p + 1:Nat):Int):=by rw [qK (by omega)]; omega
theorem uJ {p n:Nat} (h:p < n):inB (p:Int) n=true:=by unfold inB; rw [vJQ (show (0:Int)≤p by omega),vJQ (show (p:Int).toNat < n by omega)]; rfl
def yJQ {τ:Type} (nx:Nat→τ→τ):Nat→Nat→τ→τ
 | 0,_,s=>s
 | m + 1,p,s=>yJQ nx m (p + 1) (nx p s)
theorem qUD {τ β:Type} {nx:Nat→τ→τ} {KX:τ→β} {KR:Nat→τ→β}:∀ m p s,runS (fun _ _=>true) nx KX KR m p s=KX (yJQ nx m p s)
 | 0,_,_=>rfl
 | m + 1,p,s=>by
  simp only [runS,vYV,yJQ];exact qUD m (p + 1) _
theorem zQU {τ:Type} {nx:Nat→τ→τ} {Q:Nat→τ→Prop} {c:Nat} (h:∀ i s,i < c→Q i s→Q (i + 1) (nx i s)):∀ r p s,p + r=c→Q p s→Q c (yJQ nx r p s)
 | 0,p,s,hp,hq=>by
  obtain rfl:p=c:=by omega
  exact hq
 | r + 1,p,s,hp,hq=>zQU h r (p + 1) (nx p s) (by omega) (h p s (by omega) hq)
def qVX (g:Nat→Int):Nat→Nat→(Nat→Int)→Nat→Int
 | 0,_,a=>a
 | k + 1,p,a=>qVX g k (p + 1) fun v=>bif Nat.beq v p then g p else a v
theorem fillI_get (g:Nat→Int):∀ (k p:Nat) (a:Nat→Int) (v:Nat),qVX g k p a v=if p≤v∧v < p + k then g v else a v
 | 0,p,a,v=>by rw [qVX,if_neg (by omega)]
 | k + 1,p,a,v=>by
  rw [qVX,fillI_get g k (p + 1),qKF];by_cases h:v=p
  ·subst h;rw [if_neg (by omega),if_pos (by omega),vJQ rfl]; rfl
  ·rw [vYH h,vYG];by_cases h2:p + 1≤v∧v < p + 1 + k
   ·rw [if_pos h2,if_pos (by omega)]
   ·rw [if_neg h2,if_neg (by omega)]
theorem fillI_all {g a:Nat→Int} {k j:Nat} (h:j < k):qVX g k 0 a j=g j:=by rw [fillI_get,if_pos (by omega)]
theorem snd_ownF {P:Program} {f e sz n:Nat} {g:Nat→List PV} {ps:List PV} (h:zH P f ps (.ow e sz (.fo n g))):zH P f ps (.v (.lf n g)):=by
 refine ⟨h.1,fun w F vals hF hal=>(h.2 w F vals hF hal).mono ?_⟩
 rintro en w' ⟨v,F',he,hg,f1,f2,hr⟩
 obtain ⟨F2,f3,f4,hx⟩:=hr.pv (x:=.lf n g) rfl;refine ⟨v,F2,he,hg,fun k hk=>f3 k (f1 k hk),fun k hk => ?_,hx⟩;rcases f4 k hk with h | h
 ·exact f2 k h
 ·exact .inr h
def slI (σ:St) (k:Nat):Int:=match qQY σ.S k with
 | some (.v (.n _ x))=>x
 | _=>0
def rgN (σ:St) (k:Nat):Nat:=match zG σ.M k with
 | some (.reg _ _ (.fo n _))=>n
 | _=>0
def rgF (σ:St) (k:Nat):Nat→List PV:=match zG σ.M k with
 | some (.reg _ _ (.fo _ f))=>f
 | _=>fun _=>[]
def bkC (σ:St) (k i:Nat):Int:=match zG σ.M k with
 | some (.blk cs)=>match cs[i]? with
  | some (.v (.n _ x))=>x
  | _=>0
 | _=>0
def mA (w m:Nat):Nat→Nat
 | 0=>m
 | i + 1=>min (mA w m i + 1) w
theorem kJ {w m:Nat} (h:m≤w):∀ i,mA w m i≤w
 | 0=>h
 | i + 1=>Nat.min_le_right _ _
def eW (e:Nat→Int) (w m:Nat):Int:=bif Nat.blt m w then e m else 0
def nxV (e:Nat→Int) (w m:Nat) (k:Int):Int:=eW e w m % k
theorem qJI {e:Nat→Int} {w m:Nat} {k:Int} (h:0 < k):0≤nxV e w m k∧nxV e w m k < k:=⟨Int.emod_nonneg _ (by omega),Int.emod_lt_of_pos _ h⟩
end Go.Rx
namespace Go.Sx
def dn (x:Int):Nat→Int
 | 0=>1073741824
 | 1=>x * 6746518852 / 65536
 | k + 2=>dn x (k + 1) * (x * 6746518852 / 65536) / 1073741824
def up (x:Int):Nat→Int
 | 0=>1073741824
 | 1=>zZ (x * 6746518853) 65536
 | k + 2=>zZ (up x (k + 1) * zZ (x * 6746518853) 65536) 1073741824
theorem step_dn {m t r:Int} (h:r=m * t / 1073741824) (hm:0≤m∧m≤1073741824) (ht:0≤t∧t≤1073741824):0≤r∧r≤1073741824:=by
 subst h;have h1:0≤m * t:=Int.mul_nonneg hm.1 ht.1;have h2:m * t≤1073741824 * 1073741824:=Int.mul_le_mul hm.2 ht.2 ht.1 (by decide);omega
theorem zZQ {a b:Int} (hb:0 < b):a≤zZ a b * b∧zZ a b * b < a + b:=by
 unfold zZ;have h1:=Int.ediv_mul_le (-a) (Int.ne_of_gt hb);have h2:=Int.lt_ediv_add_one_mul_self (-a) hb;rw [Int.add_mul] at h2;rw [Int.neg_mul];omega
theorem step_up {m t r:Int} (h:r=zZ (m * t) 1073741824) (hm:0≤m∧m≤1073741824) (ht:0≤t∧t≤1073741824):0≤r∧r≤1073741824:=by
 subst h;have h1:0≤m * t:=Int.mul_nonneg hm.1 ht.1;have h2:m * t≤1073741824 * 1073741824:=Int.mul_le_mul hm.2 ht.2 ht.1 (by decide);have h3:=zZQ (a:=m * t) (b:=1073741824) (by decide);omega
theorem yZB {x r:Int} (h:r=zZ (x * 6746518853) 65536) (_:0≤x∧x≤8192):0≤r∧r≤1073741824:=by
 have h3:=zZQ (a:=x * 6746518853) (b:=65536) (by decide);omega
theorem qYB {x:Int} (hx:0≤x∧x≤8192):∀ k,0≤dn x k∧dn x k≤1073741824
 | 0=>by simp [dn]
 | 1=>by simp only [dn]; omega
 | k + 2=>step_dn rfl (qYB hx (k + 1)) (by omega)
theorem qZK {x:Int} (hx:0≤x∧x≤8192):∀ k,0≤up x k∧up x k≤1073741824
 | 0=>by simp [up]
 | 1=>yZB rfl hx
 | k + 2=>step_up rfl (qZK hx (k + 1)) (yZB rfl hx)
def encI (low high:Int):Iv:=⟨max 0 (low / 16384),min 65536 (zZ high 16384)⟩
def sinL (x:Int):Int:=dn x 1 - zZ (up x 3) 6 + dn x 5 / 120 - zZ (up x 7) 5040
def sinU (x:Int):Int:=up x 1 - dn x 3 / 6 + zZ (up x 5) 120 - dn x 7 / 5040 + zZ (up x 9) 362880
def cosL (x:Int):Int:=1073741824 - zZ (up x 2) 2 + dn x 4 / 24 - zZ (up x 6) 720 + dn x 8 / 40320 - zZ (up x 10) 3628800
def cosU (x:Int):Int:=1073741824 - dn x 2 / 2 + zZ (up x 4) 24 - dn x 6 / 720 + zZ (up x 8) 40320
def zUZ (x:Int):Iv:=encI (sinL x) (sinU x)
def qKD (x:Int):Iv:=encI (cosL x) (cosU x)
def jG (r:Int):Iv:=bif decide (r≤8192) then zUZ r else qKD (16384 - r)
def sinM (m:Int):Iv:=bif decide (m / 16384=0) then jG (m % 16384) else bif decide (m / 16384=1) then jG (16384 - m % 16384)
 else bif decide (m / 16384=2) then Iv.neg (jG (m % 16384)) else Iv.neg (jG (16384 - m % 16384))
def sinI (a:Int):Iv:=sinM (a % 65536)
def cosI (a:Int):Iv:=sinI (a % 65536 + 16384)
def kQ (a:Iv) (c:Int):Bool:=decide (a.lo + (c - a.lo) % 65536≤a.hi)
def yQC (a:Iv) (low high:Iv) (top bottom:Int):Iv :=
 bif !a.valid then ⟨0,0⟩ else bif decide (65536≤a.hi - a.lo) then ⟨-65536,65536⟩ else
  let x:=Iv.hull low high
  let y:=bif kQ a top then Iv.hull x (Iv.of 65536) else x
  bif kQ a bottom then Iv.hull y (Iv.of (-65536)) else y
def yY (a:Iv):Iv:=yQC a (sinI a.lo) (sinI a.hi) 16384 49152
def yJ (a:Iv):Iv:=yQC a (cosI a.lo) (cosI a.hi) 0 32768
theorem ceiling_eq {a b:Int} (_:0≤a) (hb:0 < b):(a + b - 1) / b=zZ a b:=by
 refine (zZZ hb ?_ ?_).symm
 ·have:=Int.lt_ediv_add_one_mul_self (a + b - 1) hb
  rw [Int.add_mul] at this;omega
 ·have:=Int.ediv_mul_le (a + b - 1) (Int.ne_of_gt hb)
  omega
theorem ceil_nonneg {a b:Int} (ha:0≤a) (hb:0 < b):0≤zZ a b∧zZ a b≤a:=by
 have h:=zZQ (a:=a) hb;constructor
 ·rcases Int.lt_or_le (zZ a b) 0 with h1 | h1
  ·have:zZ a b * b ≤ -1 * b:=Int.mul_le_mul_of_nonneg_right (by omega) (Int.le_of_lt hb)
   omega
  ·exact h1
 ·rcases Int.lt_or_le a (zZ a b) with h1 | h1
  ·have:(a + 1) * b≤zZ a b * b:=Int.mul_le_mul_of_nonneg_right (by omega) (Int.le_of_lt hb)
   rw [Int.add_mul] at this;have h3:a * 1≤a * b:=Int.mul_le_mul_of_nonneg_left (by omega) ha;omega
  ·exact h1
theorem yK {r a b:Int} (h:r=zZ a b) (ha:0≤a∧a≤1073741824) (hb:0 < b):0≤r∧r≤1073741824:=by
 have:=ceil_nonneg ha.1 hb
 omega
theorem ceil_quo {a b:Int} (ha:0≤a∧a≤1073741824) (hb:0 < b∧b≤1073741824):vJJ .i64 ((a + b - 1).tdiv b)=zZ a b:=by
 rw [tdiv_nonneg (by omega) (by omega),ceiling_eq ha.1 hb.1];exact qK (by have:=ceil_nonneg ha.1 hb.1; omega)
theorem round_neg {n k:Int} (hk:0 < k) (h:n.tmod k < 0):n.tmod k + k=n % k:=by
 have e:=Int.tdiv_mul_add_tmod n k;have f:=zQH hk h;have g:=Int.mul_ediv_add_emod n k;rw [← f,Int.mul_comm,Int.sub_mul] at g;omega
theorem round_pos {n k:Int} (hk:0 < k) (h:¬ n.tmod k < 0):n.tmod k=n % k:=by
 have e:=Int.tdiv_mul_add_tmod n k;have f:=zXF hk h;have g:=Int.mul_ediv_add_emod n k;rw [← f,Int.mul_comm] at g;omega
end Go.Sx
namespace Go.Sx
def rng (p:Nat→Bool):Nat→Nat→Bool
 | 0,lo=>p lo
 | k + 1,lo=>rng p k lo && rng p k (lo + 2 ^ k)
theorem qJZ {p:Nat→Bool}:∀ (k lo:Nat),rng p k lo=true→∀ i,lo≤i→i < lo + 2 ^ k→p i=true
 | 0,lo,h,i,h1,h2=>by
  have:i=lo:=by simp at h2; omega
  subst this;exact h
 | k + 1,lo,h,i,h1,h2=>by
  simp only [rng,vQJ] at h;have h3:lo + 2 ^ (k + 1)=lo + 2 ^ k + 2 ^ k:=by rw [Nat.pow_succ]; omega
  rcases Nat.lt_or_ge i (lo + 2 ^ k) with h4 | h4
  ·exact qJZ k lo h.1 i h1 h4
  ·exact qJZ k (lo + 2 ^ k) h.2 i h4 (by omega)
def cN (a b:Nat):Nat:=(a + (b - 1)) / b
def d1N (x:Nat):Nat:=x * 6746518852 / 65536
def u1N (x:Nat):Nat:=(x * 6746518853 + 65535) / 65536
def dN (x:Nat):Nat→Nat
 | 0=>1073741824
 | 1=>d1N x
 | k + 2=>dN x (k + 1) * d1N x / 1073741824
def uN (x:Nat):Nat→Nat
 | 0=>1073741824
 | 1=>u1N x
 | k + 2=>(uN x (k + 1) * u1N x + 1073741823) / 1073741824
def sLo (x:Nat):Nat:=((dN x 1 + dN x 5 / 120) - (cN (uN x 3) 6 + cN (uN x 7) 5040)) / 16384
def sHi (x:Nat):Nat:=min 65536 ((((uN x 1 + cN (uN x 5) 120 + cN (uN x 9) 362880) - (dN x 3 / 6 + dN x 7 / 5040)) + 16383) / 16384)
def cLo (x:Nat):Nat:=((1073741824 + dN x 4 / 24 + dN x 8 / 40320) - (cN (uN x 2) 2 + cN (uN x 6) 720 + cN (uN x 10) 3628800)) / 16384
def cHi (x:Nat):Nat:=min 65536 ((((1073741824 + cN (uN x 4) 24 + cN (uN x 8) 40320) - (dN x 2 / 2 + dN x 6 / 720)) + 16383) / 16384)
def fLo (r:Nat):Nat:=if r≤8192 then sLo r else cLo (16384 - r)
def fHi (r:Nat):Nat:=if r≤8192 then sHi r else cHi (16384 - r)
theorem qZW {a b:Nat} (_:0 < b):zZ (a:Int) (b:Int)=((cN a b:Nat):Int):=by
 rw [← ceiling_eq (by omega) (by omega)];unfold cN;rw [show (a:Int) + b - 1=((a + (b - 1):Nat):Int) by omega,Int.natCast_ediv]
theorem yWB (x:Nat):∀ k,dn (x:Int) k=((dN x k:Nat):Int)
 | 0=>rfl
 | 1=>by simp [dn,dN,d1N]
 | k + 2=>by simp [dn,dN,d1N,yWB x (k + 1)]
theorem yUC (x:Nat):∀ k,up (x:Int) k=((uN x k:Nat):Int)
 | 0=>rfl
 | 1=>by
  have:=qZW (a:=x * 6746518853) (b:=65536) (by decide)
  simpa [up,uN,u1N,cN] using this
 | k + 2=>by
  have h1:=qZW (a:=x * 6746518853) (b:=65536) (by decide);have h2:=qZW (a:=uN x (k + 1) * u1N x) (b:=1073741824) (by decide);have h3:zZ ((x:Int) * 6746518853) 65536=((u1N x:Nat):Int):=by simpa [u1N,cN] using h1
  simp only [up,uN,yUC x (k + 1),h3]
  simpa [cN] using h2
theorem u1_ge_d1 (x:Nat):dN x 1≤uN x 1:=by simp only [dN,uN,d1N,u1N]; omega
theorem zXL {x:Nat} (_:x≤8192) (k:Nat):dN x (k + 2)≤dN x (k + 1):=by
 have h1:d1N x≤1073741824:=by unfold d1N; omega
 have h2:dN x (k + 1) * d1N x≤dN x (k + 1) * 1073741824:=Nat.mul_le_mul_left _ h1;simp only [dN];omega
theorem dN_one {x:Nat} (_:x≤8192):dN x 1≤1073741824:=by simp only [dN]; unfold d1N; omega
theorem sine_nat {x:Nat} (hx:x≤8192):zUZ (x:Int)=⟨sLo x,sHi x⟩:=by
 have c3:=qZW (a:=uN x 3) (b:=6) (by decide);have c7:=qZW (a:=uN x 7) (b:=5040) (by decide);have c5:=qZW (a:=uN x 5) (b:=120) (by decide);have c9:=qZW (a:=uN x 9) (b:=362880) (by decide);have hu:=u1_ge_d1 x;have h2:=zXL hx 0;have h3:=zXL hx 1;have h4:=zXL hx 2;have h5:=zXL hx 3;have h6:=zXL hx 4;have h7:=zXL hx 5;simp only [Nat.zero_add,Nat.reduceAdd] at h2 h3 h4 h5 h6 h7;simp only [zUZ,encI,sinL,sinU,yWB,yUC];simp only [sLo,sHi];generalize uN x 1=a1 at *;generalize dN x 1=e1 at *;generalize dN x 3=e3 at *;generalize dN x 5=e5 at *;generalize dN x 7=e7 at *;rw [show ((6:Nat):Int)=6 from rfl] at c3;rw [show ((5040:Nat):Int)=5040 from rfl] at c7;rw [show ((120:Nat):Int)=120 from rfl] at c5;rw [show ((362880:Nat):Int)=362880 from rfl] at c9;rw [c3,c7,c5,c9];generalize cN (uN x 3) 6=k3 at *;generalize cN (uN x 7) 5040=k7 at *;generalize cN (uN x 5) 120=k5 at *;generalize cN (uN x 9) 362880=k9 at *
 clear c3 c7 c5 c9
 have hU:((a1:Int) - (e3:Int) / 6 + (k5:Int) - (e7:Int) / 5040 + (k9:Int))=(((a1 + k5 + k9) - (e3 / 6 + e7 / 5040):Nat):Int):=by omega
 rw [hU];have hc:=qZW (a:=(a1 + k5 + k9) - (e3 / 6 + e7 / 5040)) (b:=16384) (by decide);rw [show ((16384:Nat):Int)=16384 from rfl] at hc;rw [hc];have e1':max 0 (((e1:Int) - (k3:Int) + (e5:Int) / 120 - (k7:Int)) / 16384)=((((e1 + e5 / 120) - (k3 + k7)) / 16384:Nat):Int):=by omega
 rw [e1']
 congr 1
 simp only [cN];omega
theorem cosine_nat {x:Nat} (hx:x≤8192):qKD (x:Int)=⟨cLo x,cHi x⟩:=by
 have c2:=qZW (a:=uN x 2) (b:=2) (by decide);have c6:=qZW (a:=uN x 6) (b:=720) (by decide);have c10:=qZW (a:=uN x 10) (b:=3628800) (by decide);have c4:=qZW (a:=uN x 4) (b:=24) (by decide);have c8:=qZW (a:=uN x 8) (b:=40320) (by decide);have h1:=dN_one hx;have h2:=zXL hx 0;have h3:=zXL hx 1;have h4:=zXL hx 2;have h5:=zXL hx 3;have h6:=zXL hx 4;simp only [Nat.zero_add,Nat.reduceAdd] at h2 h3 h4 h5 h6;simp only [qKD,encI,cosL,cosU,yWB,yUC];simp only [cLo,cHi];rw [show ((2:Nat):Int)=2 from rfl] at c2;rw [show ((720:Nat):Int)=720 from rfl] at c6;rw [show ((3628800:Nat):Int)=3628800 from rfl] at c10;rw [show ((24:Nat):Int)=24 from rfl] at c4;rw [show ((40320:Nat):Int)=40320 from rfl] at c8;rw [c2,c6,c10,c4,c8];generalize cN (uN x 2) 2=k2 at *;generalize cN (uN x 6) 720=k6 at *;generalize cN (uN x 10) 3628800=k10 at *;generalize cN (uN x 4) 24=k4 at *;generalize cN (uN x 8) 40320=k8 at *
 clear c2 c6 c10 c4 c8
 generalize dN x 1=e1 at *;generalize dN x 2=e2 at *;generalize dN x 3=e3 at *;generalize dN x 4=e4 at *;generalize dN x 5=e5 at *;generalize dN x 6=e6 at *;generalize dN x 8=e8 at *;have hU:((1073741824:Int) - (e2:Int) / 2 + (k4:Int) - (e6:Int) / 720 + (k8:Int))=(((1073741824 + k4 + k8) - (e2 / 2 + e6 / 720):Nat):Int):=by omega
 rw [hU];have hc:=qZW (a:=(1073741824 + k4 + k8) - (e2 / 2 + e6 / 720)) (b:=16384) (by decide);rw [show ((16384:Nat):Int)=16384 from rfl] at hc;rw [hc];have e1':max 0 (((1073741824:Int) - (k2:Int) + (e4:Int) / 24 - (k6:Int) + (e8:Int) / 40320 - (k10:Int)) / 16384)=((((1073741824 + e4 / 24 + e8 / 40320) - (k2 + k6 + k10)) / 16384:Nat):Int):=by omega
 rw [e1']
 congr 1
 simp only [cN];omega
theorem qWB {r:Nat} (h:r≤8192):fLo r=sLo r∧fHi r=sHi r:=⟨if_pos h,if_pos h⟩
theorem qGV {r:Nat} (h:8192 < r):fLo r=cLo (16384 - r)∧fHi r=cHi (16384 - r):=⟨if_neg (by omega),if_neg (by omega)⟩
theorem first_nat {r:Nat} (_:r≤16384):jG (r:Int)=⟨fLo r,fHi r⟩:=by
 unfold jG;by_cases h:r≤8192
 ·rw [vJQ (show (r:Int)≤8192 by omega),(qWB h).1,(qWB h).2];exact sine_nat h
 ·rw [vYH (show ¬ (r:Int)≤8192 by omega),(qGV (by omega)).1,(qGV (by omega)).2,show (16384:Int) - (r:Int)=((16384 - r:Nat):Int) by omega];exact cosine_nat (by omega)
def frc (n:Nat) (k:Nat→Bool):Bool:=Nat.rec (motive:=fun _=>Bool) (k 0) (fun m _=>k (Nat.succ m)) n
theorem yWV (n:Nat) (k:Nat→Bool):frc n k=k n:=by cases n <;> rfl
def zWU (x:Nat) (K:Nat→Nat→Nat→Nat→Bool):Bool :=
 frc x fun x=>frc (x * 6746518852 / 65536) fun d1=>frc ((x * 6746518853 + 65535) / 65536) fun u1 =>
 frc (d1 * d1 / 1073741824) fun d2=>frc ((u1 * u1 + 1073741823) / 1073741824) fun u2 =>
 frc (d2 * d1 / 1073741824) fun d3=>frc ((u2 * u1 + 1073741823) / 1073741824) fun u3 =>
 frc (d3 * d1 / 1073741824) fun d4=>frc ((u3 * u1 + 1073741823) / 1073741824) fun u4 =>
 frc (d4 * d1 / 1073741824) fun d5=>frc ((u4 * u1 + 1073741823) / 1073741824) fun u5 =>
 frc (d5 * d1 / 1073741824) fun d6=>frc ((u5 * u1 + 1073741823) / 1073741824) fun u6 =>
 frc (d6 * d1 / 1073741824) fun d7=>frc ((u6 * u1 + 1073741823) / 1073741824) fun u7 =>
 frc (d7 * d1 / 1073741824) fun d8=>frc ((u7 * u1 + 1073741823) / 1073741824) fun u8 =>
 frc ((u8 * u1 + 1073741823) / 1073741824) fun u9=>frc ((u9 * u1 + 1073741823) / 1073741824) fun u10 =>
 frc (((d1 + d5 / 120) - ((u3 + 5) / 6 + (u7 + 5039) / 5040)) / 16384) fun slo =>
 frc (min 65536 ((((u1 + (u5 + 119) / 120 + (u9 + 362879) / 362880) - (d3 / 6 + d7 / 5040)) + 16383) / 16384)) fun shi =>
 frc (((1073741824 + d4 / 24 + d8 / 40320) - ((u2 + 1) / 2 + (u6 + 719) / 720 + (u10 + 3628799) / 3628800)) / 16384) fun clo =>
 frc (min 65536 ((((1073741824 + (u4 + 23) / 24 + (u8 + 40319) / 40320) - (d2 / 2 + d6 / 720)) + 16383) / 16384)) fun chi=>K slo shi clo chi
theorem qJD (x:Nat) (K:Nat→Nat→Nat→Nat→Bool):zWU x K=K (sLo x) (sHi x) (cLo x) (cHi x):=by
 unfold zWU;simp only [yWV];rfl
def one (x a b c d:Nat):Bool :=
 Nat.ble a b && (Nat.ble b 65536 && (Nat.ble b (a + 2) && (Nat.ble c d && (Nat.ble d 65536 && (Nat.ble d (c + 2) &&
 (Nat.ble (4 * x) b && (Nat.ble (4 * x) (a + 2) && (Nat.ble a (x * 411775 / 65536 + 1) &&
 (Nat.ble (4 * (16384 - x)) d && (Nat.ble (4 * (16384 - x)) (c + 2) && (Nat.ble c ((16384 - x) * 411775 / 65536 + 1) &&
 (Nat.ble (a * a / 65536 + c * c / 65536) 65536 && Nat.ble 65536 ((b * b + 65535) / 65536 + (d * d + 65535) / 65536)))))))))))))
def two (a b c d a' b' c' d':Nat):Bool:=Nat.ble a a' && (Nat.ble b b' && (Nat.ble c' c && Nat.ble d' d))
def chk (x:Nat):Bool:=zWU x fun a b c d=>one x a b c d && zWU (x + 1) fun a' b' c' d'=>two a b c d a' b' c' d'
theorem tab0:rng chk 10 0=true:=by decide +kernel
theorem tab1:rng chk 10 1024=true:=by decide +kernel
theorem tab2:rng chk 10 2048=true:=by decide +kernel
theorem tab3:rng chk 10 3072=true:=by decide +kernel
theorem tab4:rng chk 10 4096=true:=by decide +kernel
theorem tab5:rng chk 10 5120=true:=by decide +kernel
theorem tab6:rng chk 10 6144=true:=by decide +kernel
theorem tab7:rng chk 10 7168=true:=by decide +kernel
theorem tab8:(zWU 8192 fun a b c d=>one 8192 a b c d)=true:=by decide +kernel
theorem tabM:(zWU 8192 fun a b _ _=>zWU 8191 fun _ _ c d=>Nat.ble a c && Nat.ble b d)=true:=by decide +kernel
theorem chk_all {x:Nat} (_:x < 8192):chk x=true:=by
 rcases Nat.lt_or_ge x 4096 with h | h
 ·rcases Nat.lt_or_ge x 2048 with h1 | h1
  ·rcases Nat.lt_or_ge x 1024 with h2 | h2
   ·exact qJZ 10 0 tab0 x (by omega) (by omega)
   ·exact qJZ 10 1024 tab1 x (by omega) (by omega)
  ·rcases Nat.lt_or_ge x 3072 with h2 | h2
   ·exact qJZ 10 2048 tab2 x (by omega) (by omega)
   ·exact qJZ 10 3072 tab3 x (by omega) (by omega)
 ·rcases Nat.lt_or_ge x 6144 with h1 | h1
  ·rcases Nat.lt_or_ge x 5120 with h2 | h2
   ·exact qJZ 10 4096 tab4 x (by omega) (by omega)
   ·exact qJZ 10 5120 tab5 x (by omega) (by omega)
  ·rcases Nat.lt_or_ge x 7168 with h2 | h2
   ·exact qJZ 10 6144 tab6 x (by omega) (by omega)
   ·exact qJZ 10 7168 tab7 x (by omega) (by omega)
theorem one_all {x:Nat} (_:x≤8192):one x (sLo x) (sHi x) (cLo x) (cHi x)=true:=by
 rcases Nat.lt_or_ge x 8192 with h | h
 ·have:=chk_all h
  unfold chk at this;rw [qJD,vQJ] at this;exact this.1
 ·have e:x=8192:=by omega
  subst e
  have:=tab8
  rwa [qJD] at this
theorem yZD {x:Nat} (hx:x < 8192):sLo x≤sLo (x + 1)∧sHi x≤sHi (x + 1)∧cLo (x + 1)≤cLo x∧cHi (x + 1)≤cHi x:=by
 have:=chk_all hx
 unfold chk at this;rw [qJD,vQJ,qJD] at this;have h:=this.2;simp only [two,vQJ] at h;exact ⟨vZX h.1,vZX h.2.1,vZX h.2.2.1,vZX h.2.2.2⟩
theorem mid_all:sLo 8192≤cLo 8191∧sHi 8192≤cHi 8191:=by
 have:=tabM
 rw [qJD,qJD,vQJ] at this;exact ⟨vZX this.1,vZX this.2⟩
structure Fst (r:Nat):Prop where
 ord:fLo r≤fHi r
 top:fHi r≤65536
 wid:fHi r≤fLo r + 2
 ch1:4 * r≤fHi r
 ch2:4 * r≤fLo r + 2
 ch3:fLo r≤r * 411775 / 65536 + 1
theorem one_spec {x a b c d:Nat} (h:one x a b c d=true):(a≤b∧b≤65536∧b≤a + 2)∧(c≤d∧d≤65536∧d≤c + 2)∧(4 * x≤b∧4 * x≤a + 2∧a≤x * 411775 / 65536 + 1) ∧
  (4 * (16384 - x)≤d∧4 * (16384 - x)≤c + 2∧c≤(16384 - x) * 411775 / 65536 + 1)∧a * a / 65536 + c * c / 65536≤65536∧65536≤(b * b + 65535) / 65536 + (d * d + 65535) / 65536:=by
 simp only [one,vQJ] at h;obtain ⟨h1,h2,h3,h4,h5,h6,h7,h8,h9,h10,h11,h12,h13,h14⟩:=h;exact ⟨⟨vZX h1,vZX h2,vZX h3⟩,⟨vZX h4,vZX h5,vZX h6⟩,
  ⟨vZX h7,vZX h8,vZX h9⟩,⟨vZX h10,vZX h11,vZX h12⟩,vZX h13,vZX h14⟩
theorem fst_all {r:Nat} (_:r≤16384):Fst r:=by
 rcases Nat.lt_or_ge 8192 r with h | h
 ·obtain ⟨e1,e2⟩:=qGV h;obtain ⟨_,h2,_,h4,_⟩:=one_spec (one_all (x:=16384 - r) (by omega));have e:16384 - (16384 - r)=r:=by omega
  rw [e] at h4;exact ⟨by rw [e1,e2]; exact h2.1,by rw [e2]; exact h2.2.1,by rw [e1,e2]; exact h2.2.2,by rw [e2]; exact h4.1,by rw [e1]; exact h4.2.1,by rw [e1]; exact h4.2.2⟩
 ·obtain ⟨e1,e2⟩:=qWB h;obtain ⟨h1,_,h3,_,_⟩:=one_spec (one_all (x:=r) (by omega));exact ⟨by rw [e1,e2]; exact h1.1,by rw [e2]; exact h1.2.1,by rw [e1,e2]; exact h1.2.2,by rw [e2]; exact h3.1,by rw [e1]; exact h3.2.1,by rw [e1]; exact h3.2.2⟩
theorem fst_mono {r:Nat} (_:r < 16384):fLo r≤fLo (r + 1)∧fHi r≤fHi (r + 1):=by
 rcases Nat.lt_or_ge r 8192 with h | h
 ·obtain ⟨e1,e2⟩:=qWB (r:=r) (by omega);obtain ⟨e3,e4⟩:=qWB (r:=r + 1) (by omega);rw [e1,e2,e3,e4];exact ⟨(yZD h).1,(yZD h).2.1⟩
 ·rcases Nat.lt_or_ge 8192 r with h' | h'
  ·obtain ⟨e1,e2⟩:=qGV (r:=r) (by omega);obtain ⟨e3,e4⟩:=qGV (r:=r + 1) (by omega);rw [e1,e2,e3,e4]
   have:=yZD (x:=16384 - (r + 1)) (by omega)
   rw [show 16384 - (r + 1) + 1=16384 - r by omega] at this;exact ⟨this.2.2.1,this.2.2.2⟩
  ·have e:r=8192:=by omega
   subst e;obtain ⟨e1,e2⟩:=qWB (r:=8192) (by omega);obtain ⟨e3,e4⟩:=qGV (r:=8193) (by omega);rw [e1,e2,e3,e4];exact mid_all
end Go.Sx
namespace Go.Sx
theorem sin_first {r:Int} (h:0≤r∧r≤16384):sinI r=jG r:=by
 unfold sinI sinM;rw [show r % 65536=r by omega];by_cases h1:r=16384
 ·subst h1;rfl
 ·rw [vJQ (show r / 16384=0 by omega),show r % 16384=r by omega];rfl
theorem zHU {r:Int} (h:0≤r∧r≤16384):jG r=⟨fLo r.toNat,fHi r.toNat⟩:=by
 have:=first_nat (r:=r.toNat) (by omega)
 rwa [show ((r.toNat:Nat):Int)=r by omega] at this
theorem qYL {r:Int} (h:0≤r∧r≤16384):0≤(jG r).lo∧(jG r).lo≤(jG r).hi∧(jG r).hi≤65536∧(jG r).hi≤(jG r).lo + 2∧4 * r≤(jG r).hi∧(4 * r - 2≤(jG r).lo∧(jG r).lo≤r * 411775 / 65536 + 1):=by
 have:=fst_all (r:=r.toNat) (by omega)
 rw [zHU h];obtain ⟨h1,h2,h3,h4,h5,h6⟩:=this;simp only;omega
theorem first_mono1 {r:Int} (h:0≤r∧r < 16384):(jG r).lo≤(jG (r + 1)).lo∧(jG r).hi≤(jG (r + 1)).hi:=by
 rw [zHU (by omega),zHU (by omega)]
 have:=fst_mono (r:=r.toNat) (by omega)
 rw [show (r + 1).toNat=r.toNat + 1 by omega];simp only;omega
end Go.Sx
namespace Go.Sx
theorem yJU:jG 0=⟨0,0⟩:=by kernel_rfl
theorem yXI {x y:Int} (h : -2147483648≤x∧x≤y∧y≤2147483648):Iv.neg ⟨x,y⟩=⟨-y,-x⟩:=by
 have:Iv.valid ⟨x,y⟩=true:=by simp [Iv.valid]; omega
 simp [Iv.neg,this]
theorem yQF {a:Iv} (h : -2147483648≤a.lo∧a.lo≤a.hi∧a.hi≤2147483648):Iv.neg a=⟨-a.hi,-a.lo⟩:=yXI (x:=a.lo) (y:=a.hi) h
theorem qQK {a:Iv} (h : -2147483648≤a.lo∧a.lo≤a.hi∧a.hi≤2147483648):a.valid=true:=by simp [Iv.valid]; omega
theorem qHF {r:Int} (h:0≤r∧r≤16384):Iv.neg (jG r)=⟨-(jG r).hi,-(jG r).lo⟩:=by
 have:=qYL h
 exact yQF (by omega)
theorem neg_neg {a:Iv} (h : -2147483648≤a.lo∧a.lo≤a.hi∧a.hi≤2147483648):Iv.neg (Iv.neg a)=a:=by
 rw [yQF h,yXI (by omega),Int.neg_neg,Int.neg_neg]
theorem zUY {n m:Int} (hm:n % 65536=m) (h:0≤m∧m≤16384):sinI n=jG m:=by
 rw [← sin_first h];unfold sinI;rw [hm,show m % 65536=m by omega]
theorem yUI {n m:Int} (hm:n % 65536=m) (h:16384≤m∧m≤32768):sinI n=jG (32768 - m):=by
 unfold sinI sinM;rw [hm,vYH (show ¬ m / 16384=0 by omega)];by_cases h1:m=32768
 ·subst h1;rw [show (32768:Int) - 32768=0 from rfl,yJU]
  kernel_rfl
 ·rw [vJQ (show m / 16384=1 by omega),show 16384 - m % 16384=32768 - m by omega];rfl
theorem yUF {n m:Int} (hm:n % 65536=m) (h:32768≤m∧m≤49152):sinI n=Iv.neg (jG (m - 32768)):=by
 unfold sinI sinM;rw [hm,vYH (show ¬ m / 16384=0 by omega),vYH (show ¬ m / 16384=1 by omega)];by_cases h1:m=49152
 ·subst h1;rfl
 ·rw [vJQ (show m / 16384=2 by omega),show m % 16384=m - 32768 by omega];rfl
theorem yQU {n m:Int} (hm:n % 65536=m) (h:49152≤m∧m < 65536):sinI n=Iv.neg (jG (65536 - m)):=by
 unfold sinI sinM;rw [hm,vYH (show ¬ m / 16384=0 by omega),vYH (show ¬ m / 16384=1 by omega),vYH (show ¬ m / 16384=2 by omega),show 16384 - m % 16384=65536 - m by omega];rfl
theorem sin_per {a b:Int} (h:a % 65536=b % 65536):sinI a=sinI b:=by unfold sinI; rw [h]
theorem cos_sin (a:Int):cosI a=sinI (a + 16384):=by unfold cosI; exact sin_per (by omega)
theorem quad (n:Int):(0≤n % 65536∧n % 65536≤16384) ∨ (16384≤n % 65536∧n % 65536≤32768) ∨ (32768≤n % 65536∧n % 65536≤49152) ∨ (49152≤n % 65536∧n % 65536 < 65536):=by omega
theorem qXG (n:Int) : -65536≤(sinI n).lo∧(sinI n).lo≤(sinI n).hi∧(sinI n).hi≤65536∧(sinI n).hi≤(sinI n).lo + 2:=by
 rcases quad n with h | h | h | h
 ·rw [zUY rfl h]; have:=qYL h; omega
 ·rw [yUI rfl h]; have:=qYL (r:=32768 - n % 65536) (by omega); omega
 ·rw [yUF rfl h,qHF (by omega)]; have:=qYL (r:=n % 65536 - 32768) (by omega); simp only; omega
 ·rw [yQU rfl h,qHF (by omega)]; have:=qYL (r:=65536 - n % 65536) (by omega); simp only; omega
theorem sin_half (a:Int):sinI (32768 - a)=sinI a:=by
 rcases quad a with h | h | h | h
 ·rw [zUY rfl h,yUI (m:=32768 - a % 65536) (by omega) (by omega)]
  congr 1; omega
 ·rw [yUI rfl h,zUY (m:=32768 - a % 65536) (by omega) (by omega)]
 ·rw [yUF rfl h];by_cases h0:a % 65536=32768
  ·rw [h0,zUY (m:=0) (by omega) (by omega),show (32768:Int) - 32768=0 from rfl,yJU,yXI (by omega)]; rfl
  ·rw [yQU (m:=98304 - a % 65536) (by omega) (by omega)]
   congr 2; omega
 ·rw [yQU rfl h,yUF (m:=98304 - a % 65536) (by omega) (by omega)]
  congr 2; omega
theorem step_up_sin {n:Int} (h:n % 65536 < 16384 ∨ 49152≤n % 65536):(sinI n).lo≤(sinI (n + 1)).lo∧(sinI n).hi≤(sinI (n + 1)).hi:=by
 rcases h with h | h
 ·rw [zUY (n:=n) rfl (by omega),zUY (n:=n + 1) (m:=n % 65536 + 1) (by omega) (by omega)];exact first_mono1 (by omega)
 ·rw [yQU (n:=n) rfl (by omega),qHF (by omega)];by_cases h0:n % 65536=65535
  ·rw [zUY (n:=n + 1) (m:=0) (by omega) (by omega),yJU]
   have:=qYL (r:=65536 - n % 65536) (by omega)
   simp only; omega
  ·rw [yQU (n:=n + 1) (m:=n % 65536 + 1) (by omega) (by omega),qHF (by omega)]
   have:=first_mono1 (r:=65536 - (n % 65536 + 1)) (by omega)
   rw [show 65536 - (n % 65536 + 1) + 1=65536 - n % 65536 by omega] at this;simp only; omega
theorem step_dn_sin {n:Int} (h:16384≤n % 65536∧n % 65536 < 49152):(sinI (n + 1)).lo≤(sinI n).lo∧(sinI (n + 1)).hi≤(sinI n).hi:=by
 have h1:=step_up_sin (n:=32768 - (n + 1)) (by omega);rw [sin_half,show 32768 - (n + 1) + 1=32768 - n by omega,sin_half] at h1;exact h1
theorem chain_up (k:Nat):∀ m:Int,(∀ j:Int,m≤j→j < m + k→(j % 65536 < 16384 ∨ 49152≤j % 65536))→(sinI m).lo≤(sinI (m + k)).lo∧(sinI m).hi≤(sinI (m + k)).hi:=by
 induction k with
 | zero=>intro m _; simp
 | succ k ih =>
  intro m h;have h1:=ih m (fun j a b=>h j a (by omega));have h2:=step_up_sin (n:=m + k) (h _ (by omega) (by omega));rw [show m + ((k + 1:Nat):Int)=m + k + 1 by omega];omega
theorem chain_dn (k:Nat):∀ m:Int,(∀ j:Int,m≤j→j < m + k→(16384≤j % 65536∧j % 65536 < 49152))→(sinI (m + k)).lo≤(sinI m).lo∧(sinI (m + k)).hi≤(sinI m).hi:=by
 induction k with
 | zero=>intro m _; simp
 | succ k ih =>
  intro m h;have h1:=ih m (fun j a b=>h j a (by omega));have h2:=step_dn_sin (n:=m + k) (h _ (by omega) (by omega));rw [show m + ((k + 1:Nat):Int)=m + k + 1 by omega];omega
theorem up_to {m n:Int} (h:m≤n) (hj:∀ j:Int,m≤j→j < n→(j % 65536 < 16384 ∨ 49152≤j % 65536)):(sinI m).lo≤(sinI n).lo∧(sinI m).hi≤(sinI n).hi:=by
 have:=chain_up (n - m).toNat m (fun j a b=>hj j a (by omega))
 rwa [show m + ((n - m).toNat:Int)=n by omega] at this
theorem dn_to {m n:Int} (h:m≤n) (hj:∀ j:Int,m≤j→j < n→(16384≤j % 65536∧j % 65536 < 49152)):(sinI n).lo≤(sinI m).lo∧(sinI n).hi≤(sinI m).hi:=by
 have:=chain_dn (n - m).toNat m (fun j a b=>hj j a (by omega))
 rwa [show m + ((n - m).toNat:Int)=n by omega] at this
theorem upper {lo hi n:Int} (h1:lo≤n) (h2:n≤hi):(sinI n).hi≤(sinI lo).hi ∨ (sinI n).hi≤(sinI hi).hi ∨ lo + (16384 - lo) % 65536≤hi:=by
 rcases Int.lt_or_le hi (lo + (16384 - lo) % 65536) with h | h
 ·by_cases hp:n % 65536 < 16384 ∨ 49152≤n % 65536
  ·exact .inr (.inl (up_to h2 (fun j a b=>by omega)).2)
  ·exact .inl (dn_to h1 (fun j a b=>by omega)).2
 ·exact .inr (.inr h)
theorem lower {lo hi n:Int} (h1:lo≤n) (h2:n≤hi):(sinI lo).lo≤(sinI n).lo ∨ (sinI hi).lo≤(sinI n).lo ∨ lo + (49152 - lo) % 65536≤hi:=by
 rcases Int.lt_or_le hi (lo + (49152 - lo) % 65536) with h | h
 ·by_cases hp:n % 65536 < 16384 ∨ 49152≤n % 65536
  ·exact .inl (up_to h1 (fun j a b=>by omega)).1
  ·exact .inr (.inl (dn_to h2 (fun j a b=>by omega)).1)
 ·exact .inr (.inr h)
end Go.Sx
namespace Go.Sx
theorem hull_of {a b:Iv} (ha : -2147483648≤a.lo∧a.lo≤a.hi∧a.hi≤2147483648) (hb : -2147483648≤b.lo∧b.lo≤b.hi∧b.hi≤2147483648):Iv.hull a b=⟨min a.lo b.lo,max a.hi b.hi⟩:=by
 simp [Iv.hull,qQK ha,qQK hb]
theorem zHZ {x y z w:Int} (h : -65536≤x∧x≤y∧y≤65536) (_: -65536≤z∧z≤w∧w≤65536):Iv.hull ⟨x,y⟩ ⟨z,w⟩=⟨min x z,max y w⟩:=hull_of (a:=⟨x,y⟩) (b:=⟨z,w⟩) (by simp only; omega) (by simp only; omega)
theorem qHD {l h:Int} (c:Int) (v : -2147483648≤l∧l≤h∧h≤2147483648) (_:h - l < 65536) :
  yQC ⟨l,h⟩ (sinI (l + c)) (sinI (h + c)) (16384 - c) (49152 - c) =
   ⟨if l + c + (49152 - (l + c)) % 65536≤h + c then -65536 else min (sinI (l + c)).lo (sinI (h + c)).lo,
     if l + c + (16384 - (l + c)) % 65536≤h + c then 65536 else max (sinI (l + c)).hi (sinI (h + c)).hi⟩:=by
 have b1:=qXG (l + c);have b2:=qXG (h + c);have e0:Iv.of 65536=⟨65536,65536⟩:=by kernel_rfl
 have e1:Iv.of (-65536)=⟨-65536,-65536⟩:=by kernel_rfl
 have d1:(l + (16384 - c - l) % 65536≤h)=(l + c + (16384 - (l + c)) % 65536≤h + c):=by apply propext; omega
 have d2:(l + (49152 - c - l) % 65536≤h)=(l + c + (49152 - (l + c)) % 65536≤h + c):=by apply propext; omega
 simp only [yQC,qQK (a:=⟨l,h⟩) v,Bool.not_true,vYG,vYH (show ¬ (65536:Int)≤h - l by omega),kQ,d1,d2,e0,e1];rw [hull_of (a:=sinI (l + c)) (by omega) (by omega)];by_cases t:l + c + (16384 - (l + c)) % 65536≤h + c
 all_goals by_cases u:l + c + (49152 - (l + c)) % 65536≤h + c
 all_goals simp only [vJQ,vYH,not_false_eq_true,t,u,if_true,if_false,vYV,vYG]
 ·rw [zHZ (show -65536≤min (sinI (l + c)).lo (sinI (h + c)).lo∧min (sinI (l + c)).lo (sinI (h + c)).lo≤max (sinI (l + c)).hi (sinI (h + c)).hi∧max (sinI (l + c)).hi (sinI (h + c)).hi≤65536 by omega) (by decide)];rw [zHZ (show -65536≤min (min (sinI (l + c)).lo (sinI (h + c)).lo) 65536∧min (min (sinI (l + c)).lo (sinI (h + c)).lo) 65536≤max (max (sinI (l + c)).hi (sinI (h + c)).hi) 65536∧max (max (sinI (l + c)).hi (sinI (h + c)).hi) 65536≤65536 by omega) (by decide)];simp only [Iv.mk.injEq]; omega
 ·rw [zHZ (show -65536≤min (sinI (l + c)).lo (sinI (h + c)).lo∧min (sinI (l + c)).lo (sinI (h + c)).lo≤max (sinI (l + c)).hi (sinI (h + c)).hi∧max (sinI (l + c)).hi (sinI (h + c)).hi≤65536 by omega) (by decide)];simp only [Iv.mk.injEq]; omega
 ·rw [zHZ (show -65536≤min (sinI (l + c)).lo (sinI (h + c)).lo∧min (sinI (l + c)).lo (sinI (h + c)).lo≤max (sinI (l + c)).hi (sinI (h + c)).hi∧max (sinI (l + c)).hi (sinI (h + c)).hi≤65536 by omega) (by decide)];simp only [Iv.mk.injEq]; omega
theorem zUB {l h:Int} {x y:Iv} {t u:Int} (v : -2147483648≤l∧l≤h∧h≤2147483648) (hw:65536≤h - l):yQC ⟨l,h⟩ x y t u=⟨-65536,65536⟩:=by
 simp [yQC,qQK (a:=⟨l,h⟩) v,vJQ hw]
def ovI (c l h:Int):Iv:=yQC ⟨l,h⟩ (sinI (l + c)) (sinI (h + c)) (16384 - c) (49152 - c)
theorem qVH (a:Iv):yY a=ovI 0 a.lo a.hi:=by
 unfold yY ovI; rw [Int.add_zero,Int.add_zero,Int.sub_zero,Int.sub_zero]
theorem qGQ (a:Iv):yJ a=ovI 16384 a.lo a.hi:=by
 unfold yJ ovI;rw [cos_sin,cos_sin];unfold yQC kQ;have d1:decide (a.lo + (0 - a.lo) % 65536≤a.hi)=decide (a.lo + (16384 - 16384 - a.lo) % 65536≤a.hi):=by congr
 have d2:decide (a.lo + (32768 - a.lo) % 65536≤a.hi)=decide (a.lo + (49152 - 16384 - a.lo) % 65536≤a.hi):=by congr
 simp only [d1,d2]
theorem yKU {c l h:Int} (v : -2147483648≤l∧l≤h∧h≤2147483648) : -65536≤(ovI c l h).lo∧(ovI c l h).lo≤(ovI c l h).hi∧(ovI c l h).hi≤65536:=by
 have b1:=qXG (l + c);have b2:=qXG (h + c);unfold ovI;by_cases hw:h - l < 65536
 ·rw [qHD c v hw]; simp only; split <;> split <;> omega
 ·rw [zUB v (by omega)]; decide
theorem ov_has {c l h n:Int} (v : -2147483648≤l∧l≤h∧h≤2147483648) (_:l≤n∧n≤h):(ovI c l h).lo≤(sinI (n + c)).lo∧(sinI (n + c)).hi≤(ovI c l h).hi:=by
 have b0:=qXG (n + c);unfold ovI;by_cases hw:h - l < 65536
 ·rw [qHD c v hw];have u1:=upper (lo:=l + c) (hi:=h + c) (n:=n + c) (by omega) (by omega);have u2:=lower (lo:=l + c) (hi:=h + c) (n:=n + c) (by omega) (by omega);simp only; split <;> split <;> omega
 ·rw [zUB v (by omega)]; simp only; omega
theorem ov_nested {c l h l' h':Int} (v : -2147483648≤l∧l≤h∧h≤2147483648) (_:l≤l'∧l'≤h'∧h'≤h):(ovI c l h).lo≤(ovI c l' h').lo∧(ovI c l' h').hi≤(ovI c l h).hi:=by
 have a1:=ov_has (c:=c) (n:=l') v (by omega);have a2:=ov_has (c:=c) (n:=h') v (by omega);have b0:=yKU (c:=c) (l:=l') (h:=h') (by omega);unfold ovI at a1 a2 b0 ⊢;by_cases hw:h - l < 65536
 ·rw [qHD c v hw] at a1 a2 ⊢;rw [qHD c (by omega) (by omega)] at b0 ⊢;simp only at a1 a2 b0 ⊢
  clear b0
  constructor
  ·by_cases t:l' + c + (49152 - (l' + c)) % 65536≤h' + c
   ·rw [if_pos (show l + c + (49152 - (l + c)) % 65536≤h + c by omega)]
    split <;> first | omega | (have:=qXG (l' + c); have:=qXG (h' + c); omega)
   ·rw [if_neg t]; omega
  ·by_cases t:l' + c + (16384 - (l' + c)) % 65536≤h' + c
   ·rw [if_pos (show l + c + (16384 - (l + c)) % 65536≤h + c by omega)]
    split <;> first | omega | (have:=qXG (l' + c); have:=qXG (h' + c); omega)
   ·rw [if_neg t]; omega
 ·rw [zUB v (by omega)]; simp only; omega
end Go.Sx
namespace Go.Sx
def nn:Nat:=340282366920938463463374607431768211456
def uu:Nat:=5192296858534827628530496329220096
def uc:Nat:=340282365357037221779282487371359009126
def us:Nat:=32624163282081701561065576601652201
def w:Nat→Nat × Nat
 | 0=>(nn,0)
 | n + 1=>(((w n).1 * uc - (w n).2 * us) / nn,((w n).1 * us + (w n).2 * uc) / nn)
def bx (S C a b c d:Nat):Bool:=Nat.ble (a * 5192296858534827628530496329220096) S && (Nat.ble S (b * 5192296858534827628530496329220096) && (Nat.ble (c * 5192296858534827628530496329220096) C && Nat.ble C (d * 5192296858534827628530496329220096)))
def goU (C' T':Nat):Nat→Nat→Nat→Nat→Bool
 | 0,C,T,_=>Nat.beq C C' && Nat.beq T T'
 | k + 1,C,T,x=>(zWU x fun a b c d=>bx T C a b c d) && (Nat.ble (T * 32624163282081701561065576601652201) (C * 340282365357037221779282487371359009126) && frc ((C * 340282365357037221779282487371359009126 - T * 32624163282081701561065576601652201) / 340282366920938463463374607431768211456) fun C2=>frc ((C * 32624163282081701561065576601652201 + T * 340282365357037221779282487371359009126) / 340282366920938463463374607431768211456) fun T2=>frc (x + 1) fun x2=>goU C' T' k C2 T2 x2)
def goD (C' T':Nat):Nat→Nat→Nat→Nat→Bool
 | 0,C,T,_=>Nat.beq C C' && Nat.beq T T'
 | k + 1,C,T,x=>(zWU x fun a b c d=>bx C T a b c d) && (Nat.ble (T * 32624163282081701561065576601652201) (C * 340282365357037221779282487371359009126) && frc ((C * 340282365357037221779282487371359009126 - T * 32624163282081701561065576601652201) / 340282366920938463463374607431768211456) fun C2=>frc ((C * 32624163282081701561065576601652201 + T * 340282365357037221779282487371359009126) / 340282366920938463463374607431768211456) fun T2=>frc (x - 1) fun x2=>goD C' T' k C2 T2 x2)
structure BoxU (r:Nat):Prop where
 sl:sLo r * uu≤(w r).2
 sh:(w r).2≤sHi r * uu
 cl:cLo r * uu≤(w r).1
 ch:(w r).1≤cHi r * uu
 st:(w r).2 * us≤(w r).1 * uc
structure BoxD (r:Nat):Prop where
 sl:sLo (16384 - r) * uu≤(w r).1
 sh:(w r).1≤sHi (16384 - r) * uu
 cl:cLo (16384 - r) * uu≤(w r).2
 ch:(w r).2≤cHi (16384 - r) * uu
 st:(w r).2 * us≤(w r).1 * uc
theorem qQX {C' T':Nat}:∀ k C T x,goU C' T' k C T x=true→w x=(C,T)→w (x + k)=(C',T')∧∀ i,x≤i→i < x + k→BoxU i
 | 0,C,T,x,h,e=>by
  simp only [goU,vQJ] at h;refine ⟨?_,fun i a b=>absurd b (by omega)⟩;rw [Nat.add_zero,e,vQX h.1,vQX h.2]
 | k + 1,C,T,x,h,e=>by
  simp only [goU,yWV,qJD,bx,vQJ] at h;obtain ⟨⟨h1,h2,h3,h4⟩,h5,h6⟩:=h;obtain ⟨q1,q2⟩:=qQX k _ _ (x + 1) h6 (by rw [w,e]; rfl);refine ⟨by rw [← q1]; congr 1; omega,fun i a b => ?_⟩;by_cases hi:i=x
  ·subst hi;exact ⟨by rw [e]; exact vZX h1,by rw [e]; exact vZX h2,by rw [e]; exact vZX h3,by rw [e]; exact vZX h4,by rw [e]; exact vZX h5⟩
  ·exact q2 i (by omega) (by omega)
theorem qQB {C' T':Nat}:∀ k C T r,r≤16384→k≤16384 - r→goD C' T' k C T (16384 - r)=true→w r=(C,T)→w (r + k)=(C',T')∧∀ i,r≤i→i < r + k→BoxD i
 | 0,C,T,x,_,_,h,e=>by
  simp only [goD,vQJ] at h;refine ⟨?_,fun i a b=>absurd b (by omega)⟩;rw [Nat.add_zero,e,vQX h.1,vQX h.2]
 | k + 1,C,T,x,g1,g2,h,e=>by
  simp only [goD,yWV,qJD,bx,vQJ] at h;obtain ⟨⟨h1,h2,h3,h4⟩,h5,h6⟩:=h;rw [show 16384 - x - 1=16384 - (x + 1) by omega] at h6;obtain ⟨q1,q2⟩:=qQB k _ _ (x + 1) (by omega) (by omega) h6 (by rw [w,e]; rfl);refine ⟨by rw [← q1]; congr 1; omega,fun i a b => ?_⟩;by_cases hi:i=x
  ·subst hi;exact ⟨by rw [e]; exact vZX h1,by rw [e]; exact vZX h2,by rw [e]; exact vZX h3,by rw [e]; exact vZX h4,by rw [e]; exact vZX h5⟩
  ·exact q2 i (by omega) (by omega)
theorem wk0:goU 338643814315582355912937410983956791763 33353504510164655995148692933346502990 1024 340282366920938463463374607431768211456 0 0=true:=by decide +kernel
theorem wk1:goU 333743936656827580393945988194117882553 66385796539016198537004233666266150132 1024 338643814315582355912937410983956791763 33353504510164655995148692933346502990 1024=true:=by decide +kernel
theorem wk2:goU 325629922445073537381874007154866693371 98778757057029163154891549979681820108 1024 333743936656827580393945988194117882553 66385796539016198537004233666266150132 2048=true:=by decide +kernel
theorem wk3:goU 314379914072750776175968446003616356708 130220424146621615521356287373662035415 1024 325629922445073537381874007154866693371 98778757057029163154891549979681820108 3072=true:=by decide +kernel
theorem wk4:goU 300102255270364911803307903246760032214 160407997365957196655387116525924829546 1024 314379914072750776175968446003616356708 130220424146621615521356287373662035415 4096=true:=by decide +kernel
theorem wk5:goU 282934447697145148265594844368147524013 189050753882727566157415671255032869469 1024 300102255270364911803307903246760032214 160407997365957196655387116525924829546 5120=true:=by decide +kernel
theorem wk6:goU 263041826724899848421390153308517431640 215872848293952797667059038248426017122 1024 282934447697145148265594844368147524013 189050753882727566157415671255032869469 6144=true:=by decide +kernel
theorem wk7:goU 240615969168004511545033772483698474358 240615969168004511545033772471550468243 1024 263041826724899848421390153308517431640 215872848293952797667059038248426017122 7168=true:=by decide +kernel
theorem wk8:goD 215872848293952797667059038261706108609 263041826724899848421390153297618474197 1024 240615969168004511545033772483698474358 240615969168004511545033772471550468243 8192=true:=by decide +kernel
theorem wk9:goD 189050753882727566157415671269317183057 282934447697145148265594844358602552466 1024 215872848293952797667059038261706108609 263041826724899848421390153297618474197 7168=true:=by decide +kernel
theorem wk10:goD 160407997365957196655387116541075833093 300102255270364911803307903238660947340 1024 189050753882727566157415671269317183057 282934447697145148265594844358602552466 6144=true:=by decide +kernel
theorem wk11:goD 130220424146621615521356287389533852184 314379914072750776175968445997041138024 1024 160407997365957196655387116541075833093 300102255270364911803307903238660947340 5120=true:=by decide +kernel
theorem wk12:goD 98778757057029163154891549996121633199 325629922445073537381874007149878648288 1024 130220424146621615521356287389533852184 314379914072750776175968445997041138024 4096=true:=by decide +kernel
theorem wk13:goD 66385796539016198537004233683115673837 333743936656827580393945988190765036869 1024 98778757057029163154891549996121633199 325629922445073537381874007149878648288 3072=true:=by decide +kernel
theorem wk14:goD 33353504510164655995148692950443506845 338643814315582355912937410982271427247 1024 66385796539016198537004233683115673837 333743936656827580393945988190765036869 2048=true:=by decide +kernel
theorem wk15:goD 17179870747 340282366920938463463374607431766555032 1024 33353504510164655995148692950443506845 338643814315582355912937410982271427247 1024=true:=by decide +kernel
theorem ws0:w 0=(340282366920938463463374607431768211456,0):=rfl
theorem ws1:w 1024=(338643814315582355912937410983956791763,33353504510164655995148692933346502990):=(qQX 1024 _ _ 0 wk0 ws0).1
theorem ws2:w 2048=(333743936656827580393945988194117882553,66385796539016198537004233666266150132):=(qQX 1024 _ _ 1024 wk1 ws1).1
theorem ws3:w 3072=(325629922445073537381874007154866693371,98778757057029163154891549979681820108):=(qQX 1024 _ _ 2048 wk2 ws2).1
theorem ws4:w 4096=(314379914072750776175968446003616356708,130220424146621615521356287373662035415):=(qQX 1024 _ _ 3072 wk3 ws3).1
theorem ws5:w 5120=(300102255270364911803307903246760032214,160407997365957196655387116525924829546):=(qQX 1024 _ _ 4096 wk4 ws4).1
theorem ws6:w 6144=(282934447697145148265594844368147524013,189050753882727566157415671255032869469):=(qQX 1024 _ _ 5120 wk5 ws5).1
theorem ws7:w 7168=(263041826724899848421390153308517431640,215872848293952797667059038248426017122):=(qQX 1024 _ _ 6144 wk6 ws6).1
theorem ws8:w 8192=(240615969168004511545033772483698474358,240615969168004511545033772471550468243):=(qQX 1024 _ _ 7168 wk7 ws7).1
theorem ws9:w 9216=(215872848293952797667059038261706108609,263041826724899848421390153297618474197):=(qQB 1024 _ _ 8192 (by decide) (by decide) wk8 ws8).1
theorem ws10:w 10240=(189050753882727566157415671269317183057,282934447697145148265594844358602552466):=(qQB 1024 _ _ 9216 (by decide) (by decide) wk9 ws9).1
theorem ws11:w 11264=(160407997365957196655387116541075833093,300102255270364911803307903238660947340):=(qQB 1024 _ _ 10240 (by decide) (by decide) wk10 ws10).1
theorem ws12:w 12288=(130220424146621615521356287389533852184,314379914072750776175968445997041138024):=(qQB 1024 _ _ 11264 (by decide) (by decide) wk11 ws11).1
theorem ws13:w 13312=(98778757057029163154891549996121633199,325629922445073537381874007149878648288):=(qQB 1024 _ _ 12288 (by decide) (by decide) wk12 ws12).1
theorem ws14:w 14336=(66385796539016198537004233683115673837,333743936656827580393945988190765036869):=(qQB 1024 _ _ 13312 (by decide) (by decide) wk13 ws13).1
theorem ws15:w 15360=(33353504510164655995148692950443506845,338643814315582355912937410982271427247):=(qQB 1024 _ _ 14336 (by decide) (by decide) wk14 ws14).1
theorem boxU {r:Nat} (h:r < 8192):BoxU r:=by
 have hq:(0≤r∧r < 1024) ∨ (1024≤r∧r < 2048) ∨ (2048≤r∧r < 3072) ∨ (3072≤r∧r < 4096) ∨ (4096≤r∧r < 5120) ∨ (5120≤r∧r < 6144) ∨ (6144≤r∧r < 7168) ∨ (7168≤r∧r < 8192):=by omega
 rcases hq with h | h | h | h | h | h | h | h
 ·exact (qQX 1024 _ _ 0 wk0 ws0).2 r h.1 h.2
 ·exact (qQX 1024 _ _ 1024 wk1 ws1).2 r h.1 h.2
 ·exact (qQX 1024 _ _ 2048 wk2 ws2).2 r h.1 h.2
 ·exact (qQX 1024 _ _ 3072 wk3 ws3).2 r h.1 h.2
 ·exact (qQX 1024 _ _ 4096 wk4 ws4).2 r h.1 h.2
 ·exact (qQX 1024 _ _ 5120 wk5 ws5).2 r h.1 h.2
 ·exact (qQX 1024 _ _ 6144 wk6 ws6).2 r h.1 h.2
 ·exact (qQX 1024 _ _ 7168 wk7 ws7).2 r h.1 h.2
theorem boxD {r:Nat} (g:8192≤r) (h:r < 16384):BoxD r:=by
 have hq:(8192≤r∧r < 9216) ∨ (9216≤r∧r < 10240) ∨ (10240≤r∧r < 11264) ∨ (11264≤r∧r < 12288) ∨ (12288≤r∧r < 13312) ∨ (13312≤r∧r < 14336) ∨ (14336≤r∧r < 15360) ∨ (15360≤r∧r < 16384):=by omega
 rcases hq with h | h | h | h | h | h | h | h
 ·exact (qQB 1024 _ _ 8192 (by decide) (by decide) wk8 ws8).2 r h.1 h.2
 ·exact (qQB 1024 _ _ 9216 (by decide) (by decide) wk9 ws9).2 r h.1 h.2
 ·exact (qQB 1024 _ _ 10240 (by decide) (by decide) wk10 ws10).2 r h.1 h.2
 ·exact (qQB 1024 _ _ 11264 (by decide) (by decide) wk11 ws11).2 r h.1 h.2
 ·exact (qQB 1024 _ _ 12288 (by decide) (by decide) wk12 ws12).2 r h.1 h.2
 ·exact (qQB 1024 _ _ 13312 (by decide) (by decide) wk13 ws13).2 r h.1 h.2
 ·exact (qQB 1024 _ _ 14336 (by decide) (by decide) wk14 ws14).2 r h.1 h.2
 ·exact (qQB 1024 _ _ 15360 (by decide) (by decide) wk15 ws15).2 r h.1 h.2
theorem mid0:(zWU 8192 fun a b c d=>bx 240615969168004511545033772471550468243 240615969168004511545033772483698474358 a b c d)=true:=by decide +kernel
theorem mid:sLo 8192 * uu≤(w 8192).2∧(w 8192).2≤sHi 8192 * uu:=by
 have:=mid0
 simp only [qJD,bx,vQJ] at this;rw [ws8];exact ⟨vZX this.1,vZX this.2.1⟩
theorem box {r:Nat} (h:r < 16384):fLo r * uu≤(w r).2∧(w r).2≤fHi r * uu∧fLo (16384 - r) * uu≤(w r).1∧(w r).1≤fHi (16384 - r) * uu:=by
 rcases Nat.lt_or_ge r 8192 with h1 | h1
 ·have b:=boxU h1;rw [(qWB (r:=r) (by omega)).1,(qWB (r:=r) (by omega)).2,(qGV (r:=16384 - r) (by omega)).1,(qGV (r:=16384 - r) (by omega)).2,show 16384 - (16384 - r)=r by omega];exact ⟨b.sl,b.sh,b.cl,b.ch⟩
 ·have b:=boxD h1 h;rw [(qWB (r:=16384 - r) (by omega)).1,(qWB (r:=16384 - r) (by omega)).2];rcases Nat.lt_or_ge 8192 r with h2 | h2
  ·rw [(qGV (r:=r) (by omega)).1,(qGV (r:=r) (by omega)).2];exact ⟨b.cl,b.ch,b.sl,b.sh⟩
  ·have e:r=8192:=by omega
   subst e;rw [(qWB (r:=8192) (by omega)).1,(qWB (r:=8192) (by omega)).2];have k:=mid;exact ⟨k.1,k.2,b.sl,b.sh⟩
end Go.Sx
namespace Go.Sx
def WC (r:Nat):Int:=((w r).1:Int)
def WT (r:Nat):Int:=((w r).2:Int)
theorem w0:WC 0=(340282366920938463463374607431768211456:Int)∧WT 0=0:=⟨rfl,rfl⟩
end Go.Sx
namespace Go.Sx
structure In (I:Iv) (m x:Int):Prop where
 lo:I.lo * m≤x
 hi:x≤I.hi * m
def Ok (a:Iv):Prop:=-2147483648≤a.lo∧a.lo≤a.hi∧a.hi≤2147483648
theorem bil {lo hi x:Int} (y:Int) (h1:lo≤x) (h2:x≤hi):(lo * y≤x * y ∨ hi * y≤x * y)∧(x * y≤lo * y ∨ x * y≤hi * y):=by
 rcases Int.le_total 0 y with h | h
 ·exact ⟨.inl (Int.mul_le_mul_of_nonneg_right h1 h),.inr (Int.mul_le_mul_of_nonneg_right h2 h)⟩
 ·exact ⟨.inr (Int.mul_le_mul_of_nonpos_right h2 h),.inl (Int.mul_le_mul_of_nonpos_right h1 h)⟩
theorem zKY {a b:Iv} {m k x y:Int} (hm:0≤m) (hk:0≤k) (hx:In a m x) (hy:In b k y) :
  min4 (a.lo * b.lo) (a.lo * b.hi) (a.hi * b.lo) (a.hi * b.hi) * (m * k)≤x * y∧x * y≤max4 (a.lo * b.lo) (a.lo * b.hi) (a.hi * b.lo) (a.hi * b.hi) * (m * k):=by
 have hmk:0≤m * k:=Int.mul_nonneg hm hk;have b1:=bil y hx.lo hx.hi;have b2:=bil (a.lo * m) hy.lo hy.hi;have b3:=bil (a.hi * m) hy.lo hy.hi;rw [show b.lo * k * (a.lo * m)=a.lo * b.lo * (m * k) by grind,show b.hi * k * (a.lo * m)=a.lo * b.hi * (m * k) by grind,Int.mul_comm y] at b2;rw [show b.lo * k * (a.hi * m)=a.hi * b.lo * (m * k) by grind,show b.hi * k * (a.hi * m)=a.hi * b.hi * (m * k) by grind,Int.mul_comm y] at b3;have l1:min4 (a.lo * b.lo) (a.lo * b.hi) (a.hi * b.lo) (a.hi * b.hi) * (m * k)≤a.lo * b.lo * (m * k):=Int.mul_le_mul_of_nonneg_right (by unfold min4; omega) hmk;have l2:min4 (a.lo * b.lo) (a.lo * b.hi) (a.hi * b.lo) (a.hi * b.hi) * (m * k)≤a.lo * b.hi * (m * k):=Int.mul_le_mul_of_nonneg_right (by unfold min4; omega) hmk;have l3:min4 (a.lo * b.lo) (a.lo * b.hi) (a.hi * b.lo) (a.hi * b.hi) * (m * k)≤a.hi * b.lo * (m * k):=Int.mul_le_mul_of_nonneg_right (by unfold min4; omega) hmk;have l4:min4 (a.lo * b.lo) (a.lo * b.hi) (a.hi * b.lo) (a.hi * b.hi) * (m * k)≤a.hi * b.hi * (m * k):=Int.mul_le_mul_of_nonneg_right (by unfold min4; omega) hmk;have u1:a.lo * b.lo * (m * k)≤max4 (a.lo * b.lo) (a.lo * b.hi) (a.hi * b.lo) (a.hi * b.hi) * (m * k):=Int.mul_le_mul_of_nonneg_right (by unfold max4; omega) hmk;have u2:a.lo * b.hi * (m * k)≤max4 (a.lo * b.lo) (a.lo * b.hi) (a.hi * b.lo) (a.hi * b.hi) * (m * k):=Int.mul_le_mul_of_nonneg_right (by unfold max4; omega) hmk;have u3:a.hi * b.lo * (m * k)≤max4 (a.lo * b.lo) (a.lo * b.hi) (a.hi * b.lo) (a.hi * b.hi) * (m * k):=Int.mul_le_mul_of_nonneg_right (by unfold max4; omega) hmk;have u4:a.hi * b.hi * (m * k)≤max4 (a.lo * b.lo) (a.lo * b.hi) (a.hi * b.lo) (a.hi * b.hi) * (m * k):=Int.mul_le_mul_of_nonneg_right (by unfold max4; omega) hmk;omega
theorem zQL (z:Int) : -2147483648≤kH z∧kH z≤2147483648:=by unfold kH; omega
theorem qGZ {x y:Int} (h:x≤y):kH x≤kH y:=by unfold kH; omega
theorem yXL (a b:Iv):Ok (Iv.mul a b):=by
 unfold Iv.mul;cases a.valid && b.valid
 ·exact (show Ok ⟨0,0⟩ by unfold Ok; decide)
 ·refine ⟨(zQL _).1,qGZ ?_,(zQL _).2⟩;have hc:=zZQ (a:=max4 (a.lo * b.lo) (a.lo * b.hi) (a.hi * b.lo) (a.hi * b.hi)) (b:=65536) (by decide)
  have:min4 (a.lo * b.lo) (a.lo * b.hi) (a.hi * b.lo) (a.hi * b.hi)≤max4 (a.lo * b.lo) (a.lo * b.hi) (a.hi * b.lo) (a.hi * b.hi):=by unfold min4 max4; omega
  omega
theorem add_Ok (a b:Iv):Ok (Iv.add a b):=by
 unfold Iv.add;cases h:a.valid && b.valid
 ·exact (show Ok ⟨0,0⟩ by unfold Ok; decide)
 ·refine ⟨(zQL _).1,qGZ ?_,(zQL _).2⟩;simp [Iv.valid] at h; omega
end Go.Sx
namespace Go.Sx
structure V3 where
 x:Iv
 y:Iv
 z:Iv
structure M3 where
 x:V3
 y:V3
 z:V3
structure Po where
 r:M3
 t:V3
structure Z3 where
 x:Int
 y:Int
 z:Int
def z3 (v:Z3):Value:=.agg #[.int .i64 v.x,.int .i64 v.y,.int .i64 v.z]
def v3 (v:V3):Value:=.agg #[.int .i64 v.x.lo,.int .i64 v.x.hi,.int .i64 v.y.lo,.int .i64 v.y.hi,.int .i64 v.z.lo,.int .i64 v.z.hi]
def m3 (v:M3):Value:=.agg #[.int .i64 v.x.x.lo,.int .i64 v.x.x.hi,.int .i64 v.x.y.lo,.int .i64 v.x.y.hi,.int .i64 v.x.z.lo,.int .i64 v.x.z.hi,
 .int .i64 v.y.x.lo,.int .i64 v.y.x.hi,.int .i64 v.y.y.lo,.int .i64 v.y.y.hi,.int .i64 v.y.z.lo,.int .i64 v.y.z.hi,
 .int .i64 v.z.x.lo,.int .i64 v.z.x.hi,.int .i64 v.z.y.lo,.int .i64 v.z.y.hi,.int .i64 v.z.z.lo,.int .i64 v.z.z.hi]
def po (p:Po):Value:=.agg #[.int .i64 p.r.x.x.lo,.int .i64 p.r.x.x.hi,.int .i64 p.r.x.y.lo,.int .i64 p.r.x.y.hi,.int .i64 p.r.x.z.lo,.int .i64 p.r.x.z.hi,
 .int .i64 p.r.y.x.lo,.int .i64 p.r.y.x.hi,.int .i64 p.r.y.y.lo,.int .i64 p.r.y.y.hi,.int .i64 p.r.y.z.lo,.int .i64 p.r.y.z.hi,
 .int .i64 p.r.z.x.lo,.int .i64 p.r.z.x.hi,.int .i64 p.r.z.y.lo,.int .i64 p.r.z.y.hi,.int .i64 p.r.z.z.lo,.int .i64 p.r.z.z.hi,
 .int .i64 p.t.x.lo,.int .i64 p.t.x.hi,.int .i64 p.t.y.lo,.int .i64 p.t.y.hi,.int .i64 p.t.z.lo,.int .i64 p.t.z.hi]
def V3.of (p:Z3):V3:=⟨Iv.of p.x,Iv.of p.y,Iv.of p.z⟩
def V3.add (a b:V3):V3:=⟨Iv.add a.x b.x,Iv.add a.y b.y,Iv.add a.z b.z⟩
def V3.sub (a b:V3):V3:=⟨Iv.sub a.x b.x,Iv.sub a.y b.y,Iv.sub a.z b.z⟩
def V3.neg (a:V3):V3:=⟨Iv.neg a.x,Iv.neg a.y,Iv.neg a.z⟩
def V3.within (a b:V3):Bool:=Iv.within a.x b.x && Iv.within a.y b.y && Iv.within a.z b.z
def V3.dot (a b:V3):Iv:=Iv.add (Iv.add (Iv.mul a.x b.x) (Iv.mul a.y b.y)) (Iv.mul a.z b.z)
def M3.apply (m:M3) (v:V3):V3:=⟨V3.dot m.x v,V3.dot m.y v,V3.dot m.z v⟩
def limI (x:Int):Int:=min (max x (-65536)) 65536
def limV (a:Iv):Iv:=⟨limI a.lo,limI a.hi⟩
def M3.tr (m:M3):M3:=⟨⟨m.x.x,m.y.x,m.z.x⟩,⟨m.x.y,m.y.y,m.z.y⟩,⟨m.x.z,m.y.z,m.z.z⟩⟩
def M3.row (a:V3) (b:M3):V3:=⟨limV (V3.dot a b.tr.x),limV (V3.dot a b.tr.y),limV (V3.dot a b.tr.z)⟩
def M3.mul (a b:M3):M3:=⟨M3.row a.x b,M3.row a.y b,M3.row a.z b⟩
def M3.within (a b:M3):Bool:=V3.within a.x b.x && V3.within a.y b.y && V3.within a.z b.z
def iv0:Iv:=⟨0,0⟩
def iv1:Iv:=⟨65536,65536⟩
def M3.unit:M3:=⟨⟨iv1,iv0,iv0⟩,⟨iv0,iv1,iv0⟩,⟨iv0,iv0,iv1⟩⟩
def M3.zero:M3:=⟨⟨iv0,iv0,iv0⟩,⟨iv0,iv0,iv0⟩,⟨iv0,iv0,iv0⟩⟩
def M3.turn (axis:Int) (a:Iv):M3:=bif !a.valid then M3.zero else
 bif decide (axis=0) then ⟨⟨iv1,iv0,iv0⟩,⟨iv0,yJ a,Iv.neg (yY a)⟩,⟨iv0,yY a,yJ a⟩⟩ else
 bif decide (axis=1) then ⟨⟨yJ a,iv0,yY a⟩,⟨iv0,iv1,iv0⟩,⟨Iv.neg (yY a),iv0,yJ a⟩⟩ else
 bif decide (axis=2) then ⟨⟨yJ a,Iv.neg (yY a),iv0⟩,⟨yY a,yJ a,iv0⟩,⟨iv0,iv0,iv1⟩⟩ else M3.zero
theorem of_one:Iv.of 65536=iv1:=by kernel_rfl
theorem of_zero:Iv.of 0=iv0:=by kernel_rfl
theorem add_zero_mul (a b:Iv):Iv.add ⟨0,0⟩ (Iv.mul a b)=Iv.mul a b:=by
 have h:=yXL a b;have hz:Iv.valid ⟨0,0⟩=true:=by decide
 simp only [Iv.add,hz,qQK h,vZJ,vYV,Int.zero_add];unfold Ok at h;rw [clampI_id (by omega),clampI_id (by omega)]
theorem lim_ref (x:Int):max (-65536) (min x 65536)=limI x:=by unfold limI; omega
end Go.Sx
namespace Go.Sx
def V3.zero:V3:=⟨iv0,iv0,iv0⟩
def Po.shift (v:V3):Po:=⟨M3.unit,v⟩
def Po.rest:Po:=⟨M3.unit,V3.zero⟩
def Po.turn (axis:Int) (a:Iv):Po:=⟨M3.turn axis a,V3.zero⟩
def Po.app (p:Po) (v:V3):V3:=V3.add p.t (M3.apply p.r v)
def Po.mul (p q:Po):Po:=⟨M3.mul p.r q.r,Po.app p q.t⟩
def Po.inv (p:Po):Po:=⟨M3.tr p.r,V3.neg (M3.apply (M3.tr p.r) p.t)⟩
def Po.within (p q:Po):Bool:=M3.within p.r q.r && V3.within p.t q.t
end Go.Sx
namespace Go.Sx
structure J where
 name:ByteArray
 kind:Int
 parent:Int
 off:Z3
 lo:Int
 hi:Int
 weight:Int
 speed:Int
 accel:Int
 torque:Int
def jc (j:J):List Value:=[.string j.name,.int .i64 j.kind,.int .i64 j.parent,.int .i64 j.off.x,.int .i64 j.off.y,.int .i64 j.off.z,.int .i64 j.lo,.int .i64 j.hi,.int .i64 j.weight,.int .i64 j.speed,.int .i64 j.accel,.int .i64 j.torque]
def z3c (v:Z3):List Value:=[.int .i64 v.x,.int .i64 v.y,.int .i64 v.z]
theorem yUY (l:List Z3):∀ r ∈ l.map z3c,r.length=3:=fun r hr=>by
 obtain ⟨v,_,rfl⟩:=List.mem_map.1 hr;rfl
structure Ms where
 link:Int
 mass:Int
 p:Z3
def mc (m:Ms):List Value:=[.int .i64 m.link,.int .i64 m.mass,.int .i64 m.p.x,.int .i64 m.p.y,.int .i64 m.p.z]
structure Sp where
 link:Int
 radius:Int
 pts:List Z3
end Go.Sx
namespace Go.Sx
open Go.RowKit
structure Cn where
 kind:Int
 link:Int
 p:Z3
 n:Z3
 lo:Int
 hi:Int
section
variable {nf:Int→Int→Int→Z3} {L:List Int} {m:Int} {k q:Nat} {l:List Cn} {a0 a1 a2 a3 a4 a5 a6 a7 a8 a9 b0 b1:Int} {z:Z3}
end
end Go.Sx
namespace Go.Sx
def ivc (v:Iv):List Value:=[.int .i64 v.lo,.int .i64 v.hi]
def ivC (rows:List Iv):List Value:=(rows.map ivc).flatten
theorem zJB (l:List Iv):∀ r ∈ l.map ivc,r.length=2:=fun r hr=>by
 obtain ⟨v,_,rfl⟩:=List.mem_map.1 hr;rfl
end Go.Sx
namespace Go.Sx
section
variable {P:Program} {w0:Base} {S:yU} {H:Heap} {d:Option Tmp} {ty:TypeId} {pos:String} {af:Array Edge} {g:Option (Nat × Bool)}
end
def V3.put (k:Int) (a:Iv):V3:=if k=0 then ⟨a,iv0,iv0⟩ else if k=1 then ⟨iv0,a,iv0⟩ else ⟨iv0,iv0,a⟩
def jMot (k:Int) (a:Iv):Po:=if k=1 ∨ k=2 ∨ k=3 then Po.turn (k - 1) a else if k=4 ∨ k=5 ∨ k=6 then Po.shift (V3.put (k - 4) a) else Po.rest
def zGL (k:Int) (o:Z3) (a:Iv):Po:=Po.mul (Po.shift (V3.of o)) (jMot k a)
end Go.Sx
namespace Go.Sx
def pc (p:Po):List Value:=[.int .i64 p.r.x.x.lo,.int .i64 p.r.x.x.hi,.int .i64 p.r.x.y.lo,.int .i64 p.r.x.y.hi,.int .i64 p.r.x.z.lo,.int .i64 p.r.x.z.hi,.int .i64 p.r.y.x.lo,.int .i64 p.r.y.x.hi,.int .i64 p.r.y.y.lo,.int .i64 p.r.y.y.hi,.int .i64 p.r.y.z.lo,.int .i64 p.r.y.z.hi,.int .i64 p.r.z.x.lo,.int .i64 p.r.z.x.hi,.int .i64 p.r.z.y.lo,.int .i64 p.r.z.y.hi,.int .i64 p.r.z.z.lo,.int .i64 p.r.z.z.hi,.int .i64 p.t.x.lo,.int .i64 p.t.x.hi,.int .i64 p.t.y.lo,.int .i64 p.t.y.hi,.int .i64 p.t.z.lo,.int .i64 p.t.z.hi]
def zRow:List Value:=List.replicate 24 (.int .i64 0)
def lkP (ps:List Po) (j:J) (a:Iv):Po:=if j.parent = -1 then zGL j.kind j.off a else Po.mul (ps.getD j.parent.toNat Po.rest) (zGL j.kind j.off a)
def lks (js:List J) (bx:List Iv):Nat→List Po
 | 0=>[]
 | k + 1=>match js[k]?,bx[k]? with
  | some j,some a=>lks js bx k ++ [lkP (lks js bx k) j a]
  | _,_=>lks js bx k
theorem qVD {js:List J} {bx:List Iv} {k:Nat} {j:J} {a:Iv} (h1:js[k]? = some j) (h2:bx[k]? = some a):lks js bx (k + 1)=lks js bx k ++ [lkP (lks js bx k) j a]:=by
 simp only [lks,h1,h2]
def lkR (ps:List Po) (m:Nat):List (List Value):=ps.map pc ++ List.replicate m zRow
theorem lkR_set {ps:List Po} {m:Nat} (v:List Value):(lkR ps (m + 1)).set ps.length v=ps.map pc ++ v :: List.replicate m zRow:=by
 unfold lkR;rw [List.set_append_right _ _ (by simp)];simp [List.replicate_succ]
theorem lkR_set2 {ps:List Po} {m:Nat} (u v:List Value):(ps.map pc ++ u :: List.replicate m zRow).set ps.length v=ps.map pc ++ v :: List.replicate m zRow:=by
 rw [List.set_append_right _ _ (by simp)]
 simp
theorem lkR_done {ps:List Po} {m:Nat} (p:Po):ps.map pc ++ pc p :: List.replicate m zRow=lkR (ps ++ [p]) m:=by
 unfold lkR
 simp
theorem lkR_at {ps:List Po} {m i:Nat} {u:List Value} (h:i < ps.length):(ps.map pc ++ u :: List.replicate m zRow)[i]? = some (pc (ps.getD i Po.rest)):=by
 rw [List.getElem?_append_left (by simpa using h),vZY];simp [vZG,h]
theorem yWY {ps:List Po} {m:Nat} {u:List Value}:(ps.map pc ++ u :: List.replicate m zRow)[ps.length]? = some u:=by
 rw [List.getElem?_append_right (by simp)]
 simp
end Go.Sx

/- Part 11 of the texts behind the last one: rules and contracts. No condition. -/
import Derived.Test.YtmffoiemmlcmfaaGreatPE10
open Option renaming bind_eq_some_iff → vQQ
open Option.some renaming injEq → vQZ
open Prod.mk renaming injEq → vQY
open Bool renaming and_eq_true → vQJ, true_and → vZH
open List renaming getElem?_eq_getElem → vQK, mem_cons_self → vZQ, getElem?_map → vZY, getD_eq_getElem?_getD → vZG, take_succ_cons → vYK, drop_succ_cons → vYU, take_zero → vYX, drop_zero → vYW
open Nat renaming lt_of_lt_of_le → vZK
open Classical renaming propDecidable → vYJ
open Go.IntKind renaming wrap → vJJ
namespace Go.Rx
open Go.RowKit Go.Sx
def yUU {β:Type} (good:Nat→Bool) (KX:β) (KR:Nat→β):Nat→Nat→β
 | 0,_=>KX
 | k + 1,p=>bif good p then yUU good KX KR k (p + 1) else KR p
def allN (good:Nat→Bool):Nat→Nat→Bool
 | 0,_=>true
 | k + 1,p=>good p && allN good k (p + 1)
theorem qYJ {β:Type} (good:Nat→Bool) (x y:β):∀ k p,yUU good x (fun _=>y) k p=bif allN good k p then x else y
 | 0,_=>rfl
 | k + 1,p=>by
  simp only [yUU,allN,qYJ good x y k (p + 1)];cases good p <;> rfl
theorem allN_iff {good:Nat→Bool}:∀ {k p:Nat},allN good k p=true ↔ ∀ j,p≤j→j < p + k→good j=true
 | 0,p=>⟨fun _ j h1 h2=>by omega,fun _=>rfl⟩
 | k + 1,p=>by
  simp only [allN,vQJ,allN_iff (k:=k)];exact ⟨fun h j h1 h2=>by
   rcases Nat.eq_or_lt_of_le h1 with e | e
   ·exact e ▸ h.1
   ·exact h.2 j e (by omega),fun h=>⟨h p (Nat.le_refl _) (by omega),fun j h1 h2=>h j (by omega) (by omega)⟩⟩
theorem yUK {g g':Nat→Bool}:∀ {k p:Nat},(∀ j,p≤j→j < p + k→g j=g' j)→allN g k p=allN g' k p
 | 0,_,_=>rfl
 | k + 1,p,h=>by simp only [allN,h p (Nat.le_refl _) (by omega),yUK (k:=k) (p:=p + 1) fun j h1 h2=>h j (by omega) (by omega)]
def uX (good:Nat→Bool):Nat→Nat→Nat
 | 0,p=>p
 | k + 1,p=>bif good p then uX good k (p + 1) else p
theorem zXV {β:Type} (good:Nat→Bool) (x:β) (y:Nat→β):∀ k p,yUU good x y k p=bif allN good k p then x else y (uX good k p)
 | 0,_=>rfl
 | k + 1,p=>by
  simp only [yUU,allN,uX,zXV good x y k (p + 1)];cases good p <;> rfl
def zKJ (N:Nat) (C:Cx) (cK:qVK) (x:Code) (h:Hint) (K:Cont) (G:St→Option (Ret × Mem)) (σ:St):Option (Ret × Mem):=qHW N C cK x (fun e τ=>match e with
 | .normal=>G (qGJ h τ)
 | e=>K e (qUU h τ)) σ
theorem jXH {N:Nat} {C:Cx} {cK:qVK} {x:Code} {h:Hint} {K:Cont} {n:Nat} {σ:St}:LF N C cK x h K (n + 1) σ=zKJ N C cK x h K (fun σ=>LF N C cK x h K n σ) σ:=rfl
theorem zJV {N:Nat} {C:Cx} {cK:qVK} {x:Code} {h:Hint} {K:Cont} (hd:Int→St) (good:Nat→Bool) {c:Nat} (KX:Option (Ret × Mem)) (KR:Nat→Option (Ret × Mem))
  (r1:∀ G (i:Nat),i < c→zKJ N C cK x h K G (hd (i:Int))=bif good i then G (hd ((i + 1:Nat):Int)) else KR i)
  (r2:∀ G,zKJ N C cK x h K G (hd (c:Int))=KX):∀ (k p q:Nat),p + k=c→k < q→LF N C cK x h K q (hd (p:Int))=yUU good KX KR k p
 | 0,p,q + 1,hp,_=>by
  rw [jXH,show p=c by omega];exact r2 _
 | k + 1,p,q + 1,hp,hq=>by
  rw [jXH,r1 _ p (by omega),zJV hd good KX KR r1 r2 k (p + 1) q (by omega) (by omega)];rfl
theorem kVV {N:Nat} {C:Cx} {cK:qVK} {x:Code} {h:Hint} {K:Cont} (hd:Int→List (List PV)→St) (g:Nat→List PV) {c:Nat} (KX:List (List PV)→Option (Ret × Mem))
  (r1:∀ G (i:Nat) rows,i < c→rows.length=i→zKJ N C cK x h K G (hd (i:Int) rows)=G (hd ((i + 1:Nat):Int) (rows ++ [g i])))
  (r2:∀ G rows,rows.length=c→zKJ N C cK x h K G (hd (c:Int) rows)=KX rows):∀ (k p q:Nat) (rows:List (List PV)),rows.length=p→p + k=c→k < q→LF N C cK x h K q (hd (p:Int) rows)=KX (rows ++ (List.range' p k).map g)
 | 0,p,q + 1,rows,hl,hp,_=>by
  rw [jXH,show p=c by omega,r2 _ rows (by omega)]
  simp
 | k + 1,p,q + 1,rows,hl,hp,hq=>by
  rw [jXH,r1 _ p rows (by omega) hl,kVV hd g KX r1 r2 k (p + 1) q (rows ++ [g p]) (by rw [List.length_append,hl]; rfl) (by omega) (by omega)];rw [List.range'_succ,List.map_cons,List.append_assoc];rfl
theorem rng0 (n:Nat) (g:Nat→List PV):[] ++ (List.range' 0 n).map g=(List.range n).map g:=by rw [List.nil_append,List.range_eq_range']
theorem zGV {α:Type} (d:α) (f:α→List PV) (l:List α):l.map f=(List.range l.length).map fun i=>f (l.getD i d):=by
 refine List.ext_getElem? fun i => ?_
 rw [vZY,vZY];by_cases h:i < l.length
 ·rw [List.getElem?_range h,vQK h];simp [vZG,h]
 ·rw [List.getElem?_eq_none (by omega),List.getElem?_eq_none (by simp; omega)];rfl
theorem qZK {P:Program} {f:Nat} {ps ps':List PV} {r:Ret} (hs:∀ F w vals,Al (RP F w) ps' vals→Al (RP F w) ps vals) (h:zH P f ps r):zH P f ps' r :=
 ⟨h.1,fun w F vals hF hal=>h.2 w F vals hF (hs F w vals hal)⟩
theorem qQW {P:Program} {f:Nat} {ps:List PV} {x y:PV} (hs:∀ F w v,RP F w x v→RP F w y v) (h:zH P f ps (.v x)):zH P f ps (.v y) :=
 ⟨h.1,fun w F vals hF hal=>(h.2 w F vals hF hal).mono fun _ w' ⟨v,F',he,hg,f1,f2,hr⟩=>⟨v,F',he,hg,f1,f2,hs F' w' v hr⟩⟩
theorem jHY {F:Nat→Prop} {w:World} {n:Nat} {f:Nat→List PV} {rows:List (List PV)} {v:Value} (e:rows=(List.range n).map f) (h:RP F w (.l rows) v):RP F w (.lf n f) v:=.lf n f v (e ▸ h)
theorem yYH {F:Nat→Prop} {w:World} {n:Nat} {f:Nat→List PV} {rows:List (List PV)} {v:Value} (e:rows=(List.range n).map f) (h:RP F w (.lf n f) v):RP F w (.l rows) v:=by
 cases h with
 | lf _ _ _ h=>exact e ▸ h
def Same (x y:PV):Prop:=∀ F w v,RP F w x v→RP F w y v
theorem Same.refl (x:PV):Same x x:=fun _ _ _ h=>h
theorem Same.lf {n:Nat} {f:Nat→List PV} {rows:List (List PV)} (e:rows=(List.range n).map f):Same (.l rows) (.lf n f):=fun _ _ _=>jHY e
theorem Same.l {n:Nat} {f:Nat→List PV} {rows:List (List PV)} (e:rows=(List.range n).map f):Same (.lf n f) (.l rows):=fun _ _ _=>yYH e
def Sames:List PV→List PV→Prop
 | [],[]=>True
 | x :: xs,y :: ys=>Same x y∧Sames xs ys
 | _,_=>False
theorem Sames.al {F:Nat→Prop} {w:World}:∀ {xs ys:List PV} {vs:List Value},Sames xs ys→Al (RP F w) xs vs→Al (RP F w) ys vs
 | [],[],_,_,h=>h
 | x :: xs,y :: ys,vs,hs,h=>by
  obtain ⟨v,vs,rfl,h1,h2⟩:=qYW h;exact qKU (hs.1 F w v h1) (Sames.al hs.2 h2)
 | [],_ :: _,_,h,_=>h.elim
 | _ :: _,[],_,h,_=>h.elim
theorem Same.a {xs ys:List PV} (h:Sames xs ys):Same (.a xs) (.a ys):=fun F w v hv=>by
 cases hv with
 | a _ vs hl h1 hh =>
  have:=Sames.al h (show Al (RP F w) xs vs from ⟨hl,hh⟩)
  exact .a ys vs this.1 h1 this.2
theorem Same.t {xs ys:List PV} (h:Sames xs ys):Same (.t xs) (.t ys):=fun F w v hv=>by
 cases hv with
 | t _ vs hl hh =>
  have:=Sames.al h (show Al (RP F w) xs vs from ⟨hl,hh⟩)
  exact .t ys vs this.1 this.2
theorem jYX {P:Program} {f:Nat} {ps ps':List PV} {x y:PV} (ha:Sames ps' ps) (hr:Same x y) (h:zH P f ps (.v x)):zH P f ps' (.v y) :=
 qQW hr (qZK (fun _ _ _=>ha.al) h)
theorem zGK {P:Program} {f e sz:Nat} {ps:List PV} {rows:List (List PV)} (h:zH P f ps (.ow e sz rows)):zH P f ps (.v (.l rows)):=by
 refine ⟨h.1,fun w F vals hF hal=>(h.2 w F vals hF hal).mono ?_⟩
 rintro en w' ⟨v,F',he,hg,f1,f2,hr⟩
 obtain ⟨F2,f3,f4,hx⟩:=hr.pv (x:=.l rows) rfl;refine ⟨v,F2,he,hg,fun k hk=>f3 k (f1 k hk),fun k hk => ?_,hx⟩;rcases f4 k hk with h | h
 ·exact f2 k h
 ·exact .inr h
end Go.Rx
namespace Go.Proofs.YtmffoiemmlcmfaaGreat.Nx
open Go.Rx Rt Go.Sx Go.RowKit Od Ov Pc Na Nb Nc
noncomputable def yHZ:List PV→Option (Bool × Ret):=fun ps=>match ps with
 | [.a a',.a b']=>(ivD a').bind fun a=>(ivD b').bind fun b=>some (true,.v (.b (Iv.within a b)))
 | _=>none
theorem ok_iWithin:zW Tryz.prog 84 yHZ:=by
 intro ps r h;unfold yHZ at h;split at h
 ·simp only [vQQ,vQZ,vQY] at h;obtain ⟨a,ha,b,hb,hg,rfl⟩:=h;rw [qZY ha];rw [qZY hb];exact zJ (zQ Tryz.func84 (by kernel_rfl) (by kernel_rfl)) rfl rfl (fun w=>iWithin _ _ _ _ w)
 ·cases h
noncomputable def L7:OrL:=(84,yHZ) :: L6
theorem L7_ok:AllP (fun x:Nat × (List PV→Option (Bool × Ret))=>zW Tryz.prog x.1 x.2) L7:=⟨ok_iWithin,L6_ok⟩
noncomputable def o_iValid:List PV→Option (Bool × Ret):=fun ps=>match ps with
 | [.a a']=>(ivD a').bind fun a=>some (true,.v (.b (Iv.valid a)))
 | _=>none
theorem ok_iValid:zW Tryz.prog 135 o_iValid:=by
 intro ps r h;unfold o_iValid at h;split at h
 ·simp only [vQQ,vQZ,vQY] at h;obtain ⟨a,ha,hg,rfl⟩:=h;rw [qZY ha];exact zJ (zQ Tryz.func135 (by kernel_rfl) (by kernel_rfl)) rfl rfl (fun w=>iValid _ _ w)
 ·cases h
noncomputable def L8:OrL:=(135,o_iValid) :: L7
theorem L8_ok:AllP (fun x:Nat × (List PV→Option (Bool × Ret))=>zW Tryz.prog x.1 x.2) L8:=⟨ok_iValid,L7_ok⟩
noncomputable def yGW:List PV→Option (Bool × Ret):=fun ps=>match ps with
 | [.a a',.a b']=>(ivD a').bind fun a=>(ivD b').bind fun b=>some (true,.v (.b (Iv.within a b)))
 | _=>none
theorem ok_rWithin:zW Tryz.prog 94 yGW:=by
 intro ps r h;unfold yGW at h;split at h
 ·simp only [vQQ,vQZ,vQY] at h;obtain ⟨a,ha,b,hb,hg,rfl⟩:=h;rw [qZY ha];rw [qZY hb];exact zJ (zQ Tryz.func94 (by kernel_rfl) (by kernel_rfl)) rfl rfl (fun w=>rWithin _ _ _ _ w)
 ·cases h
noncomputable def L9:OrL:=(94,yGW) :: L8
theorem L9_ok:AllP (fun x:Nat × (List PV→Option (Bool × Ret))=>zW Tryz.prog x.1 x.2) L9:=⟨ok_rWithin,L8_ok⟩
noncomputable def o_rValid:List PV→Option (Bool × Ret):=fun ps=>match ps with
 | [.a a']=>(ivD a').bind fun a=>some (true,.v (.b (Iv.valid a)))
 | _=>none
theorem ok_rValid:zW Tryz.prog 106 o_rValid:=by
 intro ps r h;unfold o_rValid at h;split at h
 ·simp only [vQQ,vQZ,vQY] at h;obtain ⟨a,ha,hg,rfl⟩:=h;rw [qZY ha];exact zJ (zQ Tryz.func106 (by kernel_rfl) (by kernel_rfl)) rfl rfl (fun w=>kYG _ _ w)
 ·cases h
noncomputable def L10:OrL:=(106,o_rValid) :: L9
theorem L10_ok:AllP (fun x:Nat × (List PV→Option (Bool × Ret))=>zW Tryz.prog x.1 x.2) L10:=⟨ok_rValid,L9_ok⟩
def fB (bx:Nat→Iv):Nat→List PV:=fun v=>[.n .i64 (bx v).lo,.n .i64 (bx v).hi]
set_option maxRecDepth 100000 in
theorem tr_cIn (nm:ByteArray) (kind par ox oy oz jlo jhi we spd acc tq a0 a1:Int):runK T (OrL.k L10) 60 83 [.a [.s nm,.n .i64 kind,.n .i64 par,.n .i64 ox,.n .i64 oy,.n .i64 oz,.n .i64 jlo,.n .i64 jhi,.n .i64 we,.n .i64 spd,.n .i64 acc,.n .i64 tq],.a [.n .i64 a0,.n .i64 a1]] =
 some (.v (.b (Iv.within ⟨a0,a1⟩ ⟨jlo,jhi⟩)),[]):=by
 refine (by kernel_rfl:_=bif Iv.within ⟨a0,a1⟩ ⟨jlo,jhi⟩ then some (.v (.b true),[]) else some (.v (.b false),[])).trans ?_;cases Iv.within ⟨a0,a1⟩ ⟨jlo,jhi⟩ <;> rfl
noncomputable def uYW:List PV→Option (Bool × Ret):=fun ps=>match ps with
 | [.a [.s nm,.n .i64 kind,.n .i64 par,.n .i64 ox,.n .i64 oy,.n .i64 oz,.n .i64 jlo,.n .i64 jhi,.n .i64 we,.n .i64 spd,.n .i64 acc,.n .i64 tq],.a a']=>(ivD a').bind fun a=>some (true,.v (.b (Iv.within a ⟨jlo,jhi⟩)))
 | _=>none
theorem ok_cIn:zW Tryz.prog 83 uYW:=by
 intro ps r h;unfold uYW at h;split at h
 ·simp only [vQQ,vQZ,vQY] at h;obtain ⟨a,ha,hg,rfl⟩:=h;rw [qZY ha];exact qG (N:=60) yJ yQ (OrL.ok L10_ok) (tr_cIn _ _ _ _ _ _ _ _ _ _ _ _ _ _)
 ·cases h
noncomputable def L11:OrL:=(83,uYW) :: L10
theorem jGQ:AllP (fun x:Nat × (List PV→Option (Bool × Ret))=>zW Tryz.prog x.1 x.2) L11:=⟨ok_cIn,L10_ok⟩
def hE (js:Nat→J) (bx:Nat→Iv) (n k:Nat) (i:Int):St:=⟨[(1,.v (.lf k (fB bx))),(2,.v (.f 83 [] [])),(14,.v (.lf n (fJ js))),(15,.v (.n .i64 (n:Int))),(16,.v (.n .i64 i))],[]⟩
set_option maxRecDepth 100000 in
theorem rdE (G:St→Option (Ret × Mem)) (K:Cont) (js:Nat→J) (bx:Nat→Iv) (n k:Nat) (i:Int):zKJ 60 (cxF T (OrL.k L11) 60 82 (ntmF T 82)) (ckF T (OrL.k L11) 60) (qY T 82 [0,1,0,1,1]) ((cxF T (OrL.k L11) 60 82 (ntmF T 82)).T.hint (cxF T (OrL.k L11) 60 82 (ntmF T 82)).me (zY (qY T 82 [0,1,0,1,1]))) K G (hE js bx n k i) =
 (bif (decide (i < (n:Int))) then (bif (inB i n) then (bif (inB i k) then (bif Iv.within (bx (i).toNat) ⟨((js (i).toNat).lo),((js (i).toNat).hi)⟩ then (G (hE js bx n k (vJJ .i64 (i + 1))))
 else (K .ret ⟨[(6,.v (.b false))],[]⟩))
 else none)
 else none)
 else (K (.exit 0) ⟨[],[]⟩)):=by kernel_rfl
theorem lpE (K:Cont) (js:Nat→J) (bx:Nat→Iv) (n k:Nat) (hn:n≤50) (hk:n=k):LF 60 (cxF T (OrL.k L11) 60 82 (ntmF T 82)) (ckF T (OrL.k L11) 60) (qY T 82 [0,1,0,1,1]) ((cxF T (OrL.k L11) 60 82 (ntmF T 82)).T.hint (cxF T (OrL.k L11) 60 82 (ntmF T 82)).me (zY (qY T 82 [0,1,0,1,1]))) K 60 (hE js bx n k 0)=bif (allN (fun i:Nat=>Iv.within (bx i) ⟨(js i).lo,(js i).hi⟩) n 0) then (K (.exit 0) ⟨[],[]⟩) else (K .ret ⟨[(6,.v (.b false))],[]⟩):=by
 refine (zJV (c:=n) (hE js bx n k) (fun i:Nat=>Iv.within (bx i) ⟨(js i).lo,(js i).hi⟩) (K (.exit 0) ⟨[],[]⟩) (fun i:Nat=>(K .ret ⟨[(6,.v (.b false))],[]⟩)) (fun G i hi => ?_) (fun G => ?_) n 0 60 (by omega) (by omega)).trans (qYJ _ _ _ _ _)
 ·refine (rdE G K js bx n k i).trans ?_;rw [vJQ (show (i:Int) < (n:Int) by omega),qQQ (by omega),yW (show i < n by omega),yW (show i < k by omega),toN];rfl
 ·refine (rdE G K js bx n k n).trans ?_;rw [vYH (show ¬ (n:Int) < (n:Int) by omega)];rfl
def insB (js:Nat→J) (bx:Nat→Iv) (n k:Nat):Bool:=decide ((n:Int)=(k:Int)) && (allN (fun i:Nat=>Iv.within (bx i) ⟨(js i).lo,(js i).hi⟩) n 0)
set_option maxRecDepth 100000 in
theorem pxevery (js:Nat→J) (bx:Nat→Iv) (n k:Nat):qYH T (OrL.k L11) (zZ [([0,1,0,1,1],jX (hE js bx n k 0) (fun K=>(bif (decide ((n:Int)=(k:Int)) && decide (n≤50)) then (bif (allN (fun i:Nat=>Iv.within (bx i) ⟨(js i).lo,(js i).hi⟩) n 0) then (K (.exit 0) ⟨[],[]⟩) else (K .ret ⟨[(6,.v (.b false))],[]⟩)) else none)))]) 60 82 [.lf n (fJ js),.lf k (fB bx),.f 83 [] []] =
 (bif (!decide ((n:Int)=(k:Int))) then some (.v (.b false),[])
 else (bif (gSt (hE js bx n k 0) (hE js bx n k 0)) then (bif (decide ((n:Int)=(k:Int)) && decide (n≤50)) then (bif (allN (fun i:Nat=>Iv.within (bx i) ⟨(js i).lo,(js i).hi⟩) n 0) then some (.v (.b true),[])
 else some (.v (.b false),[]))
 else none)
 else none)):=by kernel_rfl
theorem snd_every (js:Nat→J) (bx:Nat→Iv) (n k:Nat) (hn:n≤50):zH Tryz.prog 82 [.lf n (fJ js),.lf k (fB bx),.f 83 [] []] (.v (.b (insB js bx n k))):=by
 refine jV (N:=60) (LO:=zZ [([0,1,0,1,1],jX (hE js bx n k 0) (fun K=>(bif (decide ((n:Int)=(k:Int)) && decide (n≤50)) then (bif (allN (fun i:Nat=>Iv.within (bx i) ⟨(js i).lo,(js i).hi⟩) n 0) then (K (.exit 0) ⟨[],[]⟩) else (K .ret ⟨[(6,.v (.b false))],[]⟩)) else none)))]) yJ yQ (OrL.ok (l:=L11) jGQ) (fun p S hp => ?_) ?_
 ·refine uY (L:=qY T 82) (l:=[([0,1,0,1,1],jX (hE js bx n k 0) (fun K=>(bif (decide ((n:Int)=(k:Int)) && decide (n≤50)) then (bif (allN (fun i:Nat=>Iv.within (bx i) ⟨(js i).lo,(js i).hi⟩) n 0) then (K (.exit 0) ⟨[],[]⟩) else (K .ret ⟨[(6,.v (.b false))],[]⟩)) else none)))]) (show AllP _ [([0,1,0,1,1],jX (hE js bx n k 0) (fun K=>(bif (decide ((n:Int)=(k:Int)) && decide (n≤50)) then (bif (allN (fun i:Nat=>Iv.within (bx i) ⟨(js i).lo,(js i).hi⟩) n 0) then (K (.exit 0) ⟨[],[]⟩) else (K .ret ⟨[(6,.v (.b false))],[]⟩)) else none)))] from ⟨qQU fun K r hr => ?_,trivial⟩) p S hp
  ·obtain ⟨hg,hr⟩:=qH hr;rw [vQJ] at hg;have hn:=vJZ hg.2;have hk:n=k:=by have:=vJZ hg.1; omega
   exact (lpE K js bx n k hn hk).trans hr
 ·refine (pxevery js bx n k).trans ?_;unfold insB;rw [yG,vJQ hn];cases decide ((n:Int)=(k:Int)) <;> cases (allN (fun i:Nat=>Iv.within (bx i) ⟨(js i).lo,(js i).hi⟩) n 0) <;> rfl
noncomputable def o_ev (js:Nat→J) (bx:Nat→Iv) (n k:Nat):List PV→Option (Bool × Ret):=fun ps=>some (gEq (.t ps) (.t [.lf n (fJ js),.lf k (fB bx),.f 83 [] []]) && decide (n≤50),.v (.b (insB js bx n k)))
theorem ok_ev (js:Nat→J) (bx:Nat→Iv) (n k:Nat):zW Tryz.prog 82 (o_ev js bx n k):=by
 intro ps q hh;unfold o_ev at hh;simp only [vQZ,vQY,vQJ] at hh;obtain ⟨⟨hg,hb⟩,rfl⟩:=hh
 have:=zJQ hg
 simp only [PV.t.injEq] at this;rw [this];exact snd_every js bx n k (vJZ hb)
theorem qXU {js:Nat→J} {ms:Nat→Ms} {n m:Nat} (h:rErr js ms n m=0):1≤n∧n≤10:=by
 unfold rErr at h;by_cases h0:(n:Int)=0
 ·rw [vJQ h0] at h; cases h
 by_cases h1:10 < (n:Int)
 ·rw [vYH h0,vJQ h1] at h; cases h
 omega
def pIn (js:Nat→J) (ms:Nat→Ms) (bx:Nat→Iv) (n m k:Nat):Bool:=decide (rErr js ms n m=0) && insB js bx n k
theorem snd_pIn (js:Nat→J) (ms:Nat→Ms) (bx:Nat→Iv) (n m k:Nat):zH Tryz.prog 54 [.a [.lf n (fJ js),.lf m (fM ms)],.lf k (fB bx)] (.v (.b (pIn js ms bx n m k))):=by
 refine qG (N:=60) yJ yQ (OrL.ok (l:=[(50,o_cr [.a [.lf n (fJ js),.lf m (fM ms)]] (.v (.n .i64 (rErr js ms n m)))),(82,o_ev js bx n k)]) ⟨qZX (yVQ js ms n m),ok_ev js bx n k,trivial⟩) ?_;refine (by kernel_rfl:_=bif (g1 [.a [.lf n (fJ js),.lf m (fM ms)]]) then (bif (decide ((rErr js ms n m)=0)) then (bif (g1 [.lf n (fJ js),.lf k (fB bx),.f 83 [] []] && decide (n≤50)) then (bif (insB js bx n k) then some (.v (.b true),[])
 else some (.v (.b false),[]))
 else none)
 else some (.v (.b false),[]))
 else none).trans ?_
 unfold pIn;rw [g1_t,g1_t];by_cases h:rErr js ms n m=0
 ·have:=qXU h
  rw [vJQ h,vJQ (show n≤50 by omega)];cases insB js bx n k <;> rfl
 ·rw [vYH h]; rfl
def hA (bx:Nat→Iv) (k:Nat) (i:Int):St:=⟨[(0,.v (.lf k (fB bx))),(3,.v (.n .i64 i))],[]⟩
set_option maxRecDepth 100000 in
theorem rdA (G:St→Option (Ret × Mem)) (K:Cont) (bx:Nat→Iv) (k:Nat) (i:Int):zKJ 60 (cxF T (OrL.k L11) 60 93 (ntmF T 93)) (ckF T (OrL.k L11) 60) (qY T 93 [0,1,0,1]) ((cxF T (OrL.k L11) 60 93 (ntmF T 93)).T.hint (cxF T (OrL.k L11) 60 93 (ntmF T 93)).me (zY (qY T 93 [0,1,0,1]))) K G (hA bx k i) =
 (bif (decide (i < (k:Int))) then (bif (inB i k) then (bif Iv.valid (bx (i).toNat) then (G (hA bx k (vJJ .i64 (i + 1))))
 else (K .ret ⟨[(2,.v (.b false))],[]⟩))
 else none)
 else (K (.exit 0) ⟨[],[]⟩)):=by kernel_rfl
theorem lpA (K:Cont) (bx:Nat→Iv) (k:Nat) (hk:k≤50):LF 60 (cxF T (OrL.k L11) 60 93 (ntmF T 93)) (ckF T (OrL.k L11) 60) (qY T 93 [0,1,0,1]) ((cxF T (OrL.k L11) 60 93 (ntmF T 93)).T.hint (cxF T (OrL.k L11) 60 93 (ntmF T 93)).me (zY (qY T 93 [0,1,0,1]))) K 60 (hA bx k 0)=bif (allN (fun i:Nat=>Iv.valid (bx i)) k 0) then (K (.exit 0) ⟨[],[]⟩) else (K .ret ⟨[(2,.v (.b false))],[]⟩):=by
 refine (zJV (c:=k) (hA bx k) (fun i:Nat=>Iv.valid (bx i)) (K (.exit 0) ⟨[],[]⟩) (fun i:Nat=>(K .ret ⟨[(2,.v (.b false))],[]⟩)) (fun G i hi => ?_) (fun G => ?_) k 0 60 (by omega) (by omega)).trans (qYJ _ _ _ _ _)
 ·refine (rdA G K bx k i).trans ?_;rw [vJQ (show (i:Int) < (k:Int) by omega),qQQ (by omega),yW (show i < k by omega),toN];cases Iv.valid (bx i) <;> rfl
 ·refine (rdA G K bx k k).trans ?_;rw [vYH (show ¬ (k:Int) < (k:Int) by omega)];rfl
def allV (bx:Nat→Iv) (k:Nat):Bool:=(allN (fun i:Nat=>Iv.valid (bx i)) k 0)
set_option maxRecDepth 100000 in
theorem pxallv (bx:Nat→Iv) (k:Nat):qYH T (OrL.k L11) (zZ [([0,1,0,1],jX (hA bx k 0) (fun K=>(bif (decide (k≤50)) then (bif (allN (fun i:Nat=>Iv.valid (bx i)) k 0) then (K (.exit 0) ⟨[],[]⟩) else (K .ret ⟨[(2,.v (.b false))],[]⟩)) else none)))]) 60 93 [.lf k (fB bx)] =
 (bif (gSt (hA bx k 0) (hA bx k 0)) then (bif (decide (k≤50)) then (bif (allN (fun i:Nat=>Iv.valid (bx i)) k 0) then some (.v (.b true),[])
 else some (.v (.b false),[]))
 else none)
 else none):=by kernel_rfl
theorem snd_allv (bx:Nat→Iv) (k:Nat) (hk:k≤50):zH Tryz.prog 93 [.lf k (fB bx)] (.v (.b (allV bx k))):=by
 refine jV (N:=60) (LO:=zZ [([0,1,0,1],jX (hA bx k 0) (fun K=>(bif (decide (k≤50)) then (bif (allN (fun i:Nat=>Iv.valid (bx i)) k 0) then (K (.exit 0) ⟨[],[]⟩) else (K .ret ⟨[(2,.v (.b false))],[]⟩)) else none)))]) yJ yQ (OrL.ok (l:=L11) jGQ) (fun p S hp => ?_) ?_
 ·refine uY (L:=qY T 93) (l:=[([0,1,0,1],jX (hA bx k 0) (fun K=>(bif (decide (k≤50)) then (bif (allN (fun i:Nat=>Iv.valid (bx i)) k 0) then (K (.exit 0) ⟨[],[]⟩) else (K .ret ⟨[(2,.v (.b false))],[]⟩)) else none)))]) (show AllP _ [([0,1,0,1],jX (hA bx k 0) (fun K=>(bif (decide (k≤50)) then (bif (allN (fun i:Nat=>Iv.valid (bx i)) k 0) then (K (.exit 0) ⟨[],[]⟩) else (K .ret ⟨[(2,.v (.b false))],[]⟩)) else none)))] from ⟨qQU fun K r hr => ?_,trivial⟩) p S hp
  ·obtain ⟨hg,hr⟩:=qH hr;have hk:=vJZ hg;exact (lpA K bx k hk).trans hr
 ·refine (pxallv bx k).trans ?_;unfold allV;rw [yG,vJQ hk];cases (allN (fun i:Nat=>Iv.valid (bx i)) k 0) <;> rfl
def limB (js:Nat→J):Nat→Iv:=fun i=>⟨(js i).lo,(js i).hi⟩
def hL (js:Nat→J) (ms:Nat→Ms) (n m:Nat) (i:Int) (rows:List (List PV)):St:=⟨[(1,.p 1 0),(3,.o 30),(4,.v (.n .i64 i))],[(1,.blk [.v (.lf n (fJ js)),.v (.lf m (fM ms))]),(30,.reg 72 2 (.l rows))]⟩
set_option maxRecDepth 100000 in
theorem rdL (G:St→Option (Ret × Mem)) (K:Cont) (js:Nat→J) (ms:Nat→Ms) (n m:Nat) (i:Int) (rows:List (List PV)):zKJ 60 (cxF T (OrL.k [(37,o_cr [.a [.lf n (fJ js),.lf m (fM ms)]] (.v (.n .i64 (rErr js ms n m))))]) 60 63 (ntmF T 63)) (ckF T (OrL.k [(37,o_cr [.a [.lf n (fJ js),.lf m (fM ms)]] (.v (.n .i64 (rErr js ms n m))))]) 60) (qY T 63 [0,1,0,1,1,1]) ((cxF T (OrL.k [(37,o_cr [.a [.lf n (fJ js),.lf m (fM ms)]] (.v (.n .i64 (rErr js ms n m))))]) 60 63 (ntmF T 63)).T.hint (cxF T (OrL.k [(37,o_cr [.a [.lf n (fJ js),.lf m (fM ms)]] (.v (.n .i64 (rErr js ms n m))))]) 60 63 (ntmF T 63)).me (zY (qY T 63 [0,1,0,1,1,1]))) K G (hL js ms n m i rows) =
 (bif (decide (i < (n:Int))) then (bif (inB i n) then (bif (inB i n) then (bif (decide (rows.length + 1≤1000000)) then (G (hL js ms n m (vJJ .i64 (i + 1)) ((rows ++ [[.n .i64 (js (i).toNat).lo,.n .i64 (js (i).toNat).hi]]))))
 else none)
 else none)
 else none)
 else (K (.exit 0) ⟨[(3,.o 30)],[(30,.reg 72 2 (.l rows))]⟩)):=by kernel_rfl
theorem lpL (K:Cont) (js:Nat→J) (ms:Nat→Ms) (n m:Nat) (hn:n≤50):LF 60 (cxF T (OrL.k [(37,o_cr [.a [.lf n (fJ js),.lf m (fM ms)]] (.v (.n .i64 (rErr js ms n m))))]) 60 63 (ntmF T 63)) (ckF T (OrL.k [(37,o_cr [.a [.lf n (fJ js),.lf m (fM ms)]] (.v (.n .i64 (rErr js ms n m))))]) 60) (qY T 63 [0,1,0,1,1,1]) ((cxF T (OrL.k [(37,o_cr [.a [.lf n (fJ js),.lf m (fM ms)]] (.v (.n .i64 (rErr js ms n m))))]) 60 63 (ntmF T 63)).T.hint (cxF T (OrL.k [(37,o_cr [.a [.lf n (fJ js),.lf m (fM ms)]] (.v (.n .i64 (rErr js ms n m))))]) 60 63 (ntmF T 63)).me (zY (qY T 63 [0,1,0,1,1,1]))) K 60 (hL js ms n m 0 [])=(K (.exit 0) ⟨[(3,.o 30)],[(30,.reg 72 2 (.l ((List.range n).map (fun i:Nat=>[.n .i64 (js i).lo,.n .i64 (js i).hi]))))]⟩):=by
 refine (kVV (c:=n) (hL js ms n m) (fun i:Nat=>[.n .i64 (js i).lo,.n .i64 (js i).hi]) (fun rows=>(K (.exit 0) ⟨[(3,.o 30)],[(30,.reg 72 2 (.l rows))]⟩)) (fun G i rows hi hl => ?_) (fun G rows hl => ?_) n 0 60 [] rfl (by omega) (by omega)).trans (congrArg (fun rows=>(K (.exit 0) ⟨[(3,.o 30)],[(30,.reg 72 2 (.l rows))]⟩)) (rng0 n _))
 ·refine (rdL G K js ms n m i rows).trans ?_;rw [vJQ (show (i:Int) < (n:Int) by omega),qQQ (by omega),yW (show i < n by omega),vJQ (show rows.length + 1≤1000000 by omega),toN];rfl
 ·refine (rdL G K js ms n m n rows).trans ?_;rw [vYH (show ¬ (n:Int) < (n:Int) by omega)];rfl
set_option maxRecDepth 100000 in
theorem pxlimO (js:Nat→J) (ms:Nat→Ms) (n m:Nat):qYH T (OrL.k [(37,o_cr [.a [.lf n (fJ js),.lf m (fM ms)]] (.v (.n .i64 (rErr js ms n m))))]) (zZ [([0,1,0,1,1,1],jX (hL js ms n m 0 []) (fun K=>(bif (decide (n≤50)) then (K (.exit 0) ⟨[(3,.o 30)],[(30,.reg 72 2 (.l ((List.range n).map (fun i:Nat=>[.n .i64 (js i).lo,.n .i64 (js i).hi]))))]⟩) else none)))]) 60 63 [.a [.lf n (fJ js),.lf m (fM ms)]] =
 (bif (g1 [.a [.lf n (fJ js),.lf m (fM ms)]]) then (bif (!decide ((rErr js ms n m)=0)) then some (.v (.l []),[])
 else (bif (gSt (hL js ms n m 0 []) (hL js ms n m 0 [])) then (bif (decide (n≤50)) then some (.ow 72 2 (.l ((List.range n).map (fun i:Nat=>[.n .i64 (js i).lo,.n .i64 (js i).hi]))),[])
 else none)
 else none))
 else none):=by kernel_rfl
theorem snd_limO (js:Nat→J) (ms:Nat→Ms) (n m:Nat):zH Tryz.prog 63 [.a [.lf n (fJ js),.lf m (fM ms)]] (bif decide (rErr js ms n m=0) then .ow 72 2 (.l ((List.range n).map (fun i:Nat=>[.n .i64 (js i).lo,.n .i64 (js i).hi]))) else .v (.l [])):=by
 refine jV (N:=60) (LO:=zZ [([0,1,0,1,1,1],jX (hL js ms n m 0 []) (fun K=>(bif (decide (n≤50)) then (K (.exit 0) ⟨[(3,.o 30)],[(30,.reg 72 2 (.l ((List.range n).map (fun i:Nat=>[.n .i64 (js i).lo,.n .i64 (js i).hi]))))]⟩) else none)))]) yJ yQ (OrL.ok (l:=[(37,o_cr [.a [.lf n (fJ js),.lf m (fM ms)]] (.v (.n .i64 (rErr js ms n m))))]) ⟨qZX (yWH js ms n m),trivial⟩) (fun p S hp => ?_) ?_
 ·refine uY (L:=qY T 63) (l:=[([0,1,0,1,1,1],jX (hL js ms n m 0 []) (fun K=>(bif (decide (n≤50)) then (K (.exit 0) ⟨[(3,.o 30)],[(30,.reg 72 2 (.l ((List.range n).map (fun i:Nat=>[.n .i64 (js i).lo,.n .i64 (js i).hi]))))]⟩) else none)))]) (show AllP _ [([0,1,0,1,1,1],jX (hL js ms n m 0 []) (fun K=>(bif (decide (n≤50)) then (K (.exit 0) ⟨[(3,.o 30)],[(30,.reg 72 2 (.l ((List.range n).map (fun i:Nat=>[.n .i64 (js i).lo,.n .i64 (js i).hi]))))]⟩) else none)))] from ⟨qQU fun K r hr => ?_,trivial⟩) p S hp
  ·obtain ⟨hg,hr⟩:=qH hr;have hn:=vJZ hg;exact (lpL K js ms n m hn).trans hr
 ·refine (pxlimO js ms n m).trans ?_;rw [g1_t,yG];by_cases h:rErr js ms n m=0
  ·have:=qXU h
   rw [vJQ h,vJQ (show n≤50 by omega)];rfl
  ·rw [vYH h];rfl
theorem snd_lim (js:Nat→J) (ms:Nat→Ms) (n m:Nat):zH Tryz.prog 63 [.a [.lf n (fJ js),.lf m (fM ms)]] (.v (.lf (bif decide (rErr js ms n m=0) then n else 0) (fB (limB js)))):=by
 have h0:=snd_limO js ms n m;by_cases h:rErr js ms n m=0
 ·rw [vJQ h] at h0 ⊢;exact qQW (Same.lf rfl) (zGK h0)
 ·rw [vYH h] at h0 ⊢;exact qQW (Same.lf rfl) h0
def unFB (f:Nat→List PV):Nat→Iv:=fun i=>match f i with
 | [.n _ lo,.n _ hi]=>⟨lo,hi⟩
 | _=>⟨0,0⟩
theorem jGX (bx:Nat→Iv):unFB (fB bx)=bx:=rfl
noncomputable def gFB (f:Nat→List PV):Bool:=@decide (f=fB (unFB f)) (vYJ _)
theorem kGJ (bx:Nat→Iv):gFB (fB bx)=true:=@vJQ _ (vYJ _) rfl
noncomputable def o_av:List PV→Option (Bool × Ret):=fun ps=>match ps with
 | [.lf k f]=>some (decide (k≤50) && gFB f,.v (.b (allV (unFB f) k)))
 | _=>none
theorem ok_av:zW Tryz.prog 93 o_av:=by
 intro ps r hh;unfold o_av at hh;split at hh
 ·simp only [vQZ,vQY,vQJ] at hh;obtain ⟨⟨hk,hf⟩,rfl⟩:=hh;rename_i k f;have e:f=fB (unFB f):=@vJZ _ (vYJ _) hf
  have:=snd_allv (unFB f) k (vJZ hk)
  rw [← e] at this;exact this
 ·cases hh
def hW (bx bz:Nat→Iv) (k l:Nat) (i:Int):St:=⟨[(0,.v (.lf k (fB bx))),(1,.v (.lf l (fB bz))),(5,.v (.n .i64 i))],[]⟩
set_option maxRecDepth 100000 in
theorem rdW (G:St→Option (Ret × Mem)) (K:Cont) (bx bz:Nat→Iv) (k l:Nat) (i:Int):zKJ 60 (cxF T (OrL.k ((93,o_av) :: L11)) 60 62 (ntmF T 62)) (ckF T (OrL.k ((93,o_av) :: L11)) 60) (qY T 62 [0,1,0,1,1]) ((cxF T (OrL.k ((93,o_av) :: L11)) 60 62 (ntmF T 62)).T.hint (cxF T (OrL.k ((93,o_av) :: L11)) 60 62 (ntmF T 62)).me (zY (qY T 62 [0,1,0,1,1]))) K G (hW bx bz k l i) =
 (bif (decide (i < (k:Int))) then (bif (inB i k) then (bif (inB i l) then (bif Iv.within (bx (i).toNat) (bz (i).toNat) then (G (hW bx bz k l (vJJ .i64 (i + 1))))
 else (K .ret ⟨[(4,.v (.b false))],[]⟩))
 else none)
 else none)
 else (K (.exit 0) ⟨[],[]⟩)):=by kernel_rfl
theorem lpW (K:Cont) (bx bz:Nat→Iv) (k l:Nat) (hk:k≤50) (hl:k=l):LF 60 (cxF T (OrL.k ((93,o_av) :: L11)) 60 62 (ntmF T 62)) (ckF T (OrL.k ((93,o_av) :: L11)) 60) (qY T 62 [0,1,0,1,1]) ((cxF T (OrL.k ((93,o_av) :: L11)) 60 62 (ntmF T 62)).T.hint (cxF T (OrL.k ((93,o_av) :: L11)) 60 62 (ntmF T 62)).me (zY (qY T 62 [0,1,0,1,1]))) K 60 (hW bx bz k l 0)=bif (allN (fun i:Nat=>Iv.within (bx i) (bz i)) k 0) then (K (.exit 0) ⟨[],[]⟩) else (K .ret ⟨[(4,.v (.b false))],[]⟩):=by
 refine (zJV (c:=k) (hW bx bz k l) (fun i:Nat=>Iv.within (bx i) (bz i)) (K (.exit 0) ⟨[],[]⟩) (fun i:Nat=>(K .ret ⟨[(4,.v (.b false))],[]⟩)) (fun G i hi => ?_) (fun G => ?_) k 0 60 (by omega) (by omega)).trans (qYJ _ _ _ _ _)
 ·refine (rdW G K bx bz k l i).trans ?_;rw [vJQ (show (i:Int) < (k:Int) by omega),qQQ (by omega),yW (show i < k by omega),yW (show i < l by omega),toN];cases Iv.within (bx i) (bz i) <;> rfl
 ·refine (rdW G K bx bz k l k).trans ?_;rw [vYH (show ¬ (k:Int) < (k:Int) by omega)];rfl
def wIn (bx bz:Nat→Iv) (k l:Nat):Bool:=allV bx k && (allV bz l && (decide ((k:Int)=(l:Int)) && (allN (fun i:Nat=>Iv.within (bx i) (bz i)) k 0)))
set_option maxRecDepth 100000 in
theorem pxwIn (bx bz:Nat→Iv) (k l:Nat):qYH T (OrL.k ((93,o_av) :: L11)) (zZ [([0,1,0,1,1],jX (hW bx bz k l 0) (fun K=>(bif (decide ((k:Int)=(l:Int)) && decide (k≤50)) then (bif (allN (fun i:Nat=>Iv.within (bx i) (bz i)) k 0) then (K (.exit 0) ⟨[],[]⟩) else (K .ret ⟨[(4,.v (.b false))],[]⟩)) else none)))]) 60 62 [.lf k (fB bx),.lf l (fB bz)] =
 (bif (decide (k≤50) && gFB (fB bx)) then (bif (allV (unFB (fB bx)) k) then (bif (decide (l≤50) && gFB (fB bz)) then (bif (allV (unFB (fB bz)) l) then (bif (!decide ((k:Int)=(l:Int))) then some (.v (.b false),[])
 else (bif (gSt (hW bx bz k l 0) (hW bx bz k l 0)) then (bif (decide ((k:Int)=(l:Int)) && decide (k≤50)) then (bif (allN (fun i:Nat=>Iv.within (bx i) (bz i)) k 0) then some (.v (.b true),[])
 else some (.v (.b false),[]))
 else none)
 else none))
 else some (.v (.b false),[]))
 else none)
 else some (.v (.b false),[]))
 else none):=by kernel_rfl
theorem snd_wIn (bx bz:Nat→Iv) (k l:Nat) (hk:k≤50) (hl:l≤50):zH Tryz.prog 62 [.lf k (fB bx),.lf l (fB bz)] (.v (.b (wIn bx bz k l))):=by
 refine jV (N:=60) (LO:=zZ [([0,1,0,1,1],jX (hW bx bz k l 0) (fun K=>(bif (decide ((k:Int)=(l:Int)) && decide (k≤50)) then (bif (allN (fun i:Nat=>Iv.within (bx i) (bz i)) k 0) then (K (.exit 0) ⟨[],[]⟩) else (K .ret ⟨[(4,.v (.b false))],[]⟩)) else none)))]) yJ yQ (OrL.ok (l:=((93,o_av) :: L11)) ⟨ok_av,jGQ⟩) (fun p S hp => ?_) ?_
 ·refine uY (L:=qY T 62) (l:=[([0,1,0,1,1],jX (hW bx bz k l 0) (fun K=>(bif (decide ((k:Int)=(l:Int)) && decide (k≤50)) then (bif (allN (fun i:Nat=>Iv.within (bx i) (bz i)) k 0) then (K (.exit 0) ⟨[],[]⟩) else (K .ret ⟨[(4,.v (.b false))],[]⟩)) else none)))]) (show AllP _ [([0,1,0,1,1],jX (hW bx bz k l 0) (fun K=>(bif (decide ((k:Int)=(l:Int)) && decide (k≤50)) then (bif (allN (fun i:Nat=>Iv.within (bx i) (bz i)) k 0) then (K (.exit 0) ⟨[],[]⟩) else (K .ret ⟨[(4,.v (.b false))],[]⟩)) else none)))] from ⟨qQU fun K r hr => ?_,trivial⟩) p S hp
  ·obtain ⟨hg,hr⟩:=qH hr;rw [vQJ] at hg;have hk:=vJZ hg.2;have hl:k=l:=by have:=vJZ hg.1; omega
   exact (lpW K bx bz k l hk hl).trans hr
 ·refine (pxwIn bx bz k l).trans ?_;unfold wIn;rw [yG,vJQ hk,vJQ hl,kGJ,kGJ,jGX,jGX];cases allV bx k <;> cases allV bz l <;> cases decide ((k:Int)=(l:Int)) <;> cases (allN (fun i:Nat=>Iv.within (bx i) (bz i)) k 0) <;> rfl
def rIn (js:Nat→J) (ms:Nat→Ms) (bx:Nat→Iv) (n m k:Nat):Bool:=wIn bx (limB js) k (bif decide (rErr js ms n m=0) then n else 0) && decide (0 < (k:Int))
theorem snd_rIn (js:Nat→J) (ms:Nat→Ms) (bx:Nat→Iv) (n m k:Nat) (hk:k≤50):zH Tryz.prog 35 [.a [.lf n (fJ js),.lf m (fM ms)],.lf k (fB bx)] (.v (.b (rIn js ms bx n m k))):=by
 have hl:(bif decide (rErr js ms n m=0) then n else 0)≤50:=by
  by_cases h:rErr js ms n m=0
  ·have:=qXU h
   rw [vJQ h,vYV];omega
  ·rw [vYH h,vYG];omega
 refine qG (N:=60) yJ yQ (OrL.ok (l:=[(63,o_cr [.a [.lf n (fJ js),.lf m (fM ms)]] (.v (.lf (bif decide (rErr js ms n m=0) then n else 0) (fB (limB js))))),(62,o_cr [.lf k (fB bx),.lf (bif decide (rErr js ms n m=0) then n else 0) (fB (limB js))] (.v (.b (wIn bx (limB js) k (bif decide (rErr js ms n m=0) then n else 0)))))]) ⟨qZX (snd_lim js ms n m),qZX (snd_wIn bx (limB js) k (bif decide (rErr js ms n m=0) then n else 0) hk hl),trivial⟩) ?_;refine (by kernel_rfl:_=bif (g1 [.a [.lf n (fJ js),.lf m (fM ms)]]) then (bif (g1 [.lf k (fB bx),.lf (bif decide (rErr js ms n m=0) then n else 0) (fB (limB js))]) then (bif (wIn bx (limB js) k (bif decide (rErr js ms n m=0) then n else 0)) then (bif (decide (0 < (k:Int))) then some (.v (.b true),[])
 else some (.v (.b false),[]))
 else some (.v (.b false),[]))
 else none)
 else none).trans ?_
 unfold rIn;rw [g1_t,g1_t];cases wIn bx (limB js) k (bif decide (rErr js ms n m=0) then n else 0) <;> cases decide (0 < (k:Int)) <;> rfl
theorem zXK {a b:Iv} (h:Iv.within a b=true):Iv.valid a=true∧Iv.valid b=true:=by
 unfold Iv.within at h;simp only [vQJ] at h;exact ⟨h.1.1.1,h.1.1.2⟩
theorem in_eq (js:Nat→J) (ms:Nat→Ms) (bx:Nat→Iv) (n m k:Nat):rIn js ms bx n m k=pIn js ms bx n m k:=by
 unfold rIn pIn;by_cases h:rErr js ms n m=0
 ·have hn:=qXU h;rw [vJQ h,vYV,vZH];unfold wIn insB;by_cases e:n=k
  ·subst e;rw [vJQ (show (n:Int)=n from rfl),vJQ (show 0 < (n:Int) by omega),Bool.and_true,vZH];cases ha:allN (fun i:Nat=>Iv.within (bx i) ⟨(js i).lo,(js i).hi⟩) n 0 with
   | true =>
    have h1:allV bx n=true:=allN_iff.2 fun j h1 h2=>(zXK (allN_iff.1 ha j h1 h2)).1
    have h2:allV (limB js) n=true:=allN_iff.2 fun j h1 h2=>(zXK (allN_iff.1 ha j h1 h2)).2
    rw [h1,h2];exact ha
   | false =>
    have ha':allN (fun i:Nat=>Iv.within (bx i) (limB js i)) n 0=false:=ha;rw [ha'];simp only [Bool.and_false]
  ·rw [vYH (show ¬ (n:Int)=(k:Int) by omega),vYH (show ¬ (k:Int)=(n:Int) by omega)];simp only [Bool.and_false,Bool.false_and]
 ·rw [vYH h,vYG,Bool.false_and];unfold wIn;by_cases e:k=0
  ·rw [vYH (show ¬ 0 < (k:Int) by omega),Bool.and_false]
  ·rw [vYH (show ¬ (k:Int)=((0:Nat):Int) by omega)];simp only [Bool.and_false,Bool.false_and]
theorem uYZ {js:Nat→J} {ms:Nat→Ms} {bx:Nat→Iv} {n m k:Nat} (h:pIn js ms bx n m k=true):rErr js ms n m=0∧n=k∧∀ i,i < n→Iv.valid (bx i)=true:=by
 unfold pIn insB at h;simp only [vQJ,decide_eq_true_eq] at h;exact ⟨h.1,by omega,fun i hi=>(zXK (allN_iff.1 h.2.2 i (Nat.zero_le _) (by omega))).1⟩
def isB (bx:Nat→Iv) (n k:Nat):Bool:=decide ((k:Int)=(n:Int)) && allV bx k
theorem snd_isR (js:Nat→J) (ms:Nat→Ms) (bx:Nat→Iv) (n m k:Nat) (hk:k≤50):zH Tryz.prog 67 [.a [.lf n (fJ js),.lf m (fM ms)],.lf k (fB bx)] (.v (.b (isB bx n k))):=by
 refine qG (N:=60) yJ yQ (OrL.ok (l:=[(93,o_av)]) ⟨ok_av,trivial⟩) ?_;refine (by kernel_rfl:_=bif (decide ((k:Int)=(n:Int))) then (bif (decide (k≤50) && gFB (fB bx)) then (bif (allV (unFB (fB bx)) k) then some (.v (.b true),[])
 else some (.v (.b false),[]))
 else none)
 else some (.v (.b false),[])).trans ?_
 unfold isB;rw [vJQ hk,kGJ,jGX];cases decide ((k:Int)=(n:Int)) <;> cases allV bx k <;> rfl
set_option maxRecDepth 100000 in
theorem tr_cNv (a0 a1:Int):runK T (OrL.k L11) 60 137 [.a [.n .i64 a0,.n .i64 a1]] =
 some (.v (.b (!Iv.valid ⟨a0,a1⟩)),[]):=by
 refine (by kernel_rfl:_=bif Iv.valid ⟨a0,a1⟩ then some (.v (.b false),[]) else some (.v (.b true),[])).trans ?_;cases Iv.valid ⟨a0,a1⟩ <;> rfl
noncomputable def uYX:List PV→Option (Bool × Ret):=fun ps=>match ps with
 | [.a a']=>(ivD a').bind fun a=>some (true,.v (.b (!Iv.valid a)))
 | _=>none
theorem ok_cNv:zW Tryz.prog 137 uYX:=by
 intro ps r h;unfold uYX at h;split at h
 ·simp only [vQQ,vQZ,vQY] at h;obtain ⟨a,ha,hg,rfl⟩:=h;rw [qZY ha];exact qG (N:=60) yJ yQ (OrL.ok jGQ) (tr_cNv _ _)
 ·cases h
noncomputable def L12:OrL:=(137,uYX) :: L11
theorem kHJ:AllP (fun x:Nat × (List PV→Option (Bool × Ret))=>zW Tryz.prog x.1 x.2) L12:=⟨ok_cNv,jGQ⟩
def hI (bx:Nat→Iv) (k:Nat) (i:Int):St:=⟨[(0,.v (.lf k (fB bx))),(1,.v (.f 137 [] [])),(7,.v (.n .i64 (k:Int))),(8,.v (.n .i64 i))],[]⟩
set_option maxRecDepth 100000 in
theorem rdI (G:St→Option (Ret × Mem)) (K:Cont) (bx:Nat→Iv) (k:Nat) (i:Int):zKJ 60 (cxF T (OrL.k L12) 60 145 (ntmF T 145)) (ckF T (OrL.k L12) 60) (qY T 145 [0,1,0,1]) ((cxF T (OrL.k L12) 60 145 (ntmF T 145)).T.hint (cxF T (OrL.k L12) 60 145 (ntmF T 145)).me (zY (qY T 145 [0,1,0,1]))) K G (hI bx k i) =
 (bif (decide (i < (k:Int))) then (bif (inB i k) then (bif !Iv.valid (bx (i).toNat) then (K .ret ⟨[(4,.v (.n .i64 i))],[]⟩)
 else (G (hI bx k (vJJ .i64 (i + 1)))))
 else none)
 else (K (.exit 0) ⟨[],[]⟩)):=by kernel_rfl
theorem lpI (K:Cont) (bx:Nat→Iv) (k:Nat) (hk:k≤50):LF 60 (cxF T (OrL.k L12) 60 145 (ntmF T 145)) (ckF T (OrL.k L12) 60) (qY T 145 [0,1,0,1]) ((cxF T (OrL.k L12) 60 145 (ntmF T 145)).T.hint (cxF T (OrL.k L12) 60 145 (ntmF T 145)).me (zY (qY T 145 [0,1,0,1]))) K 60 (hI bx k 0)=bif (allN (fun i:Nat=>Iv.valid (bx i)) k 0) then (K (.exit 0) ⟨[],[]⟩) else (K .ret ⟨[(4,.v (.n .i64 ((uX (fun i:Nat=>Iv.valid (bx i)) k 0:Nat):Int)))],[]⟩):=by
 refine (zJV (c:=k) (hI bx k) (fun i:Nat=>Iv.valid (bx i)) (K (.exit 0) ⟨[],[]⟩) (fun i:Nat=>(K .ret ⟨[(4,.v (.n .i64 (i:Int)))],[]⟩)) (fun G i hi => ?_) (fun G => ?_) k 0 60 (by omega) (by omega)).trans (zXV _ _ _ _ _)
 ·refine (rdI G K bx k i).trans ?_;rw [vJQ (show (i:Int) < (k:Int) by omega),qQQ (by omega),yW (show i < k by omega),toN];cases Iv.valid (bx i) <;> rfl
 ·refine (rdI G K bx k k).trans ?_;rw [vYH (show ¬ (k:Int) < (k:Int) by omega)];rfl
set_option maxRecDepth 100000 in
theorem pxidx (bx:Nat→Iv) (k:Nat):qYH T (OrL.k L12) (zZ [([0,1,0,1],jX (hI bx k 0) (fun K=>(bif (decide (k≤50)) then (bif (allN (fun i:Nat=>Iv.valid (bx i)) k 0) then (K (.exit 0) ⟨[],[]⟩) else (K .ret ⟨[(4,.v (.n .i64 ((uX (fun i:Nat=>Iv.valid (bx i)) k 0:Nat):Int)))],[]⟩)) else none)))]) 60 145 [.lf k (fB bx),.f 137 [] []] =
 (bif (gSt (hI bx k 0) (hI bx k 0)) then (bif (decide (k≤50)) then (bif (allN (fun i:Nat=>Iv.valid (bx i)) k 0) then some (.v (.n .i64 (-1)),[])
 else some (.v (.n .i64 ((uX (fun i:Nat=>Iv.valid (bx i)) k 0:Nat):Int)),[]))
 else none)
 else none):=by kernel_rfl
theorem snd_idx (bx:Nat→Iv) (k:Nat) (hk:k≤50):zH Tryz.prog 145 [.lf k (fB bx),.f 137 [] []] (.v (.n .i64 (bif allV bx k then -1 else ((uX (fun i:Nat=>Iv.valid (bx i)) k 0:Nat):Int)))):=by
 refine jV (N:=60) (LO:=zZ [([0,1,0,1],jX (hI bx k 0) (fun K=>(bif (decide (k≤50)) then (bif (allN (fun i:Nat=>Iv.valid (bx i)) k 0) then (K (.exit 0) ⟨[],[]⟩) else (K .ret ⟨[(4,.v (.n .i64 ((uX (fun i:Nat=>Iv.valid (bx i)) k 0:Nat):Int)))],[]⟩)) else none)))]) yJ yQ (OrL.ok (l:=L12) kHJ) (fun p S hp => ?_) ?_
 ·refine uY (L:=qY T 145) (l:=[([0,1,0,1],jX (hI bx k 0) (fun K=>(bif (decide (k≤50)) then (bif (allN (fun i:Nat=>Iv.valid (bx i)) k 0) then (K (.exit 0) ⟨[],[]⟩) else (K .ret ⟨[(4,.v (.n .i64 ((uX (fun i:Nat=>Iv.valid (bx i)) k 0:Nat):Int)))],[]⟩)) else none)))]) (show AllP _ [([0,1,0,1],jX (hI bx k 0) (fun K=>(bif (decide (k≤50)) then (bif (allN (fun i:Nat=>Iv.valid (bx i)) k 0) then (K (.exit 0) ⟨[],[]⟩) else (K .ret ⟨[(4,.v (.n .i64 ((uX (fun i:Nat=>Iv.valid (bx i)) k 0:Nat):Int)))],[]⟩)) else none)))] from ⟨qQU fun K r hr => ?_,trivial⟩) p S hp
  ·obtain ⟨hg,hr⟩:=qH hr;have hk:=vJZ hg;exact (lpI K bx k hk).trans hr
 ·refine (pxidx bx k).trans ?_;unfold allV;rw [yG,vJQ hk];cases (allN (fun i:Nat=>Iv.valid (bx i)) k 0) <;> rfl
theorem snd_conB (bx:Nat→Iv) (k:Nat) (hk:k≤50):zH Tryz.prog 136 [.lf k (fB bx),.f 137 [] []] (.v (.b (!allV bx k))):=by
 refine qG (N:=60) yJ yQ (OrL.ok (l:=[(145,o_cr [.lf k (fB bx),.f 137 [] []] (.v (.n .i64 (bif allV bx k then -1 else ((uX (fun i:Nat=>Iv.valid (bx i)) k 0:Nat):Int)))))]) ⟨qZX (snd_idx bx k hk),trivial⟩) ?_;refine (by kernel_rfl:_=bif (g1 [.lf k (fB bx),.f 137 [] []]) then (bif (decide (0≤(bif allV bx k then -1 else ((uX (fun i:Nat=>Iv.valid (bx i)) k 0:Nat):Int)))) then some (.v (.b true),[])
 else some (.v (.b false),[]))
 else none).trans ?_
 rw [g1_t];cases allV bx k with
 | true=>rfl
 | false =>
  rw [vYG,vJQ (show 0≤((uX (fun i:Nat=>Iv.valid (bx i)) k 0:Nat):Int) by omega)];rfl
theorem snd_isP (js:Nat→J) (ms:Nat→Ms) (bx:Nat→Iv) (n m k:Nat) (hk:k≤50):zH Tryz.prog 121 [.a [.lf n (fJ js),.lf m (fM ms)],.lf k (fB bx)] (.v (.b (isB bx n k))):=by
 refine qG (N:=60) yJ yQ (OrL.ok (l:=[(136,o_cr [.lf k (fB bx),.f 137 [] []] (.v (.b (!allV bx k))))]) ⟨qZX (snd_conB bx k hk),trivial⟩) ?_;refine (by kernel_rfl:_=bif (decide ((k:Int)=(n:Int))) then (bif (g1 [.lf k (fB bx),.f 137 [] []]) then (bif (!allV bx k) then some (.v (.b false),[])
 else some (.v (.b true),[]))
 else none)
 else some (.v (.b false),[])).trans ?_
 unfold isB;rw [g1_t];cases decide ((k:Int)=(n:Int)) <;> cases allV bx k <;> rfl
end Go.Proofs.YtmffoiemmlcmfaaGreat.Nx
namespace Go.Proofs.YtmffoiemmlcmfaaGreat
open Go.Sx Go.Rx Rt Go.RowKit
namespace Tk
end Tk
open Tk
theorem en139:kH Tryz.prog 139:=zQ Tryz.func139 (by kernel_rfl) (by kernel_rfl)
namespace Tk
noncomputable def zUZ:List PV→Option (Bool × Ret):=fun ps=>match ps with
 | [.a z']=>(z3D z').bind fun z=>some (true,.v (.a (v3C (V3.of z))))
 | _=>none
theorem yGX:zW Tryz.prog 88 zUZ:=by
 intro ps r h;unfold zUZ at h;split at h
 ·simp only [vQQ,vQZ,vQY] at h;obtain ⟨z,hz,hg,rfl⟩:=h;rw [yWX hz];exact zJ (zQ Tryz.func88 (by kernel_rfl) (by kernel_rfl)) rfl rfl (fun w=>mPoint _ _ _ w)
 ·cases h
noncomputable def LTk1:OrL:=(88,zUZ) :: ([]:OrL)
theorem LTk1_ok:AllP (fun x:Nat × (List PV→Option (Bool × Ret))=>zW Tryz.prog x.1 x.2) LTk1:=⟨yGX,trivial⟩
noncomputable def jJU:List PV→Option (Bool × Ret):=fun ps=>match ps with
 | [.a v']=>(v3D v').bind fun v=>some (true,.v (.a (poC (Po.shift v))))
 | _=>none
theorem ok_pShift:zW Tryz.prog 146 jJU:=by
 intro ps r h;unfold jJU at h;split at h
 ·simp only [vQQ,vQZ,vQY] at h;obtain ⟨v,hv,hg,rfl⟩:=h;rw [zJK hv];exact zJ (zQ Tryz.func146 (by kernel_rfl) (by kernel_rfl)) rfl rfl (fun w=>pShift _ _ _ _ _ _ w)
 ·cases h
noncomputable def LTk2:OrL:=(146,jJU) :: LTk1
theorem LTk2_ok:AllP (fun x:Nat × (List PV→Option (Bool × Ret))=>zW Tryz.prog x.1 x.2) LTk2:=⟨ok_pShift,LTk1_ok⟩
noncomputable def kQK:List PV→Option (Bool × Ret):=fun ps=>match ps with
 | [.n .i64 k,.a a']=>(ivD a').bind fun a=>some (true,.v (.a (poC (Po.turn k a))))
 | _=>none
theorem ok_pTurn:zW Tryz.prog 167 kQK:=by
 intro ps r h;unfold kQK at h;split at h
 ·simp only [vQQ,vQZ,vQY] at h;obtain ⟨a,ha,hg,rfl⟩:=h;rw [qZY ha];exact zJ (zQ Tryz.func167 (by kernel_rfl) (by kernel_rfl)) rfl rfl (fun w=>pTurn _ _ _ w)
 ·cases h
noncomputable def LTk3:OrL:=(167,kQK) :: LTk2
theorem LTk3_ok:AllP (fun x:Nat × (List PV→Option (Bool × Ret))=>zW Tryz.prog x.1 x.2) LTk3:=⟨ok_pTurn,LTk2_ok⟩
noncomputable def zGH:List PV→Option (Bool × Ret):=fun ps=>match ps with
 | []=>some (true,.v (.a (poC (Po.rest))))
 | _=>none
theorem ok_pIdentity:zW Tryz.prog 168 zGH:=by
 intro ps r h;unfold zGH at h;split at h
 ·simp only [vQZ,vQY] at h;obtain ⟨hg,rfl⟩:=h;exact zJ (zQ Tryz.func168 (by kernel_rfl) (by kernel_rfl)) rfl rfl (fun w=>pIdentity  w)
 ·cases h
noncomputable def LTk4:OrL:=(168,zGH) :: LTk3
theorem LTk4_ok:AllP (fun x:Nat × (List PV→Option (Bool × Ret))=>zW Tryz.prog x.1 x.2) LTk4:=⟨ok_pIdentity,LTk3_ok⟩
noncomputable def yKQ:List PV→Option (Bool × Ret):=fun ps=>match ps with
 | [.a p',.a q']=>(poD p').bind fun p=>(poD q').bind fun q=>some (true,.v (.a (poC (Po.mul p q))))
 | _=>none
theorem ok_pCompose:zW Tryz.prog 139 yKQ:=by
 intro ps r h;unfold yKQ at h;split at h
 ·simp only [vQQ,vQZ,vQY] at h;obtain ⟨p,hp,q,hq,hg,rfl⟩:=h;rw [jZW hp];rw [jZW hq];exact zJ (zQ Tryz.func139 (by kernel_rfl) (by kernel_rfl)) rfl rfl (fun w=>pCompose _ _ _ _ _ _ _ _ _ _ _ _ _ _ _ _ _ _ _ _ _ _ _ _ _ _ _ _ _ _ _ _ _ _ _ _ _ _ _ _ _ _ _ _ _ _ _ _ w)
 ·cases h
noncomputable def LTk5:OrL:=(139,yKQ) :: LTk4
theorem LTk5_ok:AllP (fun x:Nat × (List PV→Option (Bool × Ret))=>zW Tryz.prog x.1 x.2) LTk5:=⟨ok_pCompose,LTk4_ok⟩
end Tk
set_option maxRecDepth 100000 in
theorem kJoint (a0 a1:Int) (nm:ByteArray) (kind par ox oy oz jlo jhi we spd acc tq:Int) (w:World):Calls Tryz.prog 138 [.agg #[.string nm,.int .i64 kind,.int .i64 par,.int .i64 ox,.int .i64 oy,.int .i64 oz,.int .i64 jlo,.int .i64 jhi,.int .i64 we,.int .i64 spd,.int .i64 acc,.int .i64 tq],.agg #[.int .i64 a0,.int .i64 a1]].toArray w (Rets (po (kUG kind ⟨ox,oy,oz⟩ (⟨a0,a1⟩:Iv))) (w)) :=
 zX (x:=.a (poC (kUG kind ⟨ox,oy,oz⟩ ⟨a0,a1⟩))) (qG (N:=60) (ps:=[.a [.s nm,.n .i64 kind,.n .i64 par,.n .i64 ox,.n .i64 oy,.n .i64 oz,.n .i64 jlo,.n .i64 jhi,.n .i64 we,.n .i64 spd,.n .i64 acc,.n .i64 tq],.a [.n .i64 a0,.n .i64 a1]]) yJ yQ (OrL.ok (l:=LTk5) LTk5_ok) (by
 rcases kind with a | a
 ·rcases a with _ | _ | _ | _ | _ | _ | _ | a <;> kernel_rfl
 ·kernel_rfl)) rfl rfl w
end Go.Proofs.YtmffoiemmlcmfaaGreat
namespace Go.Proofs.YtmffoiemmlcmfaaGreat
open Go.Sx
theorem uJQ:appB Tryz.prog 89 88 24 192=true:=by kernel_rfl
theorem en138:kH Tryz.prog 138:=zQ Tryz.func138 (by kernel_rfl) (by kernel_rfl)
theorem kLinks  (aj am ab:Option Addr) (cj nm cm cb n:Nat) (js:List J) (bx:List Iv) (hn:n≤1000) (hjn:js.length=n) (hbn:bx.length=n) (hpar:∀ (k:Nat) (j:J),js[k]? = some j → -1≤j.parent∧j.parent < k) (w:World) (hS:qJJ 12 aj (js.map jc) w) (hT:qJJ 2 ab (bx.map ivc) w):Calls Tryz.prog 122 [.agg #[.slice aj n cj,.slice am nm cm],.slice ab n cb].toArray w (jXX (X:=Nat) (fun _=>True) (fun b=>.slice (some ⟨b,0,none⟩) n n) (fun b=>qJJ 24 (some ⟨b,0,none⟩) ((lks js bx n).map pc)) w):=by
 refine jY (n:=47) Tryz.func122 rfl rfl rfl ?_;refine qW ?_;refine qZ ?_;refine zYQ 2 rfl rfl rfl rfl ?_; intro b2;refine qJ (qV rfl) rfl rfl rfl ?_;refine qX ?_;refine qQ ?_;refine qW ?_;refine qZ ?_;refine qJ (qU zWU rfl) rfl rfl rfl ?_;refine qJ (yX 2 ty22 rfl rfl rfl) rfl rfl rfl ?_;refine qJ (qUG sl22 rfl) rfl rfl rfl ?_;refine doL_make 11 (jKJ uJQ ze88) rfl (by omega) (by omega) rfl rfl ?_; intro b11;refine qJ (qV rfl) rfl rfl rfl ?_;refine qX ?_;refine qQ ?_;refine qW ?_;refine qW ?_;refine qZ ?_;refine qJ (qU zWU rfl) rfl rfl rfl ?_;refine qJ (yX 2 ty22 rfl rfl rfl) rfl rfl rfl ?_;refine qJ (qUG sl22 rfl) rfl rfl rfl ?_;refine qJ (qK rfl) rfl rfl rfl ?_;refine qX ?_;refine qQ ?_;refine uW ?_;refine zKZ [1,2,5,13,14] [2] (α:=Nat × List Po) (fun x=>n - x.1) (fun x=>x.1≤n∧lks js bx x.1=x.2∧x.2.length=x.1) (fun x=>⟨w,[(11,(· = b11),jXU b11 24 88 (lkR x.2 (n - x.1)))]⟩) (fun x=>[(15,.int .i64 (x.1:Int))]) (fun _=>[]) (0,[]) rfl rfl ?_ ?_ ?_ ?_ rfl ?_
 ·
  exact ⟨Nat.zero_le _,rfl,rfl⟩
 ·
  exact rfl
 ·
  repeat' first | exact trivial | exact True.intro | refine ⟨rfl,?_⟩
 ·
  repeat' first | exact trivial | exact True.intro | refine ⟨rfl,?_⟩
 rintro ⟨k,ps⟩ ⟨hk,hps,hlen⟩
 dsimp only at hk hps hlen ⊢;subst hlen;refine qW ?_;refine qZ ?_;refine qJ (qVV rfl rfl) rfl rfl rfl ?_;refine qX ?_;refine qQ ?_;refine qW ?_;refine kZ rfl (fun hc16 => ?_) (fun hc16 => ?_)
 ·
  have h2:ps.length < n:=by have:=vJZ hc16; omega
  obtain ⟨j,hjk⟩:∃ j,js[ps.length]? = some j:=⟨_,vQK (by omega)⟩
  obtain ⟨a,hak⟩:∃ a,bx[ps.length]? = some a:=⟨_,vQK (by omega)⟩
  have hj:(js.map jc)[ps.length]? = some (jc j):=by rw [vZY,hjk]; rfl
  have ha:(bx.map ivc)[ps.length]? = some (ivc a):=by rw [vZY,hak]; rfl
  have hpj:=hpar _ j hjk;obtain ⟨m,hm⟩:∃ m,n - ps.length=m + 1:=⟨n - ps.length - 1,by omega⟩
  rw [hm];have hz:(lkR ps (m + 1))[ps.length]? = some zRow:=by unfold lkR; rw [List.getElem?_append_right (by simp)]; simp
  refine kJ ?_;refine qQ ?_;refine qW ?_;refine uW ?_;refine qW ?_;refine qZ ?_;refine qJ (qK rfl) rfl rfl rfl ?_;refine qJ (qYK (e:=55) (uJ hS) (by kernel_rfl) rfl rfl rfl hj h2) rfl rfl rfl ?_;refine qJ (qGG (vs:=[.string j.name,.int .i64 j.kind,.int .i64 j.parent,.int .i64 j.off.x,.int .i64 j.off.y,.int .i64 j.off.z,.int .i64 j.lo,.int .i64 j.hi,.int .i64 j.weight,.int .i64 j.speed,.int .i64 j.accel,.int .i64 j.torque]) ps.length 0 (uJ hS) hj ty55 rfl rfl) rfl rfl rfl ?_;refine qKV 7 ze55 rfl rfl rfl ?_; intro b7;refine qJ (qV rfl) rfl rfl rfl ?_;refine zV 7 ty55 rfl rfl rfl rfl rfl rfl rfl rfl ?_;refine qX ?_;refine qQ ?_;refine qW ?_;refine qWU 8 mo (by kernel_rfl) ?_;simp only [vYK,vYX,vYU,vYW];refine yV (qK rfl) rfl rfl rfl ?_;refine yV (qK rfl) rfl rfl rfl ?_;refine yV (jG 7 ty55 rfl rfl rfl) rfl rfl rfl ?_;refine yV (qK rfl) rfl rfl rfl ?_;refine yV (qK rfl) rfl rfl rfl ?_;refine yV (qYK (e:=72) (uJ hT) (by kernel_rfl) rfl rfl rfl ha h2) rfl rfl rfl ?_;refine yV (qGG (vs:=[.int .i64 a.lo,.int .i64 a.hi]) ps.length 0 (uJ hT) ha ty72 rfl rfl) rfl rfl rfl ?_;refine yUV (F:=po) (uG en138 rfl (fun w _=>kJoint _ _ _ _ _ _ _ _ _ _ _ _ _ _ w)) rfl rfl rfl ?_; intro r27 hr27;refine zYZ ?_;refine qWG ?_;refine qJ (qYK (e:=88) ((zUK (id:=11) rfl).imp zZW) (by kernel_rfl) rfl rfl rfl hz h2) rfl rfl rfl ?_;refine doL_storeRow (vs:=pc r27) (j:=ps.length) 11 ty88 rfl rfl rfl (by simp [lkR]) rfl rfl rfl rfl ?_; intro R28 hR28;obtain rfl:=Option.some.inj hR28;rw [lkR_set];refine qX ?_;refine qQ ?_;refine qW ?_;refine qZ ?_;refine qJ (qU jVJ rfl) rfl rfl rfl ?_;refine qJ (yX 7 ty3 rfl rfl rfl) rfl rfl rfl ?_;refine qJ (yGY rfl rfl) rfl rfl rfl ?_;refine qX ?_;refine qQ ?_;refine kZ rfl (fun hc31 => ?_) (fun hc31 => ?_)
  ·
   have hp:¬ j.parent = -1:=by simpa using hc31
   have hpl:j.parent.toNat < ps.length:=by omega
   have hpn:j.parent=((j.parent.toNat:Nat):Int):=by omega
   refine qWU 12 mo (by kernel_rfl) ?_;simp only [vYK,vYX,vYU,vYW];refine yV (qK rfl) rfl rfl rfl ?_;refine yV (qK rfl) rfl rfl rfl ?_;refine yV (qK rfl) rfl rfl rfl ?_;refine yV (qU jVJ rfl) rfl rfl rfl ?_;refine yV (yX 7 ty3 rfl rfl rfl) rfl rfl rfl ?_;refine yV (qYK (e:=88) ((zUK (id:=11) rfl).imp zZW) (by kernel_rfl) rfl rfl hpn (lkR_at hpl) (by omega)) rfl rfl rfl ?_;refine yV (qGG (vs:=pc (ps.getD j.parent.toNat Po.rest)) j.parent.toNat 0 ((zUK (id:=11) rfl).imp zZW) (lkR_at hpl) ty88 rfl rfl) rfl rfl rfl ?_;refine yV (qK rfl) rfl rfl rfl ?_;refine yV (qK rfl) rfl rfl rfl ?_;refine yV (qYK (e:=88) ((zUK (id:=11) rfl).imp zZW) (by kernel_rfl) rfl rfl rfl kVG h2) rfl rfl rfl ?_;refine yV (qGG (vs:=pc r27) ps.length 0 ((zUK (id:=11) rfl).imp zZW) kVG ty88 rfl rfl) rfl rfl rfl ?_;refine yUV (F:=po) (uG en139 rfl (fun w _=>pCompose _ _ _ _ _ _ _ _ _ _ _ _ _ _ _ _ _ _ _ _ _ _ _ _ _ _ _ _ _ _ _ _ _ _ _ _ _ _ _ _ _ _ _ _ _ _ _ _  w)) rfl rfl rfl ?_; intro r43 hr43;refine zYZ ?_;refine qWG ?_;refine qJ (qYK (e:=88) ((zUK (id:=11) rfl).imp zZW) (by kernel_rfl) rfl rfl rfl kVG h2) rfl rfl rfl ?_;refine doL_storeRow (vs:=pc r43) (j:=ps.length) 11 ty88 rfl rfl rfl (by simp [lkR]) rfl rfl rfl rfl ?_; intro R44 hR44;obtain rfl:=Option.some.inj hR44;rw [lkR_set2];refine qX ?_;refine zU ?_;refine qQ ?_;refine qZ ?_;refine qJ (uQ rfl rfl (zWJ (by omega))) rfl rfl rfl ?_;refine qJ (qK rfl) rfl rfl rfl ?_;refine qX ?_;refine qJV (ps.length + 1,ps ++ [r43]) (by refine ⟨?_,?_,?_⟩ <;> dsimp only; omega; rw [yQX hjk hak,hps]; exact congrArg (fun x=>ps ++ [x]) ((if_neg hp).trans (by rw [show r43=Po.mul (ps.getD j.parent.toNat Po.rest) r27 from hr43,hr27]; try rfl)); simp) (by show n - (ps.length + 1) < n - ps.length; omega) (by dsimp only; rw [show n - (ps.length + 1)=m by omega,← lkR_done]; try rfl) ?_ ?_ rfl
   repeat' first | exact trivial | exact True.intro | refine ⟨rfl,?_⟩
  ·
   have hp:j.parent = -1:=by simpa using hc31
   refine kJ ?_;refine zU ?_;refine qQ ?_;refine qZ ?_;refine qJ (uQ rfl rfl (zWJ (by omega))) rfl rfl rfl ?_;refine qJ (qK rfl) rfl rfl rfl ?_;refine qX ?_;refine qJV (ps.length + 1,ps ++ [r27]) (by refine ⟨?_,?_,?_⟩ <;> dsimp only; omega; rw [yQX hjk hak,hps]; exact congrArg (fun x=>ps ++ [x]) ((if_pos hp).trans hr27.symm); simp) (by show n - (ps.length + 1) < n - ps.length; omega) (by dsimp only; rw [show n - (ps.length + 1)=m by omega,← lkR_done]; try rfl) ?_ ?_ rfl
   repeat' first | exact trivial | exact True.intro | refine ⟨rfl,?_⟩
 ·
  have h2:ps.length=n:=by have:=vJY hc16; omega
  refine zUU ?_;refine kK ?_;refine kK ?_;refine qYX ?_;refine qQ ?_;refine qW ?_;refine qZ ?_;refine qJ (qK rfl) rfl rfl rfl ?_;refine qJ (qV rfl) rfl rfl rfl ?_;refine qX ?_;refine qQ ?_;refine jU ?_;refine zYG (rs:=[.tmp 4]) rfl (resC (uU rfl) (resN)) rfl ?_;intro w2 k2;obtain ⟨_,q2,q3⟩:=k2.facts _ vZQ;refine ⟨b11,trivial,rfl,k2.grow,ownD _,jGH _ _ _,fun z hz => ?_,?_⟩
  ·obtain ⟨ad,h1,h2⟩:=hz;cases h1;subst h2;exact ⟨(q2 _ rfl).1,(q2 _ rfl).2.1⟩
  ·have q4:=zZW _ q3;rw [← h2,hps]
   simpa [lkR,h2] using q4
end Go.Proofs.YtmffoiemmlcmfaaGreat
namespace Go.Proofs.YtmffoiemmlcmfaaGreat
open Go.Sx Go.Rx Rt Go.RowKit
namespace Tr
end Tr
open Tr
theorem en69:kH Tryz.prog 69:=zQ Tryz.func69 (by kernel_rfl) (by kernel_rfl)
namespace Tr
noncomputable def zKG:List PV→Option (Bool × Ret):=fun ps=>match ps with
 | [.a z']=>(z3D z').bind fun z=>some (true,.v (.a (v3C (V3.of z))))
 | _=>none
theorem yGJ:zW Tryz.prog 44 zKG:=by
 intro ps r h;unfold zKG at h;split at h
 ·simp only [vQQ,vQZ,vQY] at h;obtain ⟨z,hz,hg,rfl⟩:=h;rw [yWX hz];exact zJ (zQ Tryz.func44 (by kernel_rfl) (by kernel_rfl)) rfl rfl (fun w=>rPoint _ _ _ w)
 ·cases h
noncomputable def LTr1:OrL:=(44,zKG) :: ([]:OrL)
theorem LTr1_ok:AllP (fun x:Nat × (List PV→Option (Bool × Ret))=>zW Tryz.prog x.1 x.2) LTr1:=⟨yGJ,trivial⟩
noncomputable def jJJ:List PV→Option (Bool × Ret):=fun ps=>match ps with
 | [.a v']=>(v3D v').bind fun v=>some (true,.v (.a (poC (Po.shift v))))
 | _=>none
theorem ok_qShift:zW Tryz.prog 103 jJJ:=by
 intro ps r h;unfold jJJ at h;split at h
 ·simp only [vQQ,vQZ,vQY] at h;obtain ⟨v,hv,hg,rfl⟩:=h;rw [zJK hv];exact zJ (zQ Tryz.func103 (by kernel_rfl) (by kernel_rfl)) rfl rfl (fun w=>qShift _ _ _ _ _ _ w)
 ·cases h
noncomputable def LTr2:OrL:=(103,jJJ) :: LTr1
theorem LTr2_ok:AllP (fun x:Nat × (List PV→Option (Bool × Ret))=>zW Tryz.prog x.1 x.2) LTr2:=⟨ok_qShift,LTr1_ok⟩
noncomputable def kQY:List PV→Option (Bool × Ret):=fun ps=>match ps with
 | [.n .i64 k,.a a']=>(ivD a').bind fun a=>some (true,.v (.a (poC (Po.turn k a))))
 | _=>none
theorem ok_qTurn:zW Tryz.prog 102 kQY:=by
 intro ps r h;unfold kQY at h;split at h
 ·simp only [vQQ,vQZ,vQY] at h;obtain ⟨a,ha,hg,rfl⟩:=h;rw [qZY ha];exact zJ (zQ Tryz.func102 (by kernel_rfl) (by kernel_rfl)) rfl rfl (fun w=>qTurn _ _ _ w)
 ·cases h
noncomputable def LTr3:OrL:=(102,kQY) :: LTr2
theorem LTr3_ok:AllP (fun x:Nat × (List PV→Option (Bool × Ret))=>zW Tryz.prog x.1 x.2) LTr3:=⟨ok_qTurn,LTr2_ok⟩
noncomputable def kQJ:List PV→Option (Bool × Ret):=fun ps=>match ps with
 | []=>some (true,.v (.a (poC (Po.rest))))
 | _=>none
theorem ok_qRest:zW Tryz.prog 101 kQJ:=by
 intro ps r h;unfold kQJ at h;split at h
 ·simp only [vQZ,vQY] at h;obtain ⟨hg,rfl⟩:=h;exact zJ (zQ Tryz.func101 (by kernel_rfl) (by kernel_rfl)) rfl rfl (fun w=>qRest  w)
 ·cases h
noncomputable def LTr4:OrL:=(101,kQJ) :: LTr3
theorem LTr4_ok:AllP (fun x:Nat × (List PV→Option (Bool × Ret))=>zW Tryz.prog x.1 x.2) LTr4:=⟨ok_qRest,LTr3_ok⟩
noncomputable def yJH:List PV→Option (Bool × Ret):=fun ps=>match ps with
 | [.a p',.a q']=>(poD p').bind fun p=>(poD q').bind fun q=>some (true,.v (.a (poC (Po.mul p q))))
 | _=>none
theorem ok_qCompose:zW Tryz.prog 69 yJH:=by
 intro ps r h;unfold yJH at h;split at h
 ·simp only [vQQ,vQZ,vQY] at h;obtain ⟨p,hp,q,hq,hg,rfl⟩:=h;rw [jZW hp];rw [jZW hq];exact zJ (zQ Tryz.func69 (by kernel_rfl) (by kernel_rfl)) rfl rfl (fun w=>qCompose _ _ _ _ _ _ _ _ _ _ _ _ _ _ _ _ _ _ _ _ _ _ _ _ _ _ _ _ _ _ _ _ _ _ _ _ _ _ _ _ _ _ _ _ _ _ _ _ w)
 ·cases h
noncomputable def LTr5:OrL:=(69,yJH) :: LTr4
theorem LTr5_ok:AllP (fun x:Nat × (List PV→Option (Bool × Ret))=>zW Tryz.prog x.1 x.2) LTr5:=⟨ok_qCompose,LTr4_ok⟩
end Tr
set_option maxRecDepth 100000 in
theorem rJoint (a0 a1:Int) (nm:ByteArray) (kind par ox oy oz jlo jhi we spd acc tq:Int) (w:World):Calls Tryz.prog 68 [.agg #[.string nm,.int .i64 kind,.int .i64 par,.int .i64 ox,.int .i64 oy,.int .i64 oz,.int .i64 jlo,.int .i64 jhi,.int .i64 we,.int .i64 spd,.int .i64 acc,.int .i64 tq],.agg #[.int .i64 a0,.int .i64 a1]].toArray w (Rets (po (kUG kind ⟨ox,oy,oz⟩ (⟨a0,a1⟩:Iv))) (w)) :=
 zX (x:=.a (poC (kUG kind ⟨ox,oy,oz⟩ ⟨a0,a1⟩))) (qG (N:=60) (ps:=[.a [.s nm,.n .i64 kind,.n .i64 par,.n .i64 ox,.n .i64 oy,.n .i64 oz,.n .i64 jlo,.n .i64 jhi,.n .i64 we,.n .i64 spd,.n .i64 acc,.n .i64 tq],.a [.n .i64 a0,.n .i64 a1]]) yJ yQ (OrL.ok (l:=LTr5) LTr5_ok) (by
 rcases kind with a | a
 ·rcases a with _ | _ | _ | _ | _ | _ | _ | a <;> kernel_rfl
 ·kernel_rfl)) rfl rfl w
end Go.Proofs.YtmffoiemmlcmfaaGreat
namespace Go.Proofs.YtmffoiemmlcmfaaGreat
open Go.Sx
theorem en37:kH Tryz.prog 37:=zQ Tryz.func37 (by kernel_rfl) (by kernel_rfl)
theorem en67:kH Tryz.prog 67:=zQ Tryz.func67 (by kernel_rfl) (by kernel_rfl)
theorem sl40:slcB Tryz.prog 40 72 2=true:=by kernel_rfl
theorem en68:kH Tryz.prog 68:=zQ Tryz.func68 (by kernel_rfl) (by kernel_rfl)
theorem sl89:slcB Tryz.prog 89 88 24=true:=by kernel_rfl
def plC (ps:List Po):List Value:=(ps.map pc).flatten
theorem plC_snoc (ps:List Po) (p:Po):plC (ps ++ [p])=plC ps ++ pc p:=by simp [plC]
theorem pl_slc {m e cap k:Nat} {a:Option Addr} {ps:List Po} {w:World} (hl:ps.length=k) (h:OwnF m e 24 a cap k (plC ps) w):qJJ 24 a (ps.map pc) w :=
 yJQ (rows:=ps.map pc) (fun r hr=>by obtain ⟨p,_,rfl⟩:=List.mem_map.1 hr; rfl) (by rw [List.length_map,hl]; exact h)
theorem pl_at {ps:List Po} {i:Nat} (h:i < ps.length):(ps.map pc)[i]? = some (pc (ps.getD i Po.rest)):=by
 rw [vZY];simp [vZG,h]
theorem rLinks  (aj am ab:Option Addr) (cj nm cm cb n:Nat) (js:List J) (bx:List Iv) (hn:n≤1000) (hjn:js.length=n) (hbn:bx.length=n) (hpar:∀ (k:Nat) (j:J),js[k]? = some j → -1≤j.parent∧j.parent < k) (w:World) (hS:qJJ 12 aj (js.map jc) w) (hT:qJJ 2 ab (bx.map ivc) w) (hC:∀ w':World,Grow w w'→Calls Tryz.prog 37 [.agg #[.slice aj n cj,.slice am nm cm]].toArray w' (Rets (vI (0:Int)) w')) (hB:∀ w':World,Grow w w'→Calls Tryz.prog 67 [.agg #[.slice aj n cj,.slice am nm cm],.slice ab n cb].toArray w' (Rets (vB true) w')):Calls Tryz.prog 43 [.agg #[.slice aj n cj,.slice am nm cm],.slice ab n cb].toArray w (jXX (X:=Option Addr × Nat) (fun _=>True) (fun x=>.slice x.1 n x.2) (fun x=>OwnF 0 88 24 x.1 x.2 n (plC (lks js bx n))) w):=by
 refine jY (n:=56) Tryz.func43 rfl rfl rfl ?_;refine qW ?_;refine qZ ?_;refine zYQ 2 rfl rfl rfl rfl ?_; intro b2;refine qJ (qV rfl) rfl rfl rfl ?_;refine qX ?_;refine qQ ?_;refine qW ?_;refine qW ?_;refine qZ ?_;refine qJ (jG 2 ty25 rfl rfl rfl) rfl rfl rfl ?_;refine qHG (F:=vI) (uG en37 rfl (fun w' k=>hC w' k.grow)) rfl rfl rfl ?_; intro r9 hr9;refine qJ (yGY rfl rfl) rfl rfl rfl ?_;refine qJ (qK rfl) rfl rfl rfl ?_;refine doL_false 11 rfl (by rw [hr9]; rfl) ?_;refine qJ (jG 2 ty25 rfl rfl rfl) rfl rfl rfl ?_;refine qJ (qK rfl) rfl rfl rfl ?_;refine qHG (F:=vB) (uG en67 rfl (fun w' k=>hB w' k.grow)) rfl rfl rfl ?_; intro r14 hr14;refine qJ (yGZ rfl) rfl rfl rfl ?_;refine qJ (yJJ rfl rfl rfl rfl) rfl rfl rfl ?_;refine qX ?_;refine qQ ?_;refine zVX rfl (by rw [hr14]; rfl) ?_;refine kJ ?_;refine qQ ?_;refine qW ?_;refine qZ ?_;refine qJ (qV rfl) rfl rfl rfl ?_;refine qX ?_;refine qQ ?_;refine qW ?_;refine qW ?_;refine jUH 100 88 24 ?_;refine qZ ?_;refine qJ (qV rfl) rfl rfl rfl ?_;refine qX ?_;refine qQ ?_;refine uW ?_;refine zKZ [1,2] [2] (α:=Nat × Option Addr × Nat × List Po) (fun x=>n - x.1) (fun x=>x.1≤n∧lks js bx x.1=x.2.2.2∧x.2.2.2.length=x.1) (fun x=>⟨w,[(100,ownD x.2.1,OwnF 0 88 24 x.2.1 x.2.2.1 x.1 (plC x.2.2.2))]⟩) (fun x=>[(5,.slice x.2.1 x.1 x.2.2.1),(6,.int .i64 (x.1:Int))]) (fun _=>[]) (0,none,0,[]) rfl rfl ?_ ?_ ?_ ?_ rfl ?_
 ·
  exact ⟨Nat.zero_le _,rfl,rfl⟩
 ·
  exact rfl
 ·
  repeat' first | exact trivial | exact True.intro | refine ⟨rfl,?_⟩
 ·
  repeat' first | exact trivial | exact True.intro | refine ⟨rfl,?_⟩
 rintro ⟨k,a,cap,ps⟩ ⟨hk,hps,hlen⟩
 dsimp only at hk hps hlen ⊢;refine qW ?_;refine qW ?_;refine qZ ?_;refine qJ (qK rfl) rfl rfl rfl ?_;refine qJ (qK rfl) rfl rfl rfl ?_;refine qJ (qUG sl40 rfl) rfl rfl rfl ?_;refine qJ (qVV rfl rfl) rfl rfl rfl ?_;refine qX ?_;refine qQ ?_;refine kZ rfl (fun hc20 => ?_) (fun hc20 => ?_)
 ·
  have h2:k < n:=by have:=vJZ hc20; omega
  obtain ⟨j,hjk⟩:∃ j,js[k]? = some j:=⟨_,vQK (by omega)⟩
  obtain ⟨b,hak⟩:∃ b,bx[k]? = some b:=⟨_,vQK (by omega)⟩
  have hj:(js.map jc)[k]? = some (jc j):=by rw [vZY,hjk]; rfl
  have hbk:(bx.map ivc)[k]? = some (ivc b):=by rw [vZY,hak]; rfl
  have hpj:=hpar _ j hjk;refine kJ ?_;refine qQ ?_;refine qW ?_;refine uW ?_;refine qW ?_;refine qWU 11 mo (by kernel_rfl) ?_;simp only [vYK,vYX,vYU,vYW];refine yV (qU zWU rfl) rfl rfl rfl ?_;refine yV (yX 2 ty22 rfl rfl rfl) rfl rfl rfl ?_;refine yV (qK rfl) rfl rfl rfl ?_;refine yV (qYK (e:=55) (uJ hS) (by kernel_rfl) rfl rfl rfl hj h2) rfl rfl rfl ?_;refine yV (qGG (vs:=[.string j.name,.int .i64 j.kind,.int .i64 j.parent,.int .i64 j.off.x,.int .i64 j.off.y,.int .i64 j.off.z,.int .i64 j.lo,.int .i64 j.hi,.int .i64 j.weight,.int .i64 j.speed,.int .i64 j.accel,.int .i64 j.torque]) k 0 (uJ hS) hj ty55 rfl rfl) rfl rfl rfl ?_;refine yV (qK rfl) rfl rfl rfl ?_;refine yV (qK rfl) rfl rfl rfl ?_;refine yV (qYK (e:=72) (uJ hT) (by kernel_rfl) rfl rfl rfl hbk h2) rfl rfl rfl ?_;refine yV (qGG (vs:=[.int .i64 b.lo,.int .i64 b.hi]) k 0 (uJ hT) hbk ty72 rfl rfl) rfl rfl rfl ?_;refine yUV (F:=po) (uG en68 rfl (fun w _=>rJoint _ _ _ _ _ _ _ _ _ _ _ _ _ _ w)) rfl rfl rfl ?_; intro r32 hr32;refine doG_alloc ze88 rfl rfl rfl rfl ?_;refine zYZ ?_;refine tail_alloc 7 rfl ?_; intro b7_2;refine qWG ?_;refine zV 7 ty88 rfl rfl rfl rfl rfl rfl rfl rfl ?_;refine qX ?_;refine qQ ?_;refine qW ?_;refine qW ?_;refine qZ ?_;refine qJ (qU zWU rfl) rfl rfl rfl ?_;refine qJ (yX 2 ty22 rfl rfl rfl) rfl rfl rfl ?_;refine qJ (qK rfl) rfl rfl rfl ?_;refine qJ (qYK (e:=55) (uJ hS) (by kernel_rfl) rfl rfl rfl hj h2) rfl rfl rfl ?_;refine qJ (zVQ (uJ hS) hj jVJ rfl) rfl rfl rfl ?_;refine qJ (zWH k 2 (uJ hS) hj ty3 rfl rfl) rfl rfl rfl ?_;refine qJ (yGY rfl rfl) rfl rfl rfl ?_;refine qX ?_;refine qQ ?_;refine kZ rfl (fun hc39 => ?_) (fun hc39 => ?_)
  ·
   have hp:¬ j.parent = -1:=by simpa using hc39
   have hpl:j.parent.toNat < ps.length:=by omega
   have hpn:j.parent=((j.parent.toNat:Nat):Int):=by omega
   refine qWU 11 mo (by kernel_rfl) ?_;simp only [vYK,vYX,vYU,vYW];refine yV (qK rfl) rfl rfl rfl ?_;refine yV (qU zWU rfl) rfl rfl rfl ?_;refine yV (yX 2 ty22 rfl rfl rfl) rfl rfl rfl ?_;refine yV (qK rfl) rfl rfl rfl ?_;refine yV (qYK (e:=55) (uJ hS) (by kernel_rfl) rfl rfl rfl hj h2) rfl rfl rfl ?_;refine yV (zVQ (uJ hS) hj jVJ rfl) rfl rfl rfl ?_;refine yV (zWH k 2 (uJ hS) hj ty3 rfl rfl) rfl rfl rfl ?_;refine yV (qYK (e:=88) ((zUK (id:=100) rfl).imp (fun _ h=>pl_slc hlen h)) (by kernel_rfl) rfl rfl hpn (pl_at hpl) (by omega)) rfl rfl rfl ?_;refine yV (qGG (vs:=pc (ps.getD j.parent.toNat Po.rest)) j.parent.toNat 0 ((zUK (id:=100) rfl).imp (fun _ h=>pl_slc hlen h)) (pl_at hpl) ty88 rfl rfl) rfl rfl rfl ?_;refine yV (jG 7 ty88 rfl rfl rfl) rfl rfl rfl ?_;refine yUV (F:=po) (uG en69 rfl (fun w _=>qCompose _ _ _ _ _ _ _ _ _ _ _ _ _ _ _ _ _ _ _ _ _ _ _ _ _ _ _ _ _ _ _ _ _ _ _ _ _ _ _ _ _ _ _ _ _ _ _ _  w)) rfl rfl rfl ?_; intro r50 hr50;refine zYZ ?_;refine qWG ?_;refine zV 7 ty88 rfl rfl rfl rfl rfl rfl rfl rfl ?_;refine qX ?_;refine qQ ?_;refine qZ ?_;refine qJ (qK rfl) rfl rfl rfl ?_;refine qJ (jG 7 ty88 rfl rfl rfl) rfl rfl rfl ?_;refine qHQ 53 sl89 ze88 rfl rfl rfl rfl rfl rfl rfl rfl ?_; intro b53;refine qHZ (id2:=53) 100 uJQ rfl rfl rfl rfl rfl rfl rfl (by omega) (by omega) rfl rfl ?_; intro a54 c54 R54 hR54;obtain rfl:=Option.some.inj hR54;refine qJ (qV rfl) rfl rfl rfl ?_;refine qX ?_;refine zU ?_;refine qQ ?_;refine qZ ?_;refine qJ (qK rfl) rfl rfl rfl ?_;refine qJ (uQ rfl rfl (zWJ (by omega))) rfl rfl rfl ?_;refine qJ (qV rfl) rfl rfl rfl ?_;refine qX ?_;refine qJV (k + 1,a54,c54,ps ++ [r50]) (by refine ⟨?_,?_,?_⟩ <;> dsimp only; omega; rw [yQX hjk hak,hps]; exact congrArg (fun x=>ps ++ [x]) ((if_neg hp).trans (by rw [show r50=Po.mul (ps.getD j.parent.toNat Po.rest) r32 from hr50,hr32]; try rfl)); simp [hlen]) (by show n - (k + 1) < n - k; omega) (by dsimp only; rw [plC_snoc]; rfl) ?_ ?_ rfl
   repeat' first | exact trivial | exact True.intro | refine ⟨rfl,?_⟩
  ·
   have hp:j.parent = -1:=by simpa using hc39
   refine kJ ?_;refine qQ ?_;refine qZ ?_;refine qJ (qK rfl) rfl rfl rfl ?_;refine qJ (jG 7 ty88 rfl rfl rfl) rfl rfl rfl ?_;refine qHQ 53 sl89 ze88 rfl rfl rfl rfl rfl rfl rfl rfl ?_; intro b53;refine qHZ (id2:=53) 100 uJQ rfl rfl rfl rfl rfl rfl rfl (by omega) (by omega) rfl rfl ?_; intro a54 c54 R54 hR54;obtain rfl:=Option.some.inj hR54;refine qJ (qV rfl) rfl rfl rfl ?_;refine qX ?_;refine zU ?_;refine qQ ?_;refine qZ ?_;refine qJ (qK rfl) rfl rfl rfl ?_;refine qJ (uQ rfl rfl (zWJ (by omega))) rfl rfl rfl ?_;refine qJ (qV rfl) rfl rfl rfl ?_;refine qX ?_;refine qJV (k + 1,a54,c54,ps ++ [r32]) (by refine ⟨?_,?_,?_⟩ <;> dsimp only; omega; rw [yQX hjk hak,hps]; exact congrArg (fun x=>ps ++ [x]) ((if_pos hp).trans hr32.symm); simp [hlen]) (by show n - (k + 1) < n - k; omega) (by dsimp only; rw [plC_snoc]; rfl) ?_ ?_ rfl
   repeat' first | exact trivial | exact True.intro | refine ⟨rfl,?_⟩
 ·
  obtain rfl:k=n:=by have:=vJY hc20; omega
  refine zUU ?_;refine kK ?_;refine kK ?_;refine qYX ?_;refine qQ ?_;refine qW ?_;refine qZ ?_;refine qJ (qK rfl) rfl rfl rfl ?_;refine qJ (qV rfl) rfl rfl rfl ?_;refine qX ?_;refine qQ ?_;refine jU ?_;refine zYG (rs:=[.tmp 4]) rfl (resC (uU rfl) (resN)) rfl ?_;intro w2 k2;obtain ⟨_,q2,q3⟩:=k2.facts _ vZQ;exact ⟨(a,cap),trivial,rfl,k2.grow,ownD a,yGQ _ _ _ _ _ _ _,fun z hz=>⟨(q2 z hz).1,(q2 z hz).2.1⟩,by dsimp only; rw [hps]; exact q3⟩
end Go.Proofs.YtmffoiemmlcmfaaGreat
namespace Go.Proofs.YtmffoiemmlcmfaaGreat.Nf
open Go.Rx Rt Go.Sx Go.RowKit Od Ov Pc Na Nb Nc Nx
theorem cj_par {i:Int} {j:J} (h:cjT (fun e=>e) i j=0) : -1≤j.parent∧j.parent < i:=by
 unfold cjT at h;by_cases h1:j.kind < 0
 ·rw [vJQ h1,vYV] at h; exact absurd h (by decide)
 by_cases h2:6 < j.kind
 ·rw [vYH h1,vYG,vJQ h2,vYV] at h; exact absurd h (by decide)
 by_cases h3:j.parent < -1
 ·rw [vYH h1,vYG,vYH h2,vYG,vJQ h3,vYV] at h; exact absurd h (by decide)
 by_cases h4:i≤j.parent
 ·rw [vYH h1,vYG,vYH h2,vYG,vYH h3,vYG,vJQ h4,vYV] at h; exact absurd h (by decide)
 omega
theorem jerr_cj {js:Nat→J} {n i:Nat} (h:jErr js n i=0):cjT (fun e=>e) i (js i)=0:=by
 unfold jErr at h;cases h1:nmB (js i).name with
 | false=>rw [h1] at h; exact absurd (show (802:Int)=0 from h) (by decide)
 | true =>
  cases h2:dup js (js i).name i 0 with
  | true=>rw [h1,h2] at h; exact absurd (show (802:Int)=0 from h) (by decide)
  | false=>rw [h1,h2] at h; exact h
theorem kGZ {js:Nat→J} {n:Nat}:∀ {k p:Nat},jE js n k p=0→∀ i,p≤i→i < p + k→jErr js n i=0
 | 0,p,_,i,h1,h2=>by omega
 | k + 1,p,h,i,h1,h2=>by
  unfold jE at h;by_cases hp:jErr js n p=0
  ·rw [vJQ hp,vYV] at h;rcases Nat.eq_or_lt_of_le h1 with e | e
   ·exact e ▸ hp
   ·exact kGZ h i e (by omega)
  ·rw [vYH hp,vYG] at h;exact absurd h hp
theorem rerr_je {js:Nat→J} {ms:Nat→Ms} {n m:Nat} (h:rErr js ms n m=0):jE js n n 0=0:=by
 have hn:=qXU h;unfold rErr at h;rw [vYH (show ¬ (n:Int)=0 by omega),vYH (show ¬ 10 < (n:Int) by omega),vYG,vYG] at h;by_cases hj:jE js n n 0=0
 ·exact hj
 ·rw [vYH hj,vYG] at h; exact h
theorem rerr_par {js:Nat→J} {ms:Nat→Ms} {n m:Nat} (h:rErr js ms n m=0):∀ i,i < n → -1≤(js i).parent∧(js i).parent < (i:Int):=fun i hi =>
 cj_par (jerr_cj (kGZ (rerr_je h) i (Nat.zero_le _) (by omega)))
def jl (js:Nat→J) (n:Nat):List J:=(List.range n).map js
def ml (ms:Nat→Ms) (m:Nat):List Ms:=(List.range m).map ms
def bl (bx:Nat→Iv) (k:Nat):List Iv:=(List.range k).map bx
theorem jl_e (js:Nat→J) (n:Nat):(jl js n).map jp=(List.range n).map (fJ js):=by unfold jl; rw [List.map_map]; rfl
theorem ml_e (ms:Nat→Ms) (m:Nat):(ml ms m).map mp=(List.range m).map (fM ms):=by unfold ml; rw [List.map_map]; rfl
theorem bl_e (bx:Nat→Iv) (k:Nat):(bl bx k).map Rx.ivC=(List.range k).map (fB bx):=by unfold bl; rw [List.map_map]; rfl
theorem jVQ (js:Nat→J) (n:Nat):(jl js n).length=n:=by simp [jl]
theorem ml_len (ms:Nat→Ms) (m:Nat):(ml ms m).length=m:=by simp [ml]
theorem kKU (bx:Nat→Iv) (k:Nat):(bl bx k).length=k:=by simp [bl]
theorem jl_at {js:Nat→J} {n i:Nat} {j:J} (h:(jl js n)[i]? = some j):i < n∧j=js i:=by
 have hl:=(List.getElem?_eq_some_iff.1 h).1;rw [jVQ] at hl;unfold jl at h;rw [vZY,List.getElem?_range hl] at h;cases h;exact ⟨hl,rfl⟩
theorem rob_lf {js:Nat→J} {ms:Nat→Ms} {n m:Nat} {F:Nat→Prop} {w:World} {v:Value} (hF:∀ k,F k→k < w.heap.size) (h:RP F w (.a [.lf n (fJ js),.lf m (fM ms)]) v):∃ aj cj am cm,v=.agg #[.slice aj n cj,.slice am m cm]∧qJJ 12 aj ((jl js n).map jc) w∧qJJ 5 am ((ml ms m).map mc) w:=by
 obtain ⟨vs,rfl,ha⟩:=rp_parts h;obtain ⟨v1,vs,rfl,h1,ha⟩:=qYW ha;obtain ⟨v2,vs,rfl,h2,ha⟩:=qYW ha;obtain rfl:=zUG ha;obtain ⟨aj,cj,rfl,_,hj⟩:=zHG (sz:=12) (g:=jc) (fun _=>rfl) (fun _=>rfl) (jVQ js n) hF (yYH (jl_e js n) h1);obtain ⟨am,cm,rfl,_,hm⟩:=zHG (sz:=5) (g:=mc) (fun _=>rfl) (fun _=>rfl) (ml_len ms m) hF (yYH (ml_e ms m) h2);exact ⟨aj,cj,am,cm,rfl,hj,hm⟩
theorem box_lf {bx:Nat→Iv} {k:Nat} {F:Nat→Prop} {w:World} {v:Value} (hF:∀ k,F k→k < w.heap.size) (h:RP F w (.lf k (fB bx)) v):∃ a c,v=.slice a k c∧qJJ 2 a ((bl bx k).map ivc) w:=by
 obtain ⟨a,c,rfl,_,hS⟩:=zHG (sz:=2) (g:=ivc) (fun _=>rfl) (fun _=>rfl) (kKU bx k) hF (yYH (bl_e bx k) h);exact ⟨a,c,rfl,hS⟩
def LK (js:Nat→J) (bx:Nat→Iv) (n:Nat):List Po:=lks (jl js n) (bl bx n) n
def LP (js:Nat→J) (bx:Nat→Iv) (n:Nat):Nat→Po:=fun i=>(LK js bx n).getD i Po.rest
def fP (P:Nat→Po):Nat→List PV:=fun v=>Rx.poC (P v)
theorem kHZ (js:Nat→J) (bx:Nat→Iv) (n:Nat):(LK js bx n).length=n:=jKX _ (by rw [jVQ]; exact Nat.le_refl _) (by rw [kKU]; exact Nat.le_refl _)
theorem LK_e (js:Nat→J) (bx:Nat→Iv) (n:Nat):(LK js bx n).map Rx.poC=(List.range n).map (fP (LP js bx n)):=by
 have:=zGV Po.rest Rx.poC (LK js bx n)
 rw [kHZ] at this;exact this
theorem snd_kl (js:Nat→J) (ms:Nat→Ms) (bx:Nat→Iv) (n m:Nat) (hn:n≤1000) (hp:∀ i,i < n → -1≤(js i).parent∧(js i).parent < (i:Int)):zH Tryz.prog 122 [.a [.lf n (fJ js),.lf m (fM ms)],.lf n (fB bx)] (.v (.lf n (fP (LP js bx n)))):=by
 refine qQW (Same.lf (LK_e js bx n)) (snd_told (X:=Nat) (Φ:=fun _=>True) (V:=fun b=>.slice (some ⟨b,0,none⟩) n n) (G:=fun b=>qJJ 24 (some ⟨b,0,none⟩) ((LK js bx n).map pc)) (zQ Tryz.func122 (by kernel_rfl) (by kernel_rfl)) (fun w F vals hF hal => ?_) (fun x w D F hP hG hd hF=>jHZ (g:=pc) (sz:=24) (fun _=>rfl) (fun _=>rfl) (kHZ js bx n) (Nat.le_refl _) (by decide) hd hG (fun _ h=>h) hF));obtain ⟨v1,vs,rfl,h1,hal⟩:=qYW hal;obtain ⟨v2,vs,rfl,h2,hal⟩:=qYW hal;obtain rfl:=zUG hal;obtain ⟨aj,cj,am,cm,rfl,hj,hm'⟩:=rob_lf hF h1;obtain ⟨ab,cb,rfl,hS⟩:=box_lf hF h2;exact kLinks aj am ab cj m cm cb n (jl js n) (bl bx n) hn (jVQ js n) (kKU bx n) (fun i j h=>by obtain ⟨hi,rfl⟩:=jl_at h; exact hp i hi) w hj hS
theorem snd_rl (js:Nat→J) (ms:Nat→Ms) (bx:Nat→Iv) (n m:Nat) (h0:rErr js ms n m=0) (hv:allV bx n=true):zH Tryz.prog 43 [.a [.lf n (fJ js),.lf m (fM ms)],.lf n (fB bx)] (.v (.lf n (fP (LP js bx n)))):=by
 have hn:=qXU h0;have hp:=rerr_par h0;have hl:((LK js bx n).map Rx.poC).length=n:=by rw [List.length_map]; exact kHZ js bx n
 refine qQW (Same.lf (LK_e js bx n)) (zGK (e:=88) (sz:=24) (yYW (Φ:=fun _=>True) (rows:=(LK js bx n).map Rx.poC) (zQ Tryz.func43 (by kernel_rfl) (by kernel_rfl)) (yWZ (fun _=>rfl) _) (by decide) (fun w F vals hF hal => ?_)));have hal0:=hal;obtain ⟨v1,vs,rfl,h1,hal⟩:=qYW hal;obtain ⟨v2,vs,rfl,h2,hal⟩:=qYW hal;obtain rfl:=zUG hal;have up:∀ w':World,Grow w w'→∀ {p:PV} {v:Value},RP F w p v→RP (fun k=>k < w'.heap.size) w' p v:=fun w' g p v h=>h.mono fun k hk=>⟨vZK (hF k hk) g.size,g.block k (hF k hk)⟩
 have hC:=fun (w':World) (g:Grow w w')=>zXG (w:=w') (yWH js ms n m) rfl (qKU (up w' g h1) jYY)
 have hB:=fun (w':World) (g:Grow w w')=>zXG (w:=w') (snd_isR js ms bx n m n (by omega)) rfl (qKU (up w' g h1) (qKU (up w' g h2) jYY))
 obtain ⟨aj,cj,am,cm,rfl,hj,hm'⟩:=rob_lf hF h1;obtain ⟨ab,cb,rfl,hS⟩:=box_lf hF h2;rw [h0] at hC;have hB':isB bx n n=true:=by unfold isB; rw [hv,vJQ rfl]; rfl
 rw [hB'] at hB;rw [hl,zZK (g:=pc) (fun _=>rfl)];exact rLinks aj am ab cj m cm cb n (jl js n) (bl bx n) (by omega) (jVQ js n) (kKU bx n) (fun i j h=>by obtain ⟨hi,rfl⟩:=jl_at h; exact hp i hi) w hj hS hC hB
theorem snd_ka (js:Nat→J) (ms:Nat→Ms) (bx:Nat→Iv) (n m:Nat) (h0:rErr js ms n m=0) (hv:allV bx n=true):zH Tryz.prog 86 [.a [.lf n (fJ js),.lf m (fM ms)],.lf n (fB bx)] (.v (.lf n (fP (LP js bx n)))):=by
 have hn:=qXU h0;refine qG (N:=60) yJ yQ (OrL.ok (l:=[(121,o_cr [.a [.lf n (fJ js),.lf m (fM ms)],.lf n (fB bx)] (.v (.b (isB bx n n)))),(50,o_cr [.a [.lf n (fJ js),.lf m (fM ms)]] (.v (.n .i64 (rErr js ms n m)))),(122,o_cr [.a [.lf n (fJ js),.lf m (fM ms)],.lf n (fB bx)] (.v (.lf n (fP (LP js bx n)))))]) ⟨qZX (snd_isP js ms bx n m n (by omega)),qZX (yVQ js ms n m),qZX (snd_kl js ms bx n m (by omega) (rerr_par h0)),trivial⟩) ?_;refine (by kernel_rfl:_=bif (g1 [.a [.lf n (fJ js),.lf m (fM ms)],.lf n (fB bx)]) then (bif (isB bx n n) then (bif (g1 [.a [.lf n (fJ js),.lf m (fM ms)]]) then (bif (!decide ((rErr js ms n m)=0)) then some (.v (.l []),[])
 else bif (g1 [.a [.lf n (fJ js),.lf m (fM ms)],.lf n (fB bx)]) then some (.v (.lf n (fP (LP js bx n))),[])
 else none)
 else none)
 else some (.v (.l []),[]))
 else none).trans ?_
 have hB':isB bx n n=true:=by unfold isB; rw [hv,vJQ rfl]; rfl
 simp only [g1_t,hB',h0];rfl
end Go.Proofs.YtmffoiemmlcmfaaGreat.Nf
namespace Go.Proofs.YtmffoiemmlcmfaaGreat.Nd
open Go.Rx Rt Go.Sx Go.RowKit
open Ov Pc Na Nb Nc
theorem bcs {α:Type} {c:Bool} {x y z:α} (h1:c=true→x=z) (h2:c=false→y=z):(bif c then x else y)=z:=by
 cases c
 ·exact h2 rfl
 ·exact h1 rfl
def fC (cs:Nat→Cn):Nat→List PV:=fun v=>cp (cs v)
def COK (n:Nat) (q:Cn):Prop:=(q.kind=0 ∨ q.kind=1)∧(0≤q.link∧q.link < n)∧(-4194304≤q.p.x∧q.p.x≤4194304)∧(-4194304≤q.p.y∧q.p.y≤4194304)∧(-4194304≤q.p.z∧q.p.z≤4194304) ∧
 (-16384≤q.n.x∧q.n.x≤16384)∧(-16384≤q.n.y∧q.n.y≤16384)∧(-16384≤q.n.z∧q.n.z≤16384)∧¬ (q.n.x=0∧q.n.y=0∧q.n.z=0)∧q.lo≤q.hi ∧ -70368744177664≤q.lo∧q.hi≤70368744177664
instance (n:Nat) (q:Cn):Decidable (COK n q):=by unfold COK; exact inferInstance
def conB (n:Nat) (q:Cn):Bool:=decide (COK n q)
def cAll (cs:Nat→Cn) (n:Nat):Nat→Nat→Bool
 | 0,_=>true
 | k + 1,p=>conB n (cs p) && cAll cs n k (p + 1)
def cErr (js:Nat→J) (ms:Nat→Ms) (n m:Nat) (cs:Nat→Cn) (c:Nat):Bool:=decide (rErr js ms n m=0) && (!decide (8 < (c:Int)) && cAll cs n c 0)
noncomputable def zYK (js:Nat→J) (ms:Nat→Ms) (n m:Nat):List PV→Option (Bool × Ret):=fun ps=>match ps with
 | [r]=>some (gEq r (.a [.lf n (fJ js),.lf m (fM ms)]),.v (.n .i64 (rErr js ms n m)))
 | _=>none
theorem ok_kMc (js:Nat→J) (ms:Nat→Ms) (n m:Nat):zW Tryz.prog 50 (zYK js ms n m):=by
 intro ps r hh;unfold zYK at hh;split at hh
 ·simp only [vQZ,vQY] at hh;obtain ⟨hg,rfl⟩:=hh;obtain rfl:=zJQ hg;exact yVQ js ms n m
 ·cases hh
def hMc (js:Nat→J) (ms:Nat→Ms) (n m:Nat) (cs:Nat→Cn) (c:Nat) (i:Int):St:=⟨[(2,.p 2 0),(17,.v (.lf c (fC cs))),(18,.v (.n .i64 (c:Int))),(19,.v (.n .i64 i))],[(2,.blk [.v (.lf n (fJ js)),.v (.lf m (fM ms))])]⟩
def cTMc {α:Type} (n:Nat) (q:Cn) (a b:α):α:=(bif (!decide (q.kind=0)) then (bif (!decide (q.kind=1)) then b else (bif (decide (q.link < 0)) then b else (bif (decide ((n:Int)≤q.link)) then b else (bif (decide (q.p.x < (-4194304))) then b else (bif (decide (4194304 < q.p.x)) then b else (bif (decide (q.p.y < (-4194304))) then b else (bif (decide (4194304 < q.p.y)) then b else (bif (decide (q.p.z < (-4194304))) then b else (bif (decide (4194304 < q.p.z)) then b else (bif (decide (q.n.x < (-16384))) then b else (bif (decide (16384 < q.n.x)) then b else (bif (decide (q.n.y < (-16384))) then b else (bif (decide (16384 < q.n.y)) then b else (bif (decide (q.n.z < (-16384))) then b else (bif (decide (16384 < q.n.z)) then b else (bif (!((decide (q.n.x=0)) && ((decide (q.n.y=0)) && ((decide (q.n.z=0)) && true)))) then (bif (decide (q.hi < q.lo)) then b else (bif (decide (q.lo < (-70368744177664))) then b else (bif (decide (70368744177664 < q.hi)) then b else a))) else b)))))))))))))))) else (bif (decide (q.link < 0)) then b else (bif (decide ((n:Int)≤q.link)) then b else (bif (decide (q.p.x < (-4194304))) then b else (bif (decide (4194304 < q.p.x)) then b else (bif (decide (q.p.y < (-4194304))) then b else (bif (decide (4194304 < q.p.y)) then b else (bif (decide (q.p.z < (-4194304))) then b else (bif (decide (4194304 < q.p.z)) then b else (bif (decide (q.n.x < (-16384))) then b else (bif (decide (16384 < q.n.x)) then b else (bif (decide (q.n.y < (-16384))) then b else (bif (decide (16384 < q.n.y)) then b else (bif (decide (q.n.z < (-16384))) then b else (bif (decide (16384 < q.n.z)) then b else (bif (!((decide (q.n.x=0)) && ((decide (q.n.y=0)) && ((decide (q.n.z=0)) && true)))) then (bif (decide (q.hi < q.lo)) then b else (bif (decide (q.lo < (-70368744177664))) then b else (bif (decide (70368744177664 < q.hi)) then b else a))) else b))))))))))))))))
theorem cTMc_z {α:Type} (n:Nat) (q:Cn) (a b:α):cTMc n q a b=(bif (decide (¬ q.kind=0)) then (bif (decide (¬ q.kind=1)) then b else (bif (decide (q.link < 0)) then b else (bif (decide ((n:Int)≤q.link)) then b else (bif (decide (q.p.x < (-4194304))) then b else (bif (decide (4194304 < q.p.x)) then b else (bif (decide (q.p.y < (-4194304))) then b else (bif (decide (4194304 < q.p.y)) then b else (bif (decide (q.p.z < (-4194304))) then b else (bif (decide (4194304 < q.p.z)) then b else (bif (decide (q.n.x < (-16384))) then b else (bif (decide (16384 < q.n.x)) then b else (bif (decide (q.n.y < (-16384))) then b else (bif (decide (16384 < q.n.y)) then b else (bif (decide (q.n.z < (-16384))) then b else (bif (decide (16384 < q.n.z)) then b else (bif (decide (¬ (q.n.x=0∧q.n.y=0∧q.n.z=0))) then (bif (decide (q.hi < q.lo)) then b else (bif (decide (q.lo < (-70368744177664))) then b else (bif (decide (70368744177664 < q.hi)) then b else a))) else b)))))))))))))))) else (bif (decide (q.link < 0)) then b else (bif (decide ((n:Int)≤q.link)) then b else (bif (decide (q.p.x < (-4194304))) then b else (bif (decide (4194304 < q.p.x)) then b else (bif (decide (q.p.y < (-4194304))) then b else (bif (decide (4194304 < q.p.y)) then b else (bif (decide (q.p.z < (-4194304))) then b else (bif (decide (4194304 < q.p.z)) then b else (bif (decide (q.n.x < (-16384))) then b else (bif (decide (16384 < q.n.x)) then b else (bif (decide (q.n.y < (-16384))) then b else (bif (decide (16384 < q.n.y)) then b else (bif (decide (q.n.z < (-16384))) then b else (bif (decide (16384 < q.n.z)) then b else (bif (decide (¬ (q.n.x=0∧q.n.y=0∧q.n.z=0))) then (bif (decide (q.hi < q.lo)) then b else (bif (decide (q.lo < (-70368744177664))) then b else (bif (decide (70368744177664 < q.hi)) then b else a))) else b)))))))))))))))):=by
 have hz:(!((decide (q.n.x=0)) && ((decide (q.n.y=0)) && ((decide (q.n.z=0)) && true))))=decide (¬ (q.n.x=0∧q.n.y=0∧q.n.z=0)):=by
  by_cases hx:q.n.x=0 <;> by_cases hy:q.n.y=0 <;> by_cases hw:q.n.z=0 <;> simp [hx,hy,hw]
 have hk0:(!decide (q.kind=0))=decide (¬ q.kind=0):=by simp
 have hk1:(!decide (q.kind=1))=decide (¬ q.kind=1):=by simp
 unfold cTMc;rw [hz,hk0,hk1]
theorem cTMc_eq {α:Type} (n:Nat) (q:Cn) (a b:α):cTMc n q a b=bif conB n q then a else b:=by
 rw [cTMc_z];unfold conB;by_cases h:COK n q
 ·rw [vJQ h,vYV];obtain ⟨h0,⟨h1,h2⟩,⟨h3,h4⟩,⟨h5,h6⟩,⟨h7,h8⟩,⟨h9,h10⟩,⟨h11,h12⟩,⟨h13,h14⟩,h15,h16,h17,h18⟩:=h;rcases h0 with h0 | h0
  ·simp only [vYH (show ¬ ¬ q.kind=0 by omega),vJQ h15,vYH (show ¬ q.link < 0 by omega),vYH (show ¬ (n:Int)≤q.link by omega),vYH (show ¬ q.p.x < (-4194304) by omega),vYH (show ¬ 4194304 < q.p.x by omega),vYH (show ¬ q.p.y < (-4194304) by omega),vYH (show ¬ 4194304 < q.p.y by omega),vYH (show ¬ q.p.z < (-4194304) by omega),vYH (show ¬ 4194304 < q.p.z by omega),vYH (show ¬ q.n.x < (-16384) by omega),vYH (show ¬ 16384 < q.n.x by omega),vYH (show ¬ q.n.y < (-16384) by omega),vYH (show ¬ 16384 < q.n.y by omega),vYH (show ¬ q.n.z < (-16384) by omega),vYH (show ¬ 16384 < q.n.z by omega),vYH (show ¬ q.hi < q.lo by omega),vYH (show ¬ q.lo < (-70368744177664) by omega),vYH (show ¬ 70368744177664 < q.hi by omega),vYV,vYG]
  ·simp only [vJQ (show ¬ q.kind=0 by omega),vYH (show ¬ ¬ q.kind=1 by omega),vJQ h15,vYH (show ¬ q.link < 0 by omega),vYH (show ¬ (n:Int)≤q.link by omega),vYH (show ¬ q.p.x < (-4194304) by omega),vYH (show ¬ 4194304 < q.p.x by omega),vYH (show ¬ q.p.y < (-4194304) by omega),vYH (show ¬ 4194304 < q.p.y by omega),vYH (show ¬ q.p.z < (-4194304) by omega),vYH (show ¬ 4194304 < q.p.z by omega),vYH (show ¬ q.n.x < (-16384) by omega),vYH (show ¬ 16384 < q.n.x by omega),vYH (show ¬ q.n.y < (-16384) by omega),vYH (show ¬ 16384 < q.n.y by omega),vYH (show ¬ q.n.z < (-16384) by omega),vYH (show ¬ 16384 < q.n.z by omega),vYH (show ¬ q.hi < q.lo by omega),vYH (show ¬ q.lo < (-70368744177664) by omega),vYH (show ¬ 70368744177664 < q.hi by omega),vYV,vYG]
 ·rw [vYH h,vYG];exact bcs (fun h1=>bcs (fun h2=>rfl) (fun h2=>bcs (fun h3=>rfl) (fun h3=>bcs (fun h4=>rfl) (fun h4=>bcs (fun h5=>rfl) (fun h5=>bcs (fun h6=>rfl) (fun h6=>bcs (fun h7=>rfl) (fun h7=>bcs (fun h8=>rfl) (fun h8=>bcs (fun h9=>rfl) (fun h9=>bcs (fun h10=>rfl) (fun h10=>bcs (fun h11=>rfl) (fun h11=>bcs (fun h12=>rfl) (fun h12=>bcs (fun h13=>rfl) (fun h13=>bcs (fun h14=>rfl) (fun h14=>bcs (fun h15=>rfl) (fun h15=>bcs (fun h16=>rfl) (fun h16=>bcs (fun h17=>bcs (fun h18=>rfl) (fun h18=>bcs (fun h19=>rfl) (fun h19=>bcs (fun h20=>rfl) (fun h20=>(by simp only [decide_eq_true_eq,decide_eq_false_iff_not] at *; exact absurd (by unfold COK; refine ⟨?_,⟨?_,?_⟩,⟨?_,?_⟩,⟨?_,?_⟩,⟨?_,?_⟩,⟨?_,?_⟩,⟨?_,?_⟩,⟨?_,?_⟩,?_,?_,?_,?_⟩ <;> omega) h))))) (fun h17=>rfl))))))))))))))))) (fun h1=>bcs (fun h21=>rfl) (fun h21=>bcs (fun h22=>rfl) (fun h22=>bcs (fun h23=>rfl) (fun h23=>bcs (fun h24=>rfl) (fun h24=>bcs (fun h25=>rfl) (fun h25=>bcs (fun h26=>rfl) (fun h26=>bcs (fun h27=>rfl) (fun h27=>bcs (fun h28=>rfl) (fun h28=>bcs (fun h29=>rfl) (fun h29=>bcs (fun h30=>rfl) (fun h30=>bcs (fun h31=>rfl) (fun h31=>bcs (fun h32=>rfl) (fun h32=>bcs (fun h33=>rfl) (fun h33=>bcs (fun h34=>rfl) (fun h34=>bcs (fun h35=>bcs (fun h36=>rfl) (fun h36=>bcs (fun h37=>rfl) (fun h37=>bcs (fun h38=>rfl) (fun h38=>(by simp only [decide_eq_true_eq,decide_eq_false_iff_not] at *; exact absurd (by unfold COK; refine ⟨?_,⟨?_,?_⟩,⟨?_,?_⟩,⟨?_,?_⟩,⟨?_,?_⟩,⟨?_,?_⟩,⟨?_,?_⟩,⟨?_,?_⟩,?_,?_,?_,?_⟩ <;> omega) h))))) (fun h35=>rfl))))))))))))))))
set_option maxRecDepth 100000 in
theorem rdMc (G:St→Option (Ret × Mem)) (K:Cont) (js:Nat→J) (ms:Nat→Ms) (n m:Nat) (cs:Nat→Cn) (c:Nat) (i:Int):qHW 60 (cxF T (OrL.k [(50,zYK js ms n m)]) 60 27 (ntmF T 27)) (ckF T (OrL.k [(50,zYK js ms n m)]) 60) (qY T 27 [0,1,0,1,1]) (fun e τ=>match e with
 | .normal=>G (qGJ ((cxF T (OrL.k [(50,zYK js ms n m)]) 60 27 (ntmF T 27)).T.hint (cxF T (OrL.k [(50,zYK js ms n m)]) 60 27 (ntmF T 27)).me (zY (qY T 27 [0,1,0,1,1]))) τ)
 | e=>K e (qUU ((cxF T (OrL.k [(50,zYK js ms n m)]) 60 27 (ntmF T 27)).T.hint (cxF T (OrL.k [(50,zYK js ms n m)]) 60 27 (ntmF T 27)).me (zY (qY T 27 [0,1,0,1,1]))) τ)) (hMc js ms n m cs c i) =
 bif decide (i < (c:Int)) then (bif inB i c then cTMc n (cs i.toNat) (G (hMc js ms n m cs c (vJJ .i64 (i + 1)))) (K .ret ⟨[(4,.v (.b false))],[]⟩) else none) else (K (.exit 0) ⟨[],[]⟩):=by kernel_rfl
theorem lpMc (K:Cont) (js:Nat→J) (ms:Nat→Ms) (n m:Nat) (cs:Nat→Cn) (c:Nat) (hc:c≤1000):∀ (k p q:Nat),p + k=c→k < q→LF 60 (cxF T (OrL.k [(50,zYK js ms n m)]) 60 27 (ntmF T 27)) (ckF T (OrL.k [(50,zYK js ms n m)]) 60) (qY T 27 [0,1,0,1,1]) ((cxF T (OrL.k [(50,zYK js ms n m)]) 60 27 (ntmF T 27)).T.hint (cxF T (OrL.k [(50,zYK js ms n m)]) 60 27 (ntmF T 27)).me (zY (qY T 27 [0,1,0,1,1]))) K q (hMc js ms n m cs c p)=bif cAll cs n k p then (K (.exit 0) ⟨[],[]⟩) else (K .ret ⟨[(4,.v (.b false))],[]⟩)
 | 0,p,q + 1,hp,hq=>by
  refine (rdMc (fun σ=>LF 60 (cxF T (OrL.k [(50,zYK js ms n m)]) 60 27 (ntmF T 27)) (ckF T (OrL.k [(50,zYK js ms n m)]) 60) (qY T 27 [0,1,0,1,1]) ((cxF T (OrL.k [(50,zYK js ms n m)]) 60 27 (ntmF T 27)).T.hint (cxF T (OrL.k [(50,zYK js ms n m)]) 60 27 (ntmF T 27)).me (zY (qY T 27 [0,1,0,1,1]))) K q σ) K js ms n m cs c p).trans ?_;rw [vYH (show ¬ (p:Int) < (c:Int) by omega)];rfl
 | k + 1,p,q + 1,hp,hq=>by
  refine (rdMc (fun σ=>LF 60 (cxF T (OrL.k [(50,zYK js ms n m)]) 60 27 (ntmF T 27)) (ckF T (OrL.k [(50,zYK js ms n m)]) 60) (qY T 27 [0,1,0,1,1]) ((cxF T (OrL.k [(50,zYK js ms n m)]) 60 27 (ntmF T 27)).T.hint (cxF T (OrL.k [(50,zYK js ms n m)]) 60 27 (ntmF T 27)).me (zY (qY T 27 [0,1,0,1,1]))) K q σ) K js ms n m cs c p).trans ?_;rw [vJQ (show (p:Int) < (c:Int) by omega),yW (show p < c by omega),qQQ (by omega),lpMc K js ms n m cs c hc k (p + 1) q (by omega) (by omega),toN,cTMc_eq];by_cases hq:conB n (cs p)=true
  ·simp only [cAll,hq,vYV,vZH]
  ·rw [Bool.not_eq_true] at hq;simp only [cAll,hq,vYV,vYG,Bool.false_and]
set_option maxRecDepth 100000 in
theorem pxMc (js:Nat→J) (ms:Nat→Ms) (n m:Nat) (cs:Nat→Cn) (c:Nat):qYH T (OrL.k [(50,zYK js ms n m)]) (zZ [([0,1,0,1,1],jX (hMc js ms n m cs c 0) (fun K=>bif decide (8 < (c:Int)) then none else (bif cAll cs n c 0 then (K (.exit 0) ⟨[],[]⟩) else (K .ret ⟨[(4,.v (.b false))],[]⟩))))]) 60 27 [(.a [.lf n (fJ js),.lf m (fM ms)]),.lf c (fC cs)] =
 (bif (gEq (.a [.lf n (fJ js),.lf m (fM ms)]) (.a [.lf n (fJ js),.lf m (fM ms)])) then (bif (!decide ((rErr js ms n m)=0)) then some (.v (.b false),[])
 else (bif (decide (8 < (c:Int))) then some (.v (.b false),[])
 else (bif gSt (hMc js ms n m cs c 0) (hMc js ms n m cs c 0) then (bif decide (8 < (c:Int)) then none else (bif cAll cs n c 0 then some (.v (.b true),[]) else some (.v (.b false),[]))) else none)))
 else none):=by kernel_rfl
theorem kYV (js:Nat→J) (ms:Nat→Ms) (n m:Nat) (cs:Nat→Cn) (c:Nat):zH Tryz.prog 27 [(.a [.lf n (fJ js),.lf m (fM ms)]),.lf c (fC cs)] (.v (.b (cErr js ms n m cs c))):=by
 refine jV (N:=60) (LO:=zZ [([0,1,0,1,1],jX (hMc js ms n m cs c 0) (fun K=>bif decide (8 < (c:Int)) then none else (bif cAll cs n c 0 then (K (.exit 0) ⟨[],[]⟩) else (K .ret ⟨[(4,.v (.b false))],[]⟩))))]) yJ yQ (OrL.ok (l:=[(50,zYK js ms n m)]) ⟨ok_kMc js ms n m,trivial⟩) (fun p S hp => ?_) ?_
 ·refine uY (L:=qY T 27) (l:=[([0,1,0,1,1],jX (hMc js ms n m cs c 0) (fun K=>bif decide (8 < (c:Int)) then none else (bif cAll cs n c 0 then (K (.exit 0) ⟨[],[]⟩) else (K .ret ⟨[(4,.v (.b false))],[]⟩))))]) (show AllP _ [([0,1,0,1,1],jX (hMc js ms n m cs c 0) (fun K=>bif decide (8 < (c:Int)) then none else (bif cAll cs n c 0 then (K (.exit 0) ⟨[],[]⟩) else (K .ret ⟨[(4,.v (.b false))],[]⟩))))] from ⟨qQU fun K r hr => ?_,trivial⟩) p S hp;cases hq:decide (8 < (c:Int)) with
  | true=>rw [hq] at hr; cases hr
  | false =>
   rw [hq] at hr;have h8:=vJY hq;exact (lpMc K js ms n m cs c (by omega) c 0 60 (by omega) (by omega)).trans hr
 ·refine (pxMc js ms n m cs c).trans ?_;unfold cErr;rw [yG,qXZ];cases decide (rErr js ms n m=0) <;> cases decide (8 < (c:Int)) <;> cases cAll cs n c 0 <;> rfl
noncomputable def zYJ (js:Nat→J) (ms:Nat→Ms) (n m:Nat):List PV→Option (Bool × Ret):=fun ps=>match ps with
 | [r]=>some (gEq r (.a [.lf n (fJ js),.lf m (fM ms)]),.v (.n .i64 (rErr js ms n m)))
 | _=>none
theorem ok_kRc (js:Nat→J) (ms:Nat→Ms) (n m:Nat):zW Tryz.prog 37 (zYJ js ms n m):=by
 intro ps r hh;unfold zYJ at hh;split at hh
 ·simp only [vQZ,vQY] at hh;obtain ⟨hg,rfl⟩:=hh;obtain rfl:=zJQ hg;exact yWH js ms n m
 ·cases hh
def hRc (js:Nat→J) (ms:Nat→Ms) (n m:Nat) (cs:Nat→Cn) (c:Nat) (i:Int):St:=⟨[(1,.v (.lf c (fC cs))),(2,.p 2 0),(5,.v (.n .i64 i))],[(2,.blk [.v (.lf n (fJ js)),.v (.lf m (fM ms))])]⟩
def cTRc {α:Type} (n:Nat) (q:Cn) (a b:α):α:=(bif (!decide (q.kind=0)) then (bif (!decide (q.kind=1)) then b else (bif (decide (q.link < 0)) then b else (bif (decide ((n:Int)≤q.link)) then b else (bif (decide (q.p.x < (-4194304))) then b else (bif (decide (4194304 < q.p.x)) then b else (bif (decide (q.p.y < (-4194304))) then b else (bif (decide (4194304 < q.p.y)) then b else (bif (decide (q.p.z < (-4194304))) then b else (bif (decide (4194304 < q.p.z)) then b else (bif (!((decide (q.n.x=0)) && ((decide (q.n.y=0)) && ((decide (q.n.z=0)) && true)))) then (bif (decide (q.n.x < (-16384))) then b else (bif (decide (16384 < q.n.x)) then b else (bif (decide (q.n.y < (-16384))) then b else (bif (decide (16384 < q.n.y)) then b else (bif (decide (q.n.z < (-16384))) then b else (bif (decide (16384 < q.n.z)) then b else (bif (decide (q.hi < q.lo)) then b else (bif (decide (q.lo < (-70368744177664))) then b else (bif (decide (70368744177664 < q.hi)) then b else a))))))))) else b)))))))))) else (bif (decide (q.link < 0)) then b else (bif (decide ((n:Int)≤q.link)) then b else (bif (decide (q.p.x < (-4194304))) then b else (bif (decide (4194304 < q.p.x)) then b else (bif (decide (q.p.y < (-4194304))) then b else (bif (decide (4194304 < q.p.y)) then b else (bif (decide (q.p.z < (-4194304))) then b else (bif (decide (4194304 < q.p.z)) then b else (bif (!((decide (q.n.x=0)) && ((decide (q.n.y=0)) && ((decide (q.n.z=0)) && true)))) then (bif (decide (q.n.x < (-16384))) then b else (bif (decide (16384 < q.n.x)) then b else (bif (decide (q.n.y < (-16384))) then b else (bif (decide (16384 < q.n.y)) then b else (bif (decide (q.n.z < (-16384))) then b else (bif (decide (16384 < q.n.z)) then b else (bif (decide (q.hi < q.lo)) then b else (bif (decide (q.lo < (-70368744177664))) then b else (bif (decide (70368744177664 < q.hi)) then b else a))))))))) else b))))))))))
theorem cTRc_z {α:Type} (n:Nat) (q:Cn) (a b:α):cTRc n q a b=(bif (decide (¬ q.kind=0)) then (bif (decide (¬ q.kind=1)) then b else (bif (decide (q.link < 0)) then b else (bif (decide ((n:Int)≤q.link)) then b else (bif (decide (q.p.x < (-4194304))) then b else (bif (decide (4194304 < q.p.x)) then b else (bif (decide (q.p.y < (-4194304))) then b else (bif (decide (4194304 < q.p.y)) then b else (bif (decide (q.p.z < (-4194304))) then b else (bif (decide (4194304 < q.p.z)) then b else (bif (decide (¬ (q.n.x=0∧q.n.y=0∧q.n.z=0))) then (bif (decide (q.n.x < (-16384))) then b else (bif (decide (16384 < q.n.x)) then b else (bif (decide (q.n.y < (-16384))) then b else (bif (decide (16384 < q.n.y)) then b else (bif (decide (q.n.z < (-16384))) then b else (bif (decide (16384 < q.n.z)) then b else (bif (decide (q.hi < q.lo)) then b else (bif (decide (q.lo < (-70368744177664))) then b else (bif (decide (70368744177664 < q.hi)) then b else a))))))))) else b)))))))))) else (bif (decide (q.link < 0)) then b else (bif (decide ((n:Int)≤q.link)) then b else (bif (decide (q.p.x < (-4194304))) then b else (bif (decide (4194304 < q.p.x)) then b else (bif (decide (q.p.y < (-4194304))) then b else (bif (decide (4194304 < q.p.y)) then b else (bif (decide (q.p.z < (-4194304))) then b else (bif (decide (4194304 < q.p.z)) then b else (bif (decide (¬ (q.n.x=0∧q.n.y=0∧q.n.z=0))) then (bif (decide (q.n.x < (-16384))) then b else (bif (decide (16384 < q.n.x)) then b else (bif (decide (q.n.y < (-16384))) then b else (bif (decide (16384 < q.n.y)) then b else (bif (decide (q.n.z < (-16384))) then b else (bif (decide (16384 < q.n.z)) then b else (bif (decide (q.hi < q.lo)) then b else (bif (decide (q.lo < (-70368744177664))) then b else (bif (decide (70368744177664 < q.hi)) then b else a))))))))) else b)))))))))):=by
 have hz:(!((decide (q.n.x=0)) && ((decide (q.n.y=0)) && ((decide (q.n.z=0)) && true))))=decide (¬ (q.n.x=0∧q.n.y=0∧q.n.z=0)):=by
  by_cases hx:q.n.x=0 <;> by_cases hy:q.n.y=0 <;> by_cases hw:q.n.z=0 <;> simp [hx,hy,hw]
 have hk0:(!decide (q.kind=0))=decide (¬ q.kind=0):=by simp
 have hk1:(!decide (q.kind=1))=decide (¬ q.kind=1):=by simp
 unfold cTRc;rw [hz,hk0,hk1]
theorem cTRc_eq {α:Type} (n:Nat) (q:Cn) (a b:α):cTRc n q a b=bif conB n q then a else b:=by
 rw [cTRc_z];unfold conB;by_cases h:COK n q
 ·rw [vJQ h,vYV];obtain ⟨h0,⟨h1,h2⟩,⟨h3,h4⟩,⟨h5,h6⟩,⟨h7,h8⟩,⟨h9,h10⟩,⟨h11,h12⟩,⟨h13,h14⟩,h15,h16,h17,h18⟩:=h;rcases h0 with h0 | h0
  ·simp only [vYH (show ¬ ¬ q.kind=0 by omega),vJQ h15,vYH (show ¬ q.link < 0 by omega),vYH (show ¬ (n:Int)≤q.link by omega),vYH (show ¬ q.p.x < (-4194304) by omega),vYH (show ¬ 4194304 < q.p.x by omega),vYH (show ¬ q.p.y < (-4194304) by omega),vYH (show ¬ 4194304 < q.p.y by omega),vYH (show ¬ q.p.z < (-4194304) by omega),vYH (show ¬ 4194304 < q.p.z by omega),vYH (show ¬ q.n.x < (-16384) by omega),vYH (show ¬ 16384 < q.n.x by omega),vYH (show ¬ q.n.y < (-16384) by omega),vYH (show ¬ 16384 < q.n.y by omega),vYH (show ¬ q.n.z < (-16384) by omega),vYH (show ¬ 16384 < q.n.z by omega),vYH (show ¬ q.hi < q.lo by omega),vYH (show ¬ q.lo < (-70368744177664) by omega),vYH (show ¬ 70368744177664 < q.hi by omega),vYV,vYG]
  ·simp only [vJQ (show ¬ q.kind=0 by omega),vYH (show ¬ ¬ q.kind=1 by omega),vJQ h15,vYH (show ¬ q.link < 0 by omega),vYH (show ¬ (n:Int)≤q.link by omega),vYH (show ¬ q.p.x < (-4194304) by omega),vYH (show ¬ 4194304 < q.p.x by omega),vYH (show ¬ q.p.y < (-4194304) by omega),vYH (show ¬ 4194304 < q.p.y by omega),vYH (show ¬ q.p.z < (-4194304) by omega),vYH (show ¬ 4194304 < q.p.z by omega),vYH (show ¬ q.n.x < (-16384) by omega),vYH (show ¬ 16384 < q.n.x by omega),vYH (show ¬ q.n.y < (-16384) by omega),vYH (show ¬ 16384 < q.n.y by omega),vYH (show ¬ q.n.z < (-16384) by omega),vYH (show ¬ 16384 < q.n.z by omega),vYH (show ¬ q.hi < q.lo by omega),vYH (show ¬ q.lo < (-70368744177664) by omega),vYH (show ¬ 70368744177664 < q.hi by omega),vYV,vYG]
 ·rw [vYH h,vYG];exact bcs (fun h1=>bcs (fun h2=>rfl) (fun h2=>bcs (fun h3=>rfl) (fun h3=>bcs (fun h4=>rfl) (fun h4=>bcs (fun h5=>rfl) (fun h5=>bcs (fun h6=>rfl) (fun h6=>bcs (fun h7=>rfl) (fun h7=>bcs (fun h8=>rfl) (fun h8=>bcs (fun h9=>rfl) (fun h9=>bcs (fun h10=>rfl) (fun h10=>bcs (fun h11=>bcs (fun h12=>rfl) (fun h12=>bcs (fun h13=>rfl) (fun h13=>bcs (fun h14=>rfl) (fun h14=>bcs (fun h15=>rfl) (fun h15=>bcs (fun h16=>rfl) (fun h16=>bcs (fun h17=>rfl) (fun h17=>bcs (fun h18=>rfl) (fun h18=>bcs (fun h19=>rfl) (fun h19=>bcs (fun h20=>rfl) (fun h20=>(by simp only [decide_eq_true_eq,decide_eq_false_iff_not] at *; exact absurd (by unfold COK; refine ⟨?_,⟨?_,?_⟩,⟨?_,?_⟩,⟨?_,?_⟩,⟨?_,?_⟩,⟨?_,?_⟩,⟨?_,?_⟩,⟨?_,?_⟩,?_,?_,?_,?_⟩ <;> omega) h))))))))))) (fun h11=>rfl))))))))))) (fun h1=>bcs (fun h21=>rfl) (fun h21=>bcs (fun h22=>rfl) (fun h22=>bcs (fun h23=>rfl) (fun h23=>bcs (fun h24=>rfl) (fun h24=>bcs (fun h25=>rfl) (fun h25=>bcs (fun h26=>rfl) (fun h26=>bcs (fun h27=>rfl) (fun h27=>bcs (fun h28=>rfl) (fun h28=>bcs (fun h29=>bcs (fun h30=>rfl) (fun h30=>bcs (fun h31=>rfl) (fun h31=>bcs (fun h32=>rfl) (fun h32=>bcs (fun h33=>rfl) (fun h33=>bcs (fun h34=>rfl) (fun h34=>bcs (fun h35=>rfl) (fun h35=>bcs (fun h36=>rfl) (fun h36=>bcs (fun h37=>rfl) (fun h37=>bcs (fun h38=>rfl) (fun h38=>(by simp only [decide_eq_true_eq,decide_eq_false_iff_not] at *; exact absurd (by unfold COK; refine ⟨?_,⟨?_,?_⟩,⟨?_,?_⟩,⟨?_,?_⟩,⟨?_,?_⟩,⟨?_,?_⟩,⟨?_,?_⟩,⟨?_,?_⟩,?_,?_,?_,?_⟩ <;> omega) h))))))))))) (fun h29=>rfl))))))))))
set_option maxRecDepth 100000 in
theorem rdRc (G:St→Option (Ret × Mem)) (K:Cont) (js:Nat→J) (ms:Nat→Ms) (n m:Nat) (cs:Nat→Cn) (c:Nat) (i:Int):qHW 60 (cxF T (OrL.k [(37,zYJ js ms n m)]) 60 34 (ntmF T 34)) (ckF T (OrL.k [(37,zYJ js ms n m)]) 60) (qY T 34 [0,1,0,1,1]) (fun e τ=>match e with
 | .normal=>G (qGJ ((cxF T (OrL.k [(37,zYJ js ms n m)]) 60 34 (ntmF T 34)).T.hint (cxF T (OrL.k [(37,zYJ js ms n m)]) 60 34 (ntmF T 34)).me (zY (qY T 34 [0,1,0,1,1]))) τ)
 | e=>K e (qUU ((cxF T (OrL.k [(37,zYJ js ms n m)]) 60 34 (ntmF T 34)).T.hint (cxF T (OrL.k [(37,zYJ js ms n m)]) 60 34 (ntmF T 34)).me (zY (qY T 34 [0,1,0,1,1]))) τ)) (hRc js ms n m cs c i) =
 bif decide (i < (c:Int)) then (bif inB i c then cTRc n (cs i.toNat) (G (hRc js ms n m cs c (vJJ .i64 (i + 1)))) (K .ret ⟨[(4,.v (.b false))],[]⟩) else none) else (K (.exit 0) ⟨[],[]⟩):=by kernel_rfl
theorem lpRc (K:Cont) (js:Nat→J) (ms:Nat→Ms) (n m:Nat) (cs:Nat→Cn) (c:Nat) (hc:c≤1000):∀ (k p q:Nat),p + k=c→k < q→LF 60 (cxF T (OrL.k [(37,zYJ js ms n m)]) 60 34 (ntmF T 34)) (ckF T (OrL.k [(37,zYJ js ms n m)]) 60) (qY T 34 [0,1,0,1,1]) ((cxF T (OrL.k [(37,zYJ js ms n m)]) 60 34 (ntmF T 34)).T.hint (cxF T (OrL.k [(37,zYJ js ms n m)]) 60 34 (ntmF T 34)).me (zY (qY T 34 [0,1,0,1,1]))) K q (hRc js ms n m cs c p)=bif cAll cs n k p then (K (.exit 0) ⟨[],[]⟩) else (K .ret ⟨[(4,.v (.b false))],[]⟩)
 | 0,p,q + 1,hp,hq=>by
  refine (rdRc (fun σ=>LF 60 (cxF T (OrL.k [(37,zYJ js ms n m)]) 60 34 (ntmF T 34)) (ckF T (OrL.k [(37,zYJ js ms n m)]) 60) (qY T 34 [0,1,0,1,1]) ((cxF T (OrL.k [(37,zYJ js ms n m)]) 60 34 (ntmF T 34)).T.hint (cxF T (OrL.k [(37,zYJ js ms n m)]) 60 34 (ntmF T 34)).me (zY (qY T 34 [0,1,0,1,1]))) K q σ) K js ms n m cs c p).trans ?_;rw [vYH (show ¬ (p:Int) < (c:Int) by omega)];rfl
 | k + 1,p,q + 1,hp,hq=>by
  refine (rdRc (fun σ=>LF 60 (cxF T (OrL.k [(37,zYJ js ms n m)]) 60 34 (ntmF T 34)) (ckF T (OrL.k [(37,zYJ js ms n m)]) 60) (qY T 34 [0,1,0,1,1]) ((cxF T (OrL.k [(37,zYJ js ms n m)]) 60 34 (ntmF T 34)).T.hint (cxF T (OrL.k [(37,zYJ js ms n m)]) 60 34 (ntmF T 34)).me (zY (qY T 34 [0,1,0,1,1]))) K q σ) K js ms n m cs c p).trans ?_;rw [vJQ (show (p:Int) < (c:Int) by omega),yW (show p < c by omega),qQQ (by omega),lpRc K js ms n m cs c hc k (p + 1) q (by omega) (by omega),toN,cTRc_eq];by_cases hq:conB n (cs p)=true
  ·simp only [cAll,hq,vYV,vZH]
  ·rw [Bool.not_eq_true] at hq;simp only [cAll,hq,vYV,vYG,Bool.false_and]
set_option maxRecDepth 100000 in
theorem pxRc (js:Nat→J) (ms:Nat→Ms) (n m:Nat) (cs:Nat→Cn) (c:Nat):qYH T (OrL.k [(37,zYJ js ms n m)]) (zZ [([0,1,0,1,1],jX (hRc js ms n m cs c 0) (fun K=>bif decide (8 < (c:Int)) then none else (bif cAll cs n c 0 then (K (.exit 0) ⟨[],[]⟩) else (K .ret ⟨[(4,.v (.b false))],[]⟩))))]) 60 34 [(.a [.lf n (fJ js),.lf m (fM ms)]),.lf c (fC cs)] =
 (bif (gEq (.a [.lf n (fJ js),.lf m (fM ms)]) (.a [.lf n (fJ js),.lf m (fM ms)])) then (bif (!decide ((rErr js ms n m)=0)) then some (.v (.b false),[])
 else (bif (decide (8 < (c:Int))) then some (.v (.b false),[])
 else (bif gSt (hRc js ms n m cs c 0) (hRc js ms n m cs c 0) then (bif decide (8 < (c:Int)) then none else (bif cAll cs n c 0 then some (.v (.b true),[]) else some (.v (.b false),[]))) else none)))
 else none):=by kernel_rfl
theorem kYW (js:Nat→J) (ms:Nat→Ms) (n m:Nat) (cs:Nat→Cn) (c:Nat):zH Tryz.prog 34 [(.a [.lf n (fJ js),.lf m (fM ms)]),.lf c (fC cs)] (.v (.b (cErr js ms n m cs c))):=by
 refine jV (N:=60) (LO:=zZ [([0,1,0,1,1],jX (hRc js ms n m cs c 0) (fun K=>bif decide (8 < (c:Int)) then none else (bif cAll cs n c 0 then (K (.exit 0) ⟨[],[]⟩) else (K .ret ⟨[(4,.v (.b false))],[]⟩))))]) yJ yQ (OrL.ok (l:=[(37,zYJ js ms n m)]) ⟨ok_kRc js ms n m,trivial⟩) (fun p S hp => ?_) ?_
 ·refine uY (L:=qY T 34) (l:=[([0,1,0,1,1],jX (hRc js ms n m cs c 0) (fun K=>bif decide (8 < (c:Int)) then none else (bif cAll cs n c 0 then (K (.exit 0) ⟨[],[]⟩) else (K .ret ⟨[(4,.v (.b false))],[]⟩))))]) (show AllP _ [([0,1,0,1,1],jX (hRc js ms n m cs c 0) (fun K=>bif decide (8 < (c:Int)) then none else (bif cAll cs n c 0 then (K (.exit 0) ⟨[],[]⟩) else (K .ret ⟨[(4,.v (.b false))],[]⟩))))] from ⟨qQU fun K r hr => ?_,trivial⟩) p S hp;cases hq:decide (8 < (c:Int)) with
  | true=>rw [hq] at hr; cases hr
  | false =>
   rw [hq] at hr;have h8:=vJY hq;exact (lpRc K js ms n m cs c (by omega) c 0 60 (by omega) (by omega)).trans hr
 ·refine (pxRc js ms n m cs c).trans ?_;unfold cErr;rw [yG,qXZ];cases decide (rErr js ms n m=0) <;> cases decide (8 < (c:Int)) <;> cases cAll cs n c 0 <;> rfl
end Go.Proofs.YtmffoiemmlcmfaaGreat.Nd

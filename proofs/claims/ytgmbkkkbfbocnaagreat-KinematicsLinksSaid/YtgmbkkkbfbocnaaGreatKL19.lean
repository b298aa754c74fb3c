/- Part 19 of the texts behind the last one: rules and contracts. No condition. -/
import Derived.Test.YtgmbkkkbfbocnaaGreatKL18
open Option renaming bind_eq_some_iff → vQQ, bind_some → vYQ
open Option.some renaming injEq → vQZ
open Bool renaming and_eq_true → vQJ
open List renaming getElem?_eq_getElem → vQK, mem_of_getElem? → vQG, mem_cons_of_mem → vQH, mem_cons_self → vZQ, getElem?_map → vZY, getD_eq_getElem?_getD → vZG, drop_zero → vYW
open Nat renaming eq_of_beq_eq_true → vQX
open Classical renaming propDecidable → vYJ
namespace Go.Rx
open Go.RowKit Go.Sx Go.ChangeShapes Go.WideShapes
inductive Sh where
 | i (k:IntKind)
 | b
 | s
 | l (row:List Sh)
inductive Fit:Sh→PV→Prop
 | i (k:IntKind) (x:Int) (h:(Lit.int k x).wf=true):Fit (.i k) (.n k x)
 | b (x:Bool):Fit .b (.b x)
 | s (x:ByteArray) (h:x.size≤maxLen):Fit .s (.s x)
 | l (row:List Sh) (n:Nat) (f:Nat→List PV) (hn:n≤maxLen) (hl:∀ j,j < n→(f j).length=row.length) (h:∀ j,j < n→∀ (i:Nat) sh p,row[i]? = some sh→(f j)[i]? = some p→Fit sh p):Fit (.l row) (.lf n f)
def jUU:List (Nat × List Sh)→Nat→Bool
 | [],_=>true
 | x :: l,a=>Nat.beq x.1 a && jUU l (a + x.2.length)
def sumL:List (List Sh)→Nat
 | []=>0
 | r :: l=>r.length + sumL l
def shT (P:Program):Nat→TypeId→Option (List Sh)
 | 0,_=>none
 | g + 1,t=>match P.underlying t with
  | some (.int k)=>some [.i k]
  | some .bool=>some [.b]
  | some .string=>some [.s]
  | some (.slice e)=>(shT P g e).bind fun r=>bif Nat.beq (P.cellsOf e) r.length && Nat.blt 0 r.length then some [.l r] else none
  | some (.array n e)=>(shT P g e).bind fun r=>bif Nat.beq (P.cellsOf e) r.length && Nat.beq (P.cellsOf t) (sumL (List.replicate n r)) then some (List.replicate n r).flatten else none
  | some (.struct fs)=>(mapO (fun f:Field=>(shT P g f.type).bind fun r=>bif Nat.beq (P.cellsOf f.type) r.length then some (f.offset,r) else none) fs.toList).bind fun l =>
    bif jUU l 0 && Nat.beq (P.cellsOf t) (sumL (l.map (·.2))) then some (l.map (·.2)).flatten else none
  | _=>none
section
variable {P:Program} {w:World} {H:Type} {enc:TypeId × Value→H}
def Good (w:World) (shs:List Sh) (cs:List Value):Prop:=∃ ps:List PV,ps.length=shs.length∧(∀ (i:Nat) sh p,shs[i]? = some sh→ps[i]? = some p→Fit sh p)∧Al (RP (fun k=>k < w.heap.size) w) ps cs∧∀ v ∈ cs,v.oneCell'=true
theorem Good.one {sh:Sh} {p:PV} {v:Value} (h1:Fit sh p) (h2:RP (fun k=>k < w.heap.size) w p v) (h3:v.oneCell'=true):Good w [sh] [v] :=
 ⟨[p],rfl,(fun i s0 q hs hq=>by
  match i with
  | 0=>cases hs; cases hq; exact h1
  | i + 1=>cases hs),zQW h2 yHW,(fun u hu=>by obtain rfl:=List.mem_singleton.1 hu; exact h3)⟩
theorem Good.cat {r s:List Sh} {cs ds:List Value} (h1:Good w r cs) (h2:Good w s ds):Good w (r ++ s) (cs ++ ds):=by
 obtain ⟨p,a1,a2,a3,a4⟩:=h1;obtain ⟨q,b1,b2,b3,b4⟩:=h2;refine ⟨p ++ q,by simp [a1,b1],fun i sh x hs hx => ?_,a3.append b3,fun v hv => ?_⟩
 ·rcases Nat.lt_or_ge i r.length with hi | hi
  ·rw [List.getElem?_append_left hi] at hs;rw [List.getElem?_append_left (by omega)] at hx;exact a2 i sh x hs hx
  ·rw [List.getElem?_append_right hi] at hs;rw [List.getElem?_append_right (by omega),a1] at hx;exact b2 _ sh x hs hx
 ·rcases List.mem_append.1 hv with h | h
  ·exact a4 v h
  ·exact b4 v h
def Pieces (w:World):List (List Sh)→List Value→Prop
 | [],cs=>cs=[]
 | r :: l,cs=>Good w r (cs.take r.length)∧Pieces w l (cs.drop r.length)
theorem Pieces.good:∀ {l:List (List Sh)} {cs:List Value},Pieces w l cs→Good w l.flatten cs
 | [],cs,h=>by
  have:cs=[]:=h
  subst this;exact ⟨[],rfl,fun i sh p hs=>by simp at hs,yHW,fun v hv=>by cases hv⟩
 | r :: l,cs,h=>by
  have:=Good.cat h.1 h.2.good
  rw [List.take_append_drop] at this;exact this
theorem pieces_arr {r:List Sh}:∀ (n:Nat) (cs:List Value),cs.length=sumL (List.replicate n r)→(∀ i,i < n→Good w r ((cs.drop (i * r.length)).take r.length))→Pieces w (List.replicate n r) cs
 | 0,cs,hl,_=>by
  have:cs.length=0:=hl
  exact List.length_eq_zero_iff.1 this
 | n + 1,cs,hl,h=>by
  have hl':cs.length=r.length + sumL (List.replicate n r):=hl;refine ⟨by have:=h 0 (by omega); simpa using this,pieces_arr n _ (by rw [List.length_drop]; omega) fun i hi => ?_⟩
  have:=h (i + 1) (by omega)
  rw [List.drop_drop];rw [show r.length + i * r.length=(i + 1) * r.length by rw [Nat.add_mul]; omega];exact this
theorem pieces_str:∀ (l:List (Nat × List Sh)) (a:Nat) (cs:List Value),jUU l a=true→(cs.drop a).length=sumL (l.map (·.2))→(∀ x ∈ l,Good w x.2 ((cs.drop x.1).take x.2.length))→Pieces w (l.map (·.2)) (cs.drop a)
 | [],a,cs,_,hl,_=>List.length_eq_zero_iff.1 hl
 | x :: l,a,cs,hc,hl,h=>by
  simp only [jUU,vQJ] at hc;have e:=vQX hc.1;have hl':(cs.drop a).length=x.2.length + sumL (l.map (·.2)):=hl;rw [List.length_drop] at hl';have h0:=h x vZQ;rw [e] at h0;refine ⟨h0,?_⟩;show Pieces w (l.map (·.2)) ((cs.drop a).drop x.2.length);rw [List.drop_drop];exact pieces_str l (a + x.2.length) cs hc.2 (by rw [List.length_drop]; omega) fun y hy=>h y (vQH _ hy)
theorem yKG {sp:Nat→Bool} {held:Bool}:∀ (fuel:Nat) (t:TypeId) (cs:List Value) (x:DataW H × List MemPlace) (g:Nat) (shs:List Sh),DataW.trod enc P w 0 sp held fuel t cs=some x→shT P g t=some shs→Good w shs cs
 | 0,t,cs,x,g,shs,h,_=>by simp [DataW.trod] at h
 | fuel + 1,t,cs,x,0,shs,h,hs=>by cases hs
 | fuel + 1,t,cs,x,g + 1,shs,h,hs=>by
  unfold shT at hs;split at hs
  ·rename_i k hu;cases hs;obtain ⟨n,rfl,_,hwf⟩:=DataW.trod_int hu h;exact Good.one (.i _ _ hwf) (.n _ _) rfl
  ·rename_i hu;cases hs;obtain ⟨b,rfl,_⟩:=DataW.trod_bool hu h;exact Good.one (.b _) (.b _) rfl
  ·rename_i hu;cases hs;obtain ⟨s,rfl,_,hs⟩:=DataW.trod_string hu h;exact Good.one (.s _ hs) (.s _) rfl
  ·rename_i e hu;simp only [vQQ] at hs;obtain ⟨r,hr,hs⟩:=hs;obtain ⟨hb,hs⟩:=qY hs;cases hs;simp only [vQJ,Nat.blt_eq] at hb;have hk:=vQX hb.1;have hr0:=hb.2;rcases DataW.trod_slice hu h with ⟨rfl,_⟩ | ⟨a,len,cap,elems,rest,n,hf,rfl,_,_,hl,hm,hel,hcell,_,_⟩
   ·exact Good.one (.l r 0 (fun _=>[]) (Nat.zero_le _) (fun j hj=>by omega) (fun j hj=>by omega)) (.lf 0 _ _ (.l0 _ _)) rfl
   ·obtain rfl:n=fuel:=by omega
    have each:∀ i,∃ y:List PV × List Value,i < len→w.cells? 0 (a.add (i * r.length)) r.length=some y.2∧y.1.length=r.length∧(∀ (j:Nat) sh p,r[j]? = some sh→y.1[j]? = some p→Fit sh p)∧Al (RP (fun k=>k < w.heap.size) w) y.1 y.2∧∀ v ∈ y.2,v.oneCell'=true:=fun i=>by
     by_cases hi:i < len
     ·have hc:=hcell i hi;have he:elems[i]? = some (elems[i]'(by omega)):=vQK (by omega);rw [he,vQQ] at hc;obtain ⟨cs',h1,h2⟩:=hc;rw [hk] at h1;obtain ⟨ps,b1,b2,b3,b4⟩:=yKG n e cs' _ g r h2 hr;exact ⟨(ps,cs'),fun _=>⟨h1,b1,b2,b3,b4⟩⟩
     ·exact ⟨([],[]),fun h=>absurd h hi⟩
    obtain ⟨f,hf2⟩:=Classical.axiomOfChoice each;refine Good.one (.l r len (fun j=>(f j).1) (by omega) (fun j hj=>(hf2 j hj).2.1) (fun j hj=>(hf2 j hj).2.2.1)) (.lf len _ _ ?_) rfl;rcases Nat.eq_zero_or_pos len with h0 | hpos
    ·subst h0;exact .l0 _ _
    ·have hsome:∀ j t,j < len→t < r.length→w.cell? ((a.add (j * r.length)).add t)=(f j).2[t]?:=fun j t hj ht=>(World.cells?_some (hf2 j hj).1).2.2 t ht
     have hlen2:∀ j,j < len→(f j).2.length=r.length:=fun j hj=>(World.cells?_some (hf2 j hj).1).2.1
     have h00:=hsome 0 0 hpos hr0;have hg:(f 0).2[0]? = some ((f 0).2[0]'(by rw [hlen2 0 hpos]; exact hr0)):=vQK _;rw [hg] at h00;have hsp:a.spot=none:=by
      have e:(a.add (0 * r.length)).add 0=a:=by simp [Addr.add]
      rw [e] at h00;unfold World.cell? at h00;cases hb:w.heap[a.block]? with
      | none=>simp [hb] at h00
      | some o=>cases o <;> simp [hb] at h00; exact h00.1
     obtain ⟨bb,off,sp'⟩:=a;simp only at hsp;subst hsp;have hbb:bb < w.heap.size:=by
      rw [qJY,qJY] at h00;unfold World.cell? at h00;cases hb:w.heap[bb]? with
      | none=>simp [hb] at h00
      | some o=>exact qZJ hb
     refine .l _ bb off len cap r.length (fun j t=>((f j).2[t]?).getD (.bool false)) (by simp) hl (fun q hq => ?_) hbb (fun j t hj ht => ?_) (fun j q t p hq hp => ?_)
     ·obtain ⟨j,hj,rfl⟩:=List.mem_map.1 hq;exact (hf2 j (List.mem_range.1 hj)).2.1
     ·have h1:=hsome j t hj ht;have hg2:(f j).2[t]? = some ((f j).2[t]'(by rw [hlen2 j hj]; exact ht)):=vQK _;rw [qJY,qJY,hg2,Nat.add_assoc] at h1;rw [hg2];exact ⟨h1,(hf2 j hj).2.2.2.2 _ (List.getElem_mem _)⟩
     ·have hj:j < len:=by have:=(List.getElem?_eq_some_iff.1 hq).1; simpa using this
      rw [vZY,List.getElem?_range hj] at hq;cases hq;have htl:=(List.getElem?_eq_some_iff.1 hp).1;have hg2:(f j).2[t]? = some ((f j).2[t]'(by rw [hlen2 j hj,← (hf2 j hj).2.1]; exact htl)):=vQK _
      have:=(hf2 j hj).2.2.2.1.2 t p _ hp hg2
      rw [hg2];exact this
  ·rename_i n e hu;simp only [vQQ] at hs;obtain ⟨r,hr,hs⟩:=hs;obtain ⟨hb,hs⟩:=qY hs;cases hs;simp only [vQJ] at hb;have hk:=vQX hb.1;have hk2:=vQX hb.2;obtain ⟨xs,m,hf,_,hl,hxl,hall⟩:=DataW.trod_array hu h;obtain rfl:m=fuel:=by omega
   refine (pieces_arr n cs (hl.trans hk2) fun i hi => ?_).good;have h1:=hall i hi;have he:xs[i]? = some (xs[i]'(by omega)):=vQK (by omega);rw [he,hk] at h1;exact yKG m e _ _ g r h1 hr
  ·rename_i fs hu;simp only [vQQ] at hs;obtain ⟨l,hlm,hs⟩:=hs;obtain ⟨hb,hs⟩:=qY hs;cases hs;simp only [vQJ] at hb;have hk2:=vQX hb.2;obtain ⟨xs,m,hf,_,hl,hxl,hall⟩:=DataW.trod_struct hu h;obtain rfl:m=fuel:=by omega
   have hm:=jQ hlm
   have:=pieces_str (w:=w) l 0 cs hb.1 (by rw [vYW]; exact hl.trans hk2) fun y hy=>by
    obtain ⟨i,hi⟩:=List.mem_iff_getElem?.1 hy;have hil:=(List.getElem?_eq_some_iff.1 hi).1;have hl2:i < fs.toList.length:=by rw [hm.1]; exact hil
    have hfi:fs.toList[i]? = some (fs.toList[i]'hl2):=vQK hl2;have h1:=hm.2 i _ y hfi hi;generalize fs.toList[i]'hl2=fd at hfi h1;simp only [vQQ] at h1;obtain ⟨r,hr,h1⟩:=h1;obtain ⟨hb1,h1⟩:=qY h1;cases h1;have hk:=vQX hb1;have h2:=hall i fd (by simpa using hfi);have he:xs[i]? = some (xs[i]'(by simp at hxl hl2; omega)):=vQK _;rw [he,hk] at h2;exact yKG m fd.type _ _ g r h2 hr
   rw [vYW] at this;exact this.good
  ·cases hs
end
end Go.Rx
namespace Go.Rx
open Go.RowKit Go.Sx
abbrev Cont:=Ex→St→Option (Ret × Mem)
abbrev kV:=St→Cont→Option (Ret × Mem)
def qXQ:Nat→Code→Code
 | 0,.seq x _=>x
 | _ + 1,.seq _ y=>y
 | 0,.cond _ x _=>x
 | _ + 1,.cond _ _ y=>y
 | _,.block _ x=>x
 | _,.scope x=>x
 | _,.loop x=>x
 | _,c=>c
def qJQ (B:Code):List Nat→Code
 | []=>B
 | i :: p=>qXQ i (qJQ B p)
def yKJ:List Nat→List Nat→Bool
 | [],[]=>true
 | x :: xs,y :: ys=>Nat.beq x y && yKJ xs ys
 | _,_=>false
theorem yQG:∀ {p q:List Nat},yKJ p q=true→p=q
 | [],[],_=>rfl
 | x :: xs,y :: ys,h=>by
  simp only [yKJ,vQJ] at h;rw [vQX h.1,yQG h.2]
 | [],_ :: _,h=>by cases h
 | _ :: _,[],h=>by cases h
def LF (N:Nat) (C:Cx) (cK:qXY) (x:Code) (h:Hint) (K:Cont):Nat→St→Option (Ret × Mem)
 | 0,_=>none
 | n + 1,σ=>qWG N C cK x (fun e τ=>match e with
   | .normal=>LF N C cK x h K n (qXZ h τ)
   | e=>K e (qJK h τ)) σ
def yHG (N:Nat) (C:Cx) (cK:qXY) (x:Code) (S:kV):Prop:=∀ K σ r,S σ K=some r→LF N C cK x (C.T.hint C.me (qG x)) K N σ=some r
theorem loopN_LF {N:Nat} {C:Cx} {cK:qXY} {x:Code} {h:Hint} {K:Cont}:∀ (n:Nat) (σ:St),zUX (fun again σ=>qWG N C cK x (fun e σ=>match e with
   | .normal=>again σ
   | e=>K e (qJK h σ)) (qXZ h σ)) n σ=LF N C cK x h K n (qXZ h σ)
 | 0,_=>rfl
 | n + 1,σ=>by
  simp only [zUX,LF]
  congr 1
  funext e τ;cases e with
  | normal=>exact loopN_LF n τ
  | _=>rfl
def yJU (N:Nat) (C:Cx) (cK:qXY) (LO:List Nat→Option kV):Code→List Nat→Cont→St→Option (Ret × Mem)
 | .skip,_,K,σ=>K .normal σ
 | .label _,_,K,σ=>K .normal σ
 | .scope x,p,K,σ=>yJU N C cK LO x (0 :: p) K σ
 | .ret,_,K,σ=>K .ret σ
 | .exit id,_,K,σ=>K (.exit id) σ
 | .region _ ops d,_,K,σ=>bif d then zYU C cK ops 0 ops.toList [] (K .normal) σ else yQX C cK ops ops.toList (K .normal) σ
 | .seq x y,p,K,σ=>yJU N C cK LO x (0 :: p) (fun e σ=>match e with
   | .normal=>yJU N C cK LO y (1 :: p) K σ
   | e=>K e σ) σ
 | .cond c x y,p,K,σ=>(opv 1 σ c).bind fun v=>match v with
   | .v (.b t)=>bif t then yJU N C cK LO x (0 :: p) K σ else yJU N C cK LO y (1 :: p) K σ
   | _=>none
 | .block id x,p,K,σ=>yJU N C cK LO x (0 :: p) (fun e σ=>match e with
   | .exit id'=>bif Nat.beq id' id then K .normal σ else K (.exit id') σ
   | e=>K e σ) σ
 | .loop x,p,K,σ=>match LO p with
   | some S=>S (qXZ (C.T.hint C.me (qG x)) σ) K
   | none=>zUX (fun again σ=>qWG N C cK x (fun e σ=>match e with
     | .normal=>again σ
     | e=>K e (qJK (C.T.hint C.me (qG x)) σ)) (qXZ (C.T.hint C.me (qG x)) σ)) N σ
 | _,_,_,_=>none
section
variable {C:Cx} {cK:qXY} {r:Ret × Mem} {K0:Ret × Mem→Option (Ret × Mem)}
theorem qXK {N:Nat} {LO:List Nat→Option kV} {B:Code} (hc:SndK C cK) (hL:∀ p S,LO p=some S→yHG N C cK (qXQ 0 (qJQ B p)) S):∀ (c:Code) (p:List Nat) {K K':Cont} (hp:qJQ B p=c) (hK:∀ e σ,K e σ=some r→Gets K0 r (K' e σ)) (σ:St),yJU N C cK LO c p K σ=some r→Gets K0 r (runC N C c K' σ)
 | .skip,p,K,K',hp,hK,σ,h=>hK _ _ h
 | .label _,p,K,K',hp,hK,σ,h=>hK _ _ h
 | .scope x,p,K,K',hp,hK,σ,h=>qXK hc hL x (0 :: p) (by simp only [qJQ,hp,qXQ]) hK σ h
 | .ret,p,K,K',hp,hK,σ,h=>hK _ _ h
 | .exit id,p,K,K',hp,hK,σ,h=>hK _ _ h
 | .region id ops d,p,K,K',hp,hK,σ,h=>by
  cases d with
  | true=>exact qHY hc (hK .normal) _ _ _ _ h
  | false=>exact zZW hc (hK .normal) _ _ h
 | .seq x y,p,K,K',hp,hK,σ,h=>by
  refine qXK hc hL x (0 :: p) (by simp only [qJQ,hp,qXQ]) (fun e τ hk => ?_) σ h;cases e with
  | normal=>exact qXK hc hL y (1 :: p) (by simp only [qJQ,hp,qXQ]) hK τ hk
  | _=>exact hK _ _ hk
 | .cond c x y,p,K,K',hp,hK,σ,h=>by
  simp only [yJU,vQQ] at h;obtain ⟨v,hv,h⟩:=h;simp only [runC,hv,vYQ];split at h
  ·rename_i t;cases t with
   | true=>exact qXK hc hL x (0 :: p) (by simp only [qJQ,hp,qXQ]) hK σ h
   | false=>exact qXK hc hL y (1 :: p) (by simp only [qJQ,hp,qXQ]) hK σ h
  ·cases h
 | .block id x,p,K,K',hp,hK,σ,h=>by
  refine qXK hc hL x (0 :: p) (by simp only [qJQ,hp,qXQ]) (fun e τ hk => ?_) σ h;cases e with
  | exit id' =>
   simp only at hk ⊢;cases hb:Nat.beq id' id with
   | true=>rw [hb] at hk; exact hK _ _ hk
   | false=>rw [hb] at hk; exact hK _ _ hk
  | _=>exact hK _ _ hk
 | .loop x,p,K,K',hp,hK,σ,h=>by
  simp only [yJU] at h;simp only [runC];have h':zUX (fun again σ=>qWG N C cK x (fun e σ=>match e with
     | .normal=>again σ
     | e=>K e (qJK (C.T.hint C.me (qG x)) σ)) (qXZ (C.T.hint C.me (qG x)) σ)) N σ=some r:=by
   cases hS:LO p with
   | none=>rw [hS] at h; exact h
   | some S =>
    rw [hS] at h
    have:=hL p S hS
    rw [hp] at this;rw [loopN_LF];exact this K _ r h
  refine zYV (fun a a' ha τ hs => ?_) N σ h';refine qJZ hc x (fun e υ hk => ?_) _ hs;cases e with
  | normal=>exact ha _ hk
  | _=>exact hK _ _ hk
 | .rangeFunc ..,p,K,K',hp,hK,σ,h=>by cases h
 | .goto _,p,K,K',hp,hK,σ,h=>by cases h
 | .refuse _,p,K,K',hp,hK,σ,h=>by cases h
end
def cxF (T:Tab) (ok:OrK) (N f n:Nat):Cx:=⟨T,qVW ok.orc (runF T ok.orc N),zZY ok.orc (runF T ok.orc N),f,n⟩
def ckF (T:Tab) (ok:OrK) (N:Nat):qXY:=zGX ok (jXY T ok N)
def zGV (T:Tab) (f:Nat):Code:=match T.fn f with
 | some fi=>fi.body
 | none=>.skip
def ntmF (T:Tab) (f:Nat):Nat:=match T.fn f with
 | some fi=>fi.ntmps
 | none=>0
def yQW (T:Tab) (ok:OrK) (LO:List Nat→Option kV) (N f:Nat) (ps:List PV):Option (Ret × Mem):=match T.fn f with
 | none=>none
 | some fi=>bif Nat.ble (ps.map HV.v).length fi.ntmps then yJU N (cxF T ok N f (ntmF T f)) (ckF T ok N) LO (zGV T f) [] (fun e σ=>(endK T [] fi.results e σ).bind fun r=>some (r.1,[])) ⟨initS 0 (ps.map .v),[]⟩ else none
theorem ckF_snd {T:Tab} {ok:OrK} {N f n:Nat}:SndK (cxF T ok N f n) (ckF T ok N):=fun g qs K' r' hk=>by
 unfold ckF zGX at hk;show ∃ x,qVW ok.orc (runF T ok.orc N) g qs=some x∧K' x=some r';unfold qVW;cases ho:ok g with
 | some o =>
  rw [ho] at hk;simp only [vQQ] at hk;obtain ⟨x,hx,hk⟩:=hk;obtain ⟨h1,hk⟩:=qY hk;exact ⟨x.2,by simp only [OrK.orc,ho,hx,vYQ,h1,vYV],hk⟩
 | none =>
  rw [ho] at hk;obtain ⟨x,M,hx,hk⟩:=zWZ N g qs K' r' hk;have e:ok.orc.a g=none:=by simp only [OrK.orc,ho,Option.bind_none]
  exact ⟨x,by simp only [e,hx,vYQ],hk⟩
def qQ (T:Tab) (f:Nat) (p:List Nat):Code:=qXQ 0 (qJQ (zGV T f) p)
theorem qZW {P:Program} {T:Tab} {ok:OrK} {LO:List Nat→Option kV} {N f:Nat} {ps:List PV} {r:Ret} (hT:TabOk P T) (hm:P.follows .mixedOrders=true) (hO:ok.Ok P)
  (hL:∀ p S,LO p=some S→yHG N (cxF T ok N f (ntmF T f)) (ckF T ok N) (qQ T f p) S) (h:yQW T ok LO N f ps=some (r,[])):yH P f ps r:=by
 refine zUQ (N:=N + 1) hT hm hO.orc ?_;unfold yQW at h;split at h
 ·cases h
 ·rename_i fi hfi;obtain ⟨hb,h⟩:=qY h;obtain ⟨q,h1,h2⟩:=qXK (K0:=fun q=>some (q.1,[])) (K':=endK T [] fi.results) (B:=zGV T f) ckF_snd hL (zGV T f) [] rfl (fun e σ hk=>by
   simp only [vQQ] at hk;exact hk) _ h
  cases h2;have eb:zGV T f=fi.body:=by unfold zGV; rw [hfi]
  have en:ntmF T f=fi.ntmps:=by unfold ntmF; rw [hfi]
  rw [eb,en] at h1;unfold run;simp only [runF,hfi,hb,vYV];unfold cxF at h1;rw [h1];rfl
noncomputable def gSt (a b:St):Bool:=@decide (a=b) (vYJ _)
theorem jK (a:St):gSt a a=true:=@vJQ _ (vYJ _) rfl
theorem gSt_eq {a b:St} (h:gSt a b=true):a=b:=@vJZ _ (vYJ _) h
noncomputable def qQX (s:St) (R:Cont→Option (Ret × Mem)):kV:=fun σ K=>bif gSt σ s then R K else none
theorem qXW {N:Nat} {C:Cx} {cK:qXY} {x:Code} {s:St} {R:Cont→Option (Ret × Mem)} (h:∀ K r,R K=some r→LF N C cK x (C.T.hint C.me (qG x)) K N s=some r):yHG N C cK x (qQX s R):=fun K σ r hr=>by
 unfold qQX at hr;obtain ⟨hg,hq⟩:=qY hr;have e:=gSt_eq hg;subst e;exact h K r hq
def qX (l:List (List Nat × kV)) (p:List Nat):Option kV:=match l with
 | []=>none
 | x :: xs=>bif yKJ x.1 p then some x.2 else qX xs p
theorem qKY {N:Nat} {C:Cx} {cK:qXY} {L:List Nat→Code}:∀ {l:List (List Nat × kV)},AllP (fun x:List Nat × kV=>yHG N C cK (L x.1) x.2) l→∀ p S,qX l p=some S→yHG N C cK (L p) S
 | [],_,p,S,h=>by cases h
 | x :: xs,hl,p,S,h=>by
  simp only [qX] at h;cases hb:yKJ x.1 p with
  | true =>
   rw [hb] at h;simp only [vYV,vQZ] at h;subst h
   have:=yQG hb
   subst this;exact hl.1
  | false =>
   rw [hb] at h;exact qKY hl.2 p S h
end Go.Rx
namespace Go.Rx
open Go.RowKit Go.Sx
theorem own_mem {D:Nat→Prop} {G:World→Prop} {e sz cap k:Nat} {a:Option Addr} {ys:List Value} {w:World} (hd:qWW D G) (hG:G w) (hi:∀ w,G w→OwnF 0 e sz a cap k ys w):∀ ad,a=some ad→D ad.block:=by
 rintro ad rfl
 apply Classical.byContradiction;intro hn;obtain ⟨_,h1⟩:=hi w hG;rcases h1 with ⟨h1,_⟩ | ⟨g,cp,cur,hv,_,hb,_,_,hs,_⟩
 ·cases h1
 ·simp only [Value.slice.injEq,vQZ] at hv;obtain ⟨rfl,_,rfl⟩:=hv;have hlt:g < w.heap.size:=qZJ hb;have hG':G { w with heap:=w.heap.setIfInBounds g (.cells (cur.push (.bool true)) e (0,0)) }:=hd w _ (fun k hk=>by
   have e:g ≠ k:=fun e=>hn (e ▸ hk)
   show (w.heap.setIfInBounds g _)[k]? = _;exact Array.getElem?_setIfInBounds_ne e) hG
  obtain ⟨_,h2⟩:=hi _ hG';rcases h2 with ⟨h2,_⟩ | ⟨g',cp',cur',hv',_,hb',_,_,hs',_⟩
  ·cases h2
  ·simp only [Value.slice.injEq,vQZ,Addr.mk.injEq] at hv';obtain ⟨⟨rfl,_⟩,_,rfl⟩:=hv';have hb2:(w.heap.setIfInBounds g (.cells (cur.push (.bool true)) e (0,0)))[g]? = some (.cells cur' e (0,0)):=hb';rw [Array.getElem?_setIfInBounds_self_of_lt hlt] at hb2;simp only [vQZ,Obj.cells.injEq] at hb2;rw [← hb2.1,Array.size_push,hs] at hs';omega
theorem al_flat {F:Nat→Prop} {w:World} {sz:Nat} {rows:List (List PV)} (hs:qVQ sz rows=true):Al (Al (RP F w)) rows (qKX rows)∧(∀ v ∈ qKX rows,∀ u ∈ v,u.oneCell'=true):=by
 unfold qKX;refine ⟨⟨by simp,fun i r v hr hv => ?_⟩,fun v hv u hu => ?_⟩
 ·rw [vZY,hr] at hv;cases hv;refine ⟨by simp,fun j p u hp hu => ?_⟩;rw [vZY,hp] at hu;cases hu;exact (zJH ((qKG hs (vQG hr)).2 p (vQG hp))).1
 ·obtain ⟨r,hr,rfl⟩:=List.mem_map.1 hv;obtain ⟨p,hp,rfl⟩:=List.mem_map.1 hu;exact (zJH (F:=F) (w:=w) ((qKG hs hr).2 p hp)).2
theorem snd_toldOw {P:Program} {f:Nat} {ps:List PV} {e sz:Nat} {rows:List (List PV)} {Φ:Option Addr × Nat→Prop} (hent:kU P f) (hs:qVQ sz rows=true) (h0:0 < sz)
  (h:∀ (w:World) (F:Nat→Prop) (vals:List Value),(∀ k,F k→k < w.heap.size)→Al (RP F w) ps vals→Calls P f vals.toArray w (kYG Φ (fun x=>.slice x.1 rows.length x.2) (fun x=>OwnF 0 e sz x.1 x.2 rows.length (qKX rows).flatten) w)):yH P f ps (.ow e sz rows):=by
 refine ⟨hent,fun w F vals hF hal=>(h w F vals hF hal).mono ?_⟩
 rintro en w' ⟨x,hx,rfl,hg,D,h1,h2,h3⟩
 have hal:=al_flat (F:=F) (w:=w') hs;refine ⟨_,F,rfl,hg,fun k hk=>hk,fun k hk=>.inl hk,x.1,x.2,qKX rows,rfl,h0,hal.1,fun r hr=>(qKG hs hr).1,hal.2,h3,fun b hb => ?_⟩;obtain ⟨ad,ha,rfl⟩:=Option.map_eq_some_iff.1 hb;have hD:=h2 _ (own_mem h1 h3 (fun _ h=>h) ad ha);exact ⟨fun hk=>by have:=hF _ hk; omega,hD.1,hD.2⟩
end Go.Rx
namespace Go.Rx
open Go.RowKit Go.Sx
def zGY {β:Type} (good:Nat→Bool) (KX:β) (KR:Nat→β):Nat→Nat→β
 | 0,_=>KX
 | k + 1,p=>bif good p then zGY good KX KR k (p + 1) else KR p
def allN (good:Nat→Bool):Nat→Nat→Bool
 | 0,_=>true
 | k + 1,p=>good p && allN good k (p + 1)
theorem qYJ {β:Type} (good:Nat→Bool) (x y:β):∀ k p,zGY good x (fun _=>y) k p=bif allN good k p then x else y
 | 0,_=>rfl
 | k + 1,p=>by
  simp only [zGY,allN,qYJ good x y k (p + 1)];cases good p <;> rfl
theorem allN_iff {good:Nat→Bool}:∀ {k p:Nat},allN good k p=true ↔ ∀ j,p≤j→j < p + k→good j=true
 | 0,p=>⟨fun _ j h1 h2=>by omega,fun _=>rfl⟩
 | k + 1,p=>by
  simp only [allN,vQJ,allN_iff (k:=k)];exact ⟨fun h j h1 h2=>by
   rcases Nat.eq_or_lt_of_le h1 with e | e
   ·exact e ▸ h.1
   ·exact h.2 j e (by omega),fun h=>⟨h p (Nat.le_refl _) (by omega),fun j h1 h2=>h j (by omega) (by omega)⟩⟩
def firstK (good:Nat→Bool):Nat→Nat→Nat
 | 0,p=>p
 | k + 1,p=>bif good p then firstK good k (p + 1) else p
theorem qGY {β:Type} (good:Nat→Bool) (x:β) (y:Nat→β):∀ k p,zGY good x y k p=bif allN good k p then x else y (firstK good k p)
 | 0,_=>rfl
 | k + 1,p=>by
  simp only [zGY,allN,firstK,qGY good x y k (p + 1)];cases good p <;> rfl
def jWU (N:Nat) (C:Cx) (cK:qXY) (x:Code) (h:Hint) (K:Cont) (G:St→Option (Ret × Mem)) (σ:St):Option (Ret × Mem):=qWG N C cK x (fun e τ=>match e with
 | .normal=>G (qXZ h τ)
 | e=>K e (qJK h τ)) σ
theorem LF_succ {N:Nat} {C:Cx} {cK:qXY} {x:Code} {h:Hint} {K:Cont} {n:Nat} {σ:St}:LF N C cK x h K (n + 1) σ=jWU N C cK x h K (fun σ=>LF N C cK x h K n σ) σ:=rfl
theorem jGK {N:Nat} {C:Cx} {cK:qXY} {x:Code} {h:Hint} {K:Cont} (hd:Int→St) (good:Nat→Bool) {c:Nat} (KX:Option (Ret × Mem)) (KR:Nat→Option (Ret × Mem))
  (r1:∀ G (i:Nat),i < c→jWU N C cK x h K G (hd (i:Int))=bif good i then G (hd ((i + 1:Nat):Int)) else KR i)
  (r2:∀ G,jWU N C cK x h K G (hd (c:Int))=KX):∀ (k p q:Nat),p + k=c→k < q→LF N C cK x h K q (hd (p:Int))=zGY good KX KR k p
 | 0,p,q + 1,hp,_=>by
  rw [LF_succ,show p=c by omega];exact r2 _
 | k + 1,p,q + 1,hp,hq=>by
  rw [LF_succ,r1 _ p (by omega),jGK hd good KX KR r1 r2 k (p + 1) q (by omega) (by omega)];rfl
theorem rows_fn {α:Type} (d:α) (f:α→List PV) (l:List α):l.map f=(List.range l.length).map fun i=>f (l.getD i d):=by
 refine List.ext_getElem? fun i => ?_
 rw [vZY,vZY];by_cases h:i < l.length
 ·rw [List.getElem?_range h,vQK h];simp [vZG,h]
 ·rw [List.getElem?_eq_none (by omega),List.getElem?_eq_none (by simp; omega)];rfl
theorem snd_args {P:Program} {f:Nat} {ps ps':List PV} {r:Ret} (hs:∀ F w vals,Al (RP F w) ps' vals→Al (RP F w) ps vals) (h:yH P f ps r):yH P f ps' r :=
 ⟨h.1,fun w F vals hF hal=>h.2 w F vals hF (hs F w vals hal)⟩
theorem qUU {P:Program} {f:Nat} {ps:List PV} {x y:PV} (hs:∀ F w v,RP F w x v→RP F w y v) (h:yH P f ps (.v x)):yH P f ps (.v y) :=
 ⟨h.1,fun w F vals hF hal=>(h.2 w F vals hF hal).mono fun _ w' ⟨v,F',he,hg,f1,f2,hr⟩=>⟨v,F',he,hg,f1,f2,hs F' w' v hr⟩⟩
theorem jZQ {F:Nat→Prop} {w:World} {n:Nat} {f:Nat→List PV} {rows:List (List PV)} {v:Value} (e:rows=(List.range n).map f) (h:RP F w (.l rows) v):RP F w (.lf n f) v:=.lf n f v (e ▸ h)
theorem zZV {F:Nat→Prop} {w:World} {n:Nat} {f:Nat→List PV} {rows:List (List PV)} {v:Value} (e:rows=(List.range n).map f) (h:RP F w (.lf n f) v):RP F w (.l rows) v:=by
 cases h with
 | lf _ _ _ h=>exact e ▸ h
def Same (x y:PV):Prop:=∀ F w v,RP F w x v→RP F w y v
theorem Same.refl (x:PV):Same x x:=fun _ _ _ h=>h
theorem Same.lf {n:Nat} {f:Nat→List PV} {rows:List (List PV)} (e:rows=(List.range n).map f):Same (.l rows) (.lf n f):=fun _ _ _=>jZQ e
theorem Same.l {n:Nat} {f:Nat→List PV} {rows:List (List PV)} (e:rows=(List.range n).map f):Same (.lf n f) (.l rows):=fun _ _ _=>zZV e
def Sames:List PV→List PV→Prop
 | [],[]=>True
 | x :: xs,y :: ys=>Same x y∧Sames xs ys
 | _,_=>False
theorem Sames.al {F:Nat→Prop} {w:World}:∀ {xs ys:List PV} {vs:List Value},Sames xs ys→Al (RP F w) xs vs→Al (RP F w) ys vs
 | [],[],_,_,h=>h
 | x :: xs,y :: ys,vs,hs,h=>by
  obtain ⟨v,vs,rfl,h1,h2⟩:=qVV h;exact zQW (hs.1 F w v h1) (Sames.al hs.2 h2)
 | [],_ :: _,_,h,_=>h.elim
 | _ :: _,[],_,h,_=>h.elim
theorem Same.a {xs ys:List PV} (h:Sames xs ys):Same (.a xs) (.a ys):=fun F w v hv=>by
 cases hv with
 | a _ vs hl h1 hh =>
  have:=Sames.al h (show Al (RP F w) xs vs from ⟨hl,hh⟩)
  exact .a ys vs this.1 h1 this.2
theorem Same.t {xs ys:List PV} (h:Sames xs ys):Same (.t xs) (.t ys):=fun F w v hv=>by
 cases hv with
 | t _ vs hl hh =>
  have:=Sames.al h (show Al (RP F w) xs vs from ⟨hl,hh⟩)
  exact .t ys vs this.1 this.2
theorem snd_own {P:Program} {f e sz:Nat} {ps:List PV} {rows:List (List PV)} (h:yH P f ps (.ow e sz rows)):yH P f ps (.v (.l rows)):=by
 refine ⟨h.1,fun w F vals hF hal=>(h.2 w F vals hF hal).mono ?_⟩
 rintro en w' ⟨v,F',he,hg,f1,f2,hr⟩
 obtain ⟨F2,f3,f4,hx⟩:=hr.pv (x:=.l rows) rfl;refine ⟨v,F2,he,hg,fun k hk=>f3 k (f1 k hk),fun k hk => ?_,hx⟩;rcases f4 k hk with h | h
 ·exact f2 k h
 ·exact .inr h
end Go.Rx
namespace Go.Rx
open Go.RowKit Go.Sx Go.ChangeShapes Go.WideShapes
section
variable {P:Program} {W:World} {H:Type} {enc:TypeId × Value→H}
def Fits (row:List Sh) (ps:List PV):Prop:=ps.length=row.length∧∀ (i:Nat) sh p,row[i]? = some sh→ps[i]? = some p→Fit sh p
theorem Fits.cons {s0:Sh} {row:List Sh} {ps:List PV} (h:Fits (s0 :: row) ps):∃ p qs,ps=p :: qs∧Fit s0 p∧Fits row qs:=by
 cases ps with
 | nil=>have:=h.1; simp at this
 | cons p qs=>exact ⟨p,qs,rfl,h.2 0 s0 p rfl rfl,by have:=h.1; simpa using this,fun i sh q h1 h2=>h.2 (i + 1) sh q h1 h2⟩
theorem Fits.nil {ps:List PV} (h:Fits [] ps):ps=[]:=List.eq_nil_of_length_eq_zero h.1
theorem Fit.int {k:IntKind} {p:PV} (h:Fit (.i k) p):∃ x,p=.n k x∧(Lit.int k x).wf=true:=by cases h with | i k x h=>exact ⟨x,rfl,h⟩
theorem Fit.str {p:PV} (h:Fit .s p):∃ x,p=.s x:=by cases h with | s x h=>exact ⟨x,rfl⟩
theorem Fit.bool {p:PV} (h:Fit .b p):∃ x,p=.b x:=by cases h with | b x=>exact ⟨x,rfl⟩
theorem Fit.slc {row:List Sh} {p:PV} (h:Fit (.l row) p):∃ n f,p=.lf n f∧∀ j,j < n→Fits row (f j):=by
 cases h with
 | l row n f hn hl h=>exact ⟨n,f,rfl,fun j hj=>⟨hl j hj,h j hj⟩⟩
theorem open_good {t:TypeId} {v:Value} {d:DataW H} {p:List MemPlace} {g:Nat} {shs:List Sh} (h:DataW.Trod enc P W 0 (fun _=>true) true t v d p) (hs:shT P g t=some shs):Good W shs v.cells.toList:=by
 obtain ⟨fuel,h⟩:=h;exact yKG fuel t _ _ g shs h hs
theorem open_slc {t e:TypeId} {v:Value} {d:DataW H} {p:List MemPlace} {g:Nat} {row:List Sh} (ht:P.underlying t=some (.slice e)) {r:Reach} {base:Nat} (hv:Value.okWide P W r base t v)
  (h:DataW.Trod enc P W 0 (fun _=>true) true t v d p) (hs:shT P g t=some [.l row]):∃ n f,RP (fun k=>k < W.heap.size) W (.lf n f) v∧∀ j,j < n→Fits row (f j):=by
 obtain ⟨a,l,c,rfl⟩:=slice_of ht hv;obtain ⟨ps,h1,h2,h3,_⟩:=open_good h hs;obtain ⟨q,qs,rfl,hf,hq⟩:=Fits.cons ⟨h1,h2⟩;obtain ⟨n,f,rfl,hr⟩:=hf.slc;exact ⟨n,f,h3.2 0 _ _ rfl rfl,hr⟩
theorem open_str {t:TypeId} {fs:Array Field} {v:Value} {d:DataW H} {p:List MemPlace} {g:Nat} {row:List Sh} (ht:P.underlying t=some (.struct fs)) {r:Reach} {base:Nat} (hv:Value.okWide P W r base t v)
  (h:DataW.Trod enc P W 0 (fun _=>true) true t v d p) (hs:shT P g t=some row):∃ ps,RP (fun k=>k < W.heap.size) W (.a ps) v∧Fits row ps:=by
 have hcs:∃ cs,v=.agg cs:=by
  unfold Value.okWide at hv;cases v <;> simp [ht] at hv
  exact ⟨_,rfl⟩
 obtain ⟨cs,rfl⟩:=hcs;obtain ⟨ps,h1,h2,h3,h4⟩:=open_good h hs;exact ⟨ps,.a ps cs.toList h3.1 h4 h3.2,h1,h2⟩
theorem lf_fn {α:Type} {F:Nat→Prop} {w:World} {n:Nat} {f:Nat→List PV} {v:Value} {enc:α→List PV} {row:List Sh} (a0:α) (hr:∀ ps,Fits row ps→∃ a,ps=enc a) (hf:∀ j,j < n→Fits row (f j)) (h:RP F w (.lf n f) v) :
  ∃ g:Nat→α,RP F w (.lf n fun j=>enc (g j)) v:=by
 have each:∀ j,∃ a:α,j < n→f j=enc a:=fun j=>by
  by_cases hj:j < n
  ·obtain ⟨a,ha⟩:=hr _ (hf j hj);exact ⟨a,fun _=>ha⟩
  ·exact ⟨a0,fun h=>absurd h hj⟩
 obtain ⟨g,hg⟩:=Classical.axiomOfChoice each;refine ⟨g,jZQ ?_ (zZV rfl h)⟩;exact List.map_congr_left fun j hj=>hg j (List.mem_range.1 hj)
theorem qYH {n:Nat} {f g:Nat→List PV} (h:∀ j,j < n→f j=g j):Same (.lf n f) (.lf n g):=fun F w v hv =>
 jZQ (List.map_congr_left fun j hj=>h j (List.mem_range.1 hj)) (zZV rfl hv)
end
end Go.Rx
namespace Go.Rx
open Go.RowKit Go.Sx
def qXX (N:Nat) (C:Cx) (x:Code) (S:kV):Prop:=∀ (K K':Cont) (K0:Ret × Mem→Option (Ret × Mem)) (σ:St) (r:Ret × Mem),(∀ e τ,K e τ=some r→Gets K0 r (K' e τ))→S (qXZ (C.T.hint C.me (qG x)) σ) K=some r →
 Gets K0 r (zUX (fun again σ=>runC N C x (fun e σ=>match e with
   | .normal=>again σ
   | e=>K' e (qJK (C.T.hint C.me (qG x)) σ)) (qXZ (C.T.hint C.me (qG x)) σ)) N σ)
section
variable {C:Cx} {cK:qXY} {r:Ret × Mem} {K0:Ret × Mem→Option (Ret × Mem)}
end
theorem yY {N:Nat} {C:Cx} {L:List Nat→Code}:∀ {l:List (List Nat × kV)},AllP (fun x:List Nat × kV=>qXX N C (L x.1) x.2) l→∀ p S,qX l p=some S→qXX N C (L p) S
 | [],_,p,S,h=>by cases h
 | x :: xs,hl,p,S,h=>by
  simp only [qX] at h;cases hb:yKJ x.1 p with
  | true =>
   rw [hb] at h;simp only [vYV,vQZ] at h;subst h
   have:=yQG hb
   subst this;exact hl.1
  | false =>
   rw [hb] at h;exact yY hl.2 p S h
noncomputable def sumF {τ:Type} (hd:τ→St) (ex:St→τ) (R:τ→Cont→Option (Ret × Mem)):kV:=fun σ K=>bif gSt σ (hd (ex σ)) then R (ex σ) K else none
theorem qZY {N:Nat} {C:Cx} {L:List Nat→Code}:∀ p S,qX [] p=some S→qXX N C (L p) S:=fun p S h=>by cases h
def runS {τ β:Type} (good:Nat→τ→Bool) (nx:Nat→τ→τ) (KX:τ→β) (KR:Nat→τ→β):Nat→Nat→τ→β
 | 0,_,s=>KX s
 | k + 1,p,s=>bif good p s then runS good nx KX KR k (p + 1) (nx p s) else KR p s
theorem qJU {τ β:Type} {L:Nat→St→Option β} {stp:(St→Option β)→St→Option β} (hs:∀ n s,L (n + 1) s=stp (L n) s) (hd:Nat→τ→St) (Inv:Nat→τ→Prop) (good:Nat→τ→Bool) (nx:Nat→τ→τ) {c:Nat} (KX:τ→Option β) (KR:Nat→τ→Option β)
  (r1:∀ G i s,i < c→Inv i s→stp G (hd i s)=bif good i s then G (hd (i + 1) (nx i s)) else KR i s) (hi:∀ i s,i < c→Inv i s→good i s=true→Inv (i + 1) (nx i s))
  (r2:∀ G s,Inv c s→stp G (hd c s)=KX s):∀ k p q s,p + k=c→k < q→Inv p s→L q (hd p s)=runS good nx KX KR k p s
 | 0,p,q + 1,s,hp,_,hv=>by
  have e:p=c:=by omega
  subst e;rw [hs,r2 _ s hv]; rfl
 | k + 1,p,q + 1,s,hp,hq,hv=>by
  rw [hs,r1 _ p s (by omega) hv];simp only [runS];cases hg:good p s with
  | true=>exact qJU hs hd Inv good nx KX KR r1 hi r2 k (p + 1) q (nx p s) (by omega) (by omega) (hi p s (by omega) hv hg)
  | false=>rfl
end Go.Rx

/- Part 7 of the texts behind the last one: rules and contracts. No condition. -/
import Derived.Test.YtbfcbojgnppacaaGreatMI6
open Option renaming bind_eq_some_iff → vQQ, map_eq_some_iff → vZW, bind_some → vYQ
open Option.some renaming injEq → vQZ
open Prod.mk renaming injEq → vQY
open Bool renaming and_eq_true → vQJ, and_self → vZJ
open List renaming getElem?_eq_getElem → vQK, length_cons → vQW, mem_of_getElem? → vQG, mem_cons_of_mem → vQH, mem_cons_self → vZQ, all_eq_true → vZZ, getElem?_map → vZY, getD_eq_getElem?_getD → vZG, mem_cons → vYZ
open Nat renaming eq_of_beq_eq_true → vQX, le_of_ble_eq_true → vZX
open Classical renaming propDecidable → vYJ
namespace Go.Rx
open Go.RowKit Go.Sx
def asc {α:Type}:List (Nat × α)→Nat→Option α
 | [],_=>none
 | (k,x) :: l,i=>bif Nat.beq k i then some x else asc l i
theorem qZI {α:Type} {l:List (Nat × α)} {i:Nat} {x:α} (h:asc l i=some x):(i,x) ∈ l:=by
 induction l with
 | nil=>cases h
 | cons y l ih =>
  obtain ⟨k,z⟩:=y;simp only [asc] at h;cases hc:Nat.beq k i with
  | true=>rw [hc] at h; cases h; rw [← vQX hc]; exact vZQ
  | false=>rw [hc] at h; exact vQH _ (ih h)
def inL:List Nat→Nat→Bool
 | [],_=>false
 | k :: l,i=>bif Nat.beq k i then true else inL l i
theorem yJZ {l:List Nat} {i:Nat} (h:inL l i=true):i ∈ l:=by
 induction l with
 | nil=>cases h
 | cons k l ih =>
  simp only [inL] at h;cases hc:Nat.beq k i with
  | true=>rw [← vQX hc]; exact vZQ
  | false=>rw [hc] at h; exact vQH _ (ih h)
structure Tabs where
 sz:List (Nat × (Bool × Nat))
 zr:List (Nat × Value)
 fd:List (Nat × List Nat)
 fx:List (Nat × List (Nat × Bool × Nat))
 ar:List (Nat × (Nat × Nat × Bool))
 sl:List (Nat × (Nat × Nat × Nat))
 ly:List (Nat × List (Nat × Nat))
 ik:List (Nat × IntKind)
 str:List Nat
 bo:List Nat
 eq:List (Nat × List Kd)
 fn:List (Nat × Func)
 hint:List (Nat × List (Nat × Hint))
 rw:List Nat
 ow:List (Nat × List Nat)
 dd:List Nat
 ff:List Nat:=[]
 big:List Nat:=[]
 zf:List Nat:=[]
 ag:List Nat:=[]
 bf:List Nat:=[]
 sf:List Nat:=[]
 nf:List Nat:=[]
 gq:List Nat:=[]
 gk:List Nat:=[]
 dr:List (Nat × List (Nat × Hint)):=[]
def yJV:Value→Option HV
 | .slice none 0 0=>some .nl
 | v=>(zJZ v).bind fun p=>some (.v p)
def FnI.of (fn:Func):FnI:=⟨fn.body.getD .skip,fn.ntmps,fn.results.toList⟩
def Tabs.tab (t:Tabs):Tab where
 sz:=asc t.sz
 zr:=fun i=>(asc t.zr i).bind fun z=>mapO zJZ z.cells.toList
 zh:=fun i=>(asc t.zr i).bind fun z=>mapO yJV z.cells.toList
 fd:=fun i f=>(asc t.fd i).bind fun l=>l[f]?
 fx:=fun i f=>(asc t.fx i).bind fun l=>l[f]?
 ar:=asc t.ar
 sl:=fun i=>(asc t.sl i).bind fun x=>some (x.1,x.2.1)
 ly:=asc t.ly
 ik:=asc t.ik
 str:=inL t.str
 bo:=inL t.bo
 eqK:=asc t.eq
 fn:=fun i=>(asc t.fn i).bind fun f=>some (FnI.of f)
 hint:=fun f r=>match (asc t.hint f).bind fun l=>asc l r with | some h=>h | none=>{}
 rw:=inL t.rw
 ownR:=fun f d=>match asc t.ow f with | some l=>inL l d | none=>false
 dd:=inL t.dd
 ff:=inL t.ff
 zf:=inL t.zf
 agf:=inL t.ag
 bf:=inL t.bf
 sf:=inL t.sf
 nf:=inL t.nf
 gq:=inL t.gq
 gk:=inL t.gk
 dr:=fun f r=>(asc t.dr f).bind fun l=>asc l r
 bd:=fun e=>bif inL t.big e then 17592186044416 else 1000000
def allI {α:Type} (p:Nat→α→Bool):Nat→List α→Bool
 | _,[]=>true
 | i,x :: l=>p i x && allI p (i + 1) l
theorem zHD {α:Type} {p:Nat→α→Bool}:∀ {l:List α} {k:Nat},allI p k l=true→∀ {i:Nat} {x:α},l[i]? = some x→p (k + i) x=true
 | [],_,_,i,x,hx=>by simp at hx
 | y :: l,k,h,i,x,hx=>by
  simp only [allI,vQJ] at h;cases i with
  | zero=>simp at hx; subst hx; exact h.1
  | succ i =>
   have:=zHD h.2 (i:=i) (x:=x) (by simpa using hx)
   rw [show k + (i + 1)=k + 1 + i by omega]; exact this
def fxB (P:Program) (t:Nat) (f:Nat) (x:Nat × Bool × Nat):Bool :=
 match P.underlying t with
 | some (.struct fields)=>match fields[f]? with
  | some fld=>fld.offset == x.1 && tyB P fld.type x.2.1 x.2.2 && (x.2.1 || Nat.beq x.2.2 1)
  | none=>false
 | _=>false
def arX (P:Program) (t:Nat) (x:Nat × Nat × Bool):Bool :=
 arrB P t x.1 x.2.1 && match P.underlying t with
 | some (.array n e)=>n == x.1 && tyB P e x.2.2 x.2.1 && (x.2.2 || Nat.beq x.2.1 1)
 | _=>false
def KV1:Kd→Value→Prop
 | .i k,v=>∃ x,v=.int k x
 | .b,v=>∃ x,v=.bool x
 | .s,v=>∃ x,v=.string x
def KV:List Kd→List Value→Prop
 | [],vs=>vs=[]
 | k :: ks,vs=>∃ v us,vs=v :: us∧KV1 k v∧KV ks us
def AllP {α:Type} (p:α→Prop):List α→Prop
 | []=>True
 | x :: l=>p x∧AllP p l
theorem AllP.of {α:Type} {p:α→Prop}:∀ {l:List α},AllP p l→∀ {x},x ∈ l→p x
 | [],_,x,hx=>by simp at hx
 | y :: l,h,x,hx=>by
  rcases List.mem_cons.1 hx with rfl | hx
  ·exact h.1
  ·exact h.2.of hx
theorem kv_of:∀ {ks:List Kd} {ps:List PV} {vs:List Value} {F:Nat→Prop} {w:World},qGW ks ps=true→Al (RP F w) ps vs→KV ks vs
 | [],[],vs,_,_,_,h=>h.nil_left
 | k :: ks,p :: ps,vs,F,w,hk,h=>by
  simp only [qGW,vQJ] at hk;obtain ⟨v,us,rfl,hv,hu⟩:=h.cons_left;refine ⟨v,us,rfl,?_,kv_of hk.2 hu⟩
  have:=hk.1
  unfold kdIs at this;split at this
  ·rename_i k1 k2 x;have e:k1=k2:=by simpa using this
   subst e;cases hv; exact ⟨_,rfl⟩
  ·cases hv; exact ⟨_,rfl⟩
  ·cases hv; exact ⟨_,rfl⟩
  ·cases this
 | [],_ :: _,_,_,_,h,_=>by simp [qGW] at h
 | _ :: _,[],_,_,_,h,_=>by simp [qGW] at h
structure Tabs.Ok (P:Program) (t:Tabs):Prop where
 sz:t.sz.all (fun x=>tyB P x.1 x.2.1 x.2.2 && (x.2.1 || Nat.beq x.2.2 1))=true
 zr:t.zr.map (fun x=>(P.info? x.1).bind (·.zero))=t.zr.map (fun x=>some x.2)
 fd:t.fd.all (fun x=>allI (fun f o=>zQC P x.1 f o) 0 x.2)=true
 fx:t.fx.all (fun x=>allI (fxB P x.1) 0 x.2)=true
 ar:t.ar.all (fun x=>arX P x.1 x.2)=true
 sl:t.sl.all (fun x=>slcB P x.1 x.2.1 x.2.2.1 && Nat.blt 0 x.2.2.1 && Nat.ble x.2.2.1 1000 && appB P x.1 x.2.1 x.2.2.1 x.2.2.2 && Nat.ble x.2.2.2 100000 && (Nat.ble x.2.2.2 8 || !inL t.big x.2.1))=true
 ly:t.ly.map (fun x=>(qJL P x.1).map (·.2))=t.ly.map (fun x=>some x.2)
 ik:t.ik.map (fun x=>P.underlying x.1)=t.ik.map (fun x=>some (.int x.2))
 str:t.str.map (fun x=>P.underlying x)=t.str.map (fun _=>some .string)
 bo:t.bo.map (fun x=>P.underlying x)=t.bo.map (fun _=>some .bool)
 eq:AllP (fun x:Nat × List Kd=>aggB P x.1=true∧∀ vs,KV x.2 vs→qZC P 12 x.1 vs=true) t.eq
 fn:AllP (fun x:Nat × Func=>P.funcs[x.1]? = some x.2) t.fn
 fn2:t.fn.all (fun x => !(x.2.name == "runtime.NumGoroutine") && !x.2.body.isNone)=true
 dd:∀ f ∈ t.dd,uQ P f∧∀ (args:Array Value) (w:World),CallsD P f args .returning w fun e u w'=>(∃ v,e=.returned v)∧u=.returning∧w'=w
theorem zJW {α β:Type} {f g:α→β} {l:List α} (h:l.map f=l.map g) {x:α} (hx:x ∈ l):f x=g x:=by
 induction l with
 | nil=>simp at hx
 | cons y l ih =>
  simp only [List.map_cons,List.cons.injEq] at h;rcases List.mem_cons.1 hx with rfl | hx
  ·exact h.1
  ·exact ih h.2 hx
theorem Tabs.ok {P:Program} {t:Tabs} (h:t.Ok P):TabOk P t.tab where
 sz:=fun i b k hi=>by
  have:=List.all_eq_true.1 h.sz _ (qZI hi)
  simp only [vQJ,Bool.or_eq_true] at this;refine ⟨this.1,fun hb => ?_⟩;rcases this.2 with h1 | h1
  ·rw [hb] at h1; cases h1
  ·exact vQX h1
 zr:=fun i ps hi=>by
  simp only [Tabs.tab,vQQ] at hi;obtain ⟨z,hz,hps⟩:=hi
  have:=zJW h.zr (qZI hz)
  refine ⟨z,this,?_⟩;have h1:=jJ hps;exact ⟨h1.1.symm,fun j p v hp hv=>⟨fun F w=>(qZZ (F:=F) (w:=w) (h1.2 j v p hv hp)).1,(qZZ (F:=fun _=>False) (w:=default) (h1.2 j v p hv hp)).2⟩⟩
 zh:=fun i hs hi=>by
  simp only [Tabs.tab,vQQ] at hi;obtain ⟨z,hz,hps⟩:=hi
  have:=zJW h.zr (qZI hz)
  refine ⟨z,this,?_⟩;have h1:=jJ hps;refine ⟨h1.1.symm,fun j p v hp hv => ?_⟩;have h2:yJV v=some p:=h1.2 j v p hv hp;unfold yJV at h2;split at h2
  ·cases h2; exact ⟨fun _ _ _=>rfl,rfl⟩
  ·simp only [vQQ,vQZ] at h2;obtain ⟨q,hq,rfl⟩:=h2;exact ⟨fun ρ F w=>(qZZ (F:=F) (w:=w) hq).1,(qZZ (F:=fun _=>False) (w:=default) hq).2⟩
 fd:=fun i f o hi=>by
  simp only [Tabs.tab,vQQ] at hi;obtain ⟨l,hl,ho⟩:=hi
  have:=zHD (List.all_eq_true.1 h.fd _ (qZI hl)) ho
  simpa using this
 fx:=fun i f o b k hi=>by
  simp only [Tabs.tab,vQQ] at hi;obtain ⟨l,hl,ho⟩:=hi
  have:=zHD (List.all_eq_true.1 h.fx _ (qZI hl)) ho
  rw [Nat.zero_add] at this;unfold fxB at this;split at this
  ·rename_i fields hu;split at this
   ·rename_i fld hf;simp only [vQJ,Bool.or_eq_true] at this;refine ⟨fields,fld,hu,hf,by simpa using this.1.1,this.1.2,fun hb => ?_⟩;rcases this.2 with h1 | h1
    ·rw [hb] at h1; cases h1
    ·exact vQX h1
   ·cases this
  ·cases this
 ar:=fun i n k b hi=>by
  have:=List.all_eq_true.1 h.ar _ (qZI hi)
  simp only [arX,vQJ] at this;refine ⟨this.1,?_⟩;have h2:=this.2;split at h2
  ·rename_i m e hu;simp only [vQJ,Bool.or_eq_true] at h2;have hm:m=n:=by simpa using h2.1.1
   subst hm;refine ⟨e,hu,h2.1.2,fun hb => ?_⟩;rcases h2.2 with h1 | h1
   ·rw [hb] at h1; cases h1
   ·exact vQX h1
  ·cases h2
 sl:=fun i e k hi=>by
  simp only [Tabs.tab,vQQ,vQZ,vQY] at hi;obtain ⟨x,hx,rfl,rfl⟩:=hi
  have:=List.all_eq_true.1 h.sl _ (qZI hx)
  simp only [vQJ,Bool.or_eq_true,Bool.not_eq_true'] at this;have hb:=vZX this.1.2;refine ⟨this.1.1.1.1.1,by simpa [Nat.blt_eq] using this.1.1.1.1.2,vZX this.1.1.1.2,x.2.2,this.1.1.2,hb,?_⟩;show (bif inL t.big x.1 then 17592186044416 else 1000000) * x.2.2≤140737488355328∧(bif inL t.big x.1 then 17592186044416 else 1000000)≤17592186044416;cases hL:inL t.big x.1 with
  | false =>
   refine ⟨?_,by decide⟩;rw [vYG];omega
  | true =>
   refine ⟨?_,by decide⟩;rcases this.2 with h1 | h1
   ·have:=vZX h1
    rw [vYV];omega
   ·rw [hL] at h1; cases h1
 ly:=fun i pl hi=>by
  have:=zJW h.ly (qZI hi)
  simp only [vZW] at this;obtain ⟨⟨z,pl'⟩,hz,rfl⟩:=this;refine ⟨z,hz,fun ps hps => ?_⟩;simp only [Tabs.tab,vQQ] at hps;obtain ⟨z',hz',hps⟩:=hps;have h0:(P.info? i).bind (·.zero)=some z':=zJW h.zr (qZI hz');have e:z=z'.cells.toList:=by
   unfold qJL at hz;split at hz
   ·rename_i it n e hi _;rw [hi] at h0;simp only [vYQ] at h0;rw [h0] at hz;split at hz
    ·rename_i h1 _; cases h1; cases hz; rfl
    ·cases hz
   ·rename_i it fields hi _;rw [hi] at h0;simp only [vYQ] at h0;rw [h0] at hz;split at hz
    ·rename_i h1 _; cases h1; cases hz; rfl
    ·cases hz
   ·cases hz
  subst e;have h1:=jJ hps;exact ⟨h1.1.symm,fun j p v hp hv=>⟨fun F w=>(qZZ (F:=F) (w:=w) (h1.2 j v p hv hp)).1,(qZZ (F:=fun _=>False) (w:=default) (h1.2 j v p hv hp)).2⟩⟩
 ik:=fun i k hi=>zJW h.ik (qZI hi)
 str:=fun i hi=>zJW h.str (yJZ hi)
 bo:=fun i hi=>zJW h.bo (yJZ hi)
 eqK:=fun i ks hi=>by
  have:=h.eq.of (qZI hi)
  exact ⟨this.1,fun vs ⟨ps,F,w,hk,hal⟩=>this.2 vs (kv_of hk hal)⟩
 dd:=fun f hf=>h.dd f (yJZ hf)
 fn:=fun f fi hi=>by
  simp only [Tabs.tab,vQQ,vQZ] at hi;obtain ⟨fn,hfn,rfl⟩:=hi;have h1:=h.fn.of (qZI hfn);have h2:=List.all_eq_true.1 h.fn2 _ (qZI hfn);simp only [vQJ,Bool.not_eq_true'] at h2;simp only at h1 h2;refine ⟨qU h1 h2.1 h2.2,fn,h1,?_,rfl,by simp [FnI.of]⟩;cases hb:fn.body with
  | none=>rw [hb] at h2; simp at h2
  | some b=>simp [FnI.of,hb]
end Go.Rx
namespace Go.Rx
open Go.Sx
variable {P:Program}
theorem nil_neq {t:TypeId} {ms:Array (String × TypeId)} {w:World} (hu:P.underlying t=some (.interface ms)):(binOp .neq t .nilIface .nilIface).run P w=.ok (.bool false) w:=by
 have h:(Op.equal t .nilIface .nilIface).run P w=.ok true w:=by
  unfold Op.equal;rw [show Op.maxDepth=9999 + 1 from rfl,Op.equalIn];simp [run_underlying hu]
 simp [binOp,go_sem,h]
theorem dd_ok {f:FuncId} {fn:Func} {x:Code} {i j:Nat} {t t':TypeId} {p p':String} {ed:Array Edge} (hf:P.funcs[f]? = some fn)
  (hb:fn.body=some (.seq (.region 0 #[⟨some i,.call ⟨.builtin .recover,#[],#[]⟩,t,p,#[],none⟩,⟨some j,.binOp .neq t (.tmp i) (.const .nilIface) t,t',p',ed,none⟩] false) (.cond (.tmp j) x .skip)))
  (hr:fn.results=#[]) (hi:i < fn.ntmps) (hj:j < fn.ntmps) (hij:i ≠ j) {ms:Array (String × TypeId)} (hT:P.underlying t=some (.interface ms)) (args:Array Value) (w:World) :
  CallsD P f args .returning w fun e u w'=>(∃ v,e=.returned v)∧u=.returning∧w'=w:=by
 refine callsD_of_wpS hf hb fun c₀ cs hu => ?_
 have hs:(args ++ Array.replicate (fn.ntmps - args.size) undef).size ≥ fn.ntmps:=by simp; omega
 generalize args ++ Array.replicate (fn.ntmps - args.size) undef=T at hs;apply wpS_seq;apply wpS_region;have hi':i < T.size:=by omega
 have hj':j < T.size:=by omega
 simp [wpOpsS,go_sem,recoverD,hu,Exit.thenS,hi',nil_neq hT];refine wpS_cond (t:=false) (by simp [Act.eval,hj',hij]) ?_;refine wpS_of_wp (wp_skip ?_);obtain ⟨⟩:=c₀;subst hu;simp [bodyPostS,results,hr,go_sem]
end Go.Rx
namespace Go.Proofs.YtbfcbojgnppacaaGreat.Rt
open Go.Rx Go.Sx
noncomputable def tabs:Tabs where
 sz:=[(1,false,1),
  (2,false,1),
  (3,false,1),
  (4,false,1),
  (5,false,1),
  (6,false,1),
  (7,true,4),
  (8,true,4),
  (9,false,1),
  (10,false,1),
  (11,false,1),
  (12,false,1),
  (13,true,2),
  (14,true,2),
  (15,false,1),
  (16,false,1),
  (17,false,1),
  (18,true,1),
  (19,true,1),
  (20,false,1),
  (21,false,1),
  (22,false,1),
  (23,false,1),
  (24,true,2),
  (25,true,2),
  (26,false,1),
  (27,false,1),
  (28,false,1),
  (29,false,1),
  (30,false,1),
  (31,false,1),
  (32,false,1),
  (33,false,1),
  (34,false,1),
  (35,false,1),
  (36,false,1),
  (37,false,1),
  (38,false,1),
  (39,false,1),
  (40,false,1),
  (41,false,1),
  (42,false,1),
  (43,true,3),
  (44,true,3),
  (45,true,3),
  (46,true,3),
  (47,true,8),
  (48,true,8),
  (49,false,1),
  (50,false,1),
  (52,false,1),
  (53,false,1),
  (54,false,1),
  (55,false,1),
  (56,false,1),
  (57,true,3),
  (58,true,3),
  (59,true,10),
  (60,true,10),
  (61,true,2),
  (62,true,2),
  (64,false,1),
  (65,true,2),
  (66,false,1),
  (67,false,1),
  (68,false,1),
  (69,true,12),
  (70,true,12),
  (71,false,1),
  (72,false,1),
  (73,false,1),
  (74,false,1),
  (76,false,1),
  (77,false,1),
  (78,true,14),
  (79,true,14),
  (80,false,1),
  (81,false,1),
  (83,false,1),
  (84,false,1),
  (85,false,1),
  (86,false,1),
  (87,false,1),
  (88,false,1),
  (89,false,1),
  (90,false,1),
  (91,false,1),
  (92,false,1),
  (93,false,1),
  (94,true,5),
  (95,true,5),
  (96,true,2),
  (97,true,2),
  (98,false,1),
  (99,false,1),
  (100,false,1),
  (101,false,1),
  (102,true,2),
  (103,true,2),
  (104,false,1),
  (105,false,1),
  (106,false,1),
  (107,false,1),
  (108,false,1),
  (109,false,1),
  (110,false,1),
  (111,false,1),
  (112,false,1),
  (113,false,1),
  (114,false,1),
  (115,false,1),
  (116,false,1),
  (117,false,1),
  (118,false,1),
  (119,false,1),
  (120,false,1),
  (121,true,6),
  (122,true,6),
  (123,false,1),
  (124,true,6),
  (125,true,6),
  (126,true,18),
  (127,true,18),
  (128,true,24),
  (129,true,24),
  (131,false,1),
  (132,false,1),
  (133,false,1),
  (134,false,1),
  (135,false,1),
  (136,true,8),
  (137,false,1),
  (138,false,1),
  (139,false,1),
  (140,false,1),
  (141,false,1),
  (142,false,1),
  (143,false,1),
  (144,false,1),
  (145,false,1),
  (146,false,1),
  (147,false,1),
  (149,false,1),
  (150,false,1),
  (151,true,4),
  (152,true,4),
  (153,true,7),
  (154,true,7),
  (155,false,1),
  (156,false,1),
  (157,false,1),
  (158,false,1),
  (159,false,1),
  (160,false,1),
  (161,false,1),
  (162,false,1),
  (163,false,1),
  (164,false,1),
  (165,false,1),
  (166,false,1),
  (167,false,1),
  (168,false,1),
  (169,false,1),
  (170,false,1),
  (171,false,1),
  (172,false,1),
  (173,false,1),
  (174,false,1),
  (175,false,1),
  (176,false,1),
  (177,false,1),
  (178,false,1),
  (179,false,1),
  (180,false,1),
  (181,false,1),
  (182,false,1),
  (183,false,1),
  (184,false,1),
  (185,true,1),
  (186,true,1),
  (187,false,1),
  (188,false,1),
  (189,false,1),
  (190,false,1),
  (191,false,1),
  (192,false,1),
  (193,true,4),
  (194,false,1),
  (195,false,1),
  (196,false,1),
  (197,false,1),
  (198,false,1),
  (199,true,11),
  (203,true,11)]
 zr:=[(1,.nilFunc),
  (2,.int .i64 0),
  (3,.int .i64 0),
  (4,.bool false),
  (5,.int .u8 0),
  (6,.int .u8 0),
  (7,.agg #[.int .i64 0,.int .i64 0,.bool false,.int .u8 0]),
  (8,.agg #[.int .i64 0,.int .i64 0,.bool false,.int .u8 0]),
  (9,.string ByteArray.empty),
  (10,.string ByteArray.empty),
  (11,.string ByteArray.empty),
  (12,.int .u64 0),
  (13,.agg #[.string ByteArray.empty,.int .u64 0]),
  (14,.agg #[.string ByteArray.empty,.int .u64 0]),
  (15,.pointer none),
  (16,.pointer none),
  (17,.pointer none),
  (18,.agg #[.pointer none]),
  (19,.agg #[.pointer none]),
  (20,.nilIface),
  (21,.int .i32 0),
  (22,.slice none 0 0),
  (23,.slice none 0 0),
  (24,.agg #[.slice none 0 0,.slice none 0 0]),
  (25,.agg #[.slice none 0 0,.slice none 0 0]),
  (26,.slice none 0 0),
  (27,.slice none 0 0),
  (28,.slice none 0 0),
  (29,.nilFunc),
  (30,.nilFunc),
  (31,.nilFunc),
  (32,.nilFunc),
  (33,.nilFunc),
  (34,.nilFunc),
  (35,.nilFunc),
  (36,.nilFunc),
  (37,.slice none 0 0),
  (38,.nilFunc),
  (39,.nilFunc),
  (40,.nilFunc),
  (41,.slice none 0 0),
  (42,.slice none 0 0),
  (43,.agg #[.int .i64 0,.int .i64 0,.slice none 0 0]),
  (44,.agg #[.int .i64 0,.int .i64 0,.slice none 0 0]),
  (45,.agg #[.int .i64 0,.slice none 0 0,.slice none 0 0]),
  (46,.agg #[.int .i64 0,.slice none 0 0,.slice none 0 0]),
  (47,.agg #[.int .i64 0,.slice none 0 0,.int .i64 0,.int .i64 0,.slice none 0 0,.int .i64 0,.slice none 0 0,.slice none 0 0]),
  (48,.agg #[.int .i64 0,.slice none 0 0,.int .i64 0,.int .i64 0,.slice none 0 0,.int .i64 0,.slice none 0 0,.slice none 0 0]),
  (49,.nilFunc),
  (50,.nilFunc),
  (52,.nilFunc),
  (53,.nilFunc),
  (54,.int .u64 0),
  (55,.nilFunc),
  (56,.nilFunc),
  (57,.agg #[.int .i64 0,.int .i64 0,.int .i64 0]),
  (58,.agg #[.int .i64 0,.int .i64 0,.int .i64 0]),
  (59,.agg #[.int .i64 0,.int .i64 0,.int .i64 0,.int .i64 0,.int .i64 0,.int .i64 0,.int .i64 0,.int .i64 0,.int .i64 0,.int .i64 0]),
  (60,.agg #[.int .i64 0,.int .i64 0,.int .i64 0,.int .i64 0,.int .i64 0,.int .i64 0,.int .i64 0,.int .i64 0,.int .i64 0,.int .i64 0]),
  (61,.agg #[.int .i64 0,.int .i64 0]),
  (62,.agg #[.int .i64 0,.int .i64 0]),
  (64,.nilFunc),
  (65,.agg #[.int .i64 0,.int .i64 0]),
  (66,.nilFunc),
  (67,.pointer none),
  (68,.nilFunc),
  (69,.agg #[.string ByteArray.empty,.int .i64 0,.int .i64 0,.int .i64 0,.int .i64 0,.int .i64 0,.int .i64 0,.int .i64 0,.int .i64 0,.int .i64 0,.int .i64 0,.int .i64 0]),
  (70,.agg #[.string ByteArray.empty,.int .i64 0,.int .i64 0,.int .i64 0,.int .i64 0,.int .i64 0,.int .i64 0,.int .i64 0,.int .i64 0,.int .i64 0,.int .i64 0,.int .i64 0]),
  (71,.nilFunc),
  (72,.nilFunc),
  (73,.nilFunc),
  (74,.nilFunc),
  (76,.nilFunc),
  (77,.nilFunc),
  (78,.agg #[.slice none 0 0,.slice none 0 0,.slice none 0 0,.slice none 0 0,.slice none 0 0,.int .i64 0,.int .i64 0,.slice none 0 0,.int .i64 0,.int .i64 0,.slice none 0 0,.int .i64 0,.slice none 0 0,.slice none 0 0]),
  (79,.agg #[.slice none 0 0,.slice none 0 0,.slice none 0 0,.slice none 0 0,.slice none 0 0,.int .i64 0,.int .i64 0,.slice none 0 0,.int .i64 0,.int .i64 0,.slice none 0 0,.int .i64 0,.slice none 0 0,.slice none 0 0]),
  (80,.nilFunc),
  (81,.nilFunc),
  (83,.nilFunc),
  (84,.nilFunc),
  (85,.slice none 0 0),
  (86,.nilFunc),
  (87,.nilFunc),
  (88,.nilFunc),
  (89,.nilFunc),
  (90,.nilFunc),
  (91,.nilFunc),
  (92,.nilFunc),
  (93,.nilFunc),
  (94,.agg #[.int .i64 0,.int .i64 0,.int .i64 0,.int .i64 0,.int .i64 0]),
  (95,.agg #[.int .i64 0,.int .i64 0,.int .i64 0,.int .i64 0,.int .i64 0]),
  (96,.agg #[.slice none 0 0,.int .i64 0]),
  (97,.agg #[.slice none 0 0,.int .i64 0]),
  (98,.nilFunc),
  (99,.nilFunc),
  (100,.nilFunc),
  (101,.nilFunc),
  (102,.agg #[.int .i64 0,.int .i64 0]),
  (103,.agg #[.int .i64 0,.int .i64 0]),
  (104,.slice none 0 0),
  (105,.nilFunc),
  (106,.nilFunc),
  (107,.nilFunc),
  (108,.int .i64 0),
  (109,.nilFunc),
  (110,.nilFunc),
  (111,.nilFunc),
  (112,.pointer none),
  (113,.nilFunc),
  (114,.nilFunc),
  (115,.nilFunc),
  (116,.nilFunc),
  (117,.slice none 0 0),
  (118,.nilFunc),
  (119,.nilFunc),
  (120,.nilFunc),
  (121,.agg #[.int .i64 0,.int .i64 0,.int .i64 0,.int .i64 0,.int .i64 0,.int .i64 0]),
  (122,.agg #[.int .i64 0,.int .i64 0,.int .i64 0,.int .i64 0,.int .i64 0,.int .i64 0]),
  (123,.nilFunc),
  (124,.agg #[.int .i64 0,.int .i64 0,.int .i64 0,.int .i64 0,.int .i64 0,.int .i64 0]),
  (125,.agg #[.int .i64 0,.int .i64 0,.int .i64 0,.int .i64 0,.int .i64 0,.int .i64 0]),
  (126,.agg #[.int .i64 0,.int .i64 0,.int .i64 0,.int .i64 0,.int .i64 0,.int .i64 0,.int .i64 0,.int .i64 0,.int .i64 0,.int .i64 0,.int .i64 0,.int .i64 0,.int .i64 0,.int .i64 0,.int .i64 0,.int .i64 0,.int .i64 0,.int .i64 0]),
  (127,.agg #[.int .i64 0,.int .i64 0,.int .i64 0,.int .i64 0,.int .i64 0,.int .i64 0,.int .i64 0,.int .i64 0,.int .i64 0,.int .i64 0,.int .i64 0,.int .i64 0,.int .i64 0,.int .i64 0,.int .i64 0,.int .i64 0,.int .i64 0,.int .i64 0]),
  (128,.agg #[.int .i64 0,.int .i64 0,.int .i64 0,.int .i64 0,.int .i64 0,.int .i64 0,.int .i64 0,.int .i64 0,.int .i64 0,.int .i64 0,.int .i64 0,.int .i64 0,.int .i64 0,.int .i64 0,.int .i64 0,.int .i64 0,.int .i64 0,.int .i64 0,.int .i64 0,.int .i64 0,.int .i64 0,.int .i64 0,.int .i64 0,.int .i64 0]),
  (129,.agg #[.int .i64 0,.int .i64 0,.int .i64 0,.int .i64 0,.int .i64 0,.int .i64 0,.int .i64 0,.int .i64 0,.int .i64 0,.int .i64 0,.int .i64 0,.int .i64 0,.int .i64 0,.int .i64 0,.int .i64 0,.int .i64 0,.int .i64 0,.int .i64 0,.int .i64 0,.int .i64 0,.int .i64 0,.int .i64 0,.int .i64 0,.int .i64 0]),
  (131,.nilFunc),
  (132,.nilFunc),
  (133,.nilFunc),
  (134,.nilFunc),
  (135,.nilFunc),
  (136,.agg #[.int .i64 0,.int .i64 0,.int .i64 0,.int .i64 0,.int .i64 0,.int .i64 0,.int .i64 0,.int .i64 0]),
  (137,.nilFunc),
  (138,.nilFunc),
  (139,.nilFunc),
  (140,.nilFunc),
  (141,.nilFunc),
  (142,.nilFunc),
  (143,.nilFunc),
  (144,.nilFunc),
  (145,.nilFunc),
  (146,.nilFunc),
  (147,.nilFunc),
  (149,.slice none 0 0),
  (150,.slice none 0 0),
  (151,.agg #[.slice none 0 0,.slice none 0 0,.slice none 0 0,.slice none 0 0]),
  (152,.agg #[.slice none 0 0,.slice none 0 0,.slice none 0 0,.slice none 0 0]),
  (153,.agg #[.slice none 0 0,.slice none 0 0,.slice none 0 0,.slice none 0 0,.slice none 0 0,.slice none 0 0,.slice none 0 0]),
  (154,.agg #[.slice none 0 0,.slice none 0 0,.slice none 0 0,.slice none 0 0,.slice none 0 0,.slice none 0 0,.slice none 0 0]),
  (155,.nilFunc),
  (156,.nilFunc),
  (157,.nilFunc),
  (158,.nilFunc),
  (159,.slice none 0 0),
  (160,.nilFunc),
  (161,.nilFunc),
  (162,.nilFunc),
  (163,.nilFunc),
  (164,.nilFunc),
  (165,.nilFunc),
  (166,.nilFunc),
  (167,.nilFunc),
  (168,.nilFunc),
  (169,.nilFunc),
  (170,.nilFunc),
  (171,.nilFunc),
  (172,.nilFunc),
  (173,.nilFunc),
  (174,.nilFunc),
  (175,.nilFunc),
  (176,.nilFunc),
  (177,.nilFunc),
  (178,.nilFunc),
  (179,.nilFunc),
  (180,.nilFunc),
  (181,.nilFunc),
  (182,.nilFunc),
  (183,.nilFunc),
  (184,.nilFunc),
  (185,.agg #[.nilFunc]),
  (186,.agg #[.nilFunc]),
  (187,.nilFunc),
  (188,.nilFunc),
  (189,.nilFunc),
  (190,.nilFunc),
  (191,.nilFunc),
  (192,.int .i64 0),
  (193,.agg #[.int .i64 0,.int .i64 0,.int .i64 0,.int .i64 0]),
  (194,.nilFunc),
  (195,.nilFunc),
  (196,.nilFunc),
  (197,.nilFunc),
  (198,.nilFunc),
  (199,.agg #[.int .i64 0,.int .i64 0,.int .i64 0,.int .i64 0,.int .i64 0,.int .i64 0,.int .i64 0,.int .i64 0,.int .i64 0,.int .i64 0,.int .i64 0]),
  (203,.agg #[.int .i64 0,.int .i64 0,.int .i64 0,.int .i64 0,.int .i64 0,.int .i64 0,.int .i64 0,.int .i64 0,.int .i64 0,.int .i64 0,.int .i64 0])]
 fd:=[(7,[0,1,2,3]),
  (8,[0,1,2,3]),
  (13,[0,1]),
  (14,[0,1]),
  (18,[0]),
  (19,[0]),
  (24,[0,1]),
  (25,[0,1]),
  (43,[0,1,2]),
  (44,[0,1,2]),
  (45,[0,1,2]),
  (46,[0,1,2]),
  (47,[0,1,2,5]),
  (48,[0,1,2,5]),
  (59,[0,1,2,5,8,9]),
  (60,[0,1,2,5,8,9]),
  (61,[0,1]),
  (62,[0,1]),
  (65,[0,1]),
  (69,[0,1,2,3,6,7,8,9,10,11]),
  (70,[0,1,2,3,6,7,8,9,10,11]),
  (78,[0,2,3,4,5,6]),
  (79,[0,2,3,4,5,6]),
  (94,[0,1,2]),
  (95,[0,1,2]),
  (96,[0,1]),
  (97,[0,1]),
  (102,[0,1]),
  (103,[0,1]),
  (124,[0]),
  (125,[0]),
  (128,[0,18]),
  (129,[0,18]),
  (151,[0,2,3]),
  (152,[0,2,3]),
  (153,[0,4,5,6]),
  (154,[0,4,5,6]),
  (185,[0]),
  (186,[0])]
 fx:=[(7,[(0,false,1),(1,false,1),(2,false,1),(3,false,1)]),
  (8,[(0,false,1),(1,false,1),(2,false,1),(3,false,1)]),
  (13,[(0,false,1),(1,false,1)]),
  (14,[(0,false,1),(1,false,1)]),
  (18,[(0,false,1)]),
  (19,[(0,false,1)]),
  (24,[(0,false,1),(1,false,1)]),
  (25,[(0,false,1),(1,false,1)]),
  (43,[(0,false,1),(1,false,1),(2,false,1)]),
  (44,[(0,false,1),(1,false,1),(2,false,1)]),
  (45,[(0,false,1),(1,false,1),(2,false,1)]),
  (46,[(0,false,1),(1,false,1),(2,false,1)]),
  (47,[(0,false,1),(1,false,1),(2,true,3),(5,true,3)]),
  (48,[(0,false,1),(1,false,1),(2,true,3),(5,true,3)]),
  (59,[(0,false,1),(1,false,1),(2,true,3),(5,true,3),(8,false,1),(9,false,1)]),
  (60,[(0,false,1),(1,false,1),(2,true,3),(5,true,3),(8,false,1),(9,false,1)]),
  (61,[(0,false,1),(1,false,1)]),
  (62,[(0,false,1),(1,false,1)]),
  (65,[(0,false,1),(1,false,1)]),
  (69,[(0,false,1),(1,false,1),(2,false,1),(3,true,3),(6,false,1),(7,false,1),(8,false,1),(9,false,1),(10,false,1),(11,false,1)]),
  (70,[(0,false,1),(1,false,1),(2,false,1),(3,true,3),(6,false,1),(7,false,1),(8,false,1),(9,false,1),(10,false,1),(11,false,1)]),
  (78,[(0,true,2),(2,false,1),(3,false,1),(4,false,1),(5,false,1),(6,true,8)]),
  (79,[(0,true,2),(2,false,1),(3,false,1),(4,false,1),(5,false,1),(6,true,8)]),
  (94,[(0,false,1),(1,false,1),(2,true,3)]),
  (95,[(0,false,1),(1,false,1),(2,true,3)]),
  (96,[(0,false,1),(1,false,1)]),
  (97,[(0,false,1),(1,false,1)]),
  (102,[(0,false,1),(1,false,1)]),
  (103,[(0,false,1),(1,false,1)]),
  (124,[(0,true,6)]),
  (125,[(0,true,6)]),
  (128,[(0,true,18),(18,true,6)]),
  (129,[(0,true,18),(18,true,6)]),
  (151,[(0,true,2),(2,false,1),(3,false,1)]),
  (152,[(0,true,2),(2,false,1),(3,false,1)]),
  (153,[(0,true,4),(4,false,1),(5,false,1),(6,false,1)]),
  (154,[(0,true,4),(4,false,1),(5,false,1),(6,false,1)]),
  (185,[(0,false,1)]),
  (186,[(0,false,1)])]
 ar:=[(57,3,1,false),
  (58,3,1,false),
  (121,3,2,true),
  (122,3,2,true),
  (126,3,6,true),
  (127,3,6,true),
  (136,8,1,false),
  (193,4,1,false),
  (199,11,1,false),
  (203,11,1,false)]
 sl:=[(22,70,12,104),
  (23,95,5,40),
  (26,60,10,80),
  (27,2,1,8),
  (28,3,1,8),
  (37,65,2,16),
  (41,44,3,40),
  (42,58,3,24),
  (85,62,2,16),
  (104,103,2,16),
  (117,129,24,192),
  (149,224,3,40),
  (150,226,2,16),
  (159,122,6,48)]
 ly:=[(7,[(0,1),(1,1),(2,1),(3,1)]),
  (8,[(0,1),(1,1),(2,1),(3,1)]),
  (13,[(0,1),(1,1)]),
  (14,[(0,1),(1,1)]),
  (18,[(0,1)]),
  (19,[(0,1)]),
  (24,[(0,1),(1,1)]),
  (25,[(0,1),(1,1)]),
  (43,[(0,1),(1,1),(2,1)]),
  (44,[(0,1),(1,1),(2,1)]),
  (45,[(0,1),(1,1),(2,1)]),
  (46,[(0,1),(1,1),(2,1)]),
  (47,[(0,1),(1,1),(2,3),(5,3)]),
  (48,[(0,1),(1,1),(2,3),(5,3)]),
  (57,[(0,1),(1,1),(2,1)]),
  (58,[(0,1),(1,1),(2,1)]),
  (59,[(0,1),(1,1),(2,3),(5,3),(8,1),(9,1)]),
  (60,[(0,1),(1,1),(2,3),(5,3),(8,1),(9,1)]),
  (61,[(0,1),(1,1)]),
  (62,[(0,1),(1,1)]),
  (65,[(0,1),(1,1)]),
  (69,[(0,1),(1,1),(2,1),(3,3),(6,1),(7,1),(8,1),(9,1),(10,1),(11,1)]),
  (70,[(0,1),(1,1),(2,1),(3,3),(6,1),(7,1),(8,1),(9,1),(10,1),(11,1)]),
  (78,[(0,2),(2,1),(3,1),(4,1),(5,1),(6,8)]),
  (79,[(0,2),(2,1),(3,1),(4,1),(5,1),(6,8)]),
  (94,[(0,1),(1,1),(2,3)]),
  (95,[(0,1),(1,1),(2,3)]),
  (96,[(0,1),(1,1)]),
  (97,[(0,1),(1,1)]),
  (102,[(0,1),(1,1)]),
  (103,[(0,1),(1,1)]),
  (121,[(0,2),(2,2),(4,2)]),
  (122,[(0,2),(2,2),(4,2)]),
  (124,[(0,6)]),
  (125,[(0,6)]),
  (126,[(0,6),(6,6),(12,6)]),
  (127,[(0,6),(6,6),(12,6)]),
  (128,[(0,18),(18,6)]),
  (129,[(0,18),(18,6)]),
  (136,[(0,1),(1,1),(2,1),(3,1),(4,1),(5,1),(6,1),(7,1)]),
  (151,[(0,2),(2,1),(3,1)]),
  (152,[(0,2),(2,1),(3,1)]),
  (153,[(0,4),(4,1),(5,1),(6,1)]),
  (154,[(0,4),(4,1),(5,1),(6,1)]),
  (185,[(0,1)]),
  (186,[(0,1)]),
  (193,[(0,1),(1,1),(2,1),(3,1)]),
  (199,[(0,1),(1,1),(2,1),(3,1),(4,1),(5,1),(6,1),(7,1),(8,1),(9,1),(10,1)]),
  (203,[(0,1),(1,1),(2,1),(3,1),(4,1),(5,1),(6,1),(7,1),(8,1),(9,1),(10,1)])]
 ik:=[(2,.i64),
  (3,.i64),
  (5,.u8),
  (6,.u8),
  (12,.u64),
  (21,.i32),
  (54,.u64),
  (108,.i64),
  (192,.i64)]
 str:=[9,
  10,
  11]
 bo:=[4]
 eq:=[(58,[.i .i64,.i .i64,.i .i64]),
  (62,[.i .i64,.i .i64])]
 fn:=[(3,Tryz.f3),
  (4,Tryz.f4),
  (5,Tryz.f5),
  (6,Tryz.f6),
  (7,Tryz.f7),
  (8,Tryz.f8),
  (9,Tryz.f9),
  (10,Tryz.f10),
  (11,Tryz.f11),
  (12,Tryz.f12),
  (13,Tryz.f13),
  (14,Tryz.f14),
  (15,Tryz.f15),
  (16,Tryz.f16),
  (17,Tryz.f17),
  (18,Tryz.f18),
  (19,Tryz.f19),
  (20,Tryz.f20),
  (21,Tryz.f21),
  (22,Tryz.f22),
  (23,Tryz.f23),
  (24,Tryz.f24),
  (25,Tryz.f25),
  (26,Tryz.f26),
  (27,Tryz.f27),
  (28,Tryz.f28),
  (29,Tryz.f29),
  (30,Tryz.f30),
  (31,Tryz.f31),
  (32,Tryz.f32),
  (33,Tryz.f33),
  (34,Tryz.f34),
  (35,Tryz.f35),
  (36,Tryz.f36),
  (37,Tryz.f37),
  (38,Tryz.f38),
  (39,Tryz.f39),
  (40,Tryz.f40),
  (41,Tryz.f41),
  (42,Tryz.f42),
  (43,Tryz.f43),
  (44,Tryz.f44),
  (45,Tryz.f45),
  (46,Tryz.f46),
  (47,Tryz.f47),
  (48,Tryz.f48),
  (49,Tryz.f49),
  (50,Tryz.f50),
  (51,Tryz.f51),
  (52,Tryz.f52),
  (53,Tryz.f53),
  (54,Tryz.f54),
  (55,Tryz.f55),
  (56,Tryz.f56),
  (57,Tryz.f57),
  (58,Tryz.f58),
  (59,Tryz.f59),
  (60,Tryz.f60),
  (61,Tryz.f61),
  (62,Tryz.f62),
  (63,Tryz.f63),
  (64,Tryz.f64),
  (65,Tryz.f65),
  (66,Tryz.f66),
  (67,Tryz.f67),
  (68,Tryz.f68),
  (69,Tryz.f69),
  (70,Tryz.f70),
  (71,Tryz.f71),
  (72,Tryz.f72),
  (73,Tryz.f73),
  (74,Tryz.f74),
  (75,Tryz.f75),
  (76,Tryz.f76),
  (77,Tryz.f77),
  (78,Tryz.f78),
  (79,Tryz.f79),
  (80,Tryz.f80),
  (81,Tryz.f81),
  (82,Tryz.f82),
  (83,Tryz.f83),
  (84,Tryz.f84),
  (85,Tryz.f85),
  (86,Tryz.f86),
  (87,Tryz.f87),
  (88,Tryz.f88),
  (89,Tryz.f89),
  (90,Tryz.f90),
  (91,Tryz.f91),
  (92,Tryz.f92),
  (93,Tryz.f93),
  (94,Tryz.f94),
  (95,Tryz.f95),
  (96,Tryz.f96),
  (97,Tryz.f97),
  (98,Tryz.f98),
  (99,Tryz.f99),
  (100,Tryz.f100),
  (101,Tryz.f101),
  (102,Tryz.f102),
  (103,Tryz.f103),
  (104,Tryz.f104),
  (105,Tryz.f105),
  (106,Tryz.f106),
  (107,Tryz.f107),
  (108,Tryz.f108),
  (109,Tryz.f109),
  (110,Tryz.f110),
  (111,Tryz.f111),
  (112,Tryz.f112),
  (113,Tryz.f113),
  (114,Tryz.f114),
  (115,Tryz.f115),
  (116,Tryz.f116),
  (117,Tryz.f117),
  (118,Tryz.f118),
  (119,Tryz.f119),
  (120,Tryz.f120),
  (121,Tryz.f121),
  (122,Tryz.f122),
  (123,Tryz.f123),
  (124,Tryz.f124),
  (125,Tryz.f125),
  (126,Tryz.f126),
  (127,Tryz.f127),
  (128,Tryz.f128),
  (129,Tryz.f129),
  (130,Tryz.f130),
  (131,Tryz.f131),
  (132,Tryz.f132),
  (133,Tryz.f133),
  (134,Tryz.f134),
  (135,Tryz.f135),
  (136,Tryz.f136),
  (137,Tryz.f137),
  (138,Tryz.f138),
  (139,Tryz.f139),
  (140,Tryz.f140),
  (141,Tryz.f141),
  (142,Tryz.f142),
  (143,Tryz.f143),
  (144,Tryz.f144),
  (145,Tryz.f145),
  (146,Tryz.f146),
  (147,Tryz.f147),
  (148,Tryz.f148),
  (149,Tryz.f149),
  (150,Tryz.f150),
  (151,Tryz.f151),
  (152,Tryz.f152),
  (153,Tryz.f153),
  (154,Tryz.f154),
  (155,Tryz.f155),
  (156,Tryz.f156),
  (157,Tryz.f157),
  (158,Tryz.f158),
  (159,Tryz.f159),
  (160,Tryz.f160),
  (161,Tryz.f161),
  (162,Tryz.f162),
  (163,Tryz.f163),
  (164,Tryz.f164),
  (165,Tryz.f165),
  (166,Tryz.f166),
  (167,Tryz.f167),
  (168,Tryz.f168),
  (169,Tryz.f169),
  (170,Tryz.f170),
  (171,Tryz.f171),
  (172,Tryz.f172),
  (173,Tryz.f173),
  (174,Tryz.f174),
  (175,Tryz.f175),
  (176,Tryz.f176),
  (177,Tryz.f177),
  (178,Tryz.f178),
  (179,Tryz.f179),
  (180,Tryz.f180),
  (181,Tryz.f181),
  (182,Tryz.f182),
  (183,Tryz.f183),
  (184,Tryz.f184),
  (185,Tryz.f185),
  (186,Tryz.f186),
  (187,Tryz.f187),
  (188,Tryz.f188),
  (189,Tryz.f189),
  (190,Tryz.f190),
  (191,Tryz.f191),
  (192,Tryz.f192),
  (193,Tryz.f193),
  (194,Tryz.f194),
  (195,Tryz.f195),
  (196,Tryz.f196),
  (197,Tryz.f197),
  (198,Tryz.f198),
  (199,Tryz.f199)]
 hint:=[(9,[(4,{ keep:=[2,5,6,7],ids:=[2,11,43,49,55],out:=some ([6],[43,49,55]),own:=[(6,43,2,1)] })]),
  (12,[(3,{ keep:=[1,3,7,8],ids:=[3,11,64],out:=some ([8],[64]),own:=[(8,64,60,10)] })]),
  (13,[(3,{ keep:=[7,8],ids:=[12],out:=some ([7],[12]) })]),
  (15,[(4,{ keep:=[2,5,6,7],ids:=[2,13,66],out:=some ([6],[66]),own:=[(6,66,65,2)] })]),
  (18,[(5,{ keep:=[0,1,2,3,10,11],ids:=[56],out:=some ([10],[56]),own:=[(10,56,2,1)] })]),
  (20,[(5,{ keep:=[0,3,4],ids:=[25],out:=some ([3],[25]),own:=[(3,25,65,2)] })]),
  (21,[(3,{ keep:=[0,1,4,5,6],ids:=[4,5,24],out:=some ([4,5],[4,5,24]) })]),
  (23,[(4,{ keep:=[0,2,3,4,5],ids:=[2,3,21,46],out:=some ([0,2,3,4],[2,3,21,46]) }),(8,{ keep:=[0,2,3,4,6],ids:=[2,3,21,24,46],out:=some ([2,3],[2,3,21,46]) })]),
  (27,[(5,{ keep:=[1,2,3,4,5,10,11,12],ids:=[5,10,11,35,79,116],out:=some ([10,11],[10,11,79]),ownB:=[(11,1,79,44,3)] })]),
  (31,[(4,{ keep:=[1,2,3,8],ids:=[3],out:=some ([6,7],[]) })]),
  (32,[(4,{ keep:=[1,2,3,7],ids:=[3],out:=some ([6],[]) })]),
  (33,[(4,{ keep:=[2,17,18,19],ids:=[2],out:=some ([4],[]) }),(9,{ keep:=[2,6,17,18,19,45,46],ids:=[2,6],out:=some ([2,4,6,17,18,19],[2,6]) })]),
  (36,[(4,{ keep:=[1,2,3,5,18,19,20],ids:=[5],out:=some ([10],[]) })]),
  (39,[(4,{ keep:=[7,8,21,22,23],ids:=[17,20,53],out:=some ([8],[20,53]) })]),
  (43,[(2,{ keep:=[1,7,8,9],ids:=[],out:=some ([4],[]) })]),
  (44,[(2,{ keep:=[0,3],ids:=[],out:=some ([2],[]) })]),
  (47,[(4,{ keep:=[0,1,5],ids:=[],out:=some ([4],[]) })]),
  (51,[(6,{ keep:=[0,1,3,10,11,12],ids:=[80],out:=some ([11],[80]),own:=[(11,80,65,2)] })]),
  (53,[(2,{ keep:=[1,8,9,10],ids:=[],out:=some ([4,5],[]) })]),
  (54,[(4,{ keep:=[1,2,5],ids:=[2],out:=some ([4],[]) })]),
  (58,[(4,{ keep:=[1,17,18],ids:=[1],out:=some ([1,2],[1,23]) })]),
  (60,[(4,{ keep:=[1,2,14,15,16],ids:=[],out:=some ([6],[]) })]),
  (64,[(3,{ keep:=[1,2,7,13,14,15],ids:=[12,28],out:=some ([7],[12,28]) })]),
  (69,[(3,{ keep:=[1,2,3,5],ids:=[1,2,3,12],out:=some ([2,3],[2,3,12]) })]),
  (71,[(4,{ keep:=[1,2,14,15,16],ids:=[],out:=some ([6],[]) })]),
  (75,[(4,{ keep:=[0,1,5],ids:=[],out:=some ([4],[]) })]),
  (76,[(4,{ keep:=[0,1,5],ids:=[],out:=some ([4],[]) })]),
  (77,[(4,{ keep:=[1,2,5],ids:=[2],out:=some ([4],[]) })]),
  (79,[(2,{ keep:=[1,2,5],ids:=[2],out:=some ([4],[]) })]),
  (80,[(4,{ keep:=[1,3],ids:=[1],out:=some ([1,2],[1,27]) }),(12,{ keep:=[1,5],ids:=[1],out:=some ([2],[27]) })]),
  (81,[(4,{ keep:=[0,1,5],ids:=[],out:=some ([4],[]) })]),
  (82,[(5,{ keep:=[1,3,4],ids:=[1,30],out:=some ([3],[30]),own:=[(3,30,65,2)] })]),
  (83,[(5,{ keep:=[1,2,5,6],ids:=[2,54],out:=some ([5],[54]) })]),
  (86,[(3,{ keep:=[2,3,4,5,6],ids:=[2,3,4,5,34],out:=some ([4,5],[4,5,34]) })]),
  (87,[(5,{ keep:=[2,3,6,7,8],ids:=[2,3],out:=some ([6,7],[]) })]),
  (92,[(2,{ keep:=[5,6],ids:=[],out:=some ([2],[]) })]),
  (94,[(3,{ keep:=[1,4,9,10,11],ids:=[1],out:=some ([1,2,3,4],[1]) })]),
  (97,[(3,{ keep:=[1,5,13,14,15],ids:=[11,27,43],out:=some ([5],[11,27,43]) })]),
  (101,[(4,{ keep:=[15,16,17],ids:=[],out:=some ([2],[]) }),(7,{ keep:=[15,16,17,21,22],ids:=[],out:=some ([2,15,16,17],[]) })]),
  (102,[(3,{ keep:=[2,6,7,12,13],ids:=[2],out:=some ([6,7],[]) })]),
  (104,[(5,{ keep:=[0,1,5,6],ids:=[5],out:=some ([1,4,5],[5]) })]),
  (106,[(2,{ keep:=[0,3],ids:=[],out:=some ([2],[]) })]),
  (115,[(2,{ keep:=[1,3],ids:=[1],out:=some ([2],[]) })]),
  (116,[(4,{ keep:=[18],ids:=[18],out:=some ([2],[]) })]),
  (117,[(2,{ keep:=[1,2,8,9],ids:=[2],out:=some ([4],[]) })]),
  (118,[(2,{ keep:=[5,6],ids:=[],out:=some ([2],[]) })]),
  (121,[(2,{ keep:=[0,1,7,8],ids:=[],out:=some ([4],[]) })]),
  (129,[(3,{ keep:=[2,3,4,5,8],ids:=[2,3,4,5,27],out:=some ([4,5],[4,5,27]) }),(6,{ keep:=[2,3,4,5,6,8,11],ids:=[2,3,4,5,27],out:=some ([2,3,4,5,8],[2,3,4,5,27]) })]),
  (132,[(4,{ keep:=[0,3],ids:=[],out:=some ([2],[]) })]),
  (138,[(3,{ keep:=[2,3,4,5,6],ids:=[2,3,4,5],out:=some ([4,5],[4,5]) }),(6,{ keep:=[2,3,4,5,6,7],ids:=[2,3,4,5],out:=some ([2,3,4,5,6],[2,3,4,5]) })]),
  (143,[(2,{ keep:=[0,1,7,8],ids:=[],out:=some ([4],[]) })]),
  (144,[(2,{ keep:=[0,1,7,8],ids:=[],out:=some ([4],[]) })]),
  (148,[(3,{ keep:=[2,3,4,5,10],ids:=[2,3,4,5],out:=some ([4,5],[4,5]) }),(6,{ keep:=[2,3,4,5,6,10,13],ids:=[2,3,4,5],out:=some ([2,3,4,5,10],[2,3,4,5]) }),(10,{ keep:=[2,3,4,5,6,7,8,10,13,16],ids:=[2,3,4,5,8,31],out:=some ([2,3,4,5,6,7,8,10,13],[2,3,4,5,8,31]) })]),
  (150,[(6,{ keep:=[4,6,7,40,41],ids:=[4,53],out:=some ([4,6,7],[4,53]) })]),
  (154,[(3,{ keep:=[0,1,3],ids:=[0,1,8],out:=some ([0,1],[0,1,8]) })]),
  (159,[(3,{ keep:=[2,3,4,5,7],ids:=[2,3,4,5,17],out:=some ([4,5],[4,5,17]) })]),
  (186,[(5,{ keep:=[2,3,4,5,6],ids:=[2,3,4,5,9,13,27,37],out:=some ([2,3,4,5],[2,3,4,5,9,13,27,37]) })]),
  (196,[(6,{ keep:=[2,3,4,5,6],ids:=[2,3,4,5,11,15,29,39],out:=some ([2,3,4,5],[2,3,4,5,11,15,29,39]) })]),
  (197,[(3,{ keep:=[3,4,7,8,9],ids:=[],out:=some ([3],[]) })])]
 rw:=[23,
  25,
  28,
  35,
  46]
 ow:=[(13,[12])]
 dd:=[93]
 gq:=[35]
theorem eq58:aggB Tryz.prog 58=true∧∀ vs,KV [.i .i64,.i .i64,.i .i64] vs→qZC Tryz.prog 12 58 vs=true:=by
 refine ⟨by kernel_rfl,fun vs h => ?_⟩;obtain ⟨v0,u0,rfl,⟨x0,rfl⟩,h0⟩:=h;obtain ⟨v1,u1,rfl,⟨x1,rfl⟩,h1⟩:=h0;obtain ⟨v2,u2,rfl,⟨x2,rfl⟩,h2⟩:=h1;obtain rfl:u2=[]:=h2
 kernel_rfl
theorem eq62:aggB Tryz.prog 62=true∧∀ vs,KV [.i .i64,.i .i64] vs→qZC Tryz.prog 12 62 vs=true:=by
 refine ⟨by kernel_rfl,fun vs h => ?_⟩;obtain ⟨v0,u0,rfl,⟨x0,rfl⟩,h0⟩:=h;obtain ⟨v1,u1,rfl,⟨x1,rfl⟩,h1⟩:=h0;obtain rfl:u1=[]:=h1
 kernel_rfl
theorem fns:AllP (fun x:Nat × Func=>Tryz.prog.funcs[x.1]? = some x.2) tabs.fn:=⟨Tryz.func3,Tryz.func4,Tryz.func5,Tryz.func6,Tryz.func7,Tryz.func8,Tryz.func9,Tryz.func10,Tryz.func11,Tryz.func12,Tryz.func13,Tryz.func14,Tryz.func15,Tryz.func16,Tryz.func17,Tryz.func18,Tryz.func19,Tryz.func20,Tryz.func21,Tryz.func22,Tryz.func23,Tryz.func24,Tryz.func25,Tryz.func26,Tryz.func27,Tryz.func28,Tryz.func29,Tryz.func30,Tryz.func31,Tryz.func32,Tryz.func33,Tryz.func34,Tryz.func35,Tryz.func36,Tryz.func37,Tryz.func38,Tryz.func39,Tryz.func40,Tryz.func41,Tryz.func42,Tryz.func43,Tryz.func44,Tryz.func45,Tryz.func46,Tryz.func47,Tryz.func48,Tryz.func49,Tryz.func50,Tryz.func51,Tryz.func52,Tryz.func53,Tryz.func54,Tryz.func55,Tryz.func56,Tryz.func57,Tryz.func58,Tryz.func59,Tryz.func60,Tryz.func61,Tryz.func62,Tryz.func63,Tryz.func64,Tryz.func65,Tryz.func66,Tryz.func67,Tryz.func68,Tryz.func69,Tryz.func70,Tryz.func71,Tryz.func72,Tryz.func73,Tryz.func74,Tryz.func75,Tryz.func76,Tryz.func77,Tryz.func78,Tryz.func79,Tryz.func80,Tryz.func81,Tryz.func82,Tryz.func83,Tryz.func84,Tryz.func85,Tryz.func86,Tryz.func87,Tryz.func88,Tryz.func89,Tryz.func90,Tryz.func91,Tryz.func92,Tryz.func93,Tryz.func94,Tryz.func95,Tryz.func96,Tryz.func97,Tryz.func98,Tryz.func99,Tryz.func100,Tryz.func101,Tryz.func102,Tryz.func103,Tryz.func104,Tryz.func105,Tryz.func106,Tryz.func107,Tryz.func108,Tryz.func109,Tryz.func110,Tryz.func111,Tryz.func112,Tryz.func113,Tryz.func114,Tryz.func115,Tryz.func116,Tryz.func117,Tryz.func118,Tryz.func119,Tryz.func120,Tryz.func121,Tryz.func122,Tryz.func123,Tryz.func124,Tryz.func125,Tryz.func126,Tryz.func127,Tryz.func128,Tryz.func129,Tryz.func130,Tryz.func131,Tryz.func132,Tryz.func133,Tryz.func134,Tryz.func135,Tryz.func136,Tryz.func137,Tryz.func138,Tryz.func139,Tryz.func140,Tryz.func141,Tryz.func142,Tryz.func143,Tryz.func144,Tryz.func145,Tryz.func146,Tryz.func147,Tryz.func148,Tryz.func149,Tryz.func150,Tryz.func151,Tryz.func152,Tryz.func153,Tryz.func154,Tryz.func155,Tryz.func156,Tryz.func157,Tryz.func158,Tryz.func159,Tryz.func160,Tryz.func161,Tryz.func162,Tryz.func163,Tryz.func164,Tryz.func165,Tryz.func166,Tryz.func167,Tryz.func168,Tryz.func169,Tryz.func170,Tryz.func171,Tryz.func172,Tryz.func173,Tryz.func174,Tryz.func175,Tryz.func176,Tryz.func177,Tryz.func178,Tryz.func179,Tryz.func180,Tryz.func181,Tryz.func182,Tryz.func183,Tryz.func184,Tryz.func185,Tryz.func186,Tryz.func187,Tryz.func188,Tryz.func189,Tryz.func190,Tryz.func191,Tryz.func192,Tryz.func193,Tryz.func194,Tryz.func195,Tryz.func196,Tryz.func197,Tryz.func198,Tryz.func199,trivial⟩
theorem ok_sz:tabs.sz.all (fun x=>tyB Tryz.prog x.1 x.2.1 x.2.2 && (x.2.1 || Nat.beq x.2.2 1))=true:=by kernel_rfl
theorem ok_zr:tabs.zr.map (fun x=>(Tryz.prog.info? x.1).bind (·.zero))=tabs.zr.map (fun x=>some x.2):=by kernel_rfl
theorem yVF:tabs.fd.all (fun x=>allI (fun f o=>zQC Tryz.prog x.1 f o) 0 x.2)=true:=by kernel_rfl
theorem ok_fx:tabs.fx.all (fun x=>allI (fxB Tryz.prog x.1) 0 x.2)=true:=by kernel_rfl
theorem ok_ar:tabs.ar.all (fun x=>arX Tryz.prog x.1 x.2)=true:=by kernel_rfl
theorem ok_sl:tabs.sl.all (fun x=>slcB Tryz.prog x.1 x.2.1 x.2.2.1 && Nat.blt 0 x.2.2.1 && Nat.ble x.2.2.1 1000 && appB Tryz.prog x.1 x.2.1 x.2.2.1 x.2.2.2 && Nat.ble x.2.2.2 100000 && (Nat.ble x.2.2.2 8 || !inL tabs.big x.2.1))=true:=by kernel_rfl
theorem ok_ly:tabs.ly.map (fun x=>(qJL Tryz.prog x.1).map (·.2))=tabs.ly.map (fun x=>some x.2):=by kernel_rfl
theorem ok_ik:tabs.ik.map (fun x=>Tryz.prog.underlying x.1)=tabs.ik.map (fun x=>some (.int x.2)):=by kernel_rfl
theorem ok_str:tabs.str.map (fun x=>Tryz.prog.underlying x)=tabs.str.map (fun _=>some .string):=by kernel_rfl
theorem ok_bo:tabs.bo.map (fun x=>Tryz.prog.underlying x)=tabs.bo.map (fun _=>some .bool):=by kernel_rfl
theorem ok_fn2:tabs.fn.all (fun x => !(x.2.name == "runtime.NumGoroutine") && !x.2.body.isNone)=true:=by kernel_rfl
theorem dd93:uQ Tryz.prog 93∧∀ (args:Array Value) (w:World),CallsD Tryz.prog 93 args .returning w fun e u w'=>(∃ v,e=.returned v)∧u=.returning∧w'=w :=
 ⟨qU Tryz.func93 (by kernel_rfl) (by kernel_rfl),fun args w=>dd_ok (ms:=#[]) Tryz.func93 rfl rfl (by decide) (by decide) (by decide) (by kernel_rfl) args w⟩
theorem ok_dd:∀ f ∈ tabs.dd,uQ Tryz.prog f∧∀ (args:Array Value) (w:World),CallsD Tryz.prog f args .returning w fun e u w'=>(∃ v,e=.returned v)∧u=.returning∧w'=w:=by
 intro f hf;simp only [tabs,vYZ,List.not_mem_nil,or_false] at hf;rcases hf with rfl
 ·exact dd93
theorem ok:tabs.Ok Tryz.prog:=⟨ok_sz,ok_zr,yVF,ok_fx,ok_ar,ok_sl,ok_ly,ok_ik,ok_str,ok_bo,⟨eq58,eq62,trivial⟩,fns,ok_fn2,ok_dd⟩
noncomputable def T:Tab:=tabs.tab
theorem yH:TabOk Tryz.prog T:=Tabs.ok ok
theorem yZ:Tryz.prog.follows .mixedOrders=true:=by kernel_rfl
noncomputable def tabsF:Tabs:={ tabs with
 hint:=[(9,[(4,{ keep:=[2,5,6,7],ids:=[2,11,43,49,55],out:=some ([6],[43,49,55]),own:=[(6,43,2,1)],fun_:=[(43,[.n .i64 0]),(49,[.n .i64 0]),(55,[.n .i64 0])] })]),
  (12,[(3,{ keep:=[1,3,7,8],ids:=[3,11,64],out:=some ([8],[64]),own:=[(8,64,60,10)],fun_:=[(64,[.n .i64 0,.n .i64 0,.n .i64 0,.n .i64 0,.n .i64 0,.n .i64 0,.n .i64 0,.n .i64 0,.n .i64 0,.n .i64 0])] })]),
  (13,[(3,{ keep:=[7,8],ids:=[12],out:=some ([7],[12]) })]),
  (15,[(4,{ keep:=[2,5,6,7],ids:=[2,13,66],out:=some ([6],[66]),own:=[(6,66,65,2)],fun_:=[(66,[.n .i64 0,.n .i64 0])] })]),
  (18,[(5,{ keep:=[0,1,2,3,10,11],ids:=[56],out:=some ([10],[56]),own:=[(10,56,2,1)],fun_:=[(56,[.n .i64 0])] })]),
  (20,[(5,{ keep:=[0,3,4],ids:=[25],out:=some ([3],[25]),own:=[(3,25,65,2)],fun_:=[(25,[.n .i64 0,.n .i64 0])] })]),
  (21,[(3,{ keep:=[0,1,4,5,6],ids:=[4,5,24],out:=some ([4,5],[4,5,24]) })]),
  (23,[(4,{ keep:=[0,2,3,4,5],ids:=[2,3,21,46],out:=some ([0,2,3,4],[2,3,21,46]),fun_:=[(21,[.s (ByteArray.mk #[]),.n .i64 0,.n .i64 0,.n .i64 0,.n .i64 0,.n .i64 0,.n .i64 0,.n .i64 0,.n .i64 0,.n .i64 0,.n .i64 0,.n .i64 0]),(46,[.n .i64 0,.n .i64 0,.n .i64 0,.n .i64 0,.n .i64 0])] }),(8,{ keep:=[0,2,3,4,6],ids:=[2,3,21,24,46],out:=some ([2,3],[2,3,21,46]),fun_:=[(21,[.s (ByteArray.mk #[]),.n .i64 0,.n .i64 0,.n .i64 0,.n .i64 0,.n .i64 0,.n .i64 0,.n .i64 0,.n .i64 0,.n .i64 0,.n .i64 0,.n .i64 0]),(46,[.n .i64 0,.n .i64 0,.n .i64 0,.n .i64 0,.n .i64 0])] })]),
  (27,[(5,{ keep:=[1,2,3,4,5,10,11,12],ids:=[5,10,11,35,79,116],out:=some ([10,11],[10,11,79]),ownB:=[(11,1,79,44,3)],fun_:=[(35,[.n .i64 0,.n .i64 0]),(79,[.n .i64 0,.n .i64 0,.l []]),(116,[.n .i64 0,.n .i64 0])] })]),
  (31,[(4,{ keep:=[1,2,3,8],ids:=[3],out:=some ([6,7],[]) })]),
  (32,[(4,{ keep:=[1,2,3,7],ids:=[3],out:=some ([6],[]) })]),
  (33,[(4,{ keep:=[2,17,18,19],ids:=[2],out:=some ([4],[]) }),(9,{ keep:=[2,6,17,18,19,45,46],ids:=[2,6],out:=some ([2,4,6,17,18,19],[2,6]) })]),
  (36,[(4,{ keep:=[1,2,3,5,18,19,20],ids:=[5],out:=some ([10],[]) })]),
  (39,[(4,{ keep:=[7,8,21,22,23],ids:=[17,20,53],out:=some ([8],[20,53]) })]),
  (43,[(2,{ keep:=[1,7,8,9],ids:=[],out:=some ([4],[]) })]),
  (44,[(2,{ keep:=[0,3],ids:=[],out:=some ([2],[]) })]),
  (47,[(4,{ keep:=[0,1,5],ids:=[],out:=some ([4],[]) })]),
  (51,[(6,{ keep:=[0,1,3,10,11,12],ids:=[80],out:=some ([11],[80]),own:=[(11,80,65,2)],fun_:=[(80,[.n .i64 0,.n .i64 0])] })]),
  (53,[(2,{ keep:=[1,8,9,10],ids:=[],out:=some ([4,5],[]) })]),
  (54,[(4,{ keep:=[1,2,5],ids:=[2],out:=some ([4],[]) })]),
  (58,[(4,{ keep:=[1,17,18],ids:=[1],out:=some ([1,2],[1,23]) })]),
  (60,[(4,{ keep:=[1,2,14,15,16],ids:=[],out:=some ([6],[]) })]),
  (64,[(3,{ keep:=[1,2,7,13,14,15],ids:=[12,28],out:=some ([7],[12,28]),fun_:=[(12,[.n .i64 0,.n .i64 0])] })]),
  (69,[(3,{ keep:=[1,2,3,5],ids:=[1,2,3,12],out:=some ([2,3],[2,3,12]) })]),
  (71,[(4,{ keep:=[1,2,14,15,16],ids:=[],out:=some ([6],[]) })]),
  (75,[(4,{ keep:=[0,1,5],ids:=[],out:=some ([4],[]) })]),
  (76,[(4,{ keep:=[0,1,5],ids:=[],out:=some ([4],[]) })]),
  (77,[(4,{ keep:=[1,2,5],ids:=[2],out:=some ([4],[]) })]),
  (79,[(2,{ keep:=[1,2,5],ids:=[2],out:=some ([4],[]) })]),
  (80,[(4,{ keep:=[1,3],ids:=[1],out:=some ([1,2],[1,27]) }),(12,{ keep:=[1,5],ids:=[1],out:=some ([2],[27]) })]),
  (81,[(4,{ keep:=[0,1,5],ids:=[],out:=some ([4],[]) })]),
  (82,[(5,{ keep:=[1,3,4],ids:=[1,30],out:=some ([3],[30]),own:=[(3,30,65,2)] })]),
  (83,[(5,{ keep:=[1,2,5,6],ids:=[2,54],out:=some ([5],[54]) })]),
  (86,[(3,{ keep:=[2,3,4,5,6],ids:=[2,3,4,5,34],out:=some ([4,5],[4,5,34]) })]),
  (87,[(5,{ keep:=[2,3,6,7,8],ids:=[2,3],out:=some ([6,7],[]) })]),
  (92,[(2,{ keep:=[5,6],ids:=[],out:=some ([2],[]) })]),
  (94,[(3,{ keep:=[1,4,9,10,11],ids:=[1],out:=some ([1,2,3,4],[1]) })]),
  (97,[(3,{ keep:=[1,5,13,14,15],ids:=[11,27,43],out:=some ([5],[11,27,43]) })]),
  (101,[(4,{ keep:=[15,16,17],ids:=[],out:=some ([2],[]) }),(7,{ keep:=[15,16,17,21,22],ids:=[],out:=some ([2,15,16,17],[]) })]),
  (102,[(3,{ keep:=[2,6,7,12,13],ids:=[2],out:=some ([6,7],[]) })]),
  (104,[(5,{ keep:=[0,1,5,6],ids:=[5],out:=some ([1,4,5],[5]) })]),
  (106,[(2,{ keep:=[0,3],ids:=[],out:=some ([2],[]) })]),
  (115,[(2,{ keep:=[1,3],ids:=[1],out:=some ([2],[]) })]),
  (116,[(4,{ keep:=[18],ids:=[18],out:=some ([2],[]) })]),
  (117,[(2,{ keep:=[1,2,8,9],ids:=[2],out:=some ([4],[]) })]),
  (118,[(2,{ keep:=[5,6],ids:=[],out:=some ([2],[]) })]),
  (121,[(2,{ keep:=[0,1,7,8],ids:=[],out:=some ([4],[]) })]),
  (129,[(3,{ keep:=[2,3,4,5,8],ids:=[2,3,4,5,27],out:=some ([4,5],[4,5,27]) }),(6,{ keep:=[2,3,4,5,6,8,11],ids:=[2,3,4,5,27],out:=some ([2,3,4,5,8],[2,3,4,5,27]) })]),
  (132,[(4,{ keep:=[0,3],ids:=[],out:=some ([2],[]) })]),
  (138,[(3,{ keep:=[2,3,4,5,6],ids:=[2,3,4,5],out:=some ([4,5],[4,5]) }),(6,{ keep:=[2,3,4,5,6,7],ids:=[2,3,4,5],out:=some ([2,3,4,5,6],[2,3,4,5]) })]),
  (143,[(2,{ keep:=[0,1,7,8],ids:=[],out:=some ([4],[]) })]),
  (144,[(2,{ keep:=[0,1,7,8],ids:=[],out:=some ([4],[]) })]),
  (148,[(3,{ keep:=[2,3,4,5,10],ids:=[2,3,4,5],out:=some ([4,5],[4,5]) }),(6,{ keep:=[2,3,4,5,6,10,13],ids:=[2,3,4,5],out:=some ([2,3,4,5,10],[2,3,4,5]) }),(10,{ keep:=[2,3,4,5,6,7,8,10,13,16],ids:=[2,3,4,5,8,31],out:=some ([2,3,4,5,6,7,8,10,13],[2,3,4,5,8,31]) })]),
  (150,[(6,{ keep:=[4,6,7,40,41],ids:=[4,53],out:=some ([4,6,7],[4,53]) })]),
  (154,[(3,{ keep:=[0,1,3],ids:=[0,1,8],out:=some ([0,1],[0,1,8]) })]),
  (159,[(3,{ keep:=[2,3,4,5,7],ids:=[2,3,4,5,17],out:=some ([4,5],[4,5,17]) })]),
  (186,[(5,{ keep:=[2,3,4,5,6],ids:=[2,3,4,5,9,13,27,37],out:=some ([2,3,4,5],[2,3,4,5,9,13,27,37]) })]),
  (196,[(6,{ keep:=[2,3,4,5,6],ids:=[2,3,4,5,11,15,29,39],out:=some ([2,3,4,5],[2,3,4,5,11,15,29,39]) })]),
  (197,[(3,{ keep:=[3,4,7,8,9],ids:=[],out:=some ([3],[]) })])]
 ff:=[9,
  12,
  15,
  18,
  20,
  23,
  27,
  51,
  64]
}
theorem okF:tabsF.Ok Tryz.prog:=⟨ok_sz,ok_zr,yVF,ok_fx,ok_ar,ok_sl,ok_ly,ok_ik,ok_str,ok_bo,⟨eq58,eq62,trivial⟩,fns,ok_fn2,ok_dd⟩
noncomputable def Tf:Tab:=tabsF.tab
theorem qQC:TabOk Tryz.prog Tf:=Tabs.ok okF
end Go.Proofs.YtbfcbojgnppacaaGreat.Rt
namespace Go.Rx
open Go.RowKit Go.Sx
def kB:IntKind→IntKind→Bool
 | .i64,.i64=>true
 | .i32,.i32=>true
 | .u64,.u64=>true
 | .u8,.u8=>true
 | _,_=>false
theorem kB_eq {k k':IntKind} (h:kB k k'=true):k=k':=by cases k <;> cases k' <;> first | rfl | cases h
def eqP:Nat→PV→PV→Bool
 | 0,_,_=>false
 | _ + 1,.n k x,.n k' y=>kB k k' && decide (x=y)
 | _ + 1,.b x,.b y=>x == y
 | _ + 1,.s x,.s y=>decide (x.data.toList=y.data.toList)
 | n + 1,.a xs,.a ys=>eqL n xs ys
 | n + 1,.t xs,.t ys=>eqL n xs ys
 | n + 1,.l xs,.l ys=>eqLL n xs ys
 | n + 1,.z xs j o,.z ys j' o'=>eqLL n xs ys && Nat.beq j j' && Nat.beq o o'
 | n + 1,.c xs o,.c ys o'=>eqL n xs ys && Nat.beq o o'
 | n + 1,.f f fs cs,.f f' fs' cs'=>Nat.beq f f' && eqL n fs fs' && eqL n cs cs'
 | _ + 1,.ni,.ni=>true
 | _ + 1,.np,.np=>true
 | _ + 1,.nf,.nf=>true
 | _ + 1,.zs,.zs=>true
 | _ + 1,.ze,.ze=>true
 | _ + 1,.ne,.ne=>true
 | _ + 1,_,_=>false
where
 eqL:Nat→List PV→List PV→Bool
 | 0,_,_=>false
 | _ + 1,[],[]=>true
 | n + 1,x :: xs,y :: ys=>eqP n x y && eqL n xs ys
 | _ + 1,_,_=>false
 eqLL:Nat→List (List PV)→List (List PV)→Bool
 | 0,_,_=>false
 | _ + 1,[],[]=>true
 | n + 1,x :: xs,y :: ys=>eqP.eqL n x y && eqLL n xs ys
 | _ + 1,_,_=>false
theorem bytes_eq {x y:ByteArray} (h:x.data.toList=y.data.toList):x=y:=by
 cases x; cases y
 congr 1
 exact Array.toList_inj.1 h
theorem eq_all:∀ n,(∀ p q,eqP n p q=true→p=q)∧(∀ p q,eqP.eqL n p q=true→p=q)∧(∀ p q,eqP.eqLL n p q=true→p=q)
 | 0=>⟨fun p q h=>by simp [eqP] at h,fun p q h=>by simp [eqP.eqL] at h,fun p q h=>by simp [eqP.eqLL] at h⟩
 | n + 1=>by
  obtain ⟨h1,h2,h3⟩:=eq_all n;refine ⟨fun p q h => ?_,fun p q h => ?_,fun p q h => ?_⟩
  ·cases p <;> cases q <;> simp only [eqP,vQJ,decide_eq_true_eq,beq_iff_eq] at h <;> first | (cases h; done) | skip
   ·rw [kB_eq h.1,h.2]
   ·rw [h]
   ·rw [bytes_eq h]
   ·rw [h2 _ _ h]
   ·rw [h2 _ _ h]
   ·rw [h3 _ _ h]
   ·rw [h3 _ _ h.1.1,vQX h.1.2,vQX h.2]
   ·rw [h2 _ _ h.1,vQX h.2]
   ·rw [vQX h.1.1,h2 _ _ h.1.2,h2 _ _ h.2]
   all_goals rfl
  ·cases p <;> cases q <;> simp only [eqP.eqL,vQJ] at h <;> first | (cases h; done) | skip
   ·rfl
   ·rw [h1 _ _ h.1,h2 _ _ h.2]
  ·cases p <;> cases q <;> simp only [eqP.eqLL,vQJ] at h <;> first | (cases h; done) | skip
   ·rfl
   ·rw [h2 _ _ h.1,h3 _ _ h.2]
abbrev Known:=List (Nat × List (List PV × Ret))
def yWG:List (List PV × Ret)→List PV→Option Ret
 | [],_=>none
 | (ps,r) :: l,qs=>bif eqP.eqL 200 ps qs then some r else yWG l qs
def Known.orc (t:Known):Orc:=⟨fun g=>(asc t g).bind fun l=>some (yWG l),fun _=>none⟩
def Known.Ok (P:Program) (t:Known):Prop:=∀ x ∈ t,∀ y ∈ x.2,zH P x.1 y.1 y.2
theorem findK_mem {l:List (List PV × Ret)} {qs:List PV} {r:Ret} (h:yWG l qs=some r):(qs,r) ∈ l:=by
 induction l with
 | nil=>cases h
 | cons y l ih =>
  obtain ⟨ps,r'⟩:=y;simp only [yWG] at h;cases hc:eqP.eqL 200 ps qs with
  | true=>rw [hc] at h; cases h; rw [(eq_all 200).2.1 _ _ hc]; exact vZQ
  | false=>rw [hc] at h; exact vQH _ (ih h)
theorem Known.ok {P:Program} {T:Tab} {t:Known} (h:t.Ok P):OrcOk P T t.orc:=by
 refine ⟨fun g o ho ps r hr => ?_,fun g o ho=>by simp [Known.orc] at ho⟩;simp only [Known.orc,vQQ,vQZ] at ho;obtain ⟨l,hl,rfl⟩:=ho;exact h _ (qZI hl) _ (findK_mem hr)
theorem Known.nil (P:Program):Known.Ok P []:=fun x hx=>by simp at hx
theorem Known.add {P:Program} {T:Tab} {t:Known} {f:Nat} {l:List (List PV × Ret)} {N:Nat} (hT:TabOk P T) (hm:P.follows .mixedOrders=true) (ht:t.Ok P) (h:l.map (fun y=>run T t.orc N f y.1)=l.map (fun y=>some y.2)):Known.Ok P ((f,l) :: t):=fun x hx=>by
 rcases List.mem_cons.1 hx with rfl | hx
 ·exact fun y hy=>qWL hT hm (Known.ok ht) (zJW h hy)
 ·exact ht x hx
end Go.Rx
namespace Go.Rx
open Go.RowKit Go.Sx
section
abbrev α:=Ret × Mem
abbrev qYW:=Nat→List PV→(Ret→Option α)→Option α
def zWD (e:Eff) (K:Eff→Option α):Option α:=match e with
 | ⟨[],[],.v (.b c),[]⟩=>bif c then K (.val (.v (.b true))) else K (.val (.v (.b false)))
 | e=>K e
theorem qHU (e:Eff) (K:Eff→Option α):zWD e K=K e:=by
 unfold zWD;split
 ·rename_i c; cases c <;> rfl
 ·rfl
def callEffK (C:Cx) (cK:qYW) (dst f:Nat) (args:List RV) (K:Eff→Option α):Option α :=
 (mapO RV.fz args).bind fun ps=>cK f ps fun r =>
  bif args.all RV.still then (zWF C.T C.me dst (catR RV.regs args) r).bind fun e=>zWD e K
  else match r with
   | .v x=>bif x.flat then zWD (.val (.v x)) K else none
   | .ow _ _ (.l rows)=>bif rows.all (fun r=>r.all PV.flat1) then K (.val (.v (.l rows))) else none
   | .ow _ _ (.fo n g)=>bif jQJ g then (bif decide (n≤16) then K (.val (.v (.lf n g))) else none) else none
   | _=>none
def zZK (s:ByteArray) (i:Nat):Int:=(((s[i]?).getD 0).toNat:Int)
def yJX (C:Cx) (cK:qYW) (dst:Nat) (op:Op) (vs:List RV) (K:Eff→Option α):Option α :=
 match op,vs with
 | .binOp .quo _ _ _ _,[.v (.n k x),.v (.n k' y)]=>bif decide (k=k') then (bif decide (y=0) then none else K (.val (.v (.n k (k.wrap (x.tdiv y)))))) else none
 | .binOp .rem _ _ _ _,[.v (.n k x),.v (.n k' y)]=>bif decide (k=k') then (bif decide (y=0) then none else K (.val (.v (.n k (x.tmod y))))) else none
 | .call ⟨.builtin .append,axs,ats⟩,[.o id e' sz rows,y]=>(match ats.toList with
   | [t,t']=>bif Nat.beq t t' then (C.T.sl t).bind fun e=>(yQE y).bind fun news=>bif news.ok e.2 then (bif Nat.beq e' e.1 && Nat.beq sz e.2 && !(y.ids.any (Nat.beq id)) then
     (bif decide (rows.len + news.len≤C.T.bd e.1) then K (.app id (.reg e' sz (rows.app news)) (.o id)) else none) else none) else none else none
   | _=>none)
 | .call ⟨.builtin .append,axs,ats⟩,[.nl,y]=>(match ats.toList with
   | [t,t']=>bif Nat.beq t t' then (C.T.sl t).bind fun e=>(yQE y).bind fun news=>bif news.ok e.2 then
     (bif decide (news.len≤C.T.bd e.1) then K (.new dst (.reg e.1 e.2 news) (.o dst)) else none) else none else none
   | _=>none)
 | .binOp .shl _ _ _ _,[.v (.n k x),.v (.n _ y)]=>bif decide (0≤y) then K (.val (.v (.n k (k.wrap (x * 2 ^ (min y.toNat k.bits)))))) else none
 | .binOp .shr _ _ _ _,[.v (.n k x),.v (.n _ y)]=>bif decide (0≤y) then K (.val (.v (.n k (x.fdiv (2 ^ (min y.toNat k.bits)))))) else none
 | .indexAddr t _ _,[.o id _ sz rows,.v (.n _ i)]=>(C.T.sl t).bind fun e=>bif inB i rows.len then (bif Nat.beq sz e.2 then K (.val (.q id i.toNat 0)) else none) else none
 | .makeSlice t _ _,[.v (.n _ n),.v (.n _ c)]=>(C.T.sl t).bind fun e=>(C.T.zr e.1).bind fun zs=>bif C.T.zf C.me then none else
   bif C.T.nf C.me then (C.T.sl e.1).bind fun q=>(C.T.zr q.1).bind fun z2=>(match zs with
    | [.zs]=>bif Nat.beq e.2 1 then (bif decide (0≤n) then bif decide (n≤c) then bif decide (c≤1000000) then K ⟨[(dst,some (.nst e.1 q.1 q.2 (bif C.T.ff C.me then .fo n.toNat (fun _=>.fo 0 (fun _=>z2)) else .l (qJF (.l []) n.toNat)) none))],[(mid dst,none)],.o dst,[dst]⟩ else none else none else none) else none
    | _=>none) else
   bif decide (0≤n) then bif decide (n≤c) then bif decide (c≤1000000) then K (.new dst (.reg e.1 e.2 (bif C.T.ff C.me then .fo n.toNat (fun _=>zs) else .l (qJF zs n.toNat))) (.o dst)) else none else none else none
 | .slice t _ lo hi none,.v (.lf n f) :: vs=>(zVY lo hi vs).bind fun b=>(C.T.sl t).bind fun e=>bif inS b.1 b.2 n then (bif Nat.beq (f (loOf b.1)).length e.2 then K (.val (.v (.lf (hiOf b.2 n - loOf b.1) fun v=>f (v + loOf b.1)))) else none) else none
 | .slice t _ lo hi none,.o id e' sz rows :: vs=>(zVY lo hi vs).bind fun b=>(match b with
   | (none,some j)=>(C.T.sl t).bind fun e=>bif Nat.beq sz e.2 then (bif decide (0≤j) then (bif decide (j.toNat≤rows.len) then K (.app id (.reg e' sz (rows.take j.toNat)) (.o id)) else none) else none) else none
   | _=>none)
 | .index t _ _,[.v (.s s),.v (.n _ i)]=>bif C.T.str t then (bif inB i s.size then K (.val (.v (.n .u8 (zZK s i.toNat)))) else none) else none
 | .next _ true,[.i id 0 s pos]=>bif Nat.beq id pid2 then none else bif decide (pos < s.size) then K (.set id (.itr s (pos + (Utf8.decode s pos).2)) (.v (.t [.b true,.n .i64 (pos:Int),.n .i32 ((Utf8.decode s pos).1:Int)]))) else K (.val (.v (.t [.b false])))
 | .indexAddr t _ _,[.no id _ n,.v (.n _ i)]=>(C.T.sl t).bind fun e=>bif inB i n then (bif Nat.beq 1 e.2 then K (.val (.q id i.toNat 0)) else none) else none
 | .call ⟨.builtin .append,axs,ats⟩,[.mi id j e' ie isz rows none,y]=>(match ats.toList with
   | [t,t']=>bif Nat.beq t t' then (C.T.sl t).bind fun e=>(yQE y).bind fun news=>bif news.ok e.2 then (bif Nat.beq ie e.1 && Nat.beq isz e.2 && !(y.ids.any (Nat.beq id)) then (rows.at j).bind fun r =>
     (bif decide (r.len + news.len≤C.T.bd e.1) then K ⟨[(id,some (.nst e' ie isz rows (some (j,r.app news))))],[(mid id,none)],.mp id j,[]⟩ else none) else none) else none else none
   | _=>none)
 | .store t _ _,[.nq id j 0 e ie isz rows (some (j',r)),.w (.mp id' j'')]=>(C.T.sz t).bind fun k=>bif !k.1 && Nat.beq id' id then (bif Nat.beq j' j then (bif Nat.beq j'' j then K ⟨[(id,some (.nst e ie isz (rows.set j r) none))],[(mid id,none)],.un,[]⟩ else none) else none) else none
 | .indexAddr t _ _,[.v (.lf n f),.v (.n _ i)]=>(C.T.sl t).bind fun e=>bif inB i n then (bif Nat.beq (f i.toNat).length e.2 then K (.val (.v (.zf n f i.toNat 0))) else none) else none
 | .call ⟨.value fx,axs,ats⟩,.v (.f f first cap) :: vs=>bif C.T.rw f then (zU C.T C.cA C.cB C.me dst (.call ⟨.value fx,axs,ats⟩) (.v (.f f first cap) :: vs)).bind fun e=>zWD e K
   else callEffK C cK dst f (first.map .v ++ vs ++ cap.map .v) K
 | op,vs=>(zU C.T C.cA C.cB C.me dst op vs).bind fun e=>zWD e K
def goK (C:Cx) (cK:qYW) (o:Oper) (σ:St) (K:Eff × List RV→Option α):Option α :=
 bif dstB C.n o.dst then
  (mapO (opv (mode o.op) σ) o.op.operands.toList).bind fun vs=>yJX C cK (o.dst.getD 0) o.op vs fun e =>
   bif e.nw.all (fun id=>(zG σ.M id).isNone && Nat.blt id 2000000) then K (e,vs) else none
 else none
def yQK (C:Cx) (o:Oper) (K:Eff × List RV→Option α):Option α:=bif dstB C.n o.dst then K (.val (.v (.t [])),[]) else none
def yVH (C:Cx) (cK:qYW) (ops:Array Oper) (o:Oper) (σ:St) (K:Eff × List RV→Option α):Option α :=
 match o.guard with
 | none=>goK C cK o σ K
 | some (j,b)=>match (ops[j]?).bind (·.dst) with
  | some d=>match qQY σ.S d with
   | some (.v (.b c))=>(match b with
    | true=>bif c then goK C cK o σ K else yQK C o K
    | false=>bif c then yQK C o K else goK C cK o σ K)
   | some (.v (.t []))=>yQK C o K
   | _=>none
  | none=>none
end
def zUK (C:Cx) (cK:qYW) (ops:Array Oper):List Oper→(St→Option (Ret × Mem))→St→Option (Ret × Mem)
 | [],K,σ=>K σ
 | o :: l,K,σ=>yVH C cK ops o σ fun r=>zUK C cK ops l K (σ.apply r.1 o.dst)
def qVA (C:Cx) (cK:qYW) (ops:Array Oper):Nat→List Oper→List Done→(St→Option (Ret × Mem))→St→Option (Ret × Mem)
 | _,[],acc,K,σ=>bif zJK ops acc.reverse && Sx.backB ops then K σ else none
 | i,o :: l,acc,K,σ=>yVH C cK ops o σ fun r=>qVA C cK ops (i + 1) l ((i,r) :: acc) K (σ.apply r.1 o.dst)
def qUQ (N:Nat) (C:Cx) (cK:qYW):Code→(Ex→St→Option (Ret × Mem))→St→Option (Ret × Mem)
 | .skip,K,σ=>K .normal σ
 | .label _,K,σ=>K .normal σ
 | .scope x,K,σ=>qUQ N C cK x K σ
 | .ret,K,σ=>K .ret σ
 | .exit id,K,σ=>K (.exit id) σ
 | .region id ops d,K,σ=>preK C id (fun σ=>bif d then qVA C cK ops 0 ops.toList [] (K .normal) σ else zUK C cK ops ops.toList (K .normal) σ) σ
 | .seq x y,K,σ=>qUQ N C cK x (fun e σ=>match e with
   | .normal=>qUQ N C cK y K σ
   | e=>K e σ) σ
 | .cond c x y,K,σ=>(opv 1 σ c).bind fun v=>match v with
   | .v (.b t)=>bif t then qUQ N C cK x K σ else qUQ N C cK y K σ
   | _=>none
 | .block id x,K,σ=>qUQ N C cK x (fun e σ=>match e with
   | .exit id'=>bif Nat.beq id' id then K .normal σ else K (.exit id') σ
   | e=>K e σ) σ
 | .loop x,K,σ=>zQY (fun again σ=>qUQ N C cK x (fun e σ=>match e with
   | .normal=>again σ
   | e=>K e (qYX (C.T.hint C.me (yQ x)) σ)) (qYD (C.T.hint C.me (yQ x)) σ)) N σ
 | _,_,_=>none
abbrev OrK:=Nat→Option (List PV→Option (Bool × Ret))
def OrK.orc (o:OrK):Orc:=⟨fun g=>(o g).bind fun f=>some fun ps=>(f ps).bind fun x=>bif x.1 then some x.2 else none,fun _=>none⟩
def zJH (ok:OrK) (rK:qYW):qYW:=fun g ps K=>match ok g with
 | some o=>(o ps).bind fun x=>bif x.1 then K x.2 else none
 | none=>rK g ps K
def yUZ (T:Tab) (ok:OrK):Nat→qYW
 | 0,_,_,_=>none
 | N + 1,f,ps,K=>match T.fn f with
  | none=>none
  | some fi=>bif Nat.ble (ps.map HV.v).length fi.ntmps then qUQ N ⟨T,qJB ok.orc (runF T ok.orc N),qYE T ok.orc (runF T ok.orc N),f,fi.ntmps⟩ (zJH ok (yUZ T ok N)) fi.body (fun e σ=>(endK T [] fi.results e σ).bind fun r=>K r.1) ⟨initS 0 (ps.map .v),[]⟩ else none
def runK (T:Tab) (ok:OrK) (N f:Nat) (ps:List PV):Option (Ret × Mem):=yUZ T ok N f ps fun r=>some (r,[])
section
variable {C:Cx} {cK:qYW} {ops:Array Oper} {r:α}
def SndK (C:Cx) (cK:qYW):Prop:=∀ f ps K r,cK f ps K=some r→∃ x,C.cA f ps=some x∧K x=some r
theorem qXY {dst:Nat} {op:Op} {vs:List RV} {K:Eff→Option α} (hc:SndK C cK) (h:yJX C cK dst op vs K=some r):∃ e,zU C.T C.cA C.cB C.me dst op vs=some e∧K e=some r:=by
 unfold yJX at h;split at h
 ·rename_i k x k' y;obtain ⟨h1,h⟩:=qQ h;cases hy:decide (y=0) with
  | true=>rw [hy] at h; cases h
  | false =>
   rw [hy] at h;refine ⟨_,?_,h⟩;simp [zU,binP,binI,h1,hy]
 ·rename_i k x k' y;obtain ⟨h1,h⟩:=qQ h;cases hy:decide (y=0) with
  | true=>rw [hy] at h; cases h
  | false =>
   rw [hy] at h;refine ⟨_,?_,h⟩;simp [zU,binP,binI,h1,hy]
 ·rename_i axs ats id e' sz rows y;split at h
  ·rename_i t t' hts;obtain ⟨h1,h⟩:=qQ h;simp only [vQQ] at h;obtain ⟨el,hel,news,hnews,h⟩:=h;obtain ⟨h2,h⟩:=qQ h;obtain ⟨h3,h⟩:=qQ h;obtain ⟨h4,h⟩:=qQ h;refine ⟨_,?_,h⟩;rw [vQJ,vQJ] at h3;simp only [zU,hts,h1,vYV,hel,hnews,vYQ,h2,h3.1.1,h3.1.2,h3.2,h4,vZJ]
  ·cases h
 ·rename_i axs ats y;split at h
  ·rename_i t t' hts;obtain ⟨h1,h⟩:=qQ h;simp only [vQQ] at h;obtain ⟨el,hel,news,hnews,h⟩:=h;obtain ⟨h2,h⟩:=qQ h;obtain ⟨h4,h⟩:=qQ h;refine ⟨_,?_,h⟩;simp only [zU,hts,h1,vYV,hel,hnews,vYQ,h2,h4]
  ·cases h
 ·rename_i k x _ y;obtain ⟨h1,h⟩:=qQ h;refine ⟨_,?_,h⟩;simp [zU,binP,h1]
 ·rename_i k x _ y;obtain ⟨h1,h⟩:=qQ h;refine ⟨_,?_,h⟩;simp [zU,binP,h1]
 ·rename_i t _ _ id _ sz rows _ i;simp only [vQQ] at h;obtain ⟨el,hel,h⟩:=h;obtain ⟨h1,h⟩:=qQ h;obtain ⟨h2,h⟩:=qQ h;exact ⟨_,by simp only [zU,hel,vYQ,h1,h2,vZJ,vYV],h⟩
 ·rename_i t _ _ _ n _ c;simp only [vQQ] at h;obtain ⟨el,hel,zs,hzs,h⟩:=h;cases hzf:C.T.zf C.me with
  | true=>rw [hzf] at h; cases h
  | false =>
  rw [hzf,vYG] at h;cases hnf:C.T.nf C.me with
  | true =>
   rw [hnf,vYV] at h;simp only [vQQ] at h;obtain ⟨q,hq,z2,hz2,h⟩:=h;split at h
   ·obtain ⟨h0,h⟩:=qQ h;obtain ⟨h1,h⟩:=qQ h;obtain ⟨h2,h⟩:=qQ h;obtain ⟨h3,h⟩:=qQ h;exact ⟨_,by simp only [zU,hel,hzs,hzf,hnf,hq,hz2,vYQ,h0,h1,h2,h3,Bool.false_and,vYG,vZJ,vYV],h⟩
   ·cases h
  | false =>
  rw [hnf,vYG] at h;obtain ⟨h1,h⟩:=qQ h;obtain ⟨h2,h⟩:=qQ h;obtain ⟨h3,h⟩:=qQ h;exact ⟨_,by simp only [zU,hel,hzs,hzf,hnf,vYQ,h1,h2,h3,Bool.false_and,vYG,vZJ,vYV],h⟩
 ·rename_i t _ lo hi n f vs;simp only [vQQ] at h;obtain ⟨b,hb,el,hel,h⟩:=h;obtain ⟨h1,h⟩:=qQ h;obtain ⟨h2,h⟩:=qQ h;exact ⟨_,by simp only [zU,hb,hel,vYQ,h1,h2,vYV],h⟩
 ·rename_i t _ lo hi id e' sz rows vs;simp only [vQQ] at h;obtain ⟨b,hb,h⟩:=h;split at h
  ·rename_i j;simp only [vQQ] at h;obtain ⟨el,hel,h⟩:=h;obtain ⟨h1,h⟩:=qQ h;obtain ⟨h2,h⟩:=qQ h;obtain ⟨h3,h⟩:=qQ h;exact ⟨_,by simp only [zU,hb,hel,vYQ,h1,h2,h3,vZJ,vYV],h⟩
  ·cases h
 ·rename_i t _ _ s _ i;obtain ⟨h1,h⟩:=qQ h;obtain ⟨h2,h⟩:=qQ h;obtain ⟨i0,i1⟩:=qUX h2;refine ⟨_,?_,h⟩;have hb:s[i.toNat]? = some (s[i.toNat]'(by omega)):=getElem?_pos s i.toNat (by omega);simp only [zU,h1,vJQ i0,vZJ,vYV,zZK,hb,vYQ,Option.getD_some]
 ·rename_i id s pos;cases hp2:Nat.beq id pid2 with
  | true=>rw [hp2] at h; cases h
  | false =>
  rw [hp2,vYG] at h;cases hp:decide (pos < s.size) with
  | true =>
   rw [hp] at h;exact ⟨_,by simp only [zU,hp2,hp,vYV,vYG],h⟩
  | false =>
   rw [hp] at h;exact ⟨_,by simp only [zU,hp2,hp,vYG],h⟩
 ·rename_i t _ _ id _ n _ i;simp only [vQQ] at h;obtain ⟨el,hel,h⟩:=h;obtain ⟨h1,h⟩:=qQ h;obtain ⟨h2,h⟩:=qQ h;exact ⟨_,by simp only [zU,hel,vYQ,h1,h2,vZJ,vYV],h⟩
 ·rename_i axs ats id j e' ie isz rows y;split at h
  ·rename_i t t' hts;obtain ⟨h1,h⟩:=qQ h;simp only [vQQ] at h;obtain ⟨el,hel,news,hnews,h⟩:=h;obtain ⟨h2,h⟩:=qQ h;obtain ⟨h3,h⟩:=qQ h;simp only [vQQ] at h;obtain ⟨r1,hr1,h⟩:=h;obtain ⟨h4,h⟩:=qQ h;refine ⟨_,?_,h⟩;simp only [zU,hts,h1,vYV,hel,hnews,vYQ,h2,h3,hr1,h4]
  ·cases h
 ·rename_i t _ _ id j e ie isz rows j' r1 id' j'';simp only [vQQ] at h;obtain ⟨k,hk,h⟩:=h;obtain ⟨h1,h⟩:=qQ h;obtain ⟨h2,h⟩:=qQ h;obtain ⟨h3,h⟩:=qQ h;rw [vQJ] at h1;exact ⟨_,by simp only [zU,hk,vYQ,h1.1,h1.2,h2,h3,vZJ,vYV],h⟩
 ·rename_i t _ _ n f _ i;simp only [vQQ] at h;obtain ⟨el,hel,h⟩:=h;obtain ⟨h1,h⟩:=qQ h;obtain ⟨h2,h⟩:=qQ h;exact ⟨_,by simp only [zU,hel,vYQ,h1,h2,vZJ,vYV],h⟩
 ·rename_i fx axs ats f first cap vs
  cases hrw:C.T.rw f with
  | true =>
   rw [hrw] at h;simp only [vYV,vQQ] at h;obtain ⟨e,he,h⟩:=h;rw [qHU] at h;exact ⟨e,he,h⟩
  | false =>
   rw [hrw] at h;simp only [vYG,callEffK,vQQ] at h;obtain ⟨ps,hps,h⟩:=h;obtain ⟨x,hx,h⟩:=hc _ _ _ _ h;have key:∃ e,(bif (first.map RV.v ++ vs ++ cap.map RV.v).all RV.still then zWF C.T C.me dst (catR RV.regs (first.map RV.v ++ vs ++ cap.map RV.v)) x
    else match x with
     | .v x=>bif x.flat then some (.val (.v x)) else none
     | .ow _ _ (.l rows)=>bif rows.all (fun r=>r.all PV.flat1) then some (.val (.v (.l rows))) else none
     | .ow _ _ (.fo n g)=>bif jQJ g then (bif decide (n≤16) then some (.val (.v (.lf n g))) else none) else none
     | _=>none)=some e∧K e=some r:=by
    cases hst:(first.map RV.v ++ vs ++ cap.map RV.v).all RV.still with
    | true =>
     rw [hst] at h;simp only [vYV,vQQ] at h;obtain ⟨e,he,h⟩:=h;rw [qHU] at h;exact ⟨e,he,h⟩
    | false =>
     rw [hst] at h;simp only [vYG] at h;cases x with
     | v x =>
      obtain ⟨h1,h⟩:=qQ h;rw [qHU] at h;exact ⟨_,by simp only [vYG,h1,vYV],h⟩
     | ow e' sz rows =>
      cases rows with
      | l rows =>
       obtain ⟨h1,h⟩:=qQ h;exact ⟨_,by simp only [vYG,h1,vYV],h⟩
      | fo n g =>
       obtain ⟨h1,h⟩:=qQ h;obtain ⟨h2,h⟩:=qQ h;exact ⟨_,by simp only [vYG,h1,h2,vYV],h⟩
     | pb _=>cases h
   obtain ⟨e,he,h⟩:=key;refine ⟨e,?_,h⟩;simp only [zU,hrw,vYG,zJY,hps,hx,vYQ];exact he
 ·rw [vQQ] at h;obtain ⟨e,he,h⟩:=h;rw [qHU] at h;exact ⟨e,he,h⟩
theorem zHY {o:Oper} {σ:St} {K:Eff × List RV→Option α} (hc:SndK C cK) (hg:qQJ ops σ o=some true) (h:goK C cK o σ K=some r):∃ x,qJU C ops o σ=some x∧K x=some r:=by
 unfold goK at h;obtain ⟨hd,h⟩:=qQ h;rw [vQQ] at h;obtain ⟨vs,hvs,h⟩:=h;obtain ⟨e,he,h⟩:=qXY hc h;obtain ⟨hn,h⟩:=qQ h;exact ⟨(e,vs),qHJ hd (.inr ⟨hg,hvs,he,fun i hi=>zKV (List.all_eq_true.1 hn i hi)⟩),h⟩
theorem qKQ {o:Oper} {σ:St} {K:Eff × List RV→Option α} (hg:qQJ ops σ o=some false) (h:yQK C o K=some r):∃ x,qJU C ops o σ=some x∧K x=some r:=by
 unfold yQK at h;obtain ⟨hd,h⟩:=qQ h;exact ⟨_,qHJ hd (.inl ⟨hg,rfl⟩),h⟩
theorem stepK_some {o:Oper} {σ:St} {K:Eff × List RV→Option α} (hc:SndK C cK) (h:yVH C cK ops o σ K=some r):∃ x,qJU C ops o σ=some x∧K x=some r:=by
 unfold yVH at h;cases hg:o.guard with
 | none=>rw [hg] at h; exact zHY hc (by unfold qQJ; rw [hg]) h
 | some gb =>
  obtain ⟨j,b⟩:=gb;rw [hg] at h;simp only at h;split at h
  ·rename_i d hd;split at h
   ·rename_i c hlc;have gd:qQJ ops σ o=some (c == b):=by
     unfold qQJ;rw [hg];simp only [hd,hlc]
    cases b <;> cases c <;> simp only [vYV,vYG] at h
    ·exact zHY hc gd h
    ·exact qKQ gd h
    ·exact qKQ gd h
    ·exact zHY hc gd h
   ·rename_i hlc;exact qKQ (by unfold qQJ; rw [hg]; simp only [hd,hlc]) h
   ·cases h
  ·cases h
end
section
variable {C:Cx} {ops:Array Oper} {r:Ret × Mem}
def Gets (K0:Ret × Mem→Option (Ret × Mem)) (r:Ret × Mem) (x:Option (Ret × Mem)):Prop:=∃ q,x=some q∧K0 q=some r
variable {K0:Ret × Mem→Option (Ret × Mem)} {cK:qYW}
theorem qVQ (hc:SndK C cK) {K K':St→Option (Ret × Mem)} (hK:∀ σ,K σ=some r→Gets K0 r (K' σ)):∀ (l:List Oper) (σ:St),zUK C cK ops l K σ=some r→Gets K0 r (qVZ C ops l K' σ)
 | [],σ,h=>hK σ h
 | o :: l,σ,h=>by
  simp only [zUK] at h;obtain ⟨x,hx,h⟩:=stepK_some hc h;simp only [qVZ,hx,vYQ];exact qVQ hc hK l _ h
theorem qXB (hc:SndK C cK) {K K':St→Option (Ret × Mem)} (hK:∀ σ,K σ=some r→Gets K0 r (K' σ)):∀ (l:List Oper) (i:Nat) (acc:List Done) (σ:St),qVA C cK ops i l acc K σ=some r→Gets K0 r (qYZ C ops i l acc K' σ)
 | [],i,acc,σ,h=>by
  simp only [qVA] at h;obtain ⟨hp,h⟩:=qQ h;simp only [qYZ,hp,vYV];exact hK σ h
 | o :: l,i,acc,σ,h=>by
  simp only [qVA] at h;obtain ⟨x,hx,h⟩:=stepK_some hc h;simp only [qYZ,hx,vYQ];exact qXB hc hK l _ _ _ h
theorem qUL {s s':(St→Option (Ret × Mem))→St→Option (Ret × Mem)} (h:∀ a a':St→Option (Ret × Mem),(∀ σ,a σ=some r→Gets K0 r (a' σ))→∀ σ,s a σ=some r→Gets K0 r (s' a' σ)):∀ (n:Nat) (σ:St),zQY s n σ=some r→Gets K0 r (zQY s' n σ)
 | 0,σ,hs=>by cases hs
 | n + 1,σ,hs=>h _ _ (qUL h n) σ hs
theorem qZY {N:Nat} (hc:SndK C cK):∀ (c:Code) {K K':Ex→St→Option (Ret × Mem)} (hK:∀ e σ,K e σ=some r→Gets K0 r (K' e σ)) (σ:St),qUQ N C cK c K σ=some r→Gets K0 r (runC N C c K' σ)
 | .skip,K,K',hK,σ,h=>hK _ _ h
 | .label _,K,K',hK,σ,h=>hK _ _ h
 | .scope x,K,K',hK,σ,h=>qZY hc x hK σ h
 | .ret,K,K',hK,σ,h=>hK _ _ h
 | .exit id,K,K',hK,σ,h=>hK _ _ h
 | .region id ops d,K,K',hK,σ,h=>by
  have h:=preK_eq.symm.trans h;refine Eq.mpr (congrArg (Gets K0 r) (preK_eq (F:=fun σ=>bif d then qYZ C ops 0 ops.toList [] (K' .normal) σ else qVZ C ops ops.toList (K' .normal) σ))) ?_;cases d with
  | true=>exact qXB hc (hK .normal) _ _ _ _ h
  | false=>exact qVQ hc (hK .normal) _ _ h
 | .seq x y,K,K',hK,σ,h=>by
  refine qZY hc x (fun e τ hk => ?_) σ h;cases e with
  | normal=>exact qZY hc y hK τ hk
  | _=>exact hK _ _ hk
 | .cond c x y,K,K',hK,σ,h=>by
  simp only [qUQ,vQQ] at h;obtain ⟨v,hv,h⟩:=h;simp only [runC,hv,vYQ];split at h
  ·rename_i t;cases t with
   | true=>exact qZY hc x hK σ h
   | false=>exact qZY hc y hK σ h
  ·cases h
 | .block id x,K,K',hK,σ,h=>by
  refine qZY hc x (fun e τ hk => ?_) σ h;cases e with
  | exit id' =>
   simp only at hk ⊢;cases hb:Nat.beq id' id with
   | true=>rw [hb] at hk; exact hK _ _ hk
   | false=>rw [hb] at hk; exact hK _ _ hk
  | _=>exact hK _ _ hk
 | .loop x,K,K',hK,σ,h=>by
  simp only [qUQ] at h;simp only [runC];refine qUL (fun a a' ha τ hs => ?_) N σ h;refine qZY hc x (fun e υ hk => ?_) _ hs;cases e with
  | normal=>exact ha _ hk
  | _=>exact hK _ _ hk
 | .rangeFunc ..,K,K',hK,σ,h=>by cases h
 | .goto _,K,K',hK,σ,h=>by cases h
 | .refuse _,K,K',hK,σ,h=>by cases h
end
theorem zZE {T:Tab} {ok:OrK}:∀ (N f:Nat) (ps:List PV) (K:Ret→Option (Ret × Mem)) (r:Ret × Mem),yUZ T ok N f ps K=some r→∃ x M,runF T ok.orc N f (ps.map .v) []=some (x,M)∧K x=some r
 | 0,f,ps,K,r,h=>by cases h
 | N + 1,f,ps,K,r,h=>by
  simp only [yUZ] at h;split at h
  ·cases h
  ·rename_i fi hfi;obtain ⟨hb,h⟩:=qQ h;have hc:SndK ⟨T,qJB ok.orc (runF T ok.orc N),qYE T ok.orc (runF T ok.orc N),f,fi.ntmps⟩ (zJH ok (yUZ T ok N)):=fun g qs K' r' hk=>by
    unfold zJH at hk;show ∃ x,qJB ok.orc (runF T ok.orc N) g qs=some x∧K' x=some r';unfold qJB;cases ho:ok g with
    | some o =>
     rw [ho] at hk;simp only [vQQ] at hk;obtain ⟨x,hx,hk⟩:=hk;obtain ⟨h1,hk⟩:=qQ hk;exact ⟨x.2,by simp only [OrK.orc,ho,hx,vYQ,h1,vYV],hk⟩
    | none =>
     rw [ho] at hk;obtain ⟨x,M,hx,hk⟩:=zZE N g qs K' r' hk;have e:ok.orc.a g=none:=by simp only [OrK.orc,ho,Option.bind_none]
     exact ⟨x,by simp only [e,hx,vYQ],hk⟩
   obtain ⟨q,h1,h2⟩:=qZY (K0:=fun q=>K q.1) (K':=endK T [] fi.results) hc fi.body (fun e σ hk=>by
    simp only [vQQ] at hk;exact hk) _ h
   refine ⟨q.1,q.2,?_,h2⟩;simp only [runF,hfi,hb,vYV];exact h1
theorem runK_some {T:Tab} {ok:OrK} {N f:Nat} {ps:List PV} {r:Ret} (h:runK T ok N f ps=some (r,[])):run T ok.orc N f ps=some r:=by
 obtain ⟨x,M,h1,h2⟩:=zZE N f ps _ _ h;cases h2;unfold run;rw [h1];rfl
def OrK.Ok (P:Program) (ok:OrK):Prop:=∀ g o,ok g=some o→∀ ps r,o ps=some (true,r)→zH P g ps r
theorem OrK.Ok.orc {P:Program} {ok:OrK} {T:Tab} (h:ok.Ok P):OrcOk P T ok.orc:=by
 refine ⟨fun g o ho ps r hr => ?_,fun g o ho=>by simp [OrK.orc] at ho⟩;simp only [OrK.orc,vQQ,vQZ] at ho;obtain ⟨f,hf,rfl⟩:=ho;simp only [vQQ] at hr;obtain ⟨x,hx,hr⟩:=hr;obtain ⟨h1,hr⟩:=qQ hr;cases hr;exact h g f hf ps x.2 (by rw [hx,← h1])
theorem qX {P:Program} {T:Tab} {ok:OrK} {N f:Nat} {ps:List PV} {r:Ret} (hT:TabOk P T) (hm:P.follows .mixedOrders=true) (hO:ok.Ok P) (h:runK T ok N f ps=some (r,[])):zH P f ps r:=qWL hT hm hO.orc (runK_some h)
abbrev OrL:=List (Nat × (List PV→Option (Bool × Ret)))
def OrL.k (l:OrL):OrK:=asc l
def zY (P:Program) (f:Nat) (o:List PV→Option (Bool × Ret)):Prop:=∀ ps r,o ps=some (true,r)→zH P f ps r
theorem OrL.ok {P:Program} {l:OrL} (h:AllP (fun x:Nat × (List PV→Option (Bool × Ret))=>zY P x.1 x.2) l):(OrL.k l).Ok P:=fun g o ho ps r hr=>h.of (qZI ho) ps r hr
def listed (l:List (List PV × Ret)):List PV→Option (Bool × Ret):=fun ps=>(yWG l ps).bind fun r=>some (true,r)
def PV.val1:PV→Value
 | .n k x=>.int k x
 | .b x=>.bool x
 | .s x=>.string x
 | _=>.nilIface
def PV.val:PV→Value
 | .a cs=>.agg (cs.map PV.val1).toArray
 | x=>x.val1
theorem yZH {F:Nat→Prop} {w:World} {p:PV} {v:Value} (hp:p.flat1=true) (h:RP F w p v):v=p.val1:=by
 cases h <;> first | rfl | (simp [PV.flat1] at hp; done)
theorem zKE {F:Nat→Prop} {w:World} {p:PV} (hp:p.flat1=true):RP F w p p.val1∧p.val1.oneCell'=true:=by
 cases p <;> first | (simp [PV.flat1] at hp; done) | exact ⟨by constructor,rfl⟩
theorem yUB {F:Nat→Prop} {w:World} {p:PV} {v:Value} (hp:p.flat2=true) (h:RP F w p v):v=p.val:=by
 cases p with
 | a cs =>
  cases h with
  | a _ vs hl h1 h =>
   have e:vs=cs.map PV.val1:=List.ext_getElem? fun i=>by
    rw [vZY];cases hc:cs[i]? with
    | none=>rw [Option.map_none,List.getElem?_eq_none (by have:=List.getElem?_eq_none_iff.1 hc; omega)]
    | some c =>
     have hi:=(List.getElem?_eq_some_iff.1 hc).1;have hv:vs[i]? = some (vs[i]'(by omega)):=vQK (by omega);rw [hv,Option.map_some,yZH (List.all_eq_true.1 hp c (vQG hc)) (h i c _ hc hv)]
   rw [e]; rfl
 | _=>exact yZH (by first | exact hp | (simp [PV.flat2,PV.flat1] at hp)) h
theorem val_rp {F:Nat→Prop} {w:World} {p:PV} (hp:p.flat2=true):RP F w p p.val:=by
 cases p with
 | a cs =>
  refine .a cs (cs.map PV.val1) (by simp) (fun v hv => ?_) fun i p v hi hv => ?_
  ·obtain ⟨c,hc,rfl⟩:=List.mem_map.1 hv;exact (zKE (F:=F) (w:=w) (List.all_eq_true.1 hp c hc)).2
  ·rw [vZY,hi] at hv;cases hv;exact (zKE (List.all_eq_true.1 hp p (vQG hi))).1
 | _=>exact (zKE (by first | exact hp | (simp [PV.flat2,PV.flat1] at hp))).1
theorem qY {P:Program} {f:Nat} {ps:List PV} {x:PV} (hent:uQ P f) (hp:ps.all PV.flat2=true) (hx:x.flat2=true) (h:∀ w,Calls P f (ps.map PV.val).toArray w (Rets x.val w)):zH P f ps (.v x):=by
 refine ⟨hent,fun w F vals hF hal => ?_⟩;have e:vals=ps.map PV.val:=List.ext_getElem? fun i=>by
  rw [vZY];have hl:=hal.1;cases hc:ps[i]? with
  | none=>rw [Option.map_none,List.getElem?_eq_none (by have:=List.getElem?_eq_none_iff.1 hc; omega)]
  | some c =>
   have hi:=(List.getElem?_eq_some_iff.1 hc).1;have hv:vals[i]? = some (vals[i]'(by omega)):=vQK (by omega);rw [hv,Option.map_some,yUB (List.all_eq_true.1 hp c (vQG hc)) (hal.2 i c _ hc hv)]
 rw [e];exact (h w).mono fun e w' ⟨he,hg⟩=>⟨x.val,F,he,hg,fun k hk=>hk,fun k hk=>.inl hk,val_rp hx⟩
theorem qH {P:Program} {f:Nat} {ps:List PV} {x:PV} (h:zH P f ps (.v x)) (hp:ps.all PV.flat2=true) (hx:x.flat2=true) (w:World):Calls P f (ps.map PV.val).toArray w (Rets x.val w):=by
 refine Calls.mono (h.2 w (fun _=>False) (ps.map PV.val) (fun k hk=>hk.elim) ⟨by simp,fun i p v hi hv => ?_⟩) fun e w' ⟨v,F',he,hg,_,_,hr⟩=>⟨by rw [he,yUB hx hr],hg⟩
 rw [vZY,hi] at hv;cases hv;exact val_rp (List.all_eq_true.1 hp p (vQG hi))
end Go.Rx
namespace Go.Rx
open Go.RowKit Go.Sx
def qWV (sz:Nat) (rows:List (List PV)):Bool:=rows.all fun r=>Nat.beq r.length sz && r.all PV.flat1
def qUH (rows:List (List PV)):List (List Value):=rows.map fun r=>r.map PV.val1
theorem qWW {sz:Nat} {rows:List (List PV)} (h:qWV sz rows=true) {r:List PV} (hr:r ∈ rows):r.length=sz∧∀ p ∈ r,p.flat1=true:=by
 have:=List.all_eq_true.1 h r hr
 rw [vQJ] at this;exact ⟨vQX this.1,List.all_eq_true.1 this.2⟩
theorem rp_of_slc {F:Nat→Prop} {w:World} {sz c:Nat} {a:Option Addr} {rows:List (List PV)} (hs:qWV sz rows=true) (hcap:rows.length≤c) (hS:qJQ sz a (qUH rows) w)
  (hF:∀ b off,a=some ⟨b,off,none⟩→rows ≠ []→F b):RP F w (.l rows) (.slice a rows.length c):=by
 cases rows with
 | nil=>exact .l0 a c
 | cons r0 rs =>
  obtain ⟨_,b,off,ha,hb,_⟩:=hS 0 _ (by simp [qUH]; rfl);subst ha;refine .l (r0 :: rs) b off _ c sz (fun j t=>(((r0 :: rs).getD j []).getD t .ni).val1) rfl hcap (fun r hr=>(qWW hs hr).1) (hF b off rfl (by simp)) (fun j t hj ht => ?_) (fun j r t p hj ht => ?_)
  ·have hr:(r0 :: rs)[j]? = some ((r0 :: rs)[j]'hj):=vQK hj;generalize (r0 :: rs)[j]'hj=r at hr;have hm:=qWW hs (vQG hr);have htl:t < r.length:=by omega
   have hp:r[t]? = some (r[t]'htl):=vQK htl;obtain ⟨_,b',off',ha',_,hc⟩:=hS j (r.map PV.val1) (by unfold qUH; rw [vZY,hr]; rfl);cases ha';have hc:=hc t ht;rw [vZY,hp,Option.map_some] at hc;have e:(((r0 :: rs).getD j []).getD t .ni)=r[t]'htl:=by
    rw [vZG,vZG,hr];simp only [Option.getD_some];rw [hp]; rfl
   simp only [e];exact ⟨by rw [← hc,Nat.add_assoc],(zKE (F:=F) (w:=w) (hm.2 _ (List.getElem_mem htl))).2⟩
  ·have hm:=qWW hs (vQG hj);have e:(((r0 :: rs).getD j []).getD t .ni)=p:=by
    rw [vZG,vZG,hj];simp only [Option.getD_some];rw [ht]; rfl
   simp only [e];exact (zKE (hm.2 p (vQG ht))).1
theorem slc_of_rp {F:Nat→Prop} {w:World} {sz:Nat} {rows:List (List PV)} {v:Value} (hs:qWV sz rows=true) (hF:∀ k,F k→k < w.heap.size) (h:RP F w (.l rows) v) :
  ∃ a c,v=.slice a rows.length c∧rows.length≤c∧qJQ sz a (qUH rows) w∧∀ b off,a=some ⟨b,off,none⟩→rows ≠ []→F b:=by
 cases h with
 | l0 ad c=>exact ⟨ad,c,rfl,Nat.zero_le _,fun j r hj=>by simp [qUH] at hj,fun _ _ _ h=>absurd rfl h⟩
 | l _ b off n c sz' g hn hcap hl hf hc hh =>
  subst hn;refine ⟨_,c,rfl,hcap,fun j r hj => ?_,fun b' off' e _=>by cases e; exact hf⟩;unfold qUH at hj;rw [vZY] at hj;cases hr:rows[j]? with
  | none=>rw [hr] at hj; cases hj
  | some q =>
   rw [hr] at hj;cases hj;have hm:=qWW hs (vQG hr);have hjl:=(List.getElem?_eq_some_iff.1 hr).1;have e:sz'=sz:=by rw [← hl q (vQG hr),hm.1]
   subst e;refine ⟨by rw [List.length_map,hm.1],b,off,rfl,hF b hf,fun k hk => ?_⟩;have h1:=hc j k hjl hk;have hkl:k < q.length:=by omega
   have hp:q[k]? = some (q[k]'hkl):=vQK hkl;rw [Nat.add_assoc,h1.1,vZY,hp,Option.map_some]
   congr 1
   exact yZH (hm.2 _ (List.getElem_mem hkl)) (hh j q k _ hr hp)
theorem dep_mem {D:Nat→Prop} {G:World→Prop} {sz:Nat} {a:Option Addr} {rows:List (List Value)} {w:World} (hd:qKL D G) (hG:G w) (hi:∀ w,G w→qJQ sz a rows w) (h0:0 < sz) (hne:rows ≠ []) :
  ∀ b off,a=some ⟨b,off,none⟩→D b:=by
 intro b off ha;subst ha;apply Classical.byContradiction;intro hn;obtain ⟨r0,rs,rfl⟩:∃ r0 rs,rows=r0 :: rs:=by cases rows with | nil=>exact absurd rfl hne | cons x xs=>exact ⟨x,xs,rfl⟩
 have hG':G { w with heap:=w.heap.setIfInBounds b (.cells #[] 0) }:=hd w _ (fun k hk=>by
  have e:b ≠ k:=fun e=>hn (e ▸ hk)
  show (w.heap.setIfInBounds b _)[k]? = _;exact Array.getElem?_setIfInBounds_ne e) hG
 obtain ⟨hl,b',off',e,hb,hc⟩:=hi _ hG' 0 r0 rfl;cases e;have hc:=hc 0 h0;have hb':b < w.heap.size:=by simpa using hb
 rw [vQK (by omega)] at hc;simp [World.cell?,hb'] at hc
theorem snd_told {P:Program} {f:Nat} {ps:List PV} {p:PV} {X:Type} {Φ:X→Prop} {V:X→Value} {G:X→World→Prop} (hent:uQ P f)
  (h:∀ (w:World) (F:Nat→Prop) (vals:List Value),(∀ k,F k→k < w.heap.size)→Al (RP F w) ps vals→Calls P f vals.toArray w (RetsF Φ V G w))
  (hp:∀ x (w:World) (D:Nat→Prop) (F:Nat→Prop),Φ x→G x w→qKL D (G x)→(∀ k,D k→F k)→RP F w p (V x)):zH P f ps (.v p):=by
 refine ⟨hent,fun w F vals hF hal=>(h w F vals hF hal).mono ?_⟩
 rintro e w' ⟨x,hx,rfl,hg,D,h1,h2,h3⟩
 exact ⟨V x,fun k=>F k ∨ D k,rfl,hg,fun k hk=>.inl hk,fun k hk=>hk.imp id (h2 k),hp x w' D _ hx h3 h1 fun k hk=>.inr hk⟩
end Go.Rx
namespace Go.Rx
open Go.RowKit Go.Sx
def zXB (L:List Int):PV:=.l (L.map fun x=>[.n .i64 x])
theorem intsP_flat (L:List Int):qWV 1 (L.map fun x=>[PV.n .i64 x])=true:=by
 unfold qWV;rw [List.all_map,vZZ];intro x _;rfl
theorem rp_of_ints {F:Nat→Prop} {w:World} {L:List Int} {a:Option Addr} {c:Nat} (h:IntsAt w w.heap.size (.slice a L.length c) L) (hc:L.length≤c) (hF:∀ k,k < w.heap.size→F k):RP F w (zXB L) (.slice a L.length c):=by
 have e:(L.map fun x=>[PV.n .i64 x]).length=L.length:=by simp
 have key:qJQ 1 a (qUH (L.map fun x=>[PV.n .i64 x])) w:=fun j r hj=>by
  obtain ⟨a',c',e',hh⟩:=h.slice;cases e';unfold qUH at hj;rw [vZY,vZY] at hj;cases hr:L[j]? with
  | none=>rw [hr] at hj; cases hj
  | some x =>
   rw [hr] at hj;cases hj;have hjl:=(List.getElem?_eq_some_iff.1 hr).1;obtain ⟨b,off,ha,hb,hq⟩:=hh j hjl;refine ⟨rfl,b,off,ha,hb,fun k hk => ?_⟩;have hk0:k=0:=by omega
   subst hk0;rw [Nat.mul_one,Nat.add_zero,hq,vZG,hr];rfl
 have:=rp_of_slc (F:=F) (c:=c) (intsP_flat L) (by rw [e]; exact hc) key (fun b off ha hne=>by
  obtain ⟨a',c',e',hh⟩:=h.slice;cases e';have h0:0 < L.length:=by
   cases L with
   | nil=>exact absurd rfl hne
   | cons x xs=>simp
  obtain ⟨b',off',ha',hb,_⟩:=hh 0 h0;rw [ha] at ha';cases ha';exact hF b hb)
 rw [e] at this;exact this
theorem rets_of_sndR {P:Program} {f:Nat} {ps:List PV} {x:PV} {w:World} {vals:List Value} (h:zH P f ps (.v x)) (hx:x.flat2=true) (ha:Al (RP (fun k=>k < w.heap.size) w) ps vals):Calls P f vals.toArray w (Rets x.val w) :=
 Calls.mono (h.2 w _ vals (fun k hk=>hk) ha) fun e w' ⟨v,F',he,hg,_,_,hr⟩=>⟨by rw [he,yUB hx hr],hg⟩
theorem yWF {F:Nat→Prop} {w:World}:Al (RP F w) [] []:=⟨rfl,fun i p v h=>by simp at h⟩
theorem qWH {F:Nat→Prop} {w:World} {p:PV} {v:Value} {ps:List PV} {vs:List Value} (h:RP F w p v) (t:Al (RP F w) ps vs):Al (RP F w) (p :: ps) (v :: vs) :=
 ⟨by rw [vQW,vQW,t.1],fun i q u hq hu=>by
  cases i with
  | zero=>cases hq; cases hu; exact h
  | succ i=>exact t.2 i q u hq hu⟩
theorem qVV {F:Nat→Prop} {w:World} {p:PV} {ps:List PV} {vals:List Value} (h:Al (RP F w) (p :: ps) vals):∃ v vs,vals=v :: vs∧RP F w p v∧Al (RP F w) ps vs:=by
 cases vals with
 | nil=>have:=h.1; simp at this
 | cons v vs=>exact ⟨v,vs,rfl,h.2 0 p v rfl rfl,by have:=h.1; simpa using this,fun i q u hq hu=>h.2 (i + 1) q u hq hu⟩
theorem al_unnil {F:Nat→Prop} {w:World} {vals:List Value} (h:Al (RP F w) [] vals):vals=[]:=by
 cases vals with
 | nil=>rfl
 | cons v vs=>have:=h.1; simp at this
theorem rp_parts {F:Nat→Prop} {w:World} {cs:List PV} {v:Value} (h:RP F w (.a cs) v):∃ vs:List Value,v=.agg vs.toArray∧Al (RP F w) cs vs:=by
 cases h with
 | a _ vs hl _ hh=>exact ⟨vs,rfl,hl,hh⟩
end Go.Rx
namespace Go.Rx
open Go.RowKit Go.Sx Go.ChangeShapes Go.WideShapes
inductive Sh where
 | i (k:IntKind)
 | b
 | s
 | l (row:List Sh)
inductive Fit:Sh→PV→Prop
 | i (k:IntKind) (x:Int) (h:(Lit.int k x).wf=true):Fit (.i k) (.n k x)
 | b (x:Bool):Fit .b (.b x)
 | s (x:ByteArray) (h:x.size≤maxLen):Fit .s (.s x)
 | l (row:List Sh) (n:Nat) (f:Nat→List PV) (hn:n≤maxLen) (hl:∀ j,j < n→(f j).length=row.length) (h:∀ j,j < n→∀ (i:Nat) sh p,row[i]? = some sh→(f j)[i]? = some p→Fit sh p):Fit (.l row) (.lf n f)
section
variable {P:Program} {w:World} {H:Type} {enc:TypeId × Value→H}
def Good (w:World) (shs:List Sh) (cs:List Value):Prop:=∃ ps:List PV,ps.length=shs.length∧(∀ (i:Nat) sh p,shs[i]? = some sh→ps[i]? = some p→Fit sh p)∧Al (RP (fun k=>k < w.heap.size) w) ps cs∧∀ v ∈ cs,v.oneCell'=true
theorem Good.one {sh:Sh} {p:PV} {v:Value} (h1:Fit sh p) (h2:RP (fun k=>k < w.heap.size) w p v) (h3:v.oneCell'=true):Good w [sh] [v] :=
 ⟨[p],rfl,(fun i s0 q hs hq=>by
  match i with
  | 0=>cases hs; cases hq; exact h1
  | i + 1=>cases hs),qWH h2 yWF,(fun u hu=>by obtain rfl:=List.mem_singleton.1 hu; exact h3)⟩
theorem Good.cat {r s:List Sh} {cs ds:List Value} (h1:Good w r cs) (h2:Good w s ds):Good w (r ++ s) (cs ++ ds):=by
 obtain ⟨p,a1,a2,a3,a4⟩:=h1;obtain ⟨q,b1,b2,b3,b4⟩:=h2;refine ⟨p ++ q,by simp [a1,b1],fun i sh x hs hx => ?_,a3.append b3,fun v hv => ?_⟩
 ·rcases Nat.lt_or_ge i r.length with hi | hi
  ·rw [List.getElem?_append_left hi] at hs;rw [List.getElem?_append_left (by omega)] at hx;exact a2 i sh x hs hx
  ·rw [List.getElem?_append_right hi] at hs;rw [List.getElem?_append_right (by omega),a1] at hx;exact b2 _ sh x hs hx
 ·rcases List.mem_append.1 hv with h | h
  ·exact a4 v h
  ·exact b4 v h
def Pieces (w:World):List (List Sh)→List Value→Prop
 | [],cs=>cs=[]
 | r :: l,cs=>Good w r (cs.take r.length)∧Pieces w l (cs.drop r.length)
theorem Pieces.good:∀ {l:List (List Sh)} {cs:List Value},Pieces w l cs→Good w l.flatten cs
 | [],cs,h=>by
  have:cs=[]:=h
  subst this;exact ⟨[],rfl,fun i sh p hs=>by simp at hs,yWF,fun v hv=>by cases hv⟩
 | r :: l,cs,h=>by
  have:=Good.cat h.1 h.2.good
  rw [List.take_append_drop] at this;exact this
end
end Go.Rx
namespace Go.Rx
open Go.RowKit Go.Sx
abbrev Cont:=Ex→St→Option (Ret × Mem)
abbrev kU:=St→Cont→Option (Ret × Mem)
def qYC:Nat→Code→Code
 | 0,.seq x _=>x
 | _ + 1,.seq _ y=>y
 | 0,.cond _ x _=>x
 | _ + 1,.cond _ _ y=>y
 | _,.block _ x=>x
 | _,.scope x=>x
 | _,.loop x=>x
 | _,c=>c
def qZA (B:Code):List Nat→Code
 | []=>B
 | i :: p=>qYC i (qZA B p)
def zWL:List Nat→List Nat→Bool
 | [],[]=>true
 | x :: xs,y :: ys=>Nat.beq x y && zWL xs ys
 | _,_=>false
theorem zUH:∀ {p q:List Nat},zWL p q=true→p=q
 | [],[],_=>rfl
 | x :: xs,y :: ys,h=>by
  simp only [zWL,vQJ] at h;rw [vQX h.1,zUH h.2]
 | [],_ :: _,h=>by cases h
 | _ :: _,[],h=>by cases h
def LF (N:Nat) (C:Cx) (cK:qYW) (x:Code) (h:Hint) (K:Cont):Nat→St→Option (Ret × Mem)
 | 0,_=>none
 | n + 1,σ=>qUQ N C cK x (fun e τ=>match e with
   | .normal=>LF N C cK x h K n (qYD h τ)
   | e=>K e (qYX h τ)) σ
def LoopOk (N:Nat) (C:Cx) (cK:qYW) (x:Code) (S:kU):Prop:=∀ K σ r,S σ K=some r→LF N C cK x (C.T.hint C.me (yQ x)) K N σ=some r
theorem zGE {N:Nat} {C:Cx} {cK:qYW} {x:Code} {h:Hint} {K:Cont}:∀ (n:Nat) (σ:St),zQY (fun again σ=>qUQ N C cK x (fun e σ=>match e with
   | .normal=>again σ
   | e=>K e (qYX h σ)) (qYD h σ)) n σ=LF N C cK x h K n (qYD h σ)
 | 0,_=>rfl
 | n + 1,σ=>by
  simp only [zQY,LF]
  congr 1
  funext e τ;cases e with
  | normal=>exact zGE n τ
  | _=>rfl
def zWW (N:Nat) (C:Cx) (cK:qYW) (LO:List Nat→Option kU):Code→List Nat→Cont→St→Option (Ret × Mem)
 | .skip,_,K,σ=>K .normal σ
 | .label _,_,K,σ=>K .normal σ
 | .scope x,p,K,σ=>zWW N C cK LO x (0 :: p) K σ
 | .ret,_,K,σ=>K .ret σ
 | .exit id,_,K,σ=>K (.exit id) σ
 | .region id ops d,_,K,σ=>preK C id (fun σ=>bif d then qVA C cK ops 0 ops.toList [] (K .normal) σ else zUK C cK ops ops.toList (K .normal) σ) σ
 | .seq x y,p,K,σ=>zWW N C cK LO x (0 :: p) (fun e σ=>match e with
   | .normal=>zWW N C cK LO y (1 :: p) K σ
   | e=>K e σ) σ
 | .cond c x y,p,K,σ=>(opv 1 σ c).bind fun v=>match v with
   | .v (.b t)=>bif t then zWW N C cK LO x (0 :: p) K σ else zWW N C cK LO y (1 :: p) K σ
   | _=>none
 | .block id x,p,K,σ=>zWW N C cK LO x (0 :: p) (fun e σ=>match e with
   | .exit id'=>bif Nat.beq id' id then K .normal σ else K (.exit id') σ
   | e=>K e σ) σ
 | .loop x,p,K,σ=>match LO p with
   | some S=>S (qYD (C.T.hint C.me (yQ x)) σ) K
   | none=>zQY (fun again σ=>qUQ N C cK x (fun e σ=>match e with
     | .normal=>again σ
     | e=>K e (qYX (C.T.hint C.me (yQ x)) σ)) (qYD (C.T.hint C.me (yQ x)) σ)) N σ
 | _,_,_,_=>none
section
variable {C:Cx} {cK:qYW} {r:Ret × Mem} {K0:Ret × Mem→Option (Ret × Mem)}
theorem qYI {N:Nat} {LO:List Nat→Option kU} {B:Code} (hc:SndK C cK) (hL:∀ p S,LO p=some S→LoopOk N C cK (qYC 0 (qZA B p)) S):∀ (c:Code) (p:List Nat) {K K':Cont} (hp:qZA B p=c) (hK:∀ e σ,K e σ=some r→Gets K0 r (K' e σ)) (σ:St),zWW N C cK LO c p K σ=some r→Gets K0 r (runC N C c K' σ)
 | .skip,p,K,K',hp,hK,σ,h=>hK _ _ h
 | .label _,p,K,K',hp,hK,σ,h=>hK _ _ h
 | .scope x,p,K,K',hp,hK,σ,h=>qYI hc hL x (0 :: p) (by simp only [qZA,hp,qYC]) hK σ h
 | .ret,p,K,K',hp,hK,σ,h=>hK _ _ h
 | .exit id,p,K,K',hp,hK,σ,h=>hK _ _ h
 | .region id ops d,p,K,K',hp,hK,σ,h=>by
  have h:=preK_eq.symm.trans h;refine Eq.mpr (congrArg (Gets K0 r) (preK_eq (F:=fun σ=>bif d then qYZ C ops 0 ops.toList [] (K' .normal) σ else qVZ C ops ops.toList (K' .normal) σ))) ?_;cases d with
  | true=>exact qXB hc (hK .normal) _ _ _ _ h
  | false=>exact qVQ hc (hK .normal) _ _ h
 | .seq x y,p,K,K',hp,hK,σ,h=>by
  refine qYI hc hL x (0 :: p) (by simp only [qZA,hp,qYC]) (fun e τ hk => ?_) σ h;cases e with
  | normal=>exact qYI hc hL y (1 :: p) (by simp only [qZA,hp,qYC]) hK τ hk
  | _=>exact hK _ _ hk
 | .cond c x y,p,K,K',hp,hK,σ,h=>by
  simp only [zWW,vQQ] at h;obtain ⟨v,hv,h⟩:=h;simp only [runC,hv,vYQ];split at h
  ·rename_i t;cases t with
   | true=>exact qYI hc hL x (0 :: p) (by simp only [qZA,hp,qYC]) hK σ h
   | false=>exact qYI hc hL y (1 :: p) (by simp only [qZA,hp,qYC]) hK σ h
  ·cases h
 | .block id x,p,K,K',hp,hK,σ,h=>by
  refine qYI hc hL x (0 :: p) (by simp only [qZA,hp,qYC]) (fun e τ hk => ?_) σ h;cases e with
  | exit id' =>
   simp only at hk ⊢;cases hb:Nat.beq id' id with
   | true=>rw [hb] at hk; exact hK _ _ hk
   | false=>rw [hb] at hk; exact hK _ _ hk
  | _=>exact hK _ _ hk
 | .loop x,p,K,K',hp,hK,σ,h=>by
  simp only [zWW] at h;simp only [runC];have h':zQY (fun again σ=>qUQ N C cK x (fun e σ=>match e with
     | .normal=>again σ
     | e=>K e (qYX (C.T.hint C.me (yQ x)) σ)) (qYD (C.T.hint C.me (yQ x)) σ)) N σ=some r:=by
   cases hS:LO p with
   | none=>rw [hS] at h; exact h
   | some S =>
    rw [hS] at h
    have:=hL p S hS
    rw [hp] at this;rw [zGE];exact this K _ r h
  refine qUL (fun a a' ha τ hs => ?_) N σ h';refine qZY hc x (fun e υ hk => ?_) _ hs;cases e with
  | normal=>exact ha _ hk
  | _=>exact hK _ _ hk
 | .rangeFunc ..,p,K,K',hp,hK,σ,h=>by cases h
 | .goto _,p,K,K',hp,hK,σ,h=>by cases h
 | .refuse _,p,K,K',hp,hK,σ,h=>by cases h
end
def cxF (T:Tab) (ok:OrK) (N f n:Nat):Cx:=⟨T,qJB ok.orc (runF T ok.orc N),qYE T ok.orc (runF T ok.orc N),f,n⟩
def ckF (T:Tab) (ok:OrK) (N:Nat):qYW:=zJH ok (yUZ T ok N)
def zJD (T:Tab) (f:Nat):Code:=match T.fn f with
 | some fi=>fi.body
 | none=>.skip
def ntmF (T:Tab) (f:Nat):Nat:=match T.fn f with
 | some fi=>fi.ntmps
 | none=>0
def qGJ (T:Tab) (ok:OrK) (LO:List Nat→Option kU) (N f:Nat) (ps:List PV):Option (Ret × Mem):=match T.fn f with
 | none=>none
 | some fi=>bif Nat.ble (ps.map HV.v).length fi.ntmps then zWW N (cxF T ok N f (ntmF T f)) (ckF T ok N) LO (zJD T f) [] (fun e σ=>(endK T [] fi.results e σ).bind fun r=>some (r.1,[])) ⟨initS 0 (ps.map .v),[]⟩ else none
theorem ckF_snd {T:Tab} {ok:OrK} {N f n:Nat}:SndK (cxF T ok N f n) (ckF T ok N):=fun g qs K' r' hk=>by
 unfold ckF zJH at hk;show ∃ x,qJB ok.orc (runF T ok.orc N) g qs=some x∧K' x=some r';unfold qJB;cases ho:ok g with
 | some o =>
  rw [ho] at hk;simp only [vQQ] at hk;obtain ⟨x,hx,hk⟩:=hk;obtain ⟨h1,hk⟩:=qQ hk;exact ⟨x.2,by simp only [OrK.orc,ho,hx,vYQ,h1,vYV],hk⟩
 | none =>
  rw [ho] at hk;obtain ⟨x,M,hx,hk⟩:=zZE N g qs K' r' hk;have e:ok.orc.a g=none:=by simp only [OrK.orc,ho,Option.bind_none]
  exact ⟨x,by simp only [e,hx,vYQ],hk⟩
def qG (T:Tab) (f:Nat) (p:List Nat):Code:=qYC 0 (qZA (zJD T f) p)
theorem kY {P:Program} {T:Tab} {ok:OrK} {LO:List Nat→Option kU} {N f:Nat} {ps:List PV} {r:Ret} (hT:TabOk P T) (hm:P.follows .mixedOrders=true) (hO:ok.Ok P)
  (hL:∀ p S,LO p=some S→LoopOk N (cxF T ok N f (ntmF T f)) (ckF T ok N) (qG T f p) S) (h:qGJ T ok LO N f ps=some (r,[])):zH P f ps r:=by
 refine qWL (N:=N + 1) hT hm hO.orc ?_;unfold qGJ at h;split at h
 ·cases h
 ·rename_i fi hfi;obtain ⟨hb,h⟩:=qQ h;obtain ⟨q,h1,h2⟩:=qYI (K0:=fun q=>some (q.1,[])) (K':=endK T [] fi.results) (B:=zJD T f) ckF_snd hL (zJD T f) [] rfl (fun e σ hk=>by
   simp only [vQQ] at hk;exact hk) _ h
  cases h2;have eb:zJD T f=fi.body:=by unfold zJD; rw [hfi]
  have en:ntmF T f=fi.ntmps:=by unfold ntmF; rw [hfi]
  rw [eb,en] at h1;unfold run;simp only [runF,hfi,hb,vYV];unfold cxF at h1;rw [h1];rfl
noncomputable def gSt (a b:St):Bool:=@decide (a=b) (vYJ _)
theorem kX (a:St):gSt a a=true:=@vJQ _ (vYJ _) rfl
theorem gSt_eq {a b:St} (h:gSt a b=true):a=b:=@vJZ _ (vYJ _) h
noncomputable def kK (s:St) (R:Cont→Option (Ret × Mem)):kU:=fun σ K=>bif gSt σ s then R K else none
theorem qZU {N:Nat} {C:Cx} {cK:qYW} {x:Code} {s:St} {R:Cont→Option (Ret × Mem)} (h:∀ K r,R K=some r→LF N C cK x (C.T.hint C.me (yQ x)) K N s=some r):LoopOk N C cK x (kK s R):=fun K σ r hr=>by
 unfold kK at hr;obtain ⟨hg,hq⟩:=qQ hr;have e:=gSt_eq hg;subst e;exact h K r hq
def zW (l:List (List Nat × kU)) (p:List Nat):Option kU:=match l with
 | []=>none
 | x :: xs=>bif zWL x.1 p then some x.2 else zW xs p
theorem qQQ {N:Nat} {C:Cx} {cK:qYW} {L:List Nat→Code}:∀ {l:List (List Nat × kU)},AllP (fun x:List Nat × kU=>LoopOk N C cK (L x.1) x.2) l→∀ p S,zW l p=some S→LoopOk N C cK (L p) S
 | [],_,p,S,h=>by cases h
 | x :: xs,hl,p,S,h=>by
  simp only [zW] at h;cases hb:zWL x.1 p with
  | true =>
   rw [hb] at h;simp only [vYV,vQZ] at h;subst h
   have:=zUH hb
   subst this;exact hl.1
  | false =>
   rw [hb] at h;exact qQQ hl.2 p S h
end Go.Rx

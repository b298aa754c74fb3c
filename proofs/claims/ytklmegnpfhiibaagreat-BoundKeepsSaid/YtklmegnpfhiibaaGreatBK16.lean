/- Part 16 of the texts behind the last one: rules and contracts. No condition. -/
import Derived.Test.YtklmegnpfhiibaaGreatBK15
open Option renaming bind_eq_some_iff → vQQ, map_eq_some_iff → vZK, bind_some → vZV
open Option.some renaming injEq → vQZ
open Prod.mk renaming injEq → vQY
open Bool renaming and_eq_true → vQJ
open List renaming mem_cons_of_mem → vQV, mem_cons_self → vQG, mem_cons → vZG
open Nat renaming eq_of_beq_eq_true → vQU, le_of_ble_eq_true → vZJ
namespace Go.Rx
open Go.RowKit Go.Sx
def asc {α:Type}:List (Nat × α)→Nat→Option α
 | [],_=>none
 | (k,x) :: l,i=>bif Nat.beq k i then some x else asc l i
theorem qZE {α:Type} {l:List (Nat × α)} {i:Nat} {x:α} (h:asc l i=some x):(i,x) ∈ l:=by
 induction l with
 | nil=>cases h
 | cons y l ih =>
  obtain ⟨k,z⟩:=y;simp only [asc] at h;cases hc:Nat.beq k i with
  | true=>rw [hc] at h; cases h; rw [← vQU hc]; exact vQG
  | false=>rw [hc] at h; exact vQV _ (ih h)
def inL:List Nat→Nat→Bool
 | [],_=>false
 | k :: l,i=>bif Nat.beq k i then true else inL l i
theorem zVY {l:List Nat} {i:Nat} (h:inL l i=true):i ∈ l:=by
 induction l with
 | nil=>cases h
 | cons k l ih =>
  simp only [inL] at h;cases hc:Nat.beq k i with
  | true=>rw [← vQU hc]; exact vQG
  | false=>rw [hc] at h; exact vQV _ (ih h)
structure Tabs where
 sz:List (Nat × (Bool × Nat))
 zr:List (Nat × Value)
 fd:List (Nat × List Nat)
 fx:List (Nat × List (Nat × Bool × Nat))
 ar:List (Nat × (Nat × Nat × Bool))
 sl:List (Nat × (Nat × Nat × Nat))
 ly:List (Nat × List (Nat × Nat))
 ik:List (Nat × IntKind)
 str:List Nat
 bo:List Nat
 eq:List (Nat × List Kd)
 fn:List (Nat × Func)
 hint:List (Nat × List (Nat × Hint))
 rw:List Nat
 ow:List (Nat × List Nat)
 dd:List Nat
 ff:List Nat:=[]
 big:List Nat:=[]
 zf:List Nat:=[]
 ag:List Nat:=[]
 bf:List Nat:=[]
 sf:List Nat:=[]
 nf:List Nat:=[]
 gq:List Nat:=[]
 la:List (Nat × List Nat):=[]
 oa:List Nat:=[]
 gk:List Nat:=[]
 dr:List (Nat × List (Nat × Hint)):=[]
def zVV:Value→Option HV
 | .slice none 0 0=>some .nl
 | v=>(qHF v).bind fun p=>some (.v p)
def FnI.of (fn:Func):FnI:=⟨fn.body.getD .skip,fn.ntmps,fn.results.toList⟩
def Tabs.tab (t:Tabs):Tab where
 sz:=asc t.sz
 zr:=fun i=>(asc t.zr i).bind fun z=>mapO qHF z.cells.toList
 zh:=fun i=>(asc t.zr i).bind fun z=>mapO zVV z.cells.toList
 fd:=fun i f=>(asc t.fd i).bind fun l=>l[f]?
 fx:=fun i f=>(asc t.fx i).bind fun l=>l[f]?
 ar:=asc t.ar
 sl:=fun i=>(asc t.sl i).bind fun x=>some (x.1,x.2.1)
 ly:=asc t.ly
 ik:=asc t.ik
 str:=inL t.str
 bo:=inL t.bo
 eqK:=asc t.eq
 fn:=fun i=>(asc t.fn i).bind fun f=>some (FnI.of f)
 hint:=fun f r=>match (asc t.hint f).bind fun l=>asc l r with | some h=>h | none=>{}
 rw:=inL t.rw
 ownR:=fun f d=>match asc t.ow f with | some l=>inL l d | none=>false
 dd:=inL t.dd
 ff:=inL t.ff
 zf:=inL t.zf
 agf:=inL t.ag
 bf:=inL t.bf
 sf:=inL t.sf
 nf:=inL t.nf
 gq:=inL t.gq
 gk:=inL t.gk
 la:=fun f d=>match asc t.la f with | some l=>inL l d | none=>false
 oa:=inL t.oa
 dr:=fun f r=>(asc t.dr f).bind fun l=>asc l r
 bd:=fun e=>bif inL t.big e then 17592186044416 else 1000000
def allI {α:Type} (p:Nat→α→Bool):Nat→List α→Bool
 | _,[]=>true
 | i,x :: l=>p i x && allI p (i + 1) l
theorem zUV {α:Type} {p:Nat→α→Bool}:∀ {l:List α} {k:Nat},allI p k l=true→∀ {i:Nat} {x:α},l[i]? = some x→p (k + i) x=true
 | [],_,_,i,x,hx=>by simp at hx
 | y :: l,k,h,i,x,hx=>by
  simp only [allI,vQJ] at h;cases i with
  | zero=>simp at hx; subst hx; exact h.1
  | succ i =>
   have:=zUV h.2 (i:=i) (x:=x) (by simpa using hx)
   rw [show k + (i + 1)=k + 1 + i by omega]; exact this
def fxB (P:Program) (t:Nat) (f:Nat) (x:Nat × Bool × Nat):Bool :=
 match P.underlying t with
 | some (.struct fields)=>match fields[f]? with
  | some fld=>fld.offset == x.1 && tyB P fld.type x.2.1 x.2.2 && (x.2.1 || Nat.beq x.2.2 1)
  | none=>false
 | _=>false
def arX (P:Program) (t:Nat) (x:Nat × Nat × Bool):Bool :=
 arrB P t x.1 x.2.1 && match P.underlying t with
 | some (.array n e)=>n == x.1 && tyB P e x.2.2 x.2.1 && (x.2.2 || Nat.beq x.2.1 1)
 | _=>false
def KV1:Kd→Value→Prop
 | .i k,v=>∃ x,v=.int k x
 | .b,v=>∃ x,v=.bool x
 | .s,v=>∃ x,v=.string x
def KV:List Kd→List Value→Prop
 | [],vs=>vs=[]
 | k :: ks,vs=>∃ v us,vs=v :: us∧KV1 k v∧KV ks us
def AllP {α:Type} (p:α→Prop):List α→Prop
 | []=>True
 | x :: l=>p x∧AllP p l
theorem AllP.of {α:Type} {p:α→Prop}:∀ {l:List α},AllP p l→∀ {x},x ∈ l→p x
 | [],_,x,hx=>by simp at hx
 | y :: l,h,x,hx=>by
  rcases List.mem_cons.1 hx with rfl | hx
  ·exact h.1
  ·exact h.2.of hx
theorem kv_of:∀ {ks:List Kd} {ps:List PV} {vs:List Value} {F:Nat→Prop} {w:World},qVJ ks ps=true→Al (RP F w) ps vs→KV ks vs
 | [],[],vs,_,_,_,h=>h.nil_left
 | k :: ks,p :: ps,vs,F,w,hk,h=>by
  simp only [qVJ,vQJ] at hk;obtain ⟨v,us,rfl,hv,hu⟩:=h.cons_left;refine ⟨v,us,rfl,?_,kv_of hk.2 hu⟩
  have:=hk.1
  unfold kdIs at this;split at this
  ·rename_i k1 k2 x;have e:k1=k2:=by simpa using this
   subst e;cases hv; exact ⟨_,rfl⟩
  ·cases hv; exact ⟨_,rfl⟩
  ·cases hv; exact ⟨_,rfl⟩
  ·cases this
 | [],_ :: _,_,_,_,h,_=>by simp [qVJ] at h
 | _ :: _,[],_,_,_,h,_=>by simp [qVJ] at h
structure Tabs.Ok (P:Program) (t:Tabs):Prop where
 sz:t.sz.all (fun x=>tyB P x.1 x.2.1 x.2.2 && (x.2.1 || Nat.beq x.2.2 1))=true
 zr:t.zr.map (fun x=>(P.info? x.1).bind (·.zero))=t.zr.map (fun x=>some x.2)
 fd:t.fd.all (fun x=>allI (fun f o=>zXA P x.1 f o) 0 x.2)=true
 fx:t.fx.all (fun x=>allI (fxB P x.1) 0 x.2)=true
 ar:t.ar.all (fun x=>arX P x.1 x.2)=true
 sl:t.sl.all (fun x=>slcB P x.1 x.2.1 x.2.2.1 && Nat.blt 0 x.2.2.1 && Nat.ble x.2.2.1 1000 && appB P x.1 x.2.1 x.2.2.1 x.2.2.2 && Nat.ble x.2.2.2 100000 && (Nat.ble x.2.2.2 8 || !inL t.big x.2.1))=true
 ly:t.ly.map (fun x=>(qXG P x.1).map (·.2))=t.ly.map (fun x=>some x.2)
 ik:t.ik.map (fun x=>P.underlying x.1)=t.ik.map (fun x=>some (.int x.2))
 str:t.str.map (fun x=>P.underlying x)=t.str.map (fun _=>some .string)
 bo:t.bo.map (fun x=>P.underlying x)=t.bo.map (fun _=>some .bool)
 eq:AllP (fun x:Nat × List Kd=>aggB P x.1=true∧∀ vs,KV x.2 vs→qZG P 12 x.1 vs=true) t.eq
 fn:AllP (fun x:Nat × Func=>P.funcs[x.1]? = some x.2) t.fn
 fn2:t.fn.all (fun x => !(x.2.name == "runtime.NumGoroutine") && !x.2.body.isNone)=true
 dd:∀ f ∈ t.dd,kJ P f∧∀ (args:Array Value) (w:World),CallsD P f args .returning w fun e u w'=>(∃ v,e=.returned v)∧u=.returning∧w'=w
theorem zQK {α β:Type} {f g:α→β} {l:List α} (h:l.map f=l.map g) {x:α} (hx:x ∈ l):f x=g x:=by
 induction l with
 | nil=>simp at hx
 | cons y l ih =>
  simp only [List.map_cons,List.cons.injEq] at h;rcases List.mem_cons.1 hx with rfl | hx
  ·exact h.1
  ·exact ih h.2 hx
theorem Tabs.ok {P:Program} {t:Tabs} (h:t.Ok P):TabOk P t.tab where
 sz:=fun i b k hi=>by
  have:=List.all_eq_true.1 h.sz _ (qZE hi)
  simp only [vQJ,Bool.or_eq_true] at this;refine ⟨this.1,fun hb => ?_⟩;rcases this.2 with h1 | h1
  ·rw [hb] at h1; cases h1
  ·exact vQU h1
 zr:=fun i ps hi=>by
  simp only [Tabs.tab,vQQ] at hi;obtain ⟨z,hz,hps⟩:=hi
  have:=zQK h.zr (qZE hz)
  refine ⟨z,this,?_⟩;have h1:=yJ hps;exact ⟨h1.1.symm,fun j p v hp hv=>⟨fun F w=>(qQX (F:=F) (w:=w) (h1.2 j v p hv hp)).1,(qQX (F:=fun _=>False) (w:=default) (h1.2 j v p hv hp)).2⟩⟩
 zh:=fun i hs hi=>by
  simp only [Tabs.tab,vQQ] at hi;obtain ⟨z,hz,hps⟩:=hi
  have:=zQK h.zr (qZE hz)
  refine ⟨z,this,?_⟩;have h1:=yJ hps;refine ⟨h1.1.symm,fun j p v hp hv => ?_⟩;have h2:zVV v=some p:=h1.2 j v p hv hp;unfold zVV at h2;split at h2
  ·cases h2; exact ⟨fun _ _ _=>rfl,rfl⟩
  ·simp only [vQQ,vQZ] at h2;obtain ⟨q,hq,rfl⟩:=h2;exact ⟨fun ρ F w=>(qQX (F:=F) (w:=w) hq).1,(qQX (F:=fun _=>False) (w:=default) hq).2⟩
 fd:=fun i f o hi=>by
  simp only [Tabs.tab,vQQ] at hi;obtain ⟨l,hl,ho⟩:=hi
  have:=zUV (List.all_eq_true.1 h.fd _ (qZE hl)) ho
  simpa using this
 fx:=fun i f o b k hi=>by
  simp only [Tabs.tab,vQQ] at hi;obtain ⟨l,hl,ho⟩:=hi
  have:=zUV (List.all_eq_true.1 h.fx _ (qZE hl)) ho
  rw [Nat.zero_add] at this;unfold fxB at this;split at this
  ·rename_i fields hu;split at this
   ·rename_i fld hf;simp only [vQJ,Bool.or_eq_true] at this;refine ⟨fields,fld,hu,hf,by simpa using this.1.1,this.1.2,fun hb => ?_⟩;rcases this.2 with h1 | h1
    ·rw [hb] at h1; cases h1
    ·exact vQU h1
   ·cases this
  ·cases this
 ar:=fun i n k b hi=>by
  have:=List.all_eq_true.1 h.ar _ (qZE hi)
  simp only [arX,vQJ] at this;refine ⟨this.1,?_⟩;have h2:=this.2;split at h2
  ·rename_i m e hu;simp only [vQJ,Bool.or_eq_true] at h2;have hm:m=n:=by simpa using h2.1.1
   subst hm;refine ⟨e,hu,h2.1.2,fun hb => ?_⟩;rcases h2.2 with h1 | h1
   ·rw [hb] at h1; cases h1
   ·exact vQU h1
  ·cases h2
 sl:=fun i e k hi=>by
  simp only [Tabs.tab,vQQ,vQZ,vQY] at hi;obtain ⟨x,hx,rfl,rfl⟩:=hi
  have:=List.all_eq_true.1 h.sl _ (qZE hx)
  simp only [vQJ,Bool.or_eq_true,Bool.not_eq_true'] at this;have hb:=vZJ this.1.2;refine ⟨this.1.1.1.1.1,by simpa [Nat.blt_eq] using this.1.1.1.1.2,vZJ this.1.1.1.2,x.2.2,this.1.1.2,hb,?_⟩;show (bif inL t.big x.1 then 17592186044416 else 1000000) * x.2.2≤140737488355328∧(bif inL t.big x.1 then 17592186044416 else 1000000)≤17592186044416;cases hL:inL t.big x.1 with
  | false =>
   refine ⟨?_,by decide⟩;rw [vYY];omega
  | true =>
   refine ⟨?_,by decide⟩;rcases this.2 with h1 | h1
   ·have:=vZJ h1
    rw [vYZ];omega
   ·rw [hL] at h1; cases h1
 ly:=fun i pl hi=>by
  have:=zQK h.ly (qZE hi)
  simp only [vZK] at this;obtain ⟨⟨z,pl'⟩,hz,rfl⟩:=this;refine ⟨z,hz,fun ps hps => ?_⟩;simp only [Tabs.tab,vQQ] at hps;obtain ⟨z',hz',hps⟩:=hps;have h0:(P.info? i).bind (·.zero)=some z':=zQK h.zr (qZE hz');have e:z=z'.cells.toList:=by
   unfold qXG at hz;split at hz
   ·rename_i it n e hi _;rw [hi] at h0;simp only [vZV] at h0;rw [h0] at hz;split at hz
    ·rename_i h1 _; cases h1; cases hz; rfl
    ·cases hz
   ·rename_i it fields hi _;rw [hi] at h0;simp only [vZV] at h0;rw [h0] at hz;split at hz
    ·rename_i h1 _; cases h1; cases hz; rfl
    ·cases hz
   ·cases hz
  subst e;have h1:=yJ hps;exact ⟨h1.1.symm,fun j p v hp hv=>⟨fun F w=>(qQX (F:=F) (w:=w) (h1.2 j v p hv hp)).1,(qQX (F:=fun _=>False) (w:=default) (h1.2 j v p hv hp)).2⟩⟩
 ik:=fun i k hi=>zQK h.ik (qZE hi)
 str:=fun i hi=>zQK h.str (zVY hi)
 bo:=fun i hi=>zQK h.bo (zVY hi)
 eqK:=fun i ks hi=>by
  have:=h.eq.of (qZE hi)
  exact ⟨this.1,fun vs ⟨ps,F,w,hk,hal⟩=>this.2 vs (kv_of hk hal)⟩
 dd:=fun f hf=>h.dd f (zVY hf)
 fn:=fun f fi hi=>by
  simp only [Tabs.tab,vQQ,vQZ] at hi;obtain ⟨fn,hfn,rfl⟩:=hi;have h1:=h.fn.of (qZE hfn);have h2:=List.all_eq_true.1 h.fn2 _ (qZE hfn);simp only [vQJ,Bool.not_eq_true'] at h2;simp only at h1 h2;refine ⟨kQ h1 h2.1 h2.2,fn,h1,?_,rfl,by simp [FnI.of]⟩;cases hb:fn.body with
  | none=>rw [hb] at h2; simp at h2
  | some b=>simp [FnI.of,hb]
end Go.Rx
namespace Go.Rx
open Go.Sx
variable {P:Program}
theorem nil_neq {t:TypeId} {ms:Array (String × TypeId)} {w:World} (hu:P.underlying t=some (.interface ms)):(binOp .neq t .nilIface .nilIface).run P w=.ok (.bool false) w:=by
 have h:(Op.equal t .nilIface .nilIface).run P w=.ok true w:=by
  unfold Op.equal;rw [show Op.maxDepth=9999 + 1 from rfl,Op.equalIn];simp [run_underlying hu]
 simp [binOp,go_sem,h]
theorem zXB {f:FuncId} {fn:Func} {x:Code} {i j:Nat} {t t':TypeId} {p p':String} {ed:Array Edge} (hf:P.funcs[f]? = some fn)
  (hb:fn.body=some (.seq (.region 0 #[⟨some i,.call ⟨.builtin .recover,#[],#[]⟩,t,p,#[],none⟩,⟨some j,.binOp .neq t (.tmp i) (.const .nilIface) t,t',p',ed,none⟩] false) (.cond (.tmp j) x .skip)))
  (hr:fn.results=#[]) (hi:i < fn.ntmps) (hj:j < fn.ntmps) (hij:i ≠ j) {ms:Array (String × TypeId)} (hT:P.underlying t=some (.interface ms)) (args:Array Value) (w:World) :
  CallsD P f args .returning w fun e u w'=>(∃ v,e=.returned v)∧u=.returning∧w'=w:=by
 refine callsD_of_wpS hf hb fun c₀ cs hu => ?_
 have hs:(args ++ Array.replicate (fn.ntmps - args.size) undef).size ≥ fn.ntmps:=by simp; omega
 generalize args ++ Array.replicate (fn.ntmps - args.size) undef=T at hs;apply wpS_seq;apply wpS_region;have hi':i < T.size:=by omega
 have hj':j < T.size:=by omega
 simp [wpOpsS,go_sem,recoverD,hu,Exit.thenS,hi',nil_neq hT];refine wpS_cond (t:=false) (by simp [Act.eval,hj',hij]) ?_;refine wpS_of_wp (wp_skip ?_);obtain ⟨⟩:=c₀;subst hu;simp [bodyPostS,results,hr,go_sem]
end Go.Rx
namespace Go.Proofs.YtklmegnpfhiibaaGreat.Rt
open Go.Rx Go.Sx
noncomputable def tabs:Tabs where
 sz:=[(1,false,1),
  (2,false,1),
  (3,false,1),
  (4,false,1),
  (5,false,1),
  (6,false,1),
  (7,true,4),
  (8,true,4),
  (9,false,1),
  (10,false,1),
  (11,false,1),
  (12,false,1),
  (13,true,2),
  (14,true,2),
  (15,false,1),
  (16,false,1),
  (17,false,1),
  (18,true,1),
  (19,true,1),
  (20,false,1),
  (21,false,1),
  (22,false,1),
  (23,false,1),
  (24,true,2),
  (25,true,2),
  (26,false,1),
  (27,false,1),
  (28,true,2),
  (29,true,2),
  (30,false,1),
  (31,false,1),
  (32,false,1),
  (33,false,1),
  (34,false,1),
  (35,false,1),
  (37,false,1),
  (38,false,1),
  (39,false,1),
  (40,false,1),
  (41,false,1),
  (42,false,1),
  (43,false,1),
  (44,true,2),
  (45,true,2),
  (47,false,1),
  (49,false,1),
  (50,false,1),
  (51,false,1),
  (52,false,1),
  (53,false,1),
  (54,true,3),
  (55,true,3),
  (56,true,3),
  (57,true,3),
  (58,true,8),
  (59,true,8),
  (60,true,12),
  (61,true,12),
  (63,false,1),
  (65,false,1),
  (66,false,1),
  (67,false,1),
  (68,false,1),
  (69,false,1),
  (70,false,1),
  (71,false,1),
  (72,false,1),
  (73,false,1),
  (74,false,1),
  (75,false,1),
  (76,false,1),
  (77,true,3),
  (78,true,3),
  (79,true,12),
  (80,true,12),
  (81,false,1),
  (82,false,1),
  (83,false,1),
  (84,false,1),
  (85,false,1),
  (86,false,1),
  (87,true,2),
  (88,true,2),
  (89,false,1),
  (90,false,1),
  (92,false,1),
  (93,false,1),
  (94,false,1),
  (95,false,1),
  (96,false,1),
  (97,true,5),
  (98,true,5),
  (99,true,2),
  (100,true,2),
  (101,false,1),
  (102,false,1),
  (103,false,1),
  (104,false,1),
  (105,false,1),
  (106,false,1),
  (107,false,1),
  (108,false,1),
  (109,false,1),
  (110,false,1),
  (111,false,1),
  (112,false,1),
  (113,false,1),
  (114,false,1),
  (115,true,2),
  (116,false,1),
  (117,false,1),
  (118,false,1),
  (119,false,1),
  (120,false,1),
  (121,false,1),
  (122,false,1),
  (123,false,1),
  (124,false,1),
  (125,false,1),
  (126,false,1),
  (127,false,1),
  (128,false,1),
  (129,true,8),
  (130,false,1),
  (131,false,1),
  (132,false,1),
  (133,false,1),
  (134,false,1),
  (135,false,1),
  (136,false,1),
  (137,false,1),
  (138,false,1),
  (139,false,1),
  (140,false,1),
  (142,true,10),
  (143,false,1),
  (144,false,1),
  (145,false,1),
  (146,false,1),
  (147,false,1),
  (148,false,1),
  (149,false,1),
  (150,false,1),
  (151,false,1),
  (152,true,2),
  (153,true,2),
  (154,true,3),
  (155,true,3),
  (156,false,1),
  (157,false,1),
  (158,false,1),
  (159,false,1),
  (160,true,2),
  (161,true,2),
  (162,false,1),
  (163,false,1),
  (164,false,1),
  (165,false,1),
  (171,false,1)]
 zr:=[(1,.nilFunc),
  (2,.int .i64 0),
  (3,.int .i64 0),
  (4,.bool false),
  (5,.int .u8 0),
  (6,.int .u8 0),
  (7,.agg #[.int .i64 0,.int .i64 0,.bool false,.int .u8 0]),
  (8,.agg #[.int .i64 0,.int .i64 0,.bool false,.int .u8 0]),
  (9,.string ByteArray.empty),
  (10,.string ByteArray.empty),
  (11,.string ByteArray.empty),
  (12,.int .u64 0),
  (13,.agg #[.string ByteArray.empty,.int .u64 0]),
  (14,.agg #[.string ByteArray.empty,.int .u64 0]),
  (15,.pointer none),
  (16,.pointer none),
  (17,.pointer none),
  (18,.agg #[.pointer none]),
  (19,.agg #[.pointer none]),
  (20,.nilIface),
  (21,.int .i32 0),
  (22,.slice none 0 0),
  (23,.slice none 0 0),
  (24,.agg #[.slice none 0 0,.slice none 0 0]),
  (25,.agg #[.slice none 0 0,.slice none 0 0]),
  (26,.slice none 0 0),
  (27,.slice none 0 0),
  (28,.agg #[.slice none 0 0,.slice none 0 0]),
  (29,.agg #[.slice none 0 0,.slice none 0 0]),
  (30,.slice none 0 0),
  (31,.slice none 0 0),
  (32,.nilFunc),
  (33,.nilFunc),
  (34,.nilFunc),
  (35,.nilFunc),
  (37,.nilFunc),
  (38,.nilFunc),
  (39,.nilFunc),
  (40,.nilFunc),
  (41,.nilFunc),
  (42,.nilFunc),
  (43,.nilFunc),
  (44,.agg #[.slice none 0 0,.int .i64 0]),
  (45,.agg #[.slice none 0 0,.int .i64 0]),
  (47,.nilFunc),
  (49,.nilFunc),
  (50,.nilFunc),
  (51,.nilFunc),
  (52,.slice none 0 0),
  (53,.slice none 0 0),
  (54,.agg #[.int .i64 0,.int .i64 0,.slice none 0 0]),
  (55,.agg #[.int .i64 0,.int .i64 0,.slice none 0 0]),
  (56,.agg #[.int .i64 0,.slice none 0 0,.slice none 0 0]),
  (57,.agg #[.int .i64 0,.slice none 0 0,.slice none 0 0]),
  (58,.agg #[.int .i64 0,.slice none 0 0,.int .i64 0,.int .i64 0,.slice none 0 0,.int .i64 0,.slice none 0 0,.slice none 0 0]),
  (59,.agg #[.int .i64 0,.slice none 0 0,.int .i64 0,.int .i64 0,.slice none 0 0,.int .i64 0,.slice none 0 0,.slice none 0 0]),
  (60,.agg #[.int .i64 0,.int .i64 0,.int .i64 0,.int .i64 0,.int .i64 0,.slice none 0 0,.int .i64 0,.int .i64 0,.slice none 0 0,.int .i64 0,.slice none 0 0,.slice none 0 0]),
  (61,.agg #[.int .i64 0,.int .i64 0,.int .i64 0,.int .i64 0,.int .i64 0,.slice none 0 0,.int .i64 0,.int .i64 0,.slice none 0 0,.int .i64 0,.slice none 0 0,.slice none 0 0]),
  (63,.nilFunc),
  (65,.nilFunc),
  (66,.nilFunc),
  (67,.nilFunc),
  (68,.pointer none),
  (69,.nilFunc),
  (70,.nilFunc),
  (71,.nilFunc),
  (72,.nilFunc),
  (73,.nilFunc),
  (74,.int .i64 0),
  (75,.nilFunc),
  (76,.nilFunc),
  (77,.agg #[.int .i64 0,.int .i64 0,.int .i64 0]),
  (78,.agg #[.int .i64 0,.int .i64 0,.int .i64 0]),
  (79,.agg #[.string ByteArray.empty,.int .i64 0,.int .i64 0,.int .i64 0,.int .i64 0,.int .i64 0,.int .i64 0,.int .i64 0,.int .i64 0,.int .i64 0,.int .i64 0,.int .i64 0]),
  (80,.agg #[.string ByteArray.empty,.int .i64 0,.int .i64 0,.int .i64 0,.int .i64 0,.int .i64 0,.int .i64 0,.int .i64 0,.int .i64 0,.int .i64 0,.int .i64 0,.int .i64 0]),
  (81,.nilFunc),
  (82,.nilFunc),
  (83,.nilFunc),
  (84,.nilFunc),
  (85,.slice none 0 0),
  (86,.nilFunc),
  (87,.agg #[.int .i64 0,.int .i64 0]),
  (88,.agg #[.int .i64 0,.int .i64 0]),
  (89,.nilFunc),
  (90,.nilFunc),
  (92,.nilFunc),
  (93,.nilFunc),
  (94,.nilFunc),
  (95,.nilFunc),
  (96,.nilFunc),
  (97,.agg #[.int .i64 0,.int .i64 0,.int .i64 0,.int .i64 0,.int .i64 0]),
  (98,.agg #[.int .i64 0,.int .i64 0,.int .i64 0,.int .i64 0,.int .i64 0]),
  (99,.agg #[.slice none 0 0,.int .i64 0]),
  (100,.agg #[.slice none 0 0,.int .i64 0]),
  (101,.nilFunc),
  (102,.nilFunc),
  (103,.nilFunc),
  (104,.nilFunc),
  (105,.nilFunc),
  (106,.nilFunc),
  (107,.nilFunc),
  (108,.nilFunc),
  (109,.nilFunc),
  (110,.nilFunc),
  (111,.nilFunc),
  (112,.nilFunc),
  (113,.nilFunc),
  (114,.nilFunc),
  (115,.agg #[.int .i64 0,.int .i64 0]),
  (116,.slice none 0 0),
  (117,.nilFunc),
  (118,.nilFunc),
  (119,.nilFunc),
  (120,.nilFunc),
  (121,.nilFunc),
  (122,.nilFunc),
  (123,.nilFunc),
  (124,.nilFunc),
  (125,.slice none 0 0),
  (126,.nilFunc),
  (127,.pointer none),
  (128,.nilFunc),
  (129,.agg #[.int .i64 0,.int .i64 0,.int .i64 0,.int .i64 0,.int .i64 0,.int .i64 0,.int .i64 0,.int .i64 0]),
  (130,.nilFunc),
  (131,.nilFunc),
  (132,.nilFunc),
  (133,.nilFunc),
  (134,.nilFunc),
  (135,.nilFunc),
  (136,.nilFunc),
  (137,.nilFunc),
  (138,.nilFunc),
  (139,.nilFunc),
  (140,.nilFunc),
  (142,.agg #[.int .i64 0,.int .i64 0,.int .i64 0,.int .i64 0,.int .i64 0,.int .i64 0,.int .i64 0,.int .i64 0,.int .i64 0,.int .i64 0]),
  (143,.nilFunc),
  (144,.nilFunc),
  (145,.nilFunc),
  (146,.nilFunc),
  (147,.nilFunc),
  (148,.nilFunc),
  (149,.nilFunc),
  (150,.nilFunc),
  (151,.slice none 0 0),
  (152,.agg #[.int .i64 0,.int .i64 0]),
  (153,.agg #[.int .i64 0,.int .i64 0]),
  (154,.agg #[.int .i64 0,.int .i64 0,.int .i64 0]),
  (155,.agg #[.int .i64 0,.int .i64 0,.int .i64 0]),
  (156,.slice none 0 0),
  (157,.slice none 0 0),
  (158,.nilFunc),
  (159,.slice none 0 0),
  (160,.agg #[.int .i64 0,.int .i64 0]),
  (161,.agg #[.int .i64 0,.int .i64 0]),
  (162,.nilFunc),
  (163,.nilFunc),
  (164,.nilFunc),
  (165,.nilFunc),
  (171,.pointer none)]
 fd:=[(7,[0,1,2,3]),
  (8,[0,1,2,3]),
  (13,[0,1]),
  (14,[0,1]),
  (18,[0]),
  (19,[0]),
  (24,[0,1]),
  (25,[0,1]),
  (28,[0,1]),
  (29,[0,1]),
  (44,[0,1]),
  (45,[0,1]),
  (54,[0,1,2]),
  (55,[0,1,2]),
  (56,[0,1,2]),
  (57,[0,1,2]),
  (58,[0,1,2,5]),
  (59,[0,1,2,5]),
  (60,[0,1,2,3,4]),
  (61,[0,1,2,3,4]),
  (79,[0,1,2,3,6,7,8,9,10,11]),
  (80,[0,1,2,3,6,7,8,9,10,11]),
  (87,[0,1]),
  (88,[0,1]),
  (97,[0,1,2]),
  (98,[0,1,2]),
  (99,[0,1]),
  (100,[0,1]),
  (152,[0,1]),
  (153,[0,1]),
  (154,[0,2]),
  (155,[0,2]),
  (160,[0,1]),
  (161,[0,1])]
 fx:=[(7,[(0,false,1),(1,false,1),(2,false,1),(3,false,1)]),
  (8,[(0,false,1),(1,false,1),(2,false,1),(3,false,1)]),
  (13,[(0,false,1),(1,false,1)]),
  (14,[(0,false,1),(1,false,1)]),
  (18,[(0,false,1)]),
  (19,[(0,false,1)]),
  (24,[(0,false,1),(1,false,1)]),
  (25,[(0,false,1),(1,false,1)]),
  (28,[(0,false,1),(1,false,1)]),
  (29,[(0,false,1),(1,false,1)]),
  (44,[(0,false,1),(1,false,1)]),
  (45,[(0,false,1),(1,false,1)]),
  (54,[(0,false,1),(1,false,1),(2,false,1)]),
  (55,[(0,false,1),(1,false,1),(2,false,1)]),
  (56,[(0,false,1),(1,false,1),(2,false,1)]),
  (57,[(0,false,1),(1,false,1),(2,false,1)]),
  (58,[(0,false,1),(1,false,1),(2,true,3),(5,true,3)]),
  (59,[(0,false,1),(1,false,1),(2,true,3),(5,true,3)]),
  (60,[(0,false,1),(1,false,1),(2,false,1),(3,false,1),(4,true,8)]),
  (61,[(0,false,1),(1,false,1),(2,false,1),(3,false,1),(4,true,8)]),
  (79,[(0,false,1),(1,false,1),(2,false,1),(3,true,3),(6,false,1),(7,false,1),(8,false,1),(9,false,1),(10,false,1),(11,false,1)]),
  (80,[(0,false,1),(1,false,1),(2,false,1),(3,true,3),(6,false,1),(7,false,1),(8,false,1),(9,false,1),(10,false,1),(11,false,1)]),
  (87,[(0,false,1),(1,false,1)]),
  (88,[(0,false,1),(1,false,1)]),
  (97,[(0,false,1),(1,false,1),(2,true,3)]),
  (98,[(0,false,1),(1,false,1),(2,true,3)]),
  (99,[(0,false,1),(1,false,1)]),
  (100,[(0,false,1),(1,false,1)]),
  (152,[(0,false,1),(1,false,1)]),
  (153,[(0,false,1),(1,false,1)]),
  (154,[(0,true,2),(2,false,1)]),
  (155,[(0,true,2),(2,false,1)]),
  (160,[(0,false,1),(1,false,1)]),
  (161,[(0,false,1),(1,false,1)])]
 ar:=[(77,3,1,false),
  (78,3,1,false),
  (115,2,1,false),
  (129,8,1,false),
  (142,10,1,false)]
 sl:=[(22,80,12,104),
  (23,98,5,40),
  (26,30,1,24),
  (27,61,12,160),
  (30,2,1,8),
  (31,3,1,8),
  (52,55,3,40),
  (53,78,3,24),
  (85,88,2,16),
  (116,115,2,16),
  (125,159,1,24),
  (151,153,2,16),
  (156,155,3,24),
  (157,155,3,24),
  (159,161,2,16)]
 ly:=[(7,[(0,1),(1,1),(2,1),(3,1)]),
  (8,[(0,1),(1,1),(2,1),(3,1)]),
  (13,[(0,1),(1,1)]),
  (14,[(0,1),(1,1)]),
  (18,[(0,1)]),
  (19,[(0,1)]),
  (24,[(0,1),(1,1)]),
  (25,[(0,1),(1,1)]),
  (28,[(0,1),(1,1)]),
  (29,[(0,1),(1,1)]),
  (44,[(0,1),(1,1)]),
  (45,[(0,1),(1,1)]),
  (54,[(0,1),(1,1),(2,1)]),
  (55,[(0,1),(1,1),(2,1)]),
  (56,[(0,1),(1,1),(2,1)]),
  (57,[(0,1),(1,1),(2,1)]),
  (58,[(0,1),(1,1),(2,3),(5,3)]),
  (59,[(0,1),(1,1),(2,3),(5,3)]),
  (60,[(0,1),(1,1),(2,1),(3,1),(4,8)]),
  (61,[(0,1),(1,1),(2,1),(3,1),(4,8)]),
  (77,[(0,1),(1,1),(2,1)]),
  (78,[(0,1),(1,1),(2,1)]),
  (79,[(0,1),(1,1),(2,1),(3,3),(6,1),(7,1),(8,1),(9,1),(10,1),(11,1)]),
  (80,[(0,1),(1,1),(2,1),(3,3),(6,1),(7,1),(8,1),(9,1),(10,1),(11,1)]),
  (87,[(0,1),(1,1)]),
  (88,[(0,1),(1,1)]),
  (97,[(0,1),(1,1),(2,3)]),
  (98,[(0,1),(1,1),(2,3)]),
  (99,[(0,1),(1,1)]),
  (100,[(0,1),(1,1)]),
  (115,[(0,1),(1,1)]),
  (129,[(0,1),(1,1),(2,1),(3,1),(4,1),(5,1),(6,1),(7,1)]),
  (142,[(0,1),(1,1),(2,1),(3,1),(4,1),(5,1),(6,1),(7,1),(8,1),(9,1)]),
  (152,[(0,1),(1,1)]),
  (153,[(0,1),(1,1)]),
  (154,[(0,2),(2,1)]),
  (155,[(0,2),(2,1)]),
  (160,[(0,1),(1,1)]),
  (161,[(0,1),(1,1)])]
 ik:=[(2,.i64),
  (3,.i64),
  (5,.u8),
  (6,.u8),
  (12,.u64),
  (21,.i32),
  (74,.i64)]
 str:=[9,
  10,
  11]
 bo:=[4]
 eq:=[(78,[.i .i64,.i .i64,.i .i64]),
  (153,[.i .i64,.i .i64])]
 fn:=[(3,Tryz.f3),
  (4,Tryz.f4),
  (5,Tryz.f5),
  (6,Tryz.f6),
  (7,Tryz.f7),
  (8,Tryz.f8),
  (9,Tryz.f9),
  (10,Tryz.f10),
  (11,Tryz.f11),
  (12,Tryz.f12),
  (13,Tryz.f13),
  (14,Tryz.f14),
  (15,Tryz.f15),
  (16,Tryz.f16),
  (17,Tryz.f17),
  (18,Tryz.f18),
  (19,Tryz.f19),
  (20,Tryz.f20),
  (21,Tryz.f21),
  (22,Tryz.f22),
  (23,Tryz.f23),
  (24,Tryz.f24),
  (25,Tryz.f25),
  (26,Tryz.f26),
  (27,Tryz.f27),
  (28,Tryz.f28),
  (29,Tryz.f29),
  (30,Tryz.f30),
  (31,Tryz.f31),
  (32,Tryz.f32),
  (33,Tryz.f33),
  (34,Tryz.f34),
  (35,Tryz.f35),
  (36,Tryz.f36),
  (37,Tryz.f37),
  (38,Tryz.f38),
  (39,Tryz.f39),
  (40,Tryz.f40),
  (41,Tryz.f41),
  (42,Tryz.f42),
  (43,Tryz.f43),
  (44,Tryz.f44),
  (45,Tryz.f45),
  (46,Tryz.f46),
  (47,Tryz.f47),
  (48,Tryz.f48),
  (49,Tryz.f49),
  (50,Tryz.f50),
  (51,Tryz.f51),
  (52,Tryz.f52),
  (53,Tryz.f53),
  (54,Tryz.f54),
  (55,Tryz.f55),
  (56,Tryz.f56),
  (57,Tryz.f57),
  (58,Tryz.f58),
  (59,Tryz.f59),
  (60,Tryz.f60),
  (61,Tryz.f61),
  (62,Tryz.f62),
  (63,Tryz.f63),
  (64,Tryz.f64),
  (65,Tryz.f65),
  (66,Tryz.f66),
  (67,Tryz.f67),
  (68,Tryz.f68),
  (69,Tryz.f69),
  (70,Tryz.f70),
  (71,Tryz.f71),
  (72,Tryz.f72),
  (73,Tryz.f73),
  (74,Tryz.f74),
  (75,Tryz.f75),
  (76,Tryz.f76),
  (77,Tryz.f77),
  (78,Tryz.f78),
  (79,Tryz.f79),
  (80,Tryz.f80),
  (81,Tryz.f81),
  (82,Tryz.f82),
  (83,Tryz.f83),
  (84,Tryz.f84),
  (85,Tryz.f85),
  (86,Tryz.f86),
  (87,Tryz.f87),
  (88,Tryz.f88),
  (89,Tryz.f89),
  (90,Tryz.f90),
  (91,Tryz.f91),
  (92,Tryz.f92),
  (93,Tryz.f93),
  (94,Tryz.f94),
  (95,Tryz.f95),
  (96,Tryz.f96),
  (97,Tryz.f97),
  (98,Tryz.f98),
  (99,Tryz.f99),
  (100,Tryz.f100),
  (101,Tryz.f101),
  (102,Tryz.f102),
  (103,Tryz.f103),
  (104,Tryz.f104),
  (105,Tryz.f105),
  (106,Tryz.f106),
  (107,Tryz.f107),
  (108,Tryz.f108),
  (109,Tryz.f109),
  (110,Tryz.f110),
  (111,Tryz.f111),
  (112,Tryz.f112),
  (113,Tryz.f113),
  (114,Tryz.f114),
  (115,Tryz.f115),
  (116,Tryz.f116),
  (117,Tryz.f117),
  (118,Tryz.f118),
  (119,Tryz.f119),
  (120,Tryz.f120),
  (121,Tryz.f121),
  (122,Tryz.f122)]
 hint:=[(4,[(12,{ keep:=[12,13,14,15,17,18,19,20,21],ids:=[12,15,17,28],out:=some ([10,15,17,19,20],[15,17,45]) })]),
  (8,[(5,{ keep:=[4,5,8,9],ids:=[4,8,11,24,36,48],out:=some ([4,8],[4,8,24,36,48]) })]),
  (10,[(5,{ keep:=[1,2,3,7,8],ids:=[3],out:=some ([7],[]) })]),
  (12,[(4,{ keep:=[2,5,6,7],ids:=[2,11,43,49,55],out:=some ([6],[43,49,55]),own:=[(6,43,2,1)] })]),
  (16,[(8,{ keep:=[2,3,4,8,10,11,12],ids:=[4,8,11,34,43,140],out:=some ([8,11],[8,11,43,140]) }),(11,{ keep:=[2,3,4,8,10,11,12,13,14],ids:=[4,8,11,34,43,140],out:=some ([2,3,4,8,10,11,13],[4,8,11,34,43,140]) })]),
  (17,[(10,{ keep:=[4,5,6,10,11,12,13,14,60,61,62],ids:=[5,6,10,11,58,84,89,123],out:=some ([6,10,11,14],[6,10,11,58,84,89,123]),ownB:=[(10,0,89,30,1),(11,0,84,3,1)] }),(19,{ keep:=[10,11,14,93,94,95],ids:=[10,11,58,84,89,123],out:=some ([10,11],[10,11,84,89,123]),ownB:=[(10,1,123,61,12)] })]),
  (18,[(4,{ keep:=[0,1,5],ids:=[],out:=some ([4],[]) })]),
  (19,[(7,{ keep:=[6,7,8,9,26,27],ids:=[6,7,8,9,24,39],out:=some ([6,7,8,9],[6,7,8,9,24,39]) })]),
  (20,[(7,{ keep:=[0,1,4,5,6,7],ids:=[4,5],out:=some ([0,1,4,5,6],[4,5]) })]),
  (21,[(5,{ keep:=[1,2,3,4,5,10,30,31,32],ids:=[5,10],out:=some ([1,2,3,4,5,10],[5,10]) }),(13,{ keep:=[4,10,57,58,59],ids:=[10],out:=some ([10],[10]) })]),
  (22,[(4,{ keep:=[0,2,3,4,5],ids:=[2,3,21,46],out:=some ([0,2,3,4],[2,3,21,46]) }),(8,{ keep:=[0,2,3,4,6],ids:=[2,3,21,24,46],out:=some ([2,3],[2,3,21,46]) })]),
  (25,[(5,{ keep:=[1,2,3,6,7,8],ids:=[3,6,7,52,89],out:=some ([2,3,6,7],[3,6,7,52,89]),ownB:=[(7,0,52,30,1)] }),(10,{ keep:=[2,3,6,7,9],ids:=[3,6,7,52,89],out:=some ([6,7],[6,7,52,89]),ownB:=[(7,1,89,61,12)],frzB:=[(7,0)] }),(14,{ keep:=[2,3,6,7,9,10,11],ids:=[3,6,7,52,70,89],out:=some ([2,3,6,7,9],[3,6,7,52,89]),ownB:=[(7,1,89,61,12)] })]),
  (26,[(4,{ keep:=[1,3,7,8,9],ids:=[3,13,37],out:=some ([8],[37]),own:=[(8,37,30,1)] }),(8,{ keep:=[1,3,7,8,9,10,11],ids:=[3,13,31,37],out:=some ([1,3,7,8,9,10],[3,13,31,37]),own:=[(10,31,3,1)] })]),
  (28,[(4,{ keep:=[1,3],ids:=[1],out:=some ([1,2],[1,27]) }),(12,{ keep:=[1,5],ids:=[1],out:=some ([2],[27]) })]),
  (29,[(2,{ keep:=[0,3],ids:=[],out:=some ([2],[]) })]),
  (31,[(4,{ keep:=[1,17,18],ids:=[1],out:=some ([1,2],[1,23]) })]),
  (33,[(6,{ keep:=[1,2,8,40,41,42],ids:=[],out:=some ([8],[]) })]),
  (34,[(4,{ keep:=[1,2,5],ids:=[2],out:=some ([4],[]) })]),
  (35,[(7,{ keep:=[2,3,4,5,6,10,12,13,14,15],ids:=[5,6,10,12,64,101,110,154],out:=some ([6,10,12,13,14],[6,10,12,64,101,110,154]),own:=[(13,101,3,1)],ownB:=[(12,0,110,30,1)] }),(15,{ keep:=[6,10,12,13,14,16],ids:=[6,10,12,64,101,110,154],out:=some ([10,12,13],[10,12,101,110,154]),ownB:=[(12,1,154,61,12)] })]),
  (36,[(4,{ keep:=[0,1,5],ids:=[],out:=some ([4],[]) })]),
  (37,[(4,{ keep:=[2,3,5],ids:=[2,3],out:=some ([4],[]) })]),
  (39,[(3,{ keep:=[1,2,3,7,8],ids:=[3,18],out:=some ([1,2,3,7],[3,18]) }),(8,{ keep:=[2,3,7,9],ids:=[3,18],out:=some ([7],[18]) }),(11,{ keep:=[2,3,7,9,10],ids:=[3,18],out:=some ([2,3,7,9],[3,18]) }),(16,{ keep:=[2,3,7,9,10,11,60,61,62],ids:=[3,11,18,60],out:=some ([2,3,7,9,10],[3,18]) })]),
  (42,[(7,{ keep:=[2,3,4,33,34,35],ids:=[2,3,4],out:=some ([4],[4]) })]),
  (43,[(2,{ keep:=[3,13,14,15],ids:=[3,13],out:=some ([6],[]) })]),
  (44,[(9,{ keep:=[1,5,6,7,37,38,39],ids:=[5,6,7,13,37,58],out:=some ([6,7],[6,7,13,58]) })]),
  (47,[(3,{ keep:=[1,2,5,17,18],ids:=[2,15,64,85],out:=some ([1,2,5],[2,15,64,85]) }),(9,{ keep:=[2,5,7],ids:=[2,15,64,85],out:=some ([5],[15,64,85]) }),(12,{ keep:=[2,5,7,31,32],ids:=[2,15,64,85],out:=some ([2,5,7],[2,15,64,85]) })]),
  (48,[(2,{ keep:=[0,7,8,9],ids:=[],out:=some ([0],[]) })]),
  (53,[(2,{ keep:=[0,1,5],ids:=[],out:=some ([4],[]) })]),
  (54,[(3,{ keep:=[1,2,3,4,9,10],ids:=[4,27],out:=some ([9],[27]),own:=[(9,27,3,1)] }),(9,{ keep:=[1,2,3,4,9,10,11,12],ids:=[4,27,34],out:=some ([1,2,3,4,9,10],[4,27]) })]),
  (55,[(5,{ keep:=[2,3,4,5,9,10,11],ids:=[4,5,78,82,102],out:=some ([2,3,4,5,9,10],[4,5,78,82,102]),own:=[(9,82,61,12)] })]),
  (56,[(5,{ keep:=[0,1,5,6],ids:=[5],out:=some ([1,4,5],[5]) })]),
  (58,[(2,{ keep:=[1,2,5],ids:=[2],out:=some ([4],[]) })]),
  (63,[(4,{ keep:=[1,2,14,15,16],ids:=[],out:=some ([6],[]) })]),
  (66,[(4,{ keep:=[2,3,5],ids:=[2,3],out:=some ([2,3,4],[2,3]) }),(9,{ keep:=[2,3,6],ids:=[2,3],out:=some ([4],[]) })]),
  (67,[(4,{ keep:=[0,1,5],ids:=[],out:=some ([4],[]) })]),
  (69,[(2,{ keep:=[1,3],ids:=[1],out:=some ([1,2],[1,28]) })]),
  (72,[(4,{ keep:=[2,5,6,11,12,13],ids:=[2,37],out:=some ([5],[37]) })]),
  (76,[(3,{ keep:=[2,3,4,15,16,17],ids:=[2,11,14,25,39],out:=some ([2,3,4],[2,11,14,25,39]) }),(8,{ keep:=[2,3,4,28,29,30],ids:=[2,11,14,25,39],out:=some ([2,3,4],[2,11,14,25,39]) })]),
  (78,[(3,{ keep:=[1,2,10,11,12],ids:=[1,2,7,22,29,35,41],out:=some ([1,2],[1,2,7,22,29,35,41]) })]),
  (80,[(4,{ keep:=[1,17,18],ids:=[1],out:=some ([2],[]) })]),
  (82,[(4,{ keep:=[0,1,2,6,8,9],ids:=[6,8,9,19,30,96,125],out:=some ([0,1,2,6,8],[6,8,19,96,125]) }),(9,{ keep:=[0,1,2,6,8,9,10,53,54,55],ids:=[6,8,9,10,19,30,34,96,125],out:=some ([0,1,2,6,8,9],[6,8,9,19,30,96,125]) }),(20,{ keep:=[0,2,6,8,14,15],ids:=[6,8,14,15,19,96,125],out:=some ([6,14],[6,14,96,125]) })]),
  (83,[(3,{ keep:=[1,2,5,14,15],ids:=[2,11,50,74],out:=some ([5],[11,50,74]),unn:=[11] })]),
  (85,[(4,{ keep:=[0,1,5],ids:=[],out:=some ([4],[]) })]),
  (86,[(4,{ keep:=[0,3],ids:=[],out:=some ([2],[]) })]),
  (88,[(4,{ keep:=[18],ids:=[18],out:=some ([2],[]) })]),
  (89,[(2,{ keep:=[1,2,8,9],ids:=[2],out:=some ([4],[]) })]),
  (90,[(2,{ keep:=[5,6],ids:=[],out:=some ([2],[]) })]),
  (93,[(2,{ keep:=[0,1,7,8],ids:=[],out:=some ([4],[]) })]),
  (96,[(2,{ keep:=[1,3],ids:=[1],out:=some ([1,2],[1]) })]),
  (99,[(4,{ keep:=[0,1,5],ids:=[],out:=some ([4],[]) })]),
  (105,[(3,{ keep:=[3,6,7,8],ids:=[],out:=some ([2,3],[]) })]),
  (112,[(6,{ keep:=[0,2,3,4,5,6],ids:=[2,4,1000001],out:=some ([0,2,3,4],[2,4,1000001]) })]),
  (114,[(3,{ keep:=[0,4,5],ids:=[12,1000001],out:=some ([0,4],[12,1000001]) })]),
  (115,[(2,{ keep:=[0,1,7,8],ids:=[],out:=some ([4],[]) })]),
  (120,[(2,{ keep:=[0,1,7,8],ids:=[],out:=some ([4],[]) })]),
  (121,[(4,{ keep:=[0,1,5],ids:=[],out:=some ([4],[]) })])]
 rw:=[22,
  24,
  51,
  52,
  112,
  114]
 ow:=[(8,[24]),
  (19,[24]),
  (25,[89]),
  (44,[13]),
  (76,[11,14]),
  (78,[7,29,35,41])]
 dd:=[30,41,45,49,50,71,75,79]
 la:=[(17,[126]),
  (25,[99])]
 oa:=[29]
 nf:=[83]
 gq:=[112,
  114]
 dr:=[(25,[(16,{ keep:=[2,3,6,7,9,10,11],ids:=[3,6,7,52,70,89],frzB:=[(7,1)] })]),
  (82,[(25,{ keep:=[0,2,6,8,14,127],ids:=[6,8,14,19,96,125] })])]
 ag:=[16,
  82]
theorem eq78:aggB Tryz.prog 78=true∧∀ vs,KV [.i .i64,.i .i64,.i .i64] vs→qZG Tryz.prog 12 78 vs=true:=by
 refine ⟨by kernel_rfl,fun vs h => ?_⟩;obtain ⟨v0,u0,rfl,⟨x0,rfl⟩,h0⟩:=h;obtain ⟨v1,u1,rfl,⟨x1,rfl⟩,h1⟩:=h0;obtain ⟨v2,u2,rfl,⟨x2,rfl⟩,h2⟩:=h1;obtain rfl:u2=[]:=h2
 kernel_rfl
theorem eq153:aggB Tryz.prog 153=true∧∀ vs,KV [.i .i64,.i .i64] vs→qZG Tryz.prog 12 153 vs=true:=by
 refine ⟨by kernel_rfl,fun vs h => ?_⟩;obtain ⟨v0,u0,rfl,⟨x0,rfl⟩,h0⟩:=h;obtain ⟨v1,u1,rfl,⟨x1,rfl⟩,h1⟩:=h0;obtain rfl:u1=[]:=h1
 kernel_rfl
theorem fns:AllP (fun x:Nat × Func=>Tryz.prog.funcs[x.1]? = some x.2) tabs.fn:=⟨Tryz.func3,Tryz.func4,Tryz.func5,Tryz.func6,Tryz.func7,Tryz.func8,Tryz.func9,Tryz.func10,Tryz.func11,Tryz.func12,Tryz.func13,Tryz.func14,Tryz.func15,Tryz.func16,Tryz.func17,Tryz.func18,Tryz.func19,Tryz.func20,Tryz.func21,Tryz.func22,Tryz.func23,Tryz.func24,Tryz.func25,Tryz.func26,Tryz.func27,Tryz.func28,Tryz.func29,Tryz.func30,Tryz.func31,Tryz.func32,Tryz.func33,Tryz.func34,Tryz.func35,Tryz.func36,Tryz.func37,Tryz.func38,Tryz.func39,Tryz.func40,Tryz.func41,Tryz.func42,Tryz.func43,Tryz.func44,Tryz.func45,Tryz.func46,Tryz.func47,Tryz.func48,Tryz.func49,Tryz.func50,Tryz.func51,Tryz.func52,Tryz.func53,Tryz.func54,Tryz.func55,Tryz.func56,Tryz.func57,Tryz.func58,Tryz.func59,Tryz.func60,Tryz.func61,Tryz.func62,Tryz.func63,Tryz.func64,Tryz.func65,Tryz.func66,Tryz.func67,Tryz.func68,Tryz.func69,Tryz.func70,Tryz.func71,Tryz.func72,Tryz.func73,Tryz.func74,Tryz.func75,Tryz.func76,Tryz.func77,Tryz.func78,Tryz.func79,Tryz.func80,Tryz.func81,Tryz.func82,Tryz.func83,Tryz.func84,Tryz.func85,Tryz.func86,Tryz.func87,Tryz.func88,Tryz.func89,Tryz.func90,Tryz.func91,Tryz.func92,Tryz.func93,Tryz.func94,Tryz.func95,Tryz.func96,Tryz.func97,Tryz.func98,Tryz.func99,Tryz.func100,Tryz.func101,Tryz.func102,Tryz.func103,Tryz.func104,Tryz.func105,Tryz.func106,Tryz.func107,Tryz.func108,Tryz.func109,Tryz.func110,Tryz.func111,Tryz.func112,Tryz.func113,Tryz.func114,Tryz.func115,Tryz.func116,Tryz.func117,Tryz.func118,Tryz.func119,Tryz.func120,Tryz.func121,Tryz.func122,trivial⟩
theorem ok_sz:tabs.sz.all (fun x=>tyB Tryz.prog x.1 x.2.1 x.2.2 && (x.2.1 || Nat.beq x.2.2 1))=true:=by kernel_rfl
theorem ok_zr:tabs.zr.map (fun x=>(Tryz.prog.info? x.1).bind (·.zero))=tabs.zr.map (fun x=>some x.2):=by kernel_rfl
theorem yZU:tabs.fd.all (fun x=>allI (fun f o=>zXA Tryz.prog x.1 f o) 0 x.2)=true:=by kernel_rfl
theorem ok_fx:tabs.fx.all (fun x=>allI (fxB Tryz.prog x.1) 0 x.2)=true:=by kernel_rfl
theorem ok_ar:tabs.ar.all (fun x=>arX Tryz.prog x.1 x.2)=true:=by kernel_rfl
theorem ok_sl:tabs.sl.all (fun x=>slcB Tryz.prog x.1 x.2.1 x.2.2.1 && Nat.blt 0 x.2.2.1 && Nat.ble x.2.2.1 1000 && appB Tryz.prog x.1 x.2.1 x.2.2.1 x.2.2.2 && Nat.ble x.2.2.2 100000 && (Nat.ble x.2.2.2 8 || !inL tabs.big x.2.1))=true:=by kernel_rfl
theorem ok_ly:tabs.ly.map (fun x=>(qXG Tryz.prog x.1).map (·.2))=tabs.ly.map (fun x=>some x.2):=by kernel_rfl
theorem ok_ik:tabs.ik.map (fun x=>Tryz.prog.underlying x.1)=tabs.ik.map (fun x=>some (.int x.2)):=by kernel_rfl
theorem ok_str:tabs.str.map (fun x=>Tryz.prog.underlying x)=tabs.str.map (fun _=>some .string):=by kernel_rfl
theorem ok_bo:tabs.bo.map (fun x=>Tryz.prog.underlying x)=tabs.bo.map (fun _=>some .bool):=by kernel_rfl
theorem ok_fn2:tabs.fn.all (fun x => !(x.2.name == "runtime.NumGoroutine") && !x.2.body.isNone)=true:=by kernel_rfl
theorem dd30:kJ Tryz.prog 30∧∀ (args:Array Value) (w:World),CallsD Tryz.prog 30 args .returning w fun e u w'=>(∃ v,e=.returned v)∧u=.returning∧w'=w :=
 ⟨kQ Tryz.func30 (by kernel_rfl) (by kernel_rfl),fun args w=>zXB (ms:=#[]) Tryz.func30 rfl rfl (by decide) (by decide) (by decide) (by kernel_rfl) args w⟩
theorem dd41:kJ Tryz.prog 41∧∀ (args:Array Value) (w:World),CallsD Tryz.prog 41 args .returning w fun e u w'=>(∃ v,e=.returned v)∧u=.returning∧w'=w :=
 ⟨kQ Tryz.func41 (by kernel_rfl) (by kernel_rfl),fun args w=>zXB (ms:=#[]) Tryz.func41 rfl rfl (by decide) (by decide) (by decide) (by kernel_rfl) args w⟩
theorem dd45:kJ Tryz.prog 45∧∀ (args:Array Value) (w:World),CallsD Tryz.prog 45 args .returning w fun e u w'=>(∃ v,e=.returned v)∧u=.returning∧w'=w :=
 ⟨kQ Tryz.func45 (by kernel_rfl) (by kernel_rfl),fun args w=>zXB (ms:=#[]) Tryz.func45 rfl rfl (by decide) (by decide) (by decide) (by kernel_rfl) args w⟩
theorem dd49:kJ Tryz.prog 49∧∀ (args:Array Value) (w:World),CallsD Tryz.prog 49 args .returning w fun e u w'=>(∃ v,e=.returned v)∧u=.returning∧w'=w :=
 ⟨kQ Tryz.func49 (by kernel_rfl) (by kernel_rfl),fun args w=>zXB (ms:=#[]) Tryz.func49 rfl rfl (by decide) (by decide) (by decide) (by kernel_rfl) args w⟩
theorem dd50:kJ Tryz.prog 50∧∀ (args:Array Value) (w:World),CallsD Tryz.prog 50 args .returning w fun e u w'=>(∃ v,e=.returned v)∧u=.returning∧w'=w :=
 ⟨kQ Tryz.func50 (by kernel_rfl) (by kernel_rfl),fun args w=>zXB (ms:=#[]) Tryz.func50 rfl rfl (by decide) (by decide) (by decide) (by kernel_rfl) args w⟩
theorem dd71:kJ Tryz.prog 71∧∀ (args:Array Value) (w:World),CallsD Tryz.prog 71 args .returning w fun e u w'=>(∃ v,e=.returned v)∧u=.returning∧w'=w :=
 ⟨kQ Tryz.func71 (by kernel_rfl) (by kernel_rfl),fun args w=>zXB (ms:=#[]) Tryz.func71 rfl rfl (by decide) (by decide) (by decide) (by kernel_rfl) args w⟩
theorem dd75:kJ Tryz.prog 75∧∀ (args:Array Value) (w:World),CallsD Tryz.prog 75 args .returning w fun e u w'=>(∃ v,e=.returned v)∧u=.returning∧w'=w :=
 ⟨kQ Tryz.func75 (by kernel_rfl) (by kernel_rfl),fun args w=>zXB (ms:=#[]) Tryz.func75 rfl rfl (by decide) (by decide) (by decide) (by kernel_rfl) args w⟩
theorem dd79:kJ Tryz.prog 79∧∀ (args:Array Value) (w:World),CallsD Tryz.prog 79 args .returning w fun e u w'=>(∃ v,e=.returned v)∧u=.returning∧w'=w :=
 ⟨kQ Tryz.func79 (by kernel_rfl) (by kernel_rfl),fun args w=>zXB (ms:=#[]) Tryz.func79 rfl rfl (by decide) (by decide) (by decide) (by kernel_rfl) args w⟩
theorem ok_dd:∀ f ∈ tabs.dd,kJ Tryz.prog f∧∀ (args:Array Value) (w:World),CallsD Tryz.prog f args .returning w fun e u w'=>(∃ v,e=.returned v)∧u=.returning∧w'=w:=by
 intro f hf;simp only [tabs,vZG,List.not_mem_nil,or_false] at hf;rcases hf with rfl | rfl | rfl | rfl | rfl | rfl | rfl | rfl
 ·exact dd30
 ·exact dd41
 ·exact dd45
 ·exact dd49
 ·exact dd50
 ·exact dd71
 ·exact dd75
 ·exact dd79
theorem ok:tabs.Ok Tryz.prog:=⟨ok_sz,ok_zr,yZU,ok_fx,ok_ar,ok_sl,ok_ly,ok_ik,ok_str,ok_bo,⟨eq78,eq153,trivial⟩,fns,ok_fn2,ok_dd⟩
noncomputable def T:Tab:=tabs.tab
theorem qZF:TabOk Tryz.prog T:=Tabs.ok ok
theorem yH:Tryz.prog.follows .mixedOrders=true:=by kernel_rfl
noncomputable def tabsF:Tabs:={ tabs with
 hint:=[(4,[(12,{ keep:=[12,13,14,15,17,18,19,20,21],ids:=[12,15,17,28],out:=some ([10,15,17,19,20],[15,17,45]) })]),
  (8,[(5,{ keep:=[4,5,8,9],ids:=[4,8,11,24,36,48],out:=some ([4,8],[4,8,24,36,48]),fun_:=[(24,[.n .i64 0])] })]),
  (10,[(5,{ keep:=[1,2,3,7,8],ids:=[3],out:=some ([7],[]) })]),
  (12,[(4,{ keep:=[2,5,6,7],ids:=[2,11,43,49,55],out:=some ([6],[43,49,55]),own:=[(6,43,2,1)],fun_:=[(43,[.n .i64 0]),(49,[.n .i64 0]),(55,[.n .i64 0])] })]),
  (16,[(8,{ keep:=[2,3,4,8,10,11,12],ids:=[4,8,11,34,43,140],out:=some ([8,11],[8,11,43,140]),fun_:=[(43,[.n .i64 0]),(140,[.n .i64 0])] }),(11,{ keep:=[2,3,4,8,10,11,12,13,14],ids:=[4,8,11,34,43,140],out:=some ([2,3,4,8,10,11,13],[4,8,11,34,43,140]),fun_:=[(43,[.n .i64 0]),(140,[.n .i64 0])] })]),
  (17,[(10,{ keep:=[4,5,6,10,11,12,13,14,60,61,62],ids:=[5,6,10,11,58,84,89,123],out:=some ([6,10,11,14],[6,10,11,58,84,89,123]),ownB:=[(10,0,89,30,1),(11,0,84,3,1)],fun_:=[(58,[.n .i64 0]),(84,[.n .i64 0]),(89,[.zs]),(123,[.n .i64 0,.n .i64 0,.n .i64 0,.n .i64 0,.n .i64 0,.zs,.n .i64 0,.n .i64 0,.zs,.n .i64 0,.zs,.zs])] }),(19,{ keep:=[10,11,14,93,94,95],ids:=[10,11,58,84,89,123],out:=some ([10,11],[10,11,84,89,123]),ownB:=[(10,1,123,61,12)],fun_:=[(58,[.n .i64 0]),(84,[.n .i64 0]),(89,[.zs]),(123,[.n .i64 0,.n .i64 0,.n .i64 0,.n .i64 0,.n .i64 0,.zs,.n .i64 0,.n .i64 0,.zs,.n .i64 0,.zs,.zs])] })]),
  (18,[(4,{ keep:=[0,1,5],ids:=[],out:=some ([4],[]) })]),
  (19,[(7,{ keep:=[6,7,8,9,26,27],ids:=[6,7,8,9,24,39],out:=some ([6,7,8,9],[6,7,8,9,24,39]),fun_:=[(24,[.n .i64 0])] })]),
  (20,[(7,{ keep:=[0,1,4,5,6,7],ids:=[4,5],out:=some ([0,1,4,5,6],[4,5]) })]),
  (21,[(5,{ keep:=[1,2,3,4,5,10,30,31,32],ids:=[5,10],out:=some ([1,2,3,4,5,10],[5,10]) }),(13,{ keep:=[4,10,57,58,59],ids:=[10],out:=some ([10],[10]) })]),
  (22,[(4,{ keep:=[0,2,3,4,5],ids:=[2,3,21,46],out:=some ([0,2,3,4],[2,3,21,46]),fun_:=[(21,[.s (ByteArray.mk #[]),.n .i64 0,.n .i64 0,.n .i64 0,.n .i64 0,.n .i64 0,.n .i64 0,.n .i64 0,.n .i64 0,.n .i64 0,.n .i64 0,.n .i64 0]),(46,[.n .i64 0,.n .i64 0,.n .i64 0,.n .i64 0,.n .i64 0])] }),(8,{ keep:=[0,2,3,4,6],ids:=[2,3,21,24,46],out:=some ([2,3],[2,3,21,46]),fun_:=[(21,[.s (ByteArray.mk #[]),.n .i64 0,.n .i64 0,.n .i64 0,.n .i64 0,.n .i64 0,.n .i64 0,.n .i64 0,.n .i64 0,.n .i64 0,.n .i64 0,.n .i64 0]),(46,[.n .i64 0,.n .i64 0,.n .i64 0,.n .i64 0,.n .i64 0])] })]),
  (25,[(5,{ keep:=[1,2,3,6,7,8],ids:=[3,6,7,52,89],out:=some ([2,3,6,7],[3,6,7,52,89]),ownB:=[(7,0,52,30,1)],fun_:=[(52,[.lf 0 (fun _=>[.n .i64 0])]),(89,[.n .i64 0,.n .i64 0,.n .i64 0,.n .i64 0,.n .i64 0,.l [],.n .i64 0,.n .i64 0,.l [],.n .i64 0,.l [],.l []])] }),(10,{ keep:=[2,3,6,7,9],ids:=[3,6,7,52,89],out:=some ([6,7],[6,7,52,89]),ownB:=[(7,1,89,61,12)],frzB:=[(7,0)],fun_:=[(52,[.lf 0 (fun _=>[.n .i64 0])]),(89,[.n .i64 0,.n .i64 0,.n .i64 0,.n .i64 0,.n .i64 0,.l [],.n .i64 0,.n .i64 0,.l [],.n .i64 0,.l [],.l []])] }),(14,{ keep:=[2,3,6,7,9,10,11],ids:=[3,6,7,52,70,89],out:=some ([2,3,6,7,9],[3,6,7,52,89]),ownB:=[(7,1,89,61,12)],fun_:=[(52,[.lf 0 (fun _=>[.n .i64 0])]),(89,[.n .i64 0,.n .i64 0,.n .i64 0,.n .i64 0,.n .i64 0,.l [],.n .i64 0,.n .i64 0,.l [],.n .i64 0,.l [],.l []])] })]),
  (26,[(4,{ keep:=[1,3,7,8,9],ids:=[3,13,37],out:=some ([8],[37]),own:=[(8,37,30,1)],fun_:=[(37,[.zs])] }),(8,{ keep:=[1,3,7,8,9,10,11],ids:=[3,13,31,37],out:=some ([1,3,7,8,9,10],[3,13,31,37]),own:=[(10,31,3,1)],fun_:=[(31,[.n .i64 0]),(37,[.zs])] })]),
  (28,[(4,{ keep:=[1,3],ids:=[1],out:=some ([1,2],[1,27]) }),(12,{ keep:=[1,5],ids:=[1],out:=some ([2],[27]) })]),
  (29,[(2,{ keep:=[0,3],ids:=[],out:=some ([2],[]) })]),
  (31,[(4,{ keep:=[1,17,18],ids:=[1],out:=some ([1,2],[1,23]) })]),
  (33,[(6,{ keep:=[1,2,8,40,41,42],ids:=[],out:=some ([8],[]) })]),
  (34,[(4,{ keep:=[1,2,5],ids:=[2],out:=some ([4],[]) })]),
  (35,[(7,{ keep:=[2,3,4,5,6,10,12,13,14,15],ids:=[5,6,10,12,64,101,110,154],out:=some ([6,10,12,13,14],[6,10,12,64,101,110,154]),own:=[(13,101,3,1)],ownB:=[(12,0,110,30,1)],fun_:=[(64,[.n .i64 0]),(101,[.n .i64 0]),(110,[.zs]),(154,[.n .i64 0,.n .i64 0,.n .i64 0,.n .i64 0,.n .i64 0,.zs,.n .i64 0,.n .i64 0,.zs,.n .i64 0,.zs,.zs])] }),(15,{ keep:=[6,10,12,13,14,16],ids:=[6,10,12,64,101,110,154],out:=some ([10,12,13],[10,12,101,110,154]),ownB:=[(12,1,154,61,12)],fun_:=[(64,[.n .i64 0]),(101,[.n .i64 0]),(110,[.zs]),(154,[.n .i64 0,.n .i64 0,.n .i64 0,.n .i64 0,.n .i64 0,.zs,.n .i64 0,.n .i64 0,.zs,.n .i64 0,.zs,.zs])] })]),
  (36,[(4,{ keep:=[0,1,5],ids:=[],out:=some ([4],[]) })]),
  (37,[(4,{ keep:=[2,3,5],ids:=[2,3],out:=some ([4],[]) })]),
  (39,[(3,{ keep:=[1,2,3,7,8],ids:=[3,18],out:=some ([1,2,3,7],[3,18]),fun_:=[(18,[.n .i64 0,.n .i64 0])] }),(8,{ keep:=[2,3,7,9],ids:=[3,18],out:=some ([7],[18]),fun_:=[(18,[.n .i64 0,.n .i64 0])] }),(11,{ keep:=[2,3,7,9,10],ids:=[3,18],out:=some ([2,3,7,9],[3,18]),fun_:=[(18,[.n .i64 0,.n .i64 0])] }),(16,{ keep:=[2,3,7,9,10,11,60,61,62],ids:=[3,11,18,60],out:=some ([2,3,7,9,10],[3,18]),fun_:=[(18,[.n .i64 0,.n .i64 0]),(60,[.n .i64 0,.n .i64 0])] })]),
  (42,[(7,{ keep:=[2,3,4,33,34,35],ids:=[2,3,4],out:=some ([4],[4]) })]),
  (43,[(2,{ keep:=[3,13,14,15],ids:=[3,13],out:=some ([6],[]),fun_:=[(13,[.n .i64 0])] })]),
  (44,[(9,{ keep:=[1,5,6,7,37,38,39],ids:=[5,6,7,13,37,58],out:=some ([6,7],[6,7,13,58]),fun_:=[(13,[.n .i64 0]),(37,[.n .i64 0])] })]),
  (47,[(3,{ keep:=[1,2,5,17,18],ids:=[2,15,64,85],out:=some ([1,2,5],[2,15,64,85]),fun_:=[(15,[.n .i64 0])] }),(9,{ keep:=[2,5,7],ids:=[2,15,64,85],out:=some ([5],[15,64,85]),fun_:=[(15,[.n .i64 0])] }),(12,{ keep:=[2,5,7,31,32],ids:=[2,15,64,85],out:=some ([2,5,7],[2,15,64,85]),fun_:=[(15,[.n .i64 0])] })]),
  (48,[(2,{ keep:=[0,7,8,9],ids:=[],out:=some ([0],[]) })]),
  (53,[(2,{ keep:=[0,1,5],ids:=[],out:=some ([4],[]) })]),
  (54,[(3,{ keep:=[1,2,3,4,9,10],ids:=[4,27],out:=some ([9],[27]),own:=[(9,27,3,1)],fun_:=[(27,[.n .i64 0])] }),(9,{ keep:=[1,2,3,4,9,10,11,12],ids:=[4,27,34],out:=some ([1,2,3,4,9,10],[4,27]),fun_:=[(27,[.n .i64 0])] })]),
  (55,[(5,{ keep:=[2,3,4,5,9,10,11],ids:=[4,5,78,82,102],out:=some ([2,3,4,5,9,10],[4,5,78,82,102]),own:=[(9,82,61,12)],fun_:=[(78,[.n .i64 0,.n .i64 0,.n .i64 0,.n .i64 0,.n .i64 0,.zs,.n .i64 0,.n .i64 0,.zs,.n .i64 0,.zs,.zs]),(82,[.n .i64 0,.n .i64 0,.n .i64 0,.n .i64 0,.n .i64 0,.zs,.n .i64 0,.n .i64 0,.zs,.n .i64 0,.zs,.zs]),(102,[.n .i64 0,.n .i64 0,.n .i64 0,.n .i64 0,.n .i64 0,.zs,.n .i64 0,.n .i64 0,.zs,.n .i64 0,.zs,.zs])] })]),
  (56,[(5,{ keep:=[0,1,5,6],ids:=[5],out:=some ([1,4,5],[5]) })]),
  (58,[(2,{ keep:=[1,2,5],ids:=[2],out:=some ([4],[]) })]),
  (63,[(4,{ keep:=[1,2,14,15,16],ids:=[],out:=some ([6],[]) })]),
  (66,[(4,{ keep:=[2,3,5],ids:=[2,3],out:=some ([2,3,4],[2,3]) }),(9,{ keep:=[2,3,6],ids:=[2,3],out:=some ([4],[]) })]),
  (67,[(4,{ keep:=[0,1,5],ids:=[],out:=some ([4],[]) })]),
  (69,[(2,{ keep:=[1,3],ids:=[1],out:=some ([1,2],[1,28]) })]),
  (72,[(4,{ keep:=[2,5,6,11,12,13],ids:=[2,37],out:=some ([5],[37]) })]),
  (76,[(3,{ keep:=[2,3,4,15,16,17],ids:=[2,11,14,25,39],out:=some ([2,3,4],[2,11,14,25,39]),fun_:=[(11,[.zs]),(14,[.n .i64 0,.n .i64 0,.n .i64 0,.n .i64 0,.n .i64 0,.zs,.n .i64 0,.n .i64 0,.zs,.n .i64 0,.zs,.zs])] }),(8,{ keep:=[2,3,4,28,29,30],ids:=[2,11,14,25,39],out:=some ([2,3,4],[2,11,14,25,39]),fun_:=[(11,[.zs]),(14,[.n .i64 0,.n .i64 0,.n .i64 0,.n .i64 0,.n .i64 0,.zs,.n .i64 0,.n .i64 0,.zs,.n .i64 0,.zs,.zs])] })]),
  (78,[(3,{ keep:=[1,2,10,11,12],ids:=[1,2,7,22,29,35,41],out:=some ([1,2],[1,2,7,22,29,35,41]),fun_:=[(7,[.n .i64 0,.n .i64 0,.zs]),(29,[.n .i64 0,.n .i64 0,.n .i64 0]),(35,[.n .i64 0]),(41,[.n .i64 0])] })]),
  (80,[(4,{ keep:=[1,17,18],ids:=[1],out:=some ([2],[]) })]),
  (82,[(4,{ keep:=[0,1,2,6,8,9],ids:=[6,8,9,19,30,96,125],out:=some ([0,1,2,6,8],[6,8,19,96,125]),fun_:=[(19,[.n .i64 0,.n .i64 0]),(30,[.n .i64 0,.n .i64 0,.n .i64 0]),(96,[.n .i64 0]),(125,[.n .i64 0])] }),(9,{ keep:=[0,1,2,6,8,9,10,53,54,55],ids:=[6,8,9,10,19,30,34,96,125],out:=some ([0,1,2,6,8,9],[6,8,9,19,30,96,125]),fun_:=[(19,[.n .i64 0,.n .i64 0]),(30,[.n .i64 0,.n .i64 0,.n .i64 0]),(96,[.n .i64 0]),(125,[.n .i64 0])] }),(20,{ keep:=[0,2,6,8,14,15],ids:=[6,8,14,15,19,96,125],out:=some ([6,14],[6,14,96,125]),fun_:=[(19,[.n .i64 0,.n .i64 0]),(96,[.n .i64 0]),(125,[.n .i64 0])] })]),
  (83,[(3,{ keep:=[1,2,5,14,15],ids:=[2,11,50,74],out:=some ([5],[11,50,74]),unn:=[11],fun_:=[(11,[.zs]),(50,[.n .i64 0,.n .i64 0]),(74,[.n .i64 0,.n .i64 0])] })]),
  (85,[(4,{ keep:=[0,1,5],ids:=[],out:=some ([4],[]) })]),
  (86,[(4,{ keep:=[0,3],ids:=[],out:=some ([2],[]) })]),
  (88,[(4,{ keep:=[18],ids:=[18],out:=some ([2],[]) })]),
  (89,[(2,{ keep:=[1,2,8,9],ids:=[2],out:=some ([4],[]) })]),
  (90,[(2,{ keep:=[5,6],ids:=[],out:=some ([2],[]) })]),
  (93,[(2,{ keep:=[0,1,7,8],ids:=[],out:=some ([4],[]) })]),
  (96,[(2,{ keep:=[1,3],ids:=[1],out:=some ([1,2],[1]) })]),
  (99,[(4,{ keep:=[0,1,5],ids:=[],out:=some ([4],[]) })]),
  (105,[(3,{ keep:=[3,6,7,8],ids:=[],out:=some ([2,3],[]) })]),
  (112,[(6,{ keep:=[0,2,3,4,5,6],ids:=[2,4,1000001],out:=some ([0,2,3,4],[2,4,1000001]) })]),
  (114,[(3,{ keep:=[0,4,5],ids:=[12,1000001],out:=some ([0,4],[12,1000001]),fun_:=[(12,[.n .i64 0,.n .i64 0,.n .i64 0])] })]),
  (115,[(2,{ keep:=[0,1,7,8],ids:=[],out:=some ([4],[]) })]),
  (120,[(2,{ keep:=[0,1,7,8],ids:=[],out:=some ([4],[]) })]),
  (121,[(4,{ keep:=[0,1,5],ids:=[],out:=some ([4],[]) })])]
 ff:=[3,
  4,
  8,
  12,
  16,
  17,
  19,
  21,
  22,
  25,
  26,
  35,
  39,
  43,
  44,
  46,
  47,
  48,
  54,
  55,
  69,
  76,
  78,
  80,
  82,
  83,
  96,
  102,
  107,
  108,
  109,
  110,
  112,
  114]
}
theorem okF:tabsF.Ok Tryz.prog:=⟨ok_sz,ok_zr,yZU,ok_fx,ok_ar,ok_sl,ok_ly,ok_ik,ok_str,ok_bo,⟨eq78,eq153,trivial⟩,fns,ok_fn2,ok_dd⟩
noncomputable def Tf:Tab:=tabsF.tab
theorem jY:TabOk Tryz.prog Tf:=Tabs.ok okF
end Go.Proofs.YtklmegnpfhiibaaGreat.Rt

/- Part 7 of the texts behind the last one: rules and contracts. No condition. -/
import Derived.Test.YtmeldddgjfocdaaGreatGL6
open Option renaming bind_eq_some_iff → vQQ, map_eq_some_iff → vZW, bind_some → vYQ
open Option.some renaming injEq → vQZ
open Prod.mk renaming injEq → vQY
open Bool renaming and_eq_true → vQJ, and_self → vZJ
open List renaming getElem?_eq_getElem → vQK, mem_of_getElem? → vQG, mem_cons_of_mem → vQH, mem_cons_self → vZQ, getElem?_map → vZY, getD_eq_getElem?_getD → vZG
open Nat renaming eq_of_beq_eq_true → vQX, le_of_ble_eq_true → vZX
namespace Go.Rx
open Go.RowKit Go.Sx
def asc {α:Type}:List (Nat × α)→Nat→Option α
 | [],_=>none
 | (k,x) :: l,i=>bif Nat.beq k i then some x else asc l i
theorem qJZ {α:Type} {l:List (Nat × α)} {i:Nat} {x:α} (h:asc l i=some x):(i,x) ∈ l:=by
 induction l with
 | nil=>cases h
 | cons y l ih =>
  obtain ⟨k,z⟩:=y;simp only [asc] at h;cases hc:Nat.beq k i with
  | true=>rw [hc] at h; cases h; rw [← vQX hc]; exact vZQ
  | false=>rw [hc] at h; exact vQH _ (ih h)
def inL:List Nat→Nat→Bool
 | [],_=>false
 | k :: l,i=>bif Nat.beq k i then true else inL l i
theorem yVE {l:List Nat} {i:Nat} (h:inL l i=true):i ∈ l:=by
 induction l with
 | nil=>cases h
 | cons k l ih =>
  simp only [inL] at h;cases hc:Nat.beq k i with
  | true=>rw [← vQX hc]; exact vZQ
  | false=>rw [hc] at h; exact vQH _ (ih h)
structure Tabs where
 sz:List (Nat × (Bool × Nat))
 zr:List (Nat × Value)
 fd:List (Nat × List Nat)
 fx:List (Nat × List (Nat × Bool × Nat))
 ar:List (Nat × (Nat × Nat × Bool))
 sl:List (Nat × (Nat × Nat × Nat))
 ly:List (Nat × List (Nat × Nat))
 ik:List (Nat × IntKind)
 str:List Nat
 bo:List Nat
 eq:List (Nat × List Kd)
 fn:List (Nat × Func)
 hint:List (Nat × List (Nat × Hint))
 rw:List Nat
 ow:List (Nat × List Nat)
 dd:List Nat
 ff:List Nat:=[]
 big:List Nat:=[]
 zf:List Nat:=[]
 ag:List Nat:=[]
 bf:List Nat:=[]
 sf:List Nat:=[]
def yGY:Value→Option HV
 | .slice none 0 0=>some .nl
 | v=>(zYA v).bind fun p=>some (.v p)
def FnI.of (fn:Func):FnI:=⟨fn.body.getD .skip,fn.ntmps,fn.results.toList⟩
def Tabs.tab (t:Tabs):Tab where
 sz:=asc t.sz
 zr:=fun i=>(asc t.zr i).bind fun z=>mapO zYA z.cells.toList
 zh:=fun i=>(asc t.zr i).bind fun z=>mapO yGY z.cells.toList
 fd:=fun i f=>(asc t.fd i).bind fun l=>l[f]?
 fx:=fun i f=>(asc t.fx i).bind fun l=>l[f]?
 ar:=asc t.ar
 sl:=fun i=>(asc t.sl i).bind fun x=>some (x.1,x.2.1)
 ly:=asc t.ly
 ik:=asc t.ik
 str:=inL t.str
 bo:=inL t.bo
 eqK:=asc t.eq
 fn:=fun i=>(asc t.fn i).bind fun f=>some (FnI.of f)
 hint:=fun f r=>match (asc t.hint f).bind fun l=>asc l r with | some h=>h | none=>{}
 rw:=inL t.rw
 ownR:=fun f d=>match asc t.ow f with | some l=>inL l d | none=>false
 dd:=inL t.dd
 ff:=inL t.ff
 zf:=inL t.zf
 agf:=inL t.ag
 bf:=inL t.bf
 sf:=inL t.sf
 bd:=fun e=>bif inL t.big e then 8796093022208 else 1000000
def allI {α:Type} (p:Nat→α→Bool):Nat→List α→Bool
 | _,[]=>true
 | i,x :: l=>p i x && allI p (i + 1) l
theorem yZB {α:Type} {p:Nat→α→Bool}:∀ {l:List α} {k:Nat},allI p k l=true→∀ {i:Nat} {x:α},l[i]? = some x→p (k + i) x=true
 | [],_,_,i,x,hx=>by simp at hx
 | y :: l,k,h,i,x,hx=>by
  simp only [allI,vQJ] at h;cases i with
  | zero=>simp at hx; subst hx; exact h.1
  | succ i =>
   have:=yZB h.2 (i:=i) (x:=x) (by simpa using hx)
   rw [show k + (i + 1)=k + 1 + i by omega]; exact this
def fxB (P:Program) (t:Nat) (f:Nat) (x:Nat × Bool × Nat):Bool :=
 match P.underlying t with
 | some (.struct fields)=>match fields[f]? with
  | some fld=>fld.offset == x.1 && tyB P fld.type x.2.1 x.2.2 && (x.2.1 || Nat.beq x.2.2 1)
  | none=>false
 | _=>false
def arX (P:Program) (t:Nat) (x:Nat × Nat × Bool):Bool :=
 arrB P t x.1 x.2.1 && match P.underlying t with
 | some (.array n e)=>n == x.1 && tyB P e x.2.2 x.2.1 && (x.2.2 || Nat.beq x.2.1 1)
 | _=>false
def KV1:Kd→Value→Prop
 | .i k,v=>∃ x,v=.int k x
 | .b,v=>∃ x,v=.bool x
 | .s,v=>∃ x,v=.string x
def KV:List Kd→List Value→Prop
 | [],vs=>vs=[]
 | k :: ks,vs=>∃ v us,vs=v :: us∧KV1 k v∧KV ks us
def AllP {α:Type} (p:α→Prop):List α→Prop
 | []=>True
 | x :: l=>p x∧AllP p l
theorem AllP.of {α:Type} {p:α→Prop}:∀ {l:List α},AllP p l→∀ {x},x ∈ l→p x
 | [],_,x,hx=>by simp at hx
 | y :: l,h,x,hx=>by
  rcases List.mem_cons.1 hx with rfl | hx
  ·exact h.1
  ·exact h.2.of hx
theorem xVC:∀ {ks:List Kd} {ps:List PV} {vs:List Value} {F:Nat→Prop} {w:World},qGX ks ps=true→Al (RP F w) ps vs→KV ks vs
 | [],[],vs,_,_,_,h=>h.nil_left
 | k :: ks,p :: ps,vs,F,w,hk,h=>by
  simp only [qGX,vQJ] at hk;obtain ⟨v,us,rfl,hv,hu⟩:=h.cons_left;refine ⟨v,us,rfl,?_,xVC hk.2 hu⟩
  have:=hk.1
  unfold kdIs at this;split at this
  ·rename_i k1 k2 x;have e:k1=k2:=by simpa using this
   subst e;cases hv; exact ⟨_,rfl⟩
  ·cases hv; exact ⟨_,rfl⟩
  ·cases hv; exact ⟨_,rfl⟩
  ·cases this
 | [],_ :: _,_,_,_,h,_=>by simp [qGX] at h
 | _ :: _,[],_,_,_,h,_=>by simp [qGX] at h
structure Tabs.Ok (P:Program) (t:Tabs):Prop where
 sz:t.sz.all (fun x=>tyB P x.1 x.2.1 x.2.2 && (x.2.1 || Nat.beq x.2.2 1))=true
 zr:t.zr.map (fun x=>(P.info? x.1).bind (·.zero))=t.zr.map (fun x=>some x.2)
 fd:t.fd.all (fun x=>allI (fun f o=>qGW P x.1 f o) 0 x.2)=true
 fx:t.fx.all (fun x=>allI (fxB P x.1) 0 x.2)=true
 ar:t.ar.all (fun x=>arX P x.1 x.2)=true
 sl:t.sl.all (fun x=>slcB P x.1 x.2.1 x.2.2.1 && Nat.blt 0 x.2.2.1 && Nat.ble x.2.2.1 1000 && appB P x.1 x.2.1 x.2.2.1 x.2.2.2 && Nat.ble x.2.2.2 100000 && (Nat.ble x.2.2.2 16 || !inL t.big x.2.1))=true
 ly:t.ly.map (fun x=>(qKL P x.1).map (·.2))=t.ly.map (fun x=>some x.2)
 ik:t.ik.map (fun x=>P.underlying x.1)=t.ik.map (fun x=>some (.int x.2))
 str:t.str.map (fun x=>P.underlying x)=t.str.map (fun _=>some .string)
 bo:t.bo.map (fun x=>P.underlying x)=t.bo.map (fun _=>some .bool)
 eq:AllP (fun x:Nat × List Kd=>aggB P x.1=true∧∀ vs,KV x.2 vs→qZI P 12 x.1 vs=true) t.eq
 fn:AllP (fun x:Nat × Func=>P.funcs[x.1]? = some x.2) t.fn
 fn2:t.fn.all (fun x => !(x.2.name == "runtime.NumGoroutine") && !x.2.body.isNone)=true
 dd:∀ f ∈ t.dd,uV P f∧∀ (args:Array Value) (w:World),CallsD P f args .returning w fun e u w'=>(∃ v,e=.returned v)∧u=.returning∧w'=w
theorem zJU {α β:Type} {f g:α→β} {l:List α} (h:l.map f=l.map g) {x:α} (hx:x ∈ l):f x=g x:=by
 induction l with
 | nil=>simp at hx
 | cons y l ih =>
  simp only [List.map_cons,List.cons.injEq] at h;rcases List.mem_cons.1 hx with rfl | hx
  ·exact h.1
  ·exact ih h.2 hx
theorem Tabs.ok {P:Program} {t:Tabs} (h:t.Ok P):TabOk P t.tab where
 sz:=fun i b k hi=>by
  have:=List.all_eq_true.1 h.sz _ (qJZ hi)
  simp only [vQJ,Bool.or_eq_true] at this;refine ⟨this.1,fun hb => ?_⟩;rcases this.2 with h1 | h1
  ·rw [hb] at h1; cases h1
  ·exact vQX h1
 zr:=fun i ps hi=>by
  simp only [Tabs.tab,vQQ] at hi;obtain ⟨z,hz,hps⟩:=hi
  have:=zJU h.zr (qJZ hz)
  refine ⟨z,this,?_⟩;have h1:=kJ hps;exact ⟨h1.1.symm,fun j p v hp hv=>⟨fun F w=>(qZL (F:=F) (w:=w) (h1.2 j v p hv hp)).1,(qZL (F:=fun _=>False) (w:=default) (h1.2 j v p hv hp)).2⟩⟩
 zh:=fun i hs hi=>by
  simp only [Tabs.tab,vQQ] at hi;obtain ⟨z,hz,hps⟩:=hi
  have:=zJU h.zr (qJZ hz)
  refine ⟨z,this,?_⟩;have h1:=kJ hps;refine ⟨h1.1.symm,fun j p v hp hv => ?_⟩;have h2:yGY v=some p:=h1.2 j v p hv hp;unfold yGY at h2;split at h2
  ·cases h2; exact ⟨fun _ _ _=>rfl,rfl⟩
  ·simp only [vQQ,vQZ] at h2;obtain ⟨q,hq,rfl⟩:=h2;exact ⟨fun ρ F w=>(qZL (F:=F) (w:=w) hq).1,(qZL (F:=fun _=>False) (w:=default) hq).2⟩
 fd:=fun i f o hi=>by
  simp only [Tabs.tab,vQQ] at hi;obtain ⟨l,hl,ho⟩:=hi
  have:=yZB (List.all_eq_true.1 h.fd _ (qJZ hl)) ho
  simpa using this
 fx:=fun i f o b k hi=>by
  simp only [Tabs.tab,vQQ] at hi;obtain ⟨l,hl,ho⟩:=hi
  have:=yZB (List.all_eq_true.1 h.fx _ (qJZ hl)) ho
  rw [Nat.zero_add] at this;unfold fxB at this;split at this
  ·rename_i fields hu;split at this
   ·rename_i fld hf;simp only [vQJ,Bool.or_eq_true] at this;refine ⟨fields,fld,hu,hf,by simpa using this.1.1,this.1.2,fun hb => ?_⟩;rcases this.2 with h1 | h1
    ·rw [hb] at h1; cases h1
    ·exact vQX h1
   ·cases this
  ·cases this
 ar:=fun i n k b hi=>by
  have:=List.all_eq_true.1 h.ar _ (qJZ hi)
  simp only [arX,vQJ] at this;refine ⟨this.1,?_⟩;have h2:=this.2;split at h2
  ·rename_i m e hu;simp only [vQJ,Bool.or_eq_true] at h2;have hm:m=n:=by simpa using h2.1.1
   subst hm;refine ⟨e,hu,h2.1.2,fun hb => ?_⟩;rcases h2.2 with h1 | h1
   ·rw [hb] at h1; cases h1
   ·exact vQX h1
  ·cases h2
 sl:=fun i e k hi=>by
  simp only [Tabs.tab,vQQ,vQZ,vQY] at hi;obtain ⟨x,hx,rfl,rfl⟩:=hi
  have:=List.all_eq_true.1 h.sl _ (qJZ hx)
  simp only [vQJ,Bool.or_eq_true,Bool.not_eq_true'] at this;have hb:=vZX this.1.2;refine ⟨this.1.1.1.1.1,by simpa [Nat.blt_eq] using this.1.1.1.1.2,vZX this.1.1.1.2,x.2.2,this.1.1.2,hb,?_⟩;show (bif inL t.big x.1 then 8796093022208 else 1000000) * x.2.2≤140737488355328∧(bif inL t.big x.1 then 8796093022208 else 1000000)≤8796093022208;cases hL:inL t.big x.1 with
  | false =>
   refine ⟨?_,by decide⟩;rw [vYG];omega
  | true =>
   refine ⟨?_,by decide⟩;rcases this.2 with h1 | h1
   ·have:=vZX h1
    rw [vYV];omega
   ·rw [hL] at h1; cases h1
 ly:=fun i pl hi=>by
  have:=zJU h.ly (qJZ hi)
  simp only [vZW] at this;obtain ⟨⟨z,pl'⟩,hz,rfl⟩:=this;refine ⟨z,hz,fun ps hps => ?_⟩;simp only [Tabs.tab,vQQ] at hps;obtain ⟨z',hz',hps⟩:=hps;have h0:(P.info? i).bind (·.zero)=some z':=zJU h.zr (qJZ hz');have e:z=z'.cells.toList:=by
   unfold qKL at hz;split at hz
   ·rename_i it n e hi _;rw [hi] at h0;simp only [vYQ] at h0;rw [h0] at hz;split at hz
    ·rename_i h1 _; cases h1; cases hz; rfl
    ·cases hz
   ·rename_i it fields hi _;rw [hi] at h0;simp only [vYQ] at h0;rw [h0] at hz;split at hz
    ·rename_i h1 _; cases h1; cases hz; rfl
    ·cases hz
   ·cases hz
  subst e;have h1:=kJ hps;exact ⟨h1.1.symm,fun j p v hp hv=>⟨fun F w=>(qZL (F:=F) (w:=w) (h1.2 j v p hv hp)).1,(qZL (F:=fun _=>False) (w:=default) (h1.2 j v p hv hp)).2⟩⟩
 ik:=fun i k hi=>zJU h.ik (qJZ hi)
 str:=fun i hi=>zJU h.str (yVE hi)
 bo:=fun i hi=>zJU h.bo (yVE hi)
 eqK:=fun i ks hi=>by
  have:=h.eq.of (qJZ hi)
  exact ⟨this.1,fun vs ⟨ps,F,w,hk,hal⟩=>this.2 vs (xVC hk hal)⟩
 dd:=fun f hf=>h.dd f (yVE hf)
 fn:=fun f fi hi=>by
  simp only [Tabs.tab,vQQ,vQZ] at hi;obtain ⟨fn,hfn,rfl⟩:=hi;have h1:=h.fn.of (qJZ hfn);have h2:=List.all_eq_true.1 h.fn2 _ (qJZ hfn);simp only [vQJ,Bool.not_eq_true'] at h2;simp only at h1 h2;refine ⟨qW h1 h2.1 h2.2,fn,h1,?_,rfl,by simp [FnI.of]⟩;cases hb:fn.body with
  | none=>rw [hb] at h2; simp at h2
  | some b=>simp [FnI.of,hb]
end Go.Rx
namespace Go.Proofs.YtmeldddgjfocdaaGreat.Rt
open Go.Rx Go.Sx
noncomputable def tabs:Tabs where
 sz:=[(1,false,1),
  (2,false,1),
  (3,false,1),
  (4,false,1),
  (5,false,1),
  (6,false,1),
  (7,true,4),
  (8,true,4),
  (9,false,1),
  (10,false,1),
  (11,false,1),
  (12,false,1),
  (13,true,2),
  (14,true,2),
  (15,false,1),
  (16,false,1),
  (17,false,1),
  (18,true,1),
  (19,true,1),
  (20,false,1),
  (21,false,1),
  (22,false,1),
  (23,false,1),
  (24,true,2),
  (25,true,2),
  (26,false,1),
  (27,false,1),
  (28,true,4),
  (29,true,4),
  (30,false,1),
  (31,false,1),
  (32,false,1),
  (33,false,1),
  (34,false,1),
  (35,false,1),
  (36,false,1),
  (37,false,1),
  (38,false,1),
  (39,false,1),
  (40,false,1),
  (41,true,9),
  (42,true,9),
  (43,false,1),
  (44,false,1),
  (45,false,1),
  (46,false,1),
  (47,false,1),
  (48,false,1),
  (49,true,1),
  (50,true,1),
  (51,false,1),
  (52,false,1),
  (53,false,1),
  (54,false,1),
  (55,false,1),
  (56,false,1),
  (57,true,3),
  (58,true,3),
  (59,true,4),
  (60,true,4),
  (61,true,2),
  (62,true,2),
  (63,true,6),
  (64,true,18),
  (65,true,18),
  (66,true,6),
  (67,true,24),
  (68,true,24),
  (69,false,1),
  (70,false,1),
  (71,false,1),
  (72,false,1),
  (73,false,1),
  (74,false,1),
  (75,false,1),
  (76,false,1),
  (78,false,1),
  (80,false,1),
  (81,false,1),
  (82,false,1),
  (84,false,1),
  (85,true,2),
  (86,true,2),
  (87,false,1),
  (88,false,1),
  (89,false,1),
  (90,false,1),
  (91,false,1),
  (92,false,1),
  (93,true,3),
  (94,true,3),
  (95,false,1),
  (96,false,1),
  (97,false,1),
  (98,false,1),
  (99,false,1),
  (100,false,1),
  (101,false,1),
  (102,true,2),
  (103,true,2),
  (104,true,12),
  (105,true,12),
  (106,false,1),
  (107,false,1),
  (108,false,1),
  (109,false,1),
  (110,false,1),
  (111,false,1),
  (112,false,1),
  (113,false,1),
  (114,false,1),
  (115,false,1),
  (116,true,3),
  (117,true,3),
  (118,true,4),
  (119,false,1),
  (120,false,1),
  (121,false,1),
  (122,false,1),
  (123,false,1),
  (124,false,1),
  (125,false,1),
  (126,false,1),
  (127,false,1),
  (128,false,1),
  (129,false,1),
  (130,false,1),
  (131,false,1),
  (132,false,1),
  (133,true,5),
  (134,true,5),
  (135,false,1),
  (136,false,1),
  (137,false,1),
  (138,false,1),
  (139,false,1),
  (140,false,1),
  (141,false,1),
  (142,false,1),
  (143,false,1),
  (144,false,1),
  (145,true,2),
  (146,true,2),
  (147,false,1),
  (148,false,1),
  (149,false,1),
  (150,true,1),
  (151,true,1),
  (152,false,1),
  (153,false,1),
  (154,false,1),
  (155,false,1),
  (156,false,1),
  (157,false,1),
  (158,false,1),
  (159,false,1),
  (160,false,1),
  (161,false,1),
  (162,false,1),
  (163,false,1),
  (164,false,1),
  (165,false,1),
  (166,false,1),
  (167,false,1),
  (168,false,1),
  (169,false,1),
  (170,false,1),
  (171,false,1),
  (172,false,1),
  (173,false,1),
  (174,false,1),
  (175,false,1),
  (176,false,1),
  (177,false,1),
  (178,false,1),
  (179,true,8),
  (180,false,1),
  (181,false,1),
  (182,false,1),
  (183,false,1),
  (184,false,1),
  (185,false,1),
  (186,false,1),
  (187,false,1),
  (188,false,1),
  (189,false,1),
  (190,false,1),
  (191,false,1),
  (192,false,1),
  (193,false,1),
  (194,false,1),
  (195,false,1),
  (196,false,1),
  (197,false,1),
  (198,false,1),
  (199,false,1),
  (200,false,1),
  (201,true,4),
  (202,false,1),
  (203,false,1),
  (204,false,1),
  (205,false,1),
  (206,false,1),
  (207,true,11),
  (209,false,1),
  (210,true,11),
  (212,false,1),
  (213,false,1),
  (214,false,1),
  (215,true,4),
  (216,true,4),
  (220,false,1)]
 zr:=[(1,.nilFunc),
  (2,.int .i64 0),
  (3,.int .i64 0),
  (4,.bool false),
  (5,.int .u8 0),
  (6,.int .u8 0),
  (7,.agg #[.int .i64 0,.int .i64 0,.bool false,.int .u8 0]),
  (8,.agg #[.int .i64 0,.int .i64 0,.bool false,.int .u8 0]),
  (9,.string ByteArray.empty),
  (10,.string ByteArray.empty),
  (11,.string ByteArray.empty),
  (12,.int .u64 0),
  (13,.agg #[.string ByteArray.empty,.int .u64 0]),
  (14,.agg #[.string ByteArray.empty,.int .u64 0]),
  (15,.pointer none),
  (16,.pointer none),
  (17,.pointer none),
  (18,.agg #[.pointer none]),
  (19,.agg #[.pointer none]),
  (20,.nilIface),
  (21,.int .i32 0),
  (22,.slice none 0 0),
  (23,.slice none 0 0),
  (24,.agg #[.slice none 0 0,.slice none 0 0]),
  (25,.agg #[.slice none 0 0,.slice none 0 0]),
  (26,.slice none 0 0),
  (27,.slice none 0 0),
  (28,.agg #[.slice none 0 0,.slice none 0 0,.slice none 0 0,.slice none 0 0]),
  (29,.agg #[.slice none 0 0,.slice none 0 0,.slice none 0 0,.slice none 0 0]),
  (30,.slice none 0 0),
  (31,.slice none 0 0),
  (32,.nilFunc),
  (33,.nilFunc),
  (34,.nilFunc),
  (35,.nilFunc),
  (36,.nilFunc),
  (37,.slice none 0 0),
  (38,.slice none 0 0),
  (39,.slice none 0 0),
  (40,.slice none 0 0),
  (41,.agg #[.slice none 0 0,.slice none 0 0,.slice none 0 0,.slice none 0 0,.slice none 0 0,.slice none 0 0,.slice none 0 0,.slice none 0 0,.int .i64 0]),
  (42,.agg #[.slice none 0 0,.slice none 0 0,.slice none 0 0,.slice none 0 0,.slice none 0 0,.slice none 0 0,.slice none 0 0,.slice none 0 0,.int .i64 0]),
  (43,.nilFunc),
  (44,.nilFunc),
  (45,.nilFunc),
  (46,.int .i64 0),
  (47,.nilFunc),
  (48,.nilFunc),
  (49,.agg #[.slice none 0 0]),
  (50,.agg #[.slice none 0 0]),
  (51,.nilFunc),
  (52,.nilFunc),
  (53,.nilFunc),
  (54,.slice none 0 0),
  (55,.nilFunc),
  (56,.nilFunc),
  (57,.agg #[.int .i64 0,.int .i64 0,.int .i64 0]),
  (58,.agg #[.int .i64 0,.int .i64 0,.int .i64 0]),
  (59,.agg #[.int .i64 0,.int .i64 0,.int .i64 0,.int .i64 0]),
  (60,.agg #[.int .i64 0,.int .i64 0,.int .i64 0,.int .i64 0]),
  (61,.agg #[.int .i64 0,.int .i64 0]),
  (62,.agg #[.int .i64 0,.int .i64 0]),
  (63,.agg #[.int .i64 0,.int .i64 0,.int .i64 0,.int .i64 0,.int .i64 0,.int .i64 0]),
  (64,.agg #[.int .i64 0,.int .i64 0,.int .i64 0,.int .i64 0,.int .i64 0,.int .i64 0,.int .i64 0,.int .i64 0,.int .i64 0,.int .i64 0,.int .i64 0,.int .i64 0,.int .i64 0,.int .i64 0,.int .i64 0,.int .i64 0,.int .i64 0,.int .i64 0]),
  (65,.agg #[.int .i64 0,.int .i64 0,.int .i64 0,.int .i64 0,.int .i64 0,.int .i64 0,.int .i64 0,.int .i64 0,.int .i64 0,.int .i64 0,.int .i64 0,.int .i64 0,.int .i64 0,.int .i64 0,.int .i64 0,.int .i64 0,.int .i64 0,.int .i64 0]),
  (66,.agg #[.int .i64 0,.int .i64 0,.int .i64 0,.int .i64 0,.int .i64 0,.int .i64 0]),
  (67,.agg #[.int .i64 0,.int .i64 0,.int .i64 0,.int .i64 0,.int .i64 0,.int .i64 0,.int .i64 0,.int .i64 0,.int .i64 0,.int .i64 0,.int .i64 0,.int .i64 0,.int .i64 0,.int .i64 0,.int .i64 0,.int .i64 0,.int .i64 0,.int .i64 0,.int .i64 0,.int .i64 0,.int .i64 0,.int .i64 0,.int .i64 0,.int .i64 0]),
  (68,.agg #[.int .i64 0,.int .i64 0,.int .i64 0,.int .i64 0,.int .i64 0,.int .i64 0,.int .i64 0,.int .i64 0,.int .i64 0,.int .i64 0,.int .i64 0,.int .i64 0,.int .i64 0,.int .i64 0,.int .i64 0,.int .i64 0,.int .i64 0,.int .i64 0,.int .i64 0,.int .i64 0,.int .i64 0,.int .i64 0,.int .i64 0,.int .i64 0]),
  (69,.slice none 0 0),
  (70,.nilFunc),
  (71,.nilFunc),
  (72,.nilFunc),
  (73,.nilFunc),
  (74,.nilFunc),
  (75,.nilFunc),
  (76,.nilFunc),
  (78,.nilFunc),
  (80,.nilFunc),
  (81,.nilFunc),
  (82,.nilFunc),
  (84,.nilFunc),
  (85,.agg #[.string ByteArray.empty,.slice none 0 0]),
  (86,.agg #[.string ByteArray.empty,.slice none 0 0]),
  (87,.nilFunc),
  (88,.nilFunc),
  (89,.nilFunc),
  (90,.slice none 0 0),
  (91,.nilFunc),
  (92,.slice none 0 0),
  (93,.agg #[.int .i64 0,.int .i64 0,.slice none 0 0]),
  (94,.agg #[.int .i64 0,.int .i64 0,.slice none 0 0]),
  (95,.nilFunc),
  (96,.pointer none),
  (97,.nilFunc),
  (98,.nilFunc),
  (99,.nilFunc),
  (100,.nilFunc),
  (101,.nilFunc),
  (102,.agg #[.int .i64 0,.int .i64 0]),
  (103,.agg #[.int .i64 0,.int .i64 0]),
  (104,.agg #[.string ByteArray.empty,.int .i64 0,.int .i64 0,.int .i64 0,.int .i64 0,.int .i64 0,.int .i64 0,.int .i64 0,.int .i64 0,.int .i64 0,.int .i64 0,.int .i64 0]),
  (105,.agg #[.string ByteArray.empty,.int .i64 0,.int .i64 0,.int .i64 0,.int .i64 0,.int .i64 0,.int .i64 0,.int .i64 0,.int .i64 0,.int .i64 0,.int .i64 0,.int .i64 0]),
  (106,.nilFunc),
  (107,.nilFunc),
  (108,.nilFunc),
  (109,.nilFunc),
  (110,.nilFunc),
  (111,.nilFunc),
  (112,.nilFunc),
  (113,.nilFunc),
  (114,.nilFunc),
  (115,.nilFunc),
  (116,.agg #[.int .i64 0,.int .i64 0,.slice none 0 0]),
  (117,.agg #[.int .i64 0,.int .i64 0,.slice none 0 0]),
  (118,.agg #[.string ByteArray.empty,.string ByteArray.empty,.string ByteArray.empty,.string ByteArray.empty]),
  (119,.nilFunc),
  (120,.nilFunc),
  (121,.nilFunc),
  (122,.nilFunc),
  (123,.nilFunc),
  (124,.nilFunc),
  (125,.nilFunc),
  (126,.nilFunc),
  (127,.nilFunc),
  (128,.nilFunc),
  (129,.nilFunc),
  (130,.nilFunc),
  (131,.nilFunc),
  (132,.nilFunc),
  (133,.agg #[.int .i64 0,.int .i64 0,.int .i64 0,.int .i64 0,.int .i64 0]),
  (134,.agg #[.int .i64 0,.int .i64 0,.int .i64 0,.int .i64 0,.int .i64 0]),
  (135,.nilFunc),
  (136,.nilFunc),
  (137,.nilFunc),
  (138,.nilFunc),
  (139,.nilFunc),
  (140,.nilFunc),
  (141,.nilFunc),
  (142,.nilFunc),
  (143,.nilFunc),
  (144,.nilFunc),
  (145,.agg #[.slice none 0 0,.int .i64 0]),
  (146,.agg #[.slice none 0 0,.int .i64 0]),
  (147,.nilFunc),
  (148,.nilFunc),
  (149,.nilFunc),
  (150,.agg #[.nilFunc]),
  (151,.agg #[.nilFunc]),
  (152,.nilFunc),
  (153,.nilFunc),
  (154,.nilFunc),
  (155,.nilFunc),
  (156,.nilFunc),
  (157,.nilFunc),
  (158,.nilFunc),
  (159,.nilFunc),
  (160,.nilFunc),
  (161,.nilFunc),
  (162,.nilFunc),
  (163,.nilFunc),
  (164,.nilFunc),
  (165,.nilFunc),
  (166,.nilFunc),
  (167,.nilFunc),
  (168,.nilFunc),
  (169,.nilFunc),
  (170,.nilFunc),
  (171,.nilFunc),
  (172,.nilFunc),
  (173,.nilFunc),
  (174,.nilFunc),
  (175,.nilFunc),
  (176,.nilFunc),
  (177,.nilFunc),
  (178,.nilFunc),
  (179,.agg #[.int .i64 0,.int .i64 0,.int .i64 0,.int .i64 0,.int .i64 0,.int .i64 0,.int .i64 0,.int .i64 0]),
  (180,.int .i64 0),
  (181,.nilFunc),
  (182,.nilFunc),
  (183,.nilFunc),
  (184,.nilFunc),
  (185,.nilFunc),
  (186,.nilFunc),
  (187,.nilFunc),
  (188,.nilFunc),
  (189,.nilFunc),
  (190,.nilFunc),
  (191,.nilFunc),
  (192,.nilFunc),
  (193,.nilFunc),
  (194,.nilFunc),
  (195,.nilFunc),
  (196,.nilFunc),
  (197,.nilFunc),
  (198,.nilFunc),
  (199,.nilFunc),
  (200,.nilFunc),
  (201,.agg #[.int .i64 0,.int .i64 0,.int .i64 0,.int .i64 0]),
  (202,.nilFunc),
  (203,.nilFunc),
  (204,.nilFunc),
  (205,.nilFunc),
  (206,.nilFunc),
  (207,.agg #[.int .i64 0,.int .i64 0,.int .i64 0,.int .i64 0,.int .i64 0,.int .i64 0,.int .i64 0,.int .i64 0,.int .i64 0,.int .i64 0,.int .i64 0]),
  (209,.nilFunc),
  (210,.agg #[.int .i64 0,.int .i64 0,.int .i64 0,.int .i64 0,.int .i64 0,.int .i64 0,.int .i64 0,.int .i64 0,.int .i64 0,.int .i64 0,.int .i64 0]),
  (212,.nilFunc),
  (213,.nilFunc),
  (214,.nilFunc),
  (215,.agg #[.pointer none,.pointer none,.pointer none,.string ByteArray.empty]),
  (216,.agg #[.pointer none,.pointer none,.pointer none,.string ByteArray.empty]),
  (217,.agg #[]),
  (218,.agg #[]),
  (220,.nilFunc)]
 fd:=[(7,[0,1,2,3]),
  (8,[0,1,2,3]),
  (13,[0,1]),
  (14,[0,1]),
  (18,[0]),
  (19,[0]),
  (24,[0,1]),
  (25,[0,1]),
  (28,[0,2,3]),
  (29,[0,2,3]),
  (41,[0,4,5,6,7,8]),
  (42,[0,4,5,6,7,8]),
  (49,[0]),
  (50,[0]),
  (59,[0,1]),
  (60,[0,1]),
  (61,[0,1]),
  (62,[0,1]),
  (67,[0,18]),
  (68,[0,18]),
  (85,[0,1]),
  (86,[0,1]),
  (93,[0,1,2]),
  (94,[0,1,2]),
  (102,[0,1]),
  (103,[0,1]),
  (104,[0,1,2,3,6,7,8,9,10,11]),
  (105,[0,1,2,3,6,7,8,9,10,11]),
  (116,[0,1,2]),
  (117,[0,1,2]),
  (133,[0,1,2]),
  (134,[0,1,2]),
  (145,[0,1]),
  (146,[0,1]),
  (150,[0]),
  (151,[0]),
  (215,[0,1,2,3]),
  (216,[0,1,2,3])]
 fx:=[(7,[(0,false,1),(1,false,1),(2,false,1),(3,false,1)]),
  (8,[(0,false,1),(1,false,1),(2,false,1),(3,false,1)]),
  (13,[(0,false,1),(1,false,1)]),
  (14,[(0,false,1),(1,false,1)]),
  (18,[(0,false,1)]),
  (19,[(0,false,1)]),
  (24,[(0,false,1),(1,false,1)]),
  (25,[(0,false,1),(1,false,1)]),
  (28,[(0,true,2),(2,false,1),(3,false,1)]),
  (29,[(0,true,2),(2,false,1),(3,false,1)]),
  (41,[(0,true,4),(4,false,1),(5,false,1),(6,false,1),(7,false,1),(8,false,1)]),
  (42,[(0,true,4),(4,false,1),(5,false,1),(6,false,1),(7,false,1),(8,false,1)]),
  (49,[(0,false,1)]),
  (50,[(0,false,1)]),
  (59,[(0,false,1),(1,true,3)]),
  (60,[(0,false,1),(1,true,3)]),
  (61,[(0,false,1),(1,false,1)]),
  (62,[(0,false,1),(1,false,1)]),
  (67,[(0,true,18),(18,true,6)]),
  (68,[(0,true,18),(18,true,6)]),
  (85,[(0,false,1),(1,false,1)]),
  (86,[(0,false,1),(1,false,1)]),
  (93,[(0,false,1),(1,false,1),(2,false,1)]),
  (94,[(0,false,1),(1,false,1),(2,false,1)]),
  (102,[(0,false,1),(1,false,1)]),
  (103,[(0,false,1),(1,false,1)]),
  (104,[(0,false,1),(1,false,1),(2,false,1),(3,true,3),(6,false,1),(7,false,1),(8,false,1),(9,false,1),(10,false,1),(11,false,1)]),
  (105,[(0,false,1),(1,false,1),(2,false,1),(3,true,3),(6,false,1),(7,false,1),(8,false,1),(9,false,1),(10,false,1),(11,false,1)]),
  (116,[(0,false,1),(1,false,1),(2,false,1)]),
  (117,[(0,false,1),(1,false,1),(2,false,1)]),
  (133,[(0,false,1),(1,false,1),(2,true,3)]),
  (134,[(0,false,1),(1,false,1),(2,true,3)]),
  (145,[(0,false,1),(1,false,1)]),
  (146,[(0,false,1),(1,false,1)]),
  (150,[(0,false,1)]),
  (151,[(0,false,1)]),
  (215,[(0,false,1),(1,false,1),(2,false,1),(3,false,1)]),
  (216,[(0,false,1),(1,false,1),(2,false,1),(3,false,1)])]
 ar:=[(57,3,1,false),
  (58,3,1,false),
  (63,3,2,true),
  (64,3,6,true),
  (65,3,6,true),
  (66,3,2,true),
  (118,4,1,false),
  (179,8,1,false),
  (201,4,1,false),
  (207,11,1,false),
  (210,11,1,false),
  (217,0,1,false)]
 sl:=[(22,105,12,104),
  (23,134,5,40),
  (26,94,3,40),
  (27,103,2,16),
  (30,62,2,16),
  (31,3,1,8),
  (37,86,2,40),
  (38,58,3,24),
  (39,60,4,32),
  (40,117,3,40),
  (54,2,1,8),
  (69,68,24,192),
  (90,92,1,24),
  (92,66,6,48)]
 ly:=[(7,[(0,1),(1,1),(2,1),(3,1)]),
  (8,[(0,1),(1,1),(2,1),(3,1)]),
  (13,[(0,1),(1,1)]),
  (14,[(0,1),(1,1)]),
  (18,[(0,1)]),
  (19,[(0,1)]),
  (24,[(0,1),(1,1)]),
  (25,[(0,1),(1,1)]),
  (28,[(0,2),(2,1),(3,1)]),
  (29,[(0,2),(2,1),(3,1)]),
  (41,[(0,4),(4,1),(5,1),(6,1),(7,1),(8,1)]),
  (42,[(0,4),(4,1),(5,1),(6,1),(7,1),(8,1)]),
  (49,[(0,1)]),
  (50,[(0,1)]),
  (57,[(0,1),(1,1),(2,1)]),
  (58,[(0,1),(1,1),(2,1)]),
  (59,[(0,1),(1,3)]),
  (60,[(0,1),(1,3)]),
  (61,[(0,1),(1,1)]),
  (62,[(0,1),(1,1)]),
  (63,[(0,2),(2,2),(4,2)]),
  (64,[(0,6),(6,6),(12,6)]),
  (65,[(0,6),(6,6),(12,6)]),
  (66,[(0,2),(2,2),(4,2)]),
  (67,[(0,18),(18,6)]),
  (68,[(0,18),(18,6)]),
  (85,[(0,1),(1,1)]),
  (86,[(0,1),(1,1)]),
  (93,[(0,1),(1,1),(2,1)]),
  (94,[(0,1),(1,1),(2,1)]),
  (102,[(0,1),(1,1)]),
  (103,[(0,1),(1,1)]),
  (104,[(0,1),(1,1),(2,1),(3,3),(6,1),(7,1),(8,1),(9,1),(10,1),(11,1)]),
  (105,[(0,1),(1,1),(2,1),(3,3),(6,1),(7,1),(8,1),(9,1),(10,1),(11,1)]),
  (116,[(0,1),(1,1),(2,1)]),
  (117,[(0,1),(1,1),(2,1)]),
  (118,[(0,1),(1,1),(2,1),(3,1)]),
  (133,[(0,1),(1,1),(2,3)]),
  (134,[(0,1),(1,1),(2,3)]),
  (145,[(0,1),(1,1)]),
  (146,[(0,1),(1,1)]),
  (150,[(0,1)]),
  (151,[(0,1)]),
  (179,[(0,1),(1,1),(2,1),(3,1),(4,1),(5,1),(6,1),(7,1)]),
  (201,[(0,1),(1,1),(2,1),(3,1)]),
  (207,[(0,1),(1,1),(2,1),(3,1),(4,1),(5,1),(6,1),(7,1),(8,1),(9,1),(10,1)]),
  (210,[(0,1),(1,1),(2,1),(3,1),(4,1),(5,1),(6,1),(7,1),(8,1),(9,1),(10,1)]),
  (215,[(0,1),(1,1),(2,1),(3,1)]),
  (216,[(0,1),(1,1),(2,1),(3,1)]),
  (217,[])]
 ik:=[(2,.i64),
  (3,.i64),
  (5,.u8),
  (6,.u8),
  (12,.u64),
  (21,.i32),
  (46,.i64),
  (180,.i64)]
 str:=[9,
  10,
  11]
 bo:=[4]
 eq:=[(58,[.i .i64,.i .i64,.i .i64]),
  (66,[.i .i64,.i .i64,.i .i64,.i .i64,.i .i64,.i .i64]),
  (68,[.i .i64,.i .i64,.i .i64,.i .i64,.i .i64,.i .i64,.i .i64,.i .i64,.i .i64,.i .i64,.i .i64,.i .i64,.i .i64,.i .i64,.i .i64,.i .i64,.i .i64,.i .i64,.i .i64,.i .i64,.i .i64,.i .i64,.i .i64,.i .i64]),
  (103,[.i .i64,.i .i64]),
  (105,[.s,.i .i64,.i .i64,.i .i64,.i .i64,.i .i64,.i .i64,.i .i64,.i .i64,.i .i64,.i .i64,.i .i64]),
  (134,[.i .i64,.i .i64,.i .i64,.i .i64,.i .i64])]
 fn:=[(3,Tryz.f3),
  (4,Tryz.f4),
  (5,Tryz.f5),
  (6,Tryz.f6),
  (7,Tryz.f7),
  (8,Tryz.f8),
  (9,Tryz.f9),
  (10,Tryz.f10),
  (11,Tryz.f11),
  (12,Tryz.f12),
  (13,Tryz.f13),
  (14,Tryz.f14),
  (15,Tryz.f15),
  (16,Tryz.f16),
  (17,Tryz.f17),
  (18,Tryz.f18),
  (19,Tryz.f19),
  (20,Tryz.f20),
  (21,Tryz.f21),
  (22,Tryz.f22),
  (23,Tryz.f23),
  (24,Tryz.f24),
  (25,Tryz.f25),
  (26,Tryz.f26),
  (27,Tryz.f27),
  (28,Tryz.f28),
  (29,Tryz.f29),
  (30,Tryz.f30),
  (31,Tryz.f31),
  (32,Tryz.f32),
  (33,Tryz.f33),
  (34,Tryz.f34),
  (35,Tryz.f35),
  (36,Tryz.f36),
  (37,Tryz.f37),
  (38,Tryz.f38),
  (39,Tryz.f39),
  (40,Tryz.f40),
  (41,Tryz.f41),
  (42,Tryz.f42),
  (43,Tryz.f43),
  (44,Tryz.f44),
  (45,Tryz.f45),
  (46,Tryz.f46),
  (47,Tryz.f47),
  (48,Tryz.f48),
  (49,Tryz.f49),
  (50,Tryz.f50),
  (51,Tryz.f51),
  (52,Tryz.f52),
  (53,Tryz.f53),
  (54,Tryz.f54),
  (55,Tryz.f55),
  (56,Tryz.f56),
  (57,Tryz.f57),
  (58,Tryz.f58),
  (59,Tryz.f59),
  (60,Tryz.f60),
  (61,Tryz.f61),
  (62,Tryz.f62),
  (63,Tryz.f63),
  (64,Tryz.f64),
  (65,Tryz.f65),
  (66,Tryz.f66),
  (67,Tryz.f67),
  (68,Tryz.f68),
  (69,Tryz.f69),
  (70,Tryz.f70),
  (71,Tryz.f71),
  (72,Tryz.f72),
  (73,Tryz.f73),
  (74,Tryz.f74),
  (75,Tryz.f75),
  (76,Tryz.f76),
  (77,Tryz.f77),
  (78,Tryz.f78),
  (79,Tryz.f79),
  (80,Tryz.f80),
  (81,Tryz.f81),
  (82,Tryz.f82),
  (83,Tryz.f83),
  (84,Tryz.f84),
  (85,Tryz.f85),
  (86,Tryz.f86),
  (87,Tryz.f87),
  (88,Tryz.f88),
  (89,Tryz.f89),
  (90,Tryz.f90),
  (91,Tryz.f91),
  (92,Tryz.f92),
  (93,Tryz.f93),
  (94,Tryz.f94),
  (95,Tryz.f95),
  (96,Tryz.f96),
  (97,Tryz.f97),
  (98,Tryz.f98),
  (99,Tryz.f99),
  (100,Tryz.f100),
  (101,Tryz.f101),
  (102,Tryz.f102),
  (103,Tryz.f103),
  (104,Tryz.f104),
  (105,Tryz.f105),
  (106,Tryz.f106),
  (107,Tryz.f107),
  (108,Tryz.f108),
  (109,Tryz.f109),
  (110,Tryz.f110),
  (111,Tryz.f111),
  (112,Tryz.f112),
  (113,Tryz.f113),
  (114,Tryz.f114),
  (115,Tryz.f115),
  (116,Tryz.f116),
  (117,Tryz.f117),
  (118,Tryz.f118),
  (119,Tryz.f119),
  (120,Tryz.f120),
  (121,Tryz.f121),
  (122,Tryz.f122),
  (123,Tryz.f123),
  (124,Tryz.f124),
  (125,Tryz.f125),
  (126,Tryz.f126),
  (127,Tryz.f127),
  (128,Tryz.f128),
  (129,Tryz.f129),
  (130,Tryz.f130),
  (131,Tryz.f131),
  (132,Tryz.f132),
  (133,Tryz.f133),
  (134,Tryz.f134),
  (135,Tryz.f135),
  (136,Tryz.f136),
  (137,Tryz.f137),
  (138,Tryz.f138),
  (139,Tryz.f139),
  (140,Tryz.f140),
  (141,Tryz.f141),
  (142,Tryz.f142),
  (143,Tryz.f143),
  (144,Tryz.f144),
  (145,Tryz.f145),
  (146,Tryz.f146),
  (147,Tryz.f147),
  (148,Tryz.f148),
  (149,Tryz.f149),
  (150,Tryz.f150),
  (151,Tryz.f151),
  (152,Tryz.f152),
  (153,Tryz.f153),
  (154,Tryz.f154),
  (155,Tryz.f155),
  (156,Tryz.f156),
  (157,Tryz.f157),
  (158,Tryz.f158),
  (159,Tryz.f159),
  (160,Tryz.f160),
  (161,Tryz.f161),
  (162,Tryz.f162),
  (163,Tryz.f163),
  (164,Tryz.f164),
  (165,Tryz.f165),
  (166,Tryz.f166),
  (167,Tryz.f167),
  (168,Tryz.f168),
  (169,Tryz.f169),
  (170,Tryz.f170),
  (171,Tryz.f171),
  (172,Tryz.f172),
  (173,Tryz.f173),
  (174,Tryz.f174),
  (175,Tryz.f175),
  (176,Tryz.f176),
  (177,Tryz.f177),
  (178,Tryz.f178),
  (179,Tryz.f179),
  (180,Tryz.f180),
  (181,Tryz.f181),
  (182,Tryz.f182),
  (183,Tryz.f183),
  (184,Tryz.f184),
  (185,Tryz.f185),
  (186,Tryz.f186),
  (187,Tryz.f187),
  (188,Tryz.f188),
  (189,Tryz.f189),
  (190,Tryz.f190),
  (191,Tryz.f191),
  (192,Tryz.f192),
  (193,Tryz.f193),
  (194,Tryz.f194),
  (195,Tryz.f195),
  (196,Tryz.f196),
  (197,Tryz.f197),
  (198,Tryz.f198),
  (199,Tryz.f199),
  (200,Tryz.f200),
  (201,Tryz.f201),
  (202,Tryz.f202),
  (203,Tryz.f203),
  (204,Tryz.f204),
  (205,Tryz.f205),
  (206,Tryz.f206),
  (207,Tryz.f207),
  (208,Tryz.f208),
  (209,Tryz.f209),
  (210,Tryz.f210),
  (211,Tryz.f211)]
 hint:=[(9,[(6,{ keep:=[5,7,8,9,10],ids:=[5,7,13],out:=some ([5,7,8,9],[5,7,13]) })]),
  (10,[(13,{ keep:=[11,14,19,23,24,25],ids:=[11,19,91,95],out:=some ([10],[47,220]) }),(18,{ keep:=[11,14,19,23,24,25,26],ids:=[11,19,91,95],out:=some ([10,11,14,19,23,24,25],[11,19,47,91,95,220]) }),(23,{ keep:=[11,14,19,23,24,25,26,27,28,29],ids:=[11,19,27,91,95],out:=some ([11,14,19,23,24,25,26,28],[11,19,91,95]) }),(28,{ keep:=[11,14,19,23,24,25,26,28,31],ids:=[11,19,91,95],out:=some ([10,11,14,19,23,24,25,26],[11,19,47,91,95,220]) })]),
  (11,[(4,{ keep:=[2,3,4,5],ids:=[2,4,9,40,71,86],out:=some ([2,3,4],[2,4,9,40,71,86]),ownB:=[(4,2,40,94,3)] }),(9,{ keep:=[2,3,4,6],ids:=[2,4,9,40,71,86],out:=some ([2,3,4],[2,4,9,40,71,86]) })]),
  (12,[(4,{ keep:=[2,5,6,7],ids:=[2,13,66],out:=some ([6],[66]),own:=[(6,66,62,2)] })]),
  (17,[(8,{ keep:=[2,3,4,5],ids:=[2,4,11,12,22,44,63,80,108,150],out:=some ([2,3,4],[2,4,11,12,22,44,63,80,108,150]),ownB:=[(4,5,63,58,3)] }),(12,{ keep:=[2,3,4,6],ids:=[2,4,11,12,22,44,63,80,108,150],out:=some ([2,3,4],[2,4,11,12,22,44,63,80,108,150]),ownB:=[(4,6,80,60,4)] }),(17,{ keep:=[2,3,4,7],ids:=[2,4,11,12,22,44,63,80,108,150],out:=some ([2,3,4],[2,4,11,12,22,44,63,80,108,150]),ownB:=[(4,4,108,86,2)] }),(21,{ keep:=[2,3,4,8],ids:=[2,4,11,12,22,44,63,80,108,150],out:=some ([2,4],[2,4,12,22,44,63,80,108,150]),ownB:=[(4,7,150,117,3)] }),(24,{ keep:=[2,3,4,8,9],ids:=[2,4,11,12,22,44,63,80,108,150],out:=some ([2,3,4,8],[2,4,11,12,22,44,63,80,108,150]) })]),
  (19,[(8,{ keep:=[1,4,22,23,24],ids:=[1],out:=some ([2,4],[10]) })]),
  (20,[(7,{ keep:=[1,4],ids:=[1],out:=some ([1,2],[1,14]) }),(12,{ keep:=[1,5],ids:=[1],out:=some ([1,2],[1,14]) }),(18,{ keep:=[1,7],ids:=[1],out:=some ([1,2],[1,14]) }),(25,{ keep:=[1,9,10],ids:=[1],out:=some ([2,9],[14]) }),(30,{ keep:=[1,9,10,11],ids:=[1],out:=some ([1,2,9,10],[1,14]) })]),
  (22,[(4,{ keep:=[2,4,5,6,7],ids:=[2,4,6,10,57],out:=some ([4,6],[4,6,57]),ownB:=[(6,0,57,3,1)] }),(7,{ keep:=[2,4,5,6,7,8],ids:=[2,4,6,10,57],out:=some ([2,4,5,6,7,8],[2,4,6,10,57]) })]),
  (24,[(4,{ keep:=[2,5,6,7],ids:=[2,11,43,49,55],out:=some ([6],[43,49,55]),own:=[(6,43,2,1)] })]),
  (25,[(5,{ keep:=[1,2,5,6],ids:=[2,54],out:=some ([5],[54]) })]),
  (26,[(5,{ keep:=[0,3,4],ids:=[25],out:=some ([3],[25]),own:=[(3,25,62,2)] })]),
  (27,[(6,{ keep:=[2,4,9,10,52,53],ids:=[4,9,10],out:=some ([2,4,8,9,10],[4,9,10]) }),(9,{ keep:=[2,4,9,10,11,52,53,57,58],ids:=[4,9,10],out:=some ([2,4,8,9,10,52,53],[4,9,10]) }),(19,{ keep:=[4,15,102,103],ids:=[4,15,102],out:=some ([8],[]) })]),
  (28,[(7,{ keep:=[2,4,10,11,12],ids:=[4,10,11,67],out:=some ([8],[]) }),(10,{ keep:=[2,4,10,11,12,13],ids:=[4,10,11,67],out:=some ([2,4,8,10,11,12],[4,10,11,67]) })]),
  (34,[(4,{ keep:=[2,3,20,21,22],ids:=[2,3],out:=some ([4],[]) })]),
  (35,[(4,{ keep:=[0,1,5],ids:=[],out:=some ([4],[]) })]),
  (36,[(8,{ keep:=[2,3,4,7,48,49,50],ids:=[2,3,4,7,30,35,41,45,97],out:=some ([4,7],[4,7,30,35,41,45,97]) }),(16,{ keep:=[2,3,4,7,10,48,49,50,85,86,87],ids:=[2,3,4,7,30,35,41,45,85,97],out:=some ([2,3,4,7,48,49,50],[2,3,4,7,30,35,41,45,97]) })]),
  (37,[(7,{ keep:=[1,4],ids:=[1],out:=some ([1,2],[1,10]) }),(13,{ keep:=[1,4,5,6],ids:=[1,5],out:=some ([1,2,4],[1,10]) }),(20,{ keep:=[1,7],ids:=[1],out:=some ([2],[10]) })]),
  (39,[(4,{ keep:=[2,3,5],ids:=[2,3],out:=some ([4],[]) })]),
  (40,[(6,{ keep:=[2,5,6,7],ids:=[2,22,56],out:=some ([6],[56]),own:=[(6,56,92,1)] })]),
  (42,[(4,{ keep:=[0,2,3,4,5],ids:=[2,3,21,46],out:=some ([0,2,3,4],[2,3,21,46]) }),(8,{ keep:=[0,2,3,4,6],ids:=[2,3,21,24,46],out:=some ([2,3],[2,3,21,46]) })]),
  (44,[(3,{ keep:=[0,3,5,6],ids:=[3,8,10,36],out:=some ([5],[8,36]) })]),
  (50,[(4,{ keep:=[0,1,5],ids:=[],out:=some ([4],[]) })]),
  (52,[(4,{ keep:=[0,1,5],ids:=[],out:=some ([4],[]) })]),
  (53,[(6,{ keep:=[5,6,29,30,31],ids:=[23,27,49],out:=some ([6],[27,49]) })]),
  (56,[(3,{ keep:=[0,1,4,5,6],ids:=[4,5,24],out:=some ([4,5],[4,5,24]) })]),
  (58,[(7,{ keep:=[1,20,21,22],ids:=[1],out:=some ([1,2],[1,11,28]) }),(16,{ keep:=[1,38,39,40],ids:=[1],out:=some ([2],[11,28]) })]),
  (59,[(6,{ keep:=[1,40,41,42],ids:=[1],out:=some ([1,2],[1]) }),(12,{ keep:=[1,51,52,53],ids:=[1],out:=some ([1,2],[1]) }),(18,{ keep:=[1,78,79,80],ids:=[1],out:=some ([2],[]) })]),
  (61,[(4,{ keep:=[18],ids:=[18],out:=some ([2],[]) })]),
  (63,[(2,{ keep:=[1,8,9,10],ids:=[1],out:=some ([1,2],[1]) }),(7,{ keep:=[1,8,9,10,23,24,25],ids:=[1],out:=some ([1,2,8,9,10],[1]) })]),
  (64,[(2,{ keep:=[1,2,5],ids:=[2],out:=some ([4],[]) })]),
  (65,[(4,{ keep:=[1,2,5],ids:=[2],out:=some ([4],[]) })]),
  (66,[(4,{ keep:=[1,3],ids:=[1],out:=some ([2],[]) }),(10,{ keep:=[1,3,4,5],ids:=[1,4],out:=some ([1,2,3],[1]) })]),
  (67,[(8,{ keep:=[2,3,4,7,8],ids:=[2,3,4,7,30,95],out:=some ([4,7],[4,7,30,95]) }),(16,{ keep:=[2,3,4,7,8,9,10,12],ids:=[2,3,4,7,10,30,95],out:=some ([2,3,4,7,8],[2,3,4,7,30,95]) })]),
  (68,[(4,{ keep:=[2,3,5],ids:=[2,3],out:=some ([4],[]) }),(9,{ keep:=[2,3,5,6],ids:=[2,3],out:=some ([2,3,4,5],[2,3]) })]),
  (69,[(2,{ keep:=[0,1,5],ids:=[],out:=some ([4],[]) })]),
  (70,[(4,{ keep:=[1,3],ids:=[1],out:=some ([1,2],[1,27]) }),(12,{ keep:=[1,5],ids:=[1],out:=some ([2],[27]) })]),
  (74,[(2,{ keep:=[0,3],ids:=[],out:=some ([2],[]) })]),
  (79,[(3,{ keep:=[1,2,3,5],ids:=[1,2,3,12],out:=some ([2,3],[2,3,12]) })]),
  (86,[(3,{ keep:=[3,5,14,15,16],ids:=[3,13,51],out:=some ([5],[13,51]) }),(7,{ keep:=[3,5,7,14,15,16,26,27],ids:=[3,7,13,22,51],out:=some ([3,5,7,14,15,16],[3,7,13,22,51]) }),(10,{ keep:=[3,5,7,8,14,15,16,26,27,30,31],ids:=[3,7,13,22,51],out:=some ([3,5,7,14,15,16,26,27],[3,7,13,22,51]) })]),
  (90,[(4,{ keep:=[0,1,5],ids:=[],out:=some ([4],[]) })]),
  (91,[(4,{ keep:=[0,1,5],ids:=[],out:=some ([4],[]) })]),
  (92,[(4,{ keep:=[0,1,5],ids:=[],out:=some ([4],[]) })]),
  (93,[(4,{ keep:=[0,1,5],ids:=[],out:=some ([4],[]) })]),
  (95,[(5,{ keep:=[2,3,5,6],ids:=[2,3,27],out:=some ([5],[27]),own:=[(5,27,66,6)] })]),
  (102,[(3,{ keep:=[2,3,4,5,6],ids:=[2,3,4,5,34],out:=some ([4,5],[4,5,34]) })]),
  (104,[(4,{ keep:=[1,17,18],ids:=[1],out:=some ([1,2],[1,23]) })]),
  (105,[(3,{ keep:=[1,5,13,14,15],ids:=[11,27,43],out:=some ([5],[11,27,43]) })]),
  (106,[(4,{ keep:=[0,1,5],ids:=[],out:=some ([4],[]) })]),
  (108,[(5,{ keep:=[3,5,16,17,18],ids:=[3,14,28],out:=some ([5],[14,28]) })]),
  (109,[(5,{ keep:=[37,38,39],ids:=[],out:=some ([4],[]) }),(8,{ keep:=[37,38,39,43,44],ids:=[],out:=some ([4,37,38,39],[]) })]),
  (111,[(3,{ keep:=[1,3,7,8],ids:=[1,3],out:=some ([1,3],[1,3]) })]),
  (114,[(2,{ keep:=[0,1,7,8],ids:=[],out:=some ([4],[]) })]),
  (115,[(4,{ keep:=[28,29,30],ids:=[],out:=some ([2],[]) }),(7,{ keep:=[28,29,30,34,35],ids:=[],out:=some ([2,28,29,30],[]) })]),
  (116,[(4,{ keep:=[0,3],ids:=[],out:=some ([2],[]) })]),
  (117,[(4,{ keep:=[1,3],ids:=[1],out:=some ([2],[]) })]),
  (118,[(3,{ keep:=[3,5,6,7,8],ids:=[3,5,6,7,45],out:=some ([6,7],[6,7,45]),ownB:=[(7,2,45,58,3)] })]),
  (119,[(5,{ keep:=[0,1,5,6],ids:=[5],out:=some ([1,4,5],[5]) })]),
  (120,[(2,{ keep:=[0,3],ids:=[],out:=some ([2],[]) })]),
  (123,[(3,{ keep:=[2,3,4,5,6],ids:=[2,3,4,5],out:=some ([4,5],[4,5]) }),(6,{ keep:=[2,3,4,5,6,7],ids:=[2,3,4,5],out:=some ([2,3,4,5,6],[2,3,4,5]) })]),
  (124,[(4,{ keep:=[1,2,14,15,16],ids:=[],out:=some ([6],[]) })]),
  (127,[(3,{ keep:=[1,5,11,12,13],ids:=[10,22],out:=some ([5],[10,22]) })]),
  (130,[(2,{ keep:=[1,2,5],ids:=[2],out:=some ([4],[]) })]),
  (132,[(2,{ keep:=[0,1,7,8],ids:=[],out:=some ([4],[]) })]),
  (136,[(3,{ keep:=[2,3,4,5,10],ids:=[2,3,4,5],out:=some ([4,5],[4,5]) }),(6,{ keep:=[2,3,4,5,6,10,13],ids:=[2,3,4,5],out:=some ([2,3,4,5,10],[2,3,4,5]) }),(10,{ keep:=[2,3,4,5,6,7,8,10,13,16],ids:=[2,3,4,5,8,31],out:=some ([2,3,4,5,6,7,8,10,13],[2,3,4,5,8,31]) })]),
  (137,[(3,{ keep:=[0,1,3],ids:=[0,1,8],out:=some ([0,1],[0,1,8]) })]),
  (158,[(3,{ keep:=[2,3,4,5,7],ids:=[2,3,4,5,17],out:=some ([4,5],[4,5,17]) })]),
  (159,[(3,{ keep:=[2,3,4,5,8],ids:=[2,3,4,5,27],out:=some ([4,5],[4,5,27]) }),(6,{ keep:=[2,3,4,5,6,8,11],ids:=[2,3,4,5,27],out:=some ([2,3,4,5,8],[2,3,4,5,27]) })]),
  (161,[(6,{ keep:=[4,6,7,40,41],ids:=[4,53],out:=some ([4,6,7],[4,53]) })]),
  (167,[(2,{ keep:=[0,1,7,8],ids:=[],out:=some ([4],[]) })]),
  (168,[(2,{ keep:=[1,2,8,9],ids:=[2],out:=some ([4],[]) })]),
  (169,[(2,{ keep:=[5,6],ids:=[],out:=some ([2],[]) })]),
  (172,[(2,{ keep:=[0,1,7,8],ids:=[],out:=some ([4],[]) })]),
  (176,[(2,{ keep:=[0,1,7,8],ids:=[],out:=some ([4],[]) })]),
  (203,[(5,{ keep:=[2,3,4,5,6],ids:=[2,3,4,5,9,13,27,37],out:=some ([2,3,4,5],[2,3,4,5,9,13,27,37]) })]),
  (208,[(6,{ keep:=[2,3,4,5,6],ids:=[2,3,4,5,11,15,29,39],out:=some ([2,3,4,5],[2,3,4,5,11,15,29,39]) })]),
  (209,[(3,{ keep:=[3,4,7,8,9],ids:=[],out:=some ([3],[]) })])]
 rw:=[42,
  43,
  44,
  45,
  96]
 ow:=[(3,[16]),
  (17,[12]),
  (36,[30,35,41,45]),
  (82,[25]),
  (86,[22])]
 dd:=[]
 big:=[62]
 zf:=[86]
 ag:=[36,
  67,
  131]
theorem eq58:aggB Tryz.prog 58=true∧∀ vs,KV [.i .i64,.i .i64,.i .i64] vs→qZI Tryz.prog 12 58 vs=true:=by
 refine ⟨by kernel_rfl,fun vs h => ?_⟩;obtain ⟨v0,u0,rfl,⟨x0,rfl⟩,h0⟩:=h;obtain ⟨v1,u1,rfl,⟨x1,rfl⟩,h1⟩:=h0;obtain ⟨v2,u2,rfl,⟨x2,rfl⟩,h2⟩:=h1;obtain rfl:u2=[]:=h2
 kernel_rfl
theorem eq66:aggB Tryz.prog 66=true∧∀ vs,KV [.i .i64,.i .i64,.i .i64,.i .i64,.i .i64,.i .i64] vs→qZI Tryz.prog 12 66 vs=true:=by
 refine ⟨by kernel_rfl,fun vs h => ?_⟩;obtain ⟨v0,u0,rfl,⟨x0,rfl⟩,h0⟩:=h;obtain ⟨v1,u1,rfl,⟨x1,rfl⟩,h1⟩:=h0;obtain ⟨v2,u2,rfl,⟨x2,rfl⟩,h2⟩:=h1;obtain ⟨v3,u3,rfl,⟨x3,rfl⟩,h3⟩:=h2;obtain ⟨v4,u4,rfl,⟨x4,rfl⟩,h4⟩:=h3;obtain ⟨v5,u5,rfl,⟨x5,rfl⟩,h5⟩:=h4;obtain rfl:u5=[]:=h5
 kernel_rfl
theorem eq68:aggB Tryz.prog 68=true∧∀ vs,KV [.i .i64,.i .i64,.i .i64,.i .i64,.i .i64,.i .i64,.i .i64,.i .i64,.i .i64,.i .i64,.i .i64,.i .i64,.i .i64,.i .i64,.i .i64,.i .i64,.i .i64,.i .i64,.i .i64,.i .i64,.i .i64,.i .i64,.i .i64,.i .i64] vs→qZI Tryz.prog 12 68 vs=true:=by
 refine ⟨by kernel_rfl,fun vs h => ?_⟩;obtain ⟨v0,u0,rfl,⟨x0,rfl⟩,h0⟩:=h;obtain ⟨v1,u1,rfl,⟨x1,rfl⟩,h1⟩:=h0;obtain ⟨v2,u2,rfl,⟨x2,rfl⟩,h2⟩:=h1;obtain ⟨v3,u3,rfl,⟨x3,rfl⟩,h3⟩:=h2;obtain ⟨v4,u4,rfl,⟨x4,rfl⟩,h4⟩:=h3;obtain ⟨v5,u5,rfl,⟨x5,rfl⟩,h5⟩:=h4;obtain ⟨v6,u6,rfl,⟨x6,rfl⟩,h6⟩:=h5;obtain ⟨v7,u7,rfl,⟨x7,rfl⟩,h7⟩:=h6;obtain ⟨v8,u8,rfl,⟨x8,rfl⟩,h8⟩:=h7;obtain ⟨v9,u9,rfl,⟨x9,rfl⟩,h9⟩:=h8;obtain ⟨v10,u10,rfl,⟨x10,rfl⟩,h10⟩:=h9;obtain ⟨v11,u11,rfl,⟨x11,rfl⟩,h11⟩:=h10;obtain ⟨v12,u12,rfl,⟨x12,rfl⟩,h12⟩:=h11;obtain ⟨v13,u13,rfl,⟨x13,rfl⟩,h13⟩:=h12;obtain ⟨v14,u14,rfl,⟨x14,rfl⟩,h14⟩:=h13;obtain ⟨v15,u15,rfl,⟨x15,rfl⟩,h15⟩:=h14;obtain ⟨v16,u16,rfl,⟨x16,rfl⟩,h16⟩:=h15;obtain ⟨v17,u17,rfl,⟨x17,rfl⟩,h17⟩:=h16;obtain ⟨v18,u18,rfl,⟨x18,rfl⟩,h18⟩:=h17;obtain ⟨v19,u19,rfl,⟨x19,rfl⟩,h19⟩:=h18;obtain ⟨v20,u20,rfl,⟨x20,rfl⟩,h20⟩:=h19;obtain ⟨v21,u21,rfl,⟨x21,rfl⟩,h21⟩:=h20;obtain ⟨v22,u22,rfl,⟨x22,rfl⟩,h22⟩:=h21;obtain ⟨v23,u23,rfl,⟨x23,rfl⟩,h23⟩:=h22;obtain rfl:u23=[]:=h23
 kernel_rfl
theorem xGB:aggB Tryz.prog 103=true∧∀ vs,KV [.i .i64,.i .i64] vs→qZI Tryz.prog 12 103 vs=true:=by
 refine ⟨by kernel_rfl,fun vs h => ?_⟩;obtain ⟨v0,u0,rfl,⟨x0,rfl⟩,h0⟩:=h;obtain ⟨v1,u1,rfl,⟨x1,rfl⟩,h1⟩:=h0;obtain rfl:u1=[]:=h1
 kernel_rfl
theorem xGA:aggB Tryz.prog 105=true∧∀ vs,KV [.s,.i .i64,.i .i64,.i .i64,.i .i64,.i .i64,.i .i64,.i .i64,.i .i64,.i .i64,.i .i64,.i .i64] vs→qZI Tryz.prog 12 105 vs=true:=by
 refine ⟨by kernel_rfl,fun vs h => ?_⟩;obtain ⟨v0,u0,rfl,⟨x0,rfl⟩,h0⟩:=h;obtain ⟨v1,u1,rfl,⟨x1,rfl⟩,h1⟩:=h0;obtain ⟨v2,u2,rfl,⟨x2,rfl⟩,h2⟩:=h1;obtain ⟨v3,u3,rfl,⟨x3,rfl⟩,h3⟩:=h2;obtain ⟨v4,u4,rfl,⟨x4,rfl⟩,h4⟩:=h3;obtain ⟨v5,u5,rfl,⟨x5,rfl⟩,h5⟩:=h4;obtain ⟨v6,u6,rfl,⟨x6,rfl⟩,h6⟩:=h5;obtain ⟨v7,u7,rfl,⟨x7,rfl⟩,h7⟩:=h6;obtain ⟨v8,u8,rfl,⟨x8,rfl⟩,h8⟩:=h7;obtain ⟨v9,u9,rfl,⟨x9,rfl⟩,h9⟩:=h8;obtain ⟨v10,u10,rfl,⟨x10,rfl⟩,h10⟩:=h9;obtain ⟨v11,u11,rfl,⟨x11,rfl⟩,h11⟩:=h10;obtain rfl:u11=[]:=h11
 kernel_rfl
theorem xGH:aggB Tryz.prog 134=true∧∀ vs,KV [.i .i64,.i .i64,.i .i64,.i .i64,.i .i64] vs→qZI Tryz.prog 12 134 vs=true:=by
 refine ⟨by kernel_rfl,fun vs h => ?_⟩;obtain ⟨v0,u0,rfl,⟨x0,rfl⟩,h0⟩:=h;obtain ⟨v1,u1,rfl,⟨x1,rfl⟩,h1⟩:=h0;obtain ⟨v2,u2,rfl,⟨x2,rfl⟩,h2⟩:=h1;obtain ⟨v3,u3,rfl,⟨x3,rfl⟩,h3⟩:=h2;obtain ⟨v4,u4,rfl,⟨x4,rfl⟩,h4⟩:=h3;obtain rfl:u4=[]:=h4
 kernel_rfl
theorem fns:AllP (fun x:Nat × Func=>Tryz.prog.funcs[x.1]? = some x.2) tabs.fn:=⟨Tryz.func3,Tryz.func4,Tryz.func5,Tryz.func6,Tryz.func7,Tryz.func8,Tryz.func9,Tryz.func10,Tryz.func11,Tryz.func12,Tryz.func13,Tryz.func14,Tryz.func15,Tryz.func16,Tryz.func17,Tryz.func18,Tryz.func19,Tryz.func20,Tryz.func21,Tryz.func22,Tryz.func23,Tryz.func24,Tryz.func25,Tryz.func26,Tryz.func27,Tryz.func28,Tryz.func29,Tryz.func30,Tryz.func31,Tryz.func32,Tryz.func33,Tryz.func34,Tryz.func35,Tryz.func36,Tryz.func37,Tryz.func38,Tryz.func39,Tryz.func40,Tryz.func41,Tryz.func42,Tryz.func43,Tryz.func44,Tryz.func45,Tryz.func46,Tryz.func47,Tryz.func48,Tryz.func49,Tryz.func50,Tryz.func51,Tryz.func52,Tryz.func53,Tryz.func54,Tryz.func55,Tryz.func56,Tryz.func57,Tryz.func58,Tryz.func59,Tryz.func60,Tryz.func61,Tryz.func62,Tryz.func63,Tryz.func64,Tryz.func65,Tryz.func66,Tryz.func67,Tryz.func68,Tryz.func69,Tryz.func70,Tryz.func71,Tryz.func72,Tryz.func73,Tryz.func74,Tryz.func75,Tryz.func76,Tryz.func77,Tryz.func78,Tryz.func79,Tryz.func80,Tryz.func81,Tryz.func82,Tryz.func83,Tryz.func84,Tryz.func85,Tryz.func86,Tryz.func87,Tryz.func88,Tryz.func89,Tryz.func90,Tryz.func91,Tryz.func92,Tryz.func93,Tryz.func94,Tryz.func95,Tryz.func96,Tryz.func97,Tryz.func98,Tryz.func99,Tryz.func100,Tryz.func101,Tryz.func102,Tryz.func103,Tryz.func104,Tryz.func105,Tryz.func106,Tryz.func107,Tryz.func108,Tryz.func109,Tryz.func110,Tryz.func111,Tryz.func112,Tryz.func113,Tryz.func114,Tryz.func115,Tryz.func116,Tryz.func117,Tryz.func118,Tryz.func119,Tryz.func120,Tryz.func121,Tryz.func122,Tryz.func123,Tryz.func124,Tryz.func125,Tryz.func126,Tryz.func127,Tryz.func128,Tryz.func129,Tryz.func130,Tryz.func131,Tryz.func132,Tryz.func133,Tryz.func134,Tryz.func135,Tryz.func136,Tryz.func137,Tryz.func138,Tryz.func139,Tryz.func140,Tryz.func141,Tryz.func142,Tryz.func143,Tryz.func144,Tryz.func145,Tryz.func146,Tryz.func147,Tryz.func148,Tryz.func149,Tryz.func150,Tryz.func151,Tryz.func152,Tryz.func153,Tryz.func154,Tryz.func155,Tryz.func156,Tryz.func157,Tryz.func158,Tryz.func159,Tryz.func160,Tryz.func161,Tryz.func162,Tryz.func163,Tryz.func164,Tryz.func165,Tryz.func166,Tryz.func167,Tryz.func168,Tryz.func169,Tryz.func170,Tryz.func171,Tryz.func172,Tryz.func173,Tryz.func174,Tryz.func175,Tryz.func176,Tryz.func177,Tryz.func178,Tryz.func179,Tryz.func180,Tryz.func181,Tryz.func182,Tryz.func183,Tryz.func184,Tryz.func185,Tryz.func186,Tryz.func187,Tryz.func188,Tryz.func189,Tryz.func190,Tryz.func191,Tryz.func192,Tryz.func193,Tryz.func194,Tryz.func195,Tryz.func196,Tryz.func197,Tryz.func198,Tryz.func199,Tryz.func200,Tryz.func201,Tryz.func202,Tryz.func203,Tryz.func204,Tryz.func205,Tryz.func206,Tryz.func207,Tryz.func208,Tryz.func209,Tryz.func210,Tryz.func211,trivial⟩
theorem xUB:tabs.sz.all (fun x=>tyB Tryz.prog x.1 x.2.1 x.2.2 && (x.2.1 || Nat.beq x.2.2 1))=true:=by kernel_rfl
theorem xUV:tabs.zr.map (fun x=>(Tryz.prog.info? x.1).bind (·.zero))=tabs.zr.map (fun x=>some x.2):=by kernel_rfl
theorem kXB:tabs.fd.all (fun x=>allI (fun f o=>qGW Tryz.prog x.1 f o) 0 x.2)=true:=by kernel_rfl
theorem xWU:tabs.fx.all (fun x=>allI (fxB Tryz.prog x.1) 0 x.2)=true:=by kernel_rfl
theorem xWI:tabs.ar.all (fun x=>arX Tryz.prog x.1 x.2)=true:=by kernel_rfl
theorem xUE:tabs.sl.all (fun x=>slcB Tryz.prog x.1 x.2.1 x.2.2.1 && Nat.blt 0 x.2.2.1 && Nat.ble x.2.2.1 1000 && appB Tryz.prog x.1 x.2.1 x.2.2.1 x.2.2.2 && Nat.ble x.2.2.2 100000 && (Nat.ble x.2.2.2 16 || !inL tabs.big x.2.1))=true:=by kernel_rfl
theorem xXF:tabs.ly.map (fun x=>(qKL Tryz.prog x.1).map (·.2))=tabs.ly.map (fun x=>some x.2):=by kernel_rfl
theorem xWJ:tabs.ik.map (fun x=>Tryz.prog.underlying x.1)=tabs.ik.map (fun x=>some (.int x.2)):=by kernel_rfl
theorem uZG:tabs.str.map (fun x=>Tryz.prog.underlying x)=tabs.str.map (fun _=>some .string):=by kernel_rfl
theorem xWE:tabs.bo.map (fun x=>Tryz.prog.underlying x)=tabs.bo.map (fun _=>some .bool):=by kernel_rfl
theorem uZH:tabs.fn.all (fun x => !(x.2.name == "runtime.NumGoroutine") && !x.2.body.isNone)=true:=by kernel_rfl
theorem ok:tabs.Ok Tryz.prog:=⟨xUB,xUV,kXB,xWU,xWI,xUE,xXF,xWJ,uZG,xWE,⟨eq58,eq66,eq68,xGB,xGA,xGH,trivial⟩,fns,uZH,fun f hf=>by simp [tabs] at hf⟩
noncomputable def T:Tab:=tabs.tab
theorem jQ:TabOk Tryz.prog T:=Tabs.ok ok
theorem yQ:Tryz.prog.follows .mixedOrders=true:=by kernel_rfl
noncomputable def tabsF:Tabs:={ tabs with
 hint:=[(9,[(6,{ keep:=[5,7,8,9,10],ids:=[5,7,13],out:=some ([5,7,8,9],[5,7,13]) })]),
  (10,[(13,{ keep:=[11,14,19,23,24,25],ids:=[11,19,91,95],out:=some ([10],[47,220]) }),(18,{ keep:=[11,14,19,23,24,25,26],ids:=[11,19,91,95],out:=some ([10,11,14,19,23,24,25],[11,19,47,91,95,220]) }),(23,{ keep:=[11,14,19,23,24,25,26,27,28,29],ids:=[11,19,27,91,95],out:=some ([11,14,19,23,24,25,26,28],[11,19,91,95]) }),(28,{ keep:=[11,14,19,23,24,25,26,28,31],ids:=[11,19,91,95],out:=some ([10,11,14,19,23,24,25,26],[11,19,47,91,95,220]) })]),
  (11,[(4,{ keep:=[2,3,4,5],ids:=[2,4,9,40,71,86],out:=some ([2,3,4],[2,4,9,40,71,86]),ownB:=[(4,2,40,94,3)],fun_:=[(40,[.n .i64 0,.n .i64 0,.zs]),(71,[.n .i64 0,.n .i64 0,.zs]),(86,[.n .i64 0,.n .i64 0])] }),(9,{ keep:=[2,3,4,6],ids:=[2,4,9,40,71,86],out:=some ([2,3,4],[2,4,9,40,71,86]),fun_:=[(40,[.n .i64 0,.n .i64 0,.zs]),(71,[.n .i64 0,.n .i64 0,.zs]),(86,[.n .i64 0,.n .i64 0])] })]),
  (12,[(4,{ keep:=[2,5,6,7],ids:=[2,13,66],out:=some ([6],[66]),own:=[(6,66,62,2)],fun_:=[(66,[.n .i64 0,.n .i64 0])] })]),
  (17,[(8,{ keep:=[2,3,4,5],ids:=[2,4,11,12,22,44,63,80,108,150],out:=some ([2,3,4],[2,4,11,12,22,44,63,80,108,150]),ownB:=[(4,5,63,58,3)],fun_:=[(12,[.n .i64 0]),(22,[.n .i64 0,.n .i64 0,.lf 0 (fun _=>[.n .i64 0,.n .i64 0,.n .i64 0])]),(44,[.n .i64 0,.n .i64 0,.lf 0 (fun _=>[.n .i64 0,.n .i64 0,.n .i64 0])]),(63,[.n .i64 0,.n .i64 0,.n .i64 0]),(80,[.n .i64 0,.n .i64 0,.n .i64 0,.n .i64 0]),(108,[.s (ByteArray.mk #[]),.lf 0 (fun _=>[.n .i64 0,.n .i64 0,.lf 0 (fun _=>[.n .i64 0,.n .i64 0,.n .i64 0])])]),(150,[.n .i64 0,.n .i64 0,.lf 0 (fun _=>[.n .i64 0])])] }),(12,{ keep:=[2,3,4,6],ids:=[2,4,11,12,22,44,63,80,108,150],out:=some ([2,3,4],[2,4,11,12,22,44,63,80,108,150]),ownB:=[(4,6,80,60,4)],fun_:=[(12,[.n .i64 0]),(22,[.n .i64 0,.n .i64 0,.lf 0 (fun _=>[.n .i64 0,.n .i64 0,.n .i64 0])]),(44,[.n .i64 0,.n .i64 0,.lf 0 (fun _=>[.n .i64 0,.n .i64 0,.n .i64 0])]),(63,[.n .i64 0,.n .i64 0,.n .i64 0]),(80,[.n .i64 0,.n .i64 0,.n .i64 0,.n .i64 0]),(108,[.s (ByteArray.mk #[]),.lf 0 (fun _=>[.n .i64 0,.n .i64 0,.lf 0 (fun _=>[.n .i64 0,.n .i64 0,.n .i64 0])])]),(150,[.n .i64 0,.n .i64 0,.lf 0 (fun _=>[.n .i64 0])])] }),(17,{ keep:=[2,3,4,7],ids:=[2,4,11,12,22,44,63,80,108,150],out:=some ([2,3,4],[2,4,11,12,22,44,63,80,108,150]),ownB:=[(4,4,108,86,2)],fun_:=[(12,[.n .i64 0]),(22,[.n .i64 0,.n .i64 0,.lf 0 (fun _=>[.n .i64 0,.n .i64 0,.n .i64 0])]),(44,[.n .i64 0,.n .i64 0,.lf 0 (fun _=>[.n .i64 0,.n .i64 0,.n .i64 0])]),(63,[.n .i64 0,.n .i64 0,.n .i64 0]),(80,[.n .i64 0,.n .i64 0,.n .i64 0,.n .i64 0]),(108,[.s (ByteArray.mk #[]),.lf 0 (fun _=>[.n .i64 0,.n .i64 0,.lf 0 (fun _=>[.n .i64 0,.n .i64 0,.n .i64 0])])]),(150,[.n .i64 0,.n .i64 0,.lf 0 (fun _=>[.n .i64 0])])] }),(21,{ keep:=[2,3,4,8],ids:=[2,4,11,12,22,44,63,80,108,150],out:=some ([2,4],[2,4,12,22,44,63,80,108,150]),ownB:=[(4,7,150,117,3)],fun_:=[(12,[.n .i64 0]),(22,[.n .i64 0,.n .i64 0,.lf 0 (fun _=>[.n .i64 0,.n .i64 0,.n .i64 0])]),(44,[.n .i64 0,.n .i64 0,.lf 0 (fun _=>[.n .i64 0,.n .i64 0,.n .i64 0])]),(63,[.n .i64 0,.n .i64 0,.n .i64 0]),(80,[.n .i64 0,.n .i64 0,.n .i64 0,.n .i64 0]),(108,[.s (ByteArray.mk #[]),.lf 0 (fun _=>[.n .i64 0,.n .i64 0,.lf 0 (fun _=>[.n .i64 0,.n .i64 0,.n .i64 0])])]),(150,[.n .i64 0,.n .i64 0,.lf 0 (fun _=>[.n .i64 0])])] }),(24,{ keep:=[2,3,4,8,9],ids:=[2,4,11,12,22,44,63,80,108,150],out:=some ([2,3,4,8],[2,4,11,12,22,44,63,80,108,150]),fun_:=[(12,[.n .i64 0]),(22,[.n .i64 0,.n .i64 0,.lf 0 (fun _=>[.n .i64 0,.n .i64 0,.n .i64 0])]),(44,[.n .i64 0,.n .i64 0,.lf 0 (fun _=>[.n .i64 0,.n .i64 0,.n .i64 0])]),(63,[.n .i64 0,.n .i64 0,.n .i64 0]),(80,[.n .i64 0,.n .i64 0,.n .i64 0,.n .i64 0]),(108,[.s (ByteArray.mk #[]),.lf 0 (fun _=>[.n .i64 0,.n .i64 0,.lf 0 (fun _=>[.n .i64 0,.n .i64 0,.n .i64 0])])]),(150,[.n .i64 0,.n .i64 0,.lf 0 (fun _=>[.n .i64 0])])] })]),
  (19,[(8,{ keep:=[1,4,22,23,24],ids:=[1],out:=some ([2,4],[10]) })]),
  (20,[(7,{ keep:=[1,4],ids:=[1],out:=some ([1,2],[1,14]) }),(12,{ keep:=[1,5],ids:=[1],out:=some ([1,2],[1,14]) }),(18,{ keep:=[1,7],ids:=[1],out:=some ([1,2],[1,14]) }),(25,{ keep:=[1,9,10],ids:=[1],out:=some ([2,9],[14]) }),(30,{ keep:=[1,9,10,11],ids:=[1],out:=some ([1,2,9,10],[1,14]) })]),
  (22,[(4,{ keep:=[2,4,5,6,7],ids:=[2,4,6,10,57],out:=some ([4,6],[4,6,57]),ownB:=[(6,0,57,3,1)],fun_:=[(57,[.n .i64 0])] }),(7,{ keep:=[2,4,5,6,7,8],ids:=[2,4,6,10,57],out:=some ([2,4,5,6,7,8],[2,4,6,10,57]),fun_:=[(57,[.n .i64 0])] })]),
  (24,[(4,{ keep:=[2,5,6,7],ids:=[2,11,43,49,55],out:=some ([6],[43,49,55]),own:=[(6,43,2,1)],fun_:=[(43,[.n .i64 0]),(49,[.n .i64 0]),(55,[.n .i64 0])] })]),
  (25,[(5,{ keep:=[1,2,5,6],ids:=[2,54],out:=some ([5],[54]) })]),
  (26,[(5,{ keep:=[0,3,4],ids:=[25],out:=some ([3],[25]),own:=[(3,25,62,2)],fun_:=[(25,[.n .i64 0,.n .i64 0])] })]),
  (27,[(6,{ keep:=[2,4,9,10,52,53],ids:=[4,9,10],out:=some ([2,4,8,9,10],[4,9,10]) }),(9,{ keep:=[2,4,9,10,11,52,53,57,58],ids:=[4,9,10],out:=some ([2,4,8,9,10,52,53],[4,9,10]) }),(19,{ keep:=[4,15,102,103],ids:=[4,15,102],out:=some ([8],[]) })]),
  (28,[(7,{ keep:=[2,4,10,11,12],ids:=[4,10,11,67],out:=some ([8],[]) }),(10,{ keep:=[2,4,10,11,12,13],ids:=[4,10,11,67],out:=some ([2,4,8,10,11,12],[4,10,11,67]) })]),
  (34,[(4,{ keep:=[2,3,20,21,22],ids:=[2,3],out:=some ([4],[]) })]),
  (35,[(4,{ keep:=[0,1,5],ids:=[],out:=some ([4],[]) })]),
  (36,[(8,{ keep:=[2,3,4,7,48,49,50],ids:=[2,3,4,7,30,35,41,45,97],out:=some ([4,7],[4,7,30,35,41,45,97]),fun_:=[(30,[.s (ByteArray.mk #[]),.n .i64 0,.n .i64 0,.n .i64 0,.n .i64 0,.n .i64 0,.n .i64 0,.n .i64 0,.n .i64 0,.n .i64 0,.n .i64 0,.n .i64 0]),(35,[.n .i64 0,.n .i64 0,.n .i64 0,.n .i64 0,.n .i64 0]),(41,[.n .i64 0,.n .i64 0,.zs]),(45,[.n .i64 0,.n .i64 0]),(97,[.n .i64 0,.n .i64 0,.zs])] }),(16,{ keep:=[2,3,4,7,10,48,49,50,85,86,87],ids:=[2,3,4,7,30,35,41,45,85,97],out:=some ([2,3,4,7,48,49,50],[2,3,4,7,30,35,41,45,97]),fun_:=[(30,[.s (ByteArray.mk #[]),.n .i64 0,.n .i64 0,.n .i64 0,.n .i64 0,.n .i64 0,.n .i64 0,.n .i64 0,.n .i64 0,.n .i64 0,.n .i64 0,.n .i64 0]),(35,[.n .i64 0,.n .i64 0,.n .i64 0,.n .i64 0,.n .i64 0]),(41,[.n .i64 0,.n .i64 0,.zs]),(45,[.n .i64 0,.n .i64 0]),(97,[.n .i64 0,.n .i64 0,.zs])] })]),
  (37,[(7,{ keep:=[1,4],ids:=[1],out:=some ([1,2],[1,10]) }),(13,{ keep:=[1,4,5,6],ids:=[1,5],out:=some ([1,2,4],[1,10]) }),(20,{ keep:=[1,7],ids:=[1],out:=some ([2],[10]) })]),
  (39,[(4,{ keep:=[2,3,5],ids:=[2,3],out:=some ([4],[]) })]),
  (40,[(6,{ keep:=[2,5,6,7],ids:=[2,22,56],out:=some ([6],[56]),own:=[(6,56,92,1)],fun_:=[(56,[.zs])] })]),
  (42,[(4,{ keep:=[0,2,3,4,5],ids:=[2,3,21,46],out:=some ([0,2,3,4],[2,3,21,46]),fun_:=[(21,[.s (ByteArray.mk #[]),.n .i64 0,.n .i64 0,.n .i64 0,.n .i64 0,.n .i64 0,.n .i64 0,.n .i64 0,.n .i64 0,.n .i64 0,.n .i64 0,.n .i64 0]),(46,[.n .i64 0,.n .i64 0,.n .i64 0,.n .i64 0,.n .i64 0])] }),(8,{ keep:=[0,2,3,4,6],ids:=[2,3,21,24,46],out:=some ([2,3],[2,3,21,46]),fun_:=[(21,[.s (ByteArray.mk #[]),.n .i64 0,.n .i64 0,.n .i64 0,.n .i64 0,.n .i64 0,.n .i64 0,.n .i64 0,.n .i64 0,.n .i64 0,.n .i64 0,.n .i64 0]),(46,[.n .i64 0,.n .i64 0,.n .i64 0,.n .i64 0,.n .i64 0])] })]),
  (44,[(3,{ keep:=[0,3,5,6],ids:=[3,8,10,36],out:=some ([5],[8,36]),fun_:=[(8,[.n .i64 0,.n .i64 0,.n .i64 0]),(36,[.n .i64 0,.n .i64 0,.n .i64 0])] })]),
  (50,[(4,{ keep:=[0,1,5],ids:=[],out:=some ([4],[]) })]),
  (52,[(4,{ keep:=[0,1,5],ids:=[],out:=some ([4],[]) })]),
  (53,[(6,{ keep:=[5,6,29,30,31],ids:=[23,27,49],out:=some ([6],[27,49]),fun_:=[(27,[.zs])] })]),
  (56,[(3,{ keep:=[0,1,4,5,6],ids:=[4,5,24],out:=some ([4,5],[4,5,24]) })]),
  (58,[(7,{ keep:=[1,20,21,22],ids:=[1],out:=some ([1,2],[1,11,28]) }),(16,{ keep:=[1,38,39,40],ids:=[1],out:=some ([2],[11,28]) })]),
  (59,[(6,{ keep:=[1,40,41,42],ids:=[1],out:=some ([1,2],[1]) }),(12,{ keep:=[1,51,52,53],ids:=[1],out:=some ([1,2],[1]) }),(18,{ keep:=[1,78,79,80],ids:=[1],out:=some ([2],[]) })]),
  (61,[(4,{ keep:=[18],ids:=[18],out:=some ([2],[]) })]),
  (63,[(2,{ keep:=[1,8,9,10],ids:=[1],out:=some ([1,2],[1]) }),(7,{ keep:=[1,8,9,10,23,24,25],ids:=[1],out:=some ([1,2,8,9,10],[1]) })]),
  (64,[(2,{ keep:=[1,2,5],ids:=[2],out:=some ([4],[]) })]),
  (65,[(4,{ keep:=[1,2,5],ids:=[2],out:=some ([4],[]) })]),
  (66,[(4,{ keep:=[1,3],ids:=[1],out:=some ([2],[]) }),(10,{ keep:=[1,3,4,5],ids:=[1,4],out:=some ([1,2,3],[1]) })]),
  (67,[(8,{ keep:=[2,3,4,7,8],ids:=[2,3,4,7,30,95],out:=some ([4,7],[4,7,30,95]),fun_:=[(30,[.n .i64 0,.n .i64 0,.zs]),(95,[.n .i64 0,.n .i64 0,.zs])] }),(16,{ keep:=[2,3,4,7,8,9,10,12],ids:=[2,3,4,7,10,30,95],out:=some ([2,3,4,7,8],[2,3,4,7,30,95]),fun_:=[(30,[.n .i64 0,.n .i64 0,.zs]),(95,[.n .i64 0,.n .i64 0,.zs])] })]),
  (68,[(4,{ keep:=[2,3,5],ids:=[2,3],out:=some ([4],[]) }),(9,{ keep:=[2,3,5,6],ids:=[2,3],out:=some ([2,3,4,5],[2,3]) })]),
  (69,[(2,{ keep:=[0,1,5],ids:=[],out:=some ([4],[]) })]),
  (70,[(4,{ keep:=[1,3],ids:=[1],out:=some ([1,2],[1,27]) }),(12,{ keep:=[1,5],ids:=[1],out:=some ([2],[27]) })]),
  (74,[(2,{ keep:=[0,3],ids:=[],out:=some ([2],[]) })]),
  (79,[(3,{ keep:=[1,2,3,5],ids:=[1,2,3,12],out:=some ([2,3],[2,3,12]) })]),
  (86,[(3,{ keep:=[3,5,14,15,16],ids:=[3,13,51],out:=some ([5],[13,51]),fun_:=[(13,[.n .i64 0,.n .i64 0,.zs]),(51,[.n .i64 0,.n .i64 0,.zs])] }),(7,{ keep:=[3,5,7,14,15,16,26,27],ids:=[3,7,13,22,51],out:=some ([3,5,7,14,15,16],[3,7,13,22,51]),fun_:=[(13,[.n .i64 0,.n .i64 0,.zs]),(22,[.n .i64 0,.n .i64 0,.n .i64 0]),(51,[.n .i64 0,.n .i64 0,.zs])] }),(10,{ keep:=[3,5,7,8,14,15,16,26,27,30,31],ids:=[3,7,13,22,51],out:=some ([3,5,7,14,15,16,26,27],[3,7,13,22,51]),fun_:=[(13,[.n .i64 0,.n .i64 0,.zs]),(22,[.n .i64 0,.n .i64 0,.n .i64 0]),(51,[.n .i64 0,.n .i64 0,.zs])] })]),
  (90,[(4,{ keep:=[0,1,5],ids:=[],out:=some ([4],[]) })]),
  (91,[(4,{ keep:=[0,1,5],ids:=[],out:=some ([4],[]) })]),
  (92,[(4,{ keep:=[0,1,5],ids:=[],out:=some ([4],[]) })]),
  (93,[(4,{ keep:=[0,1,5],ids:=[],out:=some ([4],[]) })]),
  (95,[(5,{ keep:=[2,3,5,6],ids:=[2,3,27],out:=some ([5],[27]),own:=[(5,27,66,6)],fun_:=[(27,[.n .i64 0,.n .i64 0,.n .i64 0,.n .i64 0,.n .i64 0,.n .i64 0])] })]),
  (102,[(3,{ keep:=[2,3,4,5,6],ids:=[2,3,4,5,34],out:=some ([4,5],[4,5,34]) })]),
  (104,[(4,{ keep:=[1,17,18],ids:=[1],out:=some ([1,2],[1,23]) })]),
  (105,[(3,{ keep:=[1,5,13,14,15],ids:=[11,27,43],out:=some ([5],[11,27,43]) })]),
  (106,[(4,{ keep:=[0,1,5],ids:=[],out:=some ([4],[]) })]),
  (108,[(5,{ keep:=[3,5,16,17,18],ids:=[3,14,28],out:=some ([5],[14,28]),fun_:=[(14,[.n .i64 0,.n .i64 0,.n .i64 0,.n .i64 0,.n .i64 0,.n .i64 0])] })]),
  (109,[(5,{ keep:=[37,38,39],ids:=[],out:=some ([4],[]) }),(8,{ keep:=[37,38,39,43,44],ids:=[],out:=some ([4,37,38,39],[]) })]),
  (111,[(3,{ keep:=[1,3,7,8],ids:=[1,3],out:=some ([1,3],[1,3]) })]),
  (114,[(2,{ keep:=[0,1,7,8],ids:=[],out:=some ([4],[]) })]),
  (115,[(4,{ keep:=[28,29,30],ids:=[],out:=some ([2],[]) }),(7,{ keep:=[28,29,30,34,35],ids:=[],out:=some ([2,28,29,30],[]) })]),
  (116,[(4,{ keep:=[0,3],ids:=[],out:=some ([2],[]) })]),
  (117,[(4,{ keep:=[1,3],ids:=[1],out:=some ([2],[]) })]),
  (118,[(3,{ keep:=[3,5,6,7,8],ids:=[3,5,6,7,45],out:=some ([6,7],[6,7,45]),ownB:=[(7,2,45,58,3)],fun_:=[(45,[.n .i64 0,.n .i64 0,.n .i64 0])] })]),
  (119,[(5,{ keep:=[0,1,5,6],ids:=[5],out:=some ([1,4,5],[5]) })]),
  (120,[(2,{ keep:=[0,3],ids:=[],out:=some ([2],[]) })]),
  (123,[(3,{ keep:=[2,3,4,5,6],ids:=[2,3,4,5],out:=some ([4,5],[4,5]) }),(6,{ keep:=[2,3,4,5,6,7],ids:=[2,3,4,5],out:=some ([2,3,4,5,6],[2,3,4,5]) })]),
  (124,[(4,{ keep:=[1,2,14,15,16],ids:=[],out:=some ([6],[]) })]),
  (127,[(3,{ keep:=[1,5,11,12,13],ids:=[10,22],out:=some ([5],[10,22]),fun_:=[(10,[.n .i64 0,.n .i64 0])] })]),
  (130,[(2,{ keep:=[1,2,5],ids:=[2],out:=some ([4],[]) })]),
  (132,[(2,{ keep:=[0,1,7,8],ids:=[],out:=some ([4],[]) })]),
  (136,[(3,{ keep:=[2,3,4,5,10],ids:=[2,3,4,5],out:=some ([4,5],[4,5]) }),(6,{ keep:=[2,3,4,5,6,10,13],ids:=[2,3,4,5],out:=some ([2,3,4,5,10],[2,3,4,5]) }),(10,{ keep:=[2,3,4,5,6,7,8,10,13,16],ids:=[2,3,4,5,8,31],out:=some ([2,3,4,5,6,7,8,10,13],[2,3,4,5,8,31]) })]),
  (137,[(3,{ keep:=[0,1,3],ids:=[0,1,8],out:=some ([0,1],[0,1,8]) })]),
  (158,[(3,{ keep:=[2,3,4,5,7],ids:=[2,3,4,5,17],out:=some ([4,5],[4,5,17]) })]),
  (159,[(3,{ keep:=[2,3,4,5,8],ids:=[2,3,4,5,27],out:=some ([4,5],[4,5,27]) }),(6,{ keep:=[2,3,4,5,6,8,11],ids:=[2,3,4,5,27],out:=some ([2,3,4,5,8],[2,3,4,5,27]) })]),
  (161,[(6,{ keep:=[4,6,7,40,41],ids:=[4,53],out:=some ([4,6,7],[4,53]) })]),
  (167,[(2,{ keep:=[0,1,7,8],ids:=[],out:=some ([4],[]) })]),
  (168,[(2,{ keep:=[1,2,8,9],ids:=[2],out:=some ([4],[]) })]),
  (169,[(2,{ keep:=[5,6],ids:=[],out:=some ([2],[]) })]),
  (172,[(2,{ keep:=[0,1,7,8],ids:=[],out:=some ([4],[]) })]),
  (176,[(2,{ keep:=[0,1,7,8],ids:=[],out:=some ([4],[]) })]),
  (203,[(5,{ keep:=[2,3,4,5,6],ids:=[2,3,4,5,9,13,27,37],out:=some ([2,3,4,5],[2,3,4,5,9,13,27,37]) })]),
  (208,[(6,{ keep:=[2,3,4,5,6],ids:=[2,3,4,5,11,15,29,39],out:=some ([2,3,4,5],[2,3,4,5,11,15,29,39]) })]),
  (209,[(3,{ keep:=[3,4,7,8,9],ids:=[],out:=some ([3],[]) })])]
 ff:=[11,
  12,
  17,
  18,
  22,
  24,
  26,
  29,
  36,
  40,
  42,
  44,
  53,
  67,
  80,
  81,
  82,
  84,
  85,
  86,
  87,
  95,
  108,
  118,
  127,
  131,
  133,
  134]
 zf:=[]
 bf:=[6,
  17,
  18,
  29]
 sf:=[6]
}
theorem okF:tabsF.Ok Tryz.prog:=⟨xUB,xUV,kXB,xWU,xWI,xUE,xXF,xWJ,uZG,xWE,⟨eq58,eq66,eq68,xGB,xGA,xGH,trivial⟩,fns,uZH,fun f hf=>by simp [tabsF,tabs] at hf⟩
noncomputable def Tf:Tab:=tabsF.tab
theorem jV:TabOk Tryz.prog Tf:=Tabs.ok okF
end Go.Proofs.YtmeldddgjfocdaaGreat.Rt
namespace Go.Rx
open Go.RowKit Go.Sx
def kB:IntKind→IntKind→Bool
 | .i64,.i64=>true
 | .i32,.i32=>true
 | .u64,.u64=>true
 | .u8,.u8=>true
 | _,_=>false
theorem fXH {k k':IntKind} (h:kB k k'=true):k=k':=by cases k <;> cases k' <;> first | rfl | cases h
def eqP:Nat→PV→PV→Bool
 | 0,_,_=>false
 | _ + 1,.n k x,.n k' y=>kB k k' && decide (x=y)
 | _ + 1,.b x,.b y=>x == y
 | _ + 1,.s x,.s y=>decide (x.data.toList=y.data.toList)
 | n + 1,.a xs,.a ys=>eqL n xs ys
 | n + 1,.t xs,.t ys=>eqL n xs ys
 | n + 1,.l xs,.l ys=>eqLL n xs ys
 | n + 1,.z xs j o,.z ys j' o'=>eqLL n xs ys && Nat.beq j j' && Nat.beq o o'
 | n + 1,.c xs o,.c ys o'=>eqL n xs ys && Nat.beq o o'
 | n + 1,.f f fs cs,.f f' fs' cs'=>Nat.beq f f' && eqL n fs fs' && eqL n cs cs'
 | _ + 1,.ni,.ni=>true
 | _ + 1,.np,.np=>true
 | _ + 1,.nf,.nf=>true
 | _ + 1,_,_=>false
where
 eqL:Nat→List PV→List PV→Bool
 | 0,_,_=>false
 | _ + 1,[],[]=>true
 | n + 1,x :: xs,y :: ys=>eqP n x y && eqL n xs ys
 | _ + 1,_,_=>false
 eqLL:Nat→List (List PV)→List (List PV)→Bool
 | 0,_,_=>false
 | _ + 1,[],[]=>true
 | n + 1,x :: xs,y :: ys=>eqP.eqL n x y && eqLL n xs ys
 | _ + 1,_,_=>false
theorem kHQ {x y:ByteArray} (h:x.data.toList=y.data.toList):x=y:=by
 cases x; cases y
 congr 1
 exact Array.toList_inj.1 h
theorem uYZ:∀ n,(∀ p q,eqP n p q=true→p=q)∧(∀ p q,eqP.eqL n p q=true→p=q)∧(∀ p q,eqP.eqLL n p q=true→p=q)
 | 0=>⟨fun p q h=>by simp [eqP] at h,fun p q h=>by simp [eqP.eqL] at h,fun p q h=>by simp [eqP.eqLL] at h⟩
 | n + 1=>by
  obtain ⟨h1,h2,h3⟩:=uYZ n;refine ⟨fun p q h => ?_,fun p q h => ?_,fun p q h => ?_⟩
  ·cases p <;> cases q <;> simp only [eqP,vQJ,decide_eq_true_eq,beq_iff_eq] at h <;> first | (cases h; done) | skip
   ·rw [fXH h.1,h.2]
   ·rw [h]
   ·rw [kHQ h]
   ·rw [h2 _ _ h]
   ·rw [h2 _ _ h]
   ·rw [h3 _ _ h]
   ·rw [h3 _ _ h.1.1,vQX h.1.2,vQX h.2]
   ·rw [h2 _ _ h.1,vQX h.2]
   ·rw [vQX h.1.1,h2 _ _ h.1.2,h2 _ _ h.2]
   ·rfl
   ·rfl
   ·rfl
  ·cases p <;> cases q <;> simp only [eqP.eqL,vQJ] at h <;> first | (cases h; done) | skip
   ·rfl
   ·rw [h1 _ _ h.1,h2 _ _ h.2]
  ·cases p <;> cases q <;> simp only [eqP.eqLL,vQJ] at h <;> first | (cases h; done) | skip
   ·rfl
   ·rw [h2 _ _ h.1,h3 _ _ h.2]
abbrev Known:=List (Nat × List (List PV × Ret))
def kQK:List (List PV × Ret)→List PV→Option Ret
 | [],_=>none
 | (ps,r) :: l,qs=>bif eqP.eqL 200 ps qs then some r else kQK l qs
def Known.orc (t:Known):Orc:=⟨fun g=>(asc t g).bind fun l=>some (kQK l),fun _=>none⟩
def Known.Ok (P:Program) (t:Known):Prop:=∀ x ∈ t,∀ y ∈ x.2,zG P x.1 y.1 y.2
theorem kQJ {l:List (List PV × Ret)} {qs:List PV} {r:Ret} (h:kQK l qs=some r):(qs,r) ∈ l:=by
 induction l with
 | nil=>cases h
 | cons y l ih =>
  obtain ⟨ps,r'⟩:=y;simp only [kQK] at h;cases hc:eqP.eqL 200 ps qs with
  | true=>rw [hc] at h; cases h; rw [(uYZ 200).2.1 _ _ hc]; exact vZQ
  | false=>rw [hc] at h; exact vQH _ (ih h)
theorem Known.ok {P:Program} {t:Known} (h:t.Ok P):OrcOk P t.orc:=by
 refine ⟨fun g o ho ps r hr => ?_,fun g o ho=>by simp [Known.orc] at ho⟩;simp only [Known.orc,vQQ,vQZ] at ho;obtain ⟨l,hl,rfl⟩:=ho;exact h _ (qJZ hl) _ (kQJ hr)
theorem Known.nil (P:Program):Known.Ok P []:=fun x hx=>by simp at hx
theorem Known.add {P:Program} {T:Tab} {t:Known} {f:Nat} {l:List (List PV × Ret)} {N:Nat} (hT:TabOk P T) (hm:P.follows .mixedOrders=true) (ht:t.Ok P) (h:l.map (fun y=>run T t.orc N f y.1)=l.map (fun y=>some y.2)):Known.Ok P ((f,l) :: t):=fun x hx=>by
 rcases List.mem_cons.1 hx with rfl | hx
 ·exact fun y hy=>uH hT hm (Known.ok ht) (zJU h hy)
 ·exact ht x hx
end Go.Rx
namespace Go.Rx
open Go.RowKit Go.Sx
section
abbrev α:=Ret × Mem
abbrev qJJ:=Nat→List PV→(Ret→Option α)→Option α
def yYY (e:Eff) (K:Eff→Option α):Option α:=match e with
 | ⟨[],[],.v (.b c),[]⟩=>bif c then K (.val (.v (.b true))) else K (.val (.v (.b false)))
 | e=>K e
theorem zKL (e:Eff) (K:Eff→Option α):yYY e K=K e:=by
 unfold yYY;split
 ·rename_i c; cases c <;> rfl
 ·rfl
def jZL (C:Cx) (cK:qJJ) (dst f:Nat) (args:List RV) (K:Eff→Option α):Option α :=
 (mapO RV.fz args).bind fun ps=>cK f ps fun r =>
  (bif args.all RV.still then yYC C.T C.me dst (catR RV.regs args) r
  else match r with
   | .v x=>bif x.flat then some (.val (.v x)) else none
   | .ow _ _ (.l rows)=>bif rows.all (fun r=>r.all PV.flat1) then some (.val (.v (.l rows))) else none
   | _=>none).bind fun e=>yYY e K
def zQD (s:ByteArray) (i:Nat):Int:=(((s[i]?).getD 0).toNat:Int)
def jKV (C:Cx) (cK:qJJ) (dst:Nat) (op:Op) (vs:List RV) (K:Eff→Option α):Option α :=
 match op,vs with
 | .binOp .quo _ _ _ _,[.v (.n k x),.v (.n k' y)]=>bif decide (k=k') then (bif decide (y=0) then none else K (.val (.v (.n k (k.wrap (x.tdiv y)))))) else none
 | .binOp .rem _ _ _ _,[.v (.n k x),.v (.n k' y)]=>bif decide (k=k') then (bif decide (y=0) then none else K (.val (.v (.n k (x.tmod y))))) else none
 | .call ⟨.builtin .append,axs,ats⟩,[.o id e' sz rows,y]=>(match ats.toList with
   | [t,t']=>bif Nat.beq t t' then (C.T.sl t).bind fun e=>(yHI y).bind fun news=>bif news.ok e.2 then (bif Nat.beq e' e.1 && Nat.beq sz e.2 && !(y.ids.any (Nat.beq id)) then
     (bif decide (rows.len + news.len≤C.T.bd e.1) then K (.app id (.reg e' sz (rows.app news)) (.o id)) else none) else none) else none else none
   | _=>none)
 | .call ⟨.builtin .append,axs,ats⟩,[.nl,y]=>(match ats.toList with
   | [t,t']=>bif Nat.beq t t' then (C.T.sl t).bind fun e=>(yHI y).bind fun news=>bif news.ok e.2 then
     (bif decide (news.len≤C.T.bd e.1) then K (.new dst (.reg e.1 e.2 news) (.o dst)) else none) else none else none
   | _=>none)
 | .binOp .shl _ _ _ _,[.v (.n k x),.v (.n _ y)]=>bif decide (0≤y) then K (.val (.v (.n k (k.wrap (x * 2 ^ (min y.toNat k.bits)))))) else none
 | .binOp .shr _ _ _ _,[.v (.n k x),.v (.n _ y)]=>bif decide (0≤y) then K (.val (.v (.n k (x.fdiv (2 ^ (min y.toNat k.bits)))))) else none
 | .indexAddr t _ _,[.o id _ sz rows,.v (.n _ i)]=>(C.T.sl t).bind fun e=>bif inB i rows.len then (bif Nat.beq sz e.2 then K (.val (.q id i.toNat 0)) else none) else none
 | .makeSlice t _ _,[.v (.n _ n),.v (.n _ c)]=>(C.T.sl t).bind fun e=>(C.T.zr e.1).bind fun zs=>bif C.T.zf C.me then none else
   bif decide (0≤n) then bif decide (n≤c) then bif decide (c≤1000000) then K (.new dst (.reg e.1 e.2 (bif C.T.ff C.me then .fo n.toNat (fun _=>zs) else .l (qWB zs n.toNat))) (.o dst)) else none else none else none
 | .slice t _ lo hi none,.v (.lf n f) :: vs=>(zGH lo hi vs).bind fun b=>(C.T.sl t).bind fun e=>bif inS b.1 b.2 n then (bif Nat.beq (f (loOf b.1)).length e.2 then K (.val (.v (.lf (hiOf b.2 n - loOf b.1) fun v=>f (v + loOf b.1)))) else none) else none
 | .slice t _ lo hi none,.o id e' sz rows :: vs=>(zGH lo hi vs).bind fun b=>(match b with
   | (none,some j)=>(C.T.sl t).bind fun e=>bif Nat.beq sz e.2 then (bif decide (0≤j) then (bif decide (j.toNat≤rows.len) then K (.app id (.reg e' sz (rows.take j.toNat)) (.o id)) else none) else none) else none
   | _=>none)
 | .index t _ _,[.v (.s s),.v (.n _ i)]=>bif C.T.str t then (bif inB i s.size then K (.val (.v (.n .u8 (zQD s i.toNat)))) else none) else none
 | .next _ true,[.i id 0 s pos]=>bif decide (pos < s.size) then K (.set id (.itr s (pos + (Utf8.decode s pos).2)) (.v (.t [.b true,.n .i64 (pos:Int),.n .i32 ((Utf8.decode s pos).1:Int)]))) else K (.val (.v (.t [.b false])))
 | .indexAddr t _ _,[.v (.lf n f),.v (.n _ i)]=>(C.T.sl t).bind fun e=>bif inB i n then (bif Nat.beq (f i.toNat).length e.2 then K (.val (.v (.zf n f i.toNat 0))) else none) else none
 | .call ⟨.value fx,axs,ats⟩,.v (.f f first cap) :: vs=>bif C.T.rw f then (zH C.T C.cA C.cB C.me dst (.call ⟨.value fx,axs,ats⟩) (.v (.f f first cap) :: vs)).bind fun e=>yYY e K
   else jZL C cK dst f (first.map .v ++ vs ++ cap.map .v) K
 | op,vs=>(zH C.T C.cA C.cB C.me dst op vs).bind fun e=>yYY e K
def goK (C:Cx) (cK:qJJ) (o:Oper) (σ:St) (K:Eff × List RV→Option α):Option α :=
 bif dstB C.n o.dst then
  (mapO (opv (mode o.op) σ) o.op.operands.toList).bind fun vs=>jKV C cK (o.dst.getD 0) o.op vs fun e =>
   bif e.nw.all (fun id=>(yK σ.M id).isNone) then K (e,vs) else none
 else none
def yYU (C:Cx) (o:Oper) (K:Eff × List RV→Option α):Option α:=bif dstB C.n o.dst then K (.val (.v (.t [])),[]) else none
def kYW (C:Cx) (cK:qJJ) (ops:Array Oper) (o:Oper) (σ:St) (K:Eff × List RV→Option α):Option α :=
 match o.guard with
 | none=>goK C cK o σ K
 | some (j,b)=>match (ops[j]?).bind (·.dst) with
  | some d=>match qQB σ.S d with
   | some (.v (.b c))=>(match b with
    | true=>bif c then goK C cK o σ K else yYU C o K
    | false=>bif c then yYU C o K else goK C cK o σ K)
   | some (.v (.t []))=>yYU C o K
   | _=>none
  | none=>none
end
def zUH (C:Cx) (cK:qJJ) (ops:Array Oper):List Oper→(St→Option (Ret × Mem))→St→Option (Ret × Mem)
 | [],K,σ=>K σ
 | o :: l,K,σ=>kYW C cK ops o σ fun r=>zUH C cK ops l K (σ.apply r.1 o.dst)
def qVB (C:Cx) (cK:qJJ) (ops:Array Oper):Nat→List Oper→List Done→(St→Option (Ret × Mem))→St→Option (Ret × Mem)
 | _,[],acc,K,σ=>bif zJY ops acc.reverse && Sx.backB ops then K σ else none
 | i,o :: l,acc,K,σ=>kYW C cK ops o σ fun r=>qVB C cK ops (i + 1) l ((i,r) :: acc) K (σ.apply r.1 o.dst)
def qKF (N:Nat) (C:Cx) (cK:qJJ):Code→(Ex→St→Option (Ret × Mem))→St→Option (Ret × Mem)
 | .skip,K,σ=>K .normal σ
 | .label _,K,σ=>K .normal σ
 | .scope x,K,σ=>qKF N C cK x K σ
 | .ret,K,σ=>K .ret σ
 | .exit id,K,σ=>K (.exit id) σ
 | .region _ ops d,K,σ=>bif d then qVB C cK ops 0 ops.toList [] (K .normal) σ else zUH C cK ops ops.toList (K .normal) σ
 | .seq x y,K,σ=>qKF N C cK x (fun e σ=>match e with
   | .normal=>qKF N C cK y K σ
   | e=>K e σ) σ
 | .cond c x y,K,σ=>(opv 1 σ c).bind fun v=>match v with
   | .v (.b t)=>bif t then qKF N C cK x K σ else qKF N C cK y K σ
   | _=>none
 | .block id x,K,σ=>qKF N C cK x (fun e σ=>match e with
   | .exit id'=>bif Nat.beq id' id then K .normal σ else K (.exit id') σ
   | e=>K e σ) σ
 | .loop x,K,σ=>qGJ (fun again σ=>qKF N C cK x (fun e σ=>match e with
   | .normal=>again σ
   | e=>K e (qYB (C.T.hint C.me (yZ x)) σ)) (qJW (C.T.hint C.me (yZ x)) σ)) N σ
 | _,_,_=>none
abbrev OrK:=Nat→Option (List PV→Option (Bool × Ret))
def OrK.orc (o:OrK):Orc:=⟨fun g=>(o g).bind fun f=>some fun ps=>(f ps).bind fun x=>bif x.1 then some x.2 else none,fun _=>none⟩
def zJV (ok:OrK) (rK:qJJ):qJJ:=fun g ps K=>match ok g with
 | some o=>(o ps).bind fun x=>bif x.1 then K x.2 else none
 | none=>rK g ps K
def jJZ (T:Tab) (ok:OrK):Nat→qJJ
 | 0,_,_,_=>none
 | N + 1,f,ps,K=>match T.fn f with
  | none=>none
  | some fi=>bif Nat.ble (ps.map HV.v).length fi.ntmps then qKF N ⟨T,qUB ok.orc (runF T ok.orc N),qWE ok.orc (runF T ok.orc N),f,fi.ntmps⟩ (zJV ok (jJZ T ok N)) fi.body (fun e σ=>(endK T [] fi.results e σ).bind fun r=>K r.1) ⟨initS 0 (ps.map .v),[]⟩ else none
def runK (T:Tab) (ok:OrK) (N f:Nat) (ps:List PV):Option (Ret × Mem):=jJZ T ok N f ps fun r=>some (r,[])
section
variable {C:Cx} {cK:qJJ} {ops:Array Oper} {r:α}
def SndK (C:Cx) (cK:qJJ):Prop:=∀ f ps K r,cK f ps K=some r→∃ x,C.cA f ps=some x∧K x=some r
theorem qVL {dst:Nat} {op:Op} {vs:List RV} {K:Eff→Option α} (hc:SndK C cK) (h:jKV C cK dst op vs K=some r):∃ e,zH C.T C.cA C.cB C.me dst op vs=some e∧K e=some r:=by
 unfold jKV at h;split at h
 ·rename_i k x k' y;obtain ⟨h1,h⟩:=qQ h;cases hy:decide (y=0) with
  | true=>rw [hy] at h; cases h
  | false =>
   rw [hy] at h;refine ⟨_,?_,h⟩;simp [zH,binP,binI,h1,hy]
 ·rename_i k x k' y;obtain ⟨h1,h⟩:=qQ h;cases hy:decide (y=0) with
  | true=>rw [hy] at h; cases h
  | false =>
   rw [hy] at h;refine ⟨_,?_,h⟩;simp [zH,binP,binI,h1,hy]
 ·rename_i axs ats id e' sz rows y;split at h
  ·rename_i t t' hts;obtain ⟨h1,h⟩:=qQ h;simp only [vQQ] at h;obtain ⟨el,hel,news,hnews,h⟩:=h;obtain ⟨h2,h⟩:=qQ h;obtain ⟨h3,h⟩:=qQ h;obtain ⟨h4,h⟩:=qQ h;refine ⟨_,?_,h⟩;rw [vQJ,vQJ] at h3;simp only [zH,hts,h1,vYV,hel,hnews,vYQ,h2,h3.1.1,h3.1.2,h3.2,h4,vZJ]
  ·cases h
 ·rename_i axs ats y;split at h
  ·rename_i t t' hts;obtain ⟨h1,h⟩:=qQ h;simp only [vQQ] at h;obtain ⟨el,hel,news,hnews,h⟩:=h;obtain ⟨h2,h⟩:=qQ h;obtain ⟨h4,h⟩:=qQ h;refine ⟨_,?_,h⟩;simp only [zH,hts,h1,vYV,hel,hnews,vYQ,h2,h4]
  ·cases h
 ·rename_i k x _ y;obtain ⟨h1,h⟩:=qQ h;refine ⟨_,?_,h⟩;simp [zH,binP,h1]
 ·rename_i k x _ y;obtain ⟨h1,h⟩:=qQ h;refine ⟨_,?_,h⟩;simp [zH,binP,h1]
 ·rename_i t _ _ id _ sz rows _ i;simp only [vQQ] at h;obtain ⟨el,hel,h⟩:=h;obtain ⟨h1,h⟩:=qQ h;obtain ⟨h2,h⟩:=qQ h;exact ⟨_,by simp only [zH,hel,vYQ,h1,h2,vZJ,vYV],h⟩
 ·rename_i t _ _ _ n _ c;simp only [vQQ] at h;obtain ⟨el,hel,zs,hzs,h⟩:=h;cases hzf:C.T.zf C.me with
  | true=>rw [hzf] at h; cases h
  | false =>
  rw [hzf,vYG] at h;obtain ⟨h1,h⟩:=qQ h;obtain ⟨h2,h⟩:=qQ h;obtain ⟨h3,h⟩:=qQ h;exact ⟨_,by simp only [zH,hel,hzs,hzf,vYQ,h1,h2,h3,Bool.false_and,vYG,vZJ,vYV],h⟩
 ·rename_i t _ lo hi n f vs;simp only [vQQ] at h;obtain ⟨b,hb,el,hel,h⟩:=h;obtain ⟨h1,h⟩:=qQ h;obtain ⟨h2,h⟩:=qQ h;exact ⟨_,by simp only [zH,hb,hel,vYQ,h1,h2,vYV],h⟩
 ·rename_i t _ lo hi id e' sz rows vs;simp only [vQQ] at h;obtain ⟨b,hb,h⟩:=h;split at h
  ·rename_i j;simp only [vQQ] at h;obtain ⟨el,hel,h⟩:=h;obtain ⟨h1,h⟩:=qQ h;obtain ⟨h2,h⟩:=qQ h;obtain ⟨h3,h⟩:=qQ h;exact ⟨_,by simp only [zH,hb,hel,vYQ,h1,h2,h3,vZJ,vYV],h⟩
  ·cases h
 ·rename_i t _ _ s _ i;obtain ⟨h1,h⟩:=qQ h;obtain ⟨h2,h⟩:=qQ h;obtain ⟨i0,i1⟩:=qXQ h2;refine ⟨_,?_,h⟩;have hb:s[i.toNat]? = some (s[i.toNat]'(by omega)):=getElem?_pos s i.toNat (by omega);simp only [zH,h1,vJQ i0,vZJ,vYV,zQD,hb,vYQ,Option.getD_some]
 ·rename_i id s pos;cases hp:decide (pos < s.size) with
  | true =>
   rw [hp] at h;exact ⟨_,by simp only [zH,hp,vYV],h⟩
  | false =>
   rw [hp] at h;exact ⟨_,by simp only [zH,hp,vYG],h⟩
 ·rename_i t _ _ n f _ i;simp only [vQQ] at h;obtain ⟨el,hel,h⟩:=h;obtain ⟨h1,h⟩:=qQ h;obtain ⟨h2,h⟩:=qQ h;exact ⟨_,by simp only [zH,hel,vYQ,h1,h2,vZJ,vYV],h⟩
 ·rename_i fx axs ats f first cap vs
  cases hrw:C.T.rw f with
  | true =>
   rw [hrw] at h;simp only [vYV,vQQ] at h;obtain ⟨e,he,h⟩:=h;rw [zKL] at h;exact ⟨e,he,h⟩
  | false =>
   rw [hrw] at h;simp only [vYG,jZL,vQQ] at h;obtain ⟨ps,hps,h⟩:=h;obtain ⟨x,hx,h⟩:=hc _ _ _ _ h;rw [vQQ] at h;obtain ⟨e,he,h⟩:=h;rw [zKL] at h;refine ⟨e,?_,h⟩;simp only [zH,hrw,vYG,zWV,hps,hx,vYQ];exact he
 ·rw [vQQ] at h;obtain ⟨e,he,h⟩:=h;rw [zKL] at h;exact ⟨e,he,h⟩
theorem yQE {o:Oper} {σ:St} {K:Eff × List RV→Option α} (hc:SndK C cK) (hg:qQI ops σ o=some true) (h:goK C cK o σ K=some r):∃ x,qKJ C ops o σ=some x∧K x=some r:=by
 unfold goK at h;obtain ⟨hd,h⟩:=qQ h;rw [vQQ] at h;obtain ⟨vs,hvs,h⟩:=h;obtain ⟨e,he,h⟩:=qVL hc h;obtain ⟨hn,h⟩:=qQ h;exact ⟨(e,vs),qHZ hd (.inr ⟨hg,hvs,he,fun i hi=>by simpa using List.all_eq_true.1 hn i hi⟩),h⟩
theorem qUY {o:Oper} {σ:St} {K:Eff × List RV→Option α} (hg:qQI ops σ o=some false) (h:yYU C o K=some r):∃ x,qKJ C ops o σ=some x∧K x=some r:=by
 unfold yYU at h;obtain ⟨hd,h⟩:=qQ h;exact ⟨_,qHZ hd (.inl ⟨hg,rfl⟩),h⟩
theorem zVQ {o:Oper} {σ:St} {K:Eff × List RV→Option α} (hc:SndK C cK) (h:kYW C cK ops o σ K=some r):∃ x,qKJ C ops o σ=some x∧K x=some r:=by
 unfold kYW at h;cases hg:o.guard with
 | none=>rw [hg] at h; exact yQE hc (by unfold qQI; rw [hg]) h
 | some gb =>
  obtain ⟨j,b⟩:=gb;rw [hg] at h;simp only at h;split at h
  ·rename_i d hd;split at h
   ·rename_i c hlc;have gd:qQI ops σ o=some (c == b):=by
     unfold qQI;rw [hg];simp only [hd,hlc]
    cases b <;> cases c <;> simp only [vYV,vYG] at h
    ·exact yQE hc gd h
    ·exact qUY gd h
    ·exact qUY gd h
    ·exact yQE hc gd h
   ·rename_i hlc;exact qUY (by unfold qQI; rw [hg]; simp only [hd,hlc]) h
   ·cases h
  ·cases h
end
section
variable {C:Cx} {ops:Array Oper} {r:Ret × Mem}
def Gets (K0:Ret × Mem→Option (Ret × Mem)) (r:Ret × Mem) (x:Option (Ret × Mem)):Prop:=∃ q,x=some q∧K0 q=some r
variable {K0:Ret × Mem→Option (Ret × Mem)} {cK:qJJ}
theorem qUL (hc:SndK C cK) {K K':St→Option (Ret × Mem)} (hK:∀ σ,K σ=some r→Gets K0 r (K' σ)):∀ (l:List Oper) (σ:St),zUH C cK ops l K σ=some r→Gets K0 r (zYI C ops l K' σ)
 | [],σ,h=>hK σ h
 | o :: l,σ,h=>by
  simp only [zUH] at h;obtain ⟨x,hx,h⟩:=zVQ hc h;simp only [zYI,hx,vYQ];exact qUL hc hK l _ h
theorem qKE (hc:SndK C cK) {K K':St→Option (Ret × Mem)} (hK:∀ σ,K σ=some r→Gets K0 r (K' σ)):∀ (l:List Oper) (i:Nat) (acc:List Done) (σ:St),qVB C cK ops i l acc K σ=some r→Gets K0 r (qKA C ops i l acc K' σ)
 | [],i,acc,σ,h=>by
  simp only [qVB] at h;obtain ⟨hp,h⟩:=qQ h;simp only [qKA,hp,vYV];exact hK σ h
 | o :: l,i,acc,σ,h=>by
  simp only [qVB] at h;obtain ⟨x,hx,h⟩:=zVQ hc h;simp only [qKA,hx,vYQ];exact qKE hc hK l _ _ _ h
theorem qXV {s s':(St→Option (Ret × Mem))→St→Option (Ret × Mem)} (h:∀ a a':St→Option (Ret × Mem),(∀ σ,a σ=some r→Gets K0 r (a' σ))→∀ σ,s a σ=some r→Gets K0 r (s' a' σ)):∀ (n:Nat) (σ:St),qGJ s n σ=some r→Gets K0 r (qGJ s' n σ)
 | 0,σ,hs=>by cases hs
 | n + 1,σ,hs=>h _ _ (qXV h n) σ hs
theorem qYU {N:Nat} (hc:SndK C cK):∀ (c:Code) {K K':Ex→St→Option (Ret × Mem)} (hK:∀ e σ,K e σ=some r→Gets K0 r (K' e σ)) (σ:St),qKF N C cK c K σ=some r→Gets K0 r (runC N C c K' σ)
 | .skip,K,K',hK,σ,h=>hK _ _ h
 | .label _,K,K',hK,σ,h=>hK _ _ h
 | .scope x,K,K',hK,σ,h=>qYU hc x hK σ h
 | .ret,K,K',hK,σ,h=>hK _ _ h
 | .exit id,K,K',hK,σ,h=>hK _ _ h
 | .region id ops d,K,K',hK,σ,h=>by
  cases d with
  | true=>exact qKE hc (hK .normal) _ _ _ _ h
  | false=>exact qUL hc (hK .normal) _ _ h
 | .seq x y,K,K',hK,σ,h=>by
  refine qYU hc x (fun e τ hk => ?_) σ h;cases e with
  | normal=>exact qYU hc y hK τ hk
  | _=>exact hK _ _ hk
 | .cond c x y,K,K',hK,σ,h=>by
  simp only [qKF,vQQ] at h;obtain ⟨v,hv,h⟩:=h;simp only [runC,hv,vYQ];split at h
  ·rename_i t;cases t with
   | true=>exact qYU hc x hK σ h
   | false=>exact qYU hc y hK σ h
  ·cases h
 | .block id x,K,K',hK,σ,h=>by
  refine qYU hc x (fun e τ hk => ?_) σ h;cases e with
  | exit id' =>
   simp only at hk ⊢;cases hb:Nat.beq id' id with
   | true=>rw [hb] at hk; exact hK _ _ hk
   | false=>rw [hb] at hk; exact hK _ _ hk
  | _=>exact hK _ _ hk
 | .loop x,K,K',hK,σ,h=>by
  simp only [qKF] at h;simp only [runC];refine qXV (fun a a' ha τ hs => ?_) N σ h;refine qYU hc x (fun e υ hk => ?_) _ hs;cases e with
  | normal=>exact ha _ hk
  | _=>exact hK _ _ hk
 | .rangeFunc ..,K,K',hK,σ,h=>by cases h
 | .goto _,K,K',hK,σ,h=>by cases h
 | .refuse _,K,K',hK,σ,h=>by cases h
end
theorem zZX {T:Tab} {ok:OrK}:∀ (N f:Nat) (ps:List PV) (K:Ret→Option (Ret × Mem)) (r:Ret × Mem),jJZ T ok N f ps K=some r→∃ x M,runF T ok.orc N f (ps.map .v) []=some (x,M)∧K x=some r
 | 0,f,ps,K,r,h=>by cases h
 | N + 1,f,ps,K,r,h=>by
  simp only [jJZ] at h;split at h
  ·cases h
  ·rename_i fi hfi;obtain ⟨hb,h⟩:=qQ h;have hc:SndK ⟨T,qUB ok.orc (runF T ok.orc N),qWE ok.orc (runF T ok.orc N),f,fi.ntmps⟩ (zJV ok (jJZ T ok N)):=fun g qs K' r' hk=>by
    unfold zJV at hk;show ∃ x,qUB ok.orc (runF T ok.orc N) g qs=some x∧K' x=some r';unfold qUB;cases ho:ok g with
    | some o =>
     rw [ho] at hk;simp only [vQQ] at hk;obtain ⟨x,hx,hk⟩:=hk;obtain ⟨h1,hk⟩:=qQ hk;exact ⟨x.2,by simp only [OrK.orc,ho,hx,vYQ,h1,vYV],hk⟩
    | none =>
     rw [ho] at hk;obtain ⟨x,M,hx,hk⟩:=zZX N g qs K' r' hk;have e:ok.orc.a g=none:=by simp only [OrK.orc,ho,Option.bind_none]
     exact ⟨x,by simp only [e,hx,vYQ],hk⟩
   obtain ⟨q,h1,h2⟩:=qYU (K0:=fun q=>K q.1) (K':=endK T [] fi.results) hc fi.body (fun e σ hk=>by
    simp only [vQQ] at hk;exact hk) _ h
   refine ⟨q.1,q.2,?_,h2⟩;simp only [runF,hfi,hb,vYV];exact h1
theorem jXU {T:Tab} {ok:OrK} {N f:Nat} {ps:List PV} {r:Ret} (h:runK T ok N f ps=some (r,[])):run T ok.orc N f ps=some r:=by
 obtain ⟨x,M,h1,h2⟩:=zZX N f ps _ _ h;cases h2;unfold run;rw [h1];rfl
def OrK.Ok (P:Program) (ok:OrK):Prop:=∀ g o,ok g=some o→∀ ps r,o ps=some (true,r)→zG P g ps r
theorem OrK.Ok.orc {P:Program} {ok:OrK} (h:ok.Ok P):OrcOk P ok.orc:=by
 refine ⟨fun g o ho ps r hr => ?_,fun g o ho=>by simp [OrK.orc] at ho⟩;simp only [OrK.orc,vQQ,vQZ] at ho;obtain ⟨f,hf,rfl⟩:=ho;simp only [vQQ] at hr;obtain ⟨x,hx,hr⟩:=hr;obtain ⟨h1,hr⟩:=qQ hr;cases hr;exact h g f hf ps x.2 (by rw [hx,← h1])
theorem qH {P:Program} {T:Tab} {ok:OrK} {N f:Nat} {ps:List PV} {r:Ret} (hT:TabOk P T) (hm:P.follows .mixedOrders=true) (hO:ok.Ok P) (h:runK T ok N f ps=some (r,[])):zG P f ps r:=uH hT hm hO.orc (jXU h)
abbrev OrL:=List (Nat × (List PV→Option (Bool × Ret)))
def OrL.k (l:OrL):OrK:=asc l
def zZ (P:Program) (f:Nat) (o:List PV→Option (Bool × Ret)):Prop:=∀ ps r,o ps=some (true,r)→zG P f ps r
theorem OrL.ok {P:Program} {l:OrL} (h:AllP (fun x:Nat × (List PV→Option (Bool × Ret))=>zZ P x.1 x.2) l):(OrL.k l).Ok P:=fun g o ho ps r hr=>h.of (qJZ ho) ps r hr
def listed (l:List (List PV × Ret)):List PV→Option (Bool × Ret):=fun ps=>(kQK l ps).bind fun r=>some (true,r)
def PV.val1:PV→Value
 | .n k x=>.int k x
 | .b x=>.bool x
 | .s x=>.string x
 | _=>.nilIface
def PV.val:PV→Value
 | .a cs=>.agg (cs.map PV.val1).toArray
 | x=>x.val1
theorem yUF {F:Nat→Prop} {w:World} {p:PV} {v:Value} (hp:p.flat1=true) (h:RP F w p v):v=p.val1:=by
 cases h <;> first | rfl | (simp [PV.flat1] at hp; done)
theorem qGG {F:Nat→Prop} {w:World} {p:PV} (hp:p.flat1=true):RP F w p p.val1∧p.val1.oneCell'=true:=by
 cases p <;> first | (simp [PV.flat1] at hp; done) | exact ⟨by constructor,rfl⟩
theorem jUY {F:Nat→Prop} {w:World} {p:PV} {v:Value} (hp:p.flat2=true) (h:RP F w p v):v=p.val:=by
 cases p with
 | a cs =>
  cases h with
  | a _ vs hl h1 h =>
   have e:vs=cs.map PV.val1:=List.ext_getElem? fun i=>by
    rw [vZY];cases hc:cs[i]? with
    | none=>rw [Option.map_none,List.getElem?_eq_none (by have:=List.getElem?_eq_none_iff.1 hc; omega)]
    | some c =>
     have hi:=(List.getElem?_eq_some_iff.1 hc).1;have hv:vs[i]? = some (vs[i]'(by omega)):=vQK (by omega);rw [hv,Option.map_some,yUF (List.all_eq_true.1 hp c (vQG hc)) (h i c _ hc hv)]
   rw [e]; rfl
 | _=>exact yUF (by first | exact hp | (simp [PV.flat2,PV.flat1] at hp)) h
theorem uQI {F:Nat→Prop} {w:World} {p:PV} (hp:p.flat2=true):RP F w p p.val:=by
 cases p with
 | a cs =>
  refine .a cs (cs.map PV.val1) (by simp) (fun v hv => ?_) fun i p v hi hv => ?_
  ·obtain ⟨c,hc,rfl⟩:=List.mem_map.1 hv;exact (qGG (F:=F) (w:=w) (List.all_eq_true.1 hp c hc)).2
  ·rw [vZY,hi] at hv;cases hv;exact (qGG (List.all_eq_true.1 hp p (vQG hi))).1
 | _=>exact (qGG (by first | exact hp | (simp [PV.flat2,PV.flat1] at hp))).1
theorem qU {P:Program} {f:Nat} {ps:List PV} {x:PV} (hent:uV P f) (hp:ps.all PV.flat2=true) (hx:x.flat2=true) (h:∀ w,Calls P f (ps.map PV.val).toArray w (Rets x.val w)):zG P f ps (.v x):=by
 refine ⟨hent,fun w F vals hF hal => ?_⟩;have e:vals=ps.map PV.val:=List.ext_getElem? fun i=>by
  rw [vZY];have hl:=hal.1;cases hc:ps[i]? with
  | none=>rw [Option.map_none,List.getElem?_eq_none (by have:=List.getElem?_eq_none_iff.1 hc; omega)]
  | some c =>
   have hi:=(List.getElem?_eq_some_iff.1 hc).1;have hv:vals[i]? = some (vals[i]'(by omega)):=vQK (by omega);rw [hv,Option.map_some,jUY (List.all_eq_true.1 hp c (vQG hc)) (hal.2 i c _ hc hv)]
 rw [e];exact (h w).mono fun e w' ⟨he,hg⟩=>⟨x.val,F,he,hg,fun k hk=>hk,fun k hk=>.inl hk,uQI hx⟩
theorem zY {P:Program} {f:Nat} {ps:List PV} {x:PV} (h:zG P f ps (.v x)) (hp:ps.all PV.flat2=true) (hx:x.flat2=true) (w:World):Calls P f (ps.map PV.val).toArray w (Rets x.val w):=by
 refine Calls.mono (h.2 w (fun _=>False) (ps.map PV.val) (fun k hk=>hk.elim) ⟨by simp,fun i p v hi hv => ?_⟩) fun e w' ⟨v,F',he,hg,_,_,hr⟩=>⟨by rw [he,jUY hx hr],hg⟩
 rw [vZY,hi] at hv;cases hv;exact uQI (List.all_eq_true.1 hp p (vQG hi))
end Go.Rx
namespace Go.Rx
open Go.RowKit Go.Sx
def qUQ (sz:Nat) (rows:List (List PV)):Bool:=rows.all fun r=>Nat.beq r.length sz && r.all PV.flat1
def qJX (rows:List (List PV)):List (List Value):=rows.map fun r=>r.map PV.val1
theorem qJG {sz:Nat} {rows:List (List PV)} (h:qUQ sz rows=true) {r:List PV} (hr:r ∈ rows):r.length=sz∧∀ p ∈ r,p.flat1=true:=by
 have:=List.all_eq_true.1 h r hr
 rw [vQJ] at this;exact ⟨vQX this.1,List.all_eq_true.1 this.2⟩
theorem yYG {F:Nat→Prop} {w:World} {sz c:Nat} {a:Option Addr} {rows:List (List PV)} (hs:qUQ sz rows=true) (hcap:rows.length≤c) (hS:qJA sz a (qJX rows) w)
  (hF:∀ b off,a=some ⟨b,off,none⟩→rows ≠ []→F b):RP F w (.l rows) (.slice a rows.length c):=by
 cases rows with
 | nil=>exact .l0 a c
 | cons r0 rs =>
  obtain ⟨_,b,off,ha,hb,_⟩:=hS 0 _ (by simp [qJX]; rfl);subst ha;refine .l (r0 :: rs) b off _ c sz (fun j t=>(((r0 :: rs).getD j []).getD t .ni).val1) rfl hcap (fun r hr=>(qJG hs hr).1) (hF b off rfl (by simp)) (fun j t hj ht => ?_) (fun j r t p hj ht => ?_)
  ·have hr:(r0 :: rs)[j]? = some ((r0 :: rs)[j]'hj):=vQK hj;generalize (r0 :: rs)[j]'hj=r at hr;have hm:=qJG hs (vQG hr);have htl:t < r.length:=by omega
   have hp:r[t]? = some (r[t]'htl):=vQK htl;obtain ⟨_,b',off',ha',_,hc⟩:=hS j (r.map PV.val1) (by unfold qJX; rw [vZY,hr]; rfl);cases ha';have hc:=hc t ht;rw [vZY,hp,Option.map_some] at hc;have e:(((r0 :: rs).getD j []).getD t .ni)=r[t]'htl:=by
    rw [vZG,vZG,hr];simp only [Option.getD_some];rw [hp]; rfl
   simp only [e];exact ⟨by rw [← hc,Nat.add_assoc],(qGG (F:=F) (w:=w) (hm.2 _ (List.getElem_mem htl))).2⟩
  ·have hm:=qJG hs (vQG hj);have e:(((r0 :: rs).getD j []).getD t .ni)=p:=by
    rw [vZG,vZG,hj];simp only [Option.getD_some];rw [ht]; rfl
   simp only [e];exact (qGG (hm.2 p (vQG ht))).1
theorem jUF {F:Nat→Prop} {w:World} {sz:Nat} {rows:List (List PV)} {v:Value} (hs:qUQ sz rows=true) (hF:∀ k,F k→k < w.heap.size) (h:RP F w (.l rows) v) :
  ∃ a c,v=.slice a rows.length c∧rows.length≤c∧qJA sz a (qJX rows) w∧∀ b off,a=some ⟨b,off,none⟩→rows ≠ []→F b:=by
 cases h with
 | l0 ad c=>exact ⟨ad,c,rfl,Nat.zero_le _,fun j r hj=>by simp [qJX] at hj,fun _ _ _ h=>absurd rfl h⟩
 | l _ b off n c sz' g hn hcap hl hf hc hh =>
  subst hn;refine ⟨_,c,rfl,hcap,fun j r hj => ?_,fun b' off' e _=>by cases e; exact hf⟩;unfold qJX at hj;rw [vZY] at hj;cases hr:rows[j]? with
  | none=>rw [hr] at hj; cases hj
  | some q =>
   rw [hr] at hj;cases hj;have hm:=qJG hs (vQG hr);have hjl:=(List.getElem?_eq_some_iff.1 hr).1;have e:sz'=sz:=by rw [← hl q (vQG hr),hm.1]
   subst e;refine ⟨by rw [List.length_map,hm.1],b,off,rfl,hF b hf,fun k hk => ?_⟩;have h1:=hc j k hjl hk;have hkl:k < q.length:=by omega
   have hp:q[k]? = some (q[k]'hkl):=vQK hkl;rw [Nat.add_assoc,h1.1,vZY,hp,Option.map_some]
   congr 1
   exact yUF (hm.2 _ (List.getElem_mem hkl)) (hh j q k _ hr hp)
theorem uGF {D:Nat→Prop} {G:World→Prop} {sz:Nat} {a:Option Addr} {rows:List (List Value)} {w:World} (hd:qKC D G) (hG:G w) (hi:∀ w,G w→qJA sz a rows w) (h0:0 < sz) (hne:rows ≠ []) :
  ∀ b off,a=some ⟨b,off,none⟩→D b:=by
 intro b off ha;subst ha;apply Classical.byContradiction;intro hn;obtain ⟨r0,rs,rfl⟩:∃ r0 rs,rows=r0 :: rs:=by cases rows with | nil=>exact absurd rfl hne | cons x xs=>exact ⟨x,xs,rfl⟩
 have hG':G { w with heap:=w.heap.setIfInBounds b (.cells #[] 0) }:=hd w _ (fun k hk=>by
  have e:b ≠ k:=fun e=>hn (e ▸ hk)
  show (w.heap.setIfInBounds b _)[k]? = _;exact Array.getElem?_setIfInBounds_ne e) hG
 obtain ⟨hl,b',off',e,hb,hc⟩:=hi _ hG' 0 r0 rfl;cases e;have hc:=hc 0 h0;have hb':b < w.heap.size:=by simpa using hb
 rw [vQK (by omega)] at hc;simp [World.cell?,hb'] at hc
theorem kYH {P:Program} {f:Nat} {ps:List PV} {p:PV} {X:Type} {Φ:X→Prop} {V:X→Value} {G:X→World→Prop} (hent:uV P f)
  (h:∀ (w:World) (F:Nat→Prop) (vals:List Value),(∀ k,F k→k < w.heap.size)→Al (RP F w) ps vals→Calls P f vals.toArray w (kHX Φ V G w))
  (hp:∀ x (w:World) (D:Nat→Prop) (F:Nat→Prop),Φ x→G x w→qKC D (G x)→(∀ k,D k→F k)→RP F w p (V x)):zG P f ps (.v p):=by
 refine ⟨hent,fun w F vals hF hal=>(h w F vals hF hal).mono ?_⟩
 rintro e w' ⟨x,hx,rfl,hg,D,h1,h2,h3⟩
 exact ⟨V x,fun k=>F k ∨ D k,rfl,hg,fun k hk=>.inl hk,fun k hk=>hk.imp id (h2 k),hp x w' D _ hx h3 h1 fun k hk=>.inr hk⟩
end Go.Rx

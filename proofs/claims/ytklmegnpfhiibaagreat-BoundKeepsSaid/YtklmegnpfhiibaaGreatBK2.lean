/- Part 2 of the texts behind the last one: rules and contracts. No condition. -/
import Derived.Test.YtklmegnpfhiibaaGreatBK1
open Option renaming map_eq_some_iff → vZK
open Option.some renaming injEq → vQZ
open Prod.mk renaming injEq → vQY
open Bool renaming and_eq_true → vQJ, true_and → vZW
open List renaming getElem?_eq_getElem → vQK, getElem?_map → vQH, getElem?_take → vZU
open Nat renaming eq_of_beq_eq_true → vQU, lt_of_lt_of_le → vZZ, le_of_ble_eq_true → vZJ
open Array renaming all_eq_true_iff_forall_mem → vZH
open Go.IntKind renaming wrap → vYW
namespace Go.Sx
open Go.RowKit
def evp (S:yY):List (Nat × Operand)→Option (List (Nat × Value))
 | []=>some []
 | (i,x) :: xs=>match ev S x with
  | some v=>qXD (i,v) (evp S xs)
  | none=>none
def qVZ (pl:List (Nat × Nat)):List Value→List (Nat × Value)→Option (List Value)
 | cs,[]=>some cs
 | cs,(i,v) :: rest=>match pl[i]? with
  | none=>none
  | some (off,size)=>bif Nat.beq v.cells.size size then (match qYU cs off v.cells.toList with
    | some cs'=>qVZ pl cs' rest
    | none=>none) else none
def qXG (P:Program) (t:TypeId):Option (List Value × List (Nat × Nat)) :=
 match P.info? t,P.underlying t with
 | some it,some (.array n e) =>
  match it.zero,P.info? e with
  | some z,some ie=>some (z.cells.toList,(List.range n).map fun i=>(i * ie.size,ie.size))
  | _,_=>none
 | some it,some (.struct fields) =>
  match it.zero,fields.toList.mapM (fun f=>(P.info? f.type).map fun i=>(f.offset,i.size)) with
  | some z,some places=>some (z.cells.toList,places)
  | _,_=>none
 | _,_=>none
theorem foldl_set (vs:List Value):∀ (k off:Nat) (cells:Array Value),off + k + vs.length≤cells.size →
  ((vs.zipIdx k).foldl (fun cs (x:Value × Nat)=>cs.setIfInBounds (off + x.2) x.1) cells).toList=cells.toList.take (off + k) ++ vs ++ cells.toList.drop (off + k + vs.length):=by
 induction vs with
 | nil=>intro k off cells _; simp
 | cons v vs ih =>
  intro k off cells h;simp only [List.zipIdx_cons,List.foldl_cons];rw [ih (k + 1) off _ (by simp at h ⊢; omega)];simp only [Array.toList_setIfInBounds]
  have:=list_seg_step cells.toList (off + k) v vs (by simp at h ⊢; omega)
  simpa [Nat.add_assoc,Nat.add_comm 1] using this
theorem zUK {place:Nat→Option (Nat × Nat)} {pl:List (Nat × Nat)} (hp:∀ i x,pl[i]? = some x→place i=some x):∀ (parts:List (Nat × Value)) (cells:List Value) (cs:List Value),
  qVZ pl cells parts=some cs→Instr.fill place cells.toArray parts=some cs.toArray
 | [],cells,cs,h=>by simp [qVZ] at h; simp [Instr.fill,h]
 | (i,v) :: rest,cells,cs,h=>by
  simp only [qVZ] at h;cases hi:pl[i]? with
  | none=>simp [hi] at h
  | some x =>
   obtain ⟨off,size⟩:=x;simp only [hi] at h;cases hb:Nat.beq v.cells.size size with
   | false=>simp [hb] at h
   | true =>
    simp only [hb,vYZ] at h;have hsz:=vQU hb;cases hs:qYU cells off v.cells.toList with
    | none=>simp [hs] at h
    | some cs' =>
     simp only [hs] at h;obtain ⟨e,hl⟩:=spliceV_spec hs;have hl':off + v.cells.size≤cells.length:=by simpa using hl
     have hf:=foldl_set v.cells.toList 0 off cells.toArray (by simpa using hl);have hcs:(v.cells.zipIdx.foldl (fun cs (c,j)=>cs.setIfInBounds (off + j) c) cells.toArray)=cs'.toArray:=by
      apply Array.toList_inj.1;rw [e];rw [← Array.foldl_toList];simp only [Array.toList_zipIdx]
      simpa using hf
     simp only [Instr.fill,hp i _ hi];rw [if_neg (by simp [hsz]; omega)];rw [hcs];exact zUK hp rest cs' cs h
theorem built_of {P:Program} {t:TypeId} {z:List Value} {pl:List (Nat × Nat)} {parts:List (Nat × Value)} {cs:List Value} (hl:qXG P t=some (z,pl)) (hf:qVZ pl z parts=some cs) :
  P.built t parts=some cs.toArray:=by
 unfold qXG at hl;unfold Program.built;cases hit:P.info? t with
 | none=>simp [hit] at hl
 | some it =>
  cases hu:P.underlying t with
  | none=>simp [hit,hu] at hl
  | some ds =>
   cases ds <;> try (simp [hit,hu] at hl; done)
   case array n e =>
    cases hz:it.zero with
    | none=>simp [hit,hu,hz] at hl
    | some zv =>
     cases hie:P.info? e with
     | none=>simp [hit,hu,hz,hie] at hl
     | some ie =>
      simp only [hit,hu,hz,hie,vQZ,vQY] at hl ⊢;obtain ⟨rfl,rfl⟩:=hl
      have:=zUK (place:=fun i=>some (i * ie.size,ie.size)) (fun i x hi=>by
       simp only [vQH,vZK] at hi;obtain ⟨j,hj,rfl⟩:=hi
       have:=(List.getElem?_eq_some_iff.1 hj)
       simp at this;simp [this.2]) parts zv.cells.toList cs hf
      simpa using this
   case struct fields =>
    cases hz:it.zero with
    | none=>simp [hit,hu,hz] at hl
    | some zv =>
     cases hp:fields.toList.mapM (fun f=>(P.info? f.type).map fun i=>(f.offset,i.size)) with
     | none=>simp only [hit,hu,hz,hp] at hl; cases hl
     | some places =>
      simp only [hit,hu,hz,hp,vQZ,vQY] at hl ⊢;obtain ⟨rfl,rfl⟩:=hl
      have:=zUK (place:=(places.toArray[·]?)) (fun i x hi=>by simpa using hi) parts zv.cells.toList cs hf
      simpa using this
section
variable {P:Program} {n:Nat} {w0:Base} {ops:Array Oper} {Q:Exit→Act→World→Prop} {S:yY} {H:Heap}
variable {d:Option Tmp} {ty:TypeId} {pos:String} {af:Array Edge} {g:Option (Nat × Bool)}
theorem zUX {xs:List (Nat × Operand)} {vs:List (Nat × Value)} (h:evp S xs=some vs):xs.map (fun x=>(x.1,evD S x.2))=vs∧∀ x ∈ xs,(ev S x.2).isSome=true:=by
 induction xs generalizing vs with
 | nil=>simp [evp] at h; simp [h]
 | cons x xs ih =>
  obtain ⟨i,x⟩:=x;simp only [evp] at h;cases hx:ev S x with
  | none=>simp [hx] at h
  | some v =>
   simp only [hx] at h;obtain ⟨ws,hw,rfl⟩:=kK h;obtain ⟨e,ha⟩:=ih hw;refine ⟨by simp [zQ hx,e],fun y hy => ?_⟩;rcases List.mem_cons.1 hy with rfl | hy
   ·simp [hx]
   ·exact ha y hy
theorem opV_build {t:TypeId} {z:List Value} {pl:List (Nat × Nat)} {parts:List (Nat × Operand)} {vs:List (Nat × Value)} {cs:List Value} (hl:qXG P t=some (z,pl)) (hp:evp S parts=some vs)
  (hf:qVZ pl z vs=some cs):OpV P w0 S H ⟨d,.build t parts.toArray,ty,pos,af,g⟩ (.agg cs.toArray):=by
 obtain ⟨e,hk⟩:=zUX hp;refine yG ?_ rfl fun w _ => ?_
 ·simp only [yQ,Op.operands];rw [vZH];intro x hx;simp at hx;obtain ⟨i,hi⟩:=hx;exact hk _ hi
 ·have:=run_build (P:=P) w t (parts.map (fun x=>(x.1,evD S x.2))).toArray cs.toArray (by rw [List.toList_toArray,e]; exact built_of hl hf)
  have h2:(parts.toArray.map fun (x:Nat × Operand)=>(x.1,evD S x.2))=(parts.map (fun x=>(x.1,evD S x.2))).toArray:=by simp
  simp only [execOp];rw [h2];simp [this]
end
theorem zV {x:Int} (_: -9223372036854775808≤x∧x≤9223372036854775807):vYW .i64 x=x:=by
 unfold IntKind.wrap;have hb:IntKind.i64.bits=64:=rfl;have hs:IntKind.i64.signed=true:=rfl;simp only [hb,hs,vZW,decide_eq_true_eq]
 split <;> omega
end Go.Sx
namespace Go.Sx
open Go.RowKit
def zGU:Value→Value→Bool
 | .int _ a,.int _ b=>decide (a=b)
 | .bool a,.bool b=>a == b
 | .string a,.string b=>a == b
 | _,_=>false
def eqCells:List Value→List Value→Bool
 | [],[]=>true
 | x :: xs,y :: ys=>zGU x y && eqCells xs ys
 | _,_=>false
def yQW:TypeDesc→Value→Bool
 | .int k,.int k' _=>k == k'
 | .bool,.bool _=>true
 | .string,.string _=>true
 | _,_=>false
def oneC (ds:TypeDesc):List Value→Bool
 | [c]=>yQW ds c
 | _=>false
def qHE (f:TypeId→List Value→Bool) (P:Program):List Field→Nat→List Value→Bool
 | [],_,cs=>cs.isEmpty
 | fd :: fs,o,cs=>fd.name != "_" && Nat.beq fd.offset o && (match P.info? fd.type with
   | some i=>decide (i.size≤cs.length) && f fd.type (cs.take i.size) && qHE f P fs (o + i.size) (cs.drop i.size)
   | none=>false)
def zJY (f:List Value→Bool) (size:Nat):Nat→List Value→Bool
 | 0,cs=>cs.isEmpty
 | k + 1,cs=>decide (size≤cs.length) && f (cs.take size) && zJY f size k (cs.drop size)
def qZG (P:Program):Nat→TypeId→List Value→Bool
 | 0,_,_=>false
 | d + 1,t,cs=>match P.underlying t with
  | some (.struct fields) => !P.stoodInHeld t && qHE (qZG P d) P fields.toList 0 cs
  | some (.array len e)=>(match P.info? e with | some i=>zJY (qZG P d e) i.size len cs | none=>false)
  | some ds=>oneC ds cs
  | none=>false
def mkV (P:Program) (t:TypeId) (cs:List Value):Value :=
 match P.underlying t with
 | some (.struct _)=>.agg cs.toArray
 | some (.array _ _)=>.agg cs.toArray
 | _=>cs.headD undef
theorem eqCells_append {a b c e:List Value} (h:a.length=c.length):eqCells (a ++ b) (c ++ e)=(eqCells a c && eqCells b e):=by
 induction a generalizing c with
 | nil=>cases c with
  | nil=>simp [eqCells]
  | cons _ _=>simp at h
 | cons x a ih=>cases c with
  | nil=>simp at h
  | cons y c=>simp [eqCells,ih (by simpa using h),Bool.and_assoc]
theorem eqCells_split {xs ys:List Value} (k:Nat) (_:k≤xs.length) (_:k≤ys.length):eqCells xs ys=(eqCells (xs.take k) (ys.take k) && eqCells (xs.drop k) (ys.drop k)):=by
 conv=>lhs; rw [← List.take_append_drop k xs,← List.take_append_drop k ys]
 exact eqCells_append (by simp; omega)
section
variable {P:Program} (w:World)
theorem zQH {t:TypeId} {i:TypeInfo} (hi:P.info? t=some i) {cs:List Value} {o:Nat} {d:Nat} (hc:qZG P d t ((cs.drop o).take i.size)=true) :
  (part t cs.toArray o).run P w=.ok (mkV P t ((cs.drop o).take i.size)) w:=by
 cases d with
 | zero=>simp [qZG] at hc
 | succ d =>
 have hsz:(sizeOf t).run P w=.ok i.size w:=by simp [sizeOf,typeInfo,hi]
 unfold qZG at hc;cases hu:P.underlying t with
 | none=>simp [hu] at hc
 | some ds =>
  have sc:oneC ds ((cs.drop o).take i.size)=true→(isAgg t).run P w=.ok false w→mkV P t ((cs.drop o).take i.size)=((cs.drop o).take i.size).headD undef →
    (part t cs.toArray o).run P w=.ok (mkV P t ((cs.drop o).take i.size)) w:=fun h1 h2 h3=>by
   cases hl:(cs.drop o).take i.size with
   | nil=>rw [hl] at h1; cases h1
   | cons c l =>
    cases l with
    | cons _ _=>rw [hl] at h1; cases h1
    | nil =>
     have hco:cs[o]? = some c:=by
      have:=congrArg (·[0]?) hl
      simp only [vZU,List.getElem?_drop,Nat.add_zero,List.getElem?_cons_zero] at this;split at this
      ·exact this
      ·cases this
     rw [hl] at h3;rw [h3];simp [part,h2,hco]
  cases ds <;> simp only [hu] at hc
  case struct fs=>simp [part,isAgg,run_underlying hu,hsz,mkV,hu]
  case array len e=>simp [part,isAgg,run_underlying hu,hsz,mkV,hu]
  all_goals first
   | exact sc hc (by simp [isAgg,run_underlying hu]) (by simp [mkV,hu])
def EqC (P:Program) (d:Nat) (t:TypeId) (f:TypeId→List Value→Bool):Prop :=
 ∀ w xs ys,f t xs=true→f t ys=true→(Op.equalIn d t (mkV P t xs) (mkV P t ys)).run P w=.ok (eqCells xs ys) w
theorem run_eqFieldsC {d m:Nat} (ih:∀ t,EqC P d t (qZG P m)) {cs es:List Value}:∀ (fs:List Field) (o:Nat) (w:World),
  qHE (qZG P m) P fs o (cs.drop o)=true→qHE (qZG P m) P fs o (es.drop o)=true→o≤cs.length→o≤es.length →
  (Op.eqFields d cs.toArray es.toArray fs).run P w=.ok (eqCells (cs.drop o) (es.drop o)) w
 | [],o,w,h1,h2,_,_=>by
  simp only [qHE,List.isEmpty_iff] at h1 h2;simp [Op.eqFields,h1,h2,eqCells]
 | f :: fs,o,w,h1,h2,hc,he=>by
  simp only [qHE,vQJ,bne_iff_ne] at h1 h2;obtain ⟨⟨hn,ho⟩,h1⟩:=h1;have ho':=vQU ho;cases hi:P.info? f.type with
  | none=>simp [hi] at h1
  | some i =>
   simp only [hi,vQJ,decide_eq_true_eq,List.length_drop,List.drop_drop] at h1 h2;obtain ⟨⟨l1,c1⟩,r1⟩:=h1;obtain ⟨_,⟨l2,c2⟩,r2⟩:=h2;have p1:=zQH w hi (o:=o) c1;have p2:=zQH w hi (o:=o) c2;have e3:=ih f.type w _ _ c1 c2;have hrec:=run_eqFieldsC ih (cs:=cs) (es:=es) fs (o + i.size) w r1 r2 (by omega) (by omega);rw [eqCells_split i.size (by simp; omega) (by simp; omega)];simp only [Op.eqFields,hn,ne_eq,not_false_eq_true,if_true,Sem.run_bind,ho',p1,p2,e3,Result.andThen_ok,List.drop_drop];cases hb:eqCells ((cs.drop o).take i.size) ((es.drop o).take i.size) with
   | false=>simp
   | true=>simpa using hrec
theorem run_eqItemsC {d m:Nat} {e:TypeId} {i:TypeInfo} (hi:P.info? e=some i) (ih:EqC P d e (qZG P m)) {cs es:List Value}:∀ (k j:Nat) (w:World),
  zJY (qZG P m e) i.size k (cs.drop (j * i.size))=true→zJY (qZG P m e) i.size k (es.drop (j * i.size))=true→j * i.size≤cs.length→j * i.size≤es.length →
  (Op.eqItems d e i.size cs.toArray es.toArray (List.range' j k)).run P w=.ok (eqCells (cs.drop (j * i.size)) (es.drop (j * i.size))) w
 | 0,j,w,h1,h2,_,_=>by
  simp only [zJY,List.isEmpty_iff] at h1 h2;simp [Op.eqItems,h1,h2,eqCells]
 | k + 1,j,w,h1,h2,hc,he=>by
  simp only [zJY,vQJ,decide_eq_true_eq,List.length_drop,List.drop_drop] at h1 h2;obtain ⟨⟨l1,c1⟩,r1⟩:=h1;obtain ⟨⟨l2,c2⟩,r2⟩:=h2;have hj:j * i.size + i.size=(j + 1) * i.size:=by rw [Nat.add_mul]; omega
  rw [hj] at r1 r2;have p1:=zQH w hi (o:=j * i.size) c1;have p2:=zQH w hi (o:=j * i.size) c2;have e3:=ih w _ _ c1 c2;have hrec:=run_eqItemsC hi ih (cs:=cs) (es:=es) k (j + 1) w r1 r2 (by omega) (by omega);rw [eqCells_split i.size (by simp; omega) (by simp; omega)];simp only [List.range'_succ,Op.eqItems,Sem.run_bind,p1,p2,e3,Result.andThen_ok,List.drop_drop,hj];cases hb:eqCells ((cs.drop (j * i.size)).take i.size) ((es.drop (j * i.size)).take i.size) with
  | false=>simp
  | true=>simpa using hrec
theorem zUW (d:Nat):∀ (m:Nat) (t:TypeId),EqC P (d + m) t (qZG P m)
 | 0,t=>fun w xs ys h=>by simp [qZG] at h
 | m + 1,t=>fun w xs ys h1 h2=>by
  unfold qZG at h1 h2;rw [show d + (m + 1)=(d + m) + 1 from rfl];cases hu:P.underlying t with
  | none=>simp [hu] at h1
  | some ds =>
   have sc:oneC ds xs=true→oneC ds ys=true→mkV P t xs=xs.headD undef→mkV P t ys=ys.headD undef →
     (Op.equalIn ((d + m) + 1) t (mkV P t xs) (mkV P t ys)).run P w=.ok (eqCells xs ys) w:=fun h1 h2 e1 e2=>by
    cases xs with
    | nil=>cases h1
    | cons x xs =>
    cases xs with
    | cons _ _=>cases h1
    | nil =>
    cases ys with
    | nil=>cases h2
    | cons y ys =>
    cases ys with
    | cons _ _=>cases h2
    | nil =>
     rw [e1,e2];cases ds <;> cases x <;> simp [oneC,yQW] at h1 <;> cases y <;> simp [oneC,yQW] at h2
     ·simp only [List.headD_cons];rw [run_equalIn_bool w _ t _ _ hu];simp [eqCells,zGU]
     ·subst h1; subst h2;simp only [List.headD_cons];rw [run_equalIn_int w _ t _ _ _ _ hu];simp [eqCells,zGU];rfl
     ·simp only [List.headD_cons];simp [Op.equalIn,run_underlying hu,eqCells,zGU]
   cases ds <;> simp only [hu] at h1 h2
   case struct fs =>
    simp only [vQJ,Bool.not_eq_true'] at h1 h2;have hfs:P.fieldsOf t=fs:=by simp [Program.fieldsOf,hu]
    have:=run_eqFieldsC (P:=P) (d:=d + m) (fun t=>zUW d m t) (cs:=xs) (es:=ys) fs.toList 0 w (by simpa using h1.2) (by simpa using h2.2) (Nat.zero_le _) (Nat.zero_le _)
    simp only [mkV,hu];rw [run_equalIn_struct w (d + m) t _ _ (by rw [hfs]; exact hu) h1.1,hfs]
    simpa using this
   case array len e =>
    cases hi:P.info? e with
    | none=>simp [hi] at h1
    | some i =>
     simp only [hi] at h1 h2;have hcell:P.cellsOf e=i.size:=by simp [Program.cellsOf,hi]
     have:=run_eqItemsC (P:=P) hi (zUW d m e) (cs:=xs) (es:=ys) len 0 w (by simpa using h1) (by simpa using h2) (by simp) (by simp)
     simp only [mkV,hu];rw [run_equalIn_array w (d + m) _ _ hu hi,hcell,List.range_eq_range']
     simpa using this
   all_goals exact sc h1 h2 (by simp [mkV,hu]) (by simp [mkV,hu])
end
section
variable {P:Program} {n:Nat} {w0:Base} {ops:Array Oper} {Q:Exit→Act→World→Prop} {S:yY} {H:Heap}
variable {d:Option Tmp} {ty:TypeId} {pos:String} {af:Array Edge} {g:Option (Nat × Bool)}
def aggB (P:Program) (t:TypeId):Bool:=(match P.underlying t with | some (.struct _)=>true | some (.array _ _)=>true | _=>false) && !P.eqGuardType P.depth t
theorem opV_eqA {x y:Operand} {t t':TypeId} {xs ys:List Value} (m:Nat) (hm:Nat.ble m 10000=true) (hT:aggB P t=true) (hx:ev S x=some (.agg xs.toArray)) (hy:ev S y=some (.agg ys.toArray)) (hcx:qZG P m t xs=true) (hcy:qZG P m t ys=true) :
  OpV P w0 S H ⟨d,.binOp .eql t x y t',ty,pos,af,g⟩ (.bool (eqCells xs ys)) :=
 yG (by simp [yQ,Op.operands,hx,hy]) rfl fun w _=>by
  simp only [aggB,vQJ,Bool.not_eq_true'] at hT;obtain ⟨k,hk⟩:∃ k,k + m=10000:=⟨10000 - m,by have:=vZJ hm; omega⟩
  have h1:=zUW (P:=P) k m t w xs ys hcx hcy;have e1:mkV P t xs=.agg xs.toArray:=by
   unfold mkV;cases hu:P.underlying t with
   | none=>simp [hu] at hT
   | some ds=>cases ds <;> simp [hu] at hT ⊢
  have e2:mkV P t ys=.agg ys.toArray:=by
   unfold mkV;cases hu:P.underlying t with
   | none=>simp [hu] at hT
   | some ds=>cases ds <;> simp [hu] at hT ⊢
  rw [e1,e2,hk] at h1;have h2:=run_eqGuard_agg w .eql t x y xs.toArray ys.toArray hT.2;have h3:=run_eql_struct (P:=P) w t xs.toArray ys.toArray;rw [h1] at h3;simp [execOp,zQ hx,zQ hy,h2,h3]
end
end Go.Sx
namespace Go.Sx
structure Iv where
 lo:Int
 hi:Int
@[simp] theorem Iv.eta (x:Iv):(⟨x.lo,x.hi⟩:Iv)=x:=rfl
def In64 (a:Int):Prop:=-9223372036854775808≤a∧a≤9223372036854775807
def zQU (a:Int):Int:=min (max a (-2147483648)) 2147483648
def yYC (a b:Int):Int:=-((-a) / b)
def Iv.valid (a:Iv):Bool:=decide (-2147483648≤a.lo) && decide (a.lo≤a.hi) && decide (a.hi≤2147483648)
def Iv.of (x:Int):Iv:=⟨zQU x,zQU x⟩
def Iv.neg (a:Iv):Iv:=bif a.valid then ⟨-a.hi,-a.lo⟩ else ⟨0,0⟩
def Iv.add (a b:Iv):Iv:=bif a.valid && b.valid then ⟨zQU (a.lo + b.lo),zQU (a.hi + b.hi)⟩ else ⟨0,0⟩
def Iv.sub (a b:Iv):Iv:=bif a.valid && b.valid then ⟨zQU (a.lo - b.hi),zQU (a.hi - b.lo)⟩ else ⟨0,0⟩
def min4 (a b c d:Int):Int:=min (min (min a b) c) d
def max4 (a b c d:Int):Int:=max (max (max a b) c) d
def Iv.mul (a b:Iv):Iv:=bif a.valid && b.valid then
 ⟨zQU (min4 (a.lo * b.lo) (a.lo * b.hi) (a.hi * b.lo) (a.hi * b.hi) / 65536),zQU (yYC (max4 (a.lo * b.lo) (a.lo * b.hi) (a.hi * b.lo) (a.hi * b.hi)) 65536)⟩ else ⟨0,0⟩
def Iv.has (a:Iv) (x:Int):Bool:=a.valid && decide (a.lo≤x) && decide (x≤a.hi)
def Iv.within (a b:Iv):Bool:=a.valid && b.valid && decide (b.lo≤a.lo) && decide (a.hi≤b.hi)
section
variable {P:Program} {n:Nat} {w0:Base} {ops:Array Oper} {Q:Exit→Act→World→Prop} {S:yY} {H:Heap}
end
end Go.Sx
namespace Go.Sx
open Go.RowKit Go.ChangeShapes Go.WideShapes
section
variable {P:Program} {W:World} {r:Reach} {base:Nat}
theorem zKK {t:TypeId} {v:Value} (hu:P.underlying t=some (.int .i64)) (h:Value.okWide P W r base t v):∃ n,v=.int .i64 n∧In64 n:=by
 simp only [Value.okWide,hu,Cell.okWide] at h;cases v <;> simp [Cell.ok,hu] at h
 obtain ⟨rfl,h1⟩:=h;exact ⟨_,rfl,by simpa [IntKind.has,IntKind.min,IntKind.max,IntKind.signed,IntKind.bits,In64] using h1⟩
variable {H:Type} {enc:TypeId × Value→H}
def yJY (P:Program) (ts:List TypeId):Bool:=ts.all fun t=>P.readableRec t && decide (t < P.types.size)
theorem trodAll_below (hl:laidOutB P=true) {W':World} (hb:Below W.heap.size W W'):∀ {ts:List TypeId} {vs:List Value} {ds:List (DataW H)} {ps:List MemPlace},yJY P ts=true →
  DataW.TrodAll enc P W 0 (fun _=>true) true ts vs ds ps→(∀ x ∈ ps,x.block < W.heap.size)→DataW.TrodAll enc P W' 0 (fun b=>decide (b < W.heap.size)) true ts vs ds ps
 | [],vs,ds,ps,_,h,_=>by
  obtain ⟨rfl,rfl,rfl⟩:=trodAll_nil h;exact trodAll_mk0
 | t :: ts,vs,ds,ps,hr,h,hlt=>by
  obtain ⟨v,vs',d,ds',p,q,rfl,rfl,rfl,h1,h2⟩:=trodAll_cons h;simp only [yJY,List.all_cons,vQJ,decide_eq_true_eq] at hr;exact trodAll_cons_mk (Below.trod hl hr.1.1 hr.1.2 h1 hb fun x hx=>hlt x (List.mem_append_left _ hx))
   (trodAll_below hl hb hr.2 h2 fun x hx=>hlt x (List.mem_append_right _ hx))
theorem law_post {f:Func} {s:ChangeSpec} {apart fresh handsOn:Bool} {W':World} {args:Array Value} {ds:List (DataW H)} {before:List MemPlace} {tb:TypeId}
  (hW:DataW.Whole enc P f.params.toList s.vars apart W args.toList ds [] before) (hvs:s.vars=[]) (hl:laidOutB P=true) (hr:yJY P f.params.toList=true) (hargs:(s.fn H (ds ++ [])).args=ds)
  (hres:(s.fn H (ds ++ [])).results=[.lit (.bool true)]) (hv:(s.fn H (ds ++ [])).vars=[]) (hrt:f.resultTypes=#[tb]) (hub:P.underlying tb=some .bool) (hb:Below W.heap.size W W') :
  s.post enc P f apart fresh handsOn false W args (.bool true) W':=by
 have hlt:∀ p ∈ before,p.block < W.heap.size:=fun p hp=>hW.lt p hp
 have hW2:=hW;obtain ⟨p,q,hA,hV,rfl,_,_⟩:=hW2;rw [hvs] at hV;obtain ⟨_,rfl⟩:=trodVars_none hV;refine ⟨ds,[],p ++ [],[],p,[],hW,?_,?_,?_,World.keptBut_mono (fun x hx=>⟨hx,Or.inr (Or.inl (by simpa using hx))⟩) (hb.frame (· ∈ p ++ [])),fun h=>by cases h⟩
 ·rw [hres,hrt];exact trodAll_mk1 (shut_bool hub true)
 ·rw [hargs];exact trodAll_below hl hb hr hA fun x hx=>hlt x (by simpa using hx)
 ·rw [hv,hvs];exact rfl
end
end Go.Sx
namespace Go.Sx
open Go.RowKit
structure GrowB (b:Nat→Prop) (w w':World):Prop where
 os:w'.os=w.os
 tape:w'.tape=w.tape
 output:w'.output=w.output
 size:w.heap.size≤w'.heap.size
 block:∀ k,k < w.heap.size→¬ b k→w'.heap[k]? = w.heap[k]?
theorem GrowB.of {b:Nat→Prop} {w w':World} (g:Grow w w'):GrowB b w w':=⟨g.os,g.tape,g.output,g.size,fun k hk _=>g.block k hk⟩
theorem GrowB.refl (b:Nat→Prop) (w:World):GrowB b w w:=.of (Grow.refl w)
theorem GrowB.trans {b:Nat→Prop} {x y z:World} (h:GrowB b x y) (k:GrowB b y z):GrowB b x z :=
 ⟨k.os.trans h.os,k.tape.trans h.tape,k.output.trans h.output,Nat.le_trans h.size k.size,fun i hi hb=>(k.block i (vZZ hi h.size) hb).trans (h.block i hi hb)⟩
theorem GrowB.set (b:Nat) (w:World) (cs:Array Value):GrowB (· = b) w (w.setRow b cs):=⟨rfl,rfl,rfl,by simp,fun k _ hb=>setRow_other w b k cs hb⟩
def StableB (b:Nat→Prop) (T:Pred):Prop:=∀ v w w',T v w→GrowB b w w'→T v w'
section
variable {P:Program} {n:Nat} {ops:Array Oper} {Q:Exit→Act→World→Prop} {σ:Type}
def YieldsE (P:Program) (b:Nat→Prop) (w:World) (T:Pred) (K:World→Prop):Result Next→Prop
 | .ok (.value v) w'=>GrowB b w w'∧T v w'∧K w'
 | .ok (.enter f args) w'=>GrowB b w w'∧Calls P f args w' (fun e w''=>∃ v,e=.returned v∧GrowB b w' w''∧T v w''∧K w'')
 | _=>False
def OpE (P:Program) (n:Nat) (ops:Array Oper) (K1 K2:World→Prop) (b:Nat→Prop) (S:yY) (G:qJW) (o:Oper) (T:Pred):Prop :=
 ∀ a w,a.tmps.size=n→(∀ t ∈ o.looksAt ops,yZQ S G a w t)→K1 w →
  Region.wanted o (yielded ops a.tmps)=true∧YieldsE P b w T K2 ((execOp a.eval o).run P w)
structure Fam (b:Nat→Prop) (w1:Base) (H0:Heap) (Wf:σ→Base) (Hf:σ→Heap):Prop where
 size:∀ s,(Wf s).w.heap.size=w1.w.heap.size
 told:∀ s,(Wf s).R=w1.R
 adr:∀ s,(Hf s).map (·.2.1)=H0.map (·.2.1)
 here:∀ k,b k→k < w1.w.heap.size ∨ k ∈ H0.map (·.2.1)
def PureAt (P:Program) (n:Nat) (ops:Array Oper) (Wf:σ→Base) (Hf:σ→Heap) (S:yY) (G:qJW) (o:Oper) (T:Pred):Prop:=∀ s',OpA P n (Wf s') ops (Hf s') S G o T
structure CertOkM (P:Program) (n:Nat) (ops:Array Oper) (b:Nat→Prop) (Wf:σ→Base) (Hf:σ→Heap) (H0:Heap) (es:List Nat) (i:Nat) (s s2:σ) (o:Oper) (c:Cert):Prop where
 dst:o.dst=some c.d
 lt:c.d < n
 nosel:zXX o=true
 stable:StableB b c.T
 op:(es.contains i=false∧s2=s∧PureAt P n ops Wf Hf c.S c.G o c.T) ∨ (es.contains i=true∧OpE P n ops (Knows (Wf s) (Hf s)) (Knows (Wf s2) (Hf s2)) b c.S c.G o c.T)
 al:c.al=true→(es.contains i=false∧∀ s',Allocs P n (Wf s') ops (Hf s') c.S c.G o)∧PtrIn H0 c.T
variable {b:Nat→Prop} {Wf:σ→Base} {Hf:σ→Heap} {H0:Heap} {es:List Nat} {w1:Base}
structure InvM (S0:yY) (Wf:σ→Base) (Hf:σ→Heap) (es:List Nat) (ss:Nat→σ) (N n:Nat) (cs:List Cert) (listed:Array Bool) (a:Act) (w:World):Prop where
 size:a.tmps.size=n
 defers:a.defers=[]
 old:∀ t v,look S0 t=some v→(∀ i c,cs[i]? = some c→c.d=t→listed.getD i false=false)→a.tmps[t]? = some v
 done:∀ i c,cs[i]? = some c→listed.getD i false=true→∃ u,a.tmps[c.d]? = some u∧c.T u w
 apart:∀ i j c c',cs[i]? = some c→cs[j]? = some c'→i ≠ j→c.al=true→c'.al=true→listed.getD i false=true→listed.getD j false=true→a.tmps[c.d]? ≠ a.tmps[c'.d]?
 knows:∃ m,m≤N∧Knows (Wf (ss m)) (Hf (ss m)) w∧∀ i,i < N→es.contains i=true→(listed.getD i false=true ↔ i < m)
variable {S0:yY}
variable {S:yY} {G:qJW} {K:σ→yY→qJW→Prop} {o:Oper} {l:List Oper} {d i:Nat} {s:σ}
end
end Go.Sx
namespace Go.Sx
section
variable {P:Program} {n:Nat} {w0:Base} {ops:Array Oper} {Q:Exit→Act→World→Prop} {S:yY} {H:Heap}
variable {d:Option Tmp} {ty:TypeId} {pos:String} {af:Array Edge} {g:Option (Nat × Bool)}
theorem opV_index {t:Nat} {x y:Operand} {a i v:Value} (hx:ev S x=some a) (hy:ev S y=some i) (h:∀ w:World,(Instr.index t a i).run P w=.ok v w):OpV P w0 S H ⟨d,.index t x y,ty,pos,af,g⟩ v :=
 yG (by simp [yQ,Op.operands,hx,hy]) rfl fun w _=>by simp [execOp,zQ hx,zQ hy,h w]
end
end Go.Sx
namespace Go.Sx
open Go.RowKit
def zYH (len size:Nat):List (Nat × Nat):=(List.range len).map fun i=>(i * size,size)
def rowZ (zs:List Value):Nat→List Value
 | 0=>[]
 | k + 1=>zs ++ rowZ zs k
theorem rowZ_get {zs:List Value} (hz:0 < zs.length):∀ (len i:Nat),i < len * zs.length→(rowZ zs len)[i]? = zs[i % zs.length]?
 | 0,i,h=>by omega
 | k + 1,i,h=>by
  simp only [rowZ,List.getElem?_append];split
  ·rename_i hlt;rw [Nat.mod_eq_of_lt hlt]
  ·rename_i hge;rw [Nat.add_mul] at h;rw [rowZ_get hz k (i - zs.length) (by omega)]
   congr 1
   exact (Nat.mod_eq_sub_mod (by omega)).symm
theorem qVW (zs:List Value):∀ len,(rowZ zs len).length=len * zs.length
 | 0=>by simp [rowZ]
 | k + 1=>by simp [rowZ,qVW zs k,Nat.add_mul]; omega
section
variable {P:Program} {n:Nat} {w0:Base} {ops:Array Oper} {Q:Exit→Act→World→Prop} {S:yY} {H:Heap}
theorem zero_row (z:Value) (len:Nat) (hz:0 < z.cells.size):(Array.range (len * z.cells.size)).map (z.cells[· % z.cells.size]!)=(rowZ z.cells.toList len).toArray:=by
 apply Array.ext
 ·simp [qVW]
 ·intro i h1 h2;have hlt:i < len * z.cells.toList.length:=by simpa using h1
  have hg:=rowZ_get (zs:=z.cells.toList) (by simpa using hz) len i hlt;have hm:i % z.cells.size < z.cells.size:=Nat.mod_lt _ hz;simp only [Array.getElem_map,Array.getElem_range,List.getElem_toArray];have hlt':i < (rowZ z.cells.toList len).length:=by rw [qVW]; exact hlt
  rw [vQK hlt'] at hg;have e1:z.cells.toList[i % z.cells.toList.length]? = some z.cells[i % z.cells.size]:=by
   simp [hm]
  rw [e1] at hg;rw [Option.some.inj hg];simp [hm]
theorem run_bslice {t e size len:Nat} {z:Value} {parts:List (Nat × Value)} {cs:List Value} (hs:slcB P t e size=true) (hz:qQW P e z) (hzs:Nat.beq z.cells.size size=true) (h0:Nat.blt 0 size=true) (hl:Nat.ble (len * size) 16777216=true)
  (h1:Nat.blt 0 len=true) (hf:qVZ (zYH len size) (rowZ z.cells.toList len) parts=some cs) (w:World) :
  (Instr.buildSlice t len parts.toArray).run P w=.ok (.slice (some ⟨w.heap.size,0,none⟩) len len) (w.alloc (.cells cs.toArray e)):=by
 have hzs':=vQU hzs;subst hzs';have h0':0 < z.cells.size:=by simpa using h0
 have h1':0 < len:=by simpa using h1
 have hl':len * z.cells.size≤16777216:=vZJ hl;have hne:¬ len * z.cells.size=0:=by
  intro e;rcases Nat.mul_eq_zero.1 e with h | h <;> omega
 unfold slcB at hs;cases hu:P.underlying t with
 | none=>simp [hu] at hs
 | some ds =>
  cases ds <;> simp [hu] at hs
  rename_i e';obtain ⟨rfl,h2⟩:=hs;cases hi:P.info? e' with
  | none=>simp [hi] at h2
  | some inf =>
   simp [hi] at h2;have hfill:=zUK (place:=fun i=>some (i * z.cells.size,z.cells.size)) (pl:=zYH len z.cells.size) (fun i x hx=>by
    simp only [zYH,vQH,vZK] at hx;obtain ⟨j,hj,rfl⟩:=hx
    have:=(List.getElem?_eq_some_iff.1 hj)
    simp at this;simp [this.2]) parts (rowZ z.cells.toList len) cs hf
   rw [← zero_row z len h0'] at hfill;have hsz:(sizeOf e').run P w=.ok z.cells.size w:=by simp [sizeOf,typeInfo,hi,h2]
   simp only [Instr.buildSlice,Sem.run_bind,run_underlying hu,Result.andThen_ok,hsz,Sem.run_ite];rw [if_neg (by omega)];simp only [Sem.run_pure,Result.andThen_ok,if_neg hne,qVF hz,Sem.run_bind];simp [hfill,newRow,hne,qVF hz]
def RowT (w0:Base) (H:Heap) (cs:List Value) (e:TypeId) (len:Nat):Pred:=fun u w =>
 ∃ b,u=.slice (some ⟨b,0,none⟩) len len∧w0.w.heap.size≤b∧((∀ x ∈ H,x.2.1 ≠ b)∧∀ x ∈ w0.R,¬ x.2.1 b)∧w.heap[b]? = some (.cells cs.toArray e)
variable {d:Nat} {ty:TypeId} {pos:String} {af:Array Edge} {g:Option (Nat × Bool)}
theorem opT_bslice {t e size len:Nat} {z:Value} {parts:List (Nat × Operand)} {vs:List (Nat × Value)} {cs:List Value} (hs:slcB P t e size=true) (hz:qQW P e z) (hzs:Nat.beq z.cells.size size=true) (h0:Nat.blt 0 size=true)
  (hl:Nat.ble (len * size) 16777216=true) (h1:Nat.blt 0 len=true) (hp:evp S parts=some vs) (hf:qVZ (zYH len size) (rowZ z.cells.toList len) vs=some cs) :
  OpT P w0 S H ⟨some d,.buildSlice t len parts.toArray,ty,pos,af,g⟩ (RowT w0 H cs e len):=by
 obtain ⟨e1,hk⟩:=zUX hp;refine ⟨?_,rfl,fun w k => ?_⟩
 ·simp only [yQ,Op.operands];rw [vZH];intro x hx;simp at hx;obtain ⟨i,hi⟩:=hx;exact hk _ hi
 ·have:=run_bslice (P:=P) hs hz hzs h0 hl h1 hf w
  have h2:(parts.toArray.map fun (x:Nat × Operand)=>(x.1,evD S x.2))=vs.toArray:=by rw [← e1]; simp
  simp only [execOp];rw [h2];simp only [Sem.run_bind,this,Result.andThen_ok,Sem.run_pure,Yields];refine ⟨(Grow.refl w).alloc _,w.heap.size,rfl,k.grow.size,⟨fun x hx e => ?_,fun x hx hd => ?_⟩,?_⟩
  ·have:=qZW (k.has x hx).2
   omega
  ·have:=((k.facts x hx).at' _ hd).2.1
   omega
  ·show (w.heap.push _)[w.heap.size]? = _
   simp
theorem doL_bslice {t e size len:Nat} {z:Value} {parts:List (Nat × Operand)} {vs:List (Nat × Value)} {cs:List Value} {l:List Oper} (id:Nat) (hs:slcB P t e size=true) (hz:qQW P e z) (hzs:Nat.beq z.cells.size size=true) (h0:Nat.blt 0 size=true)
  (hl:Nat.ble (len * size) 16777216=true) (h1:Nat.blt 0 len=true) (hp:evp S parts=some vs) (hf:qVZ (zYH len size) (rowZ z.cells.toList len) vs=some cs)
  (hw:qZH ops S ⟨some d,.buildSlice t len parts.toArray,ty,pos,af,g⟩=some true) (hn:Nat.blt d n=true)
  (next:∀ b,DoL P n w0 ops Q l ((d,.slice (some ⟨b,0,none⟩) len len) :: S) ((id,b,cs,e) :: H)):DoL P n w0 ops Q (⟨some d,.buildSlice t len parts.toArray,ty,pos,af,g⟩ :: l) S H :=
 doL_t (opT_bslice hs hz hzs h0 hl h1 hp hf) hw rfl hn fun v a w f k ⟨b,hv,hb,⟨hno,hR⟩,hblk⟩=>by
  subst hv;refine next b a w f ⟨k.grow,fun x hx => ?_,?_,fun F hF=>(k.facts F hF).heap fun x hx => ?_,k.apart⟩
  ·rcases List.mem_cons.1 hx with rfl | hx
   ·exact ⟨hb,hblk⟩
   ·exact k.has x hx
  ·rw [List.map_cons,List.nodup_cons];refine ⟨fun hm => ?_,k.nodup⟩;obtain ⟨y,hy,he⟩:=List.mem_map.1 hm;exact hno y hy he
  ·rcases List.mem_cons.1 hx with rfl | hx
   ·exact .inr (hR F hF)
   ·exact .inl ⟨x,hx,rfl⟩
end
end Go.Sx
namespace Go.Sx
open Go.RowKit
structure IntsAt (w:World) (m:Nat) (sl:Value) (L:List Int):Prop where
 len:L.length≤9223372036854775807
 slice:∃ a cap,sl=.slice a L.length cap∧∀ j,j < L.length→∃ b off,a=some ⟨b,off,none⟩∧b < m∧w.cell? ⟨b,off + j,none⟩=some (.int .i64 (L.getD j 0))
def srcC (sl:Value) (L:List Int) (i:Nat):List Value:=[sl,.int .i64 ((min i L.length:Nat):Int)]
def srcW (w:World) (b:Nat) (sl:Value) (L:List Int) (i:Nat):World:=w.setRow b (srcC sl L i).toArray
structure SrcQ (w:World) (b:Nat) (sl:Value) (L:List Int) (i:Nat):Prop where
 blk:∃ ty,w.heap[b]? = some (.cells (srcC sl L i).toArray ty)
 ints:IntsAt w b sl L
theorem SrcQ.lt {w:World} {b:Nat} {sl:Value} {L:List Int} {i:Nat} (h:SrcQ w b sl L i):b < w.heap.size:=by
 obtain ⟨ty,h⟩:=h.blk;exact qZW h
theorem IntsAt.mono {w w':World} {m m':Nat} {sl:Value} {L:List Int} (h:IntsAt w m sl L) (_:m≤m') (hw:∀ k,k < m→w'.heap[k]? = w.heap[k]?):IntsAt w' m' sl L:=by
 obtain ⟨h1,a,cap,h2,h3⟩:=h;refine ⟨h1,a,cap,h2,fun j hj => ?_⟩;obtain ⟨b,off,e,hb,hc⟩:=h3 j hj;refine ⟨b,off,e,by omega,?_⟩;rw [← hc];exact World.cell?_of_block (w:=w) (hw b hb)
theorem SrcQ.w {w:World} {b:Nat} {sl:Value} {L:List Int} {i:Nat} (h:SrcQ w b sl L i) (j:Nat):SrcQ (srcW w b sl L j) b sl L j:=by
 obtain ⟨⟨ty,hb⟩,hi⟩:=h;exact ⟨⟨ty,setRow_heap w b _ _ ty _ hb⟩,hi.mono (Nat.le_refl _) fun k hk=>setRow_other w b k _ (by omega)⟩
theorem SrcQ.grow {w w':World} {b:Nat} {sl:Value} {L:List Int} {i:Nat} (h:SrcQ w b sl L i) (g:Grow w w'):SrcQ w' b sl L i:=by
 have hlt:=h.lt;obtain ⟨⟨ty,hb⟩,hi⟩:=h;exact ⟨⟨ty,by rw [g.block b hlt]; exact hb⟩,hi.mono (Nat.le_refl _) fun k hk=>g.block k (by omega)⟩
def Base.setRow (B:Base) (b:Nat) (cs:Array Value):Base:=⟨B.w.setRow b cs,B.R⟩
section
variable {P:Program} {n:Nat} {w0:Base} {ops:Array Oper} {Q:Exit→Act→World→Prop} {S:yY} {H:Heap}
variable {d:Nat} {ty:TypeId} {pos:String} {af:Array Edge} {g:Option (Nat × Bool)}
theorem opV_nilCheck {dd:Option Tmp} {x:Operand} {a:Addr} (hx:ev S x=some (.pointer (some a))):OpV P w0 S H ⟨dd,.nilCheck x,ty,pos,af,g⟩ (.pointer (some a)) :=
 yG (by simp [yQ,Op.operands,hx]) rfl fun w _=>by simp [execOp,zQ hx]
theorem run_eqB {t:TypeId} {p q:Bool} (hb:P.underlying t=some .bool) (w:World):(Op.equal t (.bool p) (.bool q)).run P w=.ok (p == q) w:=by
 unfold Op.equal;rw [show Op.maxDepth=9999 + 1 from rfl,Op.equalIn];simp [run_underlying hb]
theorem opV_eqlB {dd:Option Tmp} {x y:Operand} {t t':TypeId} {p q:Bool} (hb:P.underlying t=some .bool) (hx:ev S x=some (.bool p)) (hy:ev S y=some (.bool q)):OpV P w0 S H ⟨dd,.binOp .eql t x y t',ty,pos,af,g⟩ (.bool (p == q)) :=
 yG (by simp [yQ,Op.operands,hx,hy]) rfl fun w _=>by simp [execOp,zQ hx,zQ hy,eqGuard,binOp,run_eqB hb]
variable {α:Type} {F:α→Value} {x:α} {f:FuncId} {xs:List Operand} {ats:Array TypeId} {vs:List Value} {rest:List Oper}
variable {B:Base} {b i0 i j:Nat} {sl:Value} {L:List Int}
end
end Go.Sx
namespace Go.Sx
open Go.RowKit Go.ChangeShapes Go.WideShapes
section
variable {P:Program} {W:World} {H:Type} {enc:TypeId × Value→H}
theorem slice_of {t e:TypeId} {v:Value} (ht:P.underlying t=some (.slice e)) {r:Reach} {base:Nat} (h:Value.okWide P W r base t v):∃ a l c,v=.slice a l c:=by
 simp only [Value.okWide,ht,Cell.okWide] at h;cases v <;> simp [Cell.ok,ht] at h
 exact ⟨_,_,_,rfl⟩
end
end Go.Sx
namespace Go.Sx
open Go.RowKit
section
variable {P:Program} {n:Nat} {w0:Base} {ops:Array Oper} {Q:Exit→Act→World→Prop} {S:yY} {H:Heap}
variable {d:Nat} {ty:TypeId} {pos:String} {af:Array Edge} {g:Option (Nat × Bool)}
theorem opV_makeFunc {dd:Option Tmp} {fn:Fn} {xs ys:List Operand} {vs us:List Value} (h1:evs S xs=some vs) (h2:evs S ys=some us) :
  OpV P w0 S H ⟨dd,.makeFunc fn xs.toArray ys.toArray,ty,pos,af,g⟩ (.func fn vs.toArray us.toArray):=by
 obtain ⟨e1,k1⟩:=qWE h1;obtain ⟨e2,k2⟩:=qWE h2;refine yG ?_ rfl fun w _ => ?_
 ·simp only [yQ,Op.operands];rw [vZH];intro x hx;simp at hx;rcases hx with hx | hx
  ·exact k1 x hx
  ·exact k2 x hx
 ·simp [execOp,Instr.makeFunc,e1,e2]
variable {f:FuncId} {xs:List Operand} {ats:Array TypeId} {vs:List Value} {rest:List Oper}
variable {K:yY→qJW→Prop} {G:qJW}
end
end Go.Sx

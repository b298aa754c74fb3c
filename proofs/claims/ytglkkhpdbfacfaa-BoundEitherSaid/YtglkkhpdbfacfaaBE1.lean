/- Part 1 of the texts behind the last one: rules and contracts. No condition. -/
import Derived.StillTail
import Derived.LoopN
import Derived.Below
import Derived.KernelRfl
import Derived.Laws.CopyRow
import Derived.WalkKit
import Derived.Laws.Tables
import Derived.ChangeKeysEq
import Derived.ProofKit
import Derived.OpenShut
import Derived.ChangeSlices
import Derived.WideShapes
import Derived.Laws.OwnMore
import Derived.Laws.MakeOwn
import Derived.Defers
import Derived.Laws.Cover3
import Derived.Deep.AppendSrc
import Derived.Scope
import Derived.Test.YtglkkhpdbfacfaaProg
import Derived.Recover
open Option renaming map_eq_some_iff → vZK
open Option.some renaming injEq → vQZ
open Prod.mk renaming injEq → vQY
open Bool renaming and_eq_true → vQJ, true_and → vZW
open List renaming getElem?_eq_getElem → vQK, length_cons → vQX, mem_of_getElem? → vQW, mem_cons_of_mem → vQV, mem_cons_self → vQG, getElem?_map → vQH, getElem?_take → vZU
open Nat renaming eq_of_beq_eq_true → vQU, lt_of_lt_of_le → vZZ, le_of_ble_eq_true → vZJ
open Array renaming getElem?_eq_getElem → vZY
open Go.IntKind renaming wrap → vYX
theorem vYQ {α : Type} {a b : α} : cond true a b = a := rfl
theorem vYZ {α : Type} {a b : α} : cond false a b = b := rfl
theorem vYY {p : Prop} [Decidable p] : ¬ p → decide p = false := fun h => decide_eq_false h
theorem vYJ {p : Prop} [Decidable p] : p → decide p = true := fun h => decide_eq_true h
theorem vYK {p : Prop} [Decidable p] : decide p = true → p := fun h => of_decide_eq_true h
theorem vYU {p : Prop} [Decidable p] : decide p = false → ¬ p := fun h => of_decide_eq_false h
namespace Go.Sx
open Go.RowKit
def qKX {α:Type} (c:α):Option (List α)→Option (List α)
 | some l=>some (c :: l)
 | none=>none
theorem kX {α:Type} {c:α} {x:Option (List α)} {vs:List α} (h:qKX c x=some vs):∃ l,x=some l∧c :: l=vs:=by
 cases x with
 | none=>cases h
 | some l=>exact ⟨l,rfl,by simpa [qKX] using h⟩
abbrev zW:=List (Nat × Value)
def look:zW→Nat→Option Value
 | [],_=>none
 | (k,v) :: S,t=>bif Nat.beq k t then some v else look S t
def ev (S:zW):Operand→Option Value
 | .tmp t=>look S t
 | .const v=>some v
 | .global g=>some (.pointer (some ⟨g,0,none⟩))
 | .func f=>some (.func (.func f) #[] #[])
def evD (S:zW) (x:Operand):Value:=(ev S x).getD undef
def evs (S:zW):List Operand→Option (List Value)
 | []=>some []
 | x :: xs=>match ev S x with
  | some v=>qKX v (evs S xs)
  | none=>none
theorem uW (k:Nat) (v:Value) (S:zW):look ((k,v) :: S) k=some v:=by
 simp [look]
theorem qQZ {k t:Nat} (v:Value) (S:zW) (h:k ≠ t):look ((k,v) :: S) t=look S t:=by
 have:Nat.beq k t=false:=by
  cases hb:Nat.beq k t with
  | false=>rfl
  | true=>exact absurd (vQU hb) h
 simp [look,this]
structure Fits (n:Nat) (S:zW) (a:Act):Prop where
 size:a.tmps.size=n
 defers:a.defers=[]
 has:∀ t v,look S t=some v→a.tmps[t]? = some v
theorem Fits.ev {n:Nat} {S:zW} {a:Act} (h:Fits n S a) {x:Operand} {v:Value} (hx:ev S x=some v):a.eval x=v:=by
 cases x with
 | tmp t =>
  have:=h.has t v hx
  simp [Act.eval,Array.getD_eq_getD_getElem?,this]
 | const u=>simpa [Sx.ev,Act.eval] using hx
 | global g=>simpa [Sx.ev,Act.eval] using hx
 | func f=>simpa [Sx.ev,Act.eval] using hx
theorem Fits.put {n:Nat} {S:zW} {a:Act} (h:Fits n S a) {d:Nat} (hd:Nat.blt d n=true) (v:Value):Fits n ((d,v) :: S) (a.put (some d) v):=by
 have hd':d < n:=by simpa using hd
 refine ⟨by simp [Act.put,h.size],h.defers,fun t u hu => ?_⟩;by_cases e:d=t
 ·subst e;rw [uW] at hu;cases hu;simp [Act.put,h.size,hd']
 ·rw [qQZ _ _ e] at hu;simp [Act.put,Array.getElem?_setIfInBounds_ne e,h.has t u hu]
abbrev Heap:=List (Nat × Nat × List Value × TypeId)
def Grow (w w':World):Prop:=Below w.heap.size w w'
theorem Grow.refl (w:World):Grow w w:=Below.refl _ _
theorem Grow.trans {a b c:World} (h:Grow a b) (k:Grow b c):Grow a c:=Below.trans h (Below.mono k h.size)
theorem Grow.drew {a w:World} (h:Grow a w):Grow a w.drew:=Below.drew h
theorem Grow.alloc {a w:World} (h:Grow a w) (o:Obj):Grow a (w.alloc o):=Below.alloc h h.size o
def qVZ:Heap→Nat→Option (Nat × List Value × TypeId)
 | [],_=>none
 | (k,x) :: H,i=>bif Nat.beq k i then some x else qVZ H i
def updH:Heap→Nat→List Value→Option Heap
 | [],_,_=>none
 | (k,b,cs,ty) :: H,i,cs'=>bif Nat.beq k i then some ((k,b,cs',ty) :: H) else qKX (k,b,cs,ty) (updH H i cs')
def qXI (D:Nat→Prop) (F:World→Prop):Prop:=∀ w w':World,(∀ k,D k→w'.heap[k]? = w.heap[k]?)→F w→F w'
def Told (m:Nat) (F:World→Prop) (w:World):Prop:=∃ D:Nat→Prop,qXI D F∧(∀ k,D k→m≤k∧k < w.heap.size)∧F w
structure RFact (m:Nat) (H:Heap) (D:Nat→Prop) (F:World→Prop) (w:World):Prop where
 dep:qXI D F
 at':∀ k,D k→m≤k∧k < w.heap.size∧∀ x ∈ H,x.2.1 ≠ k
 holds:F w
structure Base where
 w:World
 R:List (Nat × (Nat→Prop) × (World→Prop))
structure Knows (w0:Base) (H:Heap) (w:World):Prop where
 grow:Grow w0.w w
 has:∀ x ∈ H,w0.w.heap.size≤x.2.1∧w.heap[x.2.1]? = some (.cells x.2.2.1.toArray x.2.2.2)
 nodup:(H.map (·.2.1)).Nodup
 facts:∀ x ∈ w0.R,RFact w0.w.heap.size H x.2.1 x.2.2 w
 apart:w0.R.Pairwise (fun x y=>∀ k,x.2.1 k→¬ y.2.1 k)
theorem RFact.grow {m:Nat} {H:Heap} {D:Nat→Prop} {F:World→Prop} {w w':World} (h:RFact m H D F w) (g:Grow w w'):RFact m H D F w' :=
 ⟨h.dep,fun k hk=>⟨(h.at' k hk).1,vZZ (h.at' k hk).2.1 g.size,(h.at' k hk).2.2⟩,h.dep w w' (fun k hk=>g.block k (h.at' k hk).2.1) h.holds⟩
theorem RFact.heap {m:Nat} {H H':Heap} {D:Nat→Prop} {F:World→Prop} {w:World} (h:RFact m H D F w) (hs:∀ x ∈ H',(∃ y ∈ H,y.2.1=x.2.1) ∨ ¬ D x.2.1):RFact m H' D F w:=by
 refine ⟨h.dep,fun k hk=>⟨(h.at' k hk).1,(h.at' k hk).2.1,fun x hx e => ?_⟩,h.holds⟩;rcases hs x hx with ⟨y,hy,he⟩ | hn
 ·exact (h.at' k hk).2.2 y hy (he.trans e)
 ·exact hn (e ▸ hk)
theorem qUX {H:Heap} {i:Nat} {x:Nat × List Value × TypeId} (h:qVZ H i=some x):∃ k,(k,x) ∈ H:=by
 induction H with
 | nil=>cases h
 | cons y H ih =>
  obtain ⟨k,y⟩:=y;simp only [qVZ] at h;cases hb:Nat.beq k i with
  | true=>rw [hb] at h; simp at h; subst h; exact ⟨k,vQG⟩
  | false=>rw [hb] at h; simp at h; obtain ⟨k',hk⟩:=ih h; exact ⟨k',vQV _ hk⟩
theorem Knows.at {w0:Base} {w:World} {H:Heap} (h:Knows w0 H w) {i b:Nat} {cs:List Value} {ty:TypeId} (hi:qVZ H i=some (b,cs,ty)) :
  w0.w.heap.size≤b∧w.heap[b]? = some (.cells cs.toArray ty):=by
 obtain ⟨k,hk⟩:=qUX hi;exact h.has _ hk
theorem qQW {w:World} {b:Nat} {o:Obj} (h:w.heap[b]? = some o):b < w.heap.size:=by
 rcases Nat.lt_or_ge b w.heap.size with h' | h'
 ·exact h'
 ·simp [Array.getElem?_eq_none h'] at h
theorem Knows.next {w0:Base} {w w':World} {H:Heap} (h:Knows w0 H w) (g:Grow w w'):Knows w0 H w' :=
 ⟨h.grow.trans g,fun x hx=>⟨(h.has x hx).1,by rw [g.block _ (qQW (h.has x hx).2)]; exact (h.has x hx).2⟩,h.nodup,fun x hx=>(h.facts x hx).grow g,h.apart⟩
theorem Knows.nil {w1 w:World} (g:Grow w1 w):Knows ⟨w1,[]⟩ [] w:=⟨g,fun _ h=>(by cases h),List.nodup_nil,fun _ h=>(by cases h),List.Pairwise.nil⟩
theorem Knows.lt {w0:Base} {w:World} {H:Heap} (h:Knows w0 H w):∀ x ∈ H,x.2.1 < w.heap.size:=fun x hx=>qQW (h.has x hx).2
theorem Knows.tell {w0:Base} {w w':World} {H:Heap} (h:Knows w0 H w) (g:Grow w w') (id:Nat) {D:Nat→Prop} {F:World→Prop} (h1:qXI D F) (h2:∀ k,D k→w.heap.size≤k∧k < w'.heap.size) (h3:F w'):Knows ⟨w0.w,(id,D,F) :: w0.R⟩ H w':=by
 have k:=h.next g;refine ⟨k.grow,k.has,k.nodup,fun x hx => ?_,List.Pairwise.cons (fun y hy j h4 h5=>by have:=(h2 j h4).1; have:=((h.facts y hy).at' j h5).2.1; omega) h.apart⟩;rcases List.mem_cons.1 hx with rfl | hx
 ·exact ⟨h1,fun j hj=>⟨Nat.le_trans h.grow.size (h2 j hj).1,(h2 j hj).2,fun y hy e=>by have:=h.lt y hy; have:=(h2 j hj).1; omega⟩,h3⟩
 ·exact k.facts x hx
theorem Knows.alloc {w0:Base} {w:World} {H:Heap} (h:Knows w0 H w) (id:Nat) (cs:List Value) (ty:TypeId) :
  Knows w0 ((id,w.heap.size,cs,ty) :: H) (w.alloc (.cells cs.toArray ty)):=by
 have h2:=h.next ((Grow.refl w).alloc (.cells cs.toArray ty));refine ⟨h2.grow,fun x hx => ?_,?_,fun F hF => ?_,h.apart⟩
 ·rcases List.mem_cons.1 hx with rfl | hx
  ·refine ⟨h.grow.size,?_⟩;show (w.heap.push _)[w.heap.size]? = _
   simp
  ·exact h2.has x hx
 ·rw [List.map_cons,List.nodup_cons];refine ⟨fun hm => ?_,h.nodup⟩;obtain ⟨x,hx,he⟩:=List.mem_map.1 hm
  have:=qQW (h.has x hx).2
  simp only at he;omega
 ·exact ((h.facts F hF).heap (H':=(id,w.heap.size,cs,ty) :: H) fun x hx=>by
   rcases List.mem_cons.1 hx with rfl | hx
   ·exact .inr fun hd=>by have:=((h.facts F hF).at' _ hd).2.1; simp only at this; omega
   ·exact .inl ⟨x,hx,rfl⟩).grow ((Grow.refl w).alloc _)
theorem yZB {H H':Heap} {i:Nat} {cs':List Value} (h:updH H i cs'=some H'):∃ b cs ty,qVZ H i=some (b,cs,ty)∧H'.map (·.2.1)=H.map (·.2.1) ∧
  ((H.map (·.2.1)).Nodup→∀ x ∈ H',x ∈ H∧x.2.1 ≠ b ∨ x.2=(b,cs',ty)):=by
 induction H generalizing H' with
 | nil=>cases h
 | cons y H ih =>
  obtain ⟨k,b,cs,ty⟩:=y;simp only [updH] at h;cases hb:Nat.beq k i with
  | true =>
   rw [hb] at h; simp at h; subst h;refine ⟨b,cs,ty,by simp [qVZ,hb],by simp,fun nd x hx => ?_⟩;rcases List.mem_cons.1 hx with rfl | hx
   ·exact .inr rfl
   ·rw [List.map_cons,List.nodup_cons] at nd;exact .inl ⟨vQV _ hx,fun e=>nd.1 (List.mem_map.2 ⟨x,hx,e⟩)⟩
  | false =>
   rw [hb] at h;obtain ⟨H2,h2,rfl⟩:=kX h;obtain ⟨b2,cs2,ty2,e1,e2,e3⟩:=ih h2;refine ⟨b2,cs2,ty2,by simp [qVZ,hb,e1],by simp [e2],fun nd x hx => ?_⟩;rw [List.map_cons,List.nodup_cons] at nd;rcases List.mem_cons.1 hx with rfl | hx
   ·refine .inl ⟨vQG,fun e=>nd.1 ?_⟩;obtain ⟨k',hk⟩:=qUX e1;exact List.mem_map.2 ⟨_,hk,e.symm⟩
   ·rcases e3 nd.2 x hx with ⟨h1,h2⟩ | h1
    ·exact .inl ⟨vQV _ h1,h2⟩
    ·exact .inr h1
theorem Knows.set {w0:Base} {w:World} {H H':Heap} (h:Knows w0 H w) {i:Nat} {b:Nat} {cs cs':List Value} {ty:TypeId} (hi:qVZ H i=some (b,cs,ty))
  (hu:updH H i cs'=some H'):Knows w0 H' (w.setRow b cs'.toArray):=by
 obtain ⟨hb,hh⟩:=h.at hi;obtain ⟨b2,cs2,ty2,e1,e2,e3⟩:=yZB hu;rw [hi] at e1;cases e1;have hother:∀ k,k ≠ b→(w.setRow b cs'.toArray).heap[k]? = w.heap[k]?:=fun k hk=>by
  simp only [World.setRow,Array.getElem?_modify];rw [if_neg (by omega)]
 refine ⟨⟨h.grow.os,h.grow.tape,h.grow.output,by simpa [World.setRow] using h.grow.size,fun k hk => ?_⟩,fun x hx => ?_,by rw [e2]; exact h.nodup,fun F hF => ?_,h.apart⟩
 ·rw [hother k (by omega)];exact h.grow.block k hk
 ·rcases e3 h.nodup x hx with ⟨h1,h2⟩ | h1
  ·refine ⟨(h.has x h1).1,?_⟩;rw [hother _ h2];exact (h.has x h1).2
  ·obtain ⟨k,x⟩:=x;simp only at h1;subst h1;exact ⟨hb,setRow_heap w b _ _ ty _ hh⟩
 ·obtain ⟨h1,h2,h3⟩:=h.facts F hF;obtain ⟨kk,hkk⟩:=qUX hi;have hbD:∀ k,F.2.1 k→k ≠ b:=fun k hk e=>(h2 k hk).2.2 _ hkk e.symm
  refine ⟨h1,fun k hk=>⟨(h2 k hk).1,by simpa [World.setRow] using (h2 k hk).2.1,fun x hx e => ?_⟩,h1 w _ (fun k hk=>hother k (hbD k hk)) h3⟩;have hm:x.2.1 ∈ H'.map (·.2.1):=List.mem_map.2 ⟨x,hx,rfl⟩;rw [e2] at hm;obtain ⟨y,hy,hye⟩:=List.mem_map.1 hm;exact (h2 k hk).2.2 y hy (hye.trans e)
section
variable {P:Program} {n:Nat} {w0:Base} {ops:Array Oper} {Q:Exit→Act→World→Prop} {S:zW} {H:Heap}
def Yields (P:Program) (w:World) (T:Value→World→Prop):Result Next→Prop
 | .ok (.value v) w'=>Grow w w'∧T v w'
 | .ok .skip w'=>Grow w w'∧T undef w'
 | .ok (.enter f args) w'=>Grow w w'∧Calls P f args w' (fun e w''=>∃ v,e=.returned v∧Grow w' w''∧T v w'')
 | _=>False
def zV (S:zW) (o:Oper):Bool:=o.op.operands.all fun x=>(ev S x).isSome
def zWH (o:Oper):Bool:=match o.op with | .select .. => false | _=>true
structure OpT (P:Program) (w0:Base) (S:zW) (H:Heap) (o:Oper) (T:Value→World→Prop):Prop where
 known:zV S o=true
 nosel:zWH o=true
 run:∀ w,Knows w0 H w→Yields P w T ((execOp (evD S) o).run P w)
def OpV (P:Program) (w0:Base) (S:zW) (H:Heap) (o:Oper) (v:Value):Prop:=OpT P w0 S H o (fun u _=>u=v)
theorem yQE {o:Oper} (h:zWH o=true) (cs:Array SelectCase) (b:Bool):o.op ≠ .select cs b:=by
 intro e; simp [zWH,e] at h
theorem yKW {S:zW} {a:Act} (f:Fits n S a) {o:Oper} (hk:zV S o=true) (hs:zWH o=true):execOp a.eval o=execOp (evD S) o:=by
 refine execOp_congr o (yQE hs) fun x hx => ?_
 have:=Array.all_eq_true_iff_forall_mem.1 hk x hx
 obtain ⟨v,hv⟩:=Option.isSome_iff_exists.1 this;rw [f.ev hv];simp [evD,hv]
end
end Go.Sx
namespace Go.Sx
open Go.RowKit
section
variable {P:Program} {n:Nat} {w0:Base} {ops:Array Oper} {Q:Exit→Act→World→Prop} {S:zW} {H:Heap}
variable {d:Option Tmp} {ty:TypeId} {pos:String} {af:Array Edge} {g:Option (Nat × Bool)}
theorem qV {x:Operand} {v:Value} (h:ev S x=some v):evD S x=v:=by simp [evD,h]
theorem zG {o:Oper} {v:Value} (hk:zV S o=true) (hs:zWH o=true) (h:∀ w,Knows w0 H w→(execOp (evD S) o).run P w=.ok (.value v) w):OpV P w0 S H o v :=
 ⟨hk,hs,fun w k=>by rw [h w k]; exact ⟨Grow.refl _,rfl⟩⟩
theorem yXI {x:Operand} {v:Value} (hx:ev S x=some v):OpV P w0 S H ⟨d,.move x,ty,pos,af,g⟩ v :=
 zG (by simp [zV,Op.operands,hx]) rfl fun w _=>by simp [execOp,qV hx]
theorem yQJ {x:Operand} {v:Value} (hx:ev S x=some v):OpV P w0 S H ⟨d,.assign x,ty,pos,af,g⟩ v :=
 zG (by simp [zV,Op.operands,hx]) rfl fun w _=>by simp [execOp,qV hx]
theorem yQZ {c x y:Operand} {b:Bool} {v u:Value} (hc:ev S c=some (.bool b)) (hb:b=true) (hx:ev S x=some v) (hy:ev S y=some u):OpV P w0 S H ⟨d,.pick c x y,ty,pos,af,g⟩ v :=
 zG (by simp [zV,Op.operands,hx,hc,hy]) rfl fun w _=>by simp [execOp,qV hx,qV hc,hb,asBool]
theorem yQY {c x y:Operand} {b:Bool} {v u:Value} (hc:ev S c=some (.bool b)) (hb:b=false) (hx:ev S x=some u) (hy:ev S y=some v):OpV P w0 S H ⟨d,.pick c x y,ty,pos,af,g⟩ v :=
 zG (by simp [zV,Op.operands,hx,hc,hy]) rfl fun w _=>by simp [execOp,qV hy,qV hc,hb,asBool]
section ints
variable {x y:Operand} {k:IntKind} {m r q:Int} {t t':TypeId}
theorem jYI (hx:ev S x=some (.int k m)) (hy:ev S y=some (.int k r)) (hq:k.wrap (m + r)=q):OpV P w0 S H ⟨d,.binOp .add t x y t',ty,pos,af,g⟩ (.int k q) :=
 zG (by simp [zV,Op.operands,hx,hy]) rfl fun w _=>by subst hq; cases k <;> simp [execOp,qV hx,qV hy,eqGuard,binOp,Op.intArith]
theorem jYQ (hx:ev S x=some (.int k m)) (hy:ev S y=some (.int k r)) (hq:k.wrap (m - r)=q):OpV P w0 S H ⟨d,.binOp .sub t x y t',ty,pos,af,g⟩ (.int k q) :=
 zG (by simp [zV,Op.operands,hx,hy]) rfl fun w _=>by subst hq; cases k <;> simp [execOp,qV hx,qV hy,eqGuard,binOp,Op.intArith]
theorem jYG (hx:ev S x=some (.int k m)) (hy:ev S y=some (.int k r)) (hq:k.wrap (m * r)=q):OpV P w0 S H ⟨d,.binOp .mul t x y t',ty,pos,af,g⟩ (.int k q) :=
 zG (by simp [zV,Op.operands,hx,hy]) rfl fun w _=>by subst hq; cases k <;> simp [execOp,qV hx,qV hy,eqGuard,binOp,Op.intArith]
theorem jYK (hx:ev S x=some (.int k m)) (hy:ev S y=some (.int k r)) (h0:r ≠ 0) (hq:k.wrap (m.tdiv r)=q):OpV P w0 S H ⟨d,.binOp .quo t x y t',ty,pos,af,g⟩ (.int k q) :=
 zG (by simp [zV,Op.operands,hx,hy]) rfl fun w _=>by subst hq; cases k <;> simp [execOp,qV hx,qV hy,eqGuard,binOp,Op.intDiv,h0]
theorem jYJ (hx:ev S x=some (.int k m)) (hy:ev S y=some (.int k r)) (h0:r ≠ 0) (hq:m.tmod r=q):OpV P w0 S H ⟨d,.binOp .rem t x y t',ty,pos,af,g⟩ (.int k q) :=
 zG (by simp [zV,Op.operands,hx,hy]) rfl fun w _=>by subst hq; cases k <;> simp [execOp,qV hx,qV hy,eqGuard,binOp,Op.intDiv,h0]
theorem jYF (hx:ev S x=some (.int k m)) (hy:ev S y=some (.int k r)) (hq:k.wrap ((BitVec.ofInt k.bits m &&& BitVec.ofInt k.bits r).toNat)=q):OpV P w0 S H ⟨d,.binOp .and t x y t',ty,pos,af,g⟩ (.int k q) :=
 zG (by simp [zV,Op.operands,hx,hy]) rfl fun w _=>by subst hq; cases k <;> simp [execOp,qV hx,qV hy,eqGuard,binOp,Op.intBits]
theorem jYZ {k':IntKind} (hx:ev S x=some (.int k m)) (hy:ev S y=some (.int k' r)) (_:0≤r) (hq:m.fdiv (2 ^ (min r.toNat k.bits))=q):OpV P w0 S H ⟨d,.binOp .shr t x y t',ty,pos,af,g⟩ (.int k q) :=
 zG (by simp [zV,Op.operands,hx,hy]) rfl fun w _=>by
  have h1:¬ r < 0:=by omega
  subst hq; simp [execOp,qV hx,qV hy,eqGuard,binOp,Op.shift,h1]
theorem jYY {k':IntKind} (hx:ev S x=some (.int k m)) (hy:ev S y=some (.int k' r)) (_:0≤r) (hq:k.wrap (m * 2 ^ (min r.toNat k.bits))=q):OpV P w0 S H ⟨d,.binOp .shl t x y t',ty,pos,af,g⟩ (.int k q) :=
 zG (by simp [zV,Op.operands,hx,hy]) rfl fun w _=>by
  have h1:¬ r < 0:=by omega
  subst hq; simp [execOp,qV hx,qV hy,eqGuard,binOp,Op.shift,h1]
theorem jYH (hx:ev S x=some (.int k m)) (hy:ev S y=some (.int k r)):OpV P w0 S H ⟨d,.binOp .lss t x y t',ty,pos,af,g⟩ (.bool (decide (m < r))) :=
 zG (by simp [zV,Op.operands,hx,hy]) rfl fun w _=>by cases k <;> simp [execOp,qV hx,qV hy,eqGuard,binOp,Op.intCmp]
theorem jYA (hx:ev S x=some (.int k m)) (hy:ev S y=some (.int k r)):OpV P w0 S H ⟨d,.binOp .leq t x y t',ty,pos,af,g⟩ (.bool (decide (m≤r))) :=
 zG (by simp [zV,Op.operands,hx,hy]) rfl fun w _=>by cases k <;> simp [execOp,qV hx,qV hy,eqGuard,binOp,Op.intCmp]
theorem jYB (hx:ev S x=some (.int k m)) (hy:ev S y=some (.int k r)):OpV P w0 S H ⟨d,.binOp .gtr t x y t',ty,pos,af,g⟩ (.bool (decide (r < m))) :=
 zG (by simp [zV,Op.operands,hx,hy]) rfl fun w _=>by cases k <;> simp [execOp,qV hx,qV hy,eqGuard,binOp,Op.intCmp]
theorem jYC (hx:ev S x=some (.int k m)) (hy:ev S y=some (.int k r)):OpV P w0 S H ⟨d,.binOp .geq t x y t',ty,pos,af,g⟩ (.bool (decide (r≤m))) :=
 zG (by simp [zV,Op.operands,hx,hy]) rfl fun w _=>by cases k <;> simp [execOp,qV hx,qV hy,eqGuard,binOp,Op.intCmp]
theorem jYD (hx:ev S x=some (.int k m)) (hy:ev S y=some (.int k r)):OpV P w0 S H ⟨d,.binOp .eql t x y t',ty,pos,af,g⟩ (.bool (decide (m=r))) :=
 zG (by simp [zV,Op.operands,hx,hy]) rfl fun w _=>by cases k <;> simp [execOp,qV hx,qV hy,eqGuard,binOp,Op.intCmp] <;> rfl
theorem jYX (hx:ev S x=some (.int k m)) (hy:ev S y=some (.int k r)):OpV P w0 S H ⟨d,.binOp .neq t x y t',ty,pos,af,g⟩ (.bool (!decide (m=r))) :=
 zG (by simp [zV,Op.operands,hx,hy]) rfl fun w _=>by cases k <;> simp [execOp,qV hx,qV hy,eqGuard,binOp,Op.intCmp] <;> rfl
theorem jYW (hx:ev S x=some (.int k m)) (hq:k.wrap (0 - m)=q):OpV P w0 S H ⟨d,.unOp .neg t x,ty,pos,af,g⟩ (.int k q) :=
 zG (by simp [zV,Op.operands,hx]) rfl fun w _=>by subst hq; simp [execOp,qV hx,Op.unary,Op.intArith]
theorem jYU {b:Bool} (hx:ev S x=some (.bool b)):OpV P w0 S H ⟨d,.unOp .not t x,ty,pos,af,g⟩ (.bool (!b)) :=
 zG (by simp [zV,Op.operands,hx]) rfl fun w _=>by simp [execOp,qV hx,Op.unary]
theorem yXL {ats:Array TypeId} (hx:ev S x=some (.int k m)) (hy:ev S y=some (.int k r)):OpV P w0 S H ⟨d,.call ⟨.builtin .min,#[x,y],ats⟩,ty,pos,af,g⟩ (.int k (min m r)) :=
 zG (by simp [zV,Op.operands,Call.operands,hx,hy]) rfl fun w _=>by
  simp [execOp,resolve,invoke,builtin,qV hx,qV hy,Builtin.min_,Builtin.min2]; omega
theorem yWQ {ats:Array TypeId} (hx:ev S x=some (.int k m)) (hy:ev S y=some (.int k r)):OpV P w0 S H ⟨d,.call ⟨.builtin .max,#[x,y],ats⟩,ty,pos,af,g⟩ (.int k (max m r)) :=
 zG (by simp [zV,Op.operands,Call.operands,hx,hy]) rfl fun w _=>by
  simp [execOp,resolve,invoke,builtin,qV hx,qV hy,Builtin.max_,Builtin.max2]; omega
end ints
end
end Go.Sx
namespace Go.Sx
open Go.RowKit
def uG:List Value→Nat→List Value→Option (List Value)
 | cs,0,[]=>some cs
 | _ :: cs,0,v :: vs=>qKX v (uG cs 0 vs)
 | c :: cs,off + 1,vs=>qKX c (uG cs off vs)
 | [],0,_ :: _=>none
 | [],_ + 1,_=>none
theorem zJX {cs:List Value} {off:Nat} {vs cs':List Value} (h:uG cs off vs=some cs') :
  cs'=cs.take off ++ vs ++ cs.drop (off + vs.length)∧off + vs.length≤cs.length:=by
 induction cs generalizing off vs cs' with
 | nil =>
  cases off with
  | zero=>cases vs with
   | nil=>simp [uG] at h; simp [h]
   | cons v vs=>simp [uG] at h
  | succ off=>simp [uG] at h
 | cons c cs ih =>
  cases off with
  | zero=>cases vs with
   | nil=>simp [uG] at h; simp [h]
   | cons v vs =>
    simp only [uG] at h;obtain ⟨ws,hw,rfl⟩:=kX h;obtain ⟨e,hl⟩:=ih hw;simp at e hl ⊢;exact ⟨e,hl⟩
  | succ off =>
   simp only [uG] at h;obtain ⟨ws,hw,rfl⟩:=kX h;obtain ⟨e,hl⟩:=ih hw;simp [e,show off + 1 + vs.length=(off + vs.length) + 1 by omega]; omega
def tyB (P:Program) (t:TypeId) (agg:Bool) (size:Nat):Bool :=
 (match P.underlying t with | some (.struct _)=>agg | some (.array _ _)=>agg | some _ => !agg | none=>false) && (match P.info? t with | some i=>i.size == size | none=>false)
def qJH (P:Program) (t:TypeId) (v:Value):Prop:=(P.info? t).bind (·.zero)=some v
def zUC (P:Program) (s f off:Nat):Bool :=
 match P.underlying s with
 | some (.struct fields)=>match fields[f]? with
  | some fld=>fld.offset == off && (match P.info? fld.type with | some i=>i.size != 0 | none=>false)
  | none=>false
 | _=>false
def arrB (P:Program) (t len size:Nat):Bool :=
 match P.underlying t with
 | some (.array l e)=>l == len && (match P.info? e with | some i=>i.size == size | none=>false)
 | _=>false
def slcB (P:Program) (t e size:Nat):Bool :=
 match P.underlying t with
 | some (.slice e')=>e' == e && (match P.info? e with | some i=>i.size == size | none=>false)
 | _=>false
section
variable {P:Program} {n:Nat} {w0:Base} {ops:Array Oper} {Q:Exit→Act→World→Prop} {S:zW} {H:Heap}
variable {d:Option Tmp} {ty:TypeId} {pos:String} {af:Array Edge} {g:Option (Nat × Bool)}
theorem qXZ {t:TypeId} {agg:Bool} {size:Nat} (h:tyB P t agg size=true) (w:World):(isAgg t).run P w=.ok agg w:=by
 unfold tyB at h;cases hu:P.underlying t with
 | none=>simp [hu] at h
 | some ds=>cases ds <;> simp [hu] at h <;> simp [isAgg,run_underlying hu,h]
theorem qYX {t:TypeId} {agg:Bool} {size:Nat} (h:tyB P t agg size=true) (w:World):(sizeOf t).run P w=.ok size w:=by
 unfold tyB at h;cases hi:P.info? t with
 | none=>simp [hi] at h
 | some i=>simp [hi] at h; simp [sizeOf,typeInfo,hi,h.2]
theorem zZZ {t:TypeId} {v:Value} (h:qJH P t v) (w:World):(zeroValue t).run P w=.ok v w:=by
 unfold qJH at h;cases hi:P.info? t with
 | none=>simp [hi] at h
 | some i=>simp [hi] at h; simp [zeroValue,typeInfo,hi,h]
theorem qYF (b off k:Nat):(⟨b,off,none⟩:Addr).add k=⟨b,off + k,none⟩:=by unfold Addr.add; split <;> simp_all
theorem zVK {w:World} {b:Nat} {cs:List Value} {ty:TypeId} (h:w.heap[b]? = some (.cells cs.toArray ty)) (i:Nat):w.cell? ⟨b,i,none⟩=cs[i]?:=by
 simp [World.cell?,h]
theorem qWZ {w:World} {b off k:Nat} {vs:List Value} (h:∀ i,i < k→w.cell? ⟨b,off + i,none⟩=vs[i]?) (hk:vs.length=k) :
  (loadCells ⟨b,off,none⟩ k).run P w=.ok vs.toArray w:=by
 subst hk;refine run_loadCells_list w _ vs fun j v hj => ?_
 rw [qYF,h j (by have:=(List.getElem?_eq_some_iff.1 hj).1; exact this),hj]
theorem zZC {t:TypeId} {x:Operand} {b off:Nat} {v:Value} (hT:tyB P t false 1=true) (hx:ev S x=some (.pointer (some ⟨b,off,none⟩)))
  (hb:b < w0.w.heap.size) (hv:w0.w.cell? ⟨b,off,none⟩=some v):OpV P w0 S H ⟨d,.load t x,ty,pos,af,g⟩ v :=
 zG (by simp [zV,Op.operands,hx]) rfl fun w k=>by
  have:w.cell? ⟨b,off,none⟩=some v:=by rw [k.grow.cell (p:=⟨b,off,none⟩) hb,hv]
  simp [execOp,qV hx,Instr.loadAt,Instr.sureAddr,loadVar,qXZ hT,this]
theorem zZB {t:TypeId} {x:Operand} {b off sz:Nat} {vs:List Value} (hT:tyB P t true sz=true) (hx:ev S x=some (.pointer (some ⟨b,off,none⟩)))
  (hb:b < w0.w.heap.size) (hl:Nat.beq vs.length sz=true) (hv:∀ i,i < sz→w0.w.cell? ⟨b,off + i,none⟩=vs[i]?):OpV P w0 S H ⟨d,.load t x,ty,pos,af,g⟩ (.agg vs.toArray) :=
 zG (by simp [zV,Op.operands,hx]) rfl fun w k=>by
  have hr:=qWZ (P:=P) (w:=w) (b:=b) (off:=off) (k:=sz) (vs:=vs) (fun i hi=>by
   rw [k.grow.cell (p:=⟨b,off + i,none⟩) hb]; exact hv i hi) (vQU hl)
  simp [execOp,qV hx,Instr.loadAt,Instr.sureAddr,loadVar,qXZ hT,qYX hT,hr]
theorem qQX {s f off off':Nat} {x:Operand} {b:Nat} (hF:zUC P s f off'=true) (hx:ev S x=some (.pointer (some ⟨b,off,none⟩))) :
  OpV P w0 S H ⟨d,.fieldAddr s x f,ty,pos,af,g⟩ (.pointer (some ⟨b,off + off',none⟩)) :=
 zG (by simp [zV,Op.operands,hx]) rfl fun w _=>by
  unfold zUC at hF;cases hu:P.underlying s with
  | none=>simp [hu] at hF
  | some ds =>
   cases ds <;> simp [hu] at hF
   rename_i fields;cases hf:fields[f]? with
   | none=>simp [hf] at hF
   | some fld =>
    simp [hf] at hF;obtain ⟨h1,h2⟩:=hF;cases hi:P.info? fld.type with
    | none=>simp [hi] at h2
    | some i =>
     simp [hi] at h2;subst h1;simp [execOp,qV hx,Instr.fieldAt,Instr.sureAddr,run_underlying hu,hf,fieldPlace,sizeOf,typeInfo,hi,h2,qYF]
theorem zZD {t len size off:Nat} {x y:Operand} {b:Nat} {k:IntKind} {i:Int} (hA:arrB P t len size=true) (hx:ev S x=some (.pointer (some ⟨b,off,none⟩)))
  (hy:ev S y=some (.int k i)) (h0:0≤i) (h1:i < len):OpV P w0 S H ⟨d,.indexAddr t x y,ty,pos,af,g⟩ (.pointer (some ⟨b,off + i.toNat * size,none⟩)) :=
 zG (by simp [zV,Op.operands,hx,hy]) rfl fun w _=>by
  unfold arrB at hA;cases hu:P.underlying t with
  | none=>simp [hu] at hA
  | some ds =>
   cases ds <;> simp [hu] at hA
   rename_i l e;obtain ⟨rfl,h2⟩:=hA;cases hi:P.info? e with
   | none=>simp [hi] at h2
   | some inf =>
    simp [hi] at h2;subst h2;simp [execOp,qV hx,qV hy,Instr.indexAt,Instr.sureAddr,asIntOf,run_underlying hu,h0,h1,sizeOf,typeInfo,hi,qYF]
theorem qQA {t e size off len cap:Nat} {x y:Operand} {b:Nat} {k:IntKind} {i:Int} (hA:slcB P t e size=true) (hx:ev S x=some (.slice (some ⟨b,off,none⟩) len cap))
  (hy:ev S y=some (.int k i)) (h0:0≤i) (h1:i < len):OpV P w0 S H ⟨d,.indexAddr t x y,ty,pos,af,g⟩ (.pointer (some ⟨b,off + i.toNat * size,none⟩)) :=
 zG (by simp [zV,Op.operands,hx,hy]) rfl fun w _=>by
  unfold slcB at hA;cases hu:P.underlying t with
  | none=>simp [hu] at hA
  | some ds =>
   cases ds <;> simp [hu] at hA
   rename_i e';obtain ⟨rfl,h2⟩:=hA;cases hi:P.info? e' with
   | none=>simp [hi] at h2
   | some inf =>
    simp [hi] at h2;subst h2;simp [execOp,qV hx,qV hy,Instr.indexAt,asIntOf,run_underlying hu,h0,h1,sizeOf,typeInfo,hi,qYF]
theorem zXL {x:Operand} {vs:Array Value} {i:Nat} {v:Value} (hx:ev S x=some (.tuple vs)) (hv:vs[i]? = some v):OpV P w0 S H ⟨d,.extract x i,ty,pos,af,g⟩ v :=
 zG (by simp [zV,Op.operands,hx]) rfl fun w _=>by simp [execOp,qV hx,Instr.extract,hv]
end
end Go.Sx
namespace Go.Sx
open Go.RowKit
def Rets (v:Value) (w:World) (e:Ending) (w':World):Prop:=e=.returned v∧Grow w w'
def kH (P:Program) (f:FuncId):Prop:=∀ args w,(callFunc f args).run P w=.ok (.enter f args) w
theorem qQB {P:Program} {f:FuncId} {fn:Func} (hf:P.funcs[f]? = some fn) (h1:(fn.name == "runtime.NumGoroutine")=false) (h2:fn.body.isNone=false):kH P f:=by
 intro args w;have h1':¬ fn.name = "runtime.NumGoroutine" := by simpa using h1
 have h2':¬ fn.body=none:=fun e=>by simp [e] at h2
 simp only [callFunc,program,Sem.run_bind];simp [Sem.run,hf,h1',h2']
section
variable {P:Program} {n:Nat} {w0:Base} {ops:Array Oper} {Q:Exit→Act→World→Prop} {S:zW} {H:Heap}
variable {d:Option Tmp} {ty:TypeId} {pos:String} {af:Array Edge} {g:Option (Nat × Bool)}
theorem qUC {xs:List Operand} {vs:List Value} (h:evs S xs=some vs):xs.map (evD S)=vs∧∀ x ∈ xs,(ev S x).isSome=true:=by
 induction xs generalizing vs with
 | nil=>simp [evs] at h; simp [h]
 | cons x xs ih =>
  simp only [evs] at h;cases hx:ev S x with
  | none=>simp [hx] at h
  | some v =>
   simp only [hx] at h;obtain ⟨ws,hw,rfl⟩:=kX h;obtain ⟨e,ha⟩:=ih hw;refine ⟨by simp [qV hx,e],fun y hy => ?_⟩;rcases List.mem_cons.1 hy with rfl | hy
   ·simp [hx]
   ·exact ha y hy
def initS:Nat→List Value→zW
 | _,[]=>[]
 | k,v :: vs=>(k,v) :: initS (k + 1) vs
theorem yQI {vs:List Value} {k t:Nat} {v:Value} (h:look (initS k vs) t=some v):k≤t∧vs[t - k]? = some v:=by
 induction vs generalizing k with
 | nil=>cases h
 | cons u vs ih =>
  simp only [initS] at h;by_cases e:k=t
  ·subst e; rw [uW] at h; simpa using h
  ·rw [qQZ _ _ e] at h;obtain ⟨h1,h2⟩:=ih h;refine ⟨by omega,?_⟩;rw [show t - k=(t - (k + 1)) + 1 by omega]
   simpa using h2
def resF (tmps:Array Value):ResultVar→Sem Value
 | .tmp t=>pure (tmps.getD t undef)
 | .cell x t=>do loadVar t (← asAddr (tmps.getD x undef))
def valOf:List Value→Value
 | [v]=>v
 | vs=>.tuple vs.toArray
def yZY (ks:List Nat):zW→Option zW
 | []=>some []
 | (k,v) :: S=>bif ks.any (Nat.beq k) then qKX (k,v) (yZY (ks.filter fun x => !Nat.beq k x) S) else yZY ks S
theorem yZZ {ks:List Nat} {S S':zW} (h:yZY ks S=some S'):∀ t v,look S' t=some v→look S t=some v∧t ∈ ks:=by
 induction S generalizing ks S' with
 | nil=>simp [yZY] at h; subst h; intro t v ht; cases ht
 | cons x S ih =>
  obtain ⟨k,u⟩:=x;intro t v ht;simp only [yZY] at h;cases hb:ks.any (Nat.beq k) with
  | true =>
   rw [hb] at h;obtain ⟨S2,h2,rfl⟩:=kX h;by_cases e:k=t
   ·subst e;rw [uW] at ht ⊢;obtain ⟨y,hy,he⟩:=List.any_eq_true.1 hb;rw [vQU he];exact ⟨ht,hy⟩
   ·rw [qQZ _ _ e] at ht ⊢;obtain ⟨h3,h4⟩:=ih h2 t v ht;exact ⟨h3,(List.mem_filter.1 h4).1⟩
  | false =>
   rw [hb] at h; simp at h;obtain ⟨h3,h4⟩:=ih h t v ht;have e:k ≠ t:=fun e=>by
    subst e
    have:=List.any_eq_false.1 hb k h4
    simp at this
   exact ⟨by rw [qQZ _ _ e]; exact h3,h4⟩
theorem Fits.keep {ks:List Nat} {S':zW} {a:Act} (f:Fits n S a) (h:yZY ks S=some S'):Fits n S' a :=
 ⟨f.size,f.defers,fun t v ht=>f.has t v (yZZ h t v ht).1⟩
def yZK (ks:List Nat):Heap→Option Heap
 | []=>some []
 | (k,x) :: H=>bif ks.any (Nat.beq k) then qKX (k,x) (yZK ks H) else yZK ks H
theorem qGD {ks:List Nat} {H H':Heap} (h:yZK ks H=some H'):H'.Sublist H:=by
 induction H generalizing H' with
 | nil=>simp [yZK] at h; subst h; exact List.nil_sublist _
 | cons x H ih =>
  obtain ⟨k,x⟩:=x;simp only [yZK] at h;cases hb:ks.any (Nat.beq k) with
  | true =>
   rw [hb] at h;obtain ⟨H2,h2,rfl⟩:=kX h;exact (ih h2).cons_cons _
  | false=>rw [hb] at h; simp at h; exact (ih h).cons _
theorem Knows.keep {ks:List Nat} {H':Heap} {w:World} (k:Knows w0 H w) (h:yZK ks H=some H'):Knows w0 H' w :=
 ⟨k.grow,fun x hx=>k.has x ((qGD h).mem hx),((qGD h).map _).nodup k.nodup,fun F hF=>(k.facts F hF).heap fun x hx=>.inl ⟨x,(qGD h).mem hx,rfl⟩,k.apart⟩
end
end Go.Sx
namespace Go.Sx
open Go.RowKit
abbrev Pred:=Value→World→Prop
def jGG (T:Pred):Prop:=∀ v w w',T v w→Grow w w'→T v w'
def isV (v:Value):Pred:=fun u _=>u=v
abbrev qQD:=List (Nat × Bool × Pred)
def jJC:qQD→Nat→Option Pred
 | [],_=>none
 | (k,_,T) :: G,t=>bif Nat.beq k t then some T else jJC G t
section
variable {P:Program} {n:Nat} {w0:Base} {ops:Array Oper} {Q:Exit→Act→World→Prop} {H:Heap}
def yUI (S:zW) (G:qQD) (a:Act) (w:World) (t:Nat):Prop :=
 (∀ v,look S t=some v→a.tmps[t]? = some v)∧(∀ T,jJC G t=some T→∃ u,a.tmps[t]? = some u∧T u w)
def OpA (P:Program) (n:Nat) (w0:Base) (ops:Array Oper) (H:Heap) (S:zW) (G:qQD) (o:Oper) (T:Pred):Prop :=
 ∀ a w,a.tmps.size=n→(∀ t ∈ o.looksAt ops,yUI S G a w t)→Knows w0 H w →
  (if Region.wanted o (yielded ops a.tmps) then Yields P w T ((execOp a.eval o).run P w) else T undef w)
def jQY (P:Program) (n:Nat) (w0:Base) (ops:Array Oper) (H:Heap) (S:zW) (G:qQD) (o:Oper):Prop :=
 ∀ a w,a.tmps.size=n→(∀ t ∈ o.looksAt ops,yUI S G a w t)→Knows w0 H w →
  Region.wanted o (yielded ops a.tmps)=true∧∃ ob,(execOp a.eval o).run P w=.ok (.value (.pointer (some ⟨w.heap.size,0,none⟩))) (w.alloc ob)
def jGA (H:Heap) (T:Pred):Prop:=∀ u w,T u w→∃ b,u=.pointer (some ⟨b,0,none⟩)∧b < w.heap.size∧∀ x ∈ H,x.2.1 ≠ b
structure Cert where
 d:Nat
 T:Pred
 al:Bool
 S:zW
 G:qQD
structure CertOk (P:Program) (n:Nat) (w0:Base) (ops:Array Oper) (H:Heap) (o:Oper) (c:Cert):Prop where
 dst:o.dst=some c.d
 lt:c.d < n
 nosel:zWH o=true
 stable:jGG c.T
 op:OpA P n w0 ops H c.S c.G o c.T
 al:c.al=true→jQY P n w0 ops H c.S c.G o∧jGA H c.T
structure Stems (S0:zW) (cs:List Cert) (S:zW) (G:qQD):Prop where
 slots:∀ t v,look S t=some v→(∃ c ∈ cs,c.d=t∧c.T=isV v) ∨ (look S0 t=some v∧∀ c ∈ cs,c.d ≠ t)
 ghosts:∀ t T,jJC G t=some T→∃ c ∈ cs,c.d=t∧c.T=T
def qZY (listed:Array Bool):Nat→Nat
 | 0=>0
 | k + 1=>qZY listed k + (if listed.getD k true then 0 else 1)
theorem qKG {listed:Array Bool} {i:Nat}:∀ {N:Nat},N≤i→qZY (listed.setIfInBounds i true) N=qZY listed N
 | 0,_=>rfl
 | k + 1,h=>by
  simp only [qZY];rw [qKG (by omega),getD_set_ne true (by omega)]
theorem qHF {listed:Array Bool} {i:Nat} (hi:listed.getD i true=false):∀ {N:Nat},i < N→qZY listed N=qZY (listed.setIfInBounds i true) N + 1
 | 0,h=>by omega
 | k + 1,h=>by
  have hlt:i < listed.size:=by
   rcases Nat.lt_or_ge i listed.size with h' | h'
   ·exact h'
   ·simp [Array.getElem?_eq_none h'] at hi
  simp only [qZY];by_cases e:i=k
  ·subst e;rw [qKG (Nat.le_refl _),hi];simp [hlt]
  ·rw [qHF hi (show i < k by omega),getD_set_ne true e];omega
theorem qJC {listed:Array Bool}:∀ {N:Nat},qZY listed N=0→∀ i,i < N→listed.getD i true=true
 | 0,_,i,hi=>by omega
 | k + 1,h,i,hi=>by
  simp only [qZY] at h;by_cases e:i=k
  ·subst e;cases hb:listed.getD i true with
   | true=>rfl
   | false=>rw [hb] at h; simp at h
  ·exact qJC (N:=k) (by omega) i (by omega)
theorem qXL {listed:Array Bool}:∀ {N:Nat},qZY listed N ≠ 0→∃ i,i < N∧listed.getD i true=false∧∀ j,j < i→listed.getD j true=true
 | 0,h=>absurd rfl h
 | k + 1,h=>by
  by_cases hk:qZY listed k=0
  ·refine ⟨k,by omega,?_,fun j hj=>qJC hk j hj⟩;simp only [qZY,hk] at h;cases hb:listed.getD k true with
   | false=>rfl
   | true=>rw [hb] at h; simp at h
  ·obtain ⟨i,hi,h1,h2⟩:=qXL hk;exact ⟨i,by omega,h1,h2⟩
def backB (ops:Array Oper):Bool:=(List.range ops.size).all fun i=>match ops[i]? with
 | some o=>o.after.all fun e => !Region.binds .any e || decide (e.on < i)
 | none=>true
structure Inv (S0:zW) (w0:Base) (n:Nat) (H:Heap) (cs:List Cert) (listed:Array Bool) (a:Act) (w:World):Prop where
 size:a.tmps.size=n
 defers:a.defers=[]
 old:∀ t v,look S0 t=some v→(∀ i c,cs[i]? = some c→c.d=t→listed.getD i false=false)→a.tmps[t]? = some v
 done:∀ i c,cs[i]? = some c→listed.getD i false=true→∃ u,a.tmps[c.d]? = some u∧c.T u w
 apart:∀ i j c c',cs[i]? = some c→cs[j]? = some c'→i ≠ j→c.al=true→c'.al=true→listed.getD i false=true→listed.getD j false=true→a.tmps[c.d]? ≠ a.tmps[c'.d]?
 knows:Knows w0 H w
variable {S0:zW}
variable {S:zW} {G:qQD} {K:zW→qQD→Prop} {o:Oper} {l:List Oper} {d:Nat}
variable {tl:List Oper} {F:World→Prop}
end
end Go.Sx
namespace Go.Sx
open Go.RowKit
def evp (S:zW):List (Nat × Operand)→Option (List (Nat × Value))
 | []=>some []
 | (i,x) :: xs=>match ev S x with
  | some v=>qKX (i,v) (evp S xs)
  | none=>none
def qUB (pl:List (Nat × Nat)):List Value→List (Nat × Value)→Option (List Value)
 | cs,[]=>some cs
 | cs,(i,v) :: rest=>match pl[i]? with
  | none=>none
  | some (off,size)=>bif Nat.beq v.cells.size size then (match uG cs off v.cells.toList with
    | some cs'=>qUB pl cs' rest
    | none=>none) else none
def qYB (P:Program) (t:TypeId):Option (List Value × List (Nat × Nat)) :=
 match P.info? t,P.underlying t with
 | some it,some (.array n e) =>
  match it.zero,P.info? e with
  | some z,some ie=>some (z.cells.toList,(List.range n).map fun i=>(i * ie.size,ie.size))
  | _,_=>none
 | some it,some (.struct fields) =>
  match it.zero,fields.toList.mapM (fun f=>(P.info? f.type).map fun i=>(f.offset,i.size)) with
  | some z,some places=>some (z.cells.toList,places)
  | _,_=>none
 | _,_=>none
theorem yKQ (vs:List Value):∀ (k off:Nat) (cells:Array Value),off + k + vs.length≤cells.size →
  ((vs.zipIdx k).foldl (fun cs (x:Value × Nat)=>cs.setIfInBounds (off + x.2) x.1) cells).toList=cells.toList.take (off + k) ++ vs ++ cells.toList.drop (off + k + vs.length):=by
 induction vs with
 | nil=>intro k off cells _; simp
 | cons v vs ih =>
  intro k off cells h;simp only [List.zipIdx_cons,List.foldl_cons];rw [ih (k + 1) off _ (by simp at h ⊢; omega)];simp only [Array.toList_setIfInBounds]
  have:=list_seg_step cells.toList (off + k) v vs (by simp at h ⊢; omega)
  simpa [Nat.add_assoc,Nat.add_comm 1] using this
theorem zYC {place:Nat→Option (Nat × Nat)} {pl:List (Nat × Nat)} (hp:∀ i x,pl[i]? = some x→place i=some x):∀ (parts:List (Nat × Value)) (cells:List Value) (cs:List Value),
  qUB pl cells parts=some cs→Instr.fill place cells.toArray parts=some cs.toArray
 | [],cells,cs,h=>by simp [qUB] at h; simp [Instr.fill,h]
 | (i,v) :: rest,cells,cs,h=>by
  simp only [qUB] at h;cases hi:pl[i]? with
  | none=>simp [hi] at h
  | some x =>
   obtain ⟨off,size⟩:=x;simp only [hi] at h;cases hb:Nat.beq v.cells.size size with
   | false=>simp [hb] at h
   | true =>
    simp only [hb,vYQ] at h;have hsz:=vQU hb;cases hs:uG cells off v.cells.toList with
    | none=>simp [hs] at h
    | some cs' =>
     simp only [hs] at h;obtain ⟨e,hl⟩:=zJX hs;have hl':off + v.cells.size≤cells.length:=by simpa using hl
     have hf:=yKQ v.cells.toList 0 off cells.toArray (by simpa using hl);have hcs:(v.cells.zipIdx.foldl (fun cs (c,j)=>cs.setIfInBounds (off + j) c) cells.toArray)=cs'.toArray:=by
      apply Array.toList_inj.1;rw [e];rw [← Array.foldl_toList];simp only [Array.toList_zipIdx]
      simpa using hf
     simp only [Instr.fill,hp i _ hi];rw [if_neg (by simp [hsz]; omega)];rw [hcs];exact zYC hp rest cs' cs h
theorem yHY {P:Program} {t:TypeId} {z:List Value} {pl:List (Nat × Nat)} {parts:List (Nat × Value)} {cs:List Value} (hl:qYB P t=some (z,pl)) (hf:qUB pl z parts=some cs) :
  P.built t parts=some cs.toArray:=by
 unfold qYB at hl;unfold Program.built;cases hit:P.info? t with
 | none=>simp [hit] at hl
 | some it =>
  cases hu:P.underlying t with
  | none=>simp [hit,hu] at hl
  | some ds =>
   cases ds <;> try (simp [hit,hu] at hl; done)
   case array n e =>
    cases hz:it.zero with
    | none=>simp [hit,hu,hz] at hl
    | some zv =>
     cases hie:P.info? e with
     | none=>simp [hit,hu,hz,hie] at hl
     | some ie =>
      simp only [hit,hu,hz,hie,vQZ,vQY] at hl ⊢;obtain ⟨rfl,rfl⟩:=hl
      have:=zYC (place:=fun i=>some (i * ie.size,ie.size)) (fun i x hi=>by
       simp only [vQH,vZK] at hi;obtain ⟨j,hj,rfl⟩:=hi
       have:=(List.getElem?_eq_some_iff.1 hj)
       simp at this;simp [this.2]) parts zv.cells.toList cs hf
      simpa using this
   case struct fields =>
    cases hz:it.zero with
    | none=>simp [hit,hu,hz] at hl
    | some zv =>
     cases hp:fields.toList.mapM (fun f=>(P.info? f.type).map fun i=>(f.offset,i.size)) with
     | none=>simp only [hit,hu,hz,hp] at hl; cases hl
     | some places =>
      simp only [hit,hu,hz,hp,vQZ,vQY] at hl ⊢;obtain ⟨rfl,rfl⟩:=hl
      have:=zYC (place:=(places.toArray[·]?)) (fun i x hi=>by simpa using hi) parts zv.cells.toList cs hf
      simpa using this
section
variable {P:Program} {n:Nat} {w0:Base} {ops:Array Oper} {Q:Exit→Act→World→Prop} {S:zW} {H:Heap}
variable {d:Option Tmp} {ty:TypeId} {pos:String} {af:Array Edge} {g:Option (Nat × Bool)}
theorem zGA {xs:List (Nat × Operand)} {vs:List (Nat × Value)} (h:evp S xs=some vs):xs.map (fun x=>(x.1,evD S x.2))=vs∧∀ x ∈ xs,(ev S x.2).isSome=true:=by
 induction xs generalizing vs with
 | nil=>simp [evp] at h; simp [h]
 | cons x xs ih =>
  obtain ⟨i,x⟩:=x;simp only [evp] at h;cases hx:ev S x with
  | none=>simp [hx] at h
  | some v =>
   simp only [hx] at h;obtain ⟨ws,hw,rfl⟩:=kX h;obtain ⟨e,ha⟩:=ih hw;refine ⟨by simp [qV hx,e],fun y hy => ?_⟩;rcases List.mem_cons.1 hy with rfl | hy
   ·simp [hx]
   ·exact ha y hy
theorem zKB {t:TypeId} {z:List Value} {pl:List (Nat × Nat)} {parts:List (Nat × Operand)} {vs:List (Nat × Value)} {cs:List Value} (hl:qYB P t=some (z,pl)) (hp:evp S parts=some vs)
  (hf:qUB pl z vs=some cs):OpV P w0 S H ⟨d,.build t parts.toArray,ty,pos,af,g⟩ (.agg cs.toArray):=by
 obtain ⟨e,hk⟩:=zGA hp;refine zG ?_ rfl fun w _ => ?_
 ·simp only [zV,Op.operands];rw [Array.all_eq_true_iff_forall_mem];intro x hx;simp at hx;obtain ⟨i,hi⟩:=hx;exact hk _ hi
 ·have:=run_build (P:=P) w t (parts.map (fun x=>(x.1,evD S x.2))).toArray cs.toArray (by rw [List.toList_toArray,e]; exact yHY hl hf)
  have h2:(parts.toArray.map fun (x:Nat × Operand)=>(x.1,evD S x.2))=(parts.map (fun x=>(x.1,evD S x.2))).toArray:=by simp
  simp only [execOp];rw [h2];simp [this]
end
theorem yH {x:Int} (_: -9223372036854775808≤x∧x≤9223372036854775807):vYX .i64 x=x:=by
 unfold IntKind.wrap;have hb:IntKind.i64.bits=64:=rfl;have hs:IntKind.i64.signed=true:=rfl;simp only [hb,hs,vZW,decide_eq_true_eq]
 split <;> omega
end Go.Sx
namespace Go.Sx
open Go.RowKit
def zGB:Value→Value→Bool
 | .int _ a,.int _ b=>decide (a=b)
 | .bool a,.bool b=>a == b
 | .string a,.string b=>a == b
 | _,_=>false
def eqCells:List Value→List Value→Bool
 | [],[]=>true
 | x :: xs,y :: ys=>zGB x y && eqCells xs ys
 | _,_=>false
def yJV:TypeDesc→Value→Bool
 | .int k,.int k' _=>k == k'
 | .bool,.bool _=>true
 | .string,.string _=>true
 | _,_=>false
def oneC (ds:TypeDesc):List Value→Bool
 | [c]=>yJV ds c
 | _=>false
def qXC (f:TypeId→List Value→Bool) (P:Program):List Field→Nat→List Value→Bool
 | [],_,cs=>cs.isEmpty
 | fd :: fs,o,cs=>fd.name != "_" && Nat.beq fd.offset o && (match P.info? fd.type with
   | some i=>decide (i.size≤cs.length) && f fd.type (cs.take i.size) && qXC f P fs (o + i.size) (cs.drop i.size)
   | none=>false)
def zQG (f:List Value→Bool) (size:Nat):Nat→List Value→Bool
 | 0,cs=>cs.isEmpty
 | k + 1,cs=>decide (size≤cs.length) && f (cs.take size) && zQG f size k (cs.drop size)
def uV (P:Program):Nat→TypeId→List Value→Bool
 | 0,_,_=>false
 | d + 1,t,cs=>match P.underlying t with
  | some (.struct fields) => !P.stoodInHeld t && qXC (uV P d) P fields.toList 0 cs
  | some (.array len e)=>(match P.info? e with | some i=>zQG (uV P d e) i.size len cs | none=>false)
  | some ds=>oneC ds cs
  | none=>false
def mkV (P:Program) (t:TypeId) (cs:List Value):Value :=
 match P.underlying t with
 | some (.struct _)=>.agg cs.toArray
 | some (.array _ _)=>.agg cs.toArray
 | _=>cs.headD undef
theorem qHC {a b c e:List Value} (h:a.length=c.length):eqCells (a ++ b) (c ++ e)=(eqCells a c && eqCells b e):=by
 induction a generalizing c with
 | nil=>cases c with
  | nil=>simp [eqCells]
  | cons _ _=>simp at h
 | cons x a ih=>cases c with
  | nil=>simp at h
  | cons y c=>simp [eqCells,ih (by simpa using h),Bool.and_assoc]
theorem qUD {xs ys:List Value} (k:Nat) (_:k≤xs.length) (_:k≤ys.length):eqCells xs ys=(eqCells (xs.take k) (ys.take k) && eqCells (xs.drop k) (ys.drop k)):=by
 conv=>lhs; rw [← List.take_append_drop k xs,← List.take_append_drop k ys]
 exact qHC (by simp; omega)
section
variable {P:Program} (w:World)
theorem qVJ {t:TypeId} {i:TypeInfo} (hi:P.info? t=some i) {cs:List Value} {o:Nat} {d:Nat} (hc:uV P d t ((cs.drop o).take i.size)=true) :
  (part t cs.toArray o).run P w=.ok (mkV P t ((cs.drop o).take i.size)) w:=by
 cases d with
 | zero=>simp [uV] at hc
 | succ d =>
 have hsz:(sizeOf t).run P w=.ok i.size w:=by simp [sizeOf,typeInfo,hi]
 unfold uV at hc;cases hu:P.underlying t with
 | none=>simp [hu] at hc
 | some ds =>
  have sc:oneC ds ((cs.drop o).take i.size)=true→(isAgg t).run P w=.ok false w→mkV P t ((cs.drop o).take i.size)=((cs.drop o).take i.size).headD undef →
    (part t cs.toArray o).run P w=.ok (mkV P t ((cs.drop o).take i.size)) w:=fun h1 h2 h3=>by
   cases hl:(cs.drop o).take i.size with
   | nil=>rw [hl] at h1; cases h1
   | cons c l =>
    cases l with
    | cons _ _=>rw [hl] at h1; cases h1
    | nil =>
     have hco:cs[o]? = some c:=by
      have:=congrArg (·[0]?) hl
      simp only [vZU,List.getElem?_drop,Nat.add_zero,List.getElem?_cons_zero] at this;split at this
      ·exact this
      ·cases this
     rw [hl] at h3;rw [h3];simp [part,h2,hco]
  cases ds <;> simp only [hu] at hc
  case struct fs=>simp [part,isAgg,run_underlying hu,hsz,mkV,hu]
  case array len e=>simp [part,isAgg,run_underlying hu,hsz,mkV,hu]
  all_goals first
   | exact sc hc (by simp [isAgg,run_underlying hu]) (by simp [mkV,hu])
def EqC (P:Program) (d:Nat) (t:TypeId) (f:TypeId→List Value→Bool):Prop :=
 ∀ w xs ys,f t xs=true→f t ys=true→(Op.equalIn d t (mkV P t xs) (mkV P t ys)).run P w=.ok (eqCells xs ys) w
theorem qKB {d m:Nat} (ih:∀ t,EqC P d t (uV P m)) {cs es:List Value}:∀ (fs:List Field) (o:Nat) (w:World),
  qXC (uV P m) P fs o (cs.drop o)=true→qXC (uV P m) P fs o (es.drop o)=true→o≤cs.length→o≤es.length →
  (Op.eqFields d cs.toArray es.toArray fs).run P w=.ok (eqCells (cs.drop o) (es.drop o)) w
 | [],o,w,h1,h2,_,_=>by
  simp only [qXC,List.isEmpty_iff] at h1 h2;simp [Op.eqFields,h1,h2,eqCells]
 | f :: fs,o,w,h1,h2,hc,he=>by
  simp only [qXC,vQJ,bne_iff_ne] at h1 h2;obtain ⟨⟨hn,ho⟩,h1⟩:=h1;have ho':=vQU ho;cases hi:P.info? f.type with
  | none=>simp [hi] at h1
  | some i =>
   simp only [hi,vQJ,decide_eq_true_eq,List.length_drop,List.drop_drop] at h1 h2;obtain ⟨⟨l1,c1⟩,r1⟩:=h1;obtain ⟨_,⟨l2,c2⟩,r2⟩:=h2;have p1:=qVJ w hi (o:=o) c1;have p2:=qVJ w hi (o:=o) c2;have e3:=ih f.type w _ _ c1 c2;have hrec:=qKB ih (cs:=cs) (es:=es) fs (o + i.size) w r1 r2 (by omega) (by omega);rw [qUD i.size (by simp; omega) (by simp; omega)];simp only [Op.eqFields,hn,ne_eq,not_false_eq_true,if_true,Sem.run_bind,ho',p1,p2,e3,Result.andThen_ok,List.drop_drop];cases hb:eqCells ((cs.drop o).take i.size) ((es.drop o).take i.size) with
   | false=>simp
   | true=>simpa using hrec
theorem qWY {d m:Nat} {e:TypeId} {i:TypeInfo} (hi:P.info? e=some i) (ih:EqC P d e (uV P m)) {cs es:List Value}:∀ (k j:Nat) (w:World),
  zQG (uV P m e) i.size k (cs.drop (j * i.size))=true→zQG (uV P m e) i.size k (es.drop (j * i.size))=true→j * i.size≤cs.length→j * i.size≤es.length →
  (Op.eqItems d e i.size cs.toArray es.toArray (List.range' j k)).run P w=.ok (eqCells (cs.drop (j * i.size)) (es.drop (j * i.size))) w
 | 0,j,w,h1,h2,_,_=>by
  simp only [zQG,List.isEmpty_iff] at h1 h2;simp [Op.eqItems,h1,h2,eqCells]
 | k + 1,j,w,h1,h2,hc,he=>by
  simp only [zQG,vQJ,decide_eq_true_eq,List.length_drop,List.drop_drop] at h1 h2;obtain ⟨⟨l1,c1⟩,r1⟩:=h1;obtain ⟨⟨l2,c2⟩,r2⟩:=h2;have hj:j * i.size + i.size=(j + 1) * i.size:=by rw [Nat.add_mul]; omega
  rw [hj] at r1 r2;have p1:=qVJ w hi (o:=j * i.size) c1;have p2:=qVJ w hi (o:=j * i.size) c2;have e3:=ih w _ _ c1 c2;have hrec:=qWY hi ih (cs:=cs) (es:=es) k (j + 1) w r1 r2 (by omega) (by omega);rw [qUD i.size (by simp; omega) (by simp; omega)];simp only [List.range'_succ,Op.eqItems,Sem.run_bind,p1,p2,e3,Result.andThen_ok,List.drop_drop,hj];cases hb:eqCells ((cs.drop (j * i.size)).take i.size) ((es.drop (j * i.size)).take i.size) with
  | false=>simp
  | true=>simpa using hrec
theorem zYE (d:Nat):∀ (m:Nat) (t:TypeId),EqC P (d + m) t (uV P m)
 | 0,t=>fun w xs ys h=>by simp [uV] at h
 | m + 1,t=>fun w xs ys h1 h2=>by
  unfold uV at h1 h2;rw [show d + (m + 1)=(d + m) + 1 from rfl];cases hu:P.underlying t with
  | none=>simp [hu] at h1
  | some ds =>
   have sc:oneC ds xs=true→oneC ds ys=true→mkV P t xs=xs.headD undef→mkV P t ys=ys.headD undef →
     (Op.equalIn ((d + m) + 1) t (mkV P t xs) (mkV P t ys)).run P w=.ok (eqCells xs ys) w:=fun h1 h2 e1 e2=>by
    cases xs with
    | nil=>cases h1
    | cons x xs =>
    cases xs with
    | cons _ _=>cases h1
    | nil =>
    cases ys with
    | nil=>cases h2
    | cons y ys =>
    cases ys with
    | cons _ _=>cases h2
    | nil =>
     rw [e1,e2];cases ds <;> cases x <;> simp [oneC,yJV] at h1 <;> cases y <;> simp [oneC,yJV] at h2
     ·simp only [List.headD_cons];rw [run_equalIn_bool w _ t _ _ hu];simp [eqCells,zGB]
     ·subst h1; subst h2;simp only [List.headD_cons];rw [run_equalIn_int w _ t _ _ _ _ hu];simp [eqCells,zGB];rfl
     ·simp only [List.headD_cons];simp [Op.equalIn,run_underlying hu,eqCells,zGB]
   cases ds <;> simp only [hu] at h1 h2
   case struct fs =>
    simp only [vQJ,Bool.not_eq_true'] at h1 h2;have hfs:P.fieldsOf t=fs:=by simp [Program.fieldsOf,hu]
    have:=qKB (P:=P) (d:=d + m) (fun t=>zYE d m t) (cs:=xs) (es:=ys) fs.toList 0 w (by simpa using h1.2) (by simpa using h2.2) (Nat.zero_le _) (Nat.zero_le _)
    simp only [mkV,hu];rw [run_equalIn_struct w (d + m) t _ _ (by rw [hfs]; exact hu) h1.1,hfs]
    simpa using this
   case array len e =>
    cases hi:P.info? e with
    | none=>simp [hi] at h1
    | some i =>
     simp only [hi] at h1 h2;have hcell:P.cellsOf e=i.size:=by simp [Program.cellsOf,hi]
     have:=qWY (P:=P) hi (zYE d m e) (cs:=xs) (es:=ys) len 0 w (by simpa using h1) (by simpa using h2) (by simp) (by simp)
     simp only [mkV,hu];rw [run_equalIn_array w (d + m) _ _ hu hi,hcell,List.range_eq_range']
     simpa using this
   all_goals exact sc h1 h2 (by simp [mkV,hu]) (by simp [mkV,hu])
end
section
variable {P:Program} {n:Nat} {w0:Base} {ops:Array Oper} {Q:Exit→Act→World→Prop} {S:zW} {H:Heap}
variable {d:Option Tmp} {ty:TypeId} {pos:String} {af:Array Edge} {g:Option (Nat × Bool)}
def aggB (P:Program) (t:TypeId):Bool:=(match P.underlying t with | some (.struct _)=>true | some (.array _ _)=>true | _=>false) && !P.eqGuardType P.depth t
theorem jYE {x y:Operand} {t t':TypeId} {xs ys:List Value} (m:Nat) (hm:Nat.ble m 10000=true) (hT:aggB P t=true) (hx:ev S x=some (.agg xs.toArray)) (hy:ev S y=some (.agg ys.toArray)) (hcx:uV P m t xs=true) (hcy:uV P m t ys=true) :
  OpV P w0 S H ⟨d,.binOp .eql t x y t',ty,pos,af,g⟩ (.bool (eqCells xs ys)) :=
 zG (by simp [zV,Op.operands,hx,hy]) rfl fun w _=>by
  simp only [aggB,vQJ,Bool.not_eq_true'] at hT;obtain ⟨k,hk⟩:∃ k,k + m=10000:=⟨10000 - m,by have:=vZJ hm; omega⟩
  have h1:=zYE (P:=P) k m t w xs ys hcx hcy;have e1:mkV P t xs=.agg xs.toArray:=by
   unfold mkV;cases hu:P.underlying t with
   | none=>simp [hu] at hT
   | some ds=>cases ds <;> simp [hu] at hT ⊢
  have e2:mkV P t ys=.agg ys.toArray:=by
   unfold mkV;cases hu:P.underlying t with
   | none=>simp [hu] at hT
   | some ds=>cases ds <;> simp [hu] at hT ⊢
  rw [e1,e2,hk] at h1;have h2:=run_eqGuard_agg w .eql t x y xs.toArray ys.toArray hT.2;have h3:=run_eql_struct (P:=P) w t xs.toArray ys.toArray;rw [h1] at h3;simp [execOp,qV hx,qV hy,h2,h3]
end
end Go.Sx
namespace Go.Sx
structure Iv where
 lo:Int
 hi:Int
@[simp] theorem Iv.eta (x:Iv):(⟨x.lo,x.hi⟩:Iv)=x:=rfl
def In64 (a:Int):Prop:=-9223372036854775808≤a∧a≤9223372036854775807
def qWC (a:Int):Int:=min (max a (-2147483648)) 2147483648
def kZL (a b:Int):Int:=-((-a) / b)
def Iv.valid (a:Iv):Bool:=decide (-2147483648≤a.lo) && decide (a.lo≤a.hi) && decide (a.hi≤2147483648)
def Iv.of (x:Int):Iv:=⟨qWC x,qWC x⟩
def Iv.neg (a:Iv):Iv:=bif a.valid then ⟨-a.hi,-a.lo⟩ else ⟨0,0⟩
def Iv.add (a b:Iv):Iv:=bif a.valid && b.valid then ⟨qWC (a.lo + b.lo),qWC (a.hi + b.hi)⟩ else ⟨0,0⟩
def Iv.sub (a b:Iv):Iv:=bif a.valid && b.valid then ⟨qWC (a.lo - b.hi),qWC (a.hi - b.lo)⟩ else ⟨0,0⟩
def min4 (a b c d:Int):Int:=min (min (min a b) c) d
def max4 (a b c d:Int):Int:=max (max (max a b) c) d
def Iv.mul (a b:Iv):Iv:=bif a.valid && b.valid then
 ⟨qWC (min4 (a.lo * b.lo) (a.lo * b.hi) (a.hi * b.lo) (a.hi * b.hi) / 65536),qWC (kZL (max4 (a.lo * b.lo) (a.lo * b.hi) (a.hi * b.lo) (a.hi * b.hi)) 65536)⟩ else ⟨0,0⟩
def Iv.has (a:Iv) (x:Int):Bool:=a.valid && decide (a.lo≤x) && decide (x≤a.hi)
def Iv.within (a b:Iv):Bool:=a.valid && b.valid && decide (b.lo≤a.lo) && decide (a.hi≤b.hi)
section
variable {P:Program} {n:Nat} {w0:Base} {ops:Array Oper} {Q:Exit→Act→World→Prop} {S:zW} {H:Heap}
end
end Go.Sx
namespace Go.Sx
open Go.RowKit Go.ChangeShapes Go.WideShapes
section
variable {P:Program} {W:World} {r:Reach} {base:Nat}
theorem zGZ {t:TypeId} {v:Value} (hu:P.underlying t=some (.int .i64)) (h:Value.okWide P W r base t v):∃ n,v=.int .i64 n∧In64 n:=by
 simp only [Value.okWide,hu,Cell.okWide] at h;cases v <;> simp [Cell.ok,hu] at h
 obtain ⟨rfl,h1⟩:=h;exact ⟨_,rfl,by simpa [IntKind.has,IntKind.min,IntKind.max,IntKind.signed,IntKind.bits,In64] using h1⟩
variable {H:Type} {enc:TypeId × Value→H}
def jZA (P:Program) (ts:List TypeId):Bool:=ts.all fun t=>P.readableRec t && decide (t < P.types.size)
theorem qKH (hl:laidOutB P=true) {W':World} (hb:Below W.heap.size W W'):∀ {ts:List TypeId} {vs:List Value} {ds:List (DataW H)} {ps:List MemPlace},jZA P ts=true →
  DataW.TrodAll enc P W 0 (fun _=>true) true ts vs ds ps→(∀ x ∈ ps,x.block < W.heap.size)→DataW.TrodAll enc P W' 0 (fun b=>decide (b < W.heap.size)) true ts vs ds ps
 | [],vs,ds,ps,_,h,_=>by
  obtain ⟨rfl,rfl,rfl⟩:=trodAll_nil h;exact trodAll_mk0
 | t :: ts,vs,ds,ps,hr,h,hlt=>by
  obtain ⟨v,vs',d,ds',p,q,rfl,rfl,rfl,h1,h2⟩:=trodAll_cons h;simp only [jZA,List.all_cons,vQJ,decide_eq_true_eq] at hr;exact trodAll_cons_mk (Below.trod hl hr.1.1 hr.1.2 h1 hb fun x hx=>hlt x (List.mem_append_left _ hx))
   (qKH hl hb hr.2 h2 fun x hx=>hlt x (List.mem_append_right _ hx))
theorem yVI {f:Func} {s:ChangeSpec} {apart fresh handsOn:Bool} {W':World} {args:Array Value} {ds:List (DataW H)} {before:List MemPlace} {tb:TypeId}
  (hW:DataW.Whole enc P f.params.toList s.vars apart W args.toList ds [] before) (hvs:s.vars=[]) (hl:laidOutB P=true) (hr:jZA P f.params.toList=true) (hargs:(s.fn H (ds ++ [])).args=ds)
  (hres:(s.fn H (ds ++ [])).results=[.lit (.bool true)]) (hv:(s.fn H (ds ++ [])).vars=[]) (hrt:f.resultTypes=#[tb]) (hub:P.underlying tb=some .bool) (hb:Below W.heap.size W W') :
  s.post enc P f apart fresh handsOn false W args (.bool true) W':=by
 have hlt:∀ p ∈ before,p.block < W.heap.size:=fun p hp=>hW.lt p hp
 have hW2:=hW;obtain ⟨p,q,hA,hV,rfl,_,_⟩:=hW2;rw [hvs] at hV;obtain ⟨_,rfl⟩:=trodVars_none hV;refine ⟨ds,[],p ++ [],[],p,[],hW,?_,?_,?_,World.keptBut_mono (fun x hx=>⟨hx,Or.inr (Or.inl (by simpa using hx))⟩) (hb.frame (· ∈ p ++ [])),fun h=>by cases h⟩
 ·rw [hres,hrt];exact trodAll_mk1 (shut_bool hub true)
 ·rw [hargs];exact qKH hl hb hr hA fun x hx=>hlt x (by simpa using hx)
 ·rw [hv,hvs];exact rfl
end
end Go.Sx
namespace Go.Sx
open Go.RowKit
structure GrowB (b:Nat→Prop) (w w':World):Prop where
 os:w'.os=w.os
 tape:w'.tape=w.tape
 output:w'.output=w.output
 size:w.heap.size≤w'.heap.size
 block:∀ k,k < w.heap.size→¬ b k→w'.heap[k]? = w.heap[k]?
theorem GrowB.of {b:Nat→Prop} {w w':World} (g:Grow w w'):GrowB b w w':=⟨g.os,g.tape,g.output,g.size,fun k hk _=>g.block k hk⟩
theorem GrowB.refl (b:Nat→Prop) (w:World):GrowB b w w:=.of (Grow.refl w)
theorem GrowB.trans {b:Nat→Prop} {x y z:World} (h:GrowB b x y) (k:GrowB b y z):GrowB b x z :=
 ⟨k.os.trans h.os,k.tape.trans h.tape,k.output.trans h.output,Nat.le_trans h.size k.size,fun i hi hb=>(k.block i (vZZ hi h.size) hb).trans (h.block i hi hb)⟩
theorem GrowB.set (b:Nat) (w:World) (cs:Array Value):GrowB (· = b) w (w.setRow b cs):=⟨rfl,rfl,rfl,by simp,fun k _ hb=>setRow_other w b k cs hb⟩
def jKW (b:Nat→Prop) (T:Pred):Prop:=∀ v w w',T v w→GrowB b w w'→T v w'
section
variable {P:Program} {n:Nat} {ops:Array Oper} {Q:Exit→Act→World→Prop} {σ:Type}
def jKX (P:Program) (b:Nat→Prop) (w:World) (T:Pred) (K:World→Prop):Result Next→Prop
 | .ok (.value v) w'=>GrowB b w w'∧T v w'∧K w'
 | .ok (.enter f args) w'=>GrowB b w w'∧Calls P f args w' (fun e w''=>∃ v,e=.returned v∧GrowB b w' w''∧T v w''∧K w'')
 | _=>False
def OpE (P:Program) (n:Nat) (ops:Array Oper) (K1 K2:World→Prop) (b:Nat→Prop) (S:zW) (G:qQD) (o:Oper) (T:Pred):Prop :=
 ∀ a w,a.tmps.size=n→(∀ t ∈ o.looksAt ops,yUI S G a w t)→K1 w →
  Region.wanted o (yielded ops a.tmps)=true∧jKX P b w T K2 ((execOp a.eval o).run P w)
structure Fam (b:Nat→Prop) (w1:Base) (H0:Heap) (Wf:σ→Base) (Hf:σ→Heap):Prop where
 size:∀ s,(Wf s).w.heap.size=w1.w.heap.size
 told:∀ s,(Wf s).R=w1.R
 adr:∀ s,(Hf s).map (·.2.1)=H0.map (·.2.1)
 here:∀ k,b k→k < w1.w.heap.size ∨ k ∈ H0.map (·.2.1)
def jGH (P:Program) (n:Nat) (ops:Array Oper) (Wf:σ→Base) (Hf:σ→Heap) (S:zW) (G:qQD) (o:Oper) (T:Pred):Prop:=∀ s',OpA P n (Wf s') ops (Hf s') S G o T
structure CertOkM (P:Program) (n:Nat) (ops:Array Oper) (b:Nat→Prop) (Wf:σ→Base) (Hf:σ→Heap) (H0:Heap) (es:List Nat) (i:Nat) (s s2:σ) (o:Oper) (c:Cert):Prop where
 dst:o.dst=some c.d
 lt:c.d < n
 nosel:zWH o=true
 stable:jKW b c.T
 op:(es.contains i=false∧s2=s∧jGH P n ops Wf Hf c.S c.G o c.T) ∨ (es.contains i=true∧OpE P n ops (Knows (Wf s) (Hf s)) (Knows (Wf s2) (Hf s2)) b c.S c.G o c.T)
 al:c.al=true→(es.contains i=false∧∀ s',jQY P n (Wf s') ops (Hf s') c.S c.G o)∧jGA H0 c.T
variable {b:Nat→Prop} {Wf:σ→Base} {Hf:σ→Heap} {H0:Heap} {es:List Nat} {w1:Base}
structure InvM (S0:zW) (Wf:σ→Base) (Hf:σ→Heap) (es:List Nat) (ss:Nat→σ) (N n:Nat) (cs:List Cert) (listed:Array Bool) (a:Act) (w:World):Prop where
 size:a.tmps.size=n
 defers:a.defers=[]
 old:∀ t v,look S0 t=some v→(∀ i c,cs[i]? = some c→c.d=t→listed.getD i false=false)→a.tmps[t]? = some v
 done:∀ i c,cs[i]? = some c→listed.getD i false=true→∃ u,a.tmps[c.d]? = some u∧c.T u w
 apart:∀ i j c c',cs[i]? = some c→cs[j]? = some c'→i ≠ j→c.al=true→c'.al=true→listed.getD i false=true→listed.getD j false=true→a.tmps[c.d]? ≠ a.tmps[c'.d]?
 knows:∃ m,m≤N∧Knows (Wf (ss m)) (Hf (ss m)) w∧∀ i,i < N→es.contains i=true→(listed.getD i false=true ↔ i < m)
variable {S0:zW}
variable {S:zW} {G:qQD} {K:σ→zW→qQD→Prop} {o:Oper} {l:List Oper} {d i:Nat} {s:σ}
end
end Go.Sx
namespace Go.Sx
section
variable {P:Program} {n:Nat} {w0:Base} {ops:Array Oper} {Q:Exit→Act→World→Prop} {S:zW} {H:Heap}
variable {d:Option Tmp} {ty:TypeId} {pos:String} {af:Array Edge} {g:Option (Nat × Bool)}
theorem zKH {t:Nat} {x y:Operand} {a i v:Value} (hx:ev S x=some a) (hy:ev S y=some i) (h:∀ w:World,(Instr.index t a i).run P w=.ok v w):OpV P w0 S H ⟨d,.index t x y,ty,pos,af,g⟩ v :=
 zG (by simp [zV,Op.operands,hx,hy]) rfl fun w _=>by simp [execOp,qV hx,qV hy,h w]
end
end Go.Sx
namespace Go.Sx
open Go.RowKit
def zJF (len size:Nat):List (Nat × Nat):=(List.range len).map fun i=>(i * size,size)
def rowZ (zs:List Value):Nat→List Value
 | 0=>[]
 | k + 1=>zs ++ rowZ zs k
theorem zVD {zs:List Value} (hz:0 < zs.length):∀ (len i:Nat),i < len * zs.length→(rowZ zs len)[i]? = zs[i % zs.length]?
 | 0,i,h=>by omega
 | k + 1,i,h=>by
  simp only [rowZ,List.getElem?_append];split
  ·rename_i hlt;rw [Nat.mod_eq_of_lt hlt]
  ·rename_i hge;rw [Nat.add_mul] at h;rw [zVD hz k (i - zs.length) (by omega)]
   congr 1
   exact (Nat.mod_eq_sub_mod (by omega)).symm
theorem qJF (zs:List Value):∀ len,(rowZ zs len).length=len * zs.length
 | 0=>by simp [rowZ]
 | k + 1=>by simp [rowZ,qJF zs k,Nat.add_mul]; omega
section
variable {P:Program} {n:Nat} {w0:Base} {ops:Array Oper} {Q:Exit→Act→World→Prop} {S:zW} {H:Heap}
theorem yXQ (z:Value) (len:Nat) (hz:0 < z.cells.size):(Array.range (len * z.cells.size)).map (z.cells[· % z.cells.size]!)=(rowZ z.cells.toList len).toArray:=by
 apply Array.ext
 ·simp [qJF]
 ·intro i h1 h2;have hlt:i < len * z.cells.toList.length:=by simpa using h1
  have hg:=zVD (zs:=z.cells.toList) (by simpa using hz) len i hlt;have hm:i % z.cells.size < z.cells.size:=Nat.mod_lt _ hz;simp only [Array.getElem_map,Array.getElem_range,List.getElem_toArray];have hlt':i < (rowZ z.cells.toList len).length:=by rw [qJF]; exact hlt
  rw [vQK hlt'] at hg;have e1:z.cells.toList[i % z.cells.toList.length]? = some z.cells[i % z.cells.size]:=by
   simp [hm]
  rw [e1] at hg;rw [Option.some.inj hg];simp [hm]
theorem zHH {t e size len:Nat} {z:Value} {parts:List (Nat × Value)} {cs:List Value} (hs:slcB P t e size=true) (hz:qJH P e z) (hzs:Nat.beq z.cells.size size=true) (h0:Nat.blt 0 size=true) (hl:Nat.ble (len * size) 16777216=true)
  (h1:Nat.blt 0 len=true) (hf:qUB (zJF len size) (rowZ z.cells.toList len) parts=some cs) (w:World) :
  (Instr.buildSlice t len parts.toArray).run P w=.ok (.slice (some ⟨w.heap.size,0,none⟩) len len) (w.alloc (.cells cs.toArray e)):=by
 have hzs':=vQU hzs;subst hzs';have h0':0 < z.cells.size:=by simpa using h0
 have h1':0 < len:=by simpa using h1
 have hl':len * z.cells.size≤16777216:=vZJ hl;have hne:¬ len * z.cells.size=0:=by
  intro e;rcases Nat.mul_eq_zero.1 e with h | h <;> omega
 unfold slcB at hs;cases hu:P.underlying t with
 | none=>simp [hu] at hs
 | some ds =>
  cases ds <;> simp [hu] at hs
  rename_i e';obtain ⟨rfl,h2⟩:=hs;cases hi:P.info? e' with
  | none=>simp [hi] at h2
  | some inf =>
   simp [hi] at h2;have hfill:=zYC (place:=fun i=>some (i * z.cells.size,z.cells.size)) (pl:=zJF len z.cells.size) (fun i x hx=>by
    simp only [zJF,vQH,vZK] at hx;obtain ⟨j,hj,rfl⟩:=hx
    have:=(List.getElem?_eq_some_iff.1 hj)
    simp at this;simp [this.2]) parts (rowZ z.cells.toList len) cs hf
   rw [← yXQ z len h0'] at hfill;have hsz:(sizeOf e').run P w=.ok z.cells.size w:=by simp [sizeOf,typeInfo,hi,h2]
   simp only [Instr.buildSlice,Sem.run_bind,run_underlying hu,Result.andThen_ok,hsz,Sem.run_ite];rw [if_neg (by omega)];simp only [Sem.run_pure,Result.andThen_ok,if_neg hne,zZZ hz,Sem.run_bind];simp [hfill,newRow,hne,zZZ hz]
variable {d:Nat} {ty:TypeId} {pos:String} {af:Array Edge} {g:Option (Nat × Bool)}
end
end Go.Sx
namespace Go.Sx
open Go.RowKit
structure IntsAt (w:World) (m:Nat) (sl:Value) (L:List Int):Prop where
 len:L.length≤9223372036854775807
 slice:∃ a cap,sl=.slice a L.length cap∧∀ j,j < L.length→∃ b off,a=some ⟨b,off,none⟩∧b < m∧w.cell? ⟨b,off + j,none⟩=some (.int .i64 (L.getD j 0))
def srcC (sl:Value) (L:List Int) (i:Nat):List Value:=[sl,.int .i64 ((min i L.length:Nat):Int)]
def srcW (w:World) (b:Nat) (sl:Value) (L:List Int) (i:Nat):World:=w.setRow b (srcC sl L i).toArray
structure SrcQ (w:World) (b:Nat) (sl:Value) (L:List Int) (i:Nat):Prop where
 blk:∃ ty,w.heap[b]? = some (.cells (srcC sl L i).toArray ty)
 ints:IntsAt w b sl L
theorem SrcQ.lt {w:World} {b:Nat} {sl:Value} {L:List Int} {i:Nat} (h:SrcQ w b sl L i):b < w.heap.size:=by
 obtain ⟨ty,h⟩:=h.blk;exact qQW h
theorem IntsAt.mono {w w':World} {m m':Nat} {sl:Value} {L:List Int} (h:IntsAt w m sl L) (_:m≤m') (hw:∀ k,k < m→w'.heap[k]? = w.heap[k]?):IntsAt w' m' sl L:=by
 obtain ⟨h1,a,cap,h2,h3⟩:=h;refine ⟨h1,a,cap,h2,fun j hj => ?_⟩;obtain ⟨b,off,e,hb,hc⟩:=h3 j hj;refine ⟨b,off,e,by omega,?_⟩;rw [← hc];exact World.cell?_of_block (w:=w) (hw b hb)
theorem SrcQ.w {w:World} {b:Nat} {sl:Value} {L:List Int} {i:Nat} (h:SrcQ w b sl L i) (j:Nat):SrcQ (srcW w b sl L j) b sl L j:=by
 obtain ⟨⟨ty,hb⟩,hi⟩:=h;exact ⟨⟨ty,setRow_heap w b _ _ ty _ hb⟩,hi.mono (Nat.le_refl _) fun k hk=>setRow_other w b k _ (by omega)⟩
theorem SrcQ.grow {w w':World} {b:Nat} {sl:Value} {L:List Int} {i:Nat} (h:SrcQ w b sl L i) (g:Grow w w'):SrcQ w' b sl L i:=by
 have hlt:=h.lt;obtain ⟨⟨ty,hb⟩,hi⟩:=h;exact ⟨⟨ty,by rw [g.block b hlt]; exact hb⟩,hi.mono (Nat.le_refl _) fun k hk=>g.block k (by omega)⟩
def Base.setRow (B:Base) (b:Nat) (cs:Array Value):Base:=⟨B.w.setRow b cs,B.R⟩
section
variable {P:Program} {n:Nat} {w0:Base} {ops:Array Oper} {Q:Exit→Act→World→Prop} {S:zW} {H:Heap}
variable {d:Nat} {ty:TypeId} {pos:String} {af:Array Edge} {g:Option (Nat × Bool)}
theorem zKV {dd:Option Tmp} {x:Operand} {a:Addr} (hx:ev S x=some (.pointer (some a))):OpV P w0 S H ⟨dd,.nilCheck x,ty,pos,af,g⟩ (.pointer (some a)) :=
 zG (by simp [zV,Op.operands,hx]) rfl fun w _=>by simp [execOp,qV hx]
theorem jZK {t:TypeId} {p q:Bool} (hb:P.underlying t=some .bool) (w:World):(Op.equal t (.bool p) (.bool q)).run P w=.ok (p == q) w:=by
 unfold Op.equal;rw [show Op.maxDepth=9999 + 1 from rfl,Op.equalIn];simp [run_underlying hb]
theorem yWJ {dd:Option Tmp} {x y:Operand} {t t':TypeId} {p q:Bool} (hb:P.underlying t=some .bool) (hx:ev S x=some (.bool p)) (hy:ev S y=some (.bool q)):OpV P w0 S H ⟨dd,.binOp .eql t x y t',ty,pos,af,g⟩ (.bool (p == q)) :=
 zG (by simp [zV,Op.operands,hx,hy]) rfl fun w _=>by simp [execOp,qV hx,qV hy,eqGuard,binOp,jZK hb]
variable {α:Type} {F:α→Value} {x:α} {f:FuncId} {xs:List Operand} {ats:Array TypeId} {vs:List Value} {rest:List Oper}
variable {B:Base} {b i0 i j:Nat} {sl:Value} {L:List Int}
end
end Go.Sx
namespace Go.Sx
open Go.RowKit Go.ChangeShapes Go.WideShapes
section
variable {P:Program} {W:World} {H:Type} {enc:TypeId × Value→H}
theorem yXX {t e:TypeId} {v:Value} (ht:P.underlying t=some (.slice e)) {r:Reach} {base:Nat} (h:Value.okWide P W r base t v):∃ a l c,v=.slice a l c:=by
 simp only [Value.okWide,ht,Cell.okWide] at h;cases v <;> simp [Cell.ok,ht] at h
 exact ⟨_,_,_,rfl⟩
end
end Go.Sx
namespace Go.Sx
open Go.RowKit
section
variable {P:Program} {n:Nat} {w0:Base} {ops:Array Oper} {Q:Exit→Act→World→Prop} {S:zW} {H:Heap}
variable {d:Nat} {ty:TypeId} {pos:String} {af:Array Edge} {g:Option (Nat × Bool)}
theorem zKG {dd:Option Tmp} {fn:Fn} {xs ys:List Operand} {vs us:List Value} (h1:evs S xs=some vs) (h2:evs S ys=some us) :
  OpV P w0 S H ⟨dd,.makeFunc fn xs.toArray ys.toArray,ty,pos,af,g⟩ (.func fn vs.toArray us.toArray):=by
 obtain ⟨e1,k1⟩:=qUC h1;obtain ⟨e2,k2⟩:=qUC h2;refine zG ?_ rfl fun w _ => ?_
 ·simp only [zV,Op.operands];rw [Array.all_eq_true_iff_forall_mem];intro x hx;simp at hx;rcases hx with hx | hx
  ·exact k1 x hx
  ·exact k2 x hx
 ·simp [execOp,Instr.makeFunc,e1,e2]
variable {f:FuncId} {xs:List Operand} {ats:Array TypeId} {vs:List Value} {rest:List Oper}
variable {K:zW→qQD→Prop} {G:qQD}
end
end Go.Sx
namespace Go.Sx
open Go.RowKit
abbrev zVV:=List (Nat × (Nat→Prop) × (World→Prop))
def yZQ:zVV→Nat→Option ((Nat→Prop) × (World→Prop))
 | [],_=>none
 | (k,x) :: R,i=>bif Nat.beq k i then some x else yZQ R i
def updR:zVV→Nat→(Nat→Prop)→(World→Prop)→Option zVV
 | [],_,_,_=>none
 | (k,x) :: R,i,D,F=>bif Nat.beq k i then some ((k,D,F) :: R) else qKX (k,x) (updR R i D F)
theorem zJY {R R':zVV} {i:Nat} {D:Nat→Prop} {F:World→Prop} (h:updR R i D F=some R'):∃ R1 R2 k x,R=R1 ++ (k,x) :: R2∧R'=R1 ++ (k,D,F) :: R2∧yZQ R i=some x:=by
 induction R generalizing R' with
 | nil=>cases h
 | cons y R ih =>
  obtain ⟨k,y⟩:=y;simp only [updR] at h;cases hb:Nat.beq k i with
  | true=>rw [hb] at h; simp at h; subst h; exact ⟨[],R,k,y,rfl,rfl,by simp [yZQ,hb]⟩
  | false =>
   rw [hb] at h;obtain ⟨R2,h2,rfl⟩:=kX h;obtain ⟨A,B,k',x,e1,e2,e3⟩:=ih h2;exact ⟨(k,y) :: A,B,k',x,by rw [e1]; rfl,by rw [e2]; rfl,by simp [yZQ,hb,e3]⟩
def Holds (w0:Base) (F:World→Prop):Prop:=∀ (H:Heap) (w:World),Knows w0 H w→F w
theorem Knows.forget {w1:World} {x:Nat × (Nat→Prop) × (World→Prop)} {R:zVV} {H:Heap} {w:World} (k:Knows ⟨w1,x :: R⟩ H w):Knows ⟨w1,R⟩ H w :=
 ⟨k.grow,k.has,k.nodup,fun y hy=>k.facts y (vQV _ hy),(List.pairwise_cons.1 k.apart).2⟩
theorem Holds.more {w0:Base} {F:World→Prop} (h:Holds w0 F) (x:Nat × (Nat→Prop) × (World→Prop)):Holds ⟨w0.w,x :: w0.R⟩ F:=fun H w k=>h H w k.forget
theorem Holds.imp {w0:Base} {F G:World→Prop} (h:Holds w0 F) (hi:∀ w,F w→G w):Holds w0 G:=fun H w k=>hi w (h H w k)
section
variable {P:Program} {n:Nat} {w0:Base} {ops:Array Oper} {Q:Exit→Act→World→Prop} {S:zW} {H:Heap}
variable {d:Nat} {ty:TypeId} {pos:String} {af:Array Edge} {g:Option (Nat × Bool)}
variable {f:FuncId} {xs:List Operand} {ats:Array TypeId} {vs:List Value} {rest:List Oper} {X:Type} {Φ:X→Prop} {V:X→Value} {F:X→World→Prop}
variable {B:Base} {b i0 i j:Nat} {sl:Value} {L:List Int}
def ownD (a:Option Addr):Nat→Prop:=fun k=>∃ ad,a=some ad∧ad.block=k
def OwnF (m:Nat) (e:TypeId) (size:Nat) (a:Option Addr) (cap k:Nat) (ys:List Value):World→Prop:=fun w=>w.ownsRow m e size (.slice a k cap) k ys
theorem jZI (m:Nat) (e:TypeId) (size:Nat) (a:Option Addr) (cap k:Nat) (ys:List Value):qXI (ownD a) (OwnF m e size a cap k ys):=fun w w' h hF=>by
 obtain ⟨h1,h2⟩:=hF;refine ⟨h1,?_⟩;rcases h2 with h2 | ⟨gg,cp,cur,hv,h3,h4,h5⟩
 ·exact .inl h2
 ·refine .inr ⟨gg,cp,cur,hv,h3,?_,h5⟩;simp only [Value.slice.injEq] at hv;rw [h gg ⟨_,hv.1,rfl⟩];exact h4
def appB (P:Program) (t e size bytes:Nat):Bool :=
 match P.underlying t,P.info? e with
 | some (.slice e'),some i=>e' == e && i.size == size && i.bytes == bytes && Nat.blt 0 size && (match i.zero with | some z=>z.cells.size == size | none=>false)
 | _,_=>false
theorem qYV {w:World} {t e size bytes base:Nat} {ty:TypeId} (hB:appB P t e size bytes=true) {v:Value} {k:Nat} {ys:List Value} (hown:w.ownsRow base e size v k ys)
  {ad:Addr} {m c:Nat} {news:List Value} (hm:0 < m) (hl:news.length=m * size) (hnews:∀ j u,news[j]? = some u→w.cell? (ad.add j)=some u) (h1:∀ u ∈ news,u.oneCell'=true)
  (h63:k + m≤9223372036854775807) (hby:(k + m) * bytes≤140737488355328) (hbase:base≤w.heap.size) :
  ∃ gg cap w',(Builtin.append_ #[t,t] ty #[v,.slice (some ad) m c]).run P w=.ok (.slice (some ⟨gg,0,none⟩) (k + m) cap) w'∧w'.ownsRow base e size (.slice (some ⟨gg,0,none⟩) (k + m) cap) (k + m) (ys ++ news)∧w.grownBy w' v.ownBlock ∧
   (v.ownBlock=some gg ∨ w.heap.size≤gg):=by
 unfold appB at hB;cases hu:P.underlying t with
 | none=>simp [hu] at hB
 | some ds =>
  cases ds <;> simp [hu] at hB
  rename_i e';cases hi:P.info? e with
  | none=>simp [hi] at hB
  | some i =>
   simp [hi] at hB;obtain ⟨⟨⟨⟨rfl,h2⟩,h3⟩,h4⟩,h5⟩:=hB;cases hz:i.zero with
   | none=>simp [hz] at h5
   | some z =>
    simp [hz] at h5;have hmax:maxLen=9223372036854775807:=rfl;obtain ⟨v',w',hr,ho,hg,hiff⟩:=run_append_own (P:=P) w base t ty e' i z size bytes hu hi hz h2 h3 h5 h4 v k ys hown ad m c news hl hnews h1 (by omega) hby hbase;rcases ho.2 with ⟨rfl,h0⟩ | ⟨gg,cap,cur,rfl,hbg,hgg,_⟩
    ·omega
    ·refine ⟨gg,cap,w',hr,ho,hg,?_⟩;rcases Nat.lt_or_ge gg w.heap.size with hlt | hge
     ·left
      -- the block lay there before: it is the slice's own
      subst h2;rcases hown.2 with ⟨rfl,hk0⟩ | ⟨g0,cap0,cur0,rfl,hb0,hg0,hkc,hcm,hcs,htake⟩
      ·exfalso;have hr2:=run_append_nil (P:=P) w t ty e' i z hu hi hz ad m c news hl hnews hm (by omega) (by have:=hby; subst hk0; subst h3; rw [Nat.zero_add] at this; omega);rw [hr] at hr2;simp only [Result.ok.injEq,Value.slice.injEq,vQZ,Addr.mk.injEq] at hr2;omega
      ·by_cases hroom:k + m≤cap0
       ·have hfit:k * i.size + news.length≤cur0.size:=by rw [hl,hcs,← Nat.add_mul]; exact Nat.mul_le_mul_right _ hroom
        have hr2:=run_append_room (P:=P) w t ty e' i hu hi g0 k cap0 cur0 hg0 ad m c news hl hnews h1 hroom hfit;rw [hr] at hr2;simp only [Result.ok.injEq,Value.slice.injEq,vQZ,Addr.mk.injEq] at hr2;simp [Value.ownBlock,hr2.1.1.1]
       ·exfalso;have holds:∀ j u,ys[j]? = some u→w.cell? ((⟨g0,0,none⟩:Addr).add j)=some u:=hown.cells (g:=g0) rfl;subst h3;have hr2:=run_append_grow (P:=P) w t ty e' i z hu hi hz ⟨g0,0,none⟩ k cap0 ys hown.1 holds ad m c news hl hnews (by omega) (by omega) (growslice_fits (by omega) hby);rw [hr] at hr2;simp only [Result.ok.injEq,Value.slice.injEq,vQZ,Addr.mk.injEq] at hr2;omega
     ·exact .inr hge
theorem Knows.append {w w':World} {R':zVV} {id e size cap cap' k m gg:Nat} {a:Option Addr} {ys news:List Value} (hk:Knows w0 H w) (hR:yZQ w0.R id=some (ownD a,OwnF 0 e size a cap k ys))
  (ho:w'.ownsRow 0 e size (.slice (some ⟨gg,0,none⟩) (k + m) cap') (k + m) (ys ++ news)) (hg:w.grownBy w' (Value.slice a k cap).ownBlock)
  (hgg:(Value.slice a k cap).ownBlock=some gg ∨ w.heap.size≤gg) (hu:updR w0.R id (ownD (some ⟨gg,0,none⟩)) (OwnF 0 e size (some ⟨gg,0,none⟩) cap' (k + m) (ys ++ news))=some R'):Knows ⟨w0.w,R'⟩ H w':=by
 obtain ⟨R1,R2,kk,x,e1,e2,e3⟩:=zJY hu;rw [hR] at e3;cases e3;have hmem:(kk,ownD a,OwnF 0 e size a cap k ys) ∈ w0.R:=by rw [e1]; simp
 have hfa:=hk.facts _ hmem;have blk:∀ q,(Value.slice a k cap).ownBlock=some q→ownD a q:=fun q hq=>by
  cases a with
  | none=>simp [Value.ownBlock] at hq
  | some ad=>simp [Value.ownBlock] at hq; exact ⟨ad,rfl,hq⟩
 have hlow:∀ q,q < w.heap.size→¬ ownD a q→w'.heap[q]? = w.heap[q]?:=fun q hq hn=>hg.block q hq fun e=>hn (blk q e.symm)
 have hgt:gg < w'.heap.size:=by
  rcases ho.2 with ⟨h,_⟩ | ⟨g',c',cur,h,_,h4,_⟩
  ·simp at h
  ·simp only [Value.slice.injEq,vQZ,Addr.mk.injEq,and_true] at h;rw [h.1];exact qQW h4
 have hgm:w0.w.heap.size≤gg:=by
  rcases hgg with h | h
  ·exact (hfa.at' gg (blk gg h)).1
  ·exact Nat.le_trans hk.grow.size h
 have hap:=hk.apart;rw [e1] at hap;have hap1:=List.pairwise_append.1 hap;have hap2:=List.pairwise_cons.1 hap1.2.1
 -- the new block is none of another fact's
 have others:∀ y ∈ R1 ++ R2,¬ y.2.1 gg:=fun y hy hd=>by
  have hy0:y ∈ w0.R:=by
   rw [e1];rcases List.mem_append.1 hy with h | h
   ·exact List.mem_append_left _ h
   ·exact List.mem_append_right _ (vQV _ h)
  rcases hgg with h | h
  ·rcases List.mem_append.1 hy with h' | h'
   ·exact hap1.2.2 y h' _ vQG gg hd (blk gg h)
   ·exact hap2.1 y h' gg (blk gg h) hd
  ·have:=((hk.facts y hy0).at' gg hd).2.1
   omega
 have keepF:∀ y ∈ R1 ++ R2,RFact w0.w.heap.size H y.2.1 y.2.2 w':=fun y hy=>by
  have hy0:y ∈ w0.R:=by
   rw [e1];rcases List.mem_append.1 hy with h | h
   ·exact List.mem_append_left _ h
   ·exact List.mem_append_right _ (vQV _ h)
  obtain ⟨q1,q2,q3⟩:=hk.facts y hy0;refine ⟨q1,fun q hq=>⟨(q2 q hq).1,vZZ (q2 q hq).2.1 hg.size,(q2 q hq).2.2⟩,q1 w w' (fun q hq=>hlow q (q2 q hq).2.1 fun ho' => ?_) q3⟩;rcases List.mem_append.1 hy with h' | h'
  ·exact hap1.2.2 y h' _ vQG q hq ho'
  ·exact hap2.1 y h' q ho' hq
 refine ⟨⟨hg.os.trans hk.grow.os,hg.tape.trans hk.grow.tape,hg.output.trans hk.grow.output,Nat.le_trans hk.grow.size hg.size,fun q hq => ?_⟩,fun y hy=>⟨(hk.has y hy).1,?_⟩,hk.nodup,fun y hy => ?_,?_⟩
 ·have hq':q < w0.w.heap.size:=hq;rw [hlow q (vZZ hq' hk.grow.size) fun hd=>by have:=(hfa.at' q hd).1; omega];exact hk.grow.block q hq'
 ·rw [hlow _ (qQW (hk.has y hy).2) fun hd=>(hfa.at' _ hd).2.2 y hy rfl];exact (hk.has y hy).2
 ·rw [show (⟨w0.w,R'⟩:Base).R=R' from rfl,e2] at hy;rcases List.mem_append.1 hy with h | h
  ·exact keepF y (List.mem_append_left _ h)
  ·rcases List.mem_cons.1 h with rfl | h
   ·refine ⟨jZI _ _ _ _ _ _ _,fun q ⟨ad,had,hq⟩ => ?_,ho⟩;simp only [vQZ] at had;subst had;simp only at hq;subst hq;refine ⟨hgm,hgt,fun y hy e => ?_⟩;rcases hgg with h | h
    ·exact (hfa.at' gg (blk gg h)).2.2 y hy e
    ·have:=hk.lt y hy
     omega
   ·exact keepF y (List.mem_append_right _ h)
 ·show R'.Pairwise _;rw [e2];refine List.pairwise_append.2 ⟨hap1.1,List.pairwise_cons.2 ⟨fun y hy q ⟨ad,had,hq⟩ hd => ?_,hap2.2⟩,fun y hy z hz q hyq hzq => ?_⟩
  ·simp only [vQZ] at had;subst had;simp only at hq;subst hq;exact others y (List.mem_append_right _ hy) hd
  ·rcases List.mem_cons.1 hz with rfl | hz
   ·obtain ⟨ad,had,hq⟩:=hzq;simp only [vQZ] at had;subst had;simp only at hq;subst hq;exact others y (List.mem_append_left _ hy) hyq
   ·exact hap1.2.2 y hy z (vQV _ hz) q hyq hzq
def AllIn (S:zW):zW→Prop
 | []=>True
 | (t,v) :: r=>look S t=some v∧AllIn S r
theorem Fits.all {S':zW} {a:Act} (f:Fits n S a) (h:AllIn S S'):Fits n S' a:=by
 refine ⟨f.size,f.defers,fun t v ht=>f.has t v ?_⟩;induction S' with
 | nil=>cases ht
 | cons x S' ih =>
  obtain ⟨k,u⟩:=x;by_cases e:k=t
  ·subst e;rw [uW] at ht;cases ht;exact h.1
  ·rw [qQZ _ _ e] at ht;exact ih h.2 ht
def jQJ (H:Heap):Heap→Prop
 | []=>True
 | (k,x) :: r=>qVZ H k=some x∧jQJ H r
theorem zGJ {H:Heap} {i:Nat} {x:Nat × List Value × TypeId} (h:qVZ H i=some x):(i,x) ∈ H:=by
 induction H with
 | nil=>cases h
 | cons y H ih =>
  obtain ⟨k,y⟩:=y;simp only [qVZ] at h;cases hb:Nat.beq k i with
  | true =>
   rw [hb] at h; simp at h; subst h;rw [vQU hb];exact vQG
  | false=>rw [hb] at h; simp at h; exact vQV _ (ih h)
theorem yJE:∀ {H:Heap},(H.map (·.2.1)).Nodup→∀ p ∈ H,∀ q ∈ H,p.2.1=q.2.1→p=q:=by
 intro H;induction H with
 | nil=>intro _ p hp; cases hp
 | cons z H ih =>
  intro nd p hp q hq e;rw [List.map_cons,List.nodup_cons] at nd;rcases List.mem_cons.1 hp with p1 | p1
  ·rcases List.mem_cons.1 hq with q1 | q1
   ·rw [p1,q1]
   ·exact absurd (List.mem_map.2 ⟨q,q1,by rw [← e,p1]⟩) nd.1
  ·rcases List.mem_cons.1 hq with q1 | q1
   ·exact absurd (List.mem_map.2 ⟨p,p1,by rw [e,q1]⟩) nd.1
   ·exact ih nd.2 p p1 q q1 e
def idsB:Heap→Bool
 | []=>true
 | (k,_) :: r => !(r.any fun x=>Nat.beq x.1 k) && idsB r
theorem Knows.all {w:World} {H':Heap} (k:Knows w0 H w) (h:jQJ H H') (hp:idsB H'=true):Knows w0 H' w:=by
 have hm:∀ x ∈ H',qVZ H x.1=some x.2:=by
  clear hp
  induction H' with
  | nil=>intro x hx; cases hx
  | cons z H' ih =>
   intro x hx;rcases List.mem_cons.1 hx with rfl | hx
   ·exact h.1
   ·exact ih h.2 x hx
 have nd:(H'.map (·.2.1)).Nodup:=by
  clear h
  induction H' with
  | nil=>exact List.nodup_nil
  | cons z H' ih =>
   obtain ⟨kz,z⟩:=z;simp only [idsB,vQJ,Bool.not_eq_true'] at hp;rw [List.map_cons,List.nodup_cons];refine ⟨fun hz => ?_,ih hp.2 fun x hx=>hm x (vQV _ hx)⟩;obtain ⟨y,hy,he⟩:=List.mem_map.1 hz;have h1:=zGJ (hm _ vQG);have h2:=zGJ (hm _ (vQV _ hy));have h3:=yJE k.nodup _ h2 _ h1 he;have h4:y.1=kz:=congrArg Prod.fst h3;have h5:=List.any_eq_false.1 hp.1 y hy;rw [h4] at h5;simp at h5
 refine ⟨k.grow,fun x hx => ?_,nd,fun F hF=>(k.facts F hF).heap fun x hx => ?_,k.apart⟩
 ·obtain ⟨kx,b,cs,t⟩:=x;exact k.at (hm _ hx)
 ·obtain ⟨l,hl⟩:=qUX (hm x hx);exact .inl ⟨_,hl,rfl⟩
theorem AllIn.app {A C:zW} (h:AllIn S A) (h':AllIn S C):AllIn S (A ++ C):=by
 induction A with
 | nil=>exact h'
 | cons x A ih=>exact ⟨h.1,ih h.2⟩
theorem Told.imp {m:Nat} {D:Nat→Prop} {F G:World→Prop} {w:World} (hD:qXI D G) (hb:∀ q,D q→m≤q∧q < w.heap.size) (h:G w):Told m G w:=⟨D,hD,hb,h⟩
end
end Go.Sx
namespace Go.Sx
open Go.RowKit
def zXY (sz:Nat) (a:Option Addr) (rows:List (List Value)) (w:World):Prop :=
 ∀ j r,rows[j]? = some r→r.length=sz∧∃ b off,a=some ⟨b,off,none⟩∧b < w.heap.size∧∀ k,k < sz→w.cell? ⟨b,off + j * sz + k,none⟩=r[k]?
theorem qUH {sz:Nat}:∀ (rows:List (List Value)),(∀ r ∈ rows,r.length=sz)→∀ j r,rows[j]? = some r→∀ k,k < sz→rows.flatten[j * sz + k]? = r[k]?
 | [],_,j,r,hj,_,_=>by simp at hj
 | q :: rows,hs,0,r,hj,k,hk=>by
  simp at hj;subst hj
  have:=hs q vQG
  simp only [List.flatten_cons,Nat.zero_mul,Nat.zero_add];rw [List.getElem?_append_left (by omega)]
 | q :: rows,hs,j + 1,r,hj,k,hk=>by
  simp only [List.getElem?_cons_succ] at hj;have hq:=hs q vQG
  have:=qUH rows (fun r hr=>hs r (vQV _ hr)) j r hj k hk
  simp only [List.flatten_cons];rw [List.getElem?_append_right (by rw [hq,Nat.add_mul]; omega),← this]
  congr 1
  rw [hq,Nat.add_mul];omega
theorem zZG {m e sz cap:Nat} {a:Option Addr} {rows:List (List Value)} {w:World} (hs:∀ r ∈ rows,r.length=sz) (h:OwnF m e sz a cap rows.length rows.flatten w):zXY sz a rows w:=fun j r hj=>by
 have hlt:=(List.getElem?_eq_some_iff.1 hj).1;have hr:=hs r (vQW hj);refine ⟨hr,?_⟩;rcases h.2 with ⟨h1,h2⟩ | ⟨gg,cp,cur,hv,hm,hg,hc1,hc2,hcs,htake⟩
 ·omega
 ·simp only [Value.slice.injEq] at hv;refine ⟨gg,0,hv.1,qQW hg,fun k hk => ?_⟩;have hlt2:j * sz + k < rows.length * sz:=by
   have h1:=Nat.mul_le_mul_right sz (show j + 1≤rows.length by omega);rw [Nat.add_mul] at h1;omega
  rw [← qUH rows hs j r hj k hk,← htake,vZU,if_pos hlt2];simp [World.cell?,hg]
section
variable {P:Program} {n:Nat} {w0:Base} {ops:Array Oper} {Q:Exit→Act→World→Prop} {S:zW} {H:Heap}
variable {d:Option Tmp} {ty:TypeId} {pos:String} {af:Array Edge} {g:Option (Nat × Bool)}
variable {sz:Nat} {a:Option Addr} {rows:List (List Value)} {r:List Value}
variable {X:Type} {Φ:X→Prop} {V:X→Value} {F:X→World→Prop}
end
end Go.Sx
namespace Go.Sx
open Go.RowKit
section
variable {P:Program} {n:Nat} {w0:Base} {ops:Array Oper} {Q:Exit→Act→World→Prop} {S:zW} {H:Heap}
variable {d:Nat} {ty:TypeId} {pos:String} {af:Array Edge} {g:Option (Nat × Bool)}
variable {X:Type} {Φ:X→Prop} {V:X→Value} {F:X→World→Prop}
variable {f:FuncId} {xs:List Operand} {ats:Array TypeId} {vs:List Value} {rest:List Oper} {G:qQD}
variable {σ:Type} {b:Nat→Prop} {w1:Base} {H0:Heap} {Wf:σ→Base} {Hf:σ→Heap} {es:List Nat} {K:σ→zW→qQD→Prop} {ix:Nat} {s s2:σ}
theorem Yields.mono {w:World} {T T':Pred} {r:Result Next} (h:Yields P w T r) (hT:∀ v w',Grow w w'→T v w'→T' v w'):Yields P w T' r:=by
 cases r with
 | ok x w' =>
  cases x <;> simp only [Yields] at h ⊢
  case value v=>exact ⟨h.1,hT v w' h.1 h.2⟩
  case skip=>exact ⟨h.1,hT undef w' h.1 h.2⟩
  case enter ff args=>exact ⟨h.1,h.2.mono fun e w'' ⟨v,h1,h2,h3⟩=>⟨v,h1,h2,hT v w'' (h.1.trans h2) h3⟩⟩
 | halt x w'=>simp only [Yields] at h
variable {tl:List Oper} {Fw:World→Prop}
variable {B:Base} {sb si:Nat} {sl:Value} {L:List Int}
end
end Go.Sx
namespace Go.Sx
open Go.RowKit
section
variable {P:Program} {n:Nat} {w0:Base} {ops:Array Oper} {Q:Exit→Act→World→Prop} {S:zW} {H:Heap}
variable {d:Nat} {ty:TypeId} {pos:String} {af:Array Edge} {g:Option (Nat × Bool)} {rest:List Oper}
theorem Knows.swap {w w':World} {R':zVV} {id:Nat} {D D':Nat→Prop} {F F':World→Prop} (hk:Knows w0 H w) (hR:yZQ w0.R id=some (D,F)) (hg:GrowB D w w') (hD:∀ q,D' q→D q)
  (hd:qXI D' F') (hF:F' w') (hu:updR w0.R id D' F'=some R'):Knows ⟨w0.w,R'⟩ H w':=by
 obtain ⟨R1,R2,kk,x,e1,e2,e3⟩:=zJY hu;rw [hR] at e3;cases e3;have hmem:(kk,D,F) ∈ w0.R:=by rw [e1]; simp
 have hfa:=hk.facts _ hmem;have hap:=hk.apart;rw [e1] at hap;have hap1:=List.pairwise_append.1 hap;have hap2:=List.pairwise_cons.1 hap1.2.1;have other:∀ y ∈ w0.R,(∀ q,y.2.1 q→¬ D q)→RFact w0.w.heap.size H y.2.1 y.2.2 w':=fun y hy hn=>by
  have hy2:=hk.facts y hy;exact ⟨hy2.dep,fun q hq=>⟨(hy2.at' q hq).1,vZZ (hy2.at' q hq).2.1 hg.size,(hy2.at' q hq).2.2⟩,hy2.dep w w' (fun q hq=>hg.block q (hy2.at' q hq).2.1 (hn q hq)) hy2.holds⟩
 refine ⟨⟨hg.os.trans hk.grow.os,hg.tape.trans hk.grow.tape,hg.output.trans hk.grow.output,Nat.le_trans hk.grow.size hg.size,fun q hq => ?_⟩,fun y hy => ?_,hk.nodup,fun y hy => ?_,?_⟩
 ·rw [hg.block q (vZZ hq hk.grow.size) fun h=>absurd (hfa.at' q h).1 (Nat.not_le_of_lt hq)];exact hk.grow.block q hq
 ·have h1:=hk.has y hy;exact ⟨h1.1,by rw [hg.block _ (qQW h1.2) fun h=>(hfa.at' _ h).2.2 y hy rfl]; exact h1.2⟩
 ·have hy':y ∈ R1 ++ (kk,D',F') :: R2:=by rw [← e2]; exact hy
  rcases List.mem_append.1 hy' with h | h
  ·exact other y (by rw [e1]; exact List.mem_append_left _ h) fun q hq=>hap1.2.2 y h _ vQG q hq
  ·rcases List.mem_cons.1 h with rfl | h
   ·exact ⟨hd,fun q hq=>⟨(hfa.at' q (hD q hq)).1,vZZ (hfa.at' q (hD q hq)).2.1 hg.size,(hfa.at' q (hD q hq)).2.2⟩,hF⟩
   ·exact other y (by rw [e1]; exact List.mem_append_right _ (vQV _ h)) fun q hq hD2=>hap2.1 y h q hD2 hq
 ·show R'.Pairwise _;rw [e2];refine List.pairwise_append.2 ⟨hap1.1,List.pairwise_cons.2 ⟨fun y hy q hq=>hap2.1 y hy q (hD q hq),hap2.2⟩,fun y hy z hz q hq => ?_⟩;rcases List.mem_cons.1 hz with rfl | hz
  ·exact fun h=>hap1.2.2 y hy _ vQG q hq (hD q h)
  ·exact hap1.2.2 y hy z (vQV _ hz) q hq
theorem zHG (w:World) (o:Obj):(newObj o).run P w=.ok w.heap.size (w.alloc o):=rfl
theorem qGY {w:World} {b p:Nat} {s:ByteArray} (h:w.heap[b]? = some (.stringIter s p)):(getObj b).run P w=.ok (.stringIter s p) w:=by
 unfold getObj;simp [Sem.run,h]
theorem zXG {w:World} {b p:Nat} {s:ByteArray} (o:Obj) (h:w.heap[b]? = some (.stringIter s p)):(setObj b o).run P w=.ok () { w with heap:=w.heap.setIfInBounds b o }:=by
 unfold setObj;simp [Sem.run,h]
theorem zJH {w:World} {b:Nat} {o:Obj}:GrowB (· = b) w { w with heap:=w.heap.setIfInBounds b o } :=
 ⟨rfl,rfl,rfl,by simp,fun k _ hk=>by simp [Array.getElem?_setIfInBounds_ne (Ne.symm hk)]⟩
end
end Go.Sx
namespace Go.Sx
open Go.RowKit
theorem rows_len {sz:Nat}:∀ (rows:List (List Value)),(∀ r ∈ rows,r.length=sz)→rows.flatten.length=rows.length * sz
 | [],_=>by simp
 | r :: rows,h=>by
  rw [List.flatten_cons,List.length_append,h r vQG,rows_len rows fun x hx=>h x (vQV _ hx),vQX,Nat.add_mul];omega
theorem zZK {sz:Nat}:∀ (rows:List (List Value)) (j:Nat) (vs:List Value),(∀ r ∈ rows,r.length=sz)→j < rows.length→vs.length=sz →
  (rows.set j vs).flatten=rows.flatten.take (j * sz) ++ vs ++ rows.flatten.drop (j * sz + sz)
 | [],j,vs,_,hj,_=>by simp at hj
 | r :: rows,0,vs,h,_,hv=>by
  have hr:=h r vQG;simp only [List.set_cons_zero,List.flatten_cons,Nat.zero_mul,List.take_zero,List.nil_append,Nat.zero_add];rw [← hr,List.drop_left]
 | r :: rows,j + 1,vs,h,hj,hv=>by
  have hr:=h r vQG;have ih:=zZK rows j vs (fun x hx=>h x (vQV _ hx)) (by simpa using hj) hv;simp only [List.set_cons_succ,List.flatten_cons];rw [ih,show (j + 1) * sz=r.length + j * sz by rw [Nat.add_mul,hr]; omega,List.take_length_add_append,Nat.add_assoc,List.drop_length_add_append]
  simp
section
variable {P:Program} {n:Nat} {w0:Base} {ops:Array Oper} {Q:Exit→Act→World→Prop} {S:zW} {H:Heap}
variable {ty:TypeId} {pos:String} {af:Array Edge} {g:Option (Nat × Bool)} {rest:List Oper}
end
end Go.Sx
namespace Go.Sx
open Go.RowKit
theorem zUU {zs:List Value} {sz m:Nat} (hz:zs.length=sz) (h0:0 < sz):madeCells zs.toArray (m * sz)=(List.replicate m zs).flatten.toArray:=by
 have hall:∀ r ∈ List.replicate m zs,r.length=sz:=fun r hr=>by rw [List.eq_of_mem_replicate hr,hz]
 have hlen:=rows_len (sz:=sz) (List.replicate m zs) hall;rw [List.length_replicate] at hlen;apply Array.ext
 ·rw [size_madeCells]; simp only [List.size_toArray]; exact hlen.symm
 ·intro k h1 h2;rw [size_madeCells] at h1;have hd:k / sz < m:=(Nat.div_lt_iff_lt_mul h0).2 h1;have hm:=Nat.mod_lt k h0;have hg:=qUH (sz:=sz) (List.replicate m zs) hall (k / sz) zs (by simp [hd]) (k % sz) hm;rw [show k / sz * sz + k % sz=k by rw [Nat.mul_comm]; exact Nat.div_add_mod k sz] at hg;have e1:(madeCells zs.toArray (m * sz))[k]? = zs[k % sz]?:=by
   simp only [madeCells,Array.getElem?_map,List.size_toArray,hz];rw [Array.getElem?_range,if_pos h1];simp [hz,hm]
  have e2:(List.replicate m zs).flatten.toArray[k]? = zs[k % sz]?:=by rw [List.getElem?_toArray]; exact hg
  have:=e1.trans e2.symm
  rw [vZY (by rw [size_madeCells]; exact h1),vZY h2] at this;exact Option.some.inj this
def kZZ (P:Program) (t e sz bytes:Nat) (zs:List Value):Prop:=P.underlying t=some (.slice e)∧∃ i z,P.info? e=some i∧i.zero=some z∧i.size=sz∧i.bytes=bytes∧z.cells.toList=zs∧zs.length=sz∧0 < sz
section
variable {P:Program} {n:Nat} {w0:Base} {ops:Array Oper} {Q:Exit→Act→World→Prop} {S:zW} {H:Heap}
variable {d:Nat} {ty:TypeId} {pos:String} {af:Array Edge} {g:Option (Nat × Bool)} {rest:List Oper}
theorem qVB {t e sz bytes:Nat} {z:Value} (hA:appB P t e sz bytes=true) (hz:qJH P e z):kZZ P t e sz bytes z.cells.toList:=by
 unfold appB at hA;unfold qJH at hz;cases hu:P.underlying t with
 | none=>simp [hu] at hA
 | some ds =>
  cases ds <;> simp [hu] at hA
  rename_i e';cases hi:P.info? e with
  | none=>simp [hi] at hA
  | some i =>
   simp only [hi] at hA hz;simp at hz;simp only [hz,vQJ,beq_iff_eq] at hA;obtain ⟨⟨⟨⟨rfl,h2⟩,h3⟩,h4⟩,h5⟩:=hA;exact ⟨hu,i,z,hi,hz,h2,h3,rfl,by simpa using h5,by simpa using h4⟩
end
end Go.Sx
namespace Go.Sx
open Go.RowKit
section
variable {P:Program} {n:Nat} {w0:Base} {ops:Array Oper} {Q:Exit→Act→World→Prop} {S:zW} {H:Heap}
variable {d:Nat} {ty:TypeId} {pos:String} {af:Array Edge} {g:Option (Nat × Bool)} {rest:List Oper}
theorem jYV {x y:Operand} {t t':TypeId} {dd:Option Tmp} {xs ys:List Value} (m:Nat) (hm:Nat.ble m 10000=true) (hT:aggB P t=true) (hx:ev S x=some (.agg xs.toArray)) (hy:ev S y=some (.agg ys.toArray)) (hcx:uV P m t xs=true) (hcy:uV P m t ys=true) :
  OpV P w0 S H ⟨dd,.binOp .neq t x y t',ty,pos,af,g⟩ (.bool (!eqCells xs ys)) :=
 zG (by simp [zV,Op.operands,hx,hy]) rfl fun w _=>by
  simp only [aggB,vQJ,Bool.not_eq_true'] at hT;obtain ⟨k,hk⟩:∃ k,k + m=10000:=⟨10000 - m,by have:=vZJ hm; omega⟩
  have h1:=zYE (P:=P) k m t w xs ys hcx hcy;have e1:mkV P t xs=.agg xs.toArray:=by
   unfold mkV;cases hu:P.underlying t with
   | none=>simp [hu] at hT
   | some ds=>cases ds <;> simp [hu] at hT ⊢
  have e2:mkV P t ys=.agg ys.toArray:=by
   unfold mkV;cases hu:P.underlying t with
   | none=>simp [hu] at hT
   | some ds=>cases ds <;> simp [hu] at hT ⊢
  rw [e1,e2,hk] at h1;have h2:=run_eqGuard_agg w .neq t x y xs.toArray ys.toArray hT.2;have h3:=run_neq_struct (P:=P) w t xs.toArray ys.toArray;rw [h1] at h3;simp [execOp,qV hx,qV hy,h2,h3]
variable {X Y:Type} {Φ:X→Prop} {V:X→Value} {F:X→World→Prop} {Φ2:Y→Prop} {V2:Y→Value} {F2:Y→World→Prop} {G:qQD} {tl:List Oper} {Fw:World→Prop}
end
end Go.Sx

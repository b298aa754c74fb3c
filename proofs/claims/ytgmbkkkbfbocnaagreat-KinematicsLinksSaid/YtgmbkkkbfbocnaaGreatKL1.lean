/- Part 1 of the texts behind the last one: rules and contracts. No condition. -/
import Derived.StillTail
import Derived.LoopN
import Derived.Below
import Derived.KernelRfl
import Derived.Laws.CopyRow
import Derived.WalkKit
import Derived.Laws.Tables
import Derived.ChangeKeysEq
import Derived.ProofKit
import Derived.OpenShut
import Derived.ChangeSlices
import Derived.WideShapes
import Derived.Test.YtgmbkkkbfbocnaaGreatProg
import Derived.Laws.OwnMore
import Derived.Laws.MakeOwn
import Derived.Defers
import Derived.Laws.Cover3
import Derived.Scope
import Derived.Laws.RangeAny
import Derived.Laws.RangeString
open List renaming mem_cons_of_mem → vQH, mem_cons_self → vZQ, getElem?_take → vZV
open Nat renaming eq_of_beq_eq_true → vQX, lt_of_lt_of_le → vZK
theorem vYV {α : Type} {a b : α} : cond true a b = a := rfl
theorem vYG {α : Type} {a b : α} : cond false a b = b := rfl
theorem vYH {p : Prop} [Decidable p] : ¬ p → decide p = false := fun h => decide_eq_false h
theorem vJQ {p : Prop} [Decidable p] : p → decide p = true := fun h => decide_eq_true h
theorem vJZ {p : Prop} [Decidable p] : decide p = true → p := fun h => of_decide_eq_true h
theorem vJY {p : Prop} [Decidable p] : decide p = false → ¬ p := fun h => of_decide_eq_false h
namespace Go.Sx
open Go.RowKit
def zZZ {α:Type} (c:α):Option (List α)→Option (List α)
 | some l=>some (c :: l)
 | none=>none
theorem uK {α:Type} {c:α} {x:Option (List α)} {vs:List α} (h:zZZ c x=some vs):∃ l,x=some l∧c :: l=vs:=by
 cases x with
 | none=>cases h
 | some l=>exact ⟨l,rfl,by simpa [zZZ] using h⟩
abbrev yZ:=List (Nat × Value)
def look:yZ→Nat→Option Value
 | [],_=>none
 | (k,v) :: S,t=>bif Nat.beq k t then some v else look S t
def ev (S:yZ):Operand→Option Value
 | .tmp t=>look S t
 | .const v=>some v
 | .global g=>some (.pointer (some ⟨g,0,none⟩))
 | .func f=>some (.func (.func f) #[] #[])
def evD (S:yZ) (x:Operand):Value:=(ev S x).getD undef
def evs (S:yZ):List Operand→Option (List Value)
 | []=>some []
 | x :: xs=>match ev S x with
  | some v=>zZZ v (evs S xs)
  | none=>none
theorem uJ (k:Nat) (v:Value) (S:yZ):look ((k,v) :: S) k=some v:=by
 simp [look]
theorem qQZ {k t:Nat} (v:Value) (S:yZ) (h:k ≠ t):look ((k,v) :: S) t=look S t:=by
 have:Nat.beq k t=false:=by
  cases hb:Nat.beq k t with
  | false=>rfl
  | true=>exact absurd (vQX hb) h
 simp [look,this]
structure Fits (n:Nat) (S:yZ) (a:Act):Prop where
 size:a.tmps.size=n
 defers:a.defers=[]
 has:∀ t v,look S t=some v→a.tmps[t]? = some v
theorem Fits.ev {n:Nat} {S:yZ} {a:Act} (h:Fits n S a) {x:Operand} {v:Value} (hx:ev S x=some v):a.eval x=v:=by
 cases x with
 | tmp t =>
  have:=h.has t v hx
  simp [Act.eval,Array.getD_eq_getD_getElem?,this]
 | const u=>simpa [Sx.ev,Act.eval] using hx
 | global g=>simpa [Sx.ev,Act.eval] using hx
 | func f=>simpa [Sx.ev,Act.eval] using hx
theorem Fits.put {n:Nat} {S:yZ} {a:Act} (h:Fits n S a) {d:Nat} (hd:Nat.blt d n=true) (v:Value):Fits n ((d,v) :: S) (a.put (some d) v):=by
 have hd':d < n:=by simpa using hd
 refine ⟨by simp [Act.put,h.size],h.defers,fun t u hu => ?_⟩;by_cases e:d=t
 ·subst e;rw [uJ] at hu;cases hu;simp [Act.put,h.size,hd']
 ·rw [qQZ _ _ e] at hu;simp [Act.put,Array.getElem?_setIfInBounds_ne e,h.has t u hu]
abbrev Heap:=List (Nat × Nat × List Value × TypeId)
def Grow (w w':World):Prop:=Below w.heap.size w w'
theorem Grow.refl (w:World):Grow w w:=Below.refl _ _
theorem Grow.trans {a b c:World} (h:Grow a b) (k:Grow b c):Grow a c:=Below.trans h (Below.mono k h.size)
theorem Grow.drew {a w:World} (h:Grow a w):Grow a w.drew:=Below.drew h
theorem Grow.alloc {a w:World} (h:Grow a w) (o:Obj):Grow a (w.alloc o):=Below.alloc h h.size o
def zZQ:Heap→Nat→Option (Nat × List Value × TypeId)
 | [],_=>none
 | (k,x) :: H,i=>bif Nat.beq k i then some x else zZQ H i
def updH:Heap→Nat→List Value→Option Heap
 | [],_,_=>none
 | (k,b,cs,ty) :: H,i,cs'=>bif Nat.beq k i then some ((k,b,cs',ty) :: H) else zZZ (k,b,cs,ty) (updH H i cs')
def qWW (D:Nat→Prop) (F:World→Prop):Prop:=∀ w w':World,(∀ k,D k→w'.heap[k]? = w.heap[k]?)→F w→F w'
def Told (m:Nat) (F:World→Prop) (w:World):Prop:=∃ D:Nat→Prop,qWW D F∧(∀ k,D k→m≤k∧k < w.heap.size)∧F w
structure RFact (m:Nat) (H:Heap) (D:Nat→Prop) (F:World→Prop) (w:World):Prop where
 dep:qWW D F
 at':∀ k,D k→m≤k∧k < w.heap.size∧∀ x ∈ H,x.2.1 ≠ k
 holds:F w
structure Base where
 w:World
 R:List (Nat × (Nat→Prop) × (World→Prop))
structure Knows (w0:Base) (H:Heap) (w:World):Prop where
 grow:Grow w0.w w
 has:∀ x ∈ H,w0.w.heap.size≤x.2.1∧w.heap[x.2.1]? = some (.cells x.2.2.1.toArray x.2.2.2)
 nodup:(H.map (·.2.1)).Nodup
 facts:∀ x ∈ w0.R,RFact w0.w.heap.size H x.2.1 x.2.2 w
 apart:w0.R.Pairwise (fun x y=>∀ k,x.2.1 k→¬ y.2.1 k)
theorem RFact.grow {m:Nat} {H:Heap} {D:Nat→Prop} {F:World→Prop} {w w':World} (h:RFact m H D F w) (g:Grow w w'):RFact m H D F w' :=
 ⟨h.dep,fun k hk=>⟨(h.at' k hk).1,vZK (h.at' k hk).2.1 g.size,(h.at' k hk).2.2⟩,h.dep w w' (fun k hk=>g.block k (h.at' k hk).2.1) h.holds⟩
theorem RFact.heap {m:Nat} {H H':Heap} {D:Nat→Prop} {F:World→Prop} {w:World} (h:RFact m H D F w) (hs:∀ x ∈ H',(∃ y ∈ H,y.2.1=x.2.1) ∨ ¬ D x.2.1):RFact m H' D F w:=by
 refine ⟨h.dep,fun k hk=>⟨(h.at' k hk).1,(h.at' k hk).2.1,fun x hx e => ?_⟩,h.holds⟩;rcases hs x hx with ⟨y,hy,he⟩ | hn
 ·exact (h.at' k hk).2.2 y hy (he.trans e)
 ·exact hn (e ▸ hk)
theorem zUV {H:Heap} {i:Nat} {x:Nat × List Value × TypeId} (h:zZQ H i=some x):∃ k,(k,x) ∈ H:=by
 induction H with
 | nil=>cases h
 | cons y H ih =>
  obtain ⟨k,y⟩:=y;simp only [zZQ] at h;cases hb:Nat.beq k i with
  | true=>rw [hb] at h; simp at h; subst h; exact ⟨k,vZQ⟩
  | false=>rw [hb] at h; simp at h; obtain ⟨k',hk⟩:=ih h; exact ⟨k',vQH _ hk⟩
theorem Knows.at {w0:Base} {w:World} {H:Heap} (h:Knows w0 H w) {i b:Nat} {cs:List Value} {ty:TypeId} (hi:zZQ H i=some (b,cs,ty)) :
  w0.w.heap.size≤b∧w.heap[b]? = some (.cells cs.toArray ty):=by
 obtain ⟨k,hk⟩:=zUV hi;exact h.has _ hk
theorem qZJ {w:World} {b:Nat} {o:Obj} (h:w.heap[b]? = some o):b < w.heap.size:=by
 rcases Nat.lt_or_ge b w.heap.size with h' | h'
 ·exact h'
 ·simp [Array.getElem?_eq_none h'] at h
theorem Knows.next {w0:Base} {w w':World} {H:Heap} (h:Knows w0 H w) (g:Grow w w'):Knows w0 H w' :=
 ⟨h.grow.trans g,fun x hx=>⟨(h.has x hx).1,by rw [g.block _ (qZJ (h.has x hx).2)]; exact (h.has x hx).2⟩,h.nodup,fun x hx=>(h.facts x hx).grow g,h.apart⟩
theorem Knows.nil {w1 w:World} (g:Grow w1 w):Knows ⟨w1,[]⟩ [] w:=⟨g,fun _ h=>(by cases h),List.nodup_nil,fun _ h=>(by cases h),List.Pairwise.nil⟩
theorem Knows.lt {w0:Base} {w:World} {H:Heap} (h:Knows w0 H w):∀ x ∈ H,x.2.1 < w.heap.size:=fun x hx=>qZJ (h.has x hx).2
theorem Knows.tell {w0:Base} {w w':World} {H:Heap} (h:Knows w0 H w) (g:Grow w w') (id:Nat) {D:Nat→Prop} {F:World→Prop} (h1:qWW D F) (h2:∀ k,D k→w.heap.size≤k∧k < w'.heap.size) (h3:F w'):Knows ⟨w0.w,(id,D,F) :: w0.R⟩ H w':=by
 have k:=h.next g;refine ⟨k.grow,k.has,k.nodup,fun x hx => ?_,List.Pairwise.cons (fun y hy j h4 h5=>by have:=(h2 j h4).1; have:=((h.facts y hy).at' j h5).2.1; omega) h.apart⟩;rcases List.mem_cons.1 hx with rfl | hx
 ·exact ⟨h1,fun j hj=>⟨Nat.le_trans h.grow.size (h2 j hj).1,(h2 j hj).2,fun y hy e=>by have:=h.lt y hy; have:=(h2 j hj).1; omega⟩,h3⟩
 ·exact k.facts x hx
theorem Knows.alloc {w0:Base} {w:World} {H:Heap} (h:Knows w0 H w) (id:Nat) (cs:List Value) (ty:TypeId) :
  Knows w0 ((id,w.heap.size,cs,ty) :: H) (w.alloc (.cells cs.toArray ty)):=by
 have h2:=h.next ((Grow.refl w).alloc (.cells cs.toArray ty));refine ⟨h2.grow,fun x hx => ?_,?_,fun F hF => ?_,h.apart⟩
 ·rcases List.mem_cons.1 hx with rfl | hx
  ·refine ⟨h.grow.size,?_⟩;show (w.heap.push _)[w.heap.size]? = _
   simp
  ·exact h2.has x hx
 ·rw [List.map_cons,List.nodup_cons];refine ⟨fun hm => ?_,h.nodup⟩;obtain ⟨x,hx,he⟩:=List.mem_map.1 hm
  have:=qZJ (h.has x hx).2
  simp only at he;omega
 ·exact ((h.facts F hF).heap (H':=(id,w.heap.size,cs,ty) :: H) fun x hx=>by
   rcases List.mem_cons.1 hx with rfl | hx
   ·exact .inr fun hd=>by have:=((h.facts F hF).at' _ hd).2.1; simp only at this; omega
   ·exact .inl ⟨x,hx,rfl⟩).grow ((Grow.refl w).alloc _)
theorem updH_spec {H H':Heap} {i:Nat} {cs':List Value} (h:updH H i cs'=some H'):∃ b cs ty,zZQ H i=some (b,cs,ty)∧H'.map (·.2.1)=H.map (·.2.1) ∧
  ((H.map (·.2.1)).Nodup→∀ x ∈ H',x ∈ H∧x.2.1 ≠ b ∨ x.2=(b,cs',ty)):=by
 induction H generalizing H' with
 | nil=>cases h
 | cons y H ih =>
  obtain ⟨k,b,cs,ty⟩:=y;simp only [updH] at h;cases hb:Nat.beq k i with
  | true =>
   rw [hb] at h; simp at h; subst h;refine ⟨b,cs,ty,by simp [zZQ,hb],by simp,fun nd x hx => ?_⟩;rcases List.mem_cons.1 hx with rfl | hx
   ·exact .inr rfl
   ·rw [List.map_cons,List.nodup_cons] at nd;exact .inl ⟨vQH _ hx,fun e=>nd.1 (List.mem_map.2 ⟨x,hx,e⟩)⟩
  | false =>
   rw [hb] at h;obtain ⟨H2,h2,rfl⟩:=uK h;obtain ⟨b2,cs2,ty2,e1,e2,e3⟩:=ih h2;refine ⟨b2,cs2,ty2,by simp [zZQ,hb,e1],by simp [e2],fun nd x hx => ?_⟩;rw [List.map_cons,List.nodup_cons] at nd;rcases List.mem_cons.1 hx with rfl | hx
   ·refine .inl ⟨vZQ,fun e=>nd.1 ?_⟩;obtain ⟨k',hk⟩:=zUV e1;exact List.mem_map.2 ⟨_,hk,e.symm⟩
   ·rcases e3 nd.2 x hx with ⟨h1,h2⟩ | h1
    ·exact .inl ⟨vQH _ h1,h2⟩
    ·exact .inr h1
theorem Knows.set {w0:Base} {w:World} {H H':Heap} (h:Knows w0 H w) {i:Nat} {b:Nat} {cs cs':List Value} {ty:TypeId} (hi:zZQ H i=some (b,cs,ty))
  (hu:updH H i cs'=some H'):Knows w0 H' (w.setRow b cs'.toArray):=by
 obtain ⟨hb,hh⟩:=h.at hi;obtain ⟨b2,cs2,ty2,e1,e2,e3⟩:=updH_spec hu;rw [hi] at e1;cases e1;have hother:∀ k,k ≠ b→(w.setRow b cs'.toArray).heap[k]? = w.heap[k]?:=fun k hk=>by
  simp only [World.setRow,Array.getElem?_modify];rw [if_neg (by omega)]
 refine ⟨⟨h.grow.os,h.grow.tape,h.grow.output,by simpa [World.setRow] using h.grow.size,fun k hk => ?_⟩,fun x hx => ?_,by rw [e2]; exact h.nodup,fun F hF => ?_,h.apart⟩
 ·rw [hother k (by omega)];exact h.grow.block k hk
 ·rcases e3 h.nodup x hx with ⟨h1,h2⟩ | h1
  ·refine ⟨(h.has x h1).1,?_⟩;rw [hother _ h2];exact (h.has x h1).2
  ·obtain ⟨k,x⟩:=x;simp only at h1;subst h1;exact ⟨hb,setRow_heap w b _ _ ty _ hh⟩
 ·obtain ⟨h1,h2,h3⟩:=h.facts F hF;obtain ⟨kk,hkk⟩:=zUV hi;have hbD:∀ k,F.2.1 k→k ≠ b:=fun k hk e=>(h2 k hk).2.2 _ hkk e.symm
  refine ⟨h1,fun k hk=>⟨(h2 k hk).1,by simpa [World.setRow] using (h2 k hk).2.1,fun x hx e => ?_⟩,h1 w _ (fun k hk=>hother k (hbD k hk)) h3⟩;have hm:x.2.1 ∈ H'.map (·.2.1):=List.mem_map.2 ⟨x,hx,rfl⟩;rw [e2] at hm;obtain ⟨y,hy,hye⟩:=List.mem_map.1 hm;exact (h2 k hk).2.2 y hy (hye.trans e)
section
variable {P:Program} {n:Nat} {w0:Base} {ops:Array Oper} {Q:Exit→Act→World→Prop} {S:yZ} {H:Heap}
def DoL (P:Program) (n:Nat) (w0:Base) (ops:Array Oper) (Q:Exit→Act→World→Prop) (l:List Oper) (S:yZ) (H:Heap):Prop :=
 ∀ a w,Fits n S a→Knows w0 H w→wpList P ops Q l a w
def DoC (P:Program) (n:Nat) (w0:Base) (Q:Exit→Act→World→Prop) (c:Code) (S:yZ) (H:Heap):Prop :=
 ∀ a w,Fits n S a→Knows w0 H w→c.wp P Q a w
def qWY (n:Nat) (w0:Base) (Q:Exit→Act→World→Prop) (e:Exit) (S:yZ) (H:Heap):Prop :=
 ∀ a w,Fits n S a→Knows w0 H w→Q e a w
def DoR (P:Program) (n:Nat) (w0:Base) (Q:Exit→Act→World→Prop) (c:Code) (N:Nat) (S:yZ) (H:Heap):Prop :=
 ∀ a w,Fits n S a→Knows w0 H w→Code.rounds P c Q N a w
theorem zJ {x y:Code} (h:DoC P n w0 (Exit.then (y.wp P Q) Q) x S H):DoC P n w0 Q (x.seq y) S H:=fun a w f k=>wp_seq (h a w f k)
theorem qJ {id:Nat} {l:List Oper} (h:DoL P n w0 l.toArray Q l S H):DoC P n w0 Q (.region id l.toArray false) S H:=fun a w f k=>wp_region_lit (h a w f k)
theorem zK (h:qWY n w0 Q .normal S H):DoL P n w0 ops Q [] S H:=fun a w f k=>wpList_nil (h a w f k)
theorem qQJ (h:qWY n w0 Q .normal S H):DoC P n w0 Q .skip S H:=fun a w f k=>wp_skip (h a w f k)
theorem uZ (h:qWY n w0 Q .ret S H):DoC P n w0 Q .ret S H:=fun a w f k=>wp_ret (h a w f k)
theorem yVV {id:Nat} (h:qWY n w0 Q (.exit id) S H):DoC P n w0 Q (.exit id) S H:=fun a w f k=>wp_exit (h a w f k)
theorem qUG {id:Nat} {c:Code} (h:DoC P n w0 (Exit.inBlock id Q) c S H):DoC P n w0 Q (.block id c) S H:=fun a w f k=>wp_block (h a w f k)
theorem qKK {c:Operand} {x y:Code} {b:Bool} (hc:ev S c=some (.bool b)) (h1:b=true→DoC P n w0 Q x S H) (h2:b=false→DoC P n w0 Q y S H) :
  DoC P n w0 Q (.cond c x y) S H:=fun a w f k=>by
 refine wp_cond (f.ev hc) ?_;cases b with
 | true=>exact h1 rfl a w f k
 | false=>exact h2 rfl a w f k
theorem qHQ {c:Operand} {x y:Code} {b:Bool} (hc:ev S c=some (.bool b)) (hb:b=true) (h1:DoC P n w0 Q x S H):DoC P n w0 Q (.cond c x y) S H :=
 qKK hc (fun _=>h1) (fun h=>by rw [hb] at h; cases h)
theorem zJY {c:Operand} {x y:Code} {b:Bool} (hc:ev S c=some (.bool b)) (hb:b=false) (h1:DoC P n w0 Q y S H):DoC P n w0 Q (.cond c x y) S H :=
 qKK hc (fun h=>by rw [hb] at h; cases h) (fun _=>h1)
theorem doC_rounds {c:Code} (N:Nat) (h:DoR P n w0 Q c N S H):DoC P n w0 Q (.loop c) S H:=fun a w f k=>wp_loop_rounds N (h a w f k)
theorem zXY {c:Code} {N:Nat} (h:DoC P n w0 (Exit.then (Code.rounds P c Q N) Q) c S H):DoR P n w0 Q c (N + 1) S H:=fun a w f k=>by
 rw [rounds_succ]; exact h a w f k
theorem qZ {y:Code} (h:DoC P n w0 Q y S H):qWY n w0 (Exit.then (y.wp P Q) Q) .normal S H:=h
theorem qHU {c:Code} {N:Nat} (h:DoR P n w0 Q c N S H):qWY n w0 (Exit.then (Code.rounds P c Q N) Q) .normal S H:=h
theorem qHK {K:Act→World→Prop} (h:qWY n w0 Q .ret S H):qWY n w0 (Exit.then K Q) .ret S H:=h
theorem qYK {K:Act→World→Prop} {id:Nat} (h:qWY n w0 Q (.exit id) S H):qWY n w0 (Exit.then K Q) (.exit id) S H:=h
theorem kJ {id:Nat} (h:qWY n w0 Q .normal S H):qWY n w0 (Exit.inBlock id Q) .normal S H:=h
theorem qVX {id:Nat} (h:qWY n w0 Q .normal S H):qWY n w0 (Exit.inBlock id Q) (.exit id) S H:=fun a w f k=>by
 show (if id=id then _ else _); rw [if_pos rfl]; exact h a w f k
def Yields (P:Program) (w:World) (T:Value→World→Prop):Result Next→Prop
 | .ok (.value v) w'=>Grow w w'∧T v w'
 | .ok .skip w'=>Grow w w'∧T undef w'
 | .ok (.enter f args) w'=>Grow w w'∧Calls P f args w' (fun e w''=>∃ v,e=.returned v∧Grow w' w''∧T v w'')
 | _=>False
def yK (S:yZ) (o:Oper):Bool:=o.op.operands.all fun x=>(ev S x).isSome
def yZG (o:Oper):Bool:=match o.op with | .select .. => false | _=>true
def uU (ops:Array Oper) (S:yZ) (o:Oper):Option Bool :=
 match o.guard with
 | none=>some true
 | some (j,b)=>match (ops[j]?).bind (·.dst) with
  | some d=>match look S d with
   | some (.bool c)=>some (c == b)
   | _=>none
  | none=>none
structure OpT (P:Program) (w0:Base) (S:yZ) (H:Heap) (o:Oper) (T:Value→World→Prop):Prop where
 known:yK S o=true
 nosel:yZG o=true
 run:∀ w,Knows w0 H w→Yields P w T ((execOp (evD S) o).run P w)
def OpV (P:Program) (w0:Base) (S:yZ) (H:Heap) (o:Oper) (v:Value):Prop:=OpT P w0 S H o (fun u _=>u=v)
theorem noSel_spec {o:Oper} (h:yZG o=true) (cs:Array SelectCase) (b:Bool):o.op ≠ .select cs b:=by
 intro e; simp [yZG,e] at h
theorem zXZ {S:yZ} {a:Act} (f:Fits n S a) {o:Oper} (hk:yK S o=true) (hs:yZG o=true):execOp a.eval o=execOp (evD S) o:=by
 refine execOp_congr o (noSel_spec hs) fun x hx => ?_
 have:=Array.all_eq_true_iff_forall_mem.1 hk x hx
 obtain ⟨v,hv⟩:=Option.isSome_iff_exists.1 this;rw [f.ev hv];simp [evD,hv]
theorem qKU {S:yZ} {a:Act} (f:Fits n S a) {o:Oper} {b:Bool} (h:uU ops S o=some b):Region.wanted o (yielded ops a.tmps)=b:=by
 unfold uU at h;unfold Region.wanted;cases hg:o.guard with
 | none=>simp [hg] at h; simp [h]
 | some g =>
  obtain ⟨j,c⟩:=g;simp only [hg] at h ⊢;unfold yielded;cases hd:(ops[j]?).bind (·.dst) with
  | none=>simp [hd] at h
  | some d =>
   simp only [hd] at h;cases hl:look S d with
   | none=>simp [hl] at h
   | some v =>
    rw [hl] at h
    have:=f.has d v hl
    cases v <;> simp at h
    simp [this,h]
theorem doL_op {o:Oper} {rest:List Oper} {T:Value→World→Prop} (hw:uU ops S o=some true) (ho:OpT P w0 S H o T)
  (next:∀ a w w' v,Fits n S a→Knows w0 H w→Grow w w'→T v w'→wpList P ops Q rest (a.put o.dst v) w'):DoL P n w0 ops Q (o :: rest) S H:=by
 intro a w f k;unfold wpList;rw [qKU f hw,if_pos rfl];refine .inl ?_;have hr:=ho.run w k;unfold Oper.wp;rw [zXZ f ho.known ho.nosel];generalize (execOp (evD S) o).run P w=r at *;cases r with
 | ok x w' =>
  cases x <;> simp only [Yields] at hr <;> simp only [Oper.upon]
  case value v=>exact next a w w' v f k hr.1 hr.2
  case skip=>exact next a w w' undef f k hr.1 hr.2
  case enter fn args =>
   refine hr.2.mono fun e w'' ⟨v,he,hg,ht⟩ => ?_
   subst he;exact next a w w'' v f k (hr.1.trans hg) ht
 | halt x w'=>simp only [Yields] at hr
theorem qW {o:Oper} {rest:List Oper} {v:Value} {d:Nat} (ho:OpV P w0 S H o v) (hw:uU ops S o=some true) (hd:o.dst=some d) (hn:Nat.blt d n=true)
  (next:DoL P n w0 ops Q rest ((d,v) :: S) H):DoL P n w0 ops Q (o :: rest) S H :=
 doL_op hw ho fun a w w' u f k g ht=>by
  subst ht;rw [hd];exact next _ _ (f.put hn _) (k.next g)
theorem yVW {o:Oper} {rest:List Oper} {d:Nat} (hw:uU ops S o=some false) (hd:o.dst=some d) (hn:Nat.blt d n=true)
  (next:DoL P n w0 ops Q rest ((d,undef) :: S) H):DoL P n w0 ops Q (o :: rest) S H:=by
 intro a w f k;unfold wpList;rw [qKU f hw,if_neg (by simp),hd];exact next _ _ (f.put hn _) k
end
end Go.Sx
namespace Go.Sx
open Go.RowKit
section
variable {P:Program} {n:Nat} {w0:Base} {ops:Array Oper} {Q:Exit→Act→World→Prop} {S:yZ} {H:Heap}
variable {d:Option Tmp} {ty:TypeId} {pos:String} {af:Array Edge} {g:Option (Nat × Bool)}
theorem zG {x:Operand} {v:Value} (h:ev S x=some v):evD S x=v:=by simp [evD,h]
theorem jJ {o:Oper} {v:Value} (hk:yK S o=true) (hs:yZG o=true) (h:∀ w,Knows w0 H w→(execOp (evD S) o).run P w=.ok (.value v) w):OpV P w0 S H o v :=
 ⟨hk,hs,fun w k=>by rw [h w k]; exact ⟨Grow.refl _,rfl⟩⟩
theorem qV {x:Operand} {v:Value} (hx:ev S x=some v):OpV P w0 S H ⟨d,.move x,ty,pos,af,g⟩ v :=
 jJ (by simp [yK,Op.operands,hx]) rfl fun w _=>by simp [execOp,zG hx]
theorem qH {x:Operand} {v:Value} (hx:ev S x=some v):OpV P w0 S H ⟨d,.assign x,ty,pos,af,g⟩ v :=
 jJ (by simp [yK,Op.operands,hx]) rfl fun w _=>by simp [execOp,zG hx]
theorem opV_pick_t {c x y:Operand} {b:Bool} {v u:Value} (hc:ev S c=some (.bool b)) (hb:b=true) (hx:ev S x=some v) (hy:ev S y=some u):OpV P w0 S H ⟨d,.pick c x y,ty,pos,af,g⟩ v :=
 jJ (by simp [yK,Op.operands,hx,hc,hy]) rfl fun w _=>by simp [execOp,zG hx,zG hc,hb,asBool]
theorem zWK {c x y:Operand} {b:Bool} {v u:Value} (hc:ev S c=some (.bool b)) (hb:b=false) (hx:ev S x=some u) (hy:ev S y=some v):OpV P w0 S H ⟨d,.pick c x y,ty,pos,af,g⟩ v :=
 jJ (by simp [yK,Op.operands,hx,hc,hy]) rfl fun w _=>by simp [execOp,zG hy,zG hc,hb,asBool]
section ints
variable {x y:Operand} {k:IntKind} {m r q:Int} {t t':TypeId}
theorem qJG (hx:ev S x=some (.int k m)) (hy:ev S y=some (.int k r)) (hq:k.wrap (m + r)=q):OpV P w0 S H ⟨d,.binOp .add t x y t',ty,pos,af,g⟩ (.int k q) :=
 jJ (by simp [yK,Op.operands,hx,hy]) rfl fun w _=>by subst hq; cases k <;> simp [execOp,zG hx,zG hy,eqGuard,binOp,Op.intArith]
theorem yZQ (hx:ev S x=some (.int k m)) (hy:ev S y=some (.int k r)) (hq:k.wrap (m - r)=q):OpV P w0 S H ⟨d,.binOp .sub t x y t',ty,pos,af,g⟩ (.int k q) :=
 jJ (by simp [yK,Op.operands,hx,hy]) rfl fun w _=>by subst hq; cases k <;> simp [execOp,zG hx,zG hy,eqGuard,binOp,Op.intArith]
theorem qHX (hx:ev S x=some (.int k m)) (hy:ev S y=some (.int k r)) (hq:k.wrap (m * r)=q):OpV P w0 S H ⟨d,.binOp .mul t x y t',ty,pos,af,g⟩ (.int k q) :=
 jJ (by simp [yK,Op.operands,hx,hy]) rfl fun w _=>by subst hq; cases k <;> simp [execOp,zG hx,zG hy,eqGuard,binOp,Op.intArith]
theorem yUU (hx:ev S x=some (.int k m)) (hy:ev S y=some (.int k r)) (h0:r ≠ 0) (hq:k.wrap (m.tdiv r)=q):OpV P w0 S H ⟨d,.binOp .quo t x y t',ty,pos,af,g⟩ (.int k q) :=
 jJ (by simp [yK,Op.operands,hx,hy]) rfl fun w _=>by subst hq; cases k <;> simp [execOp,zG hx,zG hy,eqGuard,binOp,Op.intDiv,h0]
theorem zWJ (hx:ev S x=some (.int k m)) (hy:ev S y=some (.int k r)) (h0:r ≠ 0) (hq:m.tmod r=q):OpV P w0 S H ⟨d,.binOp .rem t x y t',ty,pos,af,g⟩ (.int k q) :=
 jJ (by simp [yK,Op.operands,hx,hy]) rfl fun w _=>by subst hq; cases k <;> simp [execOp,zG hx,zG hy,eqGuard,binOp,Op.intDiv,h0]
theorem opV_and (hx:ev S x=some (.int k m)) (hy:ev S y=some (.int k r)) (hq:k.wrap ((BitVec.ofInt k.bits m &&& BitVec.ofInt k.bits r).toNat)=q):OpV P w0 S H ⟨d,.binOp .and t x y t',ty,pos,af,g⟩ (.int k q) :=
 jJ (by simp [yK,Op.operands,hx,hy]) rfl fun w _=>by subst hq; cases k <;> simp [execOp,zG hx,zG hy,eqGuard,binOp,Op.intBits]
theorem jZX {k':IntKind} (hx:ev S x=some (.int k m)) (hy:ev S y=some (.int k' r)) (h0:0≤r) (hq:m.fdiv (2 ^ (min r.toNat k.bits))=q):OpV P w0 S H ⟨d,.binOp .shr t x y t',ty,pos,af,g⟩ (.int k q) :=
 jJ (by simp [yK,Op.operands,hx,hy]) rfl fun w _=>by
  have h1:¬ r < 0:=by omega
  subst hq; simp [execOp,zG hx,zG hy,eqGuard,binOp,Op.shift,h1]
theorem opV_shl {k':IntKind} (hx:ev S x=some (.int k m)) (hy:ev S y=some (.int k' r)) (h0:0≤r) (hq:k.wrap (m * 2 ^ (min r.toNat k.bits))=q):OpV P w0 S H ⟨d,.binOp .shl t x y t',ty,pos,af,g⟩ (.int k q) :=
 jJ (by simp [yK,Op.operands,hx,hy]) rfl fun w _=>by
  have h1:¬ r < 0:=by omega
  subst hq; simp [execOp,zG hx,zG hy,eqGuard,binOp,Op.shift,h1]
theorem qWU (hx:ev S x=some (.int k m)) (hy:ev S y=some (.int k r)):OpV P w0 S H ⟨d,.binOp .lss t x y t',ty,pos,af,g⟩ (.bool (decide (m < r))) :=
 jJ (by simp [yK,Op.operands,hx,hy]) rfl fun w _=>by cases k <;> simp [execOp,zG hx,zG hy,eqGuard,binOp,Op.intCmp]
theorem opV_leq (hx:ev S x=some (.int k m)) (hy:ev S y=some (.int k r)):OpV P w0 S H ⟨d,.binOp .leq t x y t',ty,pos,af,g⟩ (.bool (decide (m≤r))) :=
 jJ (by simp [yK,Op.operands,hx,hy]) rfl fun w _=>by cases k <;> simp [execOp,zG hx,zG hy,eqGuard,binOp,Op.intCmp]
theorem opV_gtr (hx:ev S x=some (.int k m)) (hy:ev S y=some (.int k r)):OpV P w0 S H ⟨d,.binOp .gtr t x y t',ty,pos,af,g⟩ (.bool (decide (r < m))) :=
 jJ (by simp [yK,Op.operands,hx,hy]) rfl fun w _=>by cases k <;> simp [execOp,zG hx,zG hy,eqGuard,binOp,Op.intCmp]
theorem opV_geq (hx:ev S x=some (.int k m)) (hy:ev S y=some (.int k r)):OpV P w0 S H ⟨d,.binOp .geq t x y t',ty,pos,af,g⟩ (.bool (decide (r≤m))) :=
 jJ (by simp [yK,Op.operands,hx,hy]) rfl fun w _=>by cases k <;> simp [execOp,zG hx,zG hy,eqGuard,binOp,Op.intCmp]
theorem opV_eql (hx:ev S x=some (.int k m)) (hy:ev S y=some (.int k r)):OpV P w0 S H ⟨d,.binOp .eql t x y t',ty,pos,af,g⟩ (.bool (decide (m=r))) :=
 jJ (by simp [yK,Op.operands,hx,hy]) rfl fun w _=>by cases k <;> simp [execOp,zG hx,zG hy,eqGuard,binOp,Op.intCmp] <;> rfl
theorem yZY (hx:ev S x=some (.int k m)) (hy:ev S y=some (.int k r)):OpV P w0 S H ⟨d,.binOp .neq t x y t',ty,pos,af,g⟩ (.bool (!decide (m=r))) :=
 jJ (by simp [yK,Op.operands,hx,hy]) rfl fun w _=>by cases k <;> simp [execOp,zG hx,zG hy,eqGuard,binOp,Op.intCmp] <;> rfl
theorem opV_neg (hx:ev S x=some (.int k m)) (hq:k.wrap (0 - m)=q):OpV P w0 S H ⟨d,.unOp .neg t x,ty,pos,af,g⟩ (.int k q) :=
 jJ (by simp [yK,Op.operands,hx]) rfl fun w _=>by subst hq; simp [execOp,zG hx,Op.unary,Op.intArith]
theorem yZZ {b:Bool} (hx:ev S x=some (.bool b)):OpV P w0 S H ⟨d,.unOp .not t x,ty,pos,af,g⟩ (.bool (!b)) :=
 jJ (by simp [yK,Op.operands,hx]) rfl fun w _=>by simp [execOp,zG hx,Op.unary]
theorem qHW {ats:Array TypeId} (hx:ev S x=some (.int k m)) (hy:ev S y=some (.int k r)):OpV P w0 S H ⟨d,.call ⟨.builtin .min,#[x,y],ats⟩,ty,pos,af,g⟩ (.int k (min m r)) :=
 jJ (by simp [yK,Op.operands,Call.operands,hx,hy]) rfl fun w _=>by
  simp [execOp,resolve,invoke,builtin,zG hx,zG hy,Builtin.min_,Builtin.min2]; omega
theorem qHV {ats:Array TypeId} (hx:ev S x=some (.int k m)) (hy:ev S y=some (.int k r)):OpV P w0 S H ⟨d,.call ⟨.builtin .max,#[x,y],ats⟩,ty,pos,af,g⟩ (.int k (max m r)) :=
 jJ (by simp [yK,Op.operands,Call.operands,hx,hy]) rfl fun w _=>by
  simp [execOp,resolve,invoke,builtin,zG hx,zG hy,Builtin.max_,Builtin.max2]; omega
end ints
end
end Go.Sx
namespace Go.Sx
open Go.RowKit
def jUH:List Value→Nat→Option (List Value)
 | _,0=>some []
 | c :: cs,k + 1=>zZZ c (jUH cs k)
 | [],_ + 1=>none
def yQK:List Value→Nat→Nat→Option (List Value)
 | cs,0,k=>jUH cs k
 | _ :: cs,off + 1,k=>yQK cs off k
 | [],_ + 1,_=>none
def qJV:List Value→Nat→List Value→Option (List Value)
 | cs,0,[]=>some cs
 | _ :: cs,0,v :: vs=>zZZ v (qJV cs 0 vs)
 | c :: cs,off + 1,vs=>zZZ c (qJV cs off vs)
 | [],0,_ :: _=>none
 | [],_ + 1,_=>none
def jJU:List Value→Option (List Value)
 | []=>some []
 | c :: cs=>zZZ c (jJU cs)
theorem takeV_spec {cs:List Value} {k:Nat} {vs:List Value} (h:jUH cs k=some vs):vs=cs.take k∧k≤cs.length:=by
 induction k generalizing cs vs with
 | zero=>simp [jUH] at h; simp [h]
 | succ k ih =>
  cases cs with
  | nil=>simp [jUH] at h
  | cons c cs =>
   simp only [jUH] at h;obtain ⟨ws,hw,rfl⟩:=uK h;obtain ⟨e,hl⟩:=ih hw;simp [← e,hl]
theorem sliceV_spec {cs:List Value} {off k:Nat} {vs:List Value} (h:yQK cs off k=some vs):vs=(cs.drop off).take k∧off + k≤cs.length:=by
 induction off generalizing cs with
 | zero =>
  have:=takeV_spec (by simpa [yQK] using h)
  simpa using this
 | succ off ih =>
  cases cs with
  | nil=>simp [yQK] at h
  | cons c cs =>
   have:=ih (by simpa [yQK] using h)
   simp [this.1]; omega
theorem spliceV_spec {cs:List Value} {off:Nat} {vs cs':List Value} (h:qJV cs off vs=some cs') :
  cs'=cs.take off ++ vs ++ cs.drop (off + vs.length)∧off + vs.length≤cs.length:=by
 induction cs generalizing off vs cs' with
 | nil =>
  cases off with
  | zero=>cases vs with
   | nil=>simp [qJV] at h; simp [h]
   | cons v vs=>simp [qJV] at h
  | succ off=>simp [qJV] at h
 | cons c cs ih =>
  cases off with
  | zero=>cases vs with
   | nil=>simp [qJV] at h; simp [h]
   | cons v vs =>
    simp only [qJV] at h;obtain ⟨ws,hw,rfl⟩:=uK h;obtain ⟨e,hl⟩:=ih hw;simp at e hl ⊢;exact ⟨e,hl⟩
  | succ off =>
   simp only [qJV] at h;obtain ⟨ws,hw,rfl⟩:=uK h;obtain ⟨e,hl⟩:=ih hw;simp [e,show off + 1 + vs.length=(off + vs.length) + 1 by omega]; omega
theorem zVH {cs vs:List Value} (h:jJU cs=some vs):vs=cs:=by
 induction cs generalizing vs with
 | nil=>simp [jJU] at h; exact h
 | cons c cs ih =>
  simp only [jJU] at h;obtain ⟨ws,hw,rfl⟩:=uK h;rw [ih hw]
def tyB (P:Program) (t:TypeId) (agg:Bool) (size:Nat):Bool :=
 (match P.underlying t with | some (.struct _)=>agg | some (.array _ _)=>agg | some _ => !agg | none=>false) && (match P.info? t with | some i=>i.size == size | none=>false)
def qKZ (P:Program) (t:TypeId) (v:Value):Prop:=(P.info? t).bind (·.zero)=some v
def zJW (P:Program) (s f off:Nat):Bool :=
 match P.underlying s with
 | some (.struct fields)=>match fields[f]? with
  | some fld=>fld.offset == off && (match P.info? fld.type with | some i=>i.size != 0 | none=>false)
  | none=>false
 | _=>false
def arrB (P:Program) (t len size:Nat):Bool :=
 match P.underlying t with
 | some (.array l e)=>l == len && (match P.info? e with | some i=>i.size == size | none=>false)
 | _=>false
def slcB (P:Program) (t e size:Nat):Bool :=
 match P.underlying t with
 | some (.slice e')=>e' == e && (match P.info? e with | some i=>i.size == size | none=>false)
 | _=>false
section
variable {P:Program} {n:Nat} {w0:Base} {ops:Array Oper} {Q:Exit→Act→World→Prop} {S:yZ} {H:Heap}
variable {d:Option Tmp} {ty:TypeId} {pos:String} {af:Array Edge} {g:Option (Nat × Bool)}
theorem qVY {t:TypeId} {agg:Bool} {size:Nat} (h:tyB P t agg size=true) (w:World):(isAgg t).run P w=.ok agg w:=by
 unfold tyB at h;cases hu:P.underlying t with
 | none=>simp [hu] at h
 | some ds=>cases ds <;> simp [hu] at h <;> simp [isAgg,run_underlying hu,h]
theorem qUJ {t:TypeId} {agg:Bool} {size:Nat} (h:tyB P t agg size=true) (w:World):(sizeOf t).run P w=.ok size w:=by
 unfold tyB at h;cases hi:P.info? t with
 | none=>simp [hi] at h
 | some i=>simp [hi] at h; simp [sizeOf,typeInfo,hi,h.2]
theorem zKH {t:TypeId} {v:Value} (h:qKZ P t v) (w:World):(zeroValue t).run P w=.ok v w:=by
 unfold qKZ at h;cases hi:P.info? t with
 | none=>simp [hi] at h
 | some i=>simp [hi] at h; simp [zeroValue,typeInfo,hi,h]
theorem qJY (b off k:Nat):(⟨b,off,none⟩:Addr).add k=⟨b,off + k,none⟩:=by unfold Addr.add; split <;> simp_all
theorem zYK {w:World} {b:Nat} {cs:List Value} {ty:TypeId} (h:w.heap[b]? = some (.cells cs.toArray ty)) (i:Nat):w.cell? ⟨b,i,none⟩=cs[i]?:=by
 simp [World.cell?,h]
theorem qXH {w:World} {b off k:Nat} {vs:List Value} (h:∀ i,i < k→w.cell? ⟨b,off + i,none⟩=vs[i]?) (hk:vs.length=k) :
  (loadCells ⟨b,off,none⟩ k).run P w=.ok vs.toArray w:=by
 subst hk;refine run_loadCells_list w _ vs fun j v hj => ?_
 rw [qJY,h j (by have:=(List.getElem?_eq_some_iff.1 hj).1; exact this),hj]
theorem yX {t:TypeId} {x:Operand} {b off:Nat} {cs:List Value} {ty':TypeId} {v:Value} (id:Nat) (hT:tyB P t false 1=true) (hx:ev S x=some (.pointer (some ⟨b,off,none⟩)))
  (hH:zZQ H id=some (b,cs,ty')) (hv:cs[off]? = some v):OpV P w0 S H ⟨d,.load t x,ty,pos,af,g⟩ v :=
 jJ (by simp [yK,Op.operands,hx]) rfl fun w k=>by
  have:=zYK (k.at hH).2 off
  simp [execOp,zG hx,Instr.loadAt,Instr.sureAddr,loadVar,qVY hT,this,hv]
theorem qZQ {t:TypeId} {x:Operand} {b off sz:Nat} {cs vs:List Value} {ty':TypeId} (id:Nat) (hT:tyB P t true sz=true) (hx:ev S x=some (.pointer (some ⟨b,off,none⟩)))
  (hH:zZQ H id=some (b,cs,ty')) (hv:yQK cs off sz=some vs):OpV P w0 S H ⟨d,.load t x,ty,pos,af,g⟩ (.agg vs.toArray) :=
 jJ (by simp [yK,Op.operands,hx]) rfl fun w k=>by
  obtain ⟨e,hl⟩:=sliceV_spec hv;have hr:=qXH (P:=P) (w:=w) (b:=b) (off:=off) (k:=sz) (vs:=vs) (fun i hi=>by
   rw [zYK (k.at hH).2,e,vZV,if_pos hi,List.getElem?_drop]) (by rw [e]; simp; omega)
  simp [execOp,zG hx,Instr.loadAt,Instr.sureAddr,loadVar,qVY hT,qUJ hT,hr]
theorem opV_load1_old {t:TypeId} {x:Operand} {b off:Nat} {v:Value} (hT:tyB P t false 1=true) (hx:ev S x=some (.pointer (some ⟨b,off,none⟩)))
  (hb:b < w0.w.heap.size) (hv:w0.w.cell? ⟨b,off,none⟩=some v):OpV P w0 S H ⟨d,.load t x,ty,pos,af,g⟩ v :=
 jJ (by simp [yK,Op.operands,hx]) rfl fun w k=>by
  have:w.cell? ⟨b,off,none⟩=some v:=by rw [k.grow.cell (p:=⟨b,off,none⟩) hb,hv]
  simp [execOp,zG hx,Instr.loadAt,Instr.sureAddr,loadVar,qVY hT,this]
theorem opV_loadA_old {t:TypeId} {x:Operand} {b off sz:Nat} {vs:List Value} (hT:tyB P t true sz=true) (hx:ev S x=some (.pointer (some ⟨b,off,none⟩)))
  (hb:b < w0.w.heap.size) (hl:Nat.beq vs.length sz=true) (hv:∀ i,i < sz→w0.w.cell? ⟨b,off + i,none⟩=vs[i]?):OpV P w0 S H ⟨d,.load t x,ty,pos,af,g⟩ (.agg vs.toArray) :=
 jJ (by simp [yK,Op.operands,hx]) rfl fun w k=>by
  have hr:=qXH (P:=P) (w:=w) (b:=b) (off:=off) (k:=sz) (vs:=vs) (fun i hi=>by
   rw [k.grow.cell (p:=⟨b,off + i,none⟩) hb]; exact hv i hi) (vQX hl)
  simp [execOp,zG hx,Instr.loadAt,Instr.sureAddr,loadVar,qVY hT,qUJ hT,hr]
theorem qZK {t:TypeId} {x y:Operand} {b off sz:Nat} {agg:Bool} {cs cs':List Value} {ty':TypeId} {v:Value} {H':Heap} {rest:List Oper} (id:Nat)
  (hT:tyB P t agg sz=true) (hx:ev S x=some (.pointer (some ⟨b,off,none⟩))) (hy:ev S y=some v)
  (hw:uU ops S ⟨none,.store t x y,ty,pos,af,g⟩=some true)
  (hH:zZQ H id=some (b,cs,ty')) (hz:Nat.beq v.cells.size sz=true) (h1:v.cells.toList.all Value.oneCell'=true)
  (hs:qJV cs off v.cells.toList=some cs') (hu:updH H id cs'=some H') (next:DoL P n w0 ops Q rest S H') :
  DoL P n w0 ops Q (⟨none,.store t x y,ty,pos,af,g⟩ :: rest) S H:=by
 intro a w f k;unfold wpList;rw [qKU f hw,if_pos rfl];refine .inl ?_;obtain ⟨e,hl⟩:=spliceV_spec hs;have hst:=run_storeCells_at P b off ty' v.cells.toList 0 cs.toArray w (k.at hH).2 (by simpa using hl) (fun u hu=>List.all_eq_true.1 h1 u hu);have hz':=vQX hz;have hrun:(execOp a.eval ⟨none,.store t x y,ty,pos,af,g⟩).run P w=.ok .skip (w.setRow b cs'.toArray):=by
  simp only [Nat.add_zero] at hst;rw [← e] at hst;simp [execOp,f.ev hx,f.ev hy,Instr.storeAt,Instr.sureAddr,storeVar,qUJ hT,hz',hst]
 unfold Oper.wp;rw [hrun];exact next _ _ f (k.set hH hu)
theorem doL_new {o:Oper} {rest:List Oper} {dd:Nat} {cs:List Value} {ty':TypeId} (id:Nat) (hk:yK S o=true) (hsel:yZG o=true) (hw:uU ops S o=some true) (hd:o.dst=some dd) (hn:Nat.blt dd n=true)
  (hrun:∀ w,(execOp (evD S) o).run P w=.ok (.value (.pointer (some ⟨w.heap.size,0,none⟩))) (w.alloc (.cells cs.toArray ty')))
  (next:∀ b,DoL P n w0 ops Q rest ((dd,.pointer (some ⟨b,0,none⟩)) :: S) ((id,b,cs,ty') :: H)):DoL P n w0 ops Q (o :: rest) S H:=by
 intro a w f k;unfold wpList;rw [qKU f hw,if_pos rfl];refine .inl ?_;unfold Oper.wp;rw [zXZ f hk hsel,hrun w];simp only [Oper.upon,hd];exact next _ _ _ (f.put hn _) (k.alloc id cs ty')
theorem qWZ {t:TypeId} {dd:Nat} {rest:List Oper} {z:Value} {cs:List Value} (id:Nat) (hz:qKZ P t z) (hc:jJU z.cells.toList=some cs)
  (hw:uU ops S ⟨some dd,.alloc t,ty,pos,af,g⟩=some true) (hn:Nat.blt dd n=true)
  (next:∀ b,DoL P n w0 ops Q rest ((dd,.pointer (some ⟨b,0,none⟩)) :: S) ((id,b,cs,t) :: H)):DoL P n w0 ops Q (⟨some dd,.alloc t,ty,pos,af,g⟩ :: rest) S H :=
 doL_new id (by simp [yK,Op.operands]) rfl hw rfl hn (fun w=>by
  have:=zVH hc
  subst this;simp [execOp,Instr.alloc,zKH hz,newVar,newRow]) next
theorem zYJ {t:TypeId} {dd:Nat} {rest:List Oper} {x:Operand} {v:Value} {cs:List Value} (id:Nat) (hx:ev S x=some v) (hc:jJU v.cells.toList=some cs)
  (hw:uU ops S ⟨some dd,.box t x,ty,pos,af,g⟩=some true) (hn:Nat.blt dd n=true)
  (next:∀ b,DoL P n w0 ops Q rest ((dd,.pointer (some ⟨b,0,none⟩)) :: S) ((id,b,cs,t) :: H)):DoL P n w0 ops Q (⟨some dd,.box t x,ty,pos,af,g⟩ :: rest) S H :=
 doL_new id (by simp [yK,Op.operands,hx]) rfl hw rfl hn (fun w=>by
  have:=zVH hc
  subst this;simp [execOp,Instr.box,zG hx,newVar,newRow]) next
theorem zW {s f off off':Nat} {x:Operand} {b:Nat} (hF:zJW P s f off'=true) (hx:ev S x=some (.pointer (some ⟨b,off,none⟩))) :
  OpV P w0 S H ⟨d,.fieldAddr s x f,ty,pos,af,g⟩ (.pointer (some ⟨b,off + off',none⟩)) :=
 jJ (by simp [yK,Op.operands,hx]) rfl fun w _=>by
  unfold zJW at hF;cases hu:P.underlying s with
  | none=>simp [hu] at hF
  | some ds =>
   cases ds <;> simp [hu] at hF
   rename_i fields;cases hf:fields[f]? with
   | none=>simp [hf] at hF
   | some fld =>
    simp [hf] at hF;obtain ⟨h1,h2⟩:=hF;cases hi:P.info? fld.type with
    | none=>simp [hi] at h2
    | some i =>
     simp [hi] at h2;subst h1;simp [execOp,zG hx,Instr.fieldAt,Instr.sureAddr,run_underlying hu,hf,fieldPlace,sizeOf,typeInfo,hi,h2,qJY]
theorem qHH {t len size off:Nat} {x y:Operand} {b:Nat} {k:IntKind} {i:Int} (hA:arrB P t len size=true) (hx:ev S x=some (.pointer (some ⟨b,off,none⟩)))
  (hy:ev S y=some (.int k i)) (h0:0≤i) (h1:i < len):OpV P w0 S H ⟨d,.indexAddr t x y,ty,pos,af,g⟩ (.pointer (some ⟨b,off + i.toNat * size,none⟩)) :=
 jJ (by simp [yK,Op.operands,hx,hy]) rfl fun w _=>by
  unfold arrB at hA;cases hu:P.underlying t with
  | none=>simp [hu] at hA
  | some ds =>
   cases ds <;> simp [hu] at hA
   rename_i l e;obtain ⟨rfl,h2⟩:=hA;cases hi:P.info? e with
   | none=>simp [hi] at h2
   | some inf =>
    simp [hi] at h2;subst h2;simp [execOp,zG hx,zG hy,Instr.indexAt,Instr.sureAddr,asIntOf,run_underlying hu,h0,h1,sizeOf,typeInfo,hi,qJY]
theorem qGX {t e size off len cap:Nat} {x y:Operand} {b:Nat} {k:IntKind} {i:Int} (hA:slcB P t e size=true) (hx:ev S x=some (.slice (some ⟨b,off,none⟩) len cap))
  (hy:ev S y=some (.int k i)) (h0:0≤i) (h1:i < len):OpV P w0 S H ⟨d,.indexAddr t x y,ty,pos,af,g⟩ (.pointer (some ⟨b,off + i.toNat * size,none⟩)) :=
 jJ (by simp [yK,Op.operands,hx,hy]) rfl fun w _=>by
  unfold slcB at hA;cases hu:P.underlying t with
  | none=>simp [hu] at hA
  | some ds =>
   cases ds <;> simp [hu] at hA
   rename_i e';obtain ⟨rfl,h2⟩:=hA;cases hi:P.info? e' with
   | none=>simp [hi] at h2
   | some inf =>
    simp [hi] at h2;subst h2;simp [execOp,zG hx,zG hy,Instr.indexAt,asIntOf,run_underlying hu,h0,h1,sizeOf,typeInfo,hi,qJY]
theorem qHG {t e size:Nat} {x:Operand} {a:Option Addr} {len cap:Nat} (hA:slcB P t e size=true) (hx:ev S x=some (.slice a len cap)) :
  OpV P w0 S H ⟨d,.call ⟨.builtin .len,#[x],#[t]⟩,ty,pos,af,g⟩ (.int .i64 (len:Int)) :=
 jJ (by simp [yK,Op.operands,Call.operands,hx]) rfl fun w _=>by
  unfold slcB at hA;cases hu:P.underlying t with
  | none=>simp [hu] at hA
  | some ds =>
   cases ds <;> simp [hu] at hA
   simp [execOp,resolve,invoke,builtin,zG hx,Builtin.len_,run_underlying hu,goInt]
theorem opV_extract {x:Operand} {vs:Array Value} {i:Nat} {v:Value} (hx:ev S x=some (.tuple vs)) (hv:vs[i]? = some v):OpV P w0 S H ⟨d,.extract x i,ty,pos,af,g⟩ v :=
 jJ (by simp [yK,Op.operands,hx]) rfl fun w _=>by simp [execOp,zG hx,Instr.extract,hv]
end
end Go.Sx

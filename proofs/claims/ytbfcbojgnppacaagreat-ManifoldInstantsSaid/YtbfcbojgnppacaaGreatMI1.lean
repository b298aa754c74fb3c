/- Part 1 of the texts behind the last one: rules and contracts. No condition. -/
import Derived.StillTail
import Derived.LoopN
import Derived.Below
import Derived.KernelRfl
import Derived.Laws.CopyRow
import Derived.WalkKit
import Derived.Laws.Tables
import Derived.ChangeKeysEq
import Derived.ProofKit
import Derived.OpenShut
import Derived.ChangeSlices
import Derived.WideShapes
import Derived.Test.YtbfcbojgnppacaaGreatProg
import Derived.Laws.OwnMore
import Derived.Laws.MakeOwn
import Derived.Defers
import Derived.Laws.Cover3
import Derived.Deep.AppendSrc
import Derived.Scope
import Derived.Recover
import Derived.Laws.RangeAny
import Derived.Laws.RangeString
open Option renaming map_eq_some_iff → vZW
open Option.some renaming injEq → vQZ
open Prod.mk renaming injEq → vQY
open Bool renaming and_eq_true → vQJ, true_and → vZH
open List renaming getElem?_eq_getElem → vQK, mem_of_getElem? → vQG, mem_cons_of_mem → vQH, mem_cons_self → vZQ, getElem?_map → vZY, getElem?_take → vZV
open Nat renaming eq_of_beq_eq_true → vQX, lt_of_lt_of_le → vZK, le_of_ble_eq_true → vZX
open Array renaming getElem?_eq_getElem → vZU, all_eq_true_iff_forall_mem → vYY
open Go.IntKind renaming wrap → vJJ
theorem vYV {α : Type} {a b : α} : cond true a b = a := rfl
theorem vYG {α : Type} {a b : α} : cond false a b = b := rfl
theorem vYH {p : Prop} [Decidable p] : ¬ p → decide p = false := fun h => decide_eq_false h
theorem vJQ {p : Prop} [Decidable p] : p → decide p = true := fun h => decide_eq_true h
theorem vJZ {p : Prop} [Decidable p] : decide p = true → p := fun h => of_decide_eq_true h
theorem vJY {p : Prop} [Decidable p] : decide p = false → ¬ p := fun h => of_decide_eq_false h
namespace Go.Sx
open Go.RowKit
def qVW {α:Type} (c:α):Option (List α)→Option (List α)
 | some l=>some (c :: l)
 | none=>none
theorem uG {α:Type} {c:α} {x:Option (List α)} {vs:List α} (h:qVW c x=some vs):∃ l,x=some l∧c :: l=vs:=by
 cases x with
 | none=>cases h
 | some l=>exact ⟨l,rfl,by simpa [qVW] using h⟩
abbrev yU:=List (Nat × Value)
def look:yU→Nat→Option Value
 | [],_=>none
 | (k,v) :: S,t=>bif Nat.beq k t then some v else look S t
def ev (S:yU):Operand→Option Value
 | .tmp t=>look S t
 | .const v=>some v
 | .global g=>some (.pointer (some ⟨g,0,none⟩))
 | .func f=>some (.func (.func f) #[] #[])
def evD (S:yU) (x:Operand):Value:=(ev S x).getD undef
def evs (S:yU):List Operand→Option (List Value)
 | []=>some []
 | x :: xs=>match ev S x with
  | some v=>qVW v (evs S xs)
  | none=>none
theorem uX (k:Nat) (v:Value) (S:yU):look ((k,v) :: S) k=some v:=by
 simp [look]
theorem qQU {k t:Nat} (v:Value) (S:yU) (h:k ≠ t):look ((k,v) :: S) t=look S t:=by
 have:Nat.beq k t=false:=by
  cases hb:Nat.beq k t with
  | false=>rfl
  | true=>exact absurd (vQX hb) h
 simp [look,this]
structure Fits (n:Nat) (S:yU) (a:Act):Prop where
 size:a.tmps.size=n
 defers:a.defers=[]
 has:∀ t v,look S t=some v→a.tmps[t]? = some v
theorem Fits.ev {n:Nat} {S:yU} {a:Act} (h:Fits n S a) {x:Operand} {v:Value} (hx:ev S x=some v):a.eval x=v:=by
 cases x with
 | tmp t =>
  have:=h.has t v hx
  simp [Act.eval,Array.getD_eq_getD_getElem?,this]
 | const u=>simpa [Sx.ev,Act.eval] using hx
 | global g=>simpa [Sx.ev,Act.eval] using hx
 | func f=>simpa [Sx.ev,Act.eval] using hx
theorem Fits.put {n:Nat} {S:yU} {a:Act} (h:Fits n S a) {d:Nat} (hd:Nat.blt d n=true) (v:Value):Fits n ((d,v) :: S) (a.put (some d) v):=by
 have hd':d < n:=by simpa using hd
 refine ⟨by simp [Act.put,h.size],h.defers,fun t u hu => ?_⟩;by_cases e:d=t
 ·subst e;rw [uX] at hu;cases hu;simp [Act.put,h.size,hd']
 ·rw [qQU _ _ e] at hu;simp [Act.put,Array.getElem?_setIfInBounds_ne e,h.has t u hu]
abbrev Heap:=List (Nat × Nat × List Value × TypeId)
def Grow (w w':World):Prop:=Below w.heap.size w w'
theorem Grow.refl (w:World):Grow w w:=Below.refl _ _
theorem Grow.trans {a b c:World} (h:Grow a b) (k:Grow b c):Grow a c:=Below.trans h (Below.mono k h.size)
theorem Grow.drew {a w:World} (h:Grow a w):Grow a w.drew:=Below.drew h
theorem Grow.alloc {a w:World} (h:Grow a w) (o:Obj):Grow a (w.alloc o):=Below.alloc h h.size o
def qVU:Heap→Nat→Option (Nat × List Value × TypeId)
 | [],_=>none
 | (k,x) :: H,i=>bif Nat.beq k i then some x else qVU H i
def updH:Heap→Nat→List Value→Option Heap
 | [],_,_=>none
 | (k,b,cs,ty) :: H,i,cs'=>bif Nat.beq k i then some ((k,b,cs',ty) :: H) else qVW (k,b,cs,ty) (updH H i cs')
def qKL (D:Nat→Prop) (F:World→Prop):Prop:=∀ w w':World,(∀ k,D k→w'.heap[k]? = w.heap[k]?)→F w→F w'
def Told (m:Nat) (F:World→Prop) (w:World):Prop:=∃ D:Nat→Prop,qKL D F∧(∀ k,D k→m≤k∧k < w.heap.size)∧F w
structure RFact (m:Nat) (H:Heap) (D:Nat→Prop) (F:World→Prop) (w:World):Prop where
 dep:qKL D F
 at':∀ k,D k→m≤k∧k < w.heap.size∧∀ x ∈ H,x.2.1 ≠ k
 holds:F w
structure Base where
 w:World
 R:List (Nat × (Nat→Prop) × (World→Prop))
structure Knows (w0:Base) (H:Heap) (w:World):Prop where
 grow:Grow w0.w w
 has:∀ x ∈ H,w0.w.heap.size≤x.2.1∧w.heap[x.2.1]? = some (.cells x.2.2.1.toArray x.2.2.2)
 nodup:(H.map (·.2.1)).Nodup
 facts:∀ x ∈ w0.R,RFact w0.w.heap.size H x.2.1 x.2.2 w
 apart:w0.R.Pairwise (fun x y=>∀ k,x.2.1 k→¬ y.2.1 k)
theorem RFact.grow {m:Nat} {H:Heap} {D:Nat→Prop} {F:World→Prop} {w w':World} (h:RFact m H D F w) (g:Grow w w'):RFact m H D F w' :=
 ⟨h.dep,fun k hk=>⟨(h.at' k hk).1,vZK (h.at' k hk).2.1 g.size,(h.at' k hk).2.2⟩,h.dep w w' (fun k hk=>g.block k (h.at' k hk).2.1) h.holds⟩
theorem RFact.heap {m:Nat} {H H':Heap} {D:Nat→Prop} {F:World→Prop} {w:World} (h:RFact m H D F w) (hs:∀ x ∈ H',(∃ y ∈ H,y.2.1=x.2.1) ∨ ¬ D x.2.1):RFact m H' D F w:=by
 refine ⟨h.dep,fun k hk=>⟨(h.at' k hk).1,(h.at' k hk).2.1,fun x hx e => ?_⟩,h.holds⟩;rcases hs x hx with ⟨y,hy,he⟩ | hn
 ·exact (h.at' k hk).2.2 y hy (he.trans e)
 ·exact hn (e ▸ hk)
theorem zQK {H:Heap} {i:Nat} {x:Nat × List Value × TypeId} (h:qVU H i=some x):∃ k,(k,x) ∈ H:=by
 induction H with
 | nil=>cases h
 | cons y H ih =>
  obtain ⟨k,y⟩:=y;simp only [qVU] at h;cases hb:Nat.beq k i with
  | true=>rw [hb] at h; simp at h; subst h; exact ⟨k,vZQ⟩
  | false=>rw [hb] at h; simp at h; obtain ⟨k',hk⟩:=ih h; exact ⟨k',vQH _ hk⟩
theorem Knows.at {w0:Base} {w:World} {H:Heap} (h:Knows w0 H w) {i b:Nat} {cs:List Value} {ty:TypeId} (hi:qVU H i=some (b,cs,ty)) :
  w0.w.heap.size≤b∧w.heap[b]? = some (.cells cs.toArray ty):=by
 obtain ⟨k,hk⟩:=zQK hi;exact h.has _ hk
theorem qZF {w:World} {b:Nat} {o:Obj} (h:w.heap[b]? = some o):b < w.heap.size:=by
 rcases Nat.lt_or_ge b w.heap.size with h' | h'
 ·exact h'
 ·simp [Array.getElem?_eq_none h'] at h
theorem Knows.next {w0:Base} {w w':World} {H:Heap} (h:Knows w0 H w) (g:Grow w w'):Knows w0 H w' :=
 ⟨h.grow.trans g,fun x hx=>⟨(h.has x hx).1,by rw [g.block _ (qZF (h.has x hx).2)]; exact (h.has x hx).2⟩,h.nodup,fun x hx=>(h.facts x hx).grow g,h.apart⟩
theorem Knows.nil {w1 w:World} (g:Grow w1 w):Knows ⟨w1,[]⟩ [] w:=⟨g,fun _ h=>(by cases h),List.nodup_nil,fun _ h=>(by cases h),List.Pairwise.nil⟩
theorem Knows.lt {w0:Base} {w:World} {H:Heap} (h:Knows w0 H w):∀ x ∈ H,x.2.1 < w.heap.size:=fun x hx=>qZF (h.has x hx).2
theorem Knows.tell {w0:Base} {w w':World} {H:Heap} (h:Knows w0 H w) (g:Grow w w') (id:Nat) {D:Nat→Prop} {F:World→Prop} (h1:qKL D F) (h2:∀ k,D k→w.heap.size≤k∧k < w'.heap.size) (h3:F w'):Knows ⟨w0.w,(id,D,F) :: w0.R⟩ H w':=by
 have k:=h.next g;refine ⟨k.grow,k.has,k.nodup,fun x hx => ?_,List.Pairwise.cons (fun y hy j h4 h5=>by have:=(h2 j h4).1; have:=((h.facts y hy).at' j h5).2.1; omega) h.apart⟩;rcases List.mem_cons.1 hx with rfl | hx
 ·exact ⟨h1,fun j hj=>⟨Nat.le_trans h.grow.size (h2 j hj).1,(h2 j hj).2,fun y hy e=>by have:=h.lt y hy; have:=(h2 j hj).1; omega⟩,h3⟩
 ·exact k.facts x hx
theorem Knows.alloc {w0:Base} {w:World} {H:Heap} (h:Knows w0 H w) (id:Nat) (cs:List Value) (ty:TypeId) :
  Knows w0 ((id,w.heap.size,cs,ty) :: H) (w.alloc (.cells cs.toArray ty)):=by
 have h2:=h.next ((Grow.refl w).alloc (.cells cs.toArray ty));refine ⟨h2.grow,fun x hx => ?_,?_,fun F hF => ?_,h.apart⟩
 ·rcases List.mem_cons.1 hx with rfl | hx
  ·refine ⟨h.grow.size,?_⟩;show (w.heap.push _)[w.heap.size]? = _
   simp
  ·exact h2.has x hx
 ·rw [List.map_cons,List.nodup_cons];refine ⟨fun hm => ?_,h.nodup⟩;obtain ⟨x,hx,he⟩:=List.mem_map.1 hm
  have:=qZF (h.has x hx).2
  simp only at he;omega
 ·exact ((h.facts F hF).heap (H':=(id,w.heap.size,cs,ty) :: H) fun x hx=>by
   rcases List.mem_cons.1 hx with rfl | hx
   ·exact .inr fun hd=>by have:=((h.facts F hF).at' _ hd).2.1; simp only at this; omega
   ·exact .inl ⟨x,hx,rfl⟩).grow ((Grow.refl w).alloc _)
theorem updH_spec {H H':Heap} {i:Nat} {cs':List Value} (h:updH H i cs'=some H'):∃ b cs ty,qVU H i=some (b,cs,ty)∧H'.map (·.2.1)=H.map (·.2.1) ∧
  ((H.map (·.2.1)).Nodup→∀ x ∈ H',x ∈ H∧x.2.1 ≠ b ∨ x.2=(b,cs',ty)):=by
 induction H generalizing H' with
 | nil=>cases h
 | cons y H ih =>
  obtain ⟨k,b,cs,ty⟩:=y;simp only [updH] at h;cases hb:Nat.beq k i with
  | true =>
   rw [hb] at h; simp at h; subst h;refine ⟨b,cs,ty,by simp [qVU,hb],by simp,fun nd x hx => ?_⟩;rcases List.mem_cons.1 hx with rfl | hx
   ·exact .inr rfl
   ·rw [List.map_cons,List.nodup_cons] at nd;exact .inl ⟨vQH _ hx,fun e=>nd.1 (List.mem_map.2 ⟨x,hx,e⟩)⟩
  | false =>
   rw [hb] at h;obtain ⟨H2,h2,rfl⟩:=uG h;obtain ⟨b2,cs2,ty2,e1,e2,e3⟩:=ih h2;refine ⟨b2,cs2,ty2,by simp [qVU,hb,e1],by simp [e2],fun nd x hx => ?_⟩;rw [List.map_cons,List.nodup_cons] at nd;rcases List.mem_cons.1 hx with rfl | hx
   ·refine .inl ⟨vZQ,fun e=>nd.1 ?_⟩;obtain ⟨k',hk⟩:=zQK e1;exact List.mem_map.2 ⟨_,hk,e.symm⟩
   ·rcases e3 nd.2 x hx with ⟨h1,h2⟩ | h1
    ·exact .inl ⟨vQH _ h1,h2⟩
    ·exact .inr h1
theorem Knows.set {w0:Base} {w:World} {H H':Heap} (h:Knows w0 H w) {i:Nat} {b:Nat} {cs cs':List Value} {ty:TypeId} (hi:qVU H i=some (b,cs,ty))
  (hu:updH H i cs'=some H'):Knows w0 H' (w.setRow b cs'.toArray):=by
 obtain ⟨hb,hh⟩:=h.at hi;obtain ⟨b2,cs2,ty2,e1,e2,e3⟩:=updH_spec hu;rw [hi] at e1;cases e1;have hother:∀ k,k ≠ b→(w.setRow b cs'.toArray).heap[k]? = w.heap[k]?:=fun k hk=>by
  simp only [World.setRow,Array.getElem?_modify];rw [if_neg (by omega)]
 refine ⟨⟨h.grow.os,h.grow.tape,h.grow.output,by simpa [World.setRow] using h.grow.size,fun k hk => ?_⟩,fun x hx => ?_,by rw [e2]; exact h.nodup,fun F hF => ?_,h.apart⟩
 ·rw [hother k (by omega)];exact h.grow.block k hk
 ·rcases e3 h.nodup x hx with ⟨h1,h2⟩ | h1
  ·refine ⟨(h.has x h1).1,?_⟩;rw [hother _ h2];exact (h.has x h1).2
  ·obtain ⟨k,x⟩:=x;simp only at h1;subst h1;exact ⟨hb,setRow_heap w b _ _ ty _ hh⟩
 ·obtain ⟨h1,h2,h3⟩:=h.facts F hF;obtain ⟨kk,hkk⟩:=zQK hi;have hbD:∀ k,F.2.1 k→k ≠ b:=fun k hk e=>(h2 k hk).2.2 _ hkk e.symm
  refine ⟨h1,fun k hk=>⟨(h2 k hk).1,by simpa [World.setRow] using (h2 k hk).2.1,fun x hx e => ?_⟩,h1 w _ (fun k hk=>hother k (hbD k hk)) h3⟩;have hm:x.2.1 ∈ H'.map (·.2.1):=List.mem_map.2 ⟨x,hx,rfl⟩;rw [e2] at hm;obtain ⟨y,hy,hye⟩:=List.mem_map.1 hm;exact (h2 k hk).2.2 y hy (hye.trans e)
section
variable {P:Program} {n:Nat} {w0:Base} {ops:Array Oper} {Q:Exit→Act→World→Prop} {S:yU} {H:Heap}
def DoL (P:Program) (n:Nat) (w0:Base) (ops:Array Oper) (Q:Exit→Act→World→Prop) (l:List Oper) (S:yU) (H:Heap):Prop :=
 ∀ a w,Fits n S a→Knows w0 H w→wpList P ops Q l a w
def DoC (P:Program) (n:Nat) (w0:Base) (Q:Exit→Act→World→Prop) (c:Code) (S:yU) (H:Heap):Prop :=
 ∀ a w,Fits n S a→Knows w0 H w→c.wp P Q a w
def qJG (n:Nat) (w0:Base) (Q:Exit→Act→World→Prop) (e:Exit) (S:yU) (H:Heap):Prop :=
 ∀ a w,Fits n S a→Knows w0 H w→Q e a w
def DoR (P:Program) (n:Nat) (w0:Base) (Q:Exit→Act→World→Prop) (c:Code) (N:Nat) (S:yU) (H:Heap):Prop :=
 ∀ a w,Fits n S a→Knows w0 H w→Code.rounds P c Q N a w
theorem zJ {x y:Code} (h:DoC P n w0 (Exit.then (y.wp P Q) Q) x S H):DoC P n w0 Q (x.seq y) S H:=fun a w f k=>wp_seq (h a w f k)
theorem qJ {id:Nat} {l:List Oper} (h:DoL P n w0 l.toArray Q l S H):DoC P n w0 Q (.region id l.toArray false) S H:=fun a w f k=>wp_region_lit (h a w f k)
theorem zK (h:qJG n w0 Q .normal S H):DoL P n w0 ops Q [] S H:=fun a w f k=>wpList_nil (h a w f k)
theorem qZX (h:qJG n w0 Q .normal S H):DoC P n w0 Q .skip S H:=fun a w f k=>wp_skip (h a w f k)
theorem qQZ (h:qJG n w0 Q .ret S H):DoC P n w0 Q .ret S H:=fun a w f k=>wp_ret (h a w f k)
theorem doC_exit {id:Nat} (h:qJG n w0 Q (.exit id) S H):DoC P n w0 Q (.exit id) S H:=fun a w f k=>wp_exit (h a w f k)
theorem qKB {id:Nat} {c:Code} (h:DoC P n w0 (Exit.inBlock id Q) c S H):DoC P n w0 Q (.block id c) S H:=fun a w f k=>wp_block (h a w f k)
theorem qJK {c:Operand} {x y:Code} {b:Bool} (hc:ev S c=some (.bool b)) (h1:b=true→DoC P n w0 Q x S H) (h2:b=false→DoC P n w0 Q y S H) :
  DoC P n w0 Q (.cond c x y) S H:=fun a w f k=>by
 refine wp_cond (f.ev hc) ?_;cases b with
 | true=>exact h1 rfl a w f k
 | false=>exact h2 rfl a w f k
theorem qXK {c:Operand} {x y:Code} {b:Bool} (hc:ev S c=some (.bool b)) (hb:b=true) (h1:DoC P n w0 Q x S H):DoC P n w0 Q (.cond c x y) S H :=
 qJK hc (fun _=>h1) (fun h=>by rw [hb] at h; cases h)
theorem zJQ {c:Operand} {x y:Code} {b:Bool} (hc:ev S c=some (.bool b)) (hb:b=false) (h1:DoC P n w0 Q y S H):DoC P n w0 Q (.cond c x y) S H :=
 qJK hc (fun h=>by rw [hb] at h; cases h) (fun _=>h1)
theorem doC_rounds {c:Code} (N:Nat) (h:DoR P n w0 Q c N S H):DoC P n w0 Q (.loop c) S H:=fun a w f k=>wp_loop_rounds N (h a w f k)
theorem zQF {c:Code} {N:Nat} (h:DoC P n w0 (Exit.then (Code.rounds P c Q N) Q) c S H):DoR P n w0 Q c (N + 1) S H:=fun a w f k=>by
 rw [rounds_succ]; exact h a w f k
theorem qZ {y:Code} (h:DoC P n w0 Q y S H):qJG n w0 (Exit.then (y.wp P Q) Q) .normal S H:=h
theorem qXE {c:Code} {N:Nat} (h:DoR P n w0 Q c N S H):qJG n w0 (Exit.then (Code.rounds P c Q N) Q) .normal S H:=h
theorem qXD {K:Act→World→Prop} (h:qJG n w0 Q .ret S H):qJG n w0 (Exit.then K Q) .ret S H:=h
theorem qJY {K:Act→World→Prop} {id:Nat} (h:qJG n w0 Q (.exit id) S H):qJG n w0 (Exit.then K Q) (.exit id) S H:=h
theorem uV {id:Nat} (h:qJG n w0 Q .normal S H):qJG n w0 (Exit.inBlock id Q) .normal S H:=h
theorem post_block_exit {id:Nat} (h:qJG n w0 Q .normal S H):qJG n w0 (Exit.inBlock id Q) (.exit id) S H:=fun a w f k=>by
 show (if id=id then _ else _); rw [if_pos rfl]; exact h a w f k
def Yields (P:Program) (w:World) (T:Value→World→Prop):Result Next→Prop
 | .ok (.value v) w'=>Grow w w'∧T v w'
 | .ok .skip w'=>Grow w w'∧T undef w'
 | .ok (.enter f args) w'=>Grow w w'∧Calls P f args w' (fun e w''=>∃ v,e=.returned v∧Grow w' w''∧T v w'')
 | _=>False
def jQ (S:yU) (o:Oper):Bool:=o.op.operands.all fun x=>(ev S x).isSome
def zWH (o:Oper):Bool:=match o.op with | .select .. => false | _=>true
def qZV (ops:Array Oper) (S:yU) (o:Oper):Option Bool :=
 match o.guard with
 | none=>some true
 | some (j,b)=>match (ops[j]?).bind (·.dst) with
  | some d=>match look S d with
   | some (.bool c)=>some (c == b)
   | _=>none
  | none=>none
structure OpT (P:Program) (w0:Base) (S:yU) (H:Heap) (o:Oper) (T:Value→World→Prop):Prop where
 known:jQ S o=true
 nosel:zWH o=true
 run:∀ w,Knows w0 H w→Yields P w T ((execOp (evD S) o).run P w)
def OpV (P:Program) (w0:Base) (S:yU) (H:Heap) (o:Oper) (v:Value):Prop:=OpT P w0 S H o (fun u _=>u=v)
theorem noSel_spec {o:Oper} (h:zWH o=true) (cs:Array SelectCase) (b:Bool):o.op ≠ .select cs b:=by
 intro e; simp [zWH,e] at h
theorem zQE {S:yU} {a:Act} (f:Fits n S a) {o:Oper} (hk:jQ S o=true) (hs:zWH o=true):execOp a.eval o=execOp (evD S) o:=by
 refine execOp_congr o (noSel_spec hs) fun x hx => ?_
 have:=Array.all_eq_true_iff_forall_mem.1 hk x hx
 obtain ⟨v,hv⟩:=Option.isSome_iff_exists.1 this;rw [f.ev hv];simp [evD,hv]
theorem qYF {S:yU} {a:Act} (f:Fits n S a) {o:Oper} {b:Bool} (h:qZV ops S o=some b):Region.wanted o (yielded ops a.tmps)=b:=by
 unfold qZV at h;unfold Region.wanted;cases hg:o.guard with
 | none=>simp [hg] at h; simp [h]
 | some g =>
  obtain ⟨j,c⟩:=g;simp only [hg] at h ⊢;unfold yielded;cases hd:(ops[j]?).bind (·.dst) with
  | none=>simp [hd] at h
  | some d =>
   simp only [hd] at h;cases hl:look S d with
   | none=>simp [hl] at h
   | some v =>
    rw [hl] at h
    have:=f.has d v hl
    cases v <;> simp at h
    simp [this,h]
theorem doL_op {o:Oper} {rest:List Oper} {T:Value→World→Prop} (hw:qZV ops S o=some true) (ho:OpT P w0 S H o T)
  (next:∀ a w w' v,Fits n S a→Knows w0 H w→Grow w w'→T v w'→wpList P ops Q rest (a.put o.dst v) w'):DoL P n w0 ops Q (o :: rest) S H:=by
 intro a w f k;unfold wpList;rw [qYF f hw,if_pos rfl];refine .inl ?_;have hr:=ho.run w k;unfold Oper.wp;rw [zQE f ho.known ho.nosel];generalize (execOp (evD S) o).run P w=r at *;cases r with
 | ok x w' =>
  cases x <;> simp only [Yields] at hr <;> simp only [Oper.upon]
  case value v=>exact next a w w' v f k hr.1 hr.2
  case skip=>exact next a w w' undef f k hr.1 hr.2
  case enter fn args =>
   refine hr.2.mono fun e w'' ⟨v,he,hg,ht⟩ => ?_
   subst he;exact next a w w'' v f k (hr.1.trans hg) ht
 | halt x w'=>simp only [Yields] at hr
theorem qW {o:Oper} {rest:List Oper} {v:Value} {d:Nat} (ho:OpV P w0 S H o v) (hw:qZV ops S o=some true) (hd:o.dst=some d) (hn:Nat.blt d n=true)
  (next:DoL P n w0 ops Q rest ((d,v) :: S) H):DoL P n w0 ops Q (o :: rest) S H :=
 doL_op hw ho fun a w w' u f k g ht=>by
  subst ht;rw [hd];exact next _ _ (f.put hn _) (k.next g)
theorem zHC {o:Oper} {rest:List Oper} {d:Nat} (hw:qZV ops S o=some false) (hd:o.dst=some d) (hn:Nat.blt d n=true)
  (next:DoL P n w0 ops Q rest ((d,undef) :: S) H):DoL P n w0 ops Q (o :: rest) S H:=by
 intro a w f k;unfold wpList;rw [qYF f hw,if_neg (by simp),hd];exact next _ _ (f.put hn _) k
end
end Go.Sx
namespace Go.Sx
open Go.RowKit
section
variable {P:Program} {n:Nat} {w0:Base} {ops:Array Oper} {Q:Exit→Act→World→Prop} {S:yU} {H:Heap}
variable {d:Option Tmp} {ty:TypeId} {pos:String} {af:Array Edge} {g:Option (Nat × Bool)}
theorem zV {x:Operand} {v:Value} (h:ev S x=some v):evD S x=v:=by simp [evD,h]
theorem jX {o:Oper} {v:Value} (hk:jQ S o=true) (hs:zWH o=true) (h:∀ w,Knows w0 H w→(execOp (evD S) o).run P w=.ok (.value v) w):OpV P w0 S H o v :=
 ⟨hk,hs,fun w k=>by rw [h w k]; exact ⟨Grow.refl _,rfl⟩⟩
theorem qV {x:Operand} {v:Value} (hx:ev S x=some v):OpV P w0 S H ⟨d,.move x,ty,pos,af,g⟩ v :=
 jX (by simp [jQ,Op.operands,hx]) rfl fun w _=>by simp [execOp,zV hx]
theorem zQ {x:Operand} {v:Value} (hx:ev S x=some v):OpV P w0 S H ⟨d,.assign x,ty,pos,af,g⟩ v :=
 jX (by simp [jQ,Op.operands,hx]) rfl fun w _=>by simp [execOp,zV hx]
theorem opV_pick_t {c x y:Operand} {b:Bool} {v u:Value} (hc:ev S c=some (.bool b)) (hb:b=true) (hx:ev S x=some v) (hy:ev S y=some u):OpV P w0 S H ⟨d,.pick c x y,ty,pos,af,g⟩ v :=
 jX (by simp [jQ,Op.operands,hx,hc,hy]) rfl fun w _=>by simp [execOp,zV hx,zV hc,hb,asBool]
theorem opV_pick_f {c x y:Operand} {b:Bool} {v u:Value} (hc:ev S c=some (.bool b)) (hb:b=false) (hx:ev S x=some u) (hy:ev S y=some v):OpV P w0 S H ⟨d,.pick c x y,ty,pos,af,g⟩ v :=
 jX (by simp [jQ,Op.operands,hx,hc,hy]) rfl fun w _=>by simp [execOp,zV hy,zV hc,hb,asBool]
section ints
variable {x y:Operand} {k:IntKind} {m r q:Int} {t t':TypeId}
theorem qYA (hx:ev S x=some (.int k m)) (hy:ev S y=some (.int k r)) (hq:k.wrap (m + r)=q):OpV P w0 S H ⟨d,.binOp .add t x y t',ty,pos,af,g⟩ (.int k q) :=
 jX (by simp [jQ,Op.operands,hx,hy]) rfl fun w _=>by subst hq; cases k <;> simp [execOp,zV hx,zV hy,eqGuard,binOp,Op.intArith]
theorem zUC (hx:ev S x=some (.int k m)) (hy:ev S y=some (.int k r)) (hq:k.wrap (m - r)=q):OpV P w0 S H ⟨d,.binOp .sub t x y t',ty,pos,af,g⟩ (.int k q) :=
 jX (by simp [jQ,Op.operands,hx,hy]) rfl fun w _=>by subst hq; cases k <;> simp [execOp,zV hx,zV hy,eqGuard,binOp,Op.intArith]
theorem qXF (hx:ev S x=some (.int k m)) (hy:ev S y=some (.int k r)) (hq:k.wrap (m * r)=q):OpV P w0 S H ⟨d,.binOp .mul t x y t',ty,pos,af,g⟩ (.int k q) :=
 jX (by simp [jQ,Op.operands,hx,hy]) rfl fun w _=>by subst hq; cases k <;> simp [execOp,zV hx,zV hy,eqGuard,binOp,Op.intArith]
theorem zVI (hx:ev S x=some (.int k m)) (hy:ev S y=some (.int k r)) (h0:r ≠ 0) (hq:k.wrap (m.tdiv r)=q):OpV P w0 S H ⟨d,.binOp .quo t x y t',ty,pos,af,g⟩ (.int k q) :=
 jX (by simp [jQ,Op.operands,hx,hy]) rfl fun w _=>by subst hq; cases k <;> simp [execOp,zV hx,zV hy,eqGuard,binOp,Op.intDiv,h0]
theorem zYQ (hx:ev S x=some (.int k m)) (hy:ev S y=some (.int k r)) (h0:r ≠ 0) (hq:m.tmod r=q):OpV P w0 S H ⟨d,.binOp .rem t x y t',ty,pos,af,g⟩ (.int k q) :=
 jX (by simp [jQ,Op.operands,hx,hy]) rfl fun w _=>by subst hq; cases k <;> simp [execOp,zV hx,zV hy,eqGuard,binOp,Op.intDiv,h0]
theorem opV_and (hx:ev S x=some (.int k m)) (hy:ev S y=some (.int k r)) (hq:k.wrap ((BitVec.ofInt k.bits m &&& BitVec.ofInt k.bits r).toNat)=q):OpV P w0 S H ⟨d,.binOp .and t x y t',ty,pos,af,g⟩ (.int k q) :=
 jX (by simp [jQ,Op.operands,hx,hy]) rfl fun w _=>by subst hq; cases k <;> simp [execOp,zV hx,zV hy,eqGuard,binOp,Op.intBits]
theorem yYY {k':IntKind} (hx:ev S x=some (.int k m)) (hy:ev S y=some (.int k' r)) (_:0≤r) (hq:m.fdiv (2 ^ (min r.toNat k.bits))=q):OpV P w0 S H ⟨d,.binOp .shr t x y t',ty,pos,af,g⟩ (.int k q) :=
 jX (by simp [jQ,Op.operands,hx,hy]) rfl fun w _=>by
  have h1:¬ r < 0:=by omega
  subst hq; simp [execOp,zV hx,zV hy,eqGuard,binOp,Op.shift,h1]
theorem opV_shl {k':IntKind} (hx:ev S x=some (.int k m)) (hy:ev S y=some (.int k' r)) (_:0≤r) (hq:k.wrap (m * 2 ^ (min r.toNat k.bits))=q):OpV P w0 S H ⟨d,.binOp .shl t x y t',ty,pos,af,g⟩ (.int k q) :=
 jX (by simp [jQ,Op.operands,hx,hy]) rfl fun w _=>by
  have h1:¬ r < 0:=by omega
  subst hq; simp [execOp,zV hx,zV hy,eqGuard,binOp,Op.shift,h1]
theorem qKW (hx:ev S x=some (.int k m)) (hy:ev S y=some (.int k r)):OpV P w0 S H ⟨d,.binOp .lss t x y t',ty,pos,af,g⟩ (.bool (decide (m < r))) :=
 jX (by simp [jQ,Op.operands,hx,hy]) rfl fun w _=>by cases k <;> simp [execOp,zV hx,zV hy,eqGuard,binOp,Op.intCmp]
theorem opV_leq (hx:ev S x=some (.int k m)) (hy:ev S y=some (.int k r)):OpV P w0 S H ⟨d,.binOp .leq t x y t',ty,pos,af,g⟩ (.bool (decide (m≤r))) :=
 jX (by simp [jQ,Op.operands,hx,hy]) rfl fun w _=>by cases k <;> simp [execOp,zV hx,zV hy,eqGuard,binOp,Op.intCmp]
theorem opV_gtr (hx:ev S x=some (.int k m)) (hy:ev S y=some (.int k r)):OpV P w0 S H ⟨d,.binOp .gtr t x y t',ty,pos,af,g⟩ (.bool (decide (r < m))) :=
 jX (by simp [jQ,Op.operands,hx,hy]) rfl fun w _=>by cases k <;> simp [execOp,zV hx,zV hy,eqGuard,binOp,Op.intCmp]
theorem opV_geq (hx:ev S x=some (.int k m)) (hy:ev S y=some (.int k r)):OpV P w0 S H ⟨d,.binOp .geq t x y t',ty,pos,af,g⟩ (.bool (decide (r≤m))) :=
 jX (by simp [jQ,Op.operands,hx,hy]) rfl fun w _=>by cases k <;> simp [execOp,zV hx,zV hy,eqGuard,binOp,Op.intCmp]
theorem opV_eql (hx:ev S x=some (.int k m)) (hy:ev S y=some (.int k r)):OpV P w0 S H ⟨d,.binOp .eql t x y t',ty,pos,af,g⟩ (.bool (decide (m=r))) :=
 jX (by simp [jQ,Op.operands,hx,hy]) rfl fun w _=>by cases k <;> simp [execOp,zV hx,zV hy,eqGuard,binOp,Op.intCmp] <;> rfl
theorem yYJ (hx:ev S x=some (.int k m)) (hy:ev S y=some (.int k r)):OpV P w0 S H ⟨d,.binOp .neq t x y t',ty,pos,af,g⟩ (.bool (!decide (m=r))) :=
 jX (by simp [jQ,Op.operands,hx,hy]) rfl fun w _=>by cases k <;> simp [execOp,zV hx,zV hy,eqGuard,binOp,Op.intCmp] <;> rfl
theorem opV_neg (hx:ev S x=some (.int k m)) (hq:k.wrap (0 - m)=q):OpV P w0 S H ⟨d,.unOp .neg t x,ty,pos,af,g⟩ (.int k q) :=
 jX (by simp [jQ,Op.operands,hx]) rfl fun w _=>by subst hq; simp [execOp,zV hx,Op.unary,Op.intArith]
theorem zVL {b:Bool} (hx:ev S x=some (.bool b)):OpV P w0 S H ⟨d,.unOp .not t x,ty,pos,af,g⟩ (.bool (!b)) :=
 jX (by simp [jQ,Op.operands,hx]) rfl fun w _=>by simp [execOp,zV hx,Op.unary]
theorem qXI {ats:Array TypeId} (hx:ev S x=some (.int k m)) (hy:ev S y=some (.int k r)):OpV P w0 S H ⟨d,.call ⟨.builtin .min,#[x,y],ats⟩,ty,pos,af,g⟩ (.int k (min m r)) :=
 jX (by simp [jQ,Op.operands,Call.operands,hx,hy]) rfl fun w _=>by
  simp [execOp,resolve,invoke,builtin,zV hx,zV hy,Builtin.min_,Builtin.min2]; omega
theorem qXL {ats:Array TypeId} (hx:ev S x=some (.int k m)) (hy:ev S y=some (.int k r)):OpV P w0 S H ⟨d,.call ⟨.builtin .max,#[x,y],ats⟩,ty,pos,af,g⟩ (.int k (max m r)) :=
 jX (by simp [jQ,Op.operands,Call.operands,hx,hy]) rfl fun w _=>by
  simp [execOp,resolve,invoke,builtin,zV hx,zV hy,Builtin.max_,Builtin.max2]; omega
end ints
end
end Go.Sx
namespace Go.Sx
open Go.RowKit
def yKI:List Value→Nat→Option (List Value)
 | _,0=>some []
 | c :: cs,k + 1=>qVW c (yKI cs k)
 | [],_ + 1=>none
def zUQ:List Value→Nat→Nat→Option (List Value)
 | cs,0,k=>yKI cs k
 | _ :: cs,off + 1,k=>zUQ cs off k
 | [],_ + 1,_=>none
def qZD:List Value→Nat→List Value→Option (List Value)
 | cs,0,[]=>some cs
 | _ :: cs,0,v :: vs=>qVW v (qZD cs 0 vs)
 | c :: cs,off + 1,vs=>qVW c (qZD cs off vs)
 | [],0,_ :: _=>none
 | [],_ + 1,_=>none
def yUG:List Value→Option (List Value)
 | []=>some []
 | c :: cs=>qVW c (yUG cs)
theorem takeV_spec {cs:List Value} {k:Nat} {vs:List Value} (h:yKI cs k=some vs):vs=cs.take k∧k≤cs.length:=by
 induction k generalizing cs vs with
 | zero=>simp [yKI] at h; simp [h]
 | succ k ih =>
  cases cs with
  | nil=>simp [yKI] at h
  | cons c cs =>
   simp only [yKI] at h;obtain ⟨ws,hw,rfl⟩:=uG h;obtain ⟨e,hl⟩:=ih hw;simp [← e,hl]
theorem sliceV_spec {cs:List Value} {off k:Nat} {vs:List Value} (h:zUQ cs off k=some vs):vs=(cs.drop off).take k∧off + k≤cs.length:=by
 induction off generalizing cs with
 | zero =>
  have:=takeV_spec (by simpa [zUQ] using h)
  simpa using this
 | succ off ih =>
  cases cs with
  | nil=>simp [zUQ] at h
  | cons c cs =>
   have:=ih (by simpa [zUQ] using h)
   simp [this.1]; omega
theorem spliceV_spec {cs:List Value} {off:Nat} {vs cs':List Value} (h:qZD cs off vs=some cs') :
  cs'=cs.take off ++ vs ++ cs.drop (off + vs.length)∧off + vs.length≤cs.length:=by
 induction cs generalizing off vs cs' with
 | nil =>
  cases off with
  | zero=>cases vs with
   | nil=>simp [qZD] at h; simp [h]
   | cons v vs=>simp [qZD] at h
  | succ off=>simp [qZD] at h
 | cons c cs ih =>
  cases off with
  | zero=>cases vs with
   | nil=>simp [qZD] at h; simp [h]
   | cons v vs =>
    simp only [qZD] at h;obtain ⟨ws,hw,rfl⟩:=uG h;obtain ⟨e,hl⟩:=ih hw;simp at e hl ⊢;exact ⟨e,hl⟩
  | succ off =>
   simp only [qZD] at h;obtain ⟨ws,hw,rfl⟩:=uG h;obtain ⟨e,hl⟩:=ih hw;simp [e,show off + 1 + vs.length=(off + vs.length) + 1 by omega]; omega
theorem copyV_spec {cs vs:List Value} (h:yUG cs=some vs):vs=cs:=by
 induction cs generalizing vs with
 | nil=>simp [yUG] at h; exact h
 | cons c cs ih =>
  simp only [yUG] at h;obtain ⟨ws,hw,rfl⟩:=uG h;rw [ih hw]
def tyB (P:Program) (t:TypeId) (agg:Bool) (size:Nat):Bool :=
 (match P.underlying t with | some (.struct _)=>agg | some (.array _ _)=>agg | some _ => !agg | none=>false) && (match P.info? t with | some i=>i.size == size | none=>false)
def qYV (P:Program) (t:TypeId) (v:Value):Prop:=(P.info? t).bind (·.zero)=some v
def zQC (P:Program) (s f off:Nat):Bool :=
 match P.underlying s with
 | some (.struct fields)=>match fields[f]? with
  | some fld=>fld.offset == off && (match P.info? fld.type with | some i=>i.size != 0 | none=>false)
  | none=>false
 | _=>false
def arrB (P:Program) (t len size:Nat):Bool :=
 match P.underlying t with
 | some (.array l e)=>l == len && (match P.info? e with | some i=>i.size == size | none=>false)
 | _=>false
def slcB (P:Program) (t e size:Nat):Bool :=
 match P.underlying t with
 | some (.slice e')=>e' == e && (match P.info? e with | some i=>i.size == size | none=>false)
 | _=>false
section
variable {P:Program} {n:Nat} {w0:Base} {ops:Array Oper} {Q:Exit→Act→World→Prop} {S:yU} {H:Heap}
variable {d:Option Tmp} {ty:TypeId} {pos:String} {af:Array Edge} {g:Option (Nat × Bool)}
theorem qUA {t:TypeId} {agg:Bool} {size:Nat} (h:tyB P t agg size=true) (w:World):(isAgg t).run P w=.ok agg w:=by
 unfold tyB at h;cases hu:P.underlying t with
 | none=>simp [hu] at h
 | some ds=>cases ds <;> simp [hu] at h <;> simp [isAgg,run_underlying hu,h]
theorem qYQ {t:TypeId} {agg:Bool} {size:Nat} (h:tyB P t agg size=true) (w:World):(sizeOf t).run P w=.ok size w:=by
 unfold tyB at h;cases hi:P.info? t with
 | none=>simp [hi] at h
 | some i=>simp [hi] at h; simp [sizeOf,typeInfo,hi,h.2]
theorem zJE {t:TypeId} {v:Value} (h:qYV P t v) (w:World):(zeroValue t).run P w=.ok v w:=by
 unfold qYV at h;cases hi:P.info? t with
 | none=>simp [hi] at h
 | some i=>simp [hi] at h; simp [zeroValue,typeInfo,hi,h]
theorem qUG (b off k:Nat):(⟨b,off,none⟩:Addr).add k=⟨b,off + k,none⟩:=by unfold Addr.add; split <;> simp_all
theorem qGL {w:World} {b:Nat} {cs:List Value} {ty:TypeId} (h:w.heap[b]? = some (.cells cs.toArray ty)) (i:Nat):w.cell? ⟨b,i,none⟩=cs[i]?:=by
 simp [World.cell?,h]
theorem qJX {w:World} {b off k:Nat} {vs:List Value} (h:∀ i,i < k→w.cell? ⟨b,off + i,none⟩=vs[i]?) (hk:vs.length=k) :
  (loadCells ⟨b,off,none⟩ k).run P w=.ok vs.toArray w:=by
 subst hk;refine run_loadCells_list w _ vs fun j v hj => ?_
 rw [qUG,h j (by have:=(List.getElem?_eq_some_iff.1 hj).1; exact this),hj]
theorem jK {t:TypeId} {x:Operand} {b off:Nat} {cs:List Value} {ty':TypeId} {v:Value} (id:Nat) (hT:tyB P t false 1=true) (hx:ev S x=some (.pointer (some ⟨b,off,none⟩)))
  (hH:qVU H id=some (b,cs,ty')) (hv:cs[off]? = some v):OpV P w0 S H ⟨d,.load t x,ty,pos,af,g⟩ v :=
 jX (by simp [jQ,Op.operands,hx]) rfl fun w k=>by
  have:=qGL (k.at hH).2 off
  simp [execOp,zV hx,Instr.loadAt,Instr.sureAddr,loadVar,qUA hT,this,hv]
theorem qKV {t:TypeId} {x:Operand} {b off sz:Nat} {cs vs:List Value} {ty':TypeId} (id:Nat) (hT:tyB P t true sz=true) (hx:ev S x=some (.pointer (some ⟨b,off,none⟩)))
  (hH:qVU H id=some (b,cs,ty')) (hv:zUQ cs off sz=some vs):OpV P w0 S H ⟨d,.load t x,ty,pos,af,g⟩ (.agg vs.toArray) :=
 jX (by simp [jQ,Op.operands,hx]) rfl fun w k=>by
  obtain ⟨e,hl⟩:=sliceV_spec hv;have hr:=qJX (P:=P) (w:=w) (b:=b) (off:=off) (k:=sz) (vs:=vs) (fun i hi=>by
   rw [qGL (k.at hH).2,e,vZV,if_pos hi,List.getElem?_drop]) (by rw [e]; simp; omega)
  simp [execOp,zV hx,Instr.loadAt,Instr.sureAddr,loadVar,qUA hT,qYQ hT,hr]
theorem opV_load1_old {t:TypeId} {x:Operand} {b off:Nat} {v:Value} (hT:tyB P t false 1=true) (hx:ev S x=some (.pointer (some ⟨b,off,none⟩)))
  (hb:b < w0.w.heap.size) (hv:w0.w.cell? ⟨b,off,none⟩=some v):OpV P w0 S H ⟨d,.load t x,ty,pos,af,g⟩ v :=
 jX (by simp [jQ,Op.operands,hx]) rfl fun w k=>by
  have:w.cell? ⟨b,off,none⟩=some v:=by rw [k.grow.cell (p:=⟨b,off,none⟩) hb,hv]
  simp [execOp,zV hx,Instr.loadAt,Instr.sureAddr,loadVar,qUA hT,this]
theorem opV_loadA_old {t:TypeId} {x:Operand} {b off sz:Nat} {vs:List Value} (hT:tyB P t true sz=true) (hx:ev S x=some (.pointer (some ⟨b,off,none⟩)))
  (hb:b < w0.w.heap.size) (hl:Nat.beq vs.length sz=true) (hv:∀ i,i < sz→w0.w.cell? ⟨b,off + i,none⟩=vs[i]?):OpV P w0 S H ⟨d,.load t x,ty,pos,af,g⟩ (.agg vs.toArray) :=
 jX (by simp [jQ,Op.operands,hx]) rfl fun w k=>by
  have hr:=qJX (P:=P) (w:=w) (b:=b) (off:=off) (k:=sz) (vs:=vs) (fun i hi=>by
   rw [k.grow.cell (p:=⟨b,off + i,none⟩) hb]; exact hv i hi) (vQX hl)
  simp [execOp,zV hx,Instr.loadAt,Instr.sureAddr,loadVar,qUA hT,qYQ hT,hr]
theorem qZL {t:TypeId} {x y:Operand} {b off sz:Nat} {agg:Bool} {cs cs':List Value} {ty':TypeId} {v:Value} {H':Heap} {rest:List Oper} (id:Nat)
  (hT:tyB P t agg sz=true) (hx:ev S x=some (.pointer (some ⟨b,off,none⟩))) (hy:ev S y=some v)
  (hw:qZV ops S ⟨none,.store t x y,ty,pos,af,g⟩=some true)
  (hH:qVU H id=some (b,cs,ty')) (hz:Nat.beq v.cells.size sz=true) (h1:v.cells.toList.all Value.oneCell'=true)
  (hs:qZD cs off v.cells.toList=some cs') (hu:updH H id cs'=some H') (next:DoL P n w0 ops Q rest S H') :
  DoL P n w0 ops Q (⟨none,.store t x y,ty,pos,af,g⟩ :: rest) S H:=by
 intro a w f k;unfold wpList;rw [qYF f hw,if_pos rfl];refine .inl ?_;obtain ⟨e,hl⟩:=spliceV_spec hs;have hst:=run_storeCells_at P b off ty' v.cells.toList 0 cs.toArray w (k.at hH).2 (by simpa using hl) (fun u hu=>List.all_eq_true.1 h1 u hu);have hz':=vQX hz;have hrun:(execOp a.eval ⟨none,.store t x y,ty,pos,af,g⟩).run P w=.ok .skip (w.setRow b cs'.toArray):=by
  simp only [Nat.add_zero] at hst;rw [← e] at hst;simp [execOp,f.ev hx,f.ev hy,Instr.storeAt,Instr.sureAddr,storeVar,qYQ hT,hz',hst]
 unfold Oper.wp;rw [hrun];exact next _ _ f (k.set hH hu)
theorem doL_new {o:Oper} {rest:List Oper} {dd:Nat} {cs:List Value} {ty':TypeId} (id:Nat) (hk:jQ S o=true) (hsel:zWH o=true) (hw:qZV ops S o=some true) (hd:o.dst=some dd) (hn:Nat.blt dd n=true)
  (hrun:∀ w,(execOp (evD S) o).run P w=.ok (.value (.pointer (some ⟨w.heap.size,0,none⟩))) (w.alloc (.cells cs.toArray ty')))
  (next:∀ b,DoL P n w0 ops Q rest ((dd,.pointer (some ⟨b,0,none⟩)) :: S) ((id,b,cs,ty') :: H)):DoL P n w0 ops Q (o :: rest) S H:=by
 intro a w f k;unfold wpList;rw [qYF f hw,if_pos rfl];refine .inl ?_;unfold Oper.wp;rw [zQE f hk hsel,hrun w];simp only [Oper.upon,hd];exact next _ _ _ (f.put hn _) (k.alloc id cs ty')
theorem qKA {t:TypeId} {dd:Nat} {rest:List Oper} {z:Value} {cs:List Value} (id:Nat) (hz:qYV P t z) (hc:yUG z.cells.toList=some cs)
  (hw:qZV ops S ⟨some dd,.alloc t,ty,pos,af,g⟩=some true) (hn:Nat.blt dd n=true)
  (next:∀ b,DoL P n w0 ops Q rest ((dd,.pointer (some ⟨b,0,none⟩)) :: S) ((id,b,cs,t) :: H)):DoL P n w0 ops Q (⟨some dd,.alloc t,ty,pos,af,g⟩ :: rest) S H :=
 doL_new id (by simp [jQ,Op.operands]) rfl hw rfl hn (fun _=>by
  have:=copyV_spec hc
  subst this;simp [execOp,Instr.alloc,zJE hz,newVar,newRow]) next
theorem qGF {t:TypeId} {dd:Nat} {rest:List Oper} {x:Operand} {v:Value} {cs:List Value} (id:Nat) (hx:ev S x=some v) (hc:yUG v.cells.toList=some cs)
  (hw:qZV ops S ⟨some dd,.box t x,ty,pos,af,g⟩=some true) (hn:Nat.blt dd n=true)
  (next:∀ b,DoL P n w0 ops Q rest ((dd,.pointer (some ⟨b,0,none⟩)) :: S) ((id,b,cs,t) :: H)):DoL P n w0 ops Q (⟨some dd,.box t x,ty,pos,af,g⟩ :: rest) S H :=
 doL_new id (by simp [jQ,Op.operands,hx]) rfl hw rfl hn (fun _=>by
  have:=copyV_spec hc
  subst this;simp [execOp,Instr.box,zV hx,newVar,newRow]) next
theorem zX {s f off off':Nat} {x:Operand} {b:Nat} (hF:zQC P s f off'=true) (hx:ev S x=some (.pointer (some ⟨b,off,none⟩))) :
  OpV P w0 S H ⟨d,.fieldAddr s x f,ty,pos,af,g⟩ (.pointer (some ⟨b,off + off',none⟩)) :=
 jX (by simp [jQ,Op.operands,hx]) rfl fun w _=>by
  unfold zQC at hF;cases hu:P.underlying s with
  | none=>simp [hu] at hF
  | some ds =>
   cases ds <;> simp [hu] at hF
   rename_i fields;cases hf:fields[f]? with
   | none=>simp [hf] at hF
   | some fld =>
    simp [hf] at hF;obtain ⟨h1,h2⟩:=hF;cases hi:P.info? fld.type with
    | none=>simp [hi] at h2
    | some i =>
     simp [hi] at h2;subst h1;simp [execOp,zV hx,Instr.fieldAt,Instr.sureAddr,run_underlying hu,hf,fieldPlace,sizeOf,typeInfo,hi,h2,qUG]
theorem qWQ {t len size off:Nat} {x y:Operand} {b:Nat} {k:IntKind} {i:Int} (hA:arrB P t len size=true) (hx:ev S x=some (.pointer (some ⟨b,off,none⟩)))
  (hy:ev S y=some (.int k i)) (h0:0≤i) (h1:i < len):OpV P w0 S H ⟨d,.indexAddr t x y,ty,pos,af,g⟩ (.pointer (some ⟨b,off + i.toNat * size,none⟩)) :=
 jX (by simp [jQ,Op.operands,hx,hy]) rfl fun w _=>by
  unfold arrB at hA;cases hu:P.underlying t with
  | none=>simp [hu] at hA
  | some ds =>
   cases ds <;> simp [hu] at hA
   rename_i l e;obtain ⟨rfl,h2⟩:=hA;cases hi:P.info? e with
   | none=>simp [hi] at h2
   | some inf =>
    simp [hi] at h2;subst h2;simp [execOp,zV hx,zV hy,Instr.indexAt,Instr.sureAddr,asIntOf,run_underlying hu,h0,h1,sizeOf,typeInfo,hi,qUG]
theorem qJJ {t e size off len cap:Nat} {x y:Operand} {b:Nat} {k:IntKind} {i:Int} (hA:slcB P t e size=true) (hx:ev S x=some (.slice (some ⟨b,off,none⟩) len cap))
  (hy:ev S y=some (.int k i)) (h0:0≤i) (h1:i < len):OpV P w0 S H ⟨d,.indexAddr t x y,ty,pos,af,g⟩ (.pointer (some ⟨b,off + i.toNat * size,none⟩)) :=
 jX (by simp [jQ,Op.operands,hx,hy]) rfl fun w _=>by
  unfold slcB at hA;cases hu:P.underlying t with
  | none=>simp [hu] at hA
  | some ds =>
   cases ds <;> simp [hu] at hA
   rename_i e';obtain ⟨rfl,h2⟩:=hA;cases hi:P.info? e' with
   | none=>simp [hi] at h2
   | some inf =>
    simp [hi] at h2;subst h2;simp [execOp,zV hx,zV hy,Instr.indexAt,asIntOf,run_underlying hu,h0,h1,sizeOf,typeInfo,hi,qUG]
theorem opV_len_slice {t e size:Nat} {x:Operand} {a:Option Addr} {len cap:Nat} (hA:slcB P t e size=true) (hx:ev S x=some (.slice a len cap)) :
  OpV P w0 S H ⟨d,.call ⟨.builtin .len,#[x],#[t]⟩,ty,pos,af,g⟩ (.int .i64 (len:Int)) :=
 jX (by simp [jQ,Op.operands,Call.operands,hx]) rfl fun w _=>by
  unfold slcB at hA;cases hu:P.underlying t with
  | none=>simp [hu] at hA
  | some ds =>
   cases ds <;> simp [hu] at hA
   simp [execOp,resolve,invoke,builtin,zV hx,Builtin.len_,run_underlying hu,goInt]
theorem opV_extract {x:Operand} {vs:Array Value} {i:Nat} {v:Value} (hx:ev S x=some (.tuple vs)) (hv:vs[i]? = some v):OpV P w0 S H ⟨d,.extract x i,ty,pos,af,g⟩ v :=
 jX (by simp [jQ,Op.operands,hx]) rfl fun w _=>by simp [execOp,zV hx,Instr.extract,hv]
end
end Go.Sx
namespace Go.Sx
open Go.RowKit
def Rets (v:Value) (w:World) (e:Ending) (w':World):Prop:=e=.returned v∧Grow w w'
def RetsT (T:Value→World→Prop) (w:World) (e:Ending) (w':World):Prop:=∃ v,e=.returned v∧Grow w w'∧T v w'
def uQ (P:Program) (f:FuncId):Prop:=∀ args w,(callFunc f args).run P w=.ok (.enter f args) w
theorem qU {P:Program} {f:FuncId} {fn:Func} (hf:P.funcs[f]? = some fn) (h1:(fn.name == "runtime.NumGoroutine")=false) (h2:fn.body.isNone=false):uQ P f:=by
 intro args w;have h1':¬ fn.name = "runtime.NumGoroutine" := by simpa using h1
 have h2':¬ fn.body=none:=fun e=>by simp [e] at h2
 simp only [callFunc,program,Sem.run_bind];simp [Sem.run,hf,h1',h2']
section
variable {P:Program} {n:Nat} {w0:Base} {ops:Array Oper} {Q:Exit→Act→World→Prop} {S:yU} {H:Heap}
variable {d:Option Tmp} {ty:TypeId} {pos:String} {af:Array Edge} {g:Option (Nat × Bool)}
theorem qVL {xs:List Operand} {vs:List Value} (h:evs S xs=some vs):xs.map (evD S)=vs∧∀ x ∈ xs,(ev S x).isSome=true:=by
 induction xs generalizing vs with
 | nil=>simp [evs] at h; simp [h]
 | cons x xs ih =>
  simp only [evs] at h;cases hx:ev S x with
  | none=>simp [hx] at h
  | some v =>
   simp only [hx] at h;obtain ⟨ws,hw,rfl⟩:=uG h;obtain ⟨e,ha⟩:=ih hw;refine ⟨by simp [zV hx,e],fun y hy => ?_⟩;rcases List.mem_cons.1 hy with rfl | hy
   ·simp [hx]
   ·exact ha y hy
theorem opT_call {f:FuncId} {xs:List Operand} {ats:Array TypeId} {vs:List Value} {T:Value→World→Prop} (he:uQ P f) (ha:evs S xs=some vs)
  (hc:∀ w,Knows w0 H w→Calls P f vs.toArray w (RetsT T w)):OpT P w0 S H ⟨d,.call ⟨.value (.func f),xs.toArray,ats⟩,ty,pos,af,g⟩ T:=by
 obtain ⟨e,hk⟩:=qVL ha;refine ⟨?_,rfl,fun w k => ?_⟩
 ·simp only [jQ,Op.operands,Call.operands];rw [vYY];intro x hx;simp at hx;rcases hx with rfl | hx
  ·rfl
  ·exact hk x hx
 ·have hrun:(execOp (evD S) ⟨d,.call ⟨.value (.func f),xs.toArray,ats⟩,ty,pos,af,g⟩).run P w=.ok (.enter f vs.toArray) w:=by
   have h2:evD S (.func f)=.func (.func f) #[] #[]:=rfl;have h3:=he vs.toArray w;simp [execOp,resolve,h2,Deferred.ofValue,invoke,e,h3]
  rw [hrun];exact ⟨Grow.refl _,(hc w k).mono fun _ _ h=>h⟩
theorem uK {f:FuncId} {xs:List Operand} {ats:Array TypeId} {vs:List Value} {v:Value} (he:uQ P f) (ha:evs S xs=some vs)
  (hc:∀ w,Knows w0 H w→Calls P f vs.toArray w (Rets v w)):OpV P w0 S H ⟨d,.call ⟨.value (.func f),xs.toArray,ats⟩,ty,pos,af,g⟩ v :=
 opT_call he ha fun w k=>(hc w k).mono fun _ _ h=>⟨v,h.1,h.2,rfl⟩
def initS:Nat→List Value→yU
 | _,[]=>[]
 | k,v :: vs=>(k,v) :: initS (k + 1) vs
theorem look_initS {vs:List Value} {k t:Nat} {v:Value} (h:look (initS k vs) t=some v):k≤t∧vs[t - k]? = some v:=by
 induction vs generalizing k with
 | nil=>cases h
 | cons u vs ih =>
  simp only [initS] at h;by_cases e:k=t
  ·subst e; rw [uX] at h; simpa using h
  ·rw [qQU _ _ e] at h;obtain ⟨h1,h2⟩:=ih h;refine ⟨by omega,?_⟩;rw [show t - k=(t - (k + 1)) + 1 by omega]
   simpa using h2
theorem jW {f:FuncId} {fn:Func} {c:Code} {args:List Value} {w:World} {R:Ending→World→Prop} (hf:P.funcs[f]? = some fn) (hb:fn.body=some c) (hn:fn.ntmps=n)
  (hle:Nat.ble args.length n=true) (h:DoC P n ⟨w,[]⟩ (bodyPost P fn R) c (initS 0 args) []):Calls P f args.toArray w R:=by
 have hle':args.length≤n:=vZX hle;refine calls_of_wp hf hb (h _ _ ⟨by simp [hn]; omega,rfl,fun t v ht => ?_⟩ (Knows.nil (Grow.refl _)));obtain ⟨_,h2⟩:=look_initS ht;have hlt:=(List.getElem?_eq_some_iff.1 h2).1;simp at hlt;simp only [Nat.sub_zero] at h2;simp [Array.getElem?_append,hlt];rw [vQK hlt] at h2
 simpa using h2
def yVQ (P:Program) (S:yU) (H:Heap):ResultVar→Value→Prop
 | .tmp t,v=>look S t=some v
 | .cell a t,v=>∃ b cs ty id,look S a=some (.pointer (some ⟨b,0,none⟩))∧qVU H id=some (b,cs,ty)∧tyB P t true cs.length=true∧v=.agg cs.toArray
def zWZ (P:Program) (S:yU) (H:Heap):List ResultVar→List Value→Prop
 | [],[]=>True
 | r :: rs,v :: vs=>yVQ P S H r v∧zWZ P S H rs vs
 | _,_=>False
theorem uH {t:Nat} {v:Value} (h:look S t=some v):yVQ P S H (.tmp t) v:=h
theorem qYU {a t b sz:Nat} {cs:List Value} {ty:TypeId} (id:Nat) (h:look S a=some (.pointer (some ⟨b,0,none⟩))) (hH:qVU H id=some (b,cs,ty)) (hT:tyB P t true sz=true) (hl:Nat.beq cs.length sz=true) :
  yVQ P S H (.cell a t) (.agg cs.toArray):=⟨b,cs,ty,id,h,hH,by rw [vQX hl]; exact hT,rfl⟩
theorem resN:zWZ P S H [] []:=trivial
theorem resC {r:ResultVar} {rs:List ResultVar} {v:Value} {vs:List Value} (h:yVQ P S H r v) (hs:zWZ P S H rs vs):zWZ P S H (r :: rs) (v :: vs):=⟨h,hs⟩
def resF (tmps:Array Value):ResultVar→Sem Value
 | .tmp t=>pure (tmps.getD t undef)
 | .cell x t=>do loadVar t (← asAddr (tmps.getD x undef))
theorem run_res {a:Act} {w:World} (f:Fits n S a) (k:Knows w0 H w) {r:ResultVar} {v:Value} (h:yVQ P S H r v):(resF a.tmps r).run P w=.ok v w:=by
 cases r with
 | tmp t =>
  have:=f.has t v h
  simp [resF,Array.getD_eq_getD_getElem?,this]
 | cell x t =>
  obtain ⟨b,cs,ty,id,h1,h2,h3,rfl⟩:=h
  have:=f.has _ _ h1
  have hr:=qJX (P:=P) (w:=w) (b:=b) (off:=0) (k:=cs.length) (vs:=cs) (fun i _=>by rw [qGL (k.at h2).2]; simp) rfl;simp [resF,Array.getD_eq_getD_getElem?,this,asAddr,loadVar,qUA h3,qYQ h3,hr]
theorem run_results {a:Act} {w:World} (f:Fits n S a) (k:Knows w0 H w):∀ {rs:List ResultVar} {vs:List Value},zWZ P S H rs vs →
  (rs.mapM (resF a.tmps)).run P w=.ok vs w
 | [],[],_=>by simp
 | r :: rs,v :: vs,h=>by
  have h1:=run_res f k h.1;have h2:=run_results f k h.2;simp [List.mapM_cons,Sem.run_bind,h1,h2]
 | [],_ :: _,h=>h.elim
 | _ :: _,[],h=>h.elim
def valOf:List Value→Value
 | [v]=>v
 | vs=>.tuple vs.toArray
theorem post_ret {fn:Func} {R:Ending→World→Prop} {rs:List ResultVar} {vs:List Value} {v:Value} (hr:fn.results=rs.toArray) (hv:zWZ P S H rs vs) (hval:valOf vs=v)
  (hR:∀ w,Knows w0 H w→R (.returned v) w):qJG n w0 (bodyPost P fn R) .ret S H:=by
 intro a w f k;refine ⟨f.defers,v,?_,hR w k⟩;have h:=run_results f k hv;unfold results;rw [hr];change Sem.run P (do let us ← rs.toArray.mapM (resF a.tmps); pure (if h:us.size=1 then us[0] else .tuple us)) w=_;simp only [Sem.run_bind,List.mapM_toArray,Sem.run_map,h,Result.andThen_ok];subst hval
 match vs with
 | []=>rfl
 | [v]=>rfl
 | v :: u :: vs=>simp [valOf]
theorem jH {fn:Func} {rs:List ResultVar} {vs:List Value} {v:Value} (hr:fn.results=rs.toArray) (hv:zWZ P S H rs vs) (hval:valOf vs=v) :
  qJG n w0 (bodyPost P fn (Rets v w0.w)) .ret S H:=post_ret hr hv hval fun _ k=>⟨rfl,k.grow⟩
def zXH (ks:List Nat):yU→Option yU
 | []=>some []
 | (k,v) :: S=>bif ks.any (Nat.beq k) then qVW (k,v) (zXH (ks.filter fun x => !Nat.beq k x) S) else zXH ks S
theorem zYC {ks:List Nat} {S S':yU} (h:zXH ks S=some S'):∀ t v,look S' t=some v→look S t=some v∧t ∈ ks:=by
 induction S generalizing ks S' with
 | nil=>simp [zXH] at h; subst h; intro t v ht; cases ht
 | cons x S ih =>
  obtain ⟨k,u⟩:=x;intro t v ht;simp only [zXH] at h;cases hb:ks.any (Nat.beq k) with
  | true =>
   rw [hb] at h;obtain ⟨S2,h2,rfl⟩:=uG h;by_cases e:k=t
   ·subst e;rw [uX] at ht ⊢;obtain ⟨y,hy,he⟩:=List.any_eq_true.1 hb;rw [vQX he];exact ⟨ht,hy⟩
   ·rw [qQU _ _ e] at ht ⊢;obtain ⟨h3,h4⟩:=ih h2 t v ht;exact ⟨h3,(List.mem_filter.1 h4).1⟩
  | false =>
   rw [hb] at h; simp at h;obtain ⟨h3,h4⟩:=ih h t v ht;have e:k ≠ t:=fun e=>by
    subst e
    have:=List.any_eq_false.1 hb k h4
    simp at this
   exact ⟨by rw [qQU _ _ e]; exact h3,h4⟩
theorem Fits.keep {ks:List Nat} {S':yU} {a:Act} (f:Fits n S a) (h:zXH ks S=some S'):Fits n S' a :=
 ⟨f.size,f.defers,fun t v ht=>f.has t v (zYC h t v ht).1⟩
def yYL (ks:List Nat):Heap→Option Heap
 | []=>some []
 | (k,x) :: H=>bif ks.any (Nat.beq k) then qVW (k,x) (yYL ks H) else yYL ks H
theorem zXA {ks:List Nat} {H H':Heap} (h:yYL ks H=some H'):H'.Sublist H:=by
 induction H generalizing H' with
 | nil=>simp [yYL] at h; subst h; exact List.nil_sublist _
 | cons x H ih =>
  obtain ⟨k,x⟩:=x;simp only [yYL] at h;cases hb:ks.any (Nat.beq k) with
  | true =>
   rw [hb] at h;obtain ⟨H2,h2,rfl⟩:=uG h;exact (ih h2).cons_cons _
  | false=>rw [hb] at h; simp at h; exact (ih h).cons _
theorem Knows.keep {ks:List Nat} {H':Heap} {w:World} (k:Knows w0 H w) (h:yYL ks H=some H'):Knows w0 H' w :=
 ⟨k.grow,fun x hx=>k.has x ((zXA h).mem hx),((zXA h).map _).nodup k.nodup,fun F hF=>(k.facts F hF).heap fun x hx=>.inl ⟨x,(zXA h).mem hx,rfl⟩,k.apart⟩
end
end Go.Sx
namespace Go.Sx
open Go.RowKit
abbrev Pred:=Value→World→Prop
def yWI (T:Pred):Prop:=∀ v w w',T v w→Grow w w'→T v w'
def isV (v:Value):Pred:=fun u _=>u=v
theorem stable_isV (v:Value):yWI (isV v):=fun _ _ _ h _=>h
abbrev qQV:=List (Nat × Bool × Pred)
def yZZ:qQV→Nat→Option Pred
 | [],_=>none
 | (k,_,T) :: G,t=>bif Nat.beq k t then some T else yZZ G t
theorem lookG_cons_ne {k t:Nat} (m:Bool) (T:Pred) (G:qQV) (h:k ≠ t):yZZ ((k,m,T) :: G) t=yZZ G t:=by
 have:Nat.beq k t=false:=by
  cases hb:Nat.beq k t with
  | false=>rfl
  | true=>exact absurd (vQX hb) h
 simp [yZZ,this]
theorem lookG_cons_same (k:Nat) (m:Bool) (T:Pred) (G:qQV):yZZ ((k,m,T) :: G) k=some T:=by simp [yZZ]
section
variable {P:Program} {n:Nat} {w0:Base} {ops:Array Oper} {Q:Exit→Act→World→Prop} {H:Heap}
def yKD (S:yU) (G:qQV) (a:Act) (w:World) (t:Nat):Prop :=
 (∀ v,look S t=some v→a.tmps[t]? = some v)∧(∀ T,yZZ G t=some T→∃ u,a.tmps[t]? = some u∧T u w)
def OpA (P:Program) (n:Nat) (w0:Base) (ops:Array Oper) (H:Heap) (S:yU) (G:qQV) (o:Oper) (T:Pred):Prop :=
 ∀ a w,a.tmps.size=n→(∀ t ∈ o.looksAt ops,yKD S G a w t)→Knows w0 H w →
  (if Region.wanted o (yielded ops a.tmps) then Yields P w T ((execOp a.eval o).run P w) else T undef w)
def yVW (P:Program) (n:Nat) (w0:Base) (ops:Array Oper) (H:Heap) (S:yU) (G:qQV) (o:Oper):Prop :=
 ∀ a w,a.tmps.size=n→(∀ t ∈ o.looksAt ops,yKD S G a w t)→Knows w0 H w →
  Region.wanted o (yielded ops a.tmps)=true∧∃ ob,(execOp a.eval o).run P w=.ok (.value (.pointer (some ⟨w.heap.size,0,none⟩))) (w.alloc ob)
def jQH (H:Heap) (T:Pred):Prop:=∀ u w,T u w→∃ b,u=.pointer (some ⟨b,0,none⟩)∧b < w.heap.size∧∀ x ∈ H,x.2.1 ≠ b
def DoG (P:Program) (n:Nat) (w0:Base) (ops:Array Oper) (H:Heap) (K:yU→qQV→Prop):List Oper→yU→qQV→Prop
 | [],S,G=>K S G
 | o :: l,S,G=>∃ d T,o.dst=some d∧d < n∧zWH o=true∧yWI T∧OpA P n w0 ops H S G o T ∧
   ((∃ v,T=isV v∧DoG P n w0 ops H K l ((d,v) :: S) G) ∨ (look S d=none∧DoG P n w0 ops H K l S ((d,false,T) :: G)) ∨
     (look S d=none∧yVW P n w0 ops H S G o∧jQH H T∧DoG P n w0 ops H K l S ((d,true,T) :: G)))
structure Cert where
 d:Nat
 T:Pred
 al:Bool
 S:yU
 G:qQV
structure CertOk (P:Program) (n:Nat) (w0:Base) (ops:Array Oper) (H:Heap) (o:Oper) (c:Cert):Prop where
 dst:o.dst=some c.d
 lt:c.d < n
 nosel:zWH o=true
 stable:yWI c.T
 op:OpA P n w0 ops H c.S c.G o c.T
 al:c.al=true→yVW P n w0 ops H c.S c.G o∧jQH H c.T
structure Stems (S0:yU) (cs:List Cert) (S:yU) (G:qQV):Prop where
 slots:∀ t v,look S t=some v→(∃ c ∈ cs,c.d=t∧c.T=isV v) ∨ (look S0 t=some v∧∀ c ∈ cs,c.d ≠ t)
 ghosts:∀ t T,yZZ G t=some T→∃ c ∈ cs,c.d=t∧c.T=T
theorem doG_certs {K:yU→qQV→Prop} {S0:yU}:∀ (l:List Oper) (S:yU) (G:qQV) (pre:List Cert),Stems S0 pre S G→DoG P n w0 ops H K l S G →
  ∃ cs:List Cert,cs.length=l.length∧(∀ i o c,l[i]? = some o→cs[i]? = some c→CertOk P n w0 ops H o c∧Stems S0 (pre ++ cs.take i) c.S c.G) ∧
   ∃ S' G',Stems S0 (pre ++ cs) S' G'∧K S' G'∧(∀ x ∈ G',x ∈ G ∨ ∃ c ∈ cs,x=(c.d,c.al,c.T))
 | [],S,G,pre,hs,h=>⟨[],rfl,fun i o c hi=>by simp at hi,S,G,by simpa using hs,h,fun x hx=>.inl hx⟩
 | o :: l,S,G,pre,hs,h=>by
  obtain ⟨d,T,hd,hn,hsel,hst,hop,hk⟩:=h;have main:∀ (c:Cert) (S1:yU) (G1:qQV),c.S=S→c.G=G→CertOk P n w0 ops H o c→Stems S0 (pre ++ [c]) S1 G1→(∀ x ∈ G1,x ∈ G ∨ x=(c.d,c.al,c.T))→DoG P n w0 ops H K l S1 G1 →
    ∃ cs:List Cert,cs.length=(o :: l).length∧(∀ i o' c,(o :: l)[i]? = some o'→cs[i]? = some c→CertOk P n w0 ops H o' c∧Stems S0 (pre ++ cs.take i) c.S c.G) ∧
     ∃ S' G',Stems S0 (pre ++ cs) S' G'∧K S' G'∧(∀ x ∈ G',x ∈ G ∨ ∃ c ∈ cs,x=(c.d,c.al,c.T)):=by
   intro c S1 G1 e1 e2 hc hst1 hG1 hrest;obtain ⟨cs,hl,hall,S',G',h1,h2,h3⟩:=doG_certs l S1 G1 (pre ++ [c]) hst1 hrest;refine ⟨c :: cs,by simp [hl],fun i o' c' hi hc' => ?_,S',G',by simpa using h1,h2,fun x hx => ?_⟩
   ·cases i with
    | zero =>
     simp at hi hc';subst hi; subst hc';exact ⟨hc,by simpa [e1,e2] using hs⟩
    | succ i =>
     simp at hi hc';obtain ⟨q1,q2⟩:=hall i o' c' hi hc';exact ⟨q1,by simpa using q2⟩
   ·rcases h3 x hx with h | ⟨c',hc',he⟩
    ·rcases hG1 x h with h | h
     ·exact .inl h
     ·exact .inr ⟨c,by simp,h⟩
    ·exact .inr ⟨c',by simp [hc'],he⟩
  have gh:∀ (al:Bool),look S d=none→Stems S0 (pre ++ [⟨d,T,al,S,G⟩]) S ((d,al,T) :: G):=fun al hno=>⟨fun t u ht=>by
    have hdt:d ≠ t:=fun e=>by subst e; rw [hno] at ht; cases ht
    rcases hs.slots t u ht with ⟨c,hc,h⟩ | ⟨h,h'⟩
    ·exact .inl ⟨c,by simp [hc],h⟩
    ·refine .inr ⟨h,fun c hc => ?_⟩;rcases List.mem_append.1 hc with hc | hc
     ·exact h' c hc
     ·simp at hc; subst hc; exact hdt,fun t U ht=>by
    by_cases e:d=t
    ·subst e;rw [lookG_cons_same] at ht;cases ht;exact ⟨⟨d,T,al,S,G⟩,by simp,rfl,rfl⟩
    ·rw [lookG_cons_ne _ _ _ e] at ht;obtain ⟨c,hc,h⟩:=hs.ghosts t U ht;exact ⟨c,by simp [hc],h⟩⟩
  have gm:∀ (al:Bool),∀ x ∈ ((d,al,T) :: G:qQV),x ∈ G ∨ x=(d,al,T):=fun al x hx=>by
   rcases List.mem_cons.1 hx with h | h
   ·exact .inr h
   ·exact .inl h
  rcases hk with ⟨v,rfl,hrest⟩ | ⟨hno,hrest⟩ | ⟨hno,hal,hp,hrest⟩
  ·refine main ⟨d,isV v,false,S,G⟩ ((d,v) :: S) G rfl rfl ⟨hd,hn,hsel,hst,hop,fun h=>by cases h⟩ ⟨fun t u ht => ?_,fun t T ht => ?_⟩ (fun x hx=>.inl hx) hrest
   ·by_cases e:d=t
    ·subst e;rw [uX] at ht;cases ht;exact .inl ⟨⟨d,isV v,false,S,G⟩,by simp,rfl,rfl⟩
    ·rw [qQU _ _ e] at ht;rcases hs.slots t u ht with ⟨c,hc,h⟩ | ⟨h,h'⟩
     ·exact .inl ⟨c,by simp [hc],h⟩
     ·refine .inr ⟨h,fun c hc => ?_⟩;rcases List.mem_append.1 hc with hc | hc
      ·exact h' c hc
      ·simp at hc; subst hc; exact e
   ·obtain ⟨c,hc,h⟩:=hs.ghosts t T ht;exact ⟨c,by simp [hc],h⟩
  ·exact main ⟨d,T,false,S,G⟩ S ((d,false,T) :: G) rfl rfl ⟨hd,hn,hsel,hst,hop,fun h=>by cases h⟩ (gh false hno) (gm false) hrest
  ·exact main ⟨d,T,true,S,G⟩ S ((d,true,T) :: G) rfl rfl ⟨hd,hn,hsel,hst,hop,fun _=>⟨hal,hp⟩⟩ (gh true hno) (gm true) hrest
def qYH (listed:Array Bool):Nat→Nat
 | 0=>0
 | k + 1=>qYH listed k + (if listed.getD k true then 0 else 1)
theorem undone_set_ge {listed:Array Bool} {i:Nat}:∀ {N:Nat},N≤i→qYH (listed.setIfInBounds i true) N=qYH listed N
 | 0,_=>rfl
 | k + 1,h=>by
  simp only [qYH];rw [undone_set_ge (by omega),getD_set_ne true (by omega)]
theorem zZH {listed:Array Bool} {i:Nat} (hi:listed.getD i true=false):∀ {N:Nat},i < N→qYH listed N=qYH (listed.setIfInBounds i true) N + 1
 | 0,h=>by omega
 | k + 1,h=>by
  have hlt:i < listed.size:=by
   rcases Nat.lt_or_ge i listed.size with h' | h'
   ·exact h'
   ·simp [Array.getElem?_eq_none h'] at hi
  simp only [qYH];by_cases e:i=k
  ·subst e;rw [undone_set_ge (Nat.le_refl _),hi];simp [hlt]
  ·rw [zZH hi (show i < k by omega),getD_set_ne true e];omega
theorem qXX {listed:Array Bool}:∀ {N:Nat},qYH listed N=0→∀ i,i < N→listed.getD i true=true
 | 0,_,i,hi=>by omega
 | k + 1,h,i,hi=>by
  simp only [qYH] at h;by_cases e:i=k
  ·subst e;cases hb:listed.getD i true with
   | true=>rfl
   | false=>rw [hb] at h; simp at h
  ·exact qXX (N:=k) (by omega) i (by omega)
theorem qWF {listed:Array Bool}:∀ {N:Nat},qYH listed N ≠ 0→∃ i,i < N∧listed.getD i true=false∧∀ j,j < i→listed.getD j true=true
 | 0,h=>absurd rfl h
 | k + 1,h=>by
  by_cases hk:qYH listed k=0
  ·refine ⟨k,by omega,?_,fun j hj=>qXX hk j hj⟩;simp only [qYH,hk] at h;cases hb:listed.getD k true with
   | false=>rfl
   | true=>rw [hb] at h; simp at h
  ·obtain ⟨i,hi,h1,h2⟩:=qWF hk;exact ⟨i,by omega,h1,h2⟩
def backB (ops:Array Oper):Bool:=(List.range ops.size).all fun i=>match ops[i]? with
 | some o=>o.after.all fun e => !Region.binds .any e || decide (e.on < i)
 | none=>true
def depB (ops:Array Oper) (N:Nat):Bool:=(List.range N).all fun i=>(List.range N).all fun j=>i == j ||
 match ops[i]?,ops[j]? with
 | some oi,some oj=>oi.dst != oj.dst && (match oi.dst with
   | some d => !(oj.looksAt ops).contains d || (decide (i < j) && Region.waitsFor .any ops j i)
   | none=>false)
 | _,_=>false
def yHA (ops:Array Oper) (N:Nat):Bool:=(List.range N).all fun i=>match ops[i]? with
 | some o=>(match o.dst with | some d => !(o.looksAt ops).contains d | none=>false)
 | none=>false
structure Inv (S0:yU) (w0:Base) (n:Nat) (H:Heap) (cs:List Cert) (listed:Array Bool) (a:Act) (w:World):Prop where
 size:a.tmps.size=n
 defers:a.defers=[]
 old:∀ t v,look S0 t=some v→(∀ i c,cs[i]? = some c→c.d=t→listed.getD i false=false)→a.tmps[t]? = some v
 done:∀ i c,cs[i]? = some c→listed.getD i false=true→∃ u,a.tmps[c.d]? = some u∧c.T u w
 apart:∀ i j c c',cs[i]? = some c→cs[j]? = some c'→i ≠ j→c.al=true→c'.al=true→listed.getD i false=true→listed.getD j false=true→a.tmps[c.d]? ≠ a.tmps[c'.d]?
 knows:Knows w0 H w
theorem depB_spec {N:Nat} (h:depB ops N=true) {i j:Nat} (hi:i < N) (hj:j < N) (hne:i ≠ j) {oi oj:Oper} (ho:ops[i]? = some oi) (ho':ops[j]? = some oj) :
  oi.dst ≠ oj.dst∧∀ d,oi.dst=some d→d ∈ oj.looksAt ops→i < j∧Region.waitsFor .any ops j i=true:=by
 have h1:=List.all_eq_true.1 (List.all_eq_true.1 h i (List.mem_range.2 hi)) j (List.mem_range.2 hj);simp only [Bool.or_eq_true,beq_iff_eq,hne,false_or,ho,ho',vQJ,bne_iff_ne] at h1;refine ⟨h1.1,fun d hd hm => ?_⟩;have h2:=h1.2;rw [hd] at h2;simp only [Bool.or_eq_true,Bool.not_eq_true',vQJ,decide_eq_true_eq] at h2;rcases h2 with h2 | h2
 ·have hm':(oj.looksAt ops).contains d=true:=by simpa using hm
  rw [h2] at hm';cases hm'
 ·exact h2
theorem selfB_spec {N:Nat} (h:yHA ops N=true) {i:Nat} (hi:i < N) {o:Oper} (ho:ops[i]? = some o) {d:Nat} (hd:o.dst=some d):d ∉ o.looksAt ops:=by
 have h1:=List.all_eq_true.1 h i (List.mem_range.2 hi);simp only [ho,hd] at h1
 simpa using h1
variable {S0:yU}
theorem step_inv {N:Nat} {cs:List Cert} {listed:Array Bool} {a:Act} {w:World} (_:cs.length=N) (hdep:depB ops N=true) (hself:yHA ops N=true)
  (hcs:∀ i o c,ops[i]? = some o→cs[i]? = some c→CertOk P n w0 ops H o c∧Stems S0 (cs.take i) c.S c.G)
  (inv:Inv S0 w0 n H cs listed a w) {i:Nat} (hi:i ∈ Region.ready .any ops listed) (hin:i < N) (hsz:listed.size=ops.size) (hops:N≤ops.size) :
  wpOp P ops Q i (fun a' w'=>Inv S0 w0 n H cs (listed.setIfInBounds i true) a' w') a w:=by
 obtain ⟨hun,o,ho,hall⟩:=mem_ready.1 hi;have hil:i < cs.length:=by omega
 obtain ⟨c,hc⟩:∃ c,cs[i]? = some c:=⟨cs[i],vQK hil⟩
 obtain ⟨ok,st⟩:=hcs i o c ho hc;have ops_at:∀ j c',cs[j]? = some c'→j < N∧∃ oj,ops[j]? = some oj∧oj.dst=some c'.d:=fun j c' hj=>by
  have hjl:=(List.getElem?_eq_some_iff.1 hj).1;have hjo:j < ops.size:=by omega
  exact ⟨by omega,ops[j],vZU hjo,(hcs j ops[j] c' (vZU hjo) hj).1.dst⟩
 have waits:∀ j c',cs[j]? = some c'→j ≠ i→c'.d ∈ o.looksAt ops→j < i∧listed.getD j false=true:=fun j c' hj hne hm=>by
  obtain ⟨hjN,oj,hoj,hdj⟩:=ops_at j c' hj;obtain ⟨h1,h2⟩:=(depB_spec hdep hjN hin hne hoj ho).2 c'.d hdj hm;refine ⟨h1,?_⟩;obtain ⟨o',ho',e,he,hb,hon⟩:=Region.waitsFor_spec h2;rw [ho] at ho';cases ho'
  have:=hall e he hb
  rwa [hon] at this
 have know:∀ t ∈ o.looksAt ops,yKD c.S c.G a w t:=fun t ht=>by
  have hself':c.d ≠ t:=fun e=>selfB_spec hself hin ho ok.dst (e ▸ ht)
  refine ⟨fun v hv => ?_,fun T hT => ?_⟩
  ·rcases st.slots t v hv with ⟨c',hm,hd,hTc⟩ | ⟨h0,hno⟩
   ·obtain ⟨j,hj⟩:=List.mem_iff_getElem?.1 hm;rw [vZV] at hj;split at hj
    ·rename_i hji;obtain ⟨_,hdone⟩:=waits j c' hj (by omega) (hd ▸ ht);obtain ⟨u,hu,hTu⟩:=inv.done j c' hj hdone;rw [hTc] at hTu;rw [← hd,hu];exact congrArg some hTu
    ·cases hj
   ·refine inv.old t v h0 fun j c' hj hd => ?_
    by_cases e:j=i
    ·subst e;rw [hc] at hj;cases hj;exact absurd hd hself'
    ·obtain ⟨hlt,_⟩:=waits j c' hj e (hd ▸ ht);exact absurd hd (hno c' (vQG (by rw [vZV,if_pos hlt]; exact hj)))
  ·obtain ⟨c',hm,hd,hTc⟩:=st.ghosts t T hT;obtain ⟨j,hj⟩:=List.mem_iff_getElem?.1 hm;rw [vZV] at hj;split at hj
   ·rename_i hji;obtain ⟨_,hdone⟩:=waits j c' hj (by omega) (hd ▸ ht);obtain ⟨u,hu,hTu⟩:=inv.done j c' hj hdone;exact ⟨u,by rw [← hd]; exact hu,hTc ▸ hTu⟩
   ·cases hj
 have hlt:i < listed.size:=by omega
 have put_ne:∀ (u:Value) (t:Nat),c.d ≠ t→(a.put (some c.d) u).tmps[t]? = a.tmps[t]?:=fun u t hne=>by simp [Act.put,Array.getElem?_setIfInBounds_ne hne]
 have put_eq:∀ (u:Value),(a.put (some c.d) u).tmps[c.d]? = some u:=fun u=>by
  have:=ok.lt
  have hs:=inv.size;simp [Act.put,hs,this]
 have done_iff:∀ j,j ≠ i→(listed.setIfInBounds i true).getD j false=listed.getD j false:=fun j hj=>getD_set_ne false (Ne.symm hj)
 have dne:∀ j c',cs[j]? = some c'→j ≠ i→c'.d ≠ c.d:=fun j c' hj hne e=>by
  obtain ⟨hjN,oj,hoj,hdj⟩:=ops_at j c' hj;exact (depB_spec hdep hjN hin hne hoj ho).1 (by rw [hdj,ok.dst,e])
 have next:∀ (u:Value) (w':World),Grow w w'→c.T u w'→(c.al=true→u=.pointer (some ⟨w.heap.size,0,none⟩)) →
   Inv S0 w0 n H cs (listed.setIfInBounds i true) (a.put o.dst u) w':=fun u w' gr hT hal=>by
  rw [ok.dst];refine ⟨by simp [Act.put,inv.size],inv.defers,fun t v hv hno => ?_,fun j c' hj hd => ?_,fun j k c' c'' hj hk hne h1 h2 hd1 hd2 => ?_,inv.knows.next gr⟩
  ·have hne:c.d ≠ t:=fun e=>by
    have:=hno i c hc e
    simp [hlt] at this
   rw [put_ne u t hne];refine inv.old t v hv fun j c' hj hd => ?_
   by_cases e:j=i
   ·subst e; rw [hc] at hj; cases hj; exact absurd hd hne
   ·rw [← done_iff j e]; exact hno j c' hj hd
  ·by_cases e:j=i
   ·subst e; rw [hc] at hj; cases hj;exact ⟨u,put_eq u,hT⟩
   ·rw [done_iff j e] at hd;obtain ⟨u',hu,hTu⟩:=inv.done j c' hj hd;obtain ⟨_,oj,hoj,_⟩:=ops_at j c' hj;exact ⟨u',by rw [put_ne u _ (Ne.symm (dne j c' hj e))]; exact hu,(hcs j oj c' hoj hj).1.stable _ _ _ hTu gr⟩
  ·have fresh:∀ j c',cs[j]? = some c'→j ≠ i→c'.al=true→listed.getD j false=true→a.tmps[c'.d]? ≠ some (.pointer (some ⟨w.heap.size,0,none⟩)):=fun j c' hj e ha hd he=>by
    obtain ⟨u',hu,hTu⟩:=inv.done j c' hj hd;obtain ⟨_,oj,hoj,_⟩:=ops_at j c' hj;obtain ⟨b,hb,hbl,_⟩:=((hcs j oj c' hoj hj).1.al ha).2 _ _ hTu;rw [hu,hb] at he;simp only [vQZ,Value.pointer.injEq,Addr.mk.injEq,and_true] at he;omega
   by_cases e1:j=i
   ·subst e1; rw [hc] at hj; cases hj;have e2:k ≠ j:=Ne.symm hne;rw [put_eq,put_ne u _ (Ne.symm (dne k c'' hk e2)),hal h1];rw [done_iff k e2] at hd2;exact Ne.symm (fresh k c'' hk e2 h2 hd2)
   ·by_cases e2:k=i
    ·subst e2; rw [hc] at hk; cases hk;rw [put_eq,put_ne u _ (Ne.symm (dne j c' hj e1)),hal h2];rw [done_iff j e1] at hd1;exact fresh j c' hj e1 h1 hd1
    ·rw [put_ne u _ (Ne.symm (dne j c' hj e1)),put_ne u _ (Ne.symm (dne k c'' hk e2))];rw [done_iff j e1] at hd1;rw [done_iff k e2] at hd2;exact inv.apart j k c' c'' hj hk hne h1 h2 hd1 hd2
 have hrun:=ok.op a w inv.size know inv.knows;unfold wpOp;simp only [ho];split
 ·rename_i hw;rw [if_pos hw] at hrun;refine .inl ?_;unfold Oper.wp;by_cases hal:c.al=true
  ·obtain ⟨_,ob,hr⟩:=(ok.al hal).1 a w inv.size know inv.knows;rw [hr] at hrun ⊢;simp only [Yields] at hrun;simp only [Oper.upon];exact next _ _ hrun.1 hrun.2 fun _=>rfl
  ·have hnal:c.al=true→∀ u:Value,u=.pointer (some ⟨w.heap.size,0,none⟩):=fun h=>absurd h hal
   generalize (execOp a.eval o).run P w=r at *;cases r with
   | ok x w' =>
    cases x <;> simp only [Yields] at hrun <;> simp only [Oper.upon]
    case value v=>exact next _ _ hrun.1 hrun.2 fun h=>hnal h _
    case skip=>exact next _ _ hrun.1 hrun.2 fun h=>hnal h _
    case enter fn args =>
     refine hrun.2.mono fun e w'' ⟨v,he,hg,ht⟩ => ?_
     subst he;exact next _ _ (hrun.1.trans hg) ht fun h=>hnal h _
   | halt x w'=>simp only [Yields] at hrun
 ·rename_i hw;rw [if_neg hw] at hrun;refine next _ _ (Grow.refl _) hrun fun hal => ?_
  have:=((ok.al hal).1 a w inv.size know inv.knows).1
  exact absurd this hw
def Tail (P:Program) (n:Nat) (w0:Base) (ops:Array Oper) (Q:Exit→Act→World→Prop) (tl:List Oper) (F:World→Prop) (S:yU) (H:Heap) (G:qQV):Prop :=
 ∀ a w,Fits n S a→Knows w0 H w→(∀ x ∈ G,∃ u,a.tmps[x.1]? = some u∧x.2.2 u w) →
  (∀ x ∈ G,∀ y ∈ G,x.1 ≠ y.1→x.2.1=true→y.2.1=true→a.tmps[x.1]? ≠ a.tmps[y.1]?) →
  (∀ x ∈ G,x.2.1=true→∀ y ∈ H,a.tmps[x.1]? ≠ some (.pointer (some ⟨y.2.1,0,none⟩)))→F w→wpList P ops Q tl a w
def yHY (ops:Array Oper) (N:Nat):Bool :=
 depB ops N && yHA ops N && backB ops && decide (N < ops.size) && Region.sinkB .any ops N && Region.chainB .any ops N &&
  Region.seqB .any ops (ops.size - N) N (Array.replicate N true ++ Array.replicate (ops.size - N) false)
theorem wpAny_main {N:Nat} {cs:List Cert} {l:List Oper} {S':yU} {G':qQV} (hB:yHY l.toArray N=true) (hlen:cs.length=N)
  (hcs:∀ i o c,l.toArray[i]? = some o→cs[i]? = some c→CertOk P n w0 l.toArray H o c∧Stems S0 (cs.take i) c.S c.G)
  (hst:Stems S0 cs S' G') (hG:∀ x ∈ G',∃ c ∈ cs,x=(c.d,c.al,c.T)) (hK:Tail P n w0 l.toArray Q (l.drop N) (fun _=>True) S' H G') :
  ∀ (f:Nat) (listed:Array Bool) (a:Act) (w:World),HeadInv .any l.toArray N listed→qYH listed N=f→Inv S0 w0 n H cs listed a w →
   wpAny P .any l.toArray Q (f + (l.toArray.size - N)) listed a w:=by
 simp only [yHY,vQJ,decide_eq_true_eq] at hB;obtain ⟨⟨⟨⟨⟨⟨hdep,hself⟩,hback⟩,hN⟩,hsink⟩,hchain⟩,hseq⟩:=hB;intro f;induction f with
 | zero =>
  intro listed a w hh hu inv;rw [Nat.zero_add];have hall:=qXX hu;have hcan:listed=Array.replicate N true ++ Array.replicate (l.toArray.size - N) false:=by
   apply Array.ext
   ·simp [hh.size]; simp at hN; omega
   ·intro i h1 h2;rw [Array.getElem_append];split
    ·rename_i hi;simp at hi
     have:=hall i hi
     simp [h1] at this;simp [this]
    ·rename_i hi;simp at hi
     have:=hh.tail i hi (by rw [← hh.size]; exact h1)
     simp [h1] at this;simp [this]
  have hdone:∀ i,i < N→listed.getD i false=true:=fun i hi=>by
   have h1:=hall i hi
   have:i < listed.size:=by rw [hh.size]; omega
   simp [this] at h1 ⊢;exact h1
  have hcN:∀ i c,cs[i]? = some c→i < N:=fun i c hc=>by have:=(List.getElem?_eq_some_iff.1 hc).1; omega
  have fits:Fits n S' a:=⟨inv.size,inv.defers,fun t v ht=>by
   rcases hst.slots t v ht with ⟨c,hc,hd,hT⟩ | ⟨h0,hno⟩
   ·obtain ⟨i,hi⟩:=List.mem_iff_getElem?.1 hc;obtain ⟨u,hu,hTu⟩:=inv.done i c hi (hdone i (hcN i c hi));rw [hT] at hTu;rw [← hd,hu];exact congrArg some hTu
   ·exact inv.old t v h0 fun i c hi hd=>absurd hd (hno c (vQG hi))⟩
  have:=hK a w fits inv.knows (fun x hx=>by
    obtain ⟨c,hc,rfl⟩:=hG x hx;obtain ⟨i,hi⟩:=List.mem_iff_getElem?.1 hc;exact inv.done i c hi (hdone i (hcN i c hi)))
   (fun x hx y hy hne hx1 hy1=>by
    obtain ⟨c,hc,rfl⟩:=hG x hx;obtain ⟨c',hc',rfl⟩:=hG y hy;obtain ⟨i,hi⟩:=List.mem_iff_getElem?.1 hc;obtain ⟨j,hj⟩:=List.mem_iff_getElem?.1 hc';exact inv.apart i j c c' hi hj (fun e=>by subst e; rw [hi] at hj; cases hj; exact hne rfl) hx1 hy1 (hdone i (hcN i c hi)) (hdone j (hcN j c' hj)))
   (fun x hx hx1 y hy he=>by
    obtain ⟨c,hc,rfl⟩:=hG x hx;obtain ⟨i,hi⟩:=List.mem_iff_getElem?.1 hc;obtain ⟨u,hu,hTu⟩:=inv.done i c hi (hdone i (hcN i c hi));have hio:i < l.toArray.size:=by have:=hcN i c hi; omega
    obtain ⟨b,hb,_,hno⟩:=((hcs i _ c (vZU hio) hi).1.al hx1).2 _ _ hTu;rw [hu,hb] at he;simp only [vQZ,Value.pointer.injEq,Addr.mk.injEq,and_true] at he;exact hno y hy he.symm) trivial
  have hl:(l.drop N).length=l.toArray.size - N:=by simp
  rw [← hl];exact wpAny_of_seq (l.drop N) N listed a w (fun _=>by simp [List.getElem?_drop]) (by rw [hl,hcan]; exact hseq) this
 | succ f ih =>
  intro listed a w hh hu inv;rw [show f + 1 + (l.toArray.size - N)=(f + (l.toArray.size - N)) + 1 by omega];obtain ⟨i0,hi0,hun0,hbefore⟩:=qWF (listed:=listed) (N:=N) (by omega);have hready:i0 ∈ Region.ready .any l.toArray listed:=by
   have hlt:i0 < l.toArray.size:=by omega
   refine mem_ready.2 ⟨hun0,l.toArray[i0],vZU hlt,fun e he hb => ?_⟩;have h1:=List.all_eq_true.1 hback i0 (List.mem_range.2 hlt);simp only [vZU hlt] at h1;have h2:=Array.all_eq_true_iff_forall_mem.1 h1 e he;simp only [hb,Bool.not_true,Bool.false_or,decide_eq_true_eq] at h2;have h3:=hbefore e.on h2
   have:e.on < listed.size:=by rw [hh.size]; omega
   simp [this] at h3 ⊢;exact h3
  refine ⟨fun h0=>(by rw [h0] at hready; cases hready),fun i hi => ?_⟩;have hiN:i < N:=by
   rcases Nat.lt_or_ge i N with h | h
   ·exact h
   ·exact absurd hi (tail_waits hsink hchain hN hh _ i0 rfl hi0 hun0 i h)
  have hun:=(mem_ready.1 hi).1;refine wpOp_mono (fun a' w' h => ?_) (step_inv hlen hdep hself hcs inv hi hiN hh.size (by omega))
  have:=zZH hun hiN
  exact ih _ a' w' (hh.set hi hiN) (by omega) h
theorem qXJ {S:yU} {l:List Oper} {id:Nat} (N:Nat) (hm:P.follows .mixedOrders=true) (hB:yHY l.toArray N=true)
  (h:DoG P n w0 l.toArray H (fun S' G'=>Tail P n w0 l.toArray Q (l.drop N) (fun _=>True) S' H G') (l.take N) S []):DoC P n w0 Q (.region id l.toArray true) S H:=by
 intro a w fa ka;have hN:N < l.toArray.size:=by
  simp only [yHY,vQJ,decide_eq_true_eq] at hB;exact hB.1.1.1.2
 obtain ⟨cs,hlen,hcs,S',G',hst,hK,hG⟩:=doG_certs (S0:=S) (l.take N) S [] [] ⟨fun t v ht=>.inr ⟨ht,fun c hc=>by cases hc⟩,fun t T ht=>by cases ht⟩ h;have hlen':cs.length=N:=by rw [hlen]; simp; simp at hN; omega
 refine wp_region_any hm ?_;have inv0:HeadInv .any l.toArray N (Array.replicate l.toArray.size false) :=
  ⟨by simp,fun j oj _ hl=>(by rw [getD_replicate_false] at hl; cases hl),fun t _ ht=>getD_in (by simpa using ht) (getD_replicate_false _ _)⟩
 have hund:qYH (Array.replicate l.toArray.size false) N=N:=by
  have:∀ k,k≤l.toArray.size→qYH (Array.replicate l.toArray.size false) k=k:=by
   intro k;induction k with
   | zero=>intro _; rfl
   | succ k ih =>
    intro hk;have h1:=getD_in (listed:=Array.replicate l.toArray.size false) (i:=k) (by simp; simp at hk; omega) (getD_replicate_false _ _);simp only [qYH,ih (by omega),h1];rfl
  exact this N (by omega)
 have:=wpAny_main (P:=P) (n:=n) (w0:=w0) (H:=H) (S0:=S) (Q:=Q) hB hlen' (fun i o c hi hc=>by
   have hil:=(List.getElem?_eq_some_iff.1 hc).1
   have:=hcs i o c (by rw [vZV,if_pos (by omega)]; simpa using hi) hc
   simpa using this) (by simpa using hst) (fun x hx=>by
    rcases hG x hx with h | h
    ·cases h
    ·exact h) hK N _ a { w with drawn:=w.drawn + 1 } inv0 hund
   ⟨fa.size,fa.defers,fun t v ht _=>fa.has t v ht,fun i c _ hd=>(by rw [getD_replicate_false] at hd; cases hd),fun i j c c' _ _ _ _ _ hd=>(by rw [getD_replicate_false] at hd; cases hd),ka.next (Grow.refl w).drew⟩
 rwa [show N + (l.toArray.size - N)=l.toArray.size by omega] at this
variable {S:yU} {G:qQV} {K:yU→qQV→Prop} {o:Oper} {l:List Oper} {d:Nat}
theorem mem_looksAt {t:Nat} (h:Operand.tmp t ∈ o.op.operands):t ∈ o.looksAt ops :=
 List.mem_append_left _ (List.mem_filterMap.2 ⟨.tmp t,by simpa using h,rfl⟩)
theorem exec_know {a:Act} (hk:jQ S o=true) (hs:zWH o=true) (h:∀ t ∈ o.looksAt ops,∀ v,look S t=some v→a.tmps[t]? = some v):execOp a.eval o=execOp (evD S) o:=by
 refine execOp_congr o (noSel_spec hs) fun x hx => ?_
 have:=Array.all_eq_true_iff_forall_mem.1 hk x hx
 obtain ⟨v,hv⟩:=Option.isSome_iff_exists.1 this;rw [zV hv];cases x with
 | tmp t=>simp [Act.eval,Array.getD_eq_getD_getElem?,h t (mem_looksAt hx) v hv]
 | const u=>simpa [Sx.ev,Act.eval] using hv
 | global g=>simpa [Sx.ev,Act.eval] using hv
 | func f=>simpa [Sx.ev,Act.eval] using hv
theorem wanted_know {a:Act} {b:Bool} (hw:qZV ops S o=some b) (h:∀ t ∈ o.looksAt ops,∀ v,look S t=some v→a.tmps[t]? = some v):Region.wanted o (yielded ops a.tmps)=b:=by
 unfold qZV at hw;unfold Region.wanted;cases hg:o.guard with
 | none=>simp [hg] at hw; simp [hw]
 | some gg =>
  obtain ⟨j,c⟩:=gg;simp only [hg] at hw ⊢;unfold yielded;cases hd:(ops[j]?).bind (·.dst) with
  | none=>simp [hd] at hw
  | some dd =>
   simp only [hd] at hw;cases hl:look S dd with
   | none=>simp [hl] at hw
   | some v =>
    rw [hl] at hw
    have:=h dd (by simp [Oper.looksAt,hg,hd]) v hl
    cases v <;> simp at hw
    simp [this,hw]
theorem opA_of_opT {T:Pred} (ho:OpT P w0 S H o T) (hw:qZV ops S o=some true):OpA P n w0 ops H S G o T:=fun a w _ hk k=>by
 have h1:∀ t ∈ o.looksAt ops,∀ v,look S t=some v→a.tmps[t]? = some v:=fun t ht=>(hk t ht).1
 rw [wanted_know hw h1,if_pos rfl,exec_know ho.known ho.nosel h1];exact ho.run w k
theorem zYL (h:K S G):DoG P n w0 ops H K [] S G:=h
theorem kZ {v:Value} (ho:OpV P w0 S H o v) (hw:qZV ops S o=some true) (hd:o.dst=some d) (hn:Nat.blt d n=true) (next:DoG P n w0 ops H K l ((d,v) :: S) G) :
  DoG P n w0 ops H K (o :: l) S G :=
 ⟨d,isV v,hd,by simpa using hn,ho.nosel,stable_isV v,opA_of_opT ho hw,.inl ⟨v,rfl,next⟩⟩
variable {tl:List Oper} {F:World→Prop}
theorem qVG (h:DoL P n w0 ops Q tl S H):Tail P n w0 ops Q tl F S H []:=fun a w f k _ _ _ _=>h a w f k
theorem fits_more {a:Act} {u:Value} (f:Fits n S a) (hu:a.tmps[d]? = some u):Fits n ((d,u) :: S) a:=⟨f.size,f.defers,fun t v ht=>by
 by_cases e:d=t
 ·subst e; rw [uX] at ht; cases ht; exact hu
 ·rw [qQU _ _ e] at ht; exact f.has t v ht⟩
end
end Go.Sx
namespace Go.Sx
open Go.RowKit
def evp (S:yU):List (Nat × Operand)→Option (List (Nat × Value))
 | []=>some []
 | (i,x) :: xs=>match ev S x with
  | some v=>qVW (i,v) (evp S xs)
  | none=>none
def zQB (pl:List (Nat × Nat)):List Value→List (Nat × Value)→Option (List Value)
 | cs,[]=>some cs
 | cs,(i,v) :: rest=>match pl[i]? with
  | none=>none
  | some (off,size)=>bif Nat.beq v.cells.size size then (match qZD cs off v.cells.toList with
    | some cs'=>zQB pl cs' rest
    | none=>none) else none
def qJL (P:Program) (t:TypeId):Option (List Value × List (Nat × Nat)) :=
 match P.info? t,P.underlying t with
 | some it,some (.array n e) =>
  match it.zero,P.info? e with
  | some z,some ie=>some (z.cells.toList,(List.range n).map fun i=>(i * ie.size,ie.size))
  | _,_=>none
 | some it,some (.struct fields) =>
  match it.zero,fields.toList.mapM (fun f=>(P.info? f.type).map fun i=>(f.offset,i.size)) with
  | some z,some places=>some (z.cells.toList,places)
  | _,_=>none
 | _,_=>none
theorem foldl_set (vs:List Value):∀ (k off:Nat) (cells:Array Value),off + k + vs.length≤cells.size →
  ((vs.zipIdx k).foldl (fun cs (x:Value × Nat)=>cs.setIfInBounds (off + x.2) x.1) cells).toList=cells.toList.take (off + k) ++ vs ++ cells.toList.drop (off + k + vs.length):=by
 induction vs with
 | nil=>intro k off cells _; simp
 | cons v vs ih =>
  intro k off cells h;simp only [List.zipIdx_cons,List.foldl_cons];rw [ih (k + 1) off _ (by simp at h ⊢; omega)];simp only [Array.toList_setIfInBounds]
  have:=list_seg_step cells.toList (off + k) v vs (by simp at h ⊢; omega)
  simpa [Nat.add_assoc,Nat.add_comm 1] using this
theorem zHG {place:Nat→Option (Nat × Nat)} {pl:List (Nat × Nat)} (hp:∀ i x,pl[i]? = some x→place i=some x):∀ (parts:List (Nat × Value)) (cells:List Value) (cs:List Value),
  zQB pl cells parts=some cs→Instr.fill place cells.toArray parts=some cs.toArray
 | [],cells,cs,h=>by simp [zQB] at h; simp [Instr.fill,h]
 | (i,v) :: rest,cells,cs,h=>by
  simp only [zQB] at h;cases hi:pl[i]? with
  | none=>simp [hi] at h
  | some x =>
   obtain ⟨off,size⟩:=x;simp only [hi] at h;cases hb:Nat.beq v.cells.size size with
   | false=>simp [hb] at h
   | true =>
    simp only [hb,vYV] at h;have hsz:=vQX hb;cases hs:qZD cells off v.cells.toList with
    | none=>simp [hs] at h
    | some cs' =>
     simp only [hs] at h;obtain ⟨e,hl⟩:=spliceV_spec hs;have hl':off + v.cells.size≤cells.length:=by simpa using hl
     have hf:=foldl_set v.cells.toList 0 off cells.toArray (by simpa using hl);have hcs:(v.cells.zipIdx.foldl (fun cs (c,j)=>cs.setIfInBounds (off + j) c) cells.toArray)=cs'.toArray:=by
      apply Array.toList_inj.1;rw [e];rw [← Array.foldl_toList];simp only [Array.toList_zipIdx]
      simpa using hf
     simp only [Instr.fill,hp i _ hi];rw [if_neg (by simp [hsz]; omega)];rw [hcs];exact zHG hp rest cs' cs h
theorem built_of {P:Program} {t:TypeId} {z:List Value} {pl:List (Nat × Nat)} {parts:List (Nat × Value)} {cs:List Value} (hl:qJL P t=some (z,pl)) (hf:zQB pl z parts=some cs) :
  P.built t parts=some cs.toArray:=by
 unfold qJL at hl;unfold Program.built;cases hit:P.info? t with
 | none=>simp [hit] at hl
 | some it =>
  cases hu:P.underlying t with
  | none=>simp [hit,hu] at hl
  | some ds =>
   cases ds <;> try (simp [hit,hu] at hl; done)
   case array n e =>
    cases hz:it.zero with
    | none=>simp [hit,hu,hz] at hl
    | some zv =>
     cases hie:P.info? e with
     | none=>simp [hit,hu,hz,hie] at hl
     | some ie =>
      simp only [hit,hu,hz,hie,vQZ,vQY] at hl ⊢;obtain ⟨rfl,rfl⟩:=hl
      have:=zHG (place:=fun i=>some (i * ie.size,ie.size)) (fun i x hi=>by
       simp only [vZY,vZW] at hi;obtain ⟨j,hj,rfl⟩:=hi
       have:=(List.getElem?_eq_some_iff.1 hj)
       simp at this;simp [this.2]) parts zv.cells.toList cs hf
      simpa using this
   case struct fields =>
    cases hz:it.zero with
    | none=>simp [hit,hu,hz] at hl
    | some zv =>
     cases hp:fields.toList.mapM (fun f=>(P.info? f.type).map fun i=>(f.offset,i.size)) with
     | none=>simp only [hit,hu,hz,hp] at hl; cases hl
     | some places =>
      simp only [hit,hu,hz,hp,vQZ,vQY] at hl ⊢;obtain ⟨rfl,rfl⟩:=hl
      have:=zHG (place:=(places.toArray[·]?)) (fun i x hi=>by simpa using hi) parts zv.cells.toList cs hf
      simpa using this
section
variable {P:Program} {n:Nat} {w0:Base} {ops:Array Oper} {Q:Exit→Act→World→Prop} {S:yU} {H:Heap}
variable {d:Option Tmp} {ty:TypeId} {pos:String} {af:Array Edge} {g:Option (Nat × Bool)}
theorem evp_spec {xs:List (Nat × Operand)} {vs:List (Nat × Value)} (h:evp S xs=some vs):xs.map (fun x=>(x.1,evD S x.2))=vs∧∀ x ∈ xs,(ev S x.2).isSome=true:=by
 induction xs generalizing vs with
 | nil=>simp [evp] at h; simp [h]
 | cons x xs ih =>
  obtain ⟨i,x⟩:=x;simp only [evp] at h;cases hx:ev S x with
  | none=>simp [hx] at h
  | some v =>
   simp only [hx] at h;obtain ⟨ws,hw,rfl⟩:=uG h;obtain ⟨e,ha⟩:=ih hw;refine ⟨by simp [zV hx,e],fun y hy => ?_⟩;rcases List.mem_cons.1 hy with rfl | hy
   ·simp [hx]
   ·exact ha y hy
theorem qJV {t:TypeId} {z:List Value} {pl:List (Nat × Nat)} {parts:List (Nat × Operand)} {vs:List (Nat × Value)} {cs:List Value} (hl:qJL P t=some (z,pl)) (hp:evp S parts=some vs)
  (hf:zQB pl z vs=some cs):OpV P w0 S H ⟨d,.build t parts.toArray,ty,pos,af,g⟩ (.agg cs.toArray):=by
 obtain ⟨e,hk⟩:=evp_spec hp;refine jX ?_ rfl fun w _ => ?_
 ·simp only [jQ,Op.operands];rw [vYY];intro x hx;simp at hx;obtain ⟨i,hi⟩:=hx;exact hk _ hi
 ·have:=run_build (P:=P) w t (parts.map (fun x=>(x.1,evD S x.2))).toArray cs.toArray (by rw [List.toList_toArray,e]; exact built_of hl hf)
  have h2:(parts.toArray.map fun (x:Nat × Operand)=>(x.1,evD S x.2))=(parts.map (fun x=>(x.1,evD S x.2))).toArray:=by simp
  simp only [execOp];rw [h2];simp [this]
end
theorem qK {x:Int} (h : -9223372036854775808≤x∧x≤9223372036854775807):vJJ .i64 x=x:=by
 unfold IntKind.wrap;have hb:IntKind.i64.bits=64:=rfl;have hs:IntKind.i64.signed=true:=rfl;simp only [hb,hs,vZH,decide_eq_true_eq]
 split <;> omega
theorem tdiv_nonneg {a b:Int} (ha:0≤a) (_:0≤b):a.tdiv b=a / b:=Int.tdiv_eq_ediv_of_nonneg ha
theorem tmod_nonneg {a b:Int} (ha:0≤a) (_:0≤b):a.tmod b=a % b:=Int.tmod_eq_emod_of_nonneg ha
end Go.Sx
namespace Go.Sx
open Go.RowKit
def yKA:Value→Value→Bool
 | .int _ a,.int _ b=>decide (a=b)
 | .bool a,.bool b=>a == b
 | .string a,.string b=>a == b
 | _,_=>false
def eqCells:List Value→List Value→Bool
 | [],[]=>true
 | x :: xs,y :: ys=>yKA x y && eqCells xs ys
 | _,_=>false
def yWJ:TypeDesc→Value→Bool
 | .int k,.int k' _=>k == k'
 | .bool,.bool _=>true
 | .string,.string _=>true
 | _,_=>false
def oneC (ds:TypeDesc):List Value→Bool
 | [c]=>yWJ ds c
 | _=>false
def zYF (f:TypeId→List Value→Bool) (P:Program):List Field→Nat→List Value→Bool
 | [],_,cs=>cs.isEmpty
 | fd :: fs,o,cs=>fd.name != "_" && Nat.beq fd.offset o && (match P.info? fd.type with
   | some i=>decide (i.size≤cs.length) && f fd.type (cs.take i.size) && zYF f P fs (o + i.size) (cs.drop i.size)
   | none=>false)
def zVQ (f:List Value→Bool) (size:Nat):Nat→List Value→Bool
 | 0,cs=>cs.isEmpty
 | k + 1,cs=>decide (size≤cs.length) && f (cs.take size) && zVQ f size k (cs.drop size)
def qZC (P:Program):Nat→TypeId→List Value→Bool
 | 0,_,_=>false
 | d + 1,t,cs=>match P.underlying t with
  | some (.struct fields) => !P.stoodInHeld t && zYF (qZC P d) P fields.toList 0 cs
  | some (.array len e)=>(match P.info? e with | some i=>zVQ (qZC P d e) i.size len cs | none=>false)
  | some ds=>oneC ds cs
  | none=>false
def mkV (P:Program) (t:TypeId) (cs:List Value):Value :=
 match P.underlying t with
 | some (.struct _)=>.agg cs.toArray
 | some (.array _ _)=>.agg cs.toArray
 | _=>cs.headD undef
theorem eqCells_append {a b c e:List Value} (h:a.length=c.length):eqCells (a ++ b) (c ++ e)=(eqCells a c && eqCells b e):=by
 induction a generalizing c with
 | nil=>cases c with
  | nil=>simp [eqCells]
  | cons _ _=>simp at h
 | cons x a ih=>cases c with
  | nil=>simp at h
  | cons y c=>simp [eqCells,ih (by simpa using h),Bool.and_assoc]
theorem eqCells_split {xs ys:List Value} (k:Nat) (_:k≤xs.length) (_:k≤ys.length):eqCells xs ys=(eqCells (xs.take k) (ys.take k) && eqCells (xs.drop k) (ys.drop k)):=by
 conv=>lhs; rw [← List.take_append_drop k xs,← List.take_append_drop k ys]
 exact eqCells_append (by simp; omega)
section
variable {P:Program} (w:World)
theorem zJF {t:TypeId} {i:TypeInfo} (hi:P.info? t=some i) {cs:List Value} {o:Nat} {d:Nat} (hc:qZC P d t ((cs.drop o).take i.size)=true) :
  (part t cs.toArray o).run P w=.ok (mkV P t ((cs.drop o).take i.size)) w:=by
 cases d with
 | zero=>simp [qZC] at hc
 | succ d =>
 have hsz:(sizeOf t).run P w=.ok i.size w:=by simp [sizeOf,typeInfo,hi]
 unfold qZC at hc;cases hu:P.underlying t with
 | none=>simp [hu] at hc
 | some ds =>
  have sc:oneC ds ((cs.drop o).take i.size)=true→(isAgg t).run P w=.ok false w→mkV P t ((cs.drop o).take i.size)=((cs.drop o).take i.size).headD undef →
    (part t cs.toArray o).run P w=.ok (mkV P t ((cs.drop o).take i.size)) w:=fun h1 h2 h3=>by
   cases hl:(cs.drop o).take i.size with
   | nil=>rw [hl] at h1; cases h1
   | cons c l =>
    cases l with
    | cons _ _=>rw [hl] at h1; cases h1
    | nil =>
     have hco:cs[o]? = some c:=by
      have:=congrArg (·[0]?) hl
      simp only [vZV,List.getElem?_drop,Nat.add_zero,List.getElem?_cons_zero] at this;split at this
      ·exact this
      ·cases this
     rw [hl] at h3;rw [h3];simp [part,h2,hco]
  cases ds <;> simp only [hu] at hc
  case struct fs=>simp [part,isAgg,run_underlying hu,hsz,mkV,hu]
  case array len e=>simp [part,isAgg,run_underlying hu,hsz,mkV,hu]
  all_goals first
   | exact sc hc (by simp [isAgg,run_underlying hu]) (by simp [mkV,hu])
def EqC (P:Program) (d:Nat) (t:TypeId) (f:TypeId→List Value→Bool):Prop :=
 ∀ w xs ys,f t xs=true→f t ys=true→(Op.equalIn d t (mkV P t xs) (mkV P t ys)).run P w=.ok (eqCells xs ys) w
theorem run_eqFieldsC {d m:Nat} (ih:∀ t,EqC P d t (qZC P m)) {cs es:List Value}:∀ (fs:List Field) (o:Nat) (w:World),
  zYF (qZC P m) P fs o (cs.drop o)=true→zYF (qZC P m) P fs o (es.drop o)=true→o≤cs.length→o≤es.length →
  (Op.eqFields d cs.toArray es.toArray fs).run P w=.ok (eqCells (cs.drop o) (es.drop o)) w
 | [],o,w,h1,h2,_,_=>by
  simp only [zYF,List.isEmpty_iff] at h1 h2;simp [Op.eqFields,h1,h2,eqCells]
 | f :: fs,o,w,h1,h2,hc,he=>by
  simp only [zYF,vQJ,bne_iff_ne] at h1 h2;obtain ⟨⟨hn,ho⟩,h1⟩:=h1;have ho':=vQX ho;cases hi:P.info? f.type with
  | none=>simp [hi] at h1
  | some i =>
   simp only [hi,vQJ,decide_eq_true_eq,List.length_drop,List.drop_drop] at h1 h2;obtain ⟨⟨l1,c1⟩,r1⟩:=h1;obtain ⟨_,⟨l2,c2⟩,r2⟩:=h2;have p1:=zJF w hi (o:=o) c1;have p2:=zJF w hi (o:=o) c2;have e3:=ih f.type w _ _ c1 c2;have hrec:=run_eqFieldsC ih (cs:=cs) (es:=es) fs (o + i.size) w r1 r2 (by omega) (by omega);rw [eqCells_split i.size (by simp; omega) (by simp; omega)];simp only [Op.eqFields,hn,ne_eq,not_false_eq_true,if_true,Sem.run_bind,ho',p1,p2,e3,Result.andThen_ok,List.drop_drop];cases hb:eqCells ((cs.drop o).take i.size) ((es.drop o).take i.size) with
   | false=>simp
   | true=>simpa using hrec
theorem run_eqItemsC {d m:Nat} {e:TypeId} {i:TypeInfo} (hi:P.info? e=some i) (ih:EqC P d e (qZC P m)) {cs es:List Value}:∀ (k j:Nat) (w:World),
  zVQ (qZC P m e) i.size k (cs.drop (j * i.size))=true→zVQ (qZC P m e) i.size k (es.drop (j * i.size))=true→j * i.size≤cs.length→j * i.size≤es.length →
  (Op.eqItems d e i.size cs.toArray es.toArray (List.range' j k)).run P w=.ok (eqCells (cs.drop (j * i.size)) (es.drop (j * i.size))) w
 | 0,j,w,h1,h2,_,_=>by
  simp only [zVQ,List.isEmpty_iff] at h1 h2;simp [Op.eqItems,h1,h2,eqCells]
 | k + 1,j,w,h1,h2,hc,he=>by
  simp only [zVQ,vQJ,decide_eq_true_eq,List.length_drop,List.drop_drop] at h1 h2;obtain ⟨⟨l1,c1⟩,r1⟩:=h1;obtain ⟨⟨l2,c2⟩,r2⟩:=h2;have hj:j * i.size + i.size=(j + 1) * i.size:=by rw [Nat.add_mul]; omega
  rw [hj] at r1 r2;have p1:=zJF w hi (o:=j * i.size) c1;have p2:=zJF w hi (o:=j * i.size) c2;have e3:=ih w _ _ c1 c2;have hrec:=run_eqItemsC hi ih (cs:=cs) (es:=es) k (j + 1) w r1 r2 (by omega) (by omega);rw [eqCells_split i.size (by simp; omega) (by simp; omega)];simp only [List.range'_succ,Op.eqItems,Sem.run_bind,p1,p2,e3,Result.andThen_ok,List.drop_drop,hj];cases hb:eqCells ((cs.drop (j * i.size)).take i.size) ((es.drop (j * i.size)).take i.size) with
  | false=>simp
  | true=>simpa using hrec
theorem zHB (d:Nat):∀ (m:Nat) (t:TypeId),EqC P (d + m) t (qZC P m)
 | 0,t=>fun w xs ys h=>by simp [qZC] at h
 | m + 1,t=>fun w xs ys h1 h2=>by
  unfold qZC at h1 h2;rw [show d + (m + 1)=(d + m) + 1 from rfl];cases hu:P.underlying t with
  | none=>simp [hu] at h1
  | some ds =>
   have sc:oneC ds xs=true→oneC ds ys=true→mkV P t xs=xs.headD undef→mkV P t ys=ys.headD undef →
     (Op.equalIn ((d + m) + 1) t (mkV P t xs) (mkV P t ys)).run P w=.ok (eqCells xs ys) w:=fun h1 h2 e1 e2=>by
    cases xs with
    | nil=>cases h1
    | cons x xs =>
    cases xs with
    | cons _ _=>cases h1
    | nil =>
    cases ys with
    | nil=>cases h2
    | cons y ys =>
    cases ys with
    | cons _ _=>cases h2
    | nil =>
     rw [e1,e2];cases ds <;> cases x <;> simp [oneC,yWJ] at h1 <;> cases y <;> simp [oneC,yWJ] at h2
     ·simp only [List.headD_cons];rw [run_equalIn_bool w _ t _ _ hu];simp [eqCells,yKA]
     ·subst h1; subst h2;simp only [List.headD_cons];rw [run_equalIn_int w _ t _ _ _ _ hu];simp [eqCells,yKA];rfl
     ·simp only [List.headD_cons];simp [Op.equalIn,run_underlying hu,eqCells,yKA]
   cases ds <;> simp only [hu] at h1 h2
   case struct fs =>
    simp only [vQJ,Bool.not_eq_true'] at h1 h2;have hfs:P.fieldsOf t=fs:=by simp [Program.fieldsOf,hu]
    have:=run_eqFieldsC (P:=P) (d:=d + m) (fun t=>zHB d m t) (cs:=xs) (es:=ys) fs.toList 0 w (by simpa using h1.2) (by simpa using h2.2) (Nat.zero_le _) (Nat.zero_le _)
    simp only [mkV,hu];rw [run_equalIn_struct w (d + m) t _ _ (by rw [hfs]; exact hu) h1.1,hfs]
    simpa using this
   case array len e =>
    cases hi:P.info? e with
    | none=>simp [hi] at h1
    | some i =>
     simp only [hi] at h1 h2;have hcell:P.cellsOf e=i.size:=by simp [Program.cellsOf,hi]
     have:=run_eqItemsC (P:=P) hi (zHB d m e) (cs:=xs) (es:=ys) len 0 w (by simpa using h1) (by simpa using h2) (by simp) (by simp)
     simp only [mkV,hu];rw [run_equalIn_array w (d + m) _ _ hu hi,hcell,List.range_eq_range']
     simpa using this
   all_goals exact sc h1 h2 (by simp [mkV,hu]) (by simp [mkV,hu])
end
section
variable {P:Program} {n:Nat} {w0:Base} {ops:Array Oper} {Q:Exit→Act→World→Prop} {S:yU} {H:Heap}
variable {d:Option Tmp} {ty:TypeId} {pos:String} {af:Array Edge} {g:Option (Nat × Bool)}
def aggB (P:Program) (t:TypeId):Bool:=(match P.underlying t with | some (.struct _)=>true | some (.array _ _)=>true | _=>false) && !P.eqGuardType P.depth t
theorem opV_eqA {x y:Operand} {t t':TypeId} {xs ys:List Value} (m:Nat) (hm:Nat.ble m 10000=true) (hT:aggB P t=true) (hx:ev S x=some (.agg xs.toArray)) (hy:ev S y=some (.agg ys.toArray)) (hcx:qZC P m t xs=true) (hcy:qZC P m t ys=true) :
  OpV P w0 S H ⟨d,.binOp .eql t x y t',ty,pos,af,g⟩ (.bool (eqCells xs ys)) :=
 jX (by simp [jQ,Op.operands,hx,hy]) rfl fun w _=>by
  simp only [aggB,vQJ,Bool.not_eq_true'] at hT;obtain ⟨k,hk⟩:∃ k,k + m=10000:=⟨10000 - m,by have:=vZX hm; omega⟩
  have h1:=zHB (P:=P) k m t w xs ys hcx hcy;have e1:mkV P t xs=.agg xs.toArray:=by
   unfold mkV;cases hu:P.underlying t with
   | none=>simp [hu] at hT
   | some ds=>cases ds <;> simp [hu] at hT ⊢
  have e2:mkV P t ys=.agg ys.toArray:=by
   unfold mkV;cases hu:P.underlying t with
   | none=>simp [hu] at hT
   | some ds=>cases ds <;> simp [hu] at hT ⊢
  rw [e1,e2,hk] at h1;have h2:=run_eqGuard_agg w .eql t x y xs.toArray ys.toArray hT.2;have h3:=run_eql_struct (P:=P) w t xs.toArray ys.toArray;rw [h1] at h3;simp [execOp,zV hx,zV hy,h2,h3]
theorem opV_min4 {x y z u:Operand} {k:IntKind} {m r s q:Int} {ats:Array TypeId} (hx:ev S x=some (.int k m)) (hy:ev S y=some (.int k r)) (hz:ev S z=some (.int k s)) (hu:ev S u=some (.int k q)) :
  OpV P w0 S H ⟨d,.call ⟨.builtin .min,#[x,y,z,u],ats⟩,ty,pos,af,g⟩ (.int k (min (min (min m r) s) q)) :=
 jX (by simp [jQ,Op.operands,Call.operands,hx,hy,hz,hu]) rfl fun w _=>by
  simp [execOp,resolve,invoke,builtin,zV hx,zV hy,zV hz,zV hu,Builtin.min_,Builtin.min2];omega
theorem opV_max4 {x y z u:Operand} {k:IntKind} {m r s q:Int} {ats:Array TypeId} (hx:ev S x=some (.int k m)) (hy:ev S y=some (.int k r)) (hz:ev S z=some (.int k s)) (hu:ev S u=some (.int k q)) :
  OpV P w0 S H ⟨d,.call ⟨.builtin .max,#[x,y,z,u],ats⟩,ty,pos,af,g⟩ (.int k (max (max (max m r) s) q)) :=
 jX (by simp [jQ,Op.operands,Call.operands,hx,hy,hz,hu]) rfl fun w _=>by
  simp [execOp,resolve,invoke,builtin,zV hx,zV hy,zV hz,zV hu,Builtin.max_,Builtin.max2];omega
end
end Go.Sx
namespace Go.Sx
structure Iv where
 lo:Int
 hi:Int
@[simp] theorem Iv.eta (x:Iv):(⟨x.lo,x.hi⟩:Iv)=x:=rfl
def iv (x:Iv):Value:=.agg #[.int .i64 x.lo,.int .i64 x.hi]
def vI (x:Int):Value:=.int .i64 x
def vB (b:Bool):Value:=.bool b
def In64 (a:Int):Prop:=-9223372036854775808≤a∧a≤9223372036854775807
def kH (a:Int):Int:=min (max a (-2147483648)) 2147483648
def zZ (a b:Int):Int:=-((-a) / b)
def Iv.valid (a:Iv):Bool:=decide (-2147483648≤a.lo) && decide (a.lo≤a.hi) && decide (a.hi≤2147483648)
def Iv.limited (lo hi:Int):Iv:=⟨kH lo,kH hi⟩
def Iv.of (x:Int):Iv:=⟨kH x,kH x⟩
def Iv.neg (a:Iv):Iv:=bif a.valid then ⟨-a.hi,-a.lo⟩ else ⟨0,0⟩
def Iv.add (a b:Iv):Iv:=bif a.valid && b.valid then ⟨kH (a.lo + b.lo),kH (a.hi + b.hi)⟩ else ⟨0,0⟩
def Iv.sub (a b:Iv):Iv:=bif a.valid && b.valid then ⟨kH (a.lo - b.hi),kH (a.hi - b.lo)⟩ else ⟨0,0⟩
def min4 (a b c d:Int):Int:=min (min (min a b) c) d
def max4 (a b c d:Int):Int:=max (max (max a b) c) d
def Iv.mul (a b:Iv):Iv:=bif a.valid && b.valid then
 ⟨kH (min4 (a.lo * b.lo) (a.lo * b.hi) (a.hi * b.lo) (a.hi * b.hi) / 65536),kH (zZ (max4 (a.lo * b.lo) (a.lo * b.hi) (a.hi * b.lo) (a.hi * b.hi)) 65536)⟩ else ⟨0,0⟩
def Iv.hull (a b:Iv):Iv:=bif a.valid && b.valid then ⟨min a.lo b.lo,max a.hi b.hi⟩ else ⟨0,0⟩
def Iv.meetB (a b:Iv):Bool:=a.valid && b.valid && decide (max a.lo b.lo≤min a.hi b.hi)
def Iv.has (a:Iv) (x:Int):Bool:=a.valid && decide (a.lo≤x) && decide (x≤a.hi)
def Iv.within (a b:Iv):Bool:=a.valid && b.valid && decide (b.lo≤a.lo) && decide (a.hi≤b.hi)
def Iv.width (a:Iv):Int:=bif a.valid then a.hi - a.lo else 0
theorem Iv.valid_spec {a:Iv} (h:a.valid=true) : -2147483648≤a.lo∧a.lo≤a.hi∧a.hi≤2147483648:=by
 simp [Iv.valid] at h; omega
theorem uZ {x y:Int} (h:Iv.valid ⟨x,y⟩=true) : -2147483648≤x∧x≤y∧y≤2147483648:=Iv.valid_spec h
theorem qWX {a b:Int} (_: -2147483648≤a∧a≤2147483648) (_: -2147483648≤b∧b≤2147483648) : -4611686018427387904≤a * b∧a * b≤4611686018427387904:=by
 have h1:a.natAbs * b.natAbs≤2147483648 * 2147483648:=Nat.mul_le_mul (by omega) (by omega);have h2:(a * b).natAbs=a.natAbs * b.natAbs:=Int.natAbs_mul a b;rw [← h2] at h1;omega
theorem yQI {a b:Int} (ha : -2147483648≤a∧a≤2147483648) (hb : -2147483648≤b∧b≤2147483648):vJJ .i64 (a * b)=a * b :=
 qK (by have:=qWX ha hb; omega)
theorem qHY {a b:Int} (_:In64 a) (hb:0 < b):In64 (a.tdiv b):=by
 unfold In64 at *;rcases Int.le_total 0 a with h | h
 ·rw [Int.tdiv_eq_ediv_of_nonneg h];have h1:=Int.ediv_le_self b h;have h2:0≤a / b:=Int.ediv_nonneg h (Int.le_of_lt hb);omega
 ·have e:a.tdiv b = -((-a) / b):=by
   rw [← Int.tdiv_eq_ediv_of_nonneg (by omega:0 ≤ -a),Int.neg_tdiv,Int.neg_neg]
  rw [e];have h1:=Int.ediv_le_self b (by omega:0 ≤ -a);have h2:0≤(-a) / b:=Int.ediv_nonneg (by omega) (Int.le_of_lt hb);omega
theorem zQH {a b:Int} (hb:0 < b) (h:a.tmod b < 0):a.tdiv b - 1=a / b:=by
 have h1:=Int.tdiv_mul_add_tmod a b;have h3 : -b < a.tmod b:=by
  have:=Int.lt_tmod_of_pos a hb
  omega
 have:a / b=a.tdiv b - 1:=by
  rw [Int.ediv_eq_iff_of_pos hb];have e:(a.tdiv b - 1) * b=a.tdiv b * b - b:=by rw [Int.sub_mul]; omega
  rw [e];omega
 omega
theorem zXF {a b:Int} (hb:0 < b) (h:¬ a.tmod b < 0):a.tdiv b=a / b:=by
 have h1:=Int.tdiv_mul_add_tmod a b;have h3:a.tmod b < b:=Int.tmod_lt_of_pos a hb
 have:a / b=a.tdiv b:=by
  rw [Int.ediv_eq_iff_of_pos hb];omega
 omega
theorem zZZ {a b q:Int} (hb:0 < b) (_:a≤q * b) (_:q * b < a + b):zZ a b=q:=by
 unfold zZ;have : -a / b = -q:=by
  rw [Int.ediv_eq_iff_of_pos hb,Int.neg_mul];omega
 omega
theorem ceil_pos {a b:Int} (hb:0 < b) (h:0 < a.tmod b):a.tdiv b + 1=zZ a b:=by
 have h1:=Int.tdiv_mul_add_tmod a b;have h3:a.tmod b < b:=Int.tmod_lt_of_pos a hb;refine (zZZ hb ?_ ?_).symm <;> rw [Int.add_mul] <;> omega
theorem ceil_neg {a b:Int} (hb:0 < b) (h:¬ 0 < a.tmod b):a.tdiv b=zZ a b:=by
 have h1:=Int.tdiv_mul_add_tmod a b;have h3 : -b < a.tmod b:=by
  have:=Int.lt_tmod_of_pos a hb
  omega
 refine (zZZ hb ?_ ?_).symm <;> omega
theorem shr_eq {a k:Int} (_:0≤k) (_:k≤62):a.fdiv (2 ^ min k.toNat IntKind.i64.bits)=a / 2 ^ k.toNat:=by
 have:min k.toNat IntKind.i64.bits=k.toNat:=by
  have hb:IntKind.i64.bits=64:=rfl;omega
 rw [this,Int.fdiv_eq_ediv_of_nonneg _ (by exact Int.le_of_lt (Int.pow_pos (by decide)))]
theorem pow_split {k:Nat} (h:k≤62):(2:Int) ^ (63 - k) * 2 ^ k=9223372036854775808:=by
 rw [← Int.pow_add,show 63 - k + k=63 by omega]; rfl
theorem shl_eq {a k:Int} (ha:In64 a) (_:0≤k) (_:k≤62):vJJ .i64 (a / 2 ^ k.toNat * 2 ^ min k.toNat IntKind.i64.bits)=a / 2 ^ k.toNat * 2 ^ k.toNat:=by
 have hm:min k.toNat IntKind.i64.bits=k.toNat:=by
  have hb:IntKind.i64.bits=64:=rfl;omega
 rw [hm];have hp:(0:Int) < 2 ^ k.toNat:=Int.pow_pos (by decide);have h2:=Int.ediv_mul_le a (Int.ne_of_gt hp);have h3 : -(2 ^ (63 - k.toNat))≤a / 2 ^ k.toNat:=by
  rw [Int.le_ediv_iff_mul_le hp,Int.neg_mul,pow_split (by omega)];exact ha.1
 have h4 : -(2 ^ (63 - k.toNat)) * 2 ^ k.toNat≤a / 2 ^ k.toNat * 2 ^ k.toNat:=Int.mul_le_mul_of_nonneg_right h3 (Int.le_of_lt hp);rw [Int.neg_mul,pow_split (by omega)] at h4;exact qK ⟨h4,by unfold In64 at ha; omega⟩
theorem ceil_of_mul {a b:Int} (hb:0 < b) (h:a / b * b=a):a / b=zZ a b:=(zZZ hb (by omega) (by omega)).symm
theorem ceil_of_ne {a b:Int} (hb:0 < b) (h:¬ a / b * b=a):a / b + 1=zZ a b:=by
 have h1:=Int.ediv_mul_le a (Int.ne_of_gt hb);have h2:=Int.lt_ediv_add_one_mul_self a hb;refine (zZZ hb ?_ ?_).symm <;> rw [Int.add_mul] at * <;> omega
theorem mul_le_neg {a b:Int} (_:a≤0) (hb:1≤b):a * b≤a:=by
 have:=Int.mul_le_mul_of_nonneg_left (c:=-a) hb (by omega)
 rw [Int.neg_mul,Int.neg_mul] at this;omega
theorem div_nonpos {a b:Int} (_:a≤0) (hb:0 < b):a / b≤0:=by
 rcases Int.lt_or_le 0 (a / b) with h | h
 ·have h1:=Int.ediv_mul_le a (Int.ne_of_gt hb);have h2:1 * b≤a / b * b:=Int.mul_le_mul_of_nonneg_right (by omega) (Int.le_of_lt hb);omega
 ·exact h
theorem shiftUp_bnd {a k:Int} (ha:In64 a) (h:¬ a / 2 ^ k.toNat * 2 ^ k.toNat=a) : -9223372036854775808≤a / 2 ^ k.toNat + 1∧a / 2 ^ k.toNat + 1≤9223372036854775807:=by
 have hp:(0:Int) < 2 ^ k.toNat:=Int.pow_pos (by decide);unfold In64 at ha;rcases Int.le_total 0 a with h' | h'
 ·have h1:=Int.ediv_le_self (2 ^ k.toNat) h';have h2:0≤a / 2 ^ k.toNat:=Int.ediv_nonneg h' (Int.le_of_lt hp);refine ⟨by omega,?_⟩;rcases Int.lt_or_le (a / 2 ^ k.toNat) a with h3 | h3
  ·omega
  ·have e:a / 2 ^ k.toNat=a:=by omega
   have h4:=Int.ediv_mul_le a (Int.ne_of_gt hp);rw [e] at h4 h;have h5:a * 1≤a * 2 ^ k.toNat:=Int.mul_le_mul_of_nonneg_left (by omega) h';omega
 ·have h1:a / 2 ^ k.toNat≤0:=div_nonpos h' hp;have h2:a≤a / 2 ^ k.toNat:=by
   rw [Int.le_ediv_iff_mul_le hp];exact mul_le_neg h' (by omega)
  omega
theorem floor_bnd {a b:Int} (ha:In64 a) (hb:0 < b) (h:a.tmod b < 0) : -9223372036854775808≤a.tdiv b - 1∧a.tdiv b - 1≤9223372036854775807:=by
 have h1:=qHY ha hb;have e:=zQH hb h;have h2:a≤a / b:=by
  have ha0:a≤0:=by
   rcases Int.le_total a 0 with h' | h'
   ·exact h'
   ·have:=Int.tmod_nonneg b h'
    omega
  rw [Int.le_ediv_iff_mul_le hb];exact mul_le_neg ha0 (by omega)
 unfold In64 at *;omega
theorem ceil_bnd {a b:Int} (ha:In64 a) (hb:0 < b) (h:0 < a.tmod b) : -9223372036854775808≤a.tdiv b + 1∧a.tdiv b + 1≤9223372036854775807:=by
 have h1:=qHY ha hb;have ha0:0≤a:=by
  rcases Int.le_total 0 a with h' | h'
  ·exact h'
  ·have h2:=Int.tmod_nonneg b (show 0 ≤ -a by omega);rw [Int.neg_tmod] at h2;omega
 have e:=Int.tdiv_mul_add_tmod a b;have h2:0≤a.tdiv b:=by rw [Int.tdiv_eq_ediv_of_nonneg ha0]; exact Int.ediv_nonneg ha0 (Int.le_of_lt hb)
 have h3:a.tdiv b * 1≤a.tdiv b * b:=Int.mul_le_mul_of_nonneg_left (by omega) h2;unfold In64 at *;omega
theorem clampI_id {a:Int} (h : -2147483648≤a∧a≤2147483648):kH a=a:=by unfold kH; omega
theorem and_mask {a:Int}:vJJ .i64 ((BitVec.ofInt IntKind.i64.bits a &&& BitVec.ofInt IntKind.i64.bits 65535).toNat)=a % 65536:=by
 have hb:IntKind.i64.bits=64:=rfl;have h1:(BitVec.ofInt IntKind.i64.bits a &&& BitVec.ofInt IntKind.i64.bits 65535).toNat=(a % 65536).toNat:=by
  rw [hb,BitVec.toNat_and];have e1:(BitVec.ofInt 64 65535).toNat=2 ^ 16 - 1:=by decide
  rw [e1,Nat.and_two_pow_sub_one_eq_mod,BitVec.toNat_ofInt];omega
 rw [h1];refine (qK ?_).trans ?_ <;> omega
section
variable {P:Program} {n:Nat} {w0:Base} {ops:Array Oper} {Q:Exit→Act→World→Prop} {S:yU} {H:Heap}
theorem qUW {α:Type} {F:α→Value} {x:α} {o:Oper} {rest:List Oper} {d:Nat} (ho:OpV P w0 S H o (F x)) (hw:qZV ops S o=some true) (hd:o.dst=some d) (hn:Nat.blt d n=true)
  (next:∀ r,r=x→DoL P n w0 ops Q rest ((d,F r) :: S) H):DoL P n w0 ops Q (o :: rest) S H:=qW ho hw hd hn (next x rfl)
theorem yZY {α:Type} {F:α→Value} {x:α} {o:Oper} {rest:List Oper} {d:Nat} {K:yU→qQV→Prop} {G:qQV} (ho:OpV P w0 S H o (F x)) (hw:qZV ops S o=some true) (hd:o.dst=some d) (hn:Nat.blt d n=true)
  (next:∀ r,r=x→DoG P n w0 ops H K rest ((d,F r) :: S) G):DoG P n w0 ops H K (o :: rest) S G:=kZ ho hw hd hn (next x rfl)
theorem fits_lit {a:Act} {d:Nat} {b c:Bool} (f:Fits n S a) (hb:look S d=some (.bool b)) (e:b=c):Fits n ((d,.bool c) :: S) a:=by
 subst e; exact fits_more f (f.has _ _ hb)
theorem doL_split {l:List Oper} (d:Nat) {b:Bool} (hb:look S d=some (.bool b)) (ht:b=true→DoL P n w0 ops Q l ((d,.bool true) :: S) H) (hf:b=false→DoL P n w0 ops Q l ((d,.bool false) :: S) H) :
  DoL P n w0 ops Q l S H:=fun a w f k=>by
 cases hbb:b with
 | true=>exact ht hbb a w (fits_lit f hb hbb) k
 | false=>exact hf hbb a w (fits_lit f hb hbb) k
end
end Go.Sx
namespace Go.Sx
open Go.RowKit Go.ChangeShapes Go.WideShapes
section
variable {P:Program} {W:World} {r:Reach} {base:Nat}
theorem zVF {t:TypeId} {v:Value} (hu:P.underlying t=some (.int .i64)) (h:Value.okWide P W r base t v):∃ n,v=.int .i64 n∧In64 n:=by
 simp only [Value.okWide,hu,Cell.okWide] at h;cases v <;> simp [Cell.ok,hu] at h
 obtain ⟨rfl,h1⟩:=h;exact ⟨_,rfl,by simpa [IntKind.has,IntKind.min,IntKind.max,IntKind.signed,IntKind.bits,In64] using h1⟩
variable {H:Type} {enc:TypeId × Value→H}
def yHB (P:Program) (ts:List TypeId):Bool:=ts.all fun t=>P.readableRec t && decide (t < P.types.size)
theorem trodAll_below (hl:laidOutB P=true) {W':World} (hb:Below W.heap.size W W'):∀ {ts:List TypeId} {vs:List Value} {ds:List (DataW H)} {ps:List MemPlace},yHB P ts=true →
  DataW.TrodAll enc P W 0 (fun _=>true) true ts vs ds ps→(∀ x ∈ ps,x.block < W.heap.size)→DataW.TrodAll enc P W' 0 (fun b=>decide (b < W.heap.size)) true ts vs ds ps
 | [],vs,ds,ps,_,h,_=>by
  obtain ⟨rfl,rfl,rfl⟩:=trodAll_nil h;exact trodAll_mk0
 | t :: ts,vs,ds,ps,hr,h,hlt=>by
  obtain ⟨v,vs',d,ds',p,q,rfl,rfl,rfl,h1,h2⟩:=trodAll_cons h;simp only [yHB,List.all_cons,vQJ,decide_eq_true_eq] at hr;exact trodAll_cons_mk (Below.trod hl hr.1.1 hr.1.2 h1 hb fun x hx=>hlt x (List.mem_append_left _ hx))
   (trodAll_below hl hb hr.2 h2 fun x hx=>hlt x (List.mem_append_right _ hx))
theorem law_post {f:Func} {s:ChangeSpec} {apart fresh handsOn:Bool} {W':World} {args:Array Value} {ds:List (DataW H)} {before:List MemPlace} {tb:TypeId}
  (hW:DataW.Whole enc P f.params.toList s.vars apart W args.toList ds [] before) (hvs:s.vars=[]) (hl:laidOutB P=true) (hr:yHB P f.params.toList=true) (hargs:(s.fn H (ds ++ [])).args=ds)
  (hres:(s.fn H (ds ++ [])).results=[.lit (.bool true)]) (hv:(s.fn H (ds ++ [])).vars=[]) (hrt:f.resultTypes=#[tb]) (hub:P.underlying tb=some .bool) (hb:Below W.heap.size W W') :
  s.post enc P f apart fresh handsOn false W args (.bool true) W':=by
 have hlt:∀ p ∈ before,p.block < W.heap.size:=fun p hp=>hW.lt p hp
 have hW2:=hW;obtain ⟨p,q,hA,hV,rfl,_,_⟩:=hW2;rw [hvs] at hV;obtain ⟨_,rfl⟩:=trodVars_none hV;refine ⟨ds,[],p ++ [],[],p,[],hW,?_,?_,?_,World.keptBut_mono (fun x hx=>⟨hx,Or.inr (Or.inl (by simpa using hx))⟩) (hb.frame (· ∈ p ++ [])),fun h=>by cases h⟩
 ·rw [hres,hrt];exact trodAll_mk1 (shut_bool hub true)
 ·rw [hargs];exact trodAll_below hl hb hr hA fun x hx=>hlt x (by simpa using hx)
 ·rw [hv,hvs];exact rfl
end
end Go.Sx
namespace Go.Sx
open Go.RowKit
structure GrowB (b:Nat→Prop) (w w':World):Prop where
 os:w'.os=w.os
 tape:w'.tape=w.tape
 output:w'.output=w.output
 size:w.heap.size≤w'.heap.size
 block:∀ k,k < w.heap.size→¬ b k→w'.heap[k]? = w.heap[k]?
theorem GrowB.of {b:Nat→Prop} {w w':World} (g:Grow w w'):GrowB b w w':=⟨g.os,g.tape,g.output,g.size,fun k hk _=>g.block k hk⟩
theorem GrowB.refl (b:Nat→Prop) (w:World):GrowB b w w:=.of (Grow.refl w)
theorem GrowB.trans {b:Nat→Prop} {x y z:World} (h:GrowB b x y) (k:GrowB b y z):GrowB b x z :=
 ⟨k.os.trans h.os,k.tape.trans h.tape,k.output.trans h.output,Nat.le_trans h.size k.size,fun i hi hb=>(k.block i (vZK hi h.size) hb).trans (h.block i hi hb)⟩
theorem GrowB.set (b:Nat) (w:World) (cs:Array Value):GrowB (· = b) w (w.setRow b cs):=⟨rfl,rfl,rfl,by simp,fun k _ hb=>setRow_other w b k cs hb⟩
def StableB (b:Nat→Prop) (T:Pred):Prop:=∀ v w w',T v w→GrowB b w w'→T v w'
section
variable {P:Program} {n:Nat} {ops:Array Oper} {Q:Exit→Act→World→Prop} {σ:Type}
def YieldsE (P:Program) (b:Nat→Prop) (w:World) (T:Pred) (K:World→Prop):Result Next→Prop
 | .ok (.value v) w'=>GrowB b w w'∧T v w'∧K w'
 | .ok (.enter f args) w'=>GrowB b w w'∧Calls P f args w' (fun e w''=>∃ v,e=.returned v∧GrowB b w' w''∧T v w''∧K w'')
 | _=>False
def OpE (P:Program) (n:Nat) (ops:Array Oper) (K1 K2:World→Prop) (b:Nat→Prop) (S:yU) (G:qQV) (o:Oper) (T:Pred):Prop :=
 ∀ a w,a.tmps.size=n→(∀ t ∈ o.looksAt ops,yKD S G a w t)→K1 w →
  Region.wanted o (yielded ops a.tmps)=true∧YieldsE P b w T K2 ((execOp a.eval o).run P w)
structure Fam (b:Nat→Prop) (w1:Base) (H0:Heap) (Wf:σ→Base) (Hf:σ→Heap):Prop where
 size:∀ s,(Wf s).w.heap.size=w1.w.heap.size
 told:∀ s,(Wf s).R=w1.R
 adr:∀ s,(Hf s).map (·.2.1)=H0.map (·.2.1)
 here:∀ k,b k→k < w1.w.heap.size ∨ k ∈ H0.map (·.2.1)
def PureAt (P:Program) (n:Nat) (ops:Array Oper) (Wf:σ→Base) (Hf:σ→Heap) (S:yU) (G:qQV) (o:Oper) (T:Pred):Prop:=∀ s',OpA P n (Wf s') ops (Hf s') S G o T
structure CertOkM (P:Program) (n:Nat) (ops:Array Oper) (b:Nat→Prop) (Wf:σ→Base) (Hf:σ→Heap) (H0:Heap) (es:List Nat) (i:Nat) (s s2:σ) (o:Oper) (c:Cert):Prop where
 dst:o.dst=some c.d
 lt:c.d < n
 nosel:zWH o=true
 stable:StableB b c.T
 op:(es.contains i=false∧s2=s∧PureAt P n ops Wf Hf c.S c.G o c.T) ∨ (es.contains i=true∧OpE P n ops (Knows (Wf s) (Hf s)) (Knows (Wf s2) (Hf s2)) b c.S c.G o c.T)
 al:c.al=true→(es.contains i=false∧∀ s',yVW P n (Wf s') ops (Hf s') c.S c.G o)∧jQH H0 c.T
variable {b:Nat→Prop} {Wf:σ→Base} {Hf:σ→Heap} {H0:Heap} {es:List Nat} {w1:Base}
structure InvM (S0:yU) (Wf:σ→Base) (Hf:σ→Heap) (es:List Nat) (ss:Nat→σ) (N n:Nat) (cs:List Cert) (listed:Array Bool) (a:Act) (w:World):Prop where
 size:a.tmps.size=n
 defers:a.defers=[]
 old:∀ t v,look S0 t=some v→(∀ i c,cs[i]? = some c→c.d=t→listed.getD i false=false)→a.tmps[t]? = some v
 done:∀ i c,cs[i]? = some c→listed.getD i false=true→∃ u,a.tmps[c.d]? = some u∧c.T u w
 apart:∀ i j c c',cs[i]? = some c→cs[j]? = some c'→i ≠ j→c.al=true→c'.al=true→listed.getD i false=true→listed.getD j false=true→a.tmps[c.d]? ≠ a.tmps[c'.d]?
 knows:∃ m,m≤N∧Knows (Wf (ss m)) (Hf (ss m)) w∧∀ i,i < N→es.contains i=true→(listed.getD i false=true ↔ i < m)
variable {S0:yU}
variable {S:yU} {G:qQV} {K:σ→yU→qQV→Prop} {o:Oper} {l:List Oper} {d i:Nat} {s:σ}
end
end Go.Sx

/- Part 1 of the texts behind the last one: rules and contracts. No condition. -/
import Derived.StillTail
import Derived.LoopN
import Derived.Below
import Derived.KernelRfl
import Derived.Laws.CopyRow
import Derived.WalkKit
import Derived.Laws.Tables
import Derived.ChangeKeysEq
import Derived.ProofKit
import Derived.OpenShut
import Derived.ChangeSlices
import Derived.WideShapes
import Derived.Test.YtklmegnpfhiibaaGreatProg
import Derived.Laws.OwnMore
import Derived.Laws.MakeOwn
import Derived.Defers
import Derived.Laws.Cover3
import Derived.Deep.AppendSrc
import Derived.Scope
import Derived.Recover
import Derived.Laws.RangeAny
import Derived.Laws.RangeString
import Derived.Maps.OwnSet
import Derived.WideKeyArr
import Derived.Lib.SliceRun
open List renaming getElem?_eq_getElem → vQK, mem_cons_of_mem → vQV, mem_cons_self → vQG, getElem?_take → vZU
open Nat renaming eq_of_beq_eq_true → vQU, lt_of_lt_of_le → vZZ, le_of_ble_eq_true → vZJ
open Array renaming all_eq_true_iff_forall_mem → vZH
theorem vYZ {α : Type} {a b : α} : cond true a b = a := rfl
theorem vYY {α : Type} {a b : α} : cond false a b = b := rfl
theorem vYJ {p : Prop} [Decidable p] : ¬ p → decide p = false := fun h => decide_eq_false h
theorem vYK {p : Prop} [Decidable p] : p → decide p = true := fun h => decide_eq_true h
theorem vYU {p : Prop} [Decidable p] : decide p = true → p := fun h => of_decide_eq_true h
theorem vYX {p : Prop} [Decidable p] : decide p = false → ¬ p := fun h => of_decide_eq_false h
namespace Go.Sx
open Go.RowKit
def qXD {α:Type} (c:α):Option (List α)→Option (List α)
 | some l=>some (c :: l)
 | none=>none
theorem kK {α:Type} {c:α} {x:Option (List α)} {vs:List α} (h:qXD c x=some vs):∃ l,x=some l∧c :: l=vs:=by
 cases x with
 | none=>cases h
 | some l=>exact ⟨l,rfl,by simpa [qXD] using h⟩
abbrev yY:=List (Nat × Value)
def look:yY→Nat→Option Value
 | [],_=>none
 | (k,v) :: S,t=>bif Nat.beq k t then some v else look S t
def ev (S:yY):Operand→Option Value
 | .tmp t=>look S t
 | .const v=>some v
 | .global g=>some (.pointer (some ⟨g,0,none⟩))
 | .func f=>some (.func (.func f) #[] #[])
def evD (S:yY) (x:Operand):Value:=(ev S x).getD undef
def evs (S:yY):List Operand→Option (List Value)
 | []=>some []
 | x :: xs=>match ev S x with
  | some v=>qXD v (evs S xs)
  | none=>none
theorem qQC (k:Nat) (v:Value) (S:yY):look ((k,v) :: S) k=some v:=by
 simp [look]
theorem qZU {k t:Nat} (v:Value) (S:yY) (h:k ≠ t):look ((k,v) :: S) t=look S t:=by
 have:Nat.beq k t=false:=by
  cases hb:Nat.beq k t with
  | false=>rfl
  | true=>exact absurd (vQU hb) h
 simp [look,this]
structure Fits (n:Nat) (S:yY) (a:Act):Prop where
 size:a.tmps.size=n
 defers:a.defers=[]
 has:∀ t v,look S t=some v→a.tmps[t]? = some v
theorem Fits.ev {n:Nat} {S:yY} {a:Act} (h:Fits n S a) {x:Operand} {v:Value} (hx:ev S x=some v):a.eval x=v:=by
 cases x with
 | tmp t =>
  have:=h.has t v hx
  simp [Act.eval,Array.getD_eq_getD_getElem?,this]
 | const u=>simpa [Sx.ev,Act.eval] using hx
 | global g=>simpa [Sx.ev,Act.eval] using hx
 | func f=>simpa [Sx.ev,Act.eval] using hx
theorem Fits.put {n:Nat} {S:yY} {a:Act} (h:Fits n S a) {d:Nat} (hd:Nat.blt d n=true) (v:Value):Fits n ((d,v) :: S) (a.put (some d) v):=by
 have hd':d < n:=by simpa using hd
 refine ⟨by simp [Act.put,h.size],h.defers,fun t u hu => ?_⟩;by_cases e:d=t
 ·subst e;rw [qQC] at hu;cases hu;simp [Act.put,h.size,hd']
 ·rw [qZU _ _ e] at hu;simp [Act.put,Array.getElem?_setIfInBounds_ne e,h.has t u hu]
abbrev Heap:=List (Nat × Nat × List Value × TypeId)
def Grow (w w':World):Prop:=Below w.heap.size w w'
theorem Grow.refl (w:World):Grow w w:=Below.refl _ _
theorem Grow.trans {a b c:World} (h:Grow a b) (k:Grow b c):Grow a c:=Below.trans h (Below.mono k h.size)
theorem Grow.drew {a w:World} (h:Grow a w):Grow a w.drew:=Below.drew h
theorem Grow.alloc {a w:World} (h:Grow a w) (o:Obj):Grow a (w.alloc o):=Below.alloc h h.size o
def qUE:Heap→Nat→Option (Nat × List Value × TypeId)
 | [],_=>none
 | (k,x) :: H,i=>bif Nat.beq k i then some x else qUE H i
def updH:Heap→Nat→List Value→Option Heap
 | [],_,_=>none
 | (k,b,cs,ty) :: H,i,cs'=>bif Nat.beq k i then some ((k,b,cs',ty) :: H) else qXD (k,b,cs,ty) (updH H i cs')
def qWA (D:Nat→Prop) (F:World→Prop):Prop:=∀ w w':World,(∀ k,D k→w'.heap[k]? = w.heap[k]?)→F w→F w'
def Told (m:Nat) (F:World→Prop) (w:World):Prop:=∃ D:Nat→Prop,qWA D F∧(∀ k,D k→m≤k∧k < w.heap.size)∧F w
structure RFact (m:Nat) (H:Heap) (D:Nat→Prop) (F:World→Prop) (w:World):Prop where
 dep:qWA D F
 at':∀ k,D k→m≤k∧k < w.heap.size∧∀ x ∈ H,x.2.1 ≠ k
 holds:F w
structure Base where
 w:World
 R:List (Nat × (Nat→Prop) × (World→Prop))
structure Knows (w0:Base) (H:Heap) (w:World):Prop where
 grow:Grow w0.w w
 has:∀ x ∈ H,w0.w.heap.size≤x.2.1∧w.heap[x.2.1]? = some (.cells x.2.2.1.toArray x.2.2.2)
 nodup:(H.map (·.2.1)).Nodup
 facts:∀ x ∈ w0.R,RFact w0.w.heap.size H x.2.1 x.2.2 w
 apart:w0.R.Pairwise (fun x y=>∀ k,x.2.1 k→¬ y.2.1 k)
theorem RFact.grow {m:Nat} {H:Heap} {D:Nat→Prop} {F:World→Prop} {w w':World} (h:RFact m H D F w) (g:Grow w w'):RFact m H D F w' :=
 ⟨h.dep,fun k hk=>⟨(h.at' k hk).1,vZZ (h.at' k hk).2.1 g.size,(h.at' k hk).2.2⟩,h.dep w w' (fun k hk=>g.block k (h.at' k hk).2.1) h.holds⟩
theorem RFact.heap {m:Nat} {H H':Heap} {D:Nat→Prop} {F:World→Prop} {w:World} (h:RFact m H D F w) (hs:∀ x ∈ H',(∃ y ∈ H,y.2.1=x.2.1) ∨ ¬ D x.2.1):RFact m H' D F w:=by
 refine ⟨h.dep,fun k hk=>⟨(h.at' k hk).1,(h.at' k hk).2.1,fun x hx e => ?_⟩,h.holds⟩;rcases hs x hx with ⟨y,hy,he⟩ | hn
 ·exact (h.at' k hk).2.2 y hy (he.trans e)
 ·exact hn (e ▸ hk)
theorem qGG {H:Heap} {i:Nat} {x:Nat × List Value × TypeId} (h:qUE H i=some x):∃ k,(k,x) ∈ H:=by
 induction H with
 | nil=>cases h
 | cons y H ih =>
  obtain ⟨k,y⟩:=y;simp only [qUE] at h;cases hb:Nat.beq k i with
  | true=>rw [hb] at h; simp at h; subst h; exact ⟨k,vQG⟩
  | false=>rw [hb] at h; simp at h; obtain ⟨k',hk⟩:=ih h; exact ⟨k',vQV _ hk⟩
theorem Knows.at {w0:Base} {w:World} {H:Heap} (h:Knows w0 H w) {i b:Nat} {cs:List Value} {ty:TypeId} (hi:qUE H i=some (b,cs,ty)) :
  w0.w.heap.size≤b∧w.heap[b]? = some (.cells cs.toArray ty):=by
 obtain ⟨k,hk⟩:=qGG hi;exact h.has _ hk
theorem qZW {w:World} {b:Nat} {o:Obj} (h:w.heap[b]? = some o):b < w.heap.size:=by
 rcases Nat.lt_or_ge b w.heap.size with h' | h'
 ·exact h'
 ·simp [Array.getElem?_eq_none h'] at h
theorem Knows.next {w0:Base} {w w':World} {H:Heap} (h:Knows w0 H w) (g:Grow w w'):Knows w0 H w' :=
 ⟨h.grow.trans g,fun x hx=>⟨(h.has x hx).1,by rw [g.block _ (qZW (h.has x hx).2)]; exact (h.has x hx).2⟩,h.nodup,fun x hx=>(h.facts x hx).grow g,h.apart⟩
theorem Knows.nil {w1 w:World} (g:Grow w1 w):Knows ⟨w1,[]⟩ [] w:=⟨g,fun _ h=>(by cases h),List.nodup_nil,fun _ h=>(by cases h),List.Pairwise.nil⟩
theorem Knows.lt {w0:Base} {w:World} {H:Heap} (h:Knows w0 H w):∀ x ∈ H,x.2.1 < w.heap.size:=fun x hx=>qZW (h.has x hx).2
theorem Knows.tell {w0:Base} {w w':World} {H:Heap} (h:Knows w0 H w) (g:Grow w w') (id:Nat) {D:Nat→Prop} {F:World→Prop} (h1:qWA D F) (h2:∀ k,D k→w.heap.size≤k∧k < w'.heap.size) (h3:F w'):Knows ⟨w0.w,(id,D,F) :: w0.R⟩ H w':=by
 have k:=h.next g;refine ⟨k.grow,k.has,k.nodup,fun x hx => ?_,List.Pairwise.cons (fun y hy j h4 h5=>by have:=(h2 j h4).1; have:=((h.facts y hy).at' j h5).2.1; omega) h.apart⟩;rcases List.mem_cons.1 hx with rfl | hx
 ·exact ⟨h1,fun j hj=>⟨Nat.le_trans h.grow.size (h2 j hj).1,(h2 j hj).2,fun y hy e=>by have:=h.lt y hy; have:=(h2 j hj).1; omega⟩,h3⟩
 ·exact k.facts x hx
theorem Knows.alloc {w0:Base} {w:World} {H:Heap} (h:Knows w0 H w) (id:Nat) (cs:List Value) (ty:TypeId) :
  Knows w0 ((id,w.heap.size,cs,ty) :: H) (w.alloc (.cells cs.toArray ty)):=by
 have h2:=h.next ((Grow.refl w).alloc (.cells cs.toArray ty));refine ⟨h2.grow,fun x hx => ?_,?_,fun F hF => ?_,h.apart⟩
 ·rcases List.mem_cons.1 hx with rfl | hx
  ·refine ⟨h.grow.size,?_⟩;show (w.heap.push _)[w.heap.size]? = _
   simp
  ·exact h2.has x hx
 ·rw [List.map_cons,List.nodup_cons];refine ⟨fun hm => ?_,h.nodup⟩;obtain ⟨x,hx,he⟩:=List.mem_map.1 hm
  have:=qZW (h.has x hx).2
  simp only at he;omega
 ·exact ((h.facts F hF).heap (H':=(id,w.heap.size,cs,ty) :: H) fun x hx=>by
   rcases List.mem_cons.1 hx with rfl | hx
   ·exact .inr fun hd=>by have:=((h.facts F hF).at' _ hd).2.1; simp only at this; omega
   ·exact .inl ⟨x,hx,rfl⟩).grow ((Grow.refl w).alloc _)
theorem updH_spec {H H':Heap} {i:Nat} {cs':List Value} (h:updH H i cs'=some H'):∃ b cs ty,qUE H i=some (b,cs,ty)∧H'.map (·.2.1)=H.map (·.2.1) ∧
  ((H.map (·.2.1)).Nodup→∀ x ∈ H',x ∈ H∧x.2.1 ≠ b ∨ x.2=(b,cs',ty)):=by
 induction H generalizing H' with
 | nil=>cases h
 | cons y H ih =>
  obtain ⟨k,b,cs,ty⟩:=y;simp only [updH] at h;cases hb:Nat.beq k i with
  | true =>
   rw [hb] at h; simp at h; subst h;refine ⟨b,cs,ty,by simp [qUE,hb],by simp,fun nd x hx => ?_⟩;rcases List.mem_cons.1 hx with rfl | hx
   ·exact .inr rfl
   ·rw [List.map_cons,List.nodup_cons] at nd;exact .inl ⟨vQV _ hx,fun e=>nd.1 (List.mem_map.2 ⟨x,hx,e⟩)⟩
  | false =>
   rw [hb] at h;obtain ⟨H2,h2,rfl⟩:=kK h;obtain ⟨b2,cs2,ty2,e1,e2,e3⟩:=ih h2;refine ⟨b2,cs2,ty2,by simp [qUE,hb,e1],by simp [e2],fun nd x hx => ?_⟩;rw [List.map_cons,List.nodup_cons] at nd;rcases List.mem_cons.1 hx with rfl | hx
   ·refine .inl ⟨vQG,fun e=>nd.1 ?_⟩;obtain ⟨k',hk⟩:=qGG e1;exact List.mem_map.2 ⟨_,hk,e.symm⟩
   ·rcases e3 nd.2 x hx with ⟨h1,h2⟩ | h1
    ·exact .inl ⟨vQV _ h1,h2⟩
    ·exact .inr h1
theorem Knows.set {w0:Base} {w:World} {H H':Heap} (h:Knows w0 H w) {i:Nat} {b:Nat} {cs cs':List Value} {ty:TypeId} (hi:qUE H i=some (b,cs,ty))
  (hu:updH H i cs'=some H'):Knows w0 H' (w.setRow b cs'.toArray):=by
 obtain ⟨hb,hh⟩:=h.at hi;obtain ⟨b2,cs2,ty2,e1,e2,e3⟩:=updH_spec hu;rw [hi] at e1;cases e1;have hother:∀ k,k ≠ b→(w.setRow b cs'.toArray).heap[k]? = w.heap[k]?:=fun k hk=>by
  simp only [World.setRow,Array.getElem?_modify];rw [if_neg (by omega)]
 refine ⟨⟨h.grow.os,h.grow.tape,h.grow.output,by simpa [World.setRow] using h.grow.size,fun k hk => ?_⟩,fun x hx => ?_,by rw [e2]; exact h.nodup,fun F hF => ?_,h.apart⟩
 ·rw [hother k (by omega)];exact h.grow.block k hk
 ·rcases e3 h.nodup x hx with ⟨h1,h2⟩ | h1
  ·refine ⟨(h.has x h1).1,?_⟩;rw [hother _ h2];exact (h.has x h1).2
  ·obtain ⟨k,x⟩:=x;simp only at h1;subst h1;exact ⟨hb,setRow_heap w b _ _ ty _ hh⟩
 ·obtain ⟨h1,h2,h3⟩:=h.facts F hF;obtain ⟨kk,hkk⟩:=qGG hi;have hbD:∀ k,F.2.1 k→k ≠ b:=fun k hk e=>(h2 k hk).2.2 _ hkk e.symm
  refine ⟨h1,fun k hk=>⟨(h2 k hk).1,by simpa [World.setRow] using (h2 k hk).2.1,fun x hx e => ?_⟩,h1 w _ (fun k hk=>hother k (hbD k hk)) h3⟩;have hm:x.2.1 ∈ H'.map (·.2.1):=List.mem_map.2 ⟨x,hx,rfl⟩;rw [e2] at hm;obtain ⟨y,hy,hye⟩:=List.mem_map.1 hm;exact (h2 k hk).2.2 y hy (hye.trans e)
section
variable {P:Program} {n:Nat} {w0:Base} {ops:Array Oper} {Q:Exit→Act→World→Prop} {S:yY} {H:Heap}
def DoL (P:Program) (n:Nat) (w0:Base) (ops:Array Oper) (Q:Exit→Act→World→Prop) (l:List Oper) (S:yY) (H:Heap):Prop :=
 ∀ a w,Fits n S a→Knows w0 H w→wpList P ops Q l a w
def DoC (P:Program) (n:Nat) (w0:Base) (Q:Exit→Act→World→Prop) (c:Code) (S:yY) (H:Heap):Prop :=
 ∀ a w,Fits n S a→Knows w0 H w→c.wp P Q a w
def qUY (n:Nat) (w0:Base) (Q:Exit→Act→World→Prop) (e:Exit) (S:yY) (H:Heap):Prop :=
 ∀ a w,Fits n S a→Knows w0 H w→Q e a w
theorem zJ {x y:Code} (h:DoC P n w0 (Exit.then (y.wp P Q) Q) x S H):DoC P n w0 Q (x.seq y) S H:=fun a w f k=>wp_seq (h a w f k)
theorem qK {id:Nat} {l:List Oper} (h:DoL P n w0 l.toArray Q l S H):DoC P n w0 Q (.region id l.toArray false) S H:=fun a w f k=>wp_region_lit (h a w f k)
theorem zX (h:qUY n w0 Q .normal S H):DoL P n w0 ops Q [] S H:=fun a w f k=>wpList_nil (h a w f k)
theorem qQF (h:qUY n w0 Q .normal S H):DoC P n w0 Q .skip S H:=fun a w f k=>wp_skip (h a w f k)
theorem qZD (h:qUY n w0 Q .ret S H):DoC P n w0 Q .ret S H:=fun a w f k=>wp_ret (h a w f k)
theorem doC_exit {id:Nat} (h:qUY n w0 Q (.exit id) S H):DoC P n w0 Q (.exit id) S H:=fun a w f k=>wp_exit (h a w f k)
theorem doC_block {id:Nat} {c:Code} (h:DoC P n w0 (Exit.inBlock id Q) c S H):DoC P n w0 Q (.block id c) S H:=fun a w f k=>wp_block (h a w f k)
theorem qKQ {c:Operand} {x y:Code} {b:Bool} (hc:ev S c=some (.bool b)) (h1:b=true→DoC P n w0 Q x S H) (h2:b=false→DoC P n w0 Q y S H) :
  DoC P n w0 Q (.cond c x y) S H:=fun a w f k=>by
 refine wp_cond (f.ev hc) ?_;cases b with
 | true=>exact h1 rfl a w f k
 | false=>exact h2 rfl a w f k
theorem qKU {c:Operand} {x y:Code} {b:Bool} (hc:ev S c=some (.bool b)) (hb:b=false) (h1:DoC P n w0 Q y S H):DoC P n w0 Q (.cond c x y) S H :=
 qKQ hc (fun h=>by rw [hb] at h; cases h) (fun _=>h1)
theorem qJ {y:Code} (h:DoC P n w0 Q y S H):qUY n w0 (Exit.then (y.wp P Q) Q) .normal S H:=h
theorem qYC {K:Act→World→Prop} (h:qUY n w0 Q .ret S H):qUY n w0 (Exit.then K Q) .ret S H:=h
theorem qUB {K:Act→World→Prop} {id:Nat} (h:qUY n w0 Q (.exit id) S H):qUY n w0 (Exit.then K Q) (.exit id) S H:=h
theorem post_block_normal {id:Nat} (h:qUY n w0 Q .normal S H):qUY n w0 (Exit.inBlock id Q) .normal S H:=h
theorem post_block_exit {id:Nat} (h:qUY n w0 Q .normal S H):qUY n w0 (Exit.inBlock id Q) (.exit id) S H:=fun a w f k=>by
 show (if id=id then _ else _); rw [if_pos rfl]; exact h a w f k
def Yields (P:Program) (w:World) (T:Value→World→Prop):Result Next→Prop
 | .ok (.value v) w'=>Grow w w'∧T v w'
 | .ok .skip w'=>Grow w w'∧T undef w'
 | .ok (.enter f args) w'=>Grow w w'∧Calls P f args w' (fun e w''=>∃ v,e=.returned v∧Grow w' w''∧T v w'')
 | _=>False
def yQ (S:yY) (o:Oper):Bool:=o.op.operands.all fun x=>(ev S x).isSome
def zXX (o:Oper):Bool:=match o.op with | .select .. => false | _=>true
def qZH (ops:Array Oper) (S:yY) (o:Oper):Option Bool :=
 match o.guard with
 | none=>some true
 | some (j,b)=>match (ops[j]?).bind (·.dst) with
  | some d=>match look S d with
   | some (.bool c)=>some (c == b)
   | _=>none
  | none=>none
structure OpT (P:Program) (w0:Base) (S:yY) (H:Heap) (o:Oper) (T:Value→World→Prop):Prop where
 known:yQ S o=true
 nosel:zXX o=true
 run:∀ w,Knows w0 H w→Yields P w T ((execOp (evD S) o).run P w)
def OpV (P:Program) (w0:Base) (S:yY) (H:Heap) (o:Oper) (v:Value):Prop:=OpT P w0 S H o (fun u _=>u=v)
theorem noSel_spec {o:Oper} (h:zXX o=true) (cs:Array SelectCase) (b:Bool):o.op ≠ .select cs b:=by
 intro e; simp [zXX,e] at h
theorem qXJ {S:yY} {a:Act} (f:Fits n S a) {o:Oper} (hk:yQ S o=true) (hs:zXX o=true):execOp a.eval o=execOp (evD S) o:=by
 refine execOp_congr o (noSel_spec hs) fun x hx => ?_
 have:=Array.all_eq_true_iff_forall_mem.1 hk x hx
 obtain ⟨v,hv⟩:=Option.isSome_iff_exists.1 this;rw [f.ev hv];simp [evD,hv]
theorem qZQ {S:yY} {a:Act} (f:Fits n S a) {o:Oper} {b:Bool} (h:qZH ops S o=some b):Region.wanted o (yielded ops a.tmps)=b:=by
 unfold qZH at h;unfold Region.wanted;cases hg:o.guard with
 | none=>simp [hg] at h; simp [h]
 | some g =>
  obtain ⟨j,c⟩:=g;simp only [hg] at h ⊢;unfold yielded;cases hd:(ops[j]?).bind (·.dst) with
  | none=>simp [hd] at h
  | some d =>
   simp only [hd] at h;cases hl:look S d with
   | none=>simp [hl] at h
   | some v =>
    rw [hl] at h
    have:=f.has d v hl
    cases v <;> simp at h
    simp [this,h]
theorem doL_op {o:Oper} {rest:List Oper} {T:Value→World→Prop} (hw:qZH ops S o=some true) (ho:OpT P w0 S H o T)
  (next:∀ a w w' v,Fits n S a→Knows w0 H w→Grow w w'→T v w'→wpList P ops Q rest (a.put o.dst v) w'):DoL P n w0 ops Q (o :: rest) S H:=by
 intro a w f k;unfold wpList;rw [qZQ f hw,if_pos rfl];refine .inl ?_;have hr:=ho.run w k;unfold Oper.wp;rw [qXJ f ho.known ho.nosel];generalize (execOp (evD S) o).run P w=r at *;cases r with
 | ok x w' =>
  cases x <;> simp only [Yields] at hr <;> simp only [Oper.upon]
  case value v=>exact next a w w' v f k hr.1 hr.2
  case skip=>exact next a w w' undef f k hr.1 hr.2
  case enter fn args =>
   refine hr.2.mono fun e w'' ⟨v,he,hg,ht⟩ => ?_
   subst he;exact next a w w'' v f k (hr.1.trans hg) ht
 | halt x w'=>simp only [Yields] at hr
theorem zH {o:Oper} {rest:List Oper} {v:Value} {d:Nat} (ho:OpV P w0 S H o v) (hw:qZH ops S o=some true) (hd:o.dst=some d) (hn:Nat.blt d n=true)
  (next:DoL P n w0 ops Q rest ((d,v) :: S) H):DoL P n w0 ops Q (o :: rest) S H :=
 doL_op hw ho fun a w w' u f k g ht=>by
  subst ht;rw [hd];exact next _ _ (f.put hn _) (k.next g)
end
end Go.Sx
namespace Go.Sx
open Go.RowKit
section
variable {P:Program} {n:Nat} {w0:Base} {ops:Array Oper} {Q:Exit→Act→World→Prop} {S:yY} {H:Heap}
variable {d:Option Tmp} {ty:TypeId} {pos:String} {af:Array Edge} {g:Option (Nat × Bool)}
theorem zQ {x:Operand} {v:Value} (h:ev S x=some v):evD S x=v:=by simp [evD,h]
theorem yG {o:Oper} {v:Value} (hk:yQ S o=true) (hs:zXX o=true) (h:∀ w,Knows w0 H w→(execOp (evD S) o).run P w=.ok (.value v) w):OpV P w0 S H o v :=
 ⟨hk,hs,fun w k=>by rw [h w k]; exact ⟨Grow.refl _,rfl⟩⟩
theorem yX {x:Operand} {v:Value} (hx:ev S x=some v):OpV P w0 S H ⟨d,.move x,ty,pos,af,g⟩ v :=
 yG (by simp [yQ,Op.operands,hx]) rfl fun w _=>by simp [execOp,zQ hx]
theorem zK {x:Operand} {v:Value} (hx:ev S x=some v):OpV P w0 S H ⟨d,.assign x,ty,pos,af,g⟩ v :=
 yG (by simp [yQ,Op.operands,hx]) rfl fun w _=>by simp [execOp,zQ hx]
theorem opV_pick_t {c x y:Operand} {b:Bool} {v u:Value} (hc:ev S c=some (.bool b)) (hb:b=true) (hx:ev S x=some v) (hy:ev S y=some u):OpV P w0 S H ⟨d,.pick c x y,ty,pos,af,g⟩ v :=
 yG (by simp [yQ,Op.operands,hx,hc,hy]) rfl fun w _=>by simp [execOp,zQ hx,zQ hc,hb,asBool]
theorem opV_pick_f {c x y:Operand} {b:Bool} {v u:Value} (hc:ev S c=some (.bool b)) (hb:b=false) (hx:ev S x=some u) (hy:ev S y=some v):OpV P w0 S H ⟨d,.pick c x y,ty,pos,af,g⟩ v :=
 yG (by simp [yQ,Op.operands,hx,hc,hy]) rfl fun w _=>by simp [execOp,zQ hy,zQ hc,hb,asBool]
section ints
variable {x y:Operand} {k:IntKind} {m r q:Int} {t t':TypeId}
theorem zKU (hx:ev S x=some (.int k m)) (hy:ev S y=some (.int k r)) (hq:k.wrap (m + r)=q):OpV P w0 S H ⟨d,.binOp .add t x y t',ty,pos,af,g⟩ (.int k q) :=
 yG (by simp [yQ,Op.operands,hx,hy]) rfl fun w _=>by subst hq; cases k <;> simp [execOp,zQ hx,zQ hy,eqGuard,binOp,Op.intArith]
theorem opV_sub (hx:ev S x=some (.int k m)) (hy:ev S y=some (.int k r)) (hq:k.wrap (m - r)=q):OpV P w0 S H ⟨d,.binOp .sub t x y t',ty,pos,af,g⟩ (.int k q) :=
 yG (by simp [yQ,Op.operands,hx,hy]) rfl fun w _=>by subst hq; cases k <;> simp [execOp,zQ hx,zQ hy,eqGuard,binOp,Op.intArith]
theorem opV_mul (hx:ev S x=some (.int k m)) (hy:ev S y=some (.int k r)) (hq:k.wrap (m * r)=q):OpV P w0 S H ⟨d,.binOp .mul t x y t',ty,pos,af,g⟩ (.int k q) :=
 yG (by simp [yQ,Op.operands,hx,hy]) rfl fun w _=>by subst hq; cases k <;> simp [execOp,zQ hx,zQ hy,eqGuard,binOp,Op.intArith]
theorem opV_quo (hx:ev S x=some (.int k m)) (hy:ev S y=some (.int k r)) (h0:r ≠ 0) (hq:k.wrap (m.tdiv r)=q):OpV P w0 S H ⟨d,.binOp .quo t x y t',ty,pos,af,g⟩ (.int k q) :=
 yG (by simp [yQ,Op.operands,hx,hy]) rfl fun w _=>by subst hq; cases k <;> simp [execOp,zQ hx,zQ hy,eqGuard,binOp,Op.intDiv,h0]
theorem opV_rem (hx:ev S x=some (.int k m)) (hy:ev S y=some (.int k r)) (h0:r ≠ 0) (hq:m.tmod r=q):OpV P w0 S H ⟨d,.binOp .rem t x y t',ty,pos,af,g⟩ (.int k q) :=
 yG (by simp [yQ,Op.operands,hx,hy]) rfl fun w _=>by subst hq; cases k <;> simp [execOp,zQ hx,zQ hy,eqGuard,binOp,Op.intDiv,h0]
theorem opV_and (hx:ev S x=some (.int k m)) (hy:ev S y=some (.int k r)) (hq:k.wrap ((BitVec.ofInt k.bits m &&& BitVec.ofInt k.bits r).toNat)=q):OpV P w0 S H ⟨d,.binOp .and t x y t',ty,pos,af,g⟩ (.int k q) :=
 yG (by simp [yQ,Op.operands,hx,hy]) rfl fun w _=>by subst hq; cases k <;> simp [execOp,zQ hx,zQ hy,eqGuard,binOp,Op.intBits]
theorem opV_shr {k':IntKind} (hx:ev S x=some (.int k m)) (hy:ev S y=some (.int k' r)) (_:0≤r) (hq:m.fdiv (2 ^ (min r.toNat k.bits))=q):OpV P w0 S H ⟨d,.binOp .shr t x y t',ty,pos,af,g⟩ (.int k q) :=
 yG (by simp [yQ,Op.operands,hx,hy]) rfl fun w _=>by
  have h1:¬ r < 0:=by omega
  subst hq; simp [execOp,zQ hx,zQ hy,eqGuard,binOp,Op.shift,h1]
theorem opV_shl {k':IntKind} (hx:ev S x=some (.int k m)) (hy:ev S y=some (.int k' r)) (_:0≤r) (hq:k.wrap (m * 2 ^ (min r.toNat k.bits))=q):OpV P w0 S H ⟨d,.binOp .shl t x y t',ty,pos,af,g⟩ (.int k q) :=
 yG (by simp [yQ,Op.operands,hx,hy]) rfl fun w _=>by
  have h1:¬ r < 0:=by omega
  subst hq; simp [execOp,zQ hx,zQ hy,eqGuard,binOp,Op.shift,h1]
theorem opV_lss (hx:ev S x=some (.int k m)) (hy:ev S y=some (.int k r)):OpV P w0 S H ⟨d,.binOp .lss t x y t',ty,pos,af,g⟩ (.bool (decide (m < r))) :=
 yG (by simp [yQ,Op.operands,hx,hy]) rfl fun w _=>by cases k <;> simp [execOp,zQ hx,zQ hy,eqGuard,binOp,Op.intCmp]
theorem opV_leq (hx:ev S x=some (.int k m)) (hy:ev S y=some (.int k r)):OpV P w0 S H ⟨d,.binOp .leq t x y t',ty,pos,af,g⟩ (.bool (decide (m≤r))) :=
 yG (by simp [yQ,Op.operands,hx,hy]) rfl fun w _=>by cases k <;> simp [execOp,zQ hx,zQ hy,eqGuard,binOp,Op.intCmp]
theorem opV_gtr (hx:ev S x=some (.int k m)) (hy:ev S y=some (.int k r)):OpV P w0 S H ⟨d,.binOp .gtr t x y t',ty,pos,af,g⟩ (.bool (decide (r < m))) :=
 yG (by simp [yQ,Op.operands,hx,hy]) rfl fun w _=>by cases k <;> simp [execOp,zQ hx,zQ hy,eqGuard,binOp,Op.intCmp]
theorem opV_geq (hx:ev S x=some (.int k m)) (hy:ev S y=some (.int k r)):OpV P w0 S H ⟨d,.binOp .geq t x y t',ty,pos,af,g⟩ (.bool (decide (r≤m))) :=
 yG (by simp [yQ,Op.operands,hx,hy]) rfl fun w _=>by cases k <;> simp [execOp,zQ hx,zQ hy,eqGuard,binOp,Op.intCmp]
theorem opV_eql (hx:ev S x=some (.int k m)) (hy:ev S y=some (.int k r)):OpV P w0 S H ⟨d,.binOp .eql t x y t',ty,pos,af,g⟩ (.bool (decide (m=r))) :=
 yG (by simp [yQ,Op.operands,hx,hy]) rfl fun w _=>by cases k <;> simp [execOp,zQ hx,zQ hy,eqGuard,binOp,Op.intCmp] <;> rfl
theorem opV_neq (hx:ev S x=some (.int k m)) (hy:ev S y=some (.int k r)):OpV P w0 S H ⟨d,.binOp .neq t x y t',ty,pos,af,g⟩ (.bool (!decide (m=r))) :=
 yG (by simp [yQ,Op.operands,hx,hy]) rfl fun w _=>by cases k <;> simp [execOp,zQ hx,zQ hy,eqGuard,binOp,Op.intCmp] <;> rfl
theorem opV_neg (hx:ev S x=some (.int k m)) (hq:k.wrap (0 - m)=q):OpV P w0 S H ⟨d,.unOp .neg t x,ty,pos,af,g⟩ (.int k q) :=
 yG (by simp [yQ,Op.operands,hx]) rfl fun w _=>by subst hq; simp [execOp,zQ hx,Op.unary,Op.intArith]
theorem zWG {b:Bool} (hx:ev S x=some (.bool b)):OpV P w0 S H ⟨d,.unOp .not t x,ty,pos,af,g⟩ (.bool (!b)) :=
 yG (by simp [yQ,Op.operands,hx]) rfl fun w _=>by simp [execOp,zQ hx,Op.unary]
theorem opV_min2 {ats:Array TypeId} (hx:ev S x=some (.int k m)) (hy:ev S y=some (.int k r)):OpV P w0 S H ⟨d,.call ⟨.builtin .min,#[x,y],ats⟩,ty,pos,af,g⟩ (.int k (min m r)) :=
 yG (by simp [yQ,Op.operands,Call.operands,hx,hy]) rfl fun w _=>by
  simp [execOp,resolve,invoke,builtin,zQ hx,zQ hy,Builtin.min_,Builtin.min2]; omega
theorem opV_max2 {ats:Array TypeId} (hx:ev S x=some (.int k m)) (hy:ev S y=some (.int k r)):OpV P w0 S H ⟨d,.call ⟨.builtin .max,#[x,y],ats⟩,ty,pos,af,g⟩ (.int k (max m r)) :=
 yG (by simp [yQ,Op.operands,Call.operands,hx,hy]) rfl fun w _=>by
  simp [execOp,resolve,invoke,builtin,zQ hx,zQ hy,Builtin.max_,Builtin.max2]; omega
end ints
end
end Go.Sx
namespace Go.Sx
open Go.RowKit
def zGG:List Value→Nat→Option (List Value)
 | _,0=>some []
 | c :: cs,k + 1=>qXD c (zGG cs k)
 | [],_ + 1=>none
def zYI:List Value→Nat→Nat→Option (List Value)
 | cs,0,k=>zGG cs k
 | _ :: cs,off + 1,k=>zYI cs off k
 | [],_ + 1,_=>none
def qYU:List Value→Nat→List Value→Option (List Value)
 | cs,0,[]=>some cs
 | _ :: cs,0,v :: vs=>qXD v (qYU cs 0 vs)
 | c :: cs,off + 1,vs=>qXD c (qYU cs off vs)
 | [],0,_ :: _=>none
 | [],_ + 1,_=>none
def zHE:List Value→Option (List Value)
 | []=>some []
 | c :: cs=>qXD c (zHE cs)
theorem takeV_spec {cs:List Value} {k:Nat} {vs:List Value} (h:zGG cs k=some vs):vs=cs.take k∧k≤cs.length:=by
 induction k generalizing cs vs with
 | zero=>simp [zGG] at h; simp [h]
 | succ k ih =>
  cases cs with
  | nil=>simp [zGG] at h
  | cons c cs =>
   simp only [zGG] at h;obtain ⟨ws,hw,rfl⟩:=kK h;obtain ⟨e,hl⟩:=ih hw;simp [← e,hl]
theorem sliceV_spec {cs:List Value} {off k:Nat} {vs:List Value} (h:zYI cs off k=some vs):vs=(cs.drop off).take k∧off + k≤cs.length:=by
 induction off generalizing cs with
 | zero =>
  have:=takeV_spec (by simpa [zYI] using h)
  simpa using this
 | succ off ih =>
  cases cs with
  | nil=>simp [zYI] at h
  | cons c cs =>
   have:=ih (by simpa [zYI] using h)
   simp [this.1]; omega
theorem spliceV_spec {cs:List Value} {off:Nat} {vs cs':List Value} (h:qYU cs off vs=some cs') :
  cs'=cs.take off ++ vs ++ cs.drop (off + vs.length)∧off + vs.length≤cs.length:=by
 induction cs generalizing off vs cs' with
 | nil =>
  cases off with
  | zero=>cases vs with
   | nil=>simp [qYU] at h; simp [h]
   | cons v vs=>simp [qYU] at h
  | succ off=>simp [qYU] at h
 | cons c cs ih =>
  cases off with
  | zero=>cases vs with
   | nil=>simp [qYU] at h; simp [h]
   | cons v vs =>
    simp only [qYU] at h;obtain ⟨ws,hw,rfl⟩:=kK h;obtain ⟨e,hl⟩:=ih hw;simp at e hl ⊢;exact ⟨e,hl⟩
  | succ off =>
   simp only [qYU] at h;obtain ⟨ws,hw,rfl⟩:=kK h;obtain ⟨e,hl⟩:=ih hw;simp [e,show off + 1 + vs.length=(off + vs.length) + 1 by omega]; omega
theorem copyV_spec {cs vs:List Value} (h:zHE cs=some vs):vs=cs:=by
 induction cs generalizing vs with
 | nil=>simp [zHE] at h; exact h
 | cons c cs ih =>
  simp only [zHE] at h;obtain ⟨ws,hw,rfl⟩:=kK h;rw [ih hw]
def tyB (P:Program) (t:TypeId) (agg:Bool) (size:Nat):Bool :=
 (match P.underlying t with | some (.struct _)=>agg | some (.array _ _)=>agg | some _ => !agg | none=>false) && (match P.info? t with | some i=>i.size == size | none=>false)
def qQW (P:Program) (t:TypeId) (v:Value):Prop:=(P.info? t).bind (·.zero)=some v
def zXA (P:Program) (s f off:Nat):Bool :=
 match P.underlying s with
 | some (.struct fields)=>match fields[f]? with
  | some fld=>fld.offset == off && (match P.info? fld.type with | some i=>i.size != 0 | none=>false)
  | none=>false
 | _=>false
def arrB (P:Program) (t len size:Nat):Bool :=
 match P.underlying t with
 | some (.array l e)=>l == len && (match P.info? e with | some i=>i.size == size | none=>false)
 | _=>false
def slcB (P:Program) (t e size:Nat):Bool :=
 match P.underlying t with
 | some (.slice e')=>e' == e && (match P.info? e with | some i=>i.size == size | none=>false)
 | _=>false
section
variable {P:Program} {n:Nat} {w0:Base} {ops:Array Oper} {Q:Exit→Act→World→Prop} {S:yY} {H:Heap}
variable {d:Option Tmp} {ty:TypeId} {pos:String} {af:Array Edge} {g:Option (Nat × Bool)}
theorem qUH {t:TypeId} {agg:Bool} {size:Nat} (h:tyB P t agg size=true) (w:World):(isAgg t).run P w=.ok agg w:=by
 unfold tyB at h;cases hu:P.underlying t with
 | none=>simp [hu] at h
 | some ds=>cases ds <;> simp [hu] at h <;> simp [isAgg,run_underlying hu,h]
theorem qJZ {t:TypeId} {agg:Bool} {size:Nat} (h:tyB P t agg size=true) (w:World):(sizeOf t).run P w=.ok size w:=by
 unfold tyB at h;cases hi:P.info? t with
 | none=>simp [hi] at h
 | some i=>simp [hi] at h; simp [sizeOf,typeInfo,hi,h.2]
theorem qVF {t:TypeId} {v:Value} (h:qQW P t v) (w:World):(zeroValue t).run P w=.ok v w:=by
 unfold qQW at h;cases hi:P.info? t with
 | none=>simp [hi] at h
 | some i=>simp [hi] at h; simp [zeroValue,typeInfo,hi,h]
theorem qYK (b off k:Nat):(⟨b,off,none⟩:Addr).add k=⟨b,off + k,none⟩:=by unfold Addr.add; split <;> simp_all
theorem qVH {w:World} {b:Nat} {cs:List Value} {ty:TypeId} (h:w.heap[b]? = some (.cells cs.toArray ty)) (i:Nat):w.cell? ⟨b,i,none⟩=cs[i]?:=by
 simp [World.cell?,h]
theorem qJU {w:World} {b off k:Nat} {vs:List Value} (h:∀ i,i < k→w.cell? ⟨b,off + i,none⟩=vs[i]?) (hk:vs.length=k) :
  (loadCells ⟨b,off,none⟩ k).run P w=.ok vs.toArray w:=by
 subst hk;refine run_loadCells_list w _ vs fun j v hj => ?_
 rw [qYK,h j (by have:=(List.getElem?_eq_some_iff.1 hj).1; exact this),hj]
theorem zZF {t:TypeId} {x:Operand} {b off sz:Nat} {cs vs:List Value} {ty':TypeId} (id:Nat) (hT:tyB P t true sz=true) (hx:ev S x=some (.pointer (some ⟨b,off,none⟩)))
  (hH:qUE H id=some (b,cs,ty')) (hv:zYI cs off sz=some vs):OpV P w0 S H ⟨d,.load t x,ty,pos,af,g⟩ (.agg vs.toArray) :=
 yG (by simp [yQ,Op.operands,hx]) rfl fun w k=>by
  obtain ⟨e,hl⟩:=sliceV_spec hv;have hr:=qJU (P:=P) (w:=w) (b:=b) (off:=off) (k:=sz) (vs:=vs) (fun i hi=>by
   rw [qVH (k.at hH).2,e,vZU,if_pos hi,List.getElem?_drop]) (by rw [e]; simp; omega)
  simp [execOp,zQ hx,Instr.loadAt,Instr.sureAddr,loadVar,qUH hT,qJZ hT,hr]
theorem opV_load1_old {t:TypeId} {x:Operand} {b off:Nat} {v:Value} (hT:tyB P t false 1=true) (hx:ev S x=some (.pointer (some ⟨b,off,none⟩)))
  (hb:b < w0.w.heap.size) (hv:w0.w.cell? ⟨b,off,none⟩=some v):OpV P w0 S H ⟨d,.load t x,ty,pos,af,g⟩ v :=
 yG (by simp [yQ,Op.operands,hx]) rfl fun w k=>by
  have:w.cell? ⟨b,off,none⟩=some v:=by rw [k.grow.cell (p:=⟨b,off,none⟩) hb,hv]
  simp [execOp,zQ hx,Instr.loadAt,Instr.sureAddr,loadVar,qUH hT,this]
theorem opV_loadA_old {t:TypeId} {x:Operand} {b off sz:Nat} {vs:List Value} (hT:tyB P t true sz=true) (hx:ev S x=some (.pointer (some ⟨b,off,none⟩)))
  (hb:b < w0.w.heap.size) (hl:Nat.beq vs.length sz=true) (hv:∀ i,i < sz→w0.w.cell? ⟨b,off + i,none⟩=vs[i]?):OpV P w0 S H ⟨d,.load t x,ty,pos,af,g⟩ (.agg vs.toArray) :=
 yG (by simp [yQ,Op.operands,hx]) rfl fun w k=>by
  have hr:=qJU (P:=P) (w:=w) (b:=b) (off:=off) (k:=sz) (vs:=vs) (fun i hi=>by
   rw [k.grow.cell (p:=⟨b,off + i,none⟩) hb]; exact hv i hi) (vQU hl)
  simp [execOp,zQ hx,Instr.loadAt,Instr.sureAddr,loadVar,qUH hT,qJZ hT,hr]
theorem doL_new {o:Oper} {rest:List Oper} {dd:Nat} {cs:List Value} {ty':TypeId} (id:Nat) (hk:yQ S o=true) (hsel:zXX o=true) (hw:qZH ops S o=some true) (hd:o.dst=some dd) (hn:Nat.blt dd n=true)
  (hrun:∀ w,(execOp (evD S) o).run P w=.ok (.value (.pointer (some ⟨w.heap.size,0,none⟩))) (w.alloc (.cells cs.toArray ty')))
  (next:∀ b,DoL P n w0 ops Q rest ((dd,.pointer (some ⟨b,0,none⟩)) :: S) ((id,b,cs,ty') :: H)):DoL P n w0 ops Q (o :: rest) S H:=by
 intro a w f k;unfold wpList;rw [qZQ f hw,if_pos rfl];refine .inl ?_;unfold Oper.wp;rw [qXJ f hk hsel,hrun w];simp only [Oper.upon,hd];exact next _ _ _ (f.put hn _) (k.alloc id cs ty')
theorem doL_alloc {t:TypeId} {dd:Nat} {rest:List Oper} {z:Value} {cs:List Value} (id:Nat) (hz:qQW P t z) (hc:zHE z.cells.toList=some cs)
  (hw:qZH ops S ⟨some dd,.alloc t,ty,pos,af,g⟩=some true) (hn:Nat.blt dd n=true)
  (next:∀ b,DoL P n w0 ops Q rest ((dd,.pointer (some ⟨b,0,none⟩)) :: S) ((id,b,cs,t) :: H)):DoL P n w0 ops Q (⟨some dd,.alloc t,ty,pos,af,g⟩ :: rest) S H :=
 doL_new id (by simp [yQ,Op.operands]) rfl hw rfl hn (fun _=>by
  have:=copyV_spec hc
  subst this;simp [execOp,Instr.alloc,qVF hz,newVar,newRow]) next
theorem doL_box {t:TypeId} {dd:Nat} {rest:List Oper} {x:Operand} {v:Value} {cs:List Value} (id:Nat) (hx:ev S x=some v) (hc:zHE v.cells.toList=some cs)
  (hw:qZH ops S ⟨some dd,.box t x,ty,pos,af,g⟩=some true) (hn:Nat.blt dd n=true)
  (next:∀ b,DoL P n w0 ops Q rest ((dd,.pointer (some ⟨b,0,none⟩)) :: S) ((id,b,cs,t) :: H)):DoL P n w0 ops Q (⟨some dd,.box t x,ty,pos,af,g⟩ :: rest) S H :=
 doL_new id (by simp [yQ,Op.operands,hx]) rfl hw rfl hn (fun _=>by
  have:=copyV_spec hc
  subst this;simp [execOp,Instr.box,zQ hx,newVar,newRow]) next
theorem qYE {s f off off':Nat} {x:Operand} {b:Nat} (hF:zXA P s f off'=true) (hx:ev S x=some (.pointer (some ⟨b,off,none⟩))) :
  OpV P w0 S H ⟨d,.fieldAddr s x f,ty,pos,af,g⟩ (.pointer (some ⟨b,off + off',none⟩)) :=
 yG (by simp [yQ,Op.operands,hx]) rfl fun w _=>by
  unfold zXA at hF;cases hu:P.underlying s with
  | none=>simp [hu] at hF
  | some ds =>
   cases ds <;> simp [hu] at hF
   rename_i fields;cases hf:fields[f]? with
   | none=>simp [hf] at hF
   | some fld =>
    simp [hf] at hF;obtain ⟨h1,h2⟩:=hF;cases hi:P.info? fld.type with
    | none=>simp [hi] at h2
    | some i =>
     simp [hi] at h2;subst h1;simp [execOp,zQ hx,Instr.fieldAt,Instr.sureAddr,run_underlying hu,hf,fieldPlace,sizeOf,typeInfo,hi,h2,qYK]
theorem opV_indexAddr {t len size off:Nat} {x y:Operand} {b:Nat} {k:IntKind} {i:Int} (hA:arrB P t len size=true) (hx:ev S x=some (.pointer (some ⟨b,off,none⟩)))
  (hy:ev S y=some (.int k i)) (h0:0≤i) (h1:i < len):OpV P w0 S H ⟨d,.indexAddr t x y,ty,pos,af,g⟩ (.pointer (some ⟨b,off + i.toNat * size,none⟩)) :=
 yG (by simp [yQ,Op.operands,hx,hy]) rfl fun w _=>by
  unfold arrB at hA;cases hu:P.underlying t with
  | none=>simp [hu] at hA
  | some ds =>
   cases ds <;> simp [hu] at hA
   rename_i l e;obtain ⟨rfl,h2⟩:=hA;cases hi:P.info? e with
   | none=>simp [hi] at h2
   | some inf =>
    simp [hi] at h2;subst h2;simp [execOp,zQ hx,zQ hy,Instr.indexAt,Instr.sureAddr,asIntOf,run_underlying hu,h0,h1,sizeOf,typeInfo,hi,qYK]
theorem qJJ {t e size off len cap:Nat} {x y:Operand} {b:Nat} {k:IntKind} {i:Int} (hA:slcB P t e size=true) (hx:ev S x=some (.slice (some ⟨b,off,none⟩) len cap))
  (hy:ev S y=some (.int k i)) (h0:0≤i) (h1:i < len):OpV P w0 S H ⟨d,.indexAddr t x y,ty,pos,af,g⟩ (.pointer (some ⟨b,off + i.toNat * size,none⟩)) :=
 yG (by simp [yQ,Op.operands,hx,hy]) rfl fun w _=>by
  unfold slcB at hA;cases hu:P.underlying t with
  | none=>simp [hu] at hA
  | some ds =>
   cases ds <;> simp [hu] at hA
   rename_i e';obtain ⟨rfl,h2⟩:=hA;cases hi:P.info? e' with
   | none=>simp [hi] at h2
   | some inf =>
    simp [hi] at h2;subst h2;simp [execOp,zQ hx,zQ hy,Instr.indexAt,asIntOf,run_underlying hu,h0,h1,sizeOf,typeInfo,hi,qYK]
theorem opV_len_slice {t e size:Nat} {x:Operand} {a:Option Addr} {len cap:Nat} (hA:slcB P t e size=true) (hx:ev S x=some (.slice a len cap)) :
  OpV P w0 S H ⟨d,.call ⟨.builtin .len,#[x],#[t]⟩,ty,pos,af,g⟩ (.int .i64 (len:Int)) :=
 yG (by simp [yQ,Op.operands,Call.operands,hx]) rfl fun w _=>by
  unfold slcB at hA;cases hu:P.underlying t with
  | none=>simp [hu] at hA
  | some ds =>
   cases ds <;> simp [hu] at hA
   simp [execOp,resolve,invoke,builtin,zQ hx,Builtin.len_,run_underlying hu,goInt]
theorem opV_extract {x:Operand} {vs:Array Value} {i:Nat} {v:Value} (hx:ev S x=some (.tuple vs)) (hv:vs[i]? = some v):OpV P w0 S H ⟨d,.extract x i,ty,pos,af,g⟩ v :=
 yG (by simp [yQ,Op.operands,hx]) rfl fun w _=>by simp [execOp,zQ hx,Instr.extract,hv]
end
end Go.Sx
namespace Go.Sx
open Go.RowKit
def Rets (v:Value) (w:World) (e:Ending) (w':World):Prop:=e=.returned v∧Grow w w'
def RetsT (T:Value→World→Prop) (w:World) (e:Ending) (w':World):Prop:=∃ v,e=.returned v∧Grow w w'∧T v w'
def kJ (P:Program) (f:FuncId):Prop:=∀ args w,(callFunc f args).run P w=.ok (.enter f args) w
theorem kQ {P:Program} {f:FuncId} {fn:Func} (hf:P.funcs[f]? = some fn) (h1:(fn.name == "runtime.NumGoroutine")=false) (h2:fn.body.isNone=false):kJ P f:=by
 intro args w;have h1':¬ fn.name = "runtime.NumGoroutine" := by simpa using h1
 have h2':¬ fn.body=none:=fun e=>by simp [e] at h2
 simp only [callFunc,program,Sem.run_bind];simp [Sem.run,hf,h1',h2']
section
variable {P:Program} {n:Nat} {w0:Base} {ops:Array Oper} {Q:Exit→Act→World→Prop} {S:yY} {H:Heap}
variable {d:Option Tmp} {ty:TypeId} {pos:String} {af:Array Edge} {g:Option (Nat × Bool)}
theorem qWE {xs:List Operand} {vs:List Value} (h:evs S xs=some vs):xs.map (evD S)=vs∧∀ x ∈ xs,(ev S x).isSome=true:=by
 induction xs generalizing vs with
 | nil=>simp [evs] at h; simp [h]
 | cons x xs ih =>
  simp only [evs] at h;cases hx:ev S x with
  | none=>simp [hx] at h
  | some v =>
   simp only [hx] at h;obtain ⟨ws,hw,rfl⟩:=kK h;obtain ⟨e,ha⟩:=ih hw;refine ⟨by simp [zQ hx,e],fun y hy => ?_⟩;rcases List.mem_cons.1 hy with rfl | hy
   ·simp [hx]
   ·exact ha y hy
theorem opT_call {f:FuncId} {xs:List Operand} {ats:Array TypeId} {vs:List Value} {T:Value→World→Prop} (he:kJ P f) (ha:evs S xs=some vs)
  (hc:∀ w,Knows w0 H w→Calls P f vs.toArray w (RetsT T w)):OpT P w0 S H ⟨d,.call ⟨.value (.func f),xs.toArray,ats⟩,ty,pos,af,g⟩ T:=by
 obtain ⟨e,hk⟩:=qWE ha;refine ⟨?_,rfl,fun w k => ?_⟩
 ·simp only [yQ,Op.operands,Call.operands];rw [vZH];intro x hx;simp at hx;rcases hx with rfl | hx
  ·rfl
  ·exact hk x hx
 ·have hrun:(execOp (evD S) ⟨d,.call ⟨.value (.func f),xs.toArray,ats⟩,ty,pos,af,g⟩).run P w=.ok (.enter f vs.toArray) w:=by
   have h2:evD S (.func f)=.func (.func f) #[] #[]:=rfl;have h3:=he vs.toArray w;simp [execOp,resolve,h2,Deferred.ofValue,invoke,e,h3]
  rw [hrun];exact ⟨Grow.refl _,(hc w k).mono fun _ _ h=>h⟩
theorem opV_call {f:FuncId} {xs:List Operand} {ats:Array TypeId} {vs:List Value} {v:Value} (he:kJ P f) (ha:evs S xs=some vs)
  (hc:∀ w,Knows w0 H w→Calls P f vs.toArray w (Rets v w)):OpV P w0 S H ⟨d,.call ⟨.value (.func f),xs.toArray,ats⟩,ty,pos,af,g⟩ v :=
 opT_call he ha fun w k=>(hc w k).mono fun _ _ h=>⟨v,h.1,h.2,rfl⟩
theorem doL_t {o:Oper} {rest:List Oper} {T:Value→World→Prop} {dd:Nat} (ho:OpT P w0 S H o T) (hw:qZH ops S o=some true) (hd:o.dst=some dd) (hn:Nat.blt dd n=true)
  (next:∀ v a w,Fits n ((dd,v) :: S) a→Knows w0 H w→T v w→wpList P ops Q rest a w):DoL P n w0 ops Q (o :: rest) S H :=
 doL_op hw ho fun a w w' v f k gr ht=>by
  rw [hd];exact next v _ _ (f.put hn _) (k.next gr) ht
def initS:Nat→List Value→yY
 | _,[]=>[]
 | k,v :: vs=>(k,v) :: initS (k + 1) vs
theorem look_initS {vs:List Value} {k t:Nat} {v:Value} (h:look (initS k vs) t=some v):k≤t∧vs[t - k]? = some v:=by
 induction vs generalizing k with
 | nil=>cases h
 | cons u vs ih =>
  simp only [initS] at h;by_cases e:k=t
  ·subst e; rw [qQC] at h; simpa using h
  ·rw [qZU _ _ e] at h;obtain ⟨h1,h2⟩:=ih h;refine ⟨by omega,?_⟩;rw [show t - k=(t - (k + 1)) + 1 by omega]
   simpa using h2
theorem kY {f:FuncId} {fn:Func} {c:Code} {args:List Value} {w:World} {R:Ending→World→Prop} (hf:P.funcs[f]? = some fn) (hb:fn.body=some c) (hn:fn.ntmps=n)
  (hle:Nat.ble args.length n=true) (h:DoC P n ⟨w,[]⟩ (bodyPost P fn R) c (initS 0 args) []):Calls P f args.toArray w R:=by
 have hle':args.length≤n:=vZJ hle;refine calls_of_wp hf hb (h _ _ ⟨by simp [hn]; omega,rfl,fun t v ht => ?_⟩ (Knows.nil (Grow.refl _)));obtain ⟨_,h2⟩:=look_initS ht;have hlt:=(List.getElem?_eq_some_iff.1 h2).1;simp at hlt;simp only [Nat.sub_zero] at h2;simp [Array.getElem?_append,hlt];rw [vQK hlt] at h2
 simpa using h2
def yYF (P:Program) (S:yY) (H:Heap):ResultVar→Value→Prop
 | .tmp t,v=>look S t=some v
 | .cell a t,v=>∃ b cs ty id,look S a=some (.pointer (some ⟨b,0,none⟩))∧qUE H id=some (b,cs,ty)∧tyB P t true cs.length=true∧v=.agg cs.toArray
def zJV (P:Program) (S:yY) (H:Heap):List ResultVar→List Value→Prop
 | [],[]=>True
 | r :: rs,v :: vs=>yYF P S H r v∧zJV P S H rs vs
 | _,_=>False
theorem kV {t:Nat} {v:Value} (h:look S t=some v):yYF P S H (.tmp t) v:=h
theorem resN:zJV P S H [] []:=trivial
theorem resC {r:ResultVar} {rs:List ResultVar} {v:Value} {vs:List Value} (h:yYF P S H r v) (hs:zJV P S H rs vs):zJV P S H (r :: rs) (v :: vs):=⟨h,hs⟩
def resF (tmps:Array Value):ResultVar→Sem Value
 | .tmp t=>pure (tmps.getD t undef)
 | .cell x t=>do loadVar t (← asAddr (tmps.getD x undef))
theorem run_res {a:Act} {w:World} (f:Fits n S a) (k:Knows w0 H w) {r:ResultVar} {v:Value} (h:yYF P S H r v):(resF a.tmps r).run P w=.ok v w:=by
 cases r with
 | tmp t =>
  have:=f.has t v h
  simp [resF,Array.getD_eq_getD_getElem?,this]
 | cell x t =>
  obtain ⟨b,cs,ty,id,h1,h2,h3,rfl⟩:=h
  have:=f.has _ _ h1
  have hr:=qJU (P:=P) (w:=w) (b:=b) (off:=0) (k:=cs.length) (vs:=cs) (fun i _=>by rw [qVH (k.at h2).2]; simp) rfl;simp [resF,Array.getD_eq_getD_getElem?,this,asAddr,loadVar,qUH h3,qJZ h3,hr]
theorem run_results {a:Act} {w:World} (f:Fits n S a) (k:Knows w0 H w):∀ {rs:List ResultVar} {vs:List Value},zJV P S H rs vs →
  (rs.mapM (resF a.tmps)).run P w=.ok vs w
 | [],[],_=>by simp
 | r :: rs,v :: vs,h=>by
  have h1:=run_res f k h.1;have h2:=run_results f k h.2;simp [List.mapM_cons,Sem.run_bind,h1,h2]
 | [],_ :: _,h=>h.elim
 | _ :: _,[],h=>h.elim
def valOf:List Value→Value
 | [v]=>v
 | vs=>.tuple vs.toArray
theorem uH {fn:Func} {R:Ending→World→Prop} {rs:List ResultVar} {vs:List Value} {v:Value} (hr:fn.results=rs.toArray) (hv:zJV P S H rs vs) (hval:valOf vs=v)
  (hR:∀ w,Knows w0 H w→R (.returned v) w):qUY n w0 (bodyPost P fn R) .ret S H:=by
 intro a w f k;refine ⟨f.defers,v,?_,hR w k⟩;have h:=run_results f k hv;unfold results;rw [hr];change Sem.run P (do let us ← rs.toArray.mapM (resF a.tmps); pure (if h:us.size=1 then us[0] else .tuple us)) w=_;simp only [Sem.run_bind,List.mapM_toArray,Sem.run_map,h,Result.andThen_ok];subst hval
 match vs with
 | []=>rfl
 | [v]=>rfl
 | v :: u :: vs=>simp [valOf]
def zYZ (ks:List Nat):yY→Option yY
 | []=>some []
 | (k,v) :: S=>bif ks.any (Nat.beq k) then qXD (k,v) (zYZ (ks.filter fun x => !Nat.beq k x) S) else zYZ ks S
theorem qHC {ks:List Nat} {S S':yY} (h:zYZ ks S=some S'):∀ t v,look S' t=some v→look S t=some v∧t ∈ ks:=by
 induction S generalizing ks S' with
 | nil=>simp [zYZ] at h; subst h; intro t v ht; cases ht
 | cons x S ih =>
  obtain ⟨k,u⟩:=x;intro t v ht;simp only [zYZ] at h;cases hb:ks.any (Nat.beq k) with
  | true =>
   rw [hb] at h;obtain ⟨S2,h2,rfl⟩:=kK h;by_cases e:k=t
   ·subst e;rw [qQC] at ht ⊢;obtain ⟨y,hy,he⟩:=List.any_eq_true.1 hb;rw [vQU he];exact ⟨ht,hy⟩
   ·rw [qZU _ _ e] at ht ⊢;obtain ⟨h3,h4⟩:=ih h2 t v ht;exact ⟨h3,(List.mem_filter.1 h4).1⟩
  | false =>
   rw [hb] at h; simp at h;obtain ⟨h3,h4⟩:=ih h t v ht;have e:k ≠ t:=fun e=>by
    subst e
    have:=List.any_eq_false.1 hb k h4
    simp at this
   exact ⟨by rw [qZU _ _ e]; exact h3,h4⟩
theorem Fits.keep {ks:List Nat} {S':yY} {a:Act} (f:Fits n S a) (h:zYZ ks S=some S'):Fits n S' a :=
 ⟨f.size,f.defers,fun t v ht=>f.has t v (qHC h t v ht).1⟩
def zWI (ks:List Nat):Heap→Option Heap
 | []=>some []
 | (k,x) :: H=>bif ks.any (Nat.beq k) then qXD (k,x) (zWI ks H) else zWI ks H
theorem zYY {ks:List Nat} {H H':Heap} (h:zWI ks H=some H'):H'.Sublist H:=by
 induction H generalizing H' with
 | nil=>simp [zWI] at h; subst h; exact List.nil_sublist _
 | cons x H ih =>
  obtain ⟨k,x⟩:=x;simp only [zWI] at h;cases hb:ks.any (Nat.beq k) with
  | true =>
   rw [hb] at h;obtain ⟨H2,h2,rfl⟩:=kK h;exact (ih h2).cons_cons _
  | false=>rw [hb] at h; simp at h; exact (ih h).cons _
theorem Knows.keep {ks:List Nat} {H':Heap} {w:World} (k:Knows w0 H w) (h:zWI ks H=some H'):Knows w0 H' w :=
 ⟨k.grow,fun x hx=>k.has x ((zYY h).mem hx),((zYY h).map _).nodup k.nodup,fun F hF=>(k.facts F hF).heap fun x hx=>.inl ⟨x,(zYY h).mem hx,rfl⟩,k.apart⟩
end
end Go.Sx
namespace Go.Sx
open Go.RowKit
abbrev Pred:=Value→World→Prop
def Stable (T:Pred):Prop:=∀ v w w',T v w→Grow w w'→T v w'
def isV (v:Value):Pred:=fun u _=>u=v
abbrev qJW:=List (Nat × Bool × Pred)
def yJH:qJW→Nat→Option Pred
 | [],_=>none
 | (k,_,T) :: G,t=>bif Nat.beq k t then some T else yJH G t
section
variable {P:Program} {n:Nat} {w0:Base} {ops:Array Oper} {Q:Exit→Act→World→Prop} {H:Heap}
def yZQ (S:yY) (G:qJW) (a:Act) (w:World) (t:Nat):Prop :=
 (∀ v,look S t=some v→a.tmps[t]? = some v)∧(∀ T,yJH G t=some T→∃ u,a.tmps[t]? = some u∧T u w)
def OpA (P:Program) (n:Nat) (w0:Base) (ops:Array Oper) (H:Heap) (S:yY) (G:qJW) (o:Oper) (T:Pred):Prop :=
 ∀ a w,a.tmps.size=n→(∀ t ∈ o.looksAt ops,yZQ S G a w t)→Knows w0 H w →
  (if Region.wanted o (yielded ops a.tmps) then Yields P w T ((execOp a.eval o).run P w) else T undef w)
def Allocs (P:Program) (n:Nat) (w0:Base) (ops:Array Oper) (H:Heap) (S:yY) (G:qJW) (o:Oper):Prop :=
 ∀ a w,a.tmps.size=n→(∀ t ∈ o.looksAt ops,yZQ S G a w t)→Knows w0 H w →
  Region.wanted o (yielded ops a.tmps)=true∧∃ ob,(execOp a.eval o).run P w=.ok (.value (.pointer (some ⟨w.heap.size,0,none⟩))) (w.alloc ob)
def PtrIn (H:Heap) (T:Pred):Prop:=∀ u w,T u w→∃ b,u=.pointer (some ⟨b,0,none⟩)∧b < w.heap.size∧∀ x ∈ H,x.2.1 ≠ b
structure Cert where
 d:Nat
 T:Pred
 al:Bool
 S:yY
 G:qJW
structure CertOk (P:Program) (n:Nat) (w0:Base) (ops:Array Oper) (H:Heap) (o:Oper) (c:Cert):Prop where
 dst:o.dst=some c.d
 lt:c.d < n
 nosel:zXX o=true
 stable:Stable c.T
 op:OpA P n w0 ops H c.S c.G o c.T
 al:c.al=true→Allocs P n w0 ops H c.S c.G o∧PtrIn H c.T
structure Stems (S0:yY) (cs:List Cert) (S:yY) (G:qJW):Prop where
 slots:∀ t v,look S t=some v→(∃ c ∈ cs,c.d=t∧c.T=isV v) ∨ (look S0 t=some v∧∀ c ∈ cs,c.d ≠ t)
 ghosts:∀ t T,yJH G t=some T→∃ c ∈ cs,c.d=t∧c.T=T
def qKX (listed:Array Bool):Nat→Nat
 | 0=>0
 | k + 1=>qKX listed k + (if listed.getD k true then 0 else 1)
theorem undone_set_ge {listed:Array Bool} {i:Nat}:∀ {N:Nat},N≤i→qKX (listed.setIfInBounds i true) N=qKX listed N
 | 0,_=>rfl
 | k + 1,h=>by
  simp only [qKX];rw [undone_set_ge (by omega),getD_set_ne true (by omega)]
theorem undone_set {listed:Array Bool} {i:Nat} (hi:listed.getD i true=false):∀ {N:Nat},i < N→qKX listed N=qKX (listed.setIfInBounds i true) N + 1
 | 0,h=>by omega
 | k + 1,h=>by
  have hlt:i < listed.size:=by
   rcases Nat.lt_or_ge i listed.size with h' | h'
   ·exact h'
   ·simp [Array.getElem?_eq_none h'] at hi
  simp only [qKX];by_cases e:i=k
  ·subst e;rw [undone_set_ge (Nat.le_refl _),hi];simp [hlt]
  ·rw [undone_set hi (show i < k by omega),getD_set_ne true e];omega
theorem qVK {listed:Array Bool}:∀ {N:Nat},qKX listed N=0→∀ i,i < N→listed.getD i true=true
 | 0,_,i,hi=>by omega
 | k + 1,h,i,hi=>by
  simp only [qKX] at h;by_cases e:i=k
  ·subst e;cases hb:listed.getD i true with
   | true=>rfl
   | false=>rw [hb] at h; simp at h
  ·exact qVK (N:=k) (by omega) i (by omega)
theorem undone_first {listed:Array Bool}:∀ {N:Nat},qKX listed N ≠ 0→∃ i,i < N∧listed.getD i true=false∧∀ j,j < i→listed.getD j true=true
 | 0,h=>absurd rfl h
 | k + 1,h=>by
  by_cases hk:qKX listed k=0
  ·refine ⟨k,by omega,?_,fun j hj=>qVK hk j hj⟩;simp only [qKX,hk] at h;cases hb:listed.getD k true with
   | false=>rfl
   | true=>rw [hb] at h; simp at h
  ·obtain ⟨i,hi,h1,h2⟩:=undone_first hk;exact ⟨i,by omega,h1,h2⟩
def backB (ops:Array Oper):Bool:=(List.range ops.size).all fun i=>match ops[i]? with
 | some o=>o.after.all fun e => !Region.binds .any e || decide (e.on < i)
 | none=>true
structure Inv (S0:yY) (w0:Base) (n:Nat) (H:Heap) (cs:List Cert) (listed:Array Bool) (a:Act) (w:World):Prop where
 size:a.tmps.size=n
 defers:a.defers=[]
 old:∀ t v,look S0 t=some v→(∀ i c,cs[i]? = some c→c.d=t→listed.getD i false=false)→a.tmps[t]? = some v
 done:∀ i c,cs[i]? = some c→listed.getD i false=true→∃ u,a.tmps[c.d]? = some u∧c.T u w
 apart:∀ i j c c',cs[i]? = some c→cs[j]? = some c'→i ≠ j→c.al=true→c'.al=true→listed.getD i false=true→listed.getD j false=true→a.tmps[c.d]? ≠ a.tmps[c'.d]?
 knows:Knows w0 H w
variable {S0:yY}
variable {S:yY} {G:qJW} {K:yY→qJW→Prop} {o:Oper} {l:List Oper} {d:Nat}
variable {tl:List Oper} {F:World→Prop}
end
end Go.Sx
